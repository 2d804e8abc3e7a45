/-
  Library, plain laws and walks that the statements reach (joined by a program out of smaller texts).
-/
import Derived.WalkKit
import Derived.WalkLawsBesides
import Derived.OneCell
import Derived.Lib.Strings
import Derived.Maps.AppendAt
import Derived.Deep.Quiet
import Derived.Maps.RangeWalk
import Derived.Maps.OwnSet
import Derived.Lib.Bytealg
import Derived.OrdersHeld
import Derived.Deep.RegionHeld3
import Derived.Laws.MakeOwn
import Derived.Laws.Externs
import Derived.Deep.Slices
import Derived.SizedLaws
import Derived.ProofKit
import Derived.Lib.AppendStr
import Derived.Lib.AppendZeros
import Derived.Laws.IdiomStrings
import Derived.Laws.Bits64
import Derived.Sort.OwnSorted
import Derived.Sort.OwnSortedInts
set_option linter.unusedVariables false
set_option linter.unusedSimpArgs false
namespace Go.Vc
theorem η {p : Prop} (h : p := by exact rfl) : p := h
theorem ζ {p : Prop} (h : p := by kernel_rfl) : p := h
theorem ω {p : Prop} (h : p := by omega) : p := h
theorem θ {p : Prop} (h : p := by simp; omega) : p := h
theorem δ {p : Prop} (h : p := by first | assumption | omega | (dsimp only; omega) | (simp; done)) : p := h
theorem ε {p q : Prop} (h : p ∨ q := by first | exact .inl (by omega) | exact .inr (by simp)) : p ∨ q := h
theorem τ {p : Prop} (h : p := by first | omega | (simp; omega)) : p := h
theorem κ {p : Prop} (h : p := by assumption) : p := h
theorem χ {p : Prop} (h : p := by first | exact rfl | omega) : p := h
theorem υ {p : Prop} (h : p := by decide) : p := h
theorem ξ {p : Prop} (h : p := by first | exact rfl | (show _ = List.toArray [_, _, _]; first | (dsimp only; done) | exact rfl | (dsimp only; exact rfl))) : p := h
theorem ξ₁ {p : Prop} (h : p := by first | exact rfl | (show _ = List.toArray [_]; first | (dsimp only; done) | exact rfl | (dsimp only; exact rfl))) : p := h
theorem ξ₂ {p : Prop} (h : p := by first | exact rfl | (show _ = List.toArray [_, _]; first | (dsimp only; done) | exact rfl | (dsimp only; exact rfl))) : p := h
theorem μ {p : Prop} (h : p := by first | omega | (simp; done) | (simp; omega)) : p := h
theorem ν {p : Prop} (h : p := by first | omega | (simp only [List.length_append]; omega)) : p := h
end Go.Vc
namespace Go.Vc
open Go Go.RowKit
abbrev Fr := Nat → Value
@[reducible] def upd (f : Fr) (i : Nat) (v : Value) : Fr := fun j => bif Nat.beq j i then v else f j
@[reducible] def updo (f : Fr) (d : Option Nat) (v : Value) : Fr := match d with | some i => upd f i v | none => f
@[reducible] def opv (f : Fr) : Operand → Value
  | .tmp t => f t
  | .const v => v
  | .global g => .pointer (some ⟨g, 0, none⟩)
  | .func g => .func (.func g) #[] #[]
structure Is (n : Nat) (f : Fr) (a : Act) : Prop where
  size : a.tmps.size = n
  get : ∀ i, a.tmps.getD i undef = f i
  defers : a.defers = []
theorem Is.eval {n : Nat} {f : Fr} {a : Act} (h : Is n f a) : a.eval = opv f := by
  funext x
  cases x with
  | tmp t => exact h.get t
  | const v => rfl
  | global g => rfl
  | func g => rfl
theorem En (f : Fr) (i : Nat) (v : Value) : upd f i v i = v := by simp [upd]
theorem Vv {j i : Nat} (h : j ≠ i) : Nat.beq j i = false := by
  cases e : Nat.beq j i
  · rfl
  · exact absurd (Nat.eq_of_beq_eq_true e) h
theorem FA (f : Fr) (i j : Nat) (v : Value) (h : j ≠ i) : upd f i v j = f j := by simp only [upd, Vv h, cond_false]
theorem Is.put {n : Nat} {f : Fr} {a : Act} (h : Is n f a) {d : Nat} (o : Nat.blt d n = true) (v : Value) : Is n (upd f d v) (a.put (some d) v) := by
  have j : d < n := by simpa using o
  refine ⟨by simp [Act.put, h.size], fun i => ?_, h.defers⟩
  have C := h.get i
  simp only [Act.put, Array.getD_eq_getD_getElem?] at *
  by_cases e : i = d
  · subst e
    simp [upd, h.size, j]
  · rw [FA _ _ _ _ e, Array.getElem?_setIfInBounds_ne (Ne.symm e)]
    exact C
theorem Is.know {n : Nat} {f : Fr} {a : Act} (h : Is n f a) {i : Nat} {v : Value} (o : f i = v) : Is n (upd f i v) a := by
  refine ⟨h.size, fun j => ?_, h.defers⟩
  by_cases e : j = i
  · subst e; rw [En, h.get, o]
  · rw [FA _ _ _ _ e]; exact h.get j
inductive Kont where
  | code (c : Code)
  | blk (id : Nat)
  | stop (I : Act → World → Prop)
section
variable (P : Program) (B : Exit → Act → World → Prop)
def Kx : List Kont → Exit → Act → World → Prop
  | [], e, a, w => B e a w
  | .code c :: k, .normal, a, w => c.wp P (Kx k) a w
  | .code _ :: k, .exit i, a, w => Kx k (.exit i) a w
  | .code _ :: k, .goto i, a, w => Kx k (.goto i) a w
  | .code _ :: k, .ret, a, w => Kx k .ret a w
  | .code _ :: k, .panic c, a, w => Kx k (.panic c) a w
  | .code _ :: k, .outgrown, a, w => Kx k .outgrown a w
  | .blk _ :: k, .normal, a, w => Kx k .normal a w
  | .blk id :: k, .exit i, a, w => if i = id then Kx k .normal a w else Kx k (.exit i) a w
  | .blk _ :: k, .goto i, a, w => Kx k (.goto i) a w
  | .blk _ :: k, .ret, a, w => Kx k .ret a w
  | .blk _ :: k, .panic c, a, w => Kx k (.panic c) a w
  | .blk _ :: k, .outgrown, a, w => Kx k .outgrown a w
  | .stop I :: _, .normal, a, w => I a w
  | .stop _ :: k, .exit i, a, w => Kx k (.exit i) a w
  | .stop _ :: k, .goto i, a, w => Kx k (.goto i) a w
  | .stop _ :: k, .ret, a, w => Kx k .ret a w
  | .stop _ :: k, .panic c, a, w => Kx k (.panic c) a w
  | .stop _ :: k, .outgrown, a, w => Kx k .outgrown a w
variable (n : Nat)
def KF (k : List Kont) (f : Fr) (w : World) : Prop := ∀ a, Is n f a → Kx P B k .normal a w
def KL (ops : Array Oper) (k : List Kont) (l : List Oper) (f : Fr) (w : World) : Prop := ∀ a, Is n f a → wpList P ops (Kx P B k) l a w
end
@[reducible] def exitK (id : Nat) : List Kont → Option (List Kont)
  | [] => none
  | .blk i :: k => bif Nat.beq i id then some k else exitK id k
  | .code _ :: k => exitK id k
  | .stop _ :: k => exitK id k
section rules
variable {P : Program} {B : Exit → Act → World → Prop} {n : Nat} {k : List Kont} {f : Fr} {w : World}
theorem AE {x y : Code} (h : KF P B n (.code x :: .code y :: k) f w) : KF P B n (.code (.seq x y) :: k) f w := by
  intro a ha
  show (Code.seq x y).wp P (Kx P B k) a w
  exact wp_seq (wp_mono (h a ha) (by intro e a w j; cases e <;> exact j))
theorem AJ (h : KF P B n k f w) : KF P B n (.code .skip :: k) f w := fun a j => wp_skip (h a j)
theorem AK {id : Nat} {c : Code} (h : KF P B n (.code c :: .blk id :: k) f w) : KF P B n (.code (.block id c) :: k) f w := by
  intro a ha
  show (Code.block id c).wp P (Kx P B k) a w
  exact wp_block (wp_mono (h a ha) (by intro e a w j; cases e <;> exact j))
theorem AX {id : Nat} (h : KF P B n k f w) : KF P B n (.blk id :: k) f w := h
theorem MN {id : Nat} {k' : List Kont} {a : Act} : ∀ {k : List Kont}, exitK id k = some k' → Kx P B k' .normal a w → Kx P B k (.exit id) a w
  | [], h, _ => by cases h
  | .blk i :: k, h, hq => by
    by_cases e : id = i
    · subst e
      simp only [exitK, Nat.beq_refl, cond_true, Option.some.injEq] at h
      subst h
      simp only [Kx, if_true]
      exact hq
    · have e' : Nat.beq i id = false := Vv (Ne.symm e)
      simp only [exitK, e', cond_false] at h
      simp only [Kx, if_neg e]
      exact MN h hq
  | .code _ :: k, h, hq => by
    simp only [Kx]
    exact MN (k := k) h hq
  | .stop _ :: k, h, hq => by
    simp only [Kx]
    exact MN (k := k) h hq
theorem Ak {id : Nat} {j : List Kont} (hk : exitK id k = some j) (h : KF P B n j f w) : KF P B n (.code (.exit id) :: k) f w := fun a o => wp_exit (MN hk (h a o))
theorem Q0 {a : Act} (h : B .ret a w) : ∀ (k : List Kont), Kx P B k .ret a w
  | [] => h
  | .blk _ :: k => by simp only [Kx]; exact Q0 h k
  | .code _ :: k => by simp only [Kx]; exact Q0 h k
  | .stop _ :: k => by simp only [Kx]; exact Q0 h k
theorem AH {c : Operand} {x y : Code} {p : Prop} [Decidable p] (o : opv f c = .bool (decide p)) (I : p → KF P B n (.code x :: k) f w) (C : ¬ p → KF P B n (.code y :: k) f w) :
    KF P B n (.code (.cond c x y) :: k) f w := by
  intro a ha
  have he : a.eval c = .bool (decide p) := by rw [ha.eval]; exact o
  by_cases j : p
  · exact wp_cond_true (by rw [he]; simp [j]) (I j a ha)
  · exact wp_cond_false (by rw [he]; simp [j]) (C j a ha)
theorem JB {c : Operand} {x y : Code} {b : Bool} (j : opv f c = .bool b) (C : b = true → KF P B n (.code x :: k) f w) (o : b = false → KF P B n (.code y :: k) f w) :
    KF P B n (.code (.cond c x y) :: k) f w := by
  intro a ha
  have he : a.eval c = .bool b := by rw [ha.eval]; exact j
  cases b
  · exact wp_cond_false he (o rfl a ha)
  · exact wp_cond_true he (C rfl a ha)
theorem DY {c : Operand} {x y : Code} (o : opv f c = .bool true) (h : KF P B n (.code x :: k) f w) : KF P B n (.code (.cond c x y) :: k) f w :=
  fun a j => wp_cond_true (by rw [j.eval]; exact o) (h a j)
theorem Dm {c : Operand} {x y : Code} (o : opv f c = .bool false) (h : KF P B n (.code y :: k) f w) : KF P B n (.code (.cond c x y) :: k) f w :=
  fun a j => wp_cond_false (by rw [j.eval]; exact o) (h a j)
theorem dS {i : Nat} {v : Value} (o : f i = v) (h : KF P B n k (upd f i v) w) : KF P B n k f w := fun a j => h a (j.know o)
theorem UF {c : Code} {α : Type} (J : α → Act → World → Prop) (μ : α → Nat) (x0 : α) {a0 : Act} {w0 : World} (h0 : J x0 a0 w0)
    (round : ∀ x a w, J x a w → Kx P B (.code c :: .stop (fun R w' => ∃ U, μ U < μ x ∧ J U R w') :: k) .normal a w) : Kx P B (.code (.loop c) :: k) .normal a0 w0 := by
  show (Code.loop c).wp P (Kx P B k) a0 w0
  have o : ∀ a w, (∃ x, J x a w) → ∃ x, J x a w ∧ ∀ y, J y a w → μ x ≤ μ y := by
    intro a w ⟨x, hx⟩
    have key : ∀ m x, μ x = m → J x a w → ∃ x, J x a w ∧ ∀ y, J y a w → μ x ≤ μ y := by
      intro m
      induction m using Nat.strongRecOn with
      | _ m ih =>
        intro x hm hx
        by_cases hex : ∃ y, J y a w ∧ μ y < μ x
        · obtain ⟨y, hy, C⟩ := hex
          exact ih (μ y) (hm ▸ C) y rfl hy
        · exact ⟨x, hx, fun y hy => Nat.le_of_not_lt fun C => hex ⟨y, hy, C⟩⟩
    exact key _ x rfl hx
  let ν : Act → World → Nat := fun a w => open Classical in if h : ∃ x, J x a w then μ (o a w h).choose else 0
  refine wp_loop (fun a w => ∃ x, J x a w) ν ⟨x0, h0⟩ ?_
  intro a w hI
  have hx := (o a w hI).choose_spec
  have au : ν a w = μ (o a w hI).choose := by simp only [ν, dif_pos hI]
  refine wp_mono (round _ a w hx.1) ?_
  intro e R w' hq
  cases e with
  | normal =>
    obtain ⟨U, C, hJ⟩ := hq
    refine ⟨⟨U, hJ⟩, ?_⟩
    have I : ∃ x, J x R w' := ⟨U, hJ⟩
    have ag : ν R w' = μ (o R w' I).choose := by simp only [ν, dif_pos I]
    rw [au, ag]
    exact Nat.lt_of_le_of_lt ((o R w' I).choose_spec.2 U hJ) C
  | exit i => exact hq
  | goto i => exact hq
  | ret => exact hq
  | panic c => exact hq
  | outgrown => exact hq
@[reducible] def elemN (i : Nat) : List Nat → Bool
  | [] => false
  | j :: r => bif Nat.beq i j then true else elemN i r
def Agree (M : List Nat) (f g : Fr) : Prop := ∀ i, elemN i M = false → g i = f i
theorem Agree.refl (M : List Nat) (f : Fr) : Agree M f f := fun _ _ => rfl
theorem Agree.at {M : List Nat} {f g : Fr} (h : Agree M f g) (i : Nat) (j : elemN i M = false) : g i = f i := h i j
theorem Agree.upd {M : List Nat} {f g : Fr} (h : Agree M f g) (i : Nat) (v : Value) (o : elemN i M = true) : Agree M f (upd g i v) := by
  intro j hj
  rw [FA]
  · exact h j hj
  · intro e; subst e; rw [o] at hj; cases hj
theorem Agree.know {M : List Nat} {f g : Fr} (h : Agree M f g) (i : Nat) (v : Value) (o : f i = v) : Agree M f (Vc.upd g i v) := by
  intro j hj
  by_cases e : j = i
  · subst e; rw [En, o]
  · rw [FA _ _ _ _ e]; exact h j hj
@[reducible] def merge (M : List Nat) (f g : Fr) : Fr := fun i => bif elemN i M then g i else f i
theorem Kb {M : List Nat} {f g : Fr} (h : Agree M f g) : merge M f g = g := by
  funext i
  simp only [merge]
  cases e : elemN i M
  · exact (h i e).symm
  · rfl
theorem Agree.merge (M : List Nat) (f g : Fr) : Agree M f (Vc.merge M f g) := by
  intro i hi
  simp only [Vc.merge, hi, cond_false]
@[reducible] def subN : List Nat → List Nat → Bool
  | [], _ => true
  | i :: r, M => bif elemN i M then subN r M else false
theorem PL {M : List Nat} : ∀ {M2 : List Nat}, subN M2 M = true → ∀ i, elemN i M2 = true → elemN i M = true
  | [], _, i, hi => by simp [elemN] at hi
  | j :: r, h, i, hi => by
    cases hj : elemN j M
    · simp [subN, hj] at h
    · simp only [subN, hj, cond_true] at h
      by_cases e : i = j
      · subst e; exact hj
      · simp only [elemN, Vv e, cond_false] at hi
        exact PL h i hi
theorem Agree.inner {M M2 : List Nat} {f f2 g : Fr} (j : subN M2 M = true) (h : Agree M f f2) : Agree M f (Vc.merge M2 f2 g) := by
  intro i hi
  simp only [Vc.merge]
  cases e : elemN i M2
  · exact h i hi
  · rw [PL j i e] at hi; cases hi
theorem Aq {c : Code} {α : Type} (M : List Nat) (J : α → Fr → World → Prop) (μ : α → Nat) (I : α) (U : J I f w)
    (round : ∀ x g w', J x g w' →
      KF P B n (.code c :: .stop (fun R C => ∃ o j, μ o < μ x ∧ Is n j R ∧ J o j C ∧ Agree M f j) :: k) (merge M f g) w') : KF P B n (.code (.loop c) :: k) f w := by
  intro a ha
  refine UF (J := fun x a w => ∃ g, Is n g a ∧ J x g w ∧ Agree M f g) μ I ⟨f, ha, U, Agree.refl _ _⟩ ?_
  rintro x a w ⟨g, hg, hJ, hA⟩
  have := round x g w hJ a (by rw [Kb hA]; exact hg)
  show c.wp P _ a w
  refine wp_mono this ?_
  intro e a w hq
  cases e with
  | normal => obtain ⟨o, j, h1, h2, h3, h4⟩ := hq; exact ⟨o, h1, j, h2, h3, h4⟩
  | exit i => exact hq
  | goto i => exact hq
  | ret => exact hq
  | panic c => exact hq
  | outgrown => exact hq
theorem DN {α : Type} {M : List Nat} {J : α → Fr → World → Prop} {μ : α → Nat} {x : α} {f0 : Fr} (j : α) (C : μ j < μ x) (hJ : J j f w) (U : Agree M f0 f) :
    KF P B n (.stop (fun R I => ∃ j o, μ j < μ x ∧ Is n o R ∧ J j o I ∧ Agree M f0 o) :: k) f w := fun _ ha => ⟨j, f, C, ha, hJ, U⟩
theorem EC {c : Code} (M : List Nat) (J : Fr → World → Prop) (h1 : KF P B n (.code c :: .stop (fun o w' => ∃ j, Is n j o ∧ J j w' ∧ Agree M f j) :: k) f w)
    (C : ∀ g w', J g w' → KF P B n k (merge M f g) w') : KF P B n (.code c :: k) f w := by
  intro a ha
  show c.wp P _ a w
  refine wp_mono (h1 a ha) ?_
  intro e a w hq
  cases e with
  | normal => obtain ⟨j, I, R, U⟩ := hq; exact C j w R a (by rw [Kb U]; exact I)
  | exit i => exact hq
  | goto i => exact hq
  | ret => exact hq
  | panic c => exact hq
  | outgrown => exact hq
theorem Ad {M : List Nat} {J : Fr → World → Prop} {f0 : Fr} (I : J f w) (C : Agree M f0 f) : KF P B n (.stop (fun o w' => ∃ j, Is n j o ∧ J j w' ∧ Agree M f0 j) :: k) f w := fun _ R => ⟨f, R, I, C⟩
theorem AB {id : Nat} {l : List Oper} (h : KL P B n l.toArray k l f w) : KF P B n (.code (.region id l.toArray false) :: k) f w := by
  intro a ha
  show (Code.region id l.toArray false).wp P (Kx P B k) a w
  exact wp_region_lit (h a ha)
theorem Ag {ops : Array Oper} (h : KF P B n k f w) : KL P B n ops k [] f w := fun a j => h a j
end rules
section fn
variable {P : Program} {fn : Func} {R : Ending → World → Prop} {n : Nat} {k : List Kont} {f : Fr} {w : World}
theorem AM {v : Value} (C : ∀ a, Is n f a → (results fn a.tmps).run P w = .ok v w) (o : R (.returned v) w) : KF P (bodyPost P fn R) n (.code .ret :: k) f w :=
  fun a j => wp_ret (Q0 ⟨j.defers, v, C a j, o⟩ k)
theorem cK {v : Value} (C : ∀ a, Is n f a → (results fn a.tmps).run P w = .ok v w) (o : R (.returned v) w) : KF P (bodyPost P fn R) n [] f w :=
  fun a j => ⟨j.defers, v, C a j, o⟩
theorem fA (h : fn.results = #[]) : ∀ a, Is n f a → (results fn a.tmps).run P w = .ok (.tuple #[]) w := fun _ _ => results_none h _ _ _
theorem C8 {s : Nat} {v : Value} (h : fn.results = #[.tmp s]) (o : f s = v) : ∀ a, Is n f a → (results fn a.tmps).run P w = .ok v w := fun a j => by
  rw [results_tmp h, j.get, o]
theorem Fy {s t : Nat} {v u : Value} (h : fn.results = #[.tmp s, .tmp t]) (o : f s = v) (C : f t = u) : ∀ a, Is n f a → (results fn a.tmps).run P w = .ok (.tuple #[v, u]) w := fun a j => by
  rw [results_tmp2 h, j.get, j.get, o, C]
theorem aw {s t r : Nat} {v u x : Value} (h : fn.results = #[.tmp s, .tmp t, .tmp r]) (hs : f s = v) (ht : f t = u) (hr : f r = x) :
    ∀ a, Is n f a → (results fn a.tmps).run P w = .ok (.tuple #[v, u, x]) w := fun a ha => by
  simp [results, h, ha.get, hs, ht, hr]
@[reducible] def start : List Value → Nat → Fr
  | [], _ => fun _ => undef
  | v :: vs, i => upd (start vs (i + 1)) i v
theorem K7 : ∀ (l : List Value) (i j : Nat), start l i (i + j) = l.getD j undef ∧ (∀ m, m < i → start l i m = undef)
  | [], i, j => ⟨by simp [start], fun _ _ => rfl⟩
  | v :: vs, i, j => by
    refine ⟨?_, fun m hm => ?_⟩
    · cases j with
      | zero => simp [start, upd]
      | succ j =>
        have := (K7 vs (i + 1) j).1
        simp only [start]
        rw [FA _ _ _ _ ω, show i + (j + 1) = i + 1 + j from by omega, this]
        simp
    · simp only [start]
      rw [FA _ _ _ _ ω]
      exact (K7 vs (i + 1) 0).2 m ω
theorem AG {g : FuncId} {c : Code} {args : List Value} (I : P.funcs[g]? = some fn) (C : fn.body = some c) (hn : fn.ntmps = n) (J : Nat.ble args.length n = true)
    (h : KF P (bodyPost P fn R) n [.code c] (start args 0) w) : Calls P g args.toArray w R := by
  have U : args.length ≤ n := by simpa using J
  refine calls_of_wp I C (wp_mono (h _ ⟨by simp [hn]; omega, fun i => ?_, rfl⟩) (by intro e a w hq; cases e <;> exact hq))
  have := (K7 args 0 i).1
  rw [Nat.zero_add] at this
  rw [this]
  simp only [Array.getD_eq_getD_getElem?, List.getD_eq_getElem?_getD]
  rw [Array.getElem?_append]
  split
  · simp
  · rename_i hi
    have j : args.length ≤ i := by simpa using hi
    rw [List.getElem?_eq_none j]
    by_cases o : i - args.length < fn.ntmps - args.length
    · simp [o]
    · simp [o]
end fn
section ops
variable {P : Program} {B : Exit → Act → World → Prop} {n : Nat} {k : List Kont} {f : Fr} {w : World} {ops : Array Oper} {rest : List Oper}
theorem Hs {o : Oper} {d : Nat} {v : Value} {w' : World} (U : o.guard = none) (j : o.dst = some d) (J : Nat.blt d n = true) (C : (execOp (opv f) o).run P w = .ok (.value v) w')
    (h : KL P B n ops k rest (upd f d v) w') : KL P B n ops k (o :: rest) f w := by
  intro a ha
  refine wpList_plain U fun K I => ?_
  unfold Oper.wp
  rw [ha.eval, C]
  simp only [Oper.upon]
  refine I _ _ (h _ ?_)
  rw [j]
  exact ha.put J v
theorem UP {o : Oper} {w' : World} (J : o.guard = none) (j : o.dst = none) (C : (execOp (opv f) o).run P w = .ok .skip w')
    (h : KL P B n ops k rest f w') : KL P B n ops k (o :: rest) f w := by
  intro a ha
  refine wpList_plain J fun K I => ?_
  unfold Oper.wp
  rw [ha.eval, C]
  simp only [Oper.upon]
  refine I _ _ (h _ ?_)
  rw [j]
  exact ha
theorem Yy {o : Oper} {v : Value} {w' : World} (J : o.guard = none) (j : o.dst = none) (C : (execOp (opv f) o).run P w = .ok (.value v) w')
    (h : KL P B n ops k rest f w') : KL P B n ops k (o :: rest) f w := by
  intro a ha
  refine wpList_plain J fun K I => ?_
  unfold Oper.wp
  rw [ha.eval, C]
  simp only [Oper.upon]
  refine I _ _ (h _ ?_)
  rw [j]
  exact ha
theorem Ft {o : Oper} {d : Nat} {g : FuncId} {args : Array Value} {I : World} {S : Ending → World → Prop} (hg : o.guard = none) (j : o.dst = some d) (hd : Nat.blt d n = true)
    (C : (execOp (opv f) o).run P w = .ok (.enter g args) I) (hc : Calls P g args I S)
    (h : ∀ e w', S e w' → ∃ v, e = .returned v ∧ KL P B n ops k rest (upd f d v) w') : KL P B n ops k (o :: rest) f w := by
  intro a ha
  refine wpList_plain hg fun K J => ?_
  unfold Oper.wp
  rw [ha.eval, C]
  simp only [Oper.upon]
  refine hc.mono fun e w' U => ?_
  obtain ⟨v, rfl, hk⟩ := h e w' U
  refine J _ _ (hk _ ?_)
  rw [j]
  exact ha.put hd v
theorem Jd {a : Act} (o : Is n f a) {j d : Nat} {b : Bool} (C : (ops[j]?).bind (·.dst) = some d) (I : f d = .bool b) : yielded ops a.tmps j = some b := by
  have h1 := o.get d
  rw [I, Array.getD_eq_getD_getElem?] at h1
  unfold yielded
  rw [C]
  simp only [Option.bind_some]
  cases h2 : a.tmps[d]? with
  | none => rw [h2] at h1; simp [undef] at h1
  | some v => rw [h2] at h1; simp at h1; subst h1; rfl
theorem H0 {dst : Option Nat} {op : Op} {t : TypeId} {pos : String} {o : Array Edge} {j d : Nat} {b : Bool} (C : (ops[j]?).bind (·.dst) = some d) (I : f d = .bool b)
    (h : KL P B n ops k (⟨dst, op, t, pos, o, none⟩ :: rest) f w) : KL P B n ops k (⟨dst, op, t, pos, o, some (j, b)⟩ :: rest) f w := by
  intro a ha
  have J := Jd ha C I
  have := h a ha
  unfold wpList at this ⊢
  simp only [Region.wanted, J, beq_self_eq_true, if_true] at this ⊢
  exact this
theorem Ao {i : Nat} {v : Value} {l : List Oper} (o : f i = v) (h : KL P B n ops k l (upd f i v) w) : KL P B n ops k l f w := fun a j => h a (j.know o)
end ops
end Go.Vc
namespace Go.Vc
open Go Go.RowKit Go.IntWalk
def S (l : List UInt8) : Value := .string ⟨l.toArray⟩
theorem Z6 (s : ByteArray) : Value.string s = S s.data.toList := by unfold S; rfl
theorem Zb {a b : List UInt8} (h : S a = S b) : a = b := by
  unfold S at h
  injection h with h
  have := congrArg (fun x : ByteArray => x.data.toList) h
  simpa using this
theorem Fp (l : List UInt8) : (ByteArray.mk l.toArray).toList = l := by
  exact ByteArray.toList_mk l
theorem QC (l : List UInt8) : (ByteArray.mk l.toArray).size = l.length := by simp [ByteArray.size]
def gv (g : Prop) [Decidable g] (v : Value) : Value := if g then v else undef
theorem Gf {g : Prop} [Decidable g] {v : Value} (h : g) : gv g v = v := if_pos h
theorem NF {g : Prop} [Decidable g] {v : Value} (h : ¬ g) : gv g v = undef := if_neg h
section
variable {P : Program} {f : Fr} {w : World} {o : Oper}
theorem gl {g : Prop} {x : Operand} {v : Value} (h : opv f x = v) : g → opv f x = v := fun _ => h
theorem OR {g j : Prop} [Decidable j] {x : Operand} {v : Value} (h : opv f x = gv j v) (I : g → j) : g → opv f x = v := fun C => by rw [h, Gf (I C)]
structure Wanted (f : Fr) (s : Nat) (want : Bool) (g : Prop) : Prop where
  yes : g → f s = .bool want
  no : ¬ g → f s ≠ .bool want
theorem fJ {s : Nat} {q : Prop} [Decidable q] (h : f s = .bool (decide q)) : Wanted f s true q := ⟨fun j => by simp [h, j], fun j => by simp [h, j]⟩
theorem ez {s : Nat} {q : Prop} [Decidable q] (h : f s = .bool (decide q)) : Wanted f s false (¬ q) := ⟨fun j => by simp [h, j], fun j => by simp at j; simp [h, j]⟩
theorem GV {s : Nat} {g q : Prop} [Decidable g] [Decidable q] (h : f s = gv g (.bool (decide q))) : Wanted f s true (g ∧ q) :=
  ⟨fun j => by rw [h, Gf j.1]; simp [j.2], fun j => by
    by_cases C : g
    · have : ¬ q := fun h => j ⟨C, h⟩
      rw [h, Gf C]; simp [this]
    · rw [h, NF C]; simp [undef]⟩
theorem DU {s : Nat} {g q : Prop} [Decidable g] [Decidable q] (h : f s = gv g (.bool (decide q))) : Wanted f s false (g ∧ ¬ q) :=
  ⟨fun j => by rw [h, Gf j.1]; simp [j.2], fun j => by
    by_cases C : g
    · have : q := Classical.byContradiction fun h => j ⟨C, h⟩
      rw [h, Gf C]; simp [this]
    · rw [h, NF C]; simp [undef]⟩
theorem AN {x : Operand} {v : Value} (j : o.op = .move x) (C : opv f x = v) : (execOp (opv f) o).run P w = .ok (.value v) w := by
  unfold execOp; rw [j]; simp only []; rw [C]; rfl
theorem AR {x : Operand} {v : Value} (j : o.op = .assign x) (C : opv f x = v) : (execOp (opv f) o).run P w = .ok (.value v) w := by
  unfold execOp; rw [j]; simp only []; rw [C]; rfl
theorem Vr {op : BinOp} {t : TypeId} {x y : Operand} {k : IntKind} {a b : Int} : (eqGuard op t x y (.int k a) (.int k b)).run P w = .ok () w := by
  cases op <;> rfl
theorem DM {op : BinOp} {t t2 : TypeId} {x y : Operand} {k : IntKind} {a b : Int} {v : Value} (j : o.op = .binOp op t x y t2) (C : opv f x = .int k a) (I : opv f y = .int k b)
    (h : (binOp op t (.int k a) (.int k b)).run P w = .ok v w) : (execOp (opv f) o).run P w = .ok (.value v) w := by
  unfold execOp
  rw [j]
  simp only []
  rw [C, I]
  simp [Vr, h]
theorem Bl {t t2 : TypeId} {x y : Operand} {a b : Int} (C : o.op = .binOp .add t x y t2) (I : opv f x = .int .i64 a) (J : opv f y = .int .i64 b)
    (h1 : -9223372036854775808 ≤ a + b) (j : a + b ≤ 9223372036854775807) : (execOp (opv f) o).run P w = .ok (.value (.int .i64 (a + b))) w := by
  refine DM C I J ?_
  simp [binOp, Op.intArith, i64_in _ ⟨h1, j⟩]
theorem FK {t t2 : TypeId} {x y : Operand} {a b : Int} (C : o.op = .binOp .sub t x y t2) (I : opv f x = .int .i64 a) (J : opv f y = .int .i64 b)
    (h1 : -9223372036854775808 ≤ a - b) (j : a - b ≤ 9223372036854775807) : (execOp (opv f) o).run P w = .ok (.value (.int .i64 (a - b))) w := by
  refine DM C I J ?_
  simp [binOp, Op.intArith, i64_in _ ⟨h1, j⟩]
theorem Ha {t t2 : TypeId} {x y : Operand} {a b : Int} (C : o.op = .binOp .mul t x y t2) (I : opv f x = .int .i64 a) (J : opv f y = .int .i64 b)
    (h1 : -9223372036854775808 ≤ a * b) (j : a * b ≤ 9223372036854775807) : (execOp (opv f) o).run P w = .ok (.value (.int .i64 (a * b))) w := by
  refine DM C I J ?_
  simp [binOp, Op.intArith, i64_in _ ⟨h1, j⟩]
theorem Xo {t t2 : TypeId} {x y : Operand} {k : IntKind} {a b : Int} (j : o.op = .binOp .add t x y t2) (C : opv f x = .int k a) (I : opv f y = .int k b) :
    (execOp (opv f) o).run P w = .ok (.value (.int k (k.wrap (a + b)))) w := by
  refine DM j C I ?_
  simp [binOp, Op.intArith]
theorem ZW {t t2 : TypeId} {x y : Operand} {k : IntKind} {a b : Int} (j : o.op = .binOp .sub t x y t2) (C : opv f x = .int k a) (I : opv f y = .int k b) :
    (execOp (opv f) o).run P w = .ok (.value (.int k (k.wrap (a - b)))) w := by
  refine DM j C I ?_
  simp [binOp, Op.intArith]
theorem VQ {t t2 : TypeId} {x y : Operand} {k : IntKind} {a b : Int} (C : o.op = .binOp .rem t x y t2) (I : opv f x = .int k a) (J : opv f y = .int k b) (j : b ≠ 0) :
    (execOp (opv f) o).run P w = .ok (.value (.int k (a.tmod b))) w := by
  refine DM C I J ?_
  simp [binOp, Op.intDiv, j]
theorem P3 {t t2 : TypeId} {x y : Operand} {a b : Int} (I : o.op = .binOp .quo t x y t2) (J : opv f x = .int .i64 a) (U : opv f y = .int .i64 b) (j : b ≠ 0)
    (h1 : -9223372036854775808 ≤ a.tdiv b) (C : a.tdiv b ≤ 9223372036854775807) : (execOp (opv f) o).run P w = .ok (.value (.int .i64 (a.tdiv b))) w := by
  refine DM I J U ?_
  simp [binOp, Op.intDiv, j, i64_in _ ⟨h1, C⟩]
theorem Dc {t t2 : TypeId} {x y : Operand} {k : IntKind} {a b : Int} (j : o.op = .binOp .lss t x y t2) (C : opv f x = .int k a) (I : opv f y = .int k b) :
    (execOp (opv f) o).run P w = .ok (.value (.bool (decide (a < b)))) w := DM j C I (by simp [binOp, Op.intCmp])
theorem Dx {t t2 : TypeId} {x y : Operand} {k : IntKind} {a b : Int} (j : o.op = .binOp .leq t x y t2) (C : opv f x = .int k a) (I : opv f y = .int k b) :
    (execOp (opv f) o).run P w = .ok (.value (.bool (decide (a ≤ b)))) w := DM j C I (by simp [binOp, Op.intCmp])
theorem C6 {t t2 : TypeId} {x y : Operand} {k : IntKind} {a b : Int} (j : o.op = .binOp .gtr t x y t2) (C : opv f x = .int k a) (I : opv f y = .int k b) :
    (execOp (opv f) o).run P w = .ok (.value (.bool (decide (b < a)))) w := DM j C I (by simp [binOp, Op.intCmp])
theorem CV {t t2 : TypeId} {x y : Operand} {k : IntKind} {a b : Int} (j : o.op = .binOp .geq t x y t2) (C : opv f x = .int k a) (I : opv f y = .int k b) :
    (execOp (opv f) o).run P w = .ok (.value (.bool (decide (b ≤ a)))) w := DM j C I (by simp [binOp, Op.intCmp])
theorem BK {t t2 : TypeId} {x y : Operand} {k : IntKind} {a b : Int} (j : o.op = .binOp .eql t x y t2) (C : opv f x = .int k a) (I : opv f y = .int k b) :
    (execOp (opv f) o).run P w = .ok (.value (.bool (decide (a = b)))) w := DM j C I (by
      simp only [binOp, Op.intCmp, ne_eq, not_true_eq_false, if_false]
      exact congrArg (fun x => Result.ok (Value.bool x) w) (by rw [Bool.eq_iff_iff]; simp))
theorem BP {t t2 : TypeId} {x y : Operand} {k : IntKind} {a b : Int} (j : o.op = .binOp .neq t x y t2) (C : opv f x = .int k a) (I : opv f y = .int k b) :
    (execOp (opv f) o).run P w = .ok (.value (.bool (decide (¬ a = b)))) w := DM j C I (by
      simp only [binOp, Op.intCmp, ne_eq, not_true_eq_false, if_false]
      exact congrArg (fun x => Result.ok (Value.bool x) w) (by rw [Bool.eq_iff_iff]; simp))
theorem H2 {op : BinOp} {t t2 : TypeId} {x y : Operand} {a b : List UInt8} {v : Value} (I : o.op = .binOp op t x y t2) (J : opv f x = S a) (U : opv f y = S b)
    (h : (Op.stringOp op ⟨a.toArray⟩ ⟨b.toArray⟩).run P w = .ok v w) : (execOp (opv f) o).run P w = .ok (.value v) w := by
  unfold execOp
  rw [I]
  simp only []
  rw [J, U]
  unfold S
  have C : (eqGuard op t x y (.string ⟨a.toArray⟩) (.string ⟨b.toArray⟩)).run P w = .ok () w := by cases op <;> rfl
  have j : binOp op t (.string ⟨a.toArray⟩) (.string ⟨b.toArray⟩) = Op.stringOp op ⟨a.toArray⟩ ⟨b.toArray⟩ := by cases op <;> rfl
  simp [C, j, h]
theorem Fw {t t2 : TypeId} {x y : Operand} {a b : List UInt8} (j : o.op = .binOp .eql t x y t2) (C : opv f x = S a) (I : opv f y = S b) :
    (execOp (opv f) o).run P w = .ok (.value (.bool (decide (a = b)))) w := H2 j C I (by
      simp only [Op.stringOp, Fp]
      exact congrArg (fun x => Result.ok (Value.bool x) w) (by rw [Bool.eq_iff_iff]; simp))
theorem Ds {t t2 : TypeId} {x y : Operand} {a b : List UInt8} (j : o.op = .binOp .neq t x y t2) (C : opv f x = S a) (I : opv f y = S b) :
    (execOp (opv f) o).run P w = .ok (.value (.bool (decide (¬ a = b)))) w := H2 j C I (by
      simp only [Op.stringOp, Fp]
      exact congrArg (fun x => Result.ok (Value.bool x) w) (by rw [Bool.eq_iff_iff]; simp))
theorem Bg {t t2 : TypeId} {x y : Operand} {a b : List UInt8} (j : o.op = .binOp .add t x y t2) (C : opv f x = S a) (I : opv f y = S b)
    (J : a.length + b.length ≤ 9223372036854775807) : (execOp (opv f) o).run P w = .ok (.value (S (a ++ b))) w := H2 j C I (by
      have : ¬ (9223372036854775807 < (a.length : Int) + (b.length : Int)) := by omega
      have hm : IntKind.i64.max = 9223372036854775807 := by decide
      simp only [Op.stringOp, QC, hm]
      rw [if_neg ω]
      unfold S
      simp only [Sem.run_pure]
      congr 2)
def blt (a b : List UInt8) : Bool := Op.bytesLess a b
theorem XN {t t2 : TypeId} {x y : Operand} {a b : List UInt8} (j : o.op = .binOp .lss t x y t2) (C : opv f x = S a) (I : opv f y = S b) :
    (execOp (opv f) o).run P w = .ok (.value (.bool (blt a b))) w := H2 j C I (by simp [Op.stringOp, blt])
theorem Cd {t : TypeId} {x : Operand} {q : Prop} [Decidable q] (j : o.op = .unOp .not t x) (C : opv f x = .bool (decide q)) :
    (execOp (opv f) o).run P w = .ok (.value (.bool (decide (¬ q)))) w := by
  unfold execOp; rw [j]; simp only []; rw [C]; simp [Op.unary]
theorem Fh {t : TypeId} {x : Operand} {b : Bool} (j : o.op = .unOp .not t x) (C : opv f x = .bool b) :
    (execOp (opv f) o).run P w = .ok (.value (.bool (!b))) w := by
  unfold execOp; rw [j]; simp only []; rw [C]; simp [Op.unary]
theorem Z8 {t : TypeId} {x : Operand} {a : Int} (j : o.op = .unOp .neg t x) (C : opv f x = .int .i64 a) (h1 : -9223372036854775808 < a) (I : a ≤ 9223372036854775807) :
    (execOp (opv f) o).run P w = .ok (.value (.int .i64 (-a))) w := by
  unfold execOp; rw [j]; simp only []; rw [C]; simp [Op.unary, Op.intArith, i64_in (-a) ⟨by omega, by omega⟩]
theorem Cu {c a b : Operand} {q r : Prop} [Decidable q] [Decidable r] (U : o.op = .pick c a b) (J : opv f c = .bool (decide q)) (C : q → opv f a = .bool (decide r)) (I : opv f b = .bool false) :
    (execOp (opv f) o).run P w = .ok (.value (.bool (decide (q ∧ r)))) w := by
  unfold execOp; rw [U]; simp only []; rw [J, I]
  by_cases j : q
  · simp [asBool, C j, j]
  · simp [asBool, j]
theorem C4 {c a b : Operand} {q r : Prop} [Decidable q] [Decidable r] (U : o.op = .pick c a b) (J : opv f c = .bool (decide q)) (C : opv f a = .bool true) (I : ¬ q → opv f b = .bool (decide r)) :
    (execOp (opv f) o).run P w = .ok (.value (.bool (decide (q ∨ r)))) w := by
  unfold execOp; rw [U]; simp only []; rw [J, C]
  by_cases j : q
  · simp [asBool, j]
  · simp [asBool, j, I j]
theorem Px {c a b : Operand} {v : Value} (I : o.op = .pick c a b) (C : opv f c = .bool true) (j : opv f a = v) :
    (execOp (opv f) o).run P w = .ok (.value v) w := by
  unfold execOp; rw [I]; simp only []; rw [C, j]; simp [asBool]
theorem Si {c a b : Operand} {v : Value} (I : o.op = .pick c a b) (C : opv f c = .bool false) (j : opv f b = v) :
    (execOp (opv f) o).run P w = .ok (.value v) w := by
  unfold execOp; rw [I]; simp only []; rw [C, j]; simp [asBool]
theorem AI {t : Operand} {i : Nat} {vs : Array Value} {v : Value} (j : o.op = .extract t i) (C : opv f t = .tuple vs) (I : vs[i]? = some v) :
    (execOp (opv f) o).run P w = .ok (.value v) w := by
  unfold execOp; rw [j]; simp only []; rw [C]; simp [Instr.extract, I]
theorem CA {bi : Builtin} {args : Array Operand} {at_ : Array TypeId} {vs : Array Value} {s : Sem Value} {v : Value} (I : o.op = .call ⟨.builtin bi, args, at_⟩) (j : args.map (opv f) = vs)
    (C : ∀ cs, builtin bi at_ o.type cs vs = (do pure (.value (← s)))) {w' : World} (h : s.run P w = .ok v w') : (execOp (opv f) o).run P w = .ok (.value v) w' := by
  unfold execOp; rw [I]; simp only [resolve]; rw [j]; simp [invoke, C, h]
theorem Bz {t : TypeId} {x : Operand} {l : List UInt8} (j : o.op = .call ⟨.builtin .len, #[x], #[t]⟩) (I : opv f x = S l) (C : P.underlying t = some .string) :
    (execOp (opv f) o).run P w = .ok (.value (.int .i64 (l.length : Int))) w := by
  refine CA (s := Builtin.len_ #[t] o.type #[S l]) j (by simp [I]) (fun cs => rfl) ?_
  unfold S
  simp [Builtin.len_, run_underlying C, goInt, QC]
theorem AQ {t e : TypeId} {x : Operand} {ao : Option Addr} {len cap : Nat} (j : o.op = .call ⟨.builtin .len, #[x], #[t]⟩) (I : opv f x = .slice ao len cap) (C : P.underlying t = some (.slice e)) :
    (execOp (opv f) o).run P w = .ok (.value (.int .i64 (len : Int))) w := by
  refine CA (s := Builtin.len_ #[t] o.type #[.slice ao len cap]) j (by simp [I]) (fun cs => rfl) ?_
  simp [Builtin.len_, run_underlying C, goInt]
theorem GH {ts : Array TypeId} {x y : Operand} {k : IntKind} {a b : Int} (j : o.op = .call ⟨.builtin .max, #[x, y], ts⟩) (C : opv f x = .int k a) (I : opv f y = .int k b) :
    (execOp (opv f) o).run P w = .ok (.value (.int k (max a b))) w := by
  refine CA (s := Builtin.max_ ts o.type #[.int k a, .int k b]) j (by simp [C, I]) (fun cs => rfl) ?_
  have : (if b > a then b else a) = max a b := by omega
  simp [Builtin.max_, Builtin.max2, List.foldlM, this]
theorem Eg {ts : Array TypeId} {x y : Operand} {k : IntKind} {a b : Int} (j : o.op = .call ⟨.builtin .min, #[x, y], ts⟩) (C : opv f x = .int k a) (I : opv f y = .int k b) :
    (execOp (opv f) o).run P w = .ok (.value (.int k (min a b))) w := by
  refine CA (s := Builtin.min_ ts o.type #[.int k a, .int k b]) j (by simp [C, I]) (fun cs => rfl) ?_
  have : (if b < a then b else a) = min a b := by omega
  simp [Builtin.min_, Builtin.min2, List.foldlM, this]
theorem BU {x : Operand} {l : List Operand} {v : Value} {vs : List Value} (h : opv f x = v) (t : l.map (opv f) = vs) : (x :: l).map (opv f) = v :: vs := by simp [h, t]
theorem BN {g : FuncId} {args : List Operand} {ts : Array TypeId} {vs : List Value} {fn : Func} {c : Code} (ho : o.op = .call ⟨.value (.func g), args.toArray, ts⟩) (C : args.map (opv f) = vs)
    (J : P.funcs[g]? = some fn) (I : fn.body = some c) (U : (fn.name == "runtime.NumGoroutine") = false) : (execOp (opv f) o).run P w = .ok (.enter g vs.toArray) w := by
  unfold execOp; rw [ho]; simp only [resolve]
  rw [show args.toArray.map (opv f) = vs.toArray from by rw [← C]; simp]
  have j : ¬ fn.name = "runtime.NumGoroutine" := by simpa using U
  simp [Deferred.ofValue, invoke, callFunc, J, I, j]
end
section
variable {P : Program} {B : Exit → Act → World → Prop} {n : Nat} {k : List Kont} {f : Fr} {w : World} {ops : Array Oper} {rest : List Oper}
theorem Aj {d : Nat} {op : Op} {t : TypeId} {pos : String} {C : Array Edge} {j s : Nat} {b : Bool} {g : Prop} [Decidable g] {v : Value} (hj : (ops[j]?).bind (·.dst) = some s) (hw : Wanted f s b g)
    (hd : Nat.blt d n = true) (J : g → (execOp (opv f) ⟨some d, op, t, pos, C, none⟩).run P w = .ok (.value v) w)
    (h : KL P B n ops k rest (upd f d (gv g v)) w) : KL P B n ops k (⟨some d, op, t, pos, C, some (j, b)⟩ :: rest) f w := by
  by_cases I : g
  · refine H0 hj (hw.yes I) (Hs rfl rfl hd (J I) ?_)
    rw [Gf I] at h
    exact h
  · rw [NF I] at h
    intro a ha
    have hy : (yielded ops a.tmps j == some b) = false := by
      have h1 := ha.get s
      have U := hw.no I
      rw [← h1, Array.getD_eq_getD_getElem?] at U
      unfold yielded
      rw [hj]
      simp only [Option.bind_some]
      cases h3 : a.tmps[s]? with
      | none => rfl
      | some u =>
        rw [h3] at U
        simp at U
        cases u <;> simp_all
        rename_i b'
        intro e
        exact U (by rw [← h1, e])
    unfold wpList
    simp only [Region.wanted, hy, Bool.false_eq_true, if_false]
    exact h _ (ha.put hd _)
end
structure Evo (w w' : World) (E : List Nat) : Prop where
  os : w'.os = w.os
  tape : w'.tape = w.tape
  output : w'.output = w.output
  size : w.heap.size ≤ w'.heap.size
  same : ∀ b, b < w.heap.size → b ∉ E → w'.heap[b]? = w.heap[b]?
theorem Evo.refl (w : World) (E : List Nat) : Evo w w E := ⟨rfl, rfl, rfl, Nat.le_refl _, fun _ _ _ => rfl⟩
theorem Evo.trans {a b c : World} {E C : List Nat} (h : Evo a b E) (k : Evo b c C) (J : ∀ x ∈ C, x < a.heap.size → x ∈ E) : Evo a c E :=
  ⟨k.os.trans h.os, k.tape.trans h.tape, k.output.trans h.output, Nat.le_trans h.size k.size, fun x j I =>
    (k.same x (Nat.lt_of_lt_of_le j h.size) (fun hm => I (J x hm j))).trans (h.same x j I)⟩
theorem Evo.mono {a b : World} {E j : List Nat} (h : Evo a b E) (C : ∀ x ∈ E, x ∈ j) : Evo a b j := ⟨h.os, h.tape, h.output, h.size, fun x J I => h.same x J (fun hm => I (C x hm))⟩
theorem Evo.drew (w : World) (E : List Nat) : Evo w w.drew E := ⟨rfl, rfl, rfl, Nat.le_refl _, fun _ _ _ => rfl⟩
theorem Evo.drewN (w : World) (m : Nat) (E : List Nat) : Evo w (w.drewN m) E := by
  refine ⟨?_, ?_, ?_, ?_, fun _ _ _ => ?_⟩ <;> simp [World.drewN]
theorem Evo.alloc (w : World) (o : Obj) (E : List Nat) : Evo w (w.alloc o) E := ⟨rfl, rfl, rfl, by simp, fun b j _ => Below.heap_alloc w o b j⟩
theorem Evo.setCell (w : World) (a : Addr) (v : Value) : Evo w (w.setCell a v) [a.block] := ⟨rfl, rfl, rfl, by simp, fun b _ j => Below.heap_setCell w a v b (by simpa using j)⟩
theorem Evo.setRow (w : World) (g : Nat) (cs : Array Value) : Evo w (w.setRow g cs) [g] := ⟨rfl, rfl, rfl, by simp, fun b _ j => setRow_other w g b cs (by simpa using j)⟩
theorem Evo.below {w w' : World} (h : Evo w w' []) : Below w.heap.size w w' := ⟨h.os, h.tape, h.output, h.size, fun k hk => h.same k hk (by simp)⟩
theorem Evo.grown {w w' : World} {row : Option Nat} (h : w.grownBy w' row) : Evo w w' row.toList := ⟨h.os, h.tape, h.output, h.size, fun b j C => h.block b j (by
  intro e; apply C; rw [← e]; simp)⟩
theorem CB {j w w' : World} {X : List Nat} (h : Evo j w X) (he : Evo w w' []) : Evo j w' X := h.trans he (by simp)
theorem EY {C w w' : World} {X : List Nat} {b : Nat} (h : Evo C w X) (he : Evo w w' [b]) (j : C.heap.size ≤ b ∨ b ∈ X) : Evo C w' X := h.trans he (fun x I J => by
  simp at I
  subst I
  rcases j with j | j
  · omega
  · exact j)
theorem AP {C w w' : World} {X : List Nat} {v : Value} (h : Evo C w X) (he : Evo w w' v.ownBlock.toList) (j : ∀ g, v.ownBlock = some g → C.heap.size ≤ g ∨ g ∈ X) : Evo C w' X := h.trans he (fun x U I => by
  have J : v.ownBlock = some x := by simpa using U
  rcases j x J with j | j
  · omega
  · exact j)
def Cy (P : Program) (T : TypeId) : Option (Nat × Nat × Option Value) := (P.info? T).map (fun i => (i.size, i.bytes, i.zero))
def CQ (P : Program) (T : TypeId) : Option Bool :=
  match P.underlying T with
  | some (.struct _) => some true
  | some (.array _ _) => some true
  | some _ => some false
  | none => none
def A8 (P : Program) (T : TypeId) (f : Nat) : Option Nat :=
  match P.underlying T with
  | some (.struct fs) => match fs[f]? with
    | some d => match P.info? d.type with
      | some i => if i.size = 0 then none else some d.offset
      | none => none
    | none => none
  | _ => none
section
variable {P : Program} {w : World} {T : TypeId}
theorem CF {n b : Nat} {z : Option Value} (h : Cy P T = some (n, b, z)) : (sizeOf T).run P w = .ok n w := by
  unfold Cy at h
  cases hi : P.info? T with
  | none => rw [hi] at h; cases h
  | some i => rw [hi] at h; simp at h; simp [sizeOf, typeInfo, hi, h.1]
theorem ET {n b : Nat} {z : Value} (h : Cy P T = some (n, b, some z)) : (zeroValue T).run P w = .ok z w := by
  unfold Cy at h
  cases hi : P.info? T with
  | none => rw [hi] at h; cases h
  | some i => rw [hi] at h; simp at h; simp [zeroValue, typeInfo, hi, h.2.2]
theorem I1 {b : Bool} (h : CQ P T = some b) : (isAgg T).run P w = .ok b w := by
  unfold CQ at h
  unfold isAgg
  cases hu : P.underlying T with
  | none => rw [hu] at h; cases h
  | some d =>
    rw [hu] at h
    cases d <;> simp_all [run_underlying hu]
theorem Ri {f off b o : Nat} (h : A8 P T f = some off) : (Instr.fieldAt T (.pointer (some ⟨b, o, none⟩)) f).run P w = .ok (.pointer (some ⟨b, o + off, none⟩)) w := by
  unfold A8 at h
  unfold Instr.fieldAt
  cases hu : P.underlying T with
  | none => rw [hu] at h; cases h
  | some d =>
    rw [hu] at h
    cases d <;> try (simp at h; done)
    case struct fs =>
      simp only at h
      cases hf : fs[f]? with
      | none => rw [hf] at h; cases h
      | some d =>
        rw [hf] at h
        simp only at h
        cases hi : P.info? d.type with
        | none => rw [hi] at h; cases h
        | some i =>
          rw [hi] at h
          simp only at h
          by_cases C : i.size = 0
          · rw [if_pos C] at h; cases h
          · rw [if_neg C] at h
            injection h with h
            have j : (⟨b, o, none⟩ : Addr).add d.offset = ⟨b, o + off, none⟩ := by
              rw [h]; unfold Addr.add; split <;> simp_all
            simp [run_underlying hu, hf, Instr.sureAddr, fieldPlace, sizeOf, typeInfo, hi, C, j]
end
def At (w : World) (b off : Nat) (cs : List Value) : Prop := ∀ j v, cs[j]? = some v → w.cell? ⟨b, off + j, none⟩ = some v
def Blk (w : World) (b : Nat) (T : TypeId) (cs : List Value) : Prop := w.heap[b]? = some (.cells cs.toArray T (0, 0))
theorem At.cell {w : World} {b off : Nat} {cs : List Value} (h : At w b off cs) (j : Nat) {v : Value} (C : cs[j]? = some v) : w.cell? ⟨b, off + j, none⟩ = some v := h j v C
theorem At.evo {w w' : World} {b off : Nat} {cs : List Value} {E : List Nat} (h : At w b off cs) (he : Evo w w' E) (C : b ∉ E) : At w' b off cs := by
  intro j v hj
  have h1 := h j v hj
  rw [World.cell?_of_block (w := w) (he.same b (World.block_lt_of_cell? w _ h1) C)]
  exact h1
theorem At.evo0 {w w' : World} {b off : Nat} {cs : List Value} (h : At w b off cs) (he : Evo w w' []) : At w' b off cs := h.evo he (by simp)
theorem At.below {C w : World} {b off : Nat} {cs : List Value} (h : At C b off cs) (I : Below C.heap.size C w) : At w b off cs := by
  intro j v hj
  have h1 := h j v hj
  rw [I.cell (World.block_lt_of_cell? C _ h1)]
  exact h1
theorem At.sub {w : World} {b off : Nat} {cs : List Value} (h : At w b off cs) (i : Nat) (ds : List Value) (C : ∀ j v, ds[j]? = some v → cs[i + j]? = some v) : At w b (off + i) ds := by
  intro j v hj
  have := h (i + j) v (C j v hj)
  rwa [← Nat.add_assoc] at this
theorem At.part {w : World} {b off : Nat} {cs ds : List Value} (h : At w b off cs) (i m : Nat) (I : (cs.drop i).take m = ds) : At w b (off + i) ds := by
  refine h.sub i ds (fun j v C => ?_)
  subst I
  rw [List.getElem?_take] at C
  split at C
  · simpa using C
  · cases C
theorem Blk.lt {w : World} {b : Nat} {T : TypeId} {cs : List Value} (h : Blk w b T cs) : b < w.heap.size := by
  unfold Blk at h
  rcases Nat.lt_or_ge b w.heap.size with h1 | h1
  · exact h1
  · rw [Array.getElem?_eq_none h1] at h; cases h
theorem Blk.at {w : World} {b : Nat} {T : TypeId} {cs : List Value} (h : Blk w b T cs) : At w b 0 cs := by
  intro j v hj
  unfold Blk at h
  simp only [World.cell?, h, Nat.zero_add, Option.isSome_none, Bool.false_eq_true, if_false]
  simpa using hj
theorem Blk.evo {w w' : World} {b : Nat} {T : TypeId} {cs : List Value} {E : List Nat} (h : Blk w b T cs) (he : Evo w w' E) (j : b ∉ E) : Blk w' b T cs := (he.same b h.lt j).trans h
theorem Blk.evo0 {w w' : World} {b : Nat} {T : TypeId} {cs : List Value} (h : Blk w b T cs) (he : Evo w w' []) : Blk w' b T cs := h.evo he (by simp)
theorem Blk.below {j w : World} {b : Nat} {T : TypeId} {cs : List Value} (h : Blk j b T cs) (C : Below j.heap.size j w) : Blk w b T cs := (C.block b h.lt).trans h
theorem Pq {P : Program} {w : World} {T : TypeId} {b off : Nat} {v : Value} (j : CQ P T = some false) (C : w.cell? ⟨b, off, none⟩ = some v) :
    (Instr.loadAt T (.pointer (some ⟨b, off, none⟩))).run P w = .ok v w := by
  simp [Instr.loadAt, Instr.sureAddr, loadVar, I1 j, run_load, C]
theorem add_lit (b o j : Nat) : (⟨b, o, none⟩ : Addr).add j = ⟨b, o + j, none⟩ := by unfold Addr.add; split <;> simp_all
theorem Gn {P : Program} {w : World} {T : TypeId} {b off n C : Nat} {z : Option Value} {cs : List Value} (I : CQ P T = some true) (ht : Cy P T = some (n, C, z)) (hn : cs.length = n) (J : At w b off cs) :
    (Instr.loadAt T (.pointer (some ⟨b, off, none⟩))).run P w = .ok (.agg cs.toArray) w := by
  have h1 := run_loadCells_list (P := P) w ⟨b, off, none⟩ cs (fun j v U => by rw [add_lit]; exact J j v U)
  rw [hn] at h1
  simp [Instr.loadAt, Instr.sureAddr, loadVar, I1 I, CF ht, h1]
section
variable {P : Program} {B : Exit → Act → World → Prop} {n : Nat} {k : List Kont} {f : Fr} {w : World} {ops : Array Oper} {rest : List Oper} {o : Oper}
theorem AA {T : TypeId} {x : Operand} {b off : Nat} {v : Value} (I : o.op = .load T x) (j : CQ P T = some false) (J : opv f x = .pointer (some ⟨b, off, none⟩)) (C : w.cell? ⟨b, off, none⟩ = some v) :
    (execOp (opv f) o).run P w = .ok (.value v) w := by
  unfold execOp; rw [I]; simp only []; rw [J]; simp [Pq j C]
theorem AL {T : TypeId} {x : Operand} {b off m j : Nat} {z : Option Value} {cs : List Value} (U : o.op = .load T x) (C : CQ P T = some true) (ht : Cy P T = some (m, j, z))
    (hx : opv f x = .pointer (some ⟨b, off, none⟩)) (J : cs.length = m) (I : At w b off cs) :
    (execOp (opv f) o).run P w = .ok (.value (.agg cs.toArray)) w := by
  unfold execOp; rw [U]; simp only []; rw [hx]; simp [Gn C ht J I]
theorem AD {T : TypeId} {x : Operand} {i b off j : Nat} (I : o.op = .fieldAddr T x i) (J : opv f x = .pointer (some ⟨b, off, none⟩)) (C : A8 P T i = some j) :
    (execOp (opv f) o).run P w = .ok (.value (.pointer (some ⟨b, off + j, none⟩))) w := by
  unfold execOp; rw [I]; simp only []; rw [J]; simp [Ri C]
theorem Au {x : Operand} {a : Addr} (j : o.op = .nilCheck x) (C : opv f x = .pointer (some a)) :
    (execOp (opv f) o).run P w = .ok (.value (.pointer (some a))) w := by
  unfold execOp; rw [j]; simp only []; rw [C]; rfl
theorem CU {T d m C : Nat} {t : TypeId} {pos : String} {j : Array Edge} {z : Value} {zs : List Value} (J : Cy P T = some (m, C, some z)) (U : z.cells = zs.toArray) (I : Nat.blt d n = true)
    (h : ∀ b w', b = w.heap.size → Evo w w' [] → Blk w' b T zs → w'.heap.size = b + 1 → KL P B n ops k rest (upd f d (.pointer (some ⟨b, 0, none⟩))) w') :
    KL P B n ops k (⟨some d, .alloc T, t, pos, j, none⟩ :: rest) f w := by
  refine Hs (v := .pointer (some ⟨w.heap.size, 0, none⟩)) (w' := w.alloc (.cells zs.toArray T)) rfl rfl I ?_ (h _ _ rfl (Evo.alloc _ _ _) (heap_alloc_new w _) (by simp))
  simp [execOp, Instr.alloc, ET J, newVar, newRow, U]
theorem CE {T d : Nat} {t : TypeId} {pos : String} {j : Array Edge} {x : Operand} {v : Value} {vs : List Value} (J : opv f x = v) (I : v.cells = vs.toArray) (C : Nat.blt d n = true)
    (h : ∀ b w', b = w.heap.size → Evo w w' [] → Blk w' b T vs → w'.heap.size = b + 1 → KL P B n ops k rest (upd f d (.pointer (some ⟨b, 0, none⟩))) w') :
    KL P B n ops k (⟨some d, .box T x, t, pos, j, none⟩ :: rest) f w := by
  refine Hs (v := .pointer (some ⟨w.heap.size, 0, none⟩)) (w' := w.alloc (.cells vs.toArray T)) rfl rfl C ?_ (h _ _ rfl (Evo.alloc _ _ _) (heap_alloc_new w _) (by simp))
  simp [execOp, J, Instr.box, newVar, newRow, I]
def A1 (vs : List Value) : Bool := vs.all (·.oneCell')
theorem JU {T T' : TypeId} {b off m U : Nat} {z : Option Value} {v : Value} {cs vs : List Value} (hb : Blk w b T' cs) (ht : Cy P T = some (m, U, z)) (C : v.cells = vs.toArray) (hm : vs.length = m)
    (h1 : A1 vs = true) (j : off + vs.length ≤ cs.length) :
    (Instr.storeAt T (.pointer (some ⟨b, off, none⟩)) v).run P w = .ok () (w.setRow b (cs.take off ++ vs ++ cs.drop (off + vs.length)).toArray) := by
  have I := run_storeCells_at P b off T' vs 0 cs.toArray w hb (by simpa using j) (fun u hu => by
    have := List.all_eq_true.1 h1 u hu; exact this)
  have J : v.cells.size = m := by rw [C]; simpa using hm
  simp only [Nat.add_zero] at I
  rw [C] at J
  simp only [Instr.storeAt, Instr.sureAddr, storeVar, Sem.run_bind, CF ht, C, Sem.run_pure, Result.andThen_ok]
  simp only [J, ne_eq, not_true_eq_false, if_false]
  simpa using I
theorem Ai {T T' : TypeId} {t : TypeId} {pos : String} {C : Array Edge} {x y : Operand} {b off m U : Nat} {z : Option Value} {v : Value} {cs vs cs' : List Value}
    (hx : opv f x = .pointer (some ⟨b, off, none⟩)) (hy : opv f y = v) (J : Blk w b T' cs) (ht : Cy P T = some (m, U, z)) (hv : v.cells = vs.toArray) (hm : vs.length = m)
    (h1 : A1 vs = true) (j : Nat.ble (off + vs.length) cs.length = true) (I : cs.take off ++ vs ++ cs.drop (off + vs.length) = cs')
    (h : ∀ w', Evo w w' [b] → w'.heap.size = w.heap.size → Blk w' b T' cs' → KL P B n ops k rest f w') :
    KL P B n ops k (⟨none, .store T x y, t, pos, C, none⟩ :: rest) f w := by
  refine UP (w' := w.setRow b cs'.toArray) rfl rfl ?_ (h _ (Evo.setRow _ _ _) (by simp) (setRow_heap w b _ _ _ _ J))
  have := JU (P := P) J ht hv hm h1 (by simpa using j)
  simp [execOp, hx, hy, this, ← I]
theorem Bq {T d : Nat} {t t2 : TypeId} {pos I : String} {J j : Array Edge} {y : Operand} {m bb : Nat} {z v : Value} {zs vs : List Value}
    (ht : Cy P T = some (m, bb, some z)) (hz : z.cells = zs.toArray) (hd : Nat.blt d n = true) (hy : opv (upd f d undef) y = v) (U : ∀ u, opv (upd f d u) y = opv (upd f d undef) y) (hv : v.cells = vs.toArray) (hm : vs.length = m) (C : zs.length = m) (h1 : A1 vs = true)
    (h : ∀ b w', b = w.heap.size → Evo w w' [] → Blk w' b T vs → w'.heap.size = b + 1 → KL P B n ops k rest (upd f d (.pointer (some ⟨b, 0, none⟩))) w') :
    KL P B n ops k (⟨some d, .alloc T, t, pos, J, none⟩ :: ⟨none, .store T (.tmp d) y, t2, I, j, none⟩ :: rest) f w := by
  refine CU ht hz hd ?_
  intro b w' hb he hB hs
  refine Ai (b := b) (off := 0) (cs := zs) (vs := vs) (cs' := vs) (by simp only [opv, En]) ((U _).trans hy) hB ht hv hm h1 (by simp [hm, C]) (by simp [hm, C]) ?_
  intro w'' he' hs' hB'
  refine h b w'' hb (he.trans he' θ) hB' ω
theorem Iz (f : Fr) (ps : List (Nat × Operand)) : (ps.toArray.map fun (i, x) => (i, opv f x)) = (ps.map fun p => (p.1, opv f p.2)).toArray := by simp
def Ej (place : Nat → Option (Nat × Nat)) (cells : List Value) : List (Nat × Value) → Option (List Value)
  | [] => some cells
  | (i, v) :: rest =>
    match place i with
    | none => none
    | some (off, size) => bif Nat.beq v.cells.toList.length size && Nat.ble (off + size) cells.length then Ej place (cells.take off ++ v.cells.toList ++ cells.drop (off + size)) rest else none
theorem S3 : ∀ (l : List Value) (i off : Nat) (A : Array Value), off + i + l.length ≤ A.size → (l.zipIdx i).foldl (fun cs x => cs.setIfInBounds (off + x.2) x.1) A = (A.toList.take (off + i) ++ l ++ A.toList.drop (off + i + l.length)).toArray
  | [], i, off, A, h => by simp
  | c :: l, i, off, A, h => by
    have I := S3 l (i + 1) off (A.setIfInBounds (off + i) c) (by simp at h ⊢; omega)
    simp only [List.zipIdx_cons, List.foldl_cons]
    rw [I]
    apply Array.ext'
    simp only [Array.toList_setIfInBounds]
    have J : off + i < A.toList.length := by simp at h ⊢; omega
    have j : off + (i + 1) = off + i + 1 := by omega
    rw [j, List.take_set, List.take_succ_eq_append_getElem J, List.set_append_right _ _ (by rw [List.length_take]; omega)]
    have C : off + i - (A.toList.take (off + i)).length = 0 := by rw [List.length_take]; omega
    rw [C, List.drop_set_of_lt ω]
    simp only [List.set_cons_zero, List.length_cons, List.append_assoc, List.cons_append, List.nil_append]
    congr 3
    congr 1
    omega
theorem Il {place : Nat → Option (Nat × Nat)} : ∀ (parts : List (Nat × Value)) (cells C : List Value), Ej place cells parts = some C → Instr.fill place cells.toArray parts = some C.toArray
  | [], cells, C, h => by simp [Ej] at h; subst h; rfl
  | (i, v) :: rest, cells, C, h => by
    simp only [Ej] at h
    simp only [Instr.fill]
    cases hp : place i with
    | none => rw [hp] at h; cases h
    | some q =>
      obtain ⟨off, size⟩ := q
      rw [hp] at h
      simp only at h ⊢
      cases hb : (Nat.beq v.cells.toList.length size && Nat.ble (off + size) cells.length)
      · rw [hb] at h; cases h
      · rw [hb] at h
        simp only [Bool.and_eq_true, Nat.ble_eq] at hb
        have I : v.cells.size = size := by have := Nat.eq_of_beq_eq_true hb.1; simpa using this
        rw [if_neg (by simp [I]; omega)]
        have J := S3 v.cells.toList 0 off cells.toArray (by simp [I]; omega)
        have : v.cells.zipIdx.foldl (fun cs (x : Value × Nat) => cs.setIfInBounds (off + x.2) x.1) cells.toArray = (cells.take off ++ v.cells.toList ++ cells.drop (off + size)).toArray := by
          rw [← Array.foldl_toList, Array.toList_zipIdx, J]
          simp [I]
        have e : (v.cells.zipIdx.foldl (fun cs (c, j) => cs.setIfInBounds (off + j) c) cells.toArray) = (cells.take off ++ v.cells.toList ++ cells.drop (off + size)).toArray := this
        rw [e]
        exact Il rest _ _ h
def Cn (P : Program) (T : TypeId) : Option (List (Nat × Nat)) :=
  match P.underlying T with
  | some (.struct fs) => fs.toList.mapM (fun f => (P.info? f.type).map fun i => (f.offset, i.size))
  | some (.array n e) => (P.info? e).map fun i => (List.range n).map (fun j => (j * i.size, i.size))
  | _ => none
theorem HF {p q : Nat → Option (Nat × Nat)} (h : ∀ i x, p i = some x → q i = some x) : ∀ (parts : List (Nat × Value)) (cells cells' : List Value), Ej p cells parts = some cells' → Ej q cells parts = some cells'
  | [], _, _, hh => hh
  | (i, v) :: rest, cells, cells', hh => by
    simp only [Ej] at hh ⊢
    cases hp : p i with
    | none => rw [hp] at hh; cases hh
    | some x =>
      rw [hp] at hh
      rw [h i x hp]
      obtain ⟨off, size⟩ := x
      simp only at hh ⊢
      cases hb : (Nat.beq v.cells.toList.length size && Nat.ble (off + size) cells.length)
      · rw [hb] at hh; cases hh
      · rw [hb] at hh
        exact HF h rest _ _ hh
theorem A2 {T : TypeId} {ps : List (Nat × Operand)} {pv : List (Nat × Value)} {pl : List (Nat × Nat)} {m bb : Nat} {z : Value} {zs cells : List Value} (ho : o.op = .build T ps.toArray) (I : Cy P T = some (m, bb, some z)) (hz : z.cells = zs.toArray) (C : Cn P T = some pl)
    (U : (ps.map fun p => (p.1, opv f p.2)) = pv) (h : Ej (fun i => pl[i]?) zs pv = some cells) :
    (execOp (opv f) o).run P w = .ok (.value (.agg cells.toArray)) w := by
  unfold execOp; rw [ho]; simp only []
  rw [Iz, U]
  have hb : P.built T pv = some cells.toArray := by
    unfold Program.built
    unfold Cy at I
    unfold Cn at C
    cases hi : P.info? T with
    | none => rw [hi] at I; cases I
    | some it =>
      rw [hi] at I
      simp at I
      cases hu : P.underlying T with
      | none => rw [hu] at C; cases C
      | some d =>
        rw [hu] at C
        cases d <;> try (simp at C; done)
        case array n e =>
          simp only at C
          cases hie : P.info? e with
          | none => rw [hie] at C; cases C
          | some ie =>
            rw [hie] at C
            simp only [Option.map_some, Option.some.injEq] at C
            subst C
            simp only [I.2.2, hie, hz]
            refine Il _ _ _ (HF (fun i x J => ?_) _ _ _ h)
            simp only [List.getElem?_map] at J
            cases hr : (List.range n)[i]? with
            | none => rw [hr] at J; cases J
            | some j =>
              rw [hr] at J
              have : j = i := by
                have := List.getElem?_range (n := n) (i := i) (by
                  rcases Nat.lt_or_ge i n with h1 | h1
                  · exact h1
                  · rw [List.getElem?_eq_none (by simpa using h1)] at hr; cases hr)
                rw [this] at hr
                injection hr with hr
                exact hr.symm
              subst this
              simpa using J
        case struct fs =>
          simp only at C
          simp only [I.2.2, C, hz]
          exact Il _ _ _ (HF (fun i x J => by simpa using J) _ _ _ h)
  simp [run_build w T pv.toArray cells.toArray (by simpa using hb)]
theorem Da {z : Value} {zs : List Value} {m : Nat} (J : z.cells = zs.toArray) (hm : zs.length = m) (I : 0 < m) : ∀ len, (Array.range (len * m)).map (z.cells[· % z.cells.size]!) = ((List.replicate len zs).flatten).toArray
  | 0 => by simp
  | len + 1 => by
    have ih := Da J hm I len
    apply Array.ext'
    have hl := congrArg Array.toList ih
    rw [List.replicate_succ', List.flatten_append]
    simp only [Array.toList_map, Array.toList_range, List.flatten_cons, List.flatten_nil, List.append_nil] at hl ⊢
    rw [← hl, Nat.add_mul, Nat.one_mul, List.range_add, List.map_append]
    congr 1
    apply List.ext_getElem?
    intro j
    rw [List.map_map, List.getElem?_map]
    by_cases U : j < m
    · rw [List.getElem?_range U]
      have hs : z.cells.size = m := by rw [J]; simpa using hm
      have e : (len * m + j) % m = j := by rw [Nat.add_comm, Nat.add_mul_mod_self_right, Nat.mod_eq_of_lt U]
      simp only [Option.map_some, Function.comp, hs, e]
      have C : j < zs.length := by omega
      rw [J]
      simp [C]
    · rw [List.getElem?_eq_none θ, List.getElem?_eq_none ω]
      rfl
theorem BT {T E d len m bb : Nat} {t : TypeId} {pos : String} {I : Array Edge} {ps : List (Nat × Operand)} {pv : List (Nat × Value)} {z : Value} {zs cs : List Value}
    (hu : P.underlying T = some (.slice E)) (ht : Cy P E = some (m, bb, some z)) (hz : z.cells = zs.toArray) (hd : Nat.blt d n = true) (af : (ps.map fun p => (p.1, opv f p.2)) = pv) (hlen : (Nat.beq zs.length m && Nat.ble 1 m && Nat.ble (len * m) 10000) = true)
    (hf : Ej (fun i => some (i * m, m)) (List.replicate len zs).flatten pv = some cs)
    (h : ∀ b w', b = w.heap.size → Evo w w' [] → Blk w' b E cs → w'.heap.size = b + 1 → KL P B n ops k rest (upd f d (.slice (some ⟨b, 0, none⟩) len len)) w') :
    KL P B n ops k (⟨some d, .buildSlice T len ps.toArray, t, pos, I, none⟩ :: rest) f w := by
  refine Hs (v := .slice (some ⟨w.heap.size, 0, none⟩) len len) (w' := w.alloc (.cells cs.toArray E)) rfl rfl hd ?_ (h _ _ rfl (Evo.alloc _ _ _) (heap_alloc_new w _) (by simp))
  unfold execOp
  simp only []
  rw [Iz, af]
  simp only [Bool.and_eq_true, Nat.ble_eq] at hlen
  have al := Nat.eq_of_beq_eq_true hlen.1.1
  have J : ¬ (2 ^ 24 < len * m) := by have : (2:Nat) ^ 24 = 16777216 := (by decide); omega
  have j := Il _ _ _ hf
  rw [← Da hz al ω len] at j
  by_cases h0 : len * m = 0
  · have U : len = 0 := by
      rcases Nat.mul_eq_zero.1 h0 with h1 | h1
      · exact h1
      · omega
    subst U
    have e0 : ∀ g : Nat → Value, (Array.range 0).map g = #[] := fun g => Array.eq_empty_of_size_eq_zero (by simp)
    have C : Instr.fill (fun i => some (i * m, m)) #[] pv = some cs.toArray := by
      rw [show 0 * m = 0 by omega, e0] at j
      exact j
    simp [Instr.buildSlice, run_underlying hu, CF ht, newRow, e0, C]
  · simp [Instr.buildSlice, run_underlying hu, CF ht, ET ht, J, h0, newRow]
    rw [j]
    simp
end
def Row (w : World) (n : Nat) (ao : Option Addr) (b off cap : Nat) (css : List (List Value)) : Prop :=
  (css.length ≤ cap ∧ css.length ≤ 140737488355328) ∧ (css ≠ [] → ao = some ⟨b, off, none⟩) ∧ ∀ (i : Nat) cs, css[i]? = some cs → cs.length = n ∧ At w b (off + i * n) cs
section
variable {w0 w w' : World} {n : Nat} {ao : Option Addr} {b off cap : Nat} {css : List (List Value)} {E : List Nat}
theorem Row.evo (h : Row w n ao b off cap css) (he : Evo w w' E) (C : b ∉ E) : Row w' n ao b off cap css :=
  ⟨h.1, h.2.1, fun i cs j => ⟨(h.2.2 i cs j).1, (h.2.2 i cs j).2.evo he C⟩⟩
theorem Row.evo0 (h : Row w n ao b off cap css) (he : Evo w w' []) : Row w' n ao b off cap css := h.evo he (by simp)
theorem Row.bd (h : Row w n ao b off cap css) : css.length ≤ 140737488355328 := h.1.2
theorem Row.addr (h : Row w n ao b off cap css) {i : Nat} (j : i < css.length) : ao = some ⟨b, off, none⟩ := h.2.1 (by intro e; rw [e] at j; simp at j)
theorem Row.take (h : Row w n ao b off cap css) (k : Nat) : Row w n ao b off cap (css.take k) :=
  ⟨by have := h.1; simp; omega, fun C => h.2.1 (fun e => C (by simp [e])), fun i cs j => h.2.2 i cs (by
    rw [List.getElem?_take] at j
    split at j
    · exact j
    · cases j)⟩
theorem Row.drop (h : Row w n ao b off cap css) (k : Nat) : Row w n (if cap = k then ao else ao.map (·.add (k * n))) b (off + k * n) (cap - k) (css.drop k) := by
  refine ⟨by have := h.1; simp; omega, fun C => ?_, fun i cs J => ?_⟩
  · have j : k < css.length := by
      rcases Nat.lt_or_ge k css.length with h1 | h1
      · exact h1
      · exact absurd (List.drop_eq_nil_of_le h1) C
    have := h.1
    rw [if_neg ω, h.addr j]
    simp [add_lit]
  · have := h.2.2 (k + i) cs (by simpa using J)
    refine ⟨this.1, ?_⟩
    have I := this.2
    rw [Nat.add_mul] at I
    rwa [Nat.add_assoc]
end
class Enc (α : Type) where
  n : Nat
  enc : α → List Value
  len : ∀ x, (enc x).length = n
  one : ∀ x, A1 (enc x) = true
  pos : 0 < n
def RowE {α : Type} [Enc α] (w : World) (ao : Option Addr) (b off cap : Nat) (l : List α) : Prop := Row w (Enc.n α) ao b off cap (l.map Enc.enc)
section
variable {α : Type} [Enc α] {w w' : World} {ao : Option Addr} {b off cap : Nat} {l : List α} {E : List Nat}
theorem RowE.evo (h : RowE w ao b off cap l) (he : Evo w w' E) (j : b ∉ E) : RowE w' ao b off cap l := Row.evo h he j
theorem RowE.evo0 (h : RowE w ao b off cap l) (he : Evo w w' []) : RowE w' ao b off cap l := Row.evo0 h he
theorem RowE.at (h : RowE w ao b off cap l) (i : Nat) (j : i < l.length) : At w b (off + i * Enc.n α) (Enc.enc l[i]) :=
  (h.2.2 i _ (by simp [j])).2
theorem RowE.atD [Inhabited α] (h : RowE w ao b off cap l) (i : Nat) (j : i < l.length) : At w b (off + i * Enc.n α) (Enc.enc (l.getD i default)) := by
  have := h.at i j
  rwa [show l.getD i default = l[i] from by simp [List.getD, j]]
theorem RowE.addr (h : RowE w ao b off cap l) {i : Nat} (j : i < l.length) : ao = some ⟨b, off, none⟩ := Row.addr h (i := i) (by simpa using j)
theorem RowE.le (h : RowE w ao b off cap l) : l.length ≤ cap := by have := h.1.1; simpa using this
theorem RowE.bd (h : RowE w ao b off cap l) : l.length ≤ 140737488355328 := by have := h.1.2; simpa using this
theorem RowE.take (h : RowE w ao b off cap l) (k : Nat) : RowE w ao b off cap (l.take k) := by
  have := Row.take h k
  unfold RowE
  rwa [List.map_take]
theorem RowE.drop (h : RowE w ao b off cap l) (k : Nat) : RowE w (if cap = k then ao else ao.map (·.add (k * Enc.n α))) b (off + k * Enc.n α) (cap - k) (l.drop k) := by
  have := Row.drop h k
  unfold RowE
  rwa [List.map_drop]
theorem RowE.nil (w : World) (ao : Option Addr) (b off cap : Nat) : RowE (α := α) w ao b off cap [] := ⟨by simp, by simp, by simp⟩
end
class Rep (α : Type) where
  n : Nat
  rep : World → List Value → α → Prop
  len : ∀ {w cs x}, rep w cs x → cs.length = n
  evo0 : ∀ {w w' cs x}, rep w cs x → Evo w w' [] → rep w' cs x
  pos : 0 < n
def RepL {α : Type} [Rep α] (w : World) (css : List (List Value)) (l : List α) : Prop := css.length = l.length ∧ ∀ (i : Nat) cs x, css[i]? = some cs → l[i]? = some x → Rep.rep w cs x
def RowR {α : Type} [Rep α] (w : World) (ao : Option Addr) (b off cap : Nat) (l : List α) : Prop := ∃ css, Row w (Rep.n α) ao b off cap css ∧ RepL w css l
section
variable {α : Type} [Rep α] {w w' : World} {ao : Option Addr} {b off cap : Nat} {l : List α} {css : List (List Value)}
theorem RepL.evo0 (h : RepL w css l) (he : Evo w w' []) : RepL w' css l := ⟨h.1, fun i cs x h1 j => Rep.evo0 (h.2 i cs x h1 j) he⟩
theorem RepL.nil (w : World) : RepL (α := α) w [] [] := ⟨rfl, by simp⟩
theorem RepL.take (h : RepL w css l) (k : Nat) : RepL w (css.take k) (l.take k) := ⟨by simp [h.1], fun i cs x h1 j => by
  rw [List.getElem?_take] at h1 j
  split at h1
  · rename_i hi
    rw [if_pos hi] at j
    exact h.2 i cs x h1 j
  · cases h1⟩
theorem RepL.drop (h : RepL w css l) (k : Nat) : RepL w (css.drop k) (l.drop k) := ⟨by simp [h.1], fun i cs x h1 j => h.2 (k + i) cs x (by simpa using h1) (by simpa using j)⟩
theorem RepL.append {j : List (List Value)} {l' : List α} (h : RepL w css l) (I : RepL w j l') : RepL w (css ++ j) (l ++ l') := ⟨by simp [h.1, I.1], fun i cs x h1 C => by
  by_cases J : i < css.length
  · rw [List.getElem?_append_left J] at h1
    rw [List.getElem?_append_left (by rw [← h.1]; exact J)] at C
    exact h.2 i cs x h1 C
  · rw [List.getElem?_append_right ω] at h1
    rw [List.getElem?_append_right (by rw [← h.1]; omega), ← h.1] at C
    exact I.2 _ cs x h1 C⟩
theorem RepL.one {cs : List Value} {x : α} (h : Rep.rep w cs x) : RepL w [cs] [x] := ⟨rfl, fun i cs' x' h1 h2 => by
  cases i with
  | zero => simp at h1 h2; subst h1; subst h2; exact h
  | succ i => simp at h1⟩
theorem RowR.evo0 (h : RowR w ao b off cap l) (he : Evo w w' []) : RowR w' ao b off cap l := let ⟨css, h1, h2⟩ := h; ⟨css, h1.evo0 he, h2.evo0 he⟩
theorem RowR.addr (h : RowR w ao b off cap l) {i : Nat} (j : i < l.length) : ao = some ⟨b, off, none⟩ := let ⟨_, h1, h2⟩ := h; h1.addr (i := i) (by rw [h2.1]; exact j)
theorem RowR.le (h : RowR w ao b off cap l) : l.length ≤ cap := let ⟨_, h1, h2⟩ := h; by rw [← h2.1]; exact h1.1.1
theorem RowR.bd (h : RowR w ao b off cap l) : l.length ≤ 140737488355328 := let ⟨_, h1, h2⟩ := h; by rw [← h2.1]; exact h1.1.2
theorem RowR.atD [Inhabited α] (h : RowR w ao b off cap l) (i : Nat) (I : i < l.length) : ∃ cs, At w b (off + i * Rep.n α) cs ∧ Rep.rep w cs (l.getD i default) := by
  obtain ⟨css, h1, C⟩ := h
  have j : i < css.length := by rw [C.1]; exact I
  refine ⟨css[i], (h1.2.2 i _ (by simp [j])).2, C.2 i _ _ (by simp [j]) (by simp [List.getD, I])⟩
theorem RowR.take (h : RowR w ao b off cap l) (k : Nat) : RowR w ao b off cap (l.take k) := let ⟨css, h1, h2⟩ := h; ⟨css.take k, h1.take k, h2.take k⟩
theorem RowR.drop (h : RowR w ao b off cap l) (k : Nat) : RowR w (if cap = k then ao else ao.map (·.add (k * Rep.n α))) b (off + k * Rep.n α) (cap - k) (l.drop k) := let ⟨css, h1, h2⟩ := h; ⟨css.drop k, h1.drop k, h2.drop k⟩
theorem RowR.nil (w : World) (ao : Option Addr) (b off cap : Nat) : RowR (α := α) w ao b off cap [] := ⟨[], ⟨by simp, by simp, by simp⟩, RepL.nil w⟩
end
def RowRK {α : Type} [Rep α] (w : World) (E : List Nat) (ao : Option Addr) (b off cap : Nat) (l : List α) : Prop :=
  ∃ css, ∀ w', Evo w w' E → Row w' (Rep.n α) ao b off cap css ∧ RepL w' css l
section
variable {α : Type} [Rep α] {w w' : World} {ao : Option Addr} {b off cap : Nat} {l : List α} {E : List Nat}
theorem RowRK.now (h : RowRK w E ao b off cap l) (he : Evo w w' E) : RowR w' ao b off cap l := let ⟨css, h1⟩ := h; ⟨css, h1 w' he⟩
theorem RowR.keep (h : RowR w ao b off cap l) : RowRK w [] ao b off cap l := let ⟨css, h1, h2⟩ := h; ⟨css, fun _ he => ⟨h1.evo0 he, h2.evo0 he⟩⟩
theorem RowRK.addr (h : RowRK w E ao b off cap l) {i : Nat} (j : i < l.length) : ao = some ⟨b, off, none⟩ := (h.now (Evo.refl _ _)).addr j
theorem RowRK.bd (h : RowRK w E ao b off cap l) : l.length ≤ 140737488355328 := (h.now (Evo.refl _ _)).bd
theorem RowRK.take (h : RowRK w E ao b off cap l) (k : Nat) : RowRK w E ao b off cap (l.take k) := let ⟨css, h1⟩ := h; ⟨css.take k, fun w' he => ⟨(h1 w' he).1.take k, (h1 w' he).2.take k⟩⟩
theorem RowRK.drop (h : RowRK w E ao b off cap l) (k : Nat) : RowRK w E (if cap = k then ao else ao.map (·.add (k * Rep.n α))) b (off + k * Rep.n α) (cap - k) (l.drop k) := let ⟨css, h1⟩ := h; ⟨css.drop k, fun w' he => ⟨(h1 w' he).1.drop k, (h1 w' he).2.drop k⟩⟩
theorem RowRK.atD [Inhabited α] (h : RowRK w E ao b off cap l) (i : Nat) (C : i < l.length) : ∃ cs, ∀ w', Evo w w' E → At w' b (off + i * Rep.n α) cs ∧ Rep.rep w' cs (l.getD i default) := by
  obtain ⟨css, h1⟩ := h
  have I := (h1 w (Evo.refl _ _)).2.1
  have j : i < css.length := by rw [I]; exact C
  exact ⟨css[i], fun w' he => ⟨((h1 w' he).1.2.2 i _ (by simp [j])).2, (h1 w' he).2.2 i _ _ (by simp [j]) (by simp [List.getD, C])⟩⟩
end
theorem A9 {α : Type} [Enc α] {w : World} {ao : Option Addr} {b off cap : Nat} {l : List α} (h : RowE w ao b off cap l) : ∀ w', Evo w w' [] → RowE w' ao b off cap l := fun _ he => h.evo0 he
section
variable {P : Program} {f : Fr} {w : World} {o : Oper}
theorem Ab {T E : TypeId} {x y : Operand} {ao : Option Addr} {b off len cap m J : Nat} {z : Option Value} {κ : IntKind} {i : Int} (j : Nat) (ho : o.op = .indexAddr T x y) (hu : P.underlying T = some (.slice E))
    (ht : Cy P E = some (m, J, z)) (hx : opv f x = .slice ao len cap) (hy : opv f y = .int κ i) (I : i = (j : Int)) (U : j < len) (C : ao = some ⟨b, off, none⟩) :
    (execOp (opv f) o).run P w = .ok (.value (.pointer (some ⟨b, off + j * m, none⟩))) w := by
  subst I
  subst C
  unfold execOp; rw [ho]; simp only []; rw [hx, hy]
  have h1 : (0 : Int) ≤ (j : Int) ∧ (j : Int) < (len : Int) := by omega
  simp [Instr.indexAt, run_underlying hu, asIntOf, CF ht, h1, add_lit]
  intro h2
  omega
theorem M5 {isS : Bool} {len cap l h : Nat} {J C : Option Value} (I : (J = none ∧ l = 0) ∨ ∃ κ, J = some (.int κ (l : Int))) (j : (C = none ∧ h = len) ∨ ∃ κ, C = some (.int κ (h : Int)))
    (h1 : l ≤ h) (h2 : h ≤ cap) : (Instr.sliceBounds isS len cap J C none).run P w = .ok (l, h, cap) w := by
  have U : ∀ κ code, (Instr.sliceBound (.int κ (l : Int)) h code).run P w = .ok l w := fun κ code => by
    rw [run_sliceBound w κ l h code ω ω]; simp
  have e2 : ∀ κ code, (Instr.sliceBound (.int κ (h : Int)) cap code).run P w = .ok h w := fun κ code => by
    rw [run_sliceBound w κ h cap code ω ω]; simp
  rcases I with ⟨rfl, rfl⟩ | ⟨κ, rfl⟩ <;> rcases j with ⟨rfl, rfl⟩ | ⟨ag, rfl⟩ <;> simp [Instr.sliceBounds, U, e2]
theorem K1 {T E : TypeId} {x : Operand} {ao : Option Addr} {len cap m U : Nat} {z : Option Value} {C j : Option Operand} (l h : Nat) (ho : o.op = .slice T x C j none) (hu : P.underlying T = some (.slice E))
    (ht : Cy P E = some (m, U, z)) (hx : opv f x = .slice ao len cap)
    (J : (C.map (opv f) = none ∧ l = 0) ∨ ∃ κ, C.map (opv f) = some (.int κ (l : Int))) (I : (j.map (opv f) = none ∧ h = len) ∨ ∃ κ, j.map (opv f) = some (.int κ (h : Int))) (h1 : l ≤ h) (h2 : h ≤ cap) :
    (execOp (opv f) o).run P w = .ok (.value (.slice (if cap = l then ao else ao.map (·.add (l * m))) (h - l) (cap - l))) w := by
  unfold execOp; rw [ho]; simp only []; rw [hx, Option.map_none]
  have e1 : (Instr.sliceAt T (.slice ao len cap) (C.map (opv f)) (j.map (opv f)) none).run P w = .ok (.slice (if cap = l then ao else ao.map (·.add (l * m))) (h - l) (cap - l)) w := by
    have hb := M5 (P := P) (w := w) (isS := true) J I h1 h2
    simp only [Instr.sliceAt, Instr.slice, Sem.run_bind, run_underlying hu, Result.andThen_ok, hb, CF ht, Sem.run_pure]
  simp [e1]
theorem GP {T : TypeId} {x : Operand} {s : List UInt8} {C j : Option Operand} (l h : Nat) (ho : o.op = .slice T x C j none) (hu : P.underlying T = some .string) (hx : opv f x = S s)
    (J : (C.map (opv f) = none ∧ l = 0) ∨ ∃ κ, C.map (opv f) = some (.int κ (l : Int))) (I : (j.map (opv f) = none ∧ h = s.length) ∨ ∃ κ, j.map (opv f) = some (.int κ (h : Int))) (h1 : l ≤ h) (h2 : h ≤ s.length) :
    (execOp (opv f) o).run P w = .ok (.value (S ((s.drop l).take (h - l)))) w := by
  unfold execOp; rw [ho]; simp only []; rw [hx, Option.map_none]
  have e0 : (ByteArray.mk s.toArray).extract l h = ⟨((s.drop l).take (h - l)).toArray⟩ := by
    have := Lib.extract_eq (ByteArray.mk s.toArray) l h
    simpa using this
  have U : (ByteArray.mk s.toArray).size = s.length := QC s
  have e1 : (Instr.sliceAt T (S s) (C.map (opv f)) (j.map (opv f)) none).run P w = .ok (S ((s.drop l).take (h - l))) w := by
    unfold S
    have hb := M5 (P := P) (w := w) (isS := false) (len := s.length) (cap := s.length) J I h1 h2
    simp only [Instr.sliceAt, Instr.slice, Sem.run_bind, run_underlying hu, Result.andThen_ok, U, Option.isSome_none, Bool.false_eq_true, if_false, hb, Sem.run_pure, e0]
  simp [e1]
theorem cx {f : Fr} : ((none : Option Operand).map (opv f) = none ∧ (0 : Nat) = 0) ∨ ∃ κ, (none : Option Operand).map (opv f) = some (.int κ ((0 : Nat) : Int)) := .inl ⟨rfl, rfl⟩
theorem Zp {f : Fr} {n : Nat} : ((none : Option Operand).map (opv f) = none ∧ n = n) ∨ ∃ κ, (none : Option Operand).map (opv f) = some (.int κ (n : Int)) := .inl ⟨rfl, rfl⟩
theorem W5 {f : Fr} {l n : Nat} {y : Operand} {κ : IntKind} {i : Int} (h : opv f y = .int κ i) (j : i = (l : Int)) : ((some y).map (opv f) = none ∧ l = n) ∨ ∃ κ, (some y).map (opv f) = some (.int κ (l : Int)) := .inr ⟨κ, by simp [h, j]⟩
theorem Bb {T : TypeId} {x y : Operand} {s : List UInt8} {κ : IntKind} {i : Int} (j : Nat) (ho : o.op = .index T x y) (hu : P.underlying T = some .string) (hx : opv f x = S s) (hy : opv f y = .int κ i) (I : i = (j : Int)) (C : j < s.length) :
    (execOp (opv f) o).run P w = .ok (.value (.int .u8 ((s.getD j 0).toNat : Int))) w := by
  subst I
  unfold execOp; rw [ho]; simp only []; rw [hx, hy]
  unfold S
  have U : (ByteArray.mk s.toArray)[j]? = some (s.getD j 0) := by
    have J : j < (ByteArray.mk s.toArray).size := by rw [QC]; exact C
    rw [getElem?_pos (ByteArray.mk s.toArray) j J]
    congr 1
    simp [List.getD, C]
    rfl
  simp [Instr.index, run_underlying hu, asIntOf, U]
end
structure Own (w : World) (base : Nat) (E : TypeId) (m : Nat) (v : Value) (css : List (List Value)) : Prop where
  row : w.ownsRow base E m v css.length css.flatten
  each : ∀ cs ∈ css, cs.length = m
  bd : css.length ≤ 140737488355328
theorem Ea : ∀ (css : List (List Value)) (m i j : Nat) (cs : List Value), (∀ cs ∈ css, cs.length = m) → css[i]? = some cs → j < m → css.flatten[i * m + j]? = cs[j]?
  | [], _, _, _, _, _, h, _ => by simp at h
  | c :: css, m, 0, j, cs, hm, h, hj => by
    simp at h
    subst h
    have C : c.length = m := hm c (by simp)
    simp only [List.flatten_cons, Nat.zero_mul, Nat.zero_add]
    rw [List.getElem?_append_left ω]
  | c :: css, m, i + 1, j, cs, hm, h, hj => by
    have C : c.length = m := hm c (by simp)
    have J := Ea css m i j cs (fun x I => hm x (by simp [I])) (by simpa using h) hj
    simp only [List.flatten_cons]
    have e : (i + 1) * m + j = c.length + (i * m + j) := by rw [C, Nat.add_mul]; omega
    rw [e, List.getElem?_append_right ω]
    simpa using J
theorem Bm : ∀ (css : List (List Value)) (m : Nat), (∀ cs ∈ css, cs.length = m) → css.flatten.length = css.length * m
  | [], _, _ => by simp
  | c :: css, m, hm => by
    have := Bm css m (fun x hx => hm x (by simp [hx]))
    simp only [List.flatten_cons, List.length_append, List.length_cons, this, hm c (by simp), Nat.add_mul]
    omega
section
variable {w w' : World} {base : Nat} {E : TypeId} {m : Nat} {v : Value} {css : List (List Value)}
theorem Own.nil (w : World) (base : Nat) (E : TypeId) (m : Nat) : Own w base E m (.slice none 0 0) [] := ⟨World.ownsRow_nil w base E m, by simp, by simp⟩
theorem Own.form (h : Own w base E m v css) : (v = .slice none 0 0 ∧ css = []) ∨ ∃ g cap, v = .slice (some ⟨g, 0, none⟩) css.length cap ∧ base ≤ g ∧ g < w.heap.size ∧ css.length ≤ cap ∧ cap ≤ maxLen := by
  rcases h.row.2 with ⟨hv, hn⟩ | ⟨g, cap, cur, hv, hb, hg, hn, hc, _⟩
  · exact .inl ⟨hv, List.eq_nil_of_length_eq_zero hn⟩
  · refine .inr ⟨g, cap, hv, hb, ?_, hn, hc⟩
    rcases Nat.lt_or_ge g w.heap.size with h1 | h1
    · exact h1
    · rw [Array.getElem?_eq_none h1] at hg; cases hg
theorem Own.shape (h : Own w base E m v css) : ∃ ao cap, v = .slice ao css.length cap := by
  rcases h.form with ⟨hv, hc⟩ | ⟨g, cap, hv, _⟩
  · exact ⟨none, 0, by rw [hv, hc]; rfl⟩
  · exact ⟨_, cap, hv⟩
theorem Own.block (h : Own w base E m v css) {g : Nat} (j : v.ownBlock = some g) : base ≤ g ∧ g < w.heap.size := h.row.lt g j
theorem Own.evo {X : List Nat} (h : Own w base E m v css) (he : Evo w w' X) (C : ∀ g, v.ownBlock = some g → g ∉ X) : Own w' base E m v css := by
  refine ⟨⟨h.row.1, ?_⟩, h.each, h.bd⟩
  rcases h.row.2 with hv | ⟨g, cap, cur, hv, hb, hg, r⟩
  · exact .inl hv
  · refine .inr ⟨g, cap, cur, hv, hb, ?_, r⟩
    have j : g < w.heap.size := (h.row.lt g (by rw [hv]; rfl)).2
    exact (he.same g j (C g (by rw [hv]; rfl))).trans hg
theorem Own.evo0 (h : Own w base E m v css) (he : Evo w w' []) : Own w' base E m v css := h.evo he (by simp)
theorem Own.base_le {j : Nat} (h : Own w base E m v css) (C : j ≤ base) : Own w j E m v css := by
  refine ⟨⟨h.row.1, ?_⟩, h.each, h.bd⟩
  rcases h.row.2 with hv | ⟨g, cap, cur, hv, hbg, r⟩
  · exact .inl hv
  · exact .inr ⟨g, cap, cur, hv, Nat.le_trans C hbg, r⟩
theorem Own.rowOf (h : Own w base E m v css) : ∃ ao g cap, v = .slice ao css.length cap ∧ Row w m ao g 0 cap css ∧ (css ≠ [] → v.ownBlock = some g ∧ base ≤ g ∧ g < w.heap.size) := by
  rcases h.row.2 with ⟨hv, hn⟩ | ⟨g, cap, cur, hv, hb, hg, hn, hc, hs, ht⟩
  · have hc : css = [] := List.eq_nil_of_length_eq_zero hn
    subst hc
    exact ⟨none, 0, 0, hv, ⟨by simp, by simp, by simp⟩, by simp⟩
  · refine ⟨some ⟨g, 0, none⟩, g, cap, hv, ⟨⟨hn, h.bd⟩, fun _ => rfl, fun i cs I => ⟨h.each cs (List.mem_of_getElem? I), ?_⟩⟩, fun _ => ⟨by rw [hv]; rfl, h.block (by rw [hv]; rfl)⟩⟩
    intro j u hj
    have U : j < m := by
      have h1 := h.each cs (List.mem_of_getElem? I)
      have C : j < cs.length := by
        rcases Nat.lt_or_ge j cs.length with C | C
        · exact C
        · rw [List.getElem?_eq_none C] at hj; cases hj
      omega
    have J : i < css.length := by
      rcases Nat.lt_or_ge i css.length with C | C
      · exact C
      · rw [List.getElem?_eq_none C] at I; cases I
    have h3 := Ea css m i j cs h.each I U
    have h4 : i * m + j < css.length * m := by
      have : (i + 1) * m ≤ css.length * m := Nat.mul_le_mul_right _ J
      rw [Nat.add_mul] at this
      omega
    rw [cell_of_row w g _ cur E (0, 0) hg, Nat.zero_add]
    rw [← ht, List.getElem?_take_of_lt h4] at h3
    rw [← Array.getElem?_toList, h3]
    exact hj
theorem Own.row_of (h : Own w base E m v css) {ao : Option Addr} {len cap : Nat} (hv : v = .slice ao len cap) : len = css.length ∧ ∃ g, Row w m ao g 0 cap css ∧ (css ≠ [] → v.ownBlock = some g ∧ base ≤ g ∧ g < w.heap.size) := by
  obtain ⟨I, g, C, j, U, J⟩ := h.rowOf
  rw [hv] at j
  injection j with h1 h2 h3
  subst h1
  subst h3
  exact ⟨h2, g, U, J⟩
end
theorem WQ {w : World} {m b off : Nat} {news : List (List Value)} (h : ∀ (i : Nat) cs, news[i]? = some cs → cs.length = m ∧ At w b (off + i * m) cs) (hm : 0 < m) :
    ∀ j u, news.flatten[j]? = some u → w.cell? ⟨b, off + j, none⟩ = some u := by
  intro j u hj
  have C : ∀ cs ∈ news, cs.length = m := fun cs ag => by
    obtain ⟨i, U⟩ := List.getElem?_of_mem ag
    exact (h i cs U).1
  have hlen := Bm news m C
  have I : j < news.flatten.length := by
    rcases Nat.lt_or_ge j news.flatten.length with h1 | h1
    · exact h1
    · rw [List.getElem?_eq_none h1] at hj; cases hj
  have al := Nat.div_add_mod j m
  have J : j % m < m := Nat.mod_lt _ hm
  have U : j / m < news.length := by
    rw [hlen] at I
    exact (Nat.div_lt_iff_lt_mul hm).2 I
  have hc := Ea news m (j / m) (j % m) news[j / m] C (by simp [U]) J
  have e : j / m * m + j % m = j := by rw [Nat.mul_comm]; exact al
  rw [e] at hc
  rw [hj] at hc
  have := (h (j / m) news[j / m] (by simp [U])).2 (j % m) u hc.symm
  rw [Nat.add_assoc, e] at this
  exact this
section
variable {P : Program} {B : Exit → Act → World → Prop} {n : Nat} {k : List Kont} {f : Fr} {w : World} {ops : Array Oper} {rest : List Oper}
theorem GK {E m j : Nat} {z : Value} (h : Cy P E = some (m, j, some z)) : ∃ i, P.info? E = some i ∧ i.size = m ∧ i.bytes = j ∧ i.zero = some z := by
  unfold Cy at h
  cases hi : P.info? E with
  | none => rw [hi] at h; cases h
  | some i => rw [hi] at h; simp at h; exact ⟨i, rfl, h.1, h.2.1, h.2.2⟩
theorem QD {T E ty : TypeId} {m I : Nat} {z : Value} (hu : P.underlying T = some (.slice E)) (J : Cy P E = some (m, I, some z)) (base : Nat) {v : Value} {css : List (List Value)}
    (j : Own w base E m v css) (ao : Option Addr) (cap : Nat) : (Builtin.append_ #[T, T] ty #[v, .slice ao 0 cap]).run P w = .ok v w := by
  obtain ⟨i, C, hs, U, hz⟩ := GK J
  rcases j.form with ⟨rfl, _⟩ | ⟨g, c, rfl, _, _, hn, _⟩
  · cases ao <;> simp [Builtin.append_, run_underlying hu, sizeOf, typeInfo, C, Builtin.lenOf, Builtin.firstCells, loadCells, loadCellsFrom]
  · cases ao <;> simp [Builtin.append_, run_underlying hu, sizeOf, typeInfo, C, Builtin.lenOf, Builtin.firstCells, loadCells, loadCellsFrom, hn, storeCells]
theorem Mq {T E ty : TypeId} {m bb : Nat} {z : Value} (hu : P.underlying T = some (.slice E)) (ht : Cy P E = some (m, bb, some z)) (ba : z.cells.size = m) (hm : 0 < m) (base : Nat) {v : Value} {css news : List (List Value)}
    (C : Own w base E m v css) {ao : Option Addr} {b off cap : Nat} (hr : Row w m ao b off cap news) (h1 : ∀ cs ∈ news, A1 cs = true)
    (I : (css.length + news.length) * bb ≤ 140737488355328) (hlen : css.length + news.length ≤ 140737488355328) (af : base ≤ w.heap.size) :
    ∃ v' w', (Builtin.append_ #[T, T] ty #[v, .slice ao news.length cap]).run P w = .ok v' w' ∧ Own w' base E m v' (css ++ news) ∧ Evo w w' v.ownBlock.toList ∧
      (v'.ownBlock = v.ownBlock ∨ v'.ownBlock = some w.heap.size) := by
  cases news with
  | nil => exact ⟨v, w, QD hu ht base C ao cap, by simpa using C, Evo.refl _ _, .inl rfl⟩
  | cons c cs =>
    obtain ⟨i, hi, hs, hb, hz⟩ := GK ht
    obtain rfl : ao = some ⟨b, off, none⟩ := hr.2.1 (by simp)
    have U : ∀ x ∈ (c :: cs), x.length = m := fun x J => by
      obtain ⟨j, hj⟩ := List.getElem?_of_mem J
      exact (hr.2.2 j x hj).1
    obtain ⟨v', w', az, ag, hg, _, au⟩ := run_append_own_at (P := P) (w := w) base T ty E i z m bb hu hi hz hs hb ba hm v css.length css.flatten C.row ⟨b, off, none⟩ (c :: cs).length cap (c :: cs).flatten
      (Bm _ _ U) (fun j u hj => by rw [add_lit]; exact WQ hr.2.2 hm j u hj) (fun u hu => by
        obtain ⟨x, J, a_⟩ := List.mem_flatten.1 hu
        exact List.all_eq_true.1 (h1 x J) u a_) (by unfold maxLen; omega) I af
    refine ⟨v', w', az, ⟨by simpa [List.flatten_append] using ag, fun x J => ?_, by simpa using hlen⟩, Evo.grown hg, au⟩
    rcases List.mem_append.1 J with J | J
    · exact C.each x J
    · exact U x J
theorem Sx {T E d m bb : Nat} {t : TypeId} {pos : String} {al : Array Edge} {x y : Operand} {z : Value} {base : Nat} {v : Value} {css news : List (List Value)} {ao : Option Addr} {b off len cap : Nat}
    (hd : Nat.blt d n = true) (hu : P.underlying T = some (.slice E)) (ht : Cy P E = some (m, bb, some z)) (au : z.cells.size = m) (hm : 0 < m)
    (af : Own w base E m v css) (hx : opv f x = v) (hy : opv f y = .slice ao len cap) (hr : Row w m ao b off cap news) (hl : len = news.length) (h1 : ∀ cs ∈ news, A1 cs = true)
    (j : (css.length + news.length) * bb ≤ 140737488355328) (hlen : css.length + news.length ≤ 140737488355328) (C : base ≤ w.heap.size)
    (h : ∀ J w', Evo w w' v.ownBlock.toList → Own w' base E m J (css ++ news) → (J.ownBlock = v.ownBlock ∨ J.ownBlock = some w.heap.size) → KL P B n ops k rest (upd f d J) w') :
    KL P B n ops k (⟨some d, .call ⟨.builtin .append, #[x, y], #[T, T]⟩, t, pos, al, none⟩ :: rest) f w := by
  subst hl
  obtain ⟨J, w', ag, I, he, U⟩ := Mq (P := P) (ty := t) hu ht au hm base af (cap := cap) hr h1 j hlen C
  refine Hs rfl rfl hd ?_ (h J w' he I U)
  exact CA (s := Builtin.append_ #[T, T] t #[v, .slice ao news.length cap]) rfl (by simp [hx, hy]) (fun cs => rfl) ag
theorem WS {T E d d1 m bb : Nat} {t t1 : TypeId} {pos aS : String} {aT af : Array Edge} {x e : Operand} {z : Value} {base : Nat} {v u : Value} {css : List (List Value)} {us : List Value}
    (hd : Nat.blt d n = true) (cA : Nat.blt d1 n = true) (hu : P.underlying T = some (.slice E)) (ht : Cy P E = some (m, bb, some z)) (J : z.cells.size = m) (hm : (Nat.ble 1 m && Nat.ble m 10000) = true)
    (al : Own w base E m v css) (hx : ∀ q, opv (upd f d1 q) x = v) (he : opv f e = u) (az : u.cells = us.toArray) (ag : us.length = m) (h1 : A1 us = true)
    (j : (css.length + 1) * bb ≤ 140737488355328) (hlen : css.length + 1 ≤ 140737488355328) (C : base ≤ w.heap.size)
    (h : ∀ q U w', Evo w w' v.ownBlock.toList → Own w' base E m U (css ++ [us]) → (U.ownBlock = v.ownBlock ∨ ∃ g, U.ownBlock = some g ∧ w.heap.size ≤ g) → KL P B n ops k rest (upd (upd f d1 q) d U) w') :
    KL P B n ops k (⟨some d1, .buildSlice T 1 #[(0, e)], t1, aS, af, none⟩ :: ⟨some d, .call ⟨.builtin .append, #[x, .tmp d1], #[T, T]⟩, t, pos, aT, none⟩ :: rest) f w := by
  simp only [Bool.and_eq_true, Nat.ble_eq] at hm
  obtain ⟨zs, hz⟩ : ∃ zs : List Value, z.cells = zs.toArray := ⟨z.cells.toList, by simp⟩
  have I : zs.length = m := by rw [hz] at J; simpa using J
  have a_ : u.cells.toList.length = m := by rw [az]; simpa using ag
  refine BT (cs := us) (zs := zs) (pv := [(0, u)]) hu ht hz cA (by simp [he]) (by simp [I]; omega) ?_ ?_
  · have h1 : Nat.beq u.cells.toList.length m = true := by rw [a_]; simp
    have h2 : Nat.ble (0 * m + m) (List.replicate 1 zs).flatten.length = true := by simp [I]
    simp only [Ej, h1, h2, Bool.and_self, cond_true]
    congr 1
    rw [az]
    simp [I]
  intro b w1 hb hev hB hs
  have au : Row w1 m (some ⟨b, 0, none⟩) b 0 1 [us] := ⟨by simp, fun _ => rfl, fun i cs hi => by
    cases i with
    | zero => simp at hi; subst hi; exact ⟨ag, by simpa using hB.at⟩
    | succ i => simp at hi⟩
  refine Sx (len := 1) (cap := 1) (b := b) (off := 0) (news := [us]) hd hu ht J hm.1 (al.evo0 hev) (hx _) (by simp only [opv, En]) au rfl (by simpa using h1) (by simpa using j) (by simpa using hlen) (Nat.le_trans C hev.size) ?_
  intro U w' he' hown' hloc
  refine h _ U w' ((hev.mono (by simp)).trans he' (fun x hx _ => hx)) hown' ?_
  rcases hloc with hloc | hloc
  · exact .inl hloc
  · exact .inr ⟨_, hloc, hev.size⟩
end
def OwnE {α : Type} [Enc α] (w : World) (base : Nat) (E : TypeId) (v : Value) (l : List α) : Prop := Own w base E (Enc.n α) v (l.map Enc.enc)
section
variable {α : Type} [Enc α] {w w' : World} {base : Nat} {E : TypeId} {v : Value} {l : List α}
theorem OwnE.nil (w : World) (base : Nat) (E : TypeId) : OwnE (α := α) w base E (.slice none 0 0) [] := Own.nil w base E _
theorem OwnE.form (h : OwnE w base E v l) : (v = .slice none 0 0 ∧ l = []) ∨ ∃ g cap, v = .slice (some ⟨g, 0, none⟩) l.length cap ∧ base ≤ g ∧ g < w.heap.size ∧ l.length ≤ cap ∧ cap ≤ maxLen := by
  rcases Own.form h with ⟨h1, h2⟩ | ⟨g, cap, h1, h2⟩
  · exact .inl ⟨h1, by simpa using h2⟩
  · exact .inr ⟨g, cap, by simpa using h1, by simpa using h2⟩
theorem OwnE.shape (h : OwnE w base E v l) : ∃ ao cap, v = .slice ao l.length cap := by
  obtain ⟨ao, cap, h1⟩ := Own.shape h
  exact ⟨ao, cap, by simpa using h1⟩
theorem OwnE.bd (h : OwnE w base E v l) : l.length ≤ 140737488355328 := by have := Own.bd h; simpa using this
theorem OwnE.block (h : OwnE w base E v l) {g : Nat} (j : v.ownBlock = some g) : base ≤ g ∧ g < w.heap.size := Own.block h j
theorem OwnE.evo {X : List Nat} (h : OwnE w base E v l) (he : Evo w w' X) (j : ∀ g, v.ownBlock = some g → g ∉ X) : OwnE w' base E v l := Own.evo h he j
theorem OwnE.evo0 (h : OwnE w base E v l) (he : Evo w w' []) : OwnE w' base E v l := Own.evo0 h he
theorem OwnE.base_le {j : Nat} (h : OwnE w base E v l) (C : j ≤ base) : OwnE w j E v l := Own.base_le h C
theorem Ci {P : Program} {f : Fr} {o : Oper} {t e : TypeId} {x : Operand} (C : o.op = .call ⟨.builtin .len, #[x], #[t]⟩) (J : opv f x = v) (I : P.underlying t = some (.slice e))
    (j : OwnE w base E v l) : (execOp (opv f) o).run P w = .ok (.value (.int .i64 (l.length : Int))) w := by
  obtain ⟨ao, cap, rfl⟩ := j.shape
  exact AQ C J I
theorem BL {P : Program} {B : Exit → Act → World → Prop} {n : Nat} {k : List Kont} {f : Fr} {ops : Array Oper} {rest : List Oper} {T d d1 bb m : Nat} {t t1 : TypeId} {pos af : String} {ag J : Array Edge} {x e : Operand} {z u : Value} {y : α}
    (hd : Nat.blt d n = true) (cA : Nat.blt d1 n = true) (hu : P.underlying T = some (.slice E)) (ht : Cy P E = some (m, bb, some z)) (hm : (m == Enc.n α && z.cells.size == Enc.n α && Nat.ble m 10000) = true)
    (U : OwnE w base E v l) (hx : ∀ q, opv (upd f d1 q) x = v) (he : opv f e = u) (al : u.cells = (Enc.enc y).toArray)
    (j : (l.length + 1) * bb ≤ 140737488355328) (hlen : l.length + 1 ≤ 140737488355328) (C : base ≤ w.heap.size)
    (h : ∀ q I w', Evo w w' v.ownBlock.toList → OwnE w' base E I (l ++ [y]) → (I.ownBlock = v.ownBlock ∨ ∃ g, I.ownBlock = some g ∧ w.heap.size ≤ g) → KL P B n ops k rest (upd (upd f d1 q) d I) w') :
    KL P B n ops k (⟨some d1, .buildSlice T 1 #[(0, e)], t1, af, J, none⟩ :: ⟨some d, .call ⟨.builtin .append, #[x, .tmp d1], #[T, T]⟩, t, pos, ag, none⟩ :: rest) f w := by
  simp only [Bool.and_eq_true, beq_iff_eq, Nat.ble_eq] at hm
  obtain ⟨⟨rfl, h2⟩, h3⟩ := hm
  have hp := Enc.pos (α := α)
  refine WS (us := Enc.enc y) hd cA hu ht h2 θ U hx he al (Enc.len y) (Enc.one y) (by simpa using j) (by simpa using hlen) C ?_
  intro q I w' h4 h5 h6
  refine h q I w' h4 ?_ h6
  unfold OwnE
  simpa using h5
theorem Bs {P : Program} {B : Exit → Act → World → Prop} {n : Nat} {k : List Kont} {f : Fr} {ops : Array Oper} {rest : List Oper} {T d bb m : Nat} {t : TypeId} {pos : String} {U : Array Edge} {x y : Operand} {z : Value} {ao : Option Addr} {b off cap len : Nat} {l' : List α}
    (hd : Nat.blt d n = true) (hu : P.underlying T = some (.slice E)) (ht : Cy P E = some (m, bb, some z)) (hm : (m == Enc.n α && z.cells.size == Enc.n α) = true)
    (J : OwnE w base E v l) (hx : opv f x = v) (hy : opv f y = .slice ao len cap) (hr : RowE w ao b off cap l') (hl : len = l'.length)
    (j : (l.length + l'.length) * bb ≤ 140737488355328) (hlen : l.length + l'.length ≤ 140737488355328) (C : base ≤ w.heap.size)
    (h : ∀ I w', Evo w w' v.ownBlock.toList → OwnE w' base E I (l ++ l') → (I.ownBlock = v.ownBlock ∨ I.ownBlock = some w.heap.size) → KL P B n ops k rest (upd f d I) w') :
    KL P B n ops k (⟨some d, .call ⟨.builtin .append, #[x, y], #[T, T]⟩, t, pos, U, none⟩ :: rest) f w := by
  simp only [Bool.and_eq_true, beq_iff_eq] at hm
  obtain ⟨rfl, h2⟩ := hm
  refine Sx (news := l'.map Enc.enc) hd hu ht h2 Enc.pos J hx hy hr (by simpa using hl) (fun cs af => ?_) (by simpa using j) (by simpa using hlen) C ?_
  · obtain ⟨a, _, rfl⟩ := List.mem_map.1 af
    exact Enc.one a
  intro I w' h4 h5 h6
  refine h I w' h4 ?_ h6
  unfold OwnE
  rw [List.map_append]
  exact h5
theorem P1 {l' : List α} {P : Program} {f : Fr} {o : Oper} {T m bb : Nat} {z : Option Value} {x : Operand} {ao : Option Addr} {b off cap : Nat} {lo I : Option Operand} (i j : Nat) (ho : o.op = .slice T x lo I none) (hu : P.underlying T = some (.slice E))
    (ht : Cy P E = some (m, bb, z)) (hx : opv f x = .slice ao l.length cap) (hr : RowE w ao b off cap l)
    (U : (lo.map (opv f) = none ∧ i = 0) ∨ ∃ κ, lo.map (opv f) = some (.int κ (i : Int))) (C : (I.map (opv f) = none ∧ j = l.length) ∨ ∃ κ, I.map (opv f) = some (.int κ (j : Int))) (h1 : i ≤ j) (h2 : j ≤ l.length) (J : (l.take j).drop i = l') :
    (execOp (opv f) o).run P w = .ok (.value (.slice (if cap = i then ao else ao.map (·.add (i * m))) l'.length (cap - i))) w := by
  have := hr.le
  subst J
  rw [K1 (w := w) i j ho hu ht hx U C h1 ω]
  simp
  omega
theorem OwnE.rowOf (h : OwnE w base E v l) : ∃ ao g cap, v = .slice ao l.length cap ∧ RowE w ao g 0 cap l ∧ (l ≠ [] → v.ownBlock = some g ∧ base ≤ g ∧ g < w.heap.size) := by
  obtain ⟨ao, g, cap, h1, j, C⟩ := Own.rowOf h
  exact ⟨ao, g, cap, by simpa using h1, j, fun I => C (by simpa using I)⟩
end
section
variable {P : Program} {B : Exit → Act → World → Prop} {n : Nat} {k : List Kont} {f : Fr} {w : World} {ops : Array Oper} {rest : List Oper} {C : World → Prop} {Q : Fr → Prop}
def KQ (P : Program) (n : Nat) (C : World → Prop) (Q : Fr → Prop) (ops : Array Oper) (l : List Oper) (f : Fr) : Prop :=
  ∀ a, Is n f a → wpQuiet P ops C (fun a' => ∃ f', Is n f' a' ∧ Q f') l a
theorem Bt {id : Nat} {l : List Oper} (hm : P.follows .mixedOrders = true) (hB : Region.lexB .any l.toArray = true)
    (h : KQ P n (fun w' => Evo w w' []) (fun J => ∀ w', Evo w w' [] → KF P B n k J w') l.toArray l f) : KF P B n (.code (.region id l.toArray true) :: k) f w := by
  intro a ha
  show (Code.region id l.toArray true).wp P (Kx P B k) a w
  refine wp_region_quiet (C := fun w' => Evo w w' []) hm hB (Evo.drew w []) ?_
  have := h a ha
  have mono : ∀ (l : List Oper) (a : Act) (j I : Act → Prop), (∀ a, j a → I a) → wpQuiet P l.toArray (fun w' => Evo w w' []) j l a → wpQuiet P l.toArray (fun w' => Evo w w' []) I l a := by
    intro l a j I h12
    have gen : ∀ (m : List Oper) (os : Array Oper) (a : Act), wpQuiet P os (fun w' => Evo w w' []) j m a → wpQuiet P os (fun w' => Evo w w' []) I m a := by
      intro m os
      induction m with
      | nil => exact fun a h => h12 a h
      | cons o m ih =>
        intro a h
        unfold wpQuiet at h ⊢
        split
        · rename_i hw; rw [if_pos hw] at h; exact Oper.quiet_mono ih h
        · rename_i hw; rw [if_neg hw] at h; exact ih _ h
    exact gen l l.toArray a
  simpa using mono l a _ _ (fun U ⟨J, h1, h2⟩ w' hw' => h2 w' hw' U h1) this
theorem EV (h : Q f) : KQ P n C Q ops [] f := fun _ j => ⟨f, j, h⟩
theorem fj {o : Oper} {d : Nat} {v : Value} (hg : o.guard = none) (j : o.dst = some d) (hd : Nat.blt d n = true) (I : ∀ w', C w' → (execOp (opv f) o).run P w' = .ok (.value v) w')
    (h : KQ P n C Q ops rest (upd f d v)) : KQ P n C Q ops (o :: rest) f := by
  intro a ha
  refine wpQuiet_step fun K U => ?_
  rw [if_pos (by simp [Region.wanted, hg])]
  refine ⟨v, fun w' J => ?_, U _ (h _ (by rw [j]; exact ha.put hd v))⟩
  unfold Oper.quietAt
  rw [ha.eval, I w' J]
  exact ⟨rfl, rfl⟩
theorem Je {o : Oper} {d : Nat} {v : Value} {g : FuncId} {args : Array Value} (hg : o.guard = none) (j : o.dst = some d) (hd : Nat.blt d n = true) (I : ∀ w', C w' → (execOp (opv f) o).run P w' = .ok (.enter g args) w')
    (hc : ∀ w', C w' → Calls P g args w' fun e U => e = .returned v ∧ C U)
    (h : KQ P n C Q ops rest (upd f d v)) : KQ P n C Q ops (o :: rest) f := by
  intro a ha
  refine wpQuiet_step fun K hK => ?_
  rw [if_pos (by simp [Region.wanted, hg])]
  refine ⟨v, fun w' J => ?_, hK _ (h _ (by rw [j]; exact ha.put hd v))⟩
  unfold Oper.quietAt
  rw [ha.eval, I w' J]
  exact ⟨rfl, hc w' J⟩
theorem Iw {a : Act} (U : Is n f a) {j s : Nat} {b : Bool} {g : Prop} (hj : (ops[j]?).bind (·.dst) = some s) (hw : Wanted f s b g) : (g → (yielded ops a.tmps j == some b) = true) ∧ (¬ g → (yielded ops a.tmps j == some b) = false) := by
  refine ⟨fun J => ?_, fun J => ?_⟩
  · rw [Jd U hj (hw.yes J)]; simp
  · have h1 := U.get s
    have I := hw.no J
    rw [← h1, Array.getD_eq_getD_getElem?] at I
    unfold yielded
    rw [hj]
    simp only [Option.bind_some]
    cases h3 : a.tmps[s]? with
    | none => rfl
    | some u =>
      rw [h3] at I
      simp at I
      cases u <;> simp_all
      rename_i b'
      intro e
      exact I (by rw [← h1, e])
theorem GA {d : Nat} {op : Op} {t : TypeId} {pos : String} {I : Array Edge} {j s : Nat} {b : Bool} {g : Prop} [Decidable g] {v : Value} (hj : (ops[j]?).bind (·.dst) = some s) (hw : Wanted f s b g)
    (hd : Nat.blt d n = true) (U : g → ∀ w', C w' → (execOp (opv f) ⟨some d, op, t, pos, I, none⟩).run P w' = .ok (.value v) w')
    (h : KQ P n C Q ops rest (upd f d (gv g v))) : KQ P n C Q ops (⟨some d, op, t, pos, I, some (j, b)⟩ :: rest) f := by
  intro a ha
  refine wpQuiet_step fun K hK => ?_
  have af := Iw ha hj hw
  by_cases J : g
  · rw [if_pos (by simp only [Region.wanted]; exact af.1 J)]
    rw [Gf J] at h
    refine ⟨v, fun w' ag => ?_, hK _ (h _ (ha.put hd v))⟩
    unfold Oper.quietAt
    have := U J w' ag
    rw [ha.eval]
    have e : execOp (opv f) ⟨some d, op, t, pos, I, some (j, b)⟩ = execOp (opv f) ⟨some d, op, t, pos, I, none⟩ := rfl
    rw [e, this]
    exact ⟨rfl, rfl⟩
  · rw [if_neg (by simp only [Region.wanted]; rw [af.2 J]; simp)]
    rw [NF J] at h
    exact hK _ (h _ (ha.put hd _))
theorem MZ {d : Nat} {op : Op} {t : TypeId} {pos : String} {I : Array Edge} {j s : Nat} {b : Bool} {g : Prop} [Decidable g] {v : Value} {F : FuncId} {args : Array Value} (hj : (ops[j]?).bind (·.dst) = some s) (hw : Wanted f s b g)
    (hd : Nat.blt d n = true) (U : g → ∀ w', C w' → (execOp (opv f) ⟨some d, op, t, pos, I, none⟩).run P w' = .ok (.enter F args) w')
    (hc : g → ∀ w', C w' → Calls P F args w' fun e al => e = .returned v ∧ C al)
    (h : KQ P n C Q ops rest (upd f d (gv g v))) : KQ P n C Q ops (⟨some d, op, t, pos, I, some (j, b)⟩ :: rest) f := by
  intro a ha
  refine wpQuiet_step fun K hK => ?_
  have ag := Iw ha hj hw
  by_cases J : g
  · rw [if_pos (by simp only [Region.wanted]; exact ag.1 J)]
    rw [Gf J] at h
    refine ⟨v, fun w' af => ?_, hK _ (h _ (ha.put hd v))⟩
    unfold Oper.quietAt
    have := U J w' af
    rw [ha.eval]
    have e : execOp (opv f) ⟨some d, op, t, pos, I, some (j, b)⟩ = execOp (opv f) ⟨some d, op, t, pos, I, none⟩ := rfl
    rw [e, this]
    exact ⟨rfl, hc J w' af⟩
  · rw [if_neg (by simp only [Region.wanted]; rw [ag.2 J]; simp)]
    rw [NF J] at h
    exact hK _ (h _ (ha.put hd _))
theorem Dg {d : Nat} {op : Op} {t : TypeId} {pos : String} {I : Array Edge} {j s : Nat} {b : Bool} {g : Prop} [Decidable g] {v : Value} {F : FuncId} {args : Array Value} (hj : (ops[j]?).bind (·.dst) = some s) (hw : Wanted f s b g)
    (hd : Nat.blt d n = true) (af : g → (execOp (opv f) ⟨some d, op, t, pos, I, none⟩).run P w = .ok (.enter F args) w)
    (hc : g → Calls P F args w fun e w' => e = .returned v ∧ Evo w w' [])
    (h : ∀ w', Evo w w' [] → KL P B n ops k rest (upd f d (gv g v)) w') : KL P B n ops k (⟨some d, op, t, pos, I, some (j, b)⟩ :: rest) f w := by
  intro a ha
  have ag := Iw ha hj hw
  by_cases J : g
  · unfold wpList
    rw [if_pos (by simp only [Region.wanted]; exact ag.1 J)]
    refine .inl ?_
    unfold Oper.wp
    have e : execOp (opv f) ⟨some d, op, t, pos, I, some (j, b)⟩ = execOp (opv f) ⟨some d, op, t, pos, I, none⟩ := rfl
    rw [ha.eval, e, af J]
    simp only [Oper.upon]
    refine (hc J).mono fun e w' ⟨h1, h2⟩ => ?_
    subst h1
    have U := h w' h2 _ (ha.put hd (gv g v))
    rw [Gf J] at U
    exact U
  · unfold wpList
    rw [if_neg (by simp only [Region.wanted]; rw [ag.2 J]; simp)]
    have U := h w (Evo.refl _ _) _ (ha.put hd (gv g v))
    rw [NF J] at U
    exact U
end
abbrev Ac := List UInt8
instance : Enc Int := ⟨1, fun x => [.int .i64 x], fun _ => rfl, fun _ => rfl, by decide⟩
instance : Enc Ac := ⟨1, fun x => [S x], fun _ => rfl, fun _ => rfl, by decide⟩
structure Item where
  kind : Int
  text : Ac
  id : Int
  deriving Inhabited, DecidableEq
instance : Enc Item := ⟨3, fun x => [.int .i64 x.kind, S x.text, .int .i64 x.id], fun _ => rfl, fun _ => rfl, by decide⟩
structure Range where
  lo : Int
  hi : Int
  deriving Inhabited, DecidableEq
instance : Enc Range := ⟨2, fun x => [.int .i64 x.lo, .int .i64 x.hi], fun _ => rfl, fun _ => rfl, by decide⟩
structure Bead where
  alo : Int
  ahi : Int
  blo : Int
  bhi : Int
  deriving Inhabited, DecidableEq
instance : Enc Bead := ⟨4, fun x => [.int .i64 x.alo, .int .i64 x.ahi, .int .i64 x.blo, .int .i64 x.bhi], fun _ => rfl, fun _ => rfl, by decide⟩
structure Gram where
  fst : Ac
  snd : Ac
  count : Int
  deriving Inhabited, DecidableEq
instance : Enc Gram := ⟨3, fun x => [S x.fst, S x.snd, .int .i64 x.count], fun _ => rfl, fun _ => rfl, by decide⟩
structure Side where
  len : Int
  anchors : List Ac
  deriving Inhabited
instance : Rep Side where
  n := 2
  rep w cs x := ∃ ao b off cap, cs = [.int .i64 x.len, .slice ao x.anchors.length cap] ∧ RowE w ao b off cap x.anchors
  len := fun ⟨_, _, _, _, h, _⟩ => by rw [h]; rfl
  evo0 := fun ⟨ao, b, off, cap, h, hr⟩ he => ⟨ao, b, off, cap, h, hr.evo0 he⟩
  pos := by decide
theorem A3 {k : IntKind} {a b : Int} (h : a = b) : Ending.returned (.int k a) = .returned (.int k b) := by rw [h]
theorem Bn {a b : Bool} (h : a = b) : Ending.returned (.bool a) = .returned (.bool b) := by rw [h]
theorem MW (x n : Int) (j : 1 ≤ n) : -n < x.tmod n ∧ x.tmod n < n := by
  have := Int.tmod_lt_of_pos x (b := n) ω
  have := Int.lt_tmod_of_pos x (b := n) ω
  omega
theorem PQ (x n : Int) (j : 1 ≤ n) (h : ¬ x.tmod n < 0) : x % n = x.tmod n := by
  rw [Int.tmod_eq_emod]
  split
  · omega
  · rename_i hh
    rw [Int.tmod_eq_emod, if_neg hh] at h
    have := Int.emod_lt_of_pos x (b := n) ω
    omega
theorem PD (x n : Int) (j : 1 ≤ n) (h : x.tmod n < 0) : x % n = x.tmod n + n := by
  rw [Int.tmod_eq_emod]
  split
  · rename_i hh
    rw [Int.tmod_eq_emod, if_pos hh] at h
    have := Int.emod_nonneg x (b := n) ω
    omega
  · omega
def L3 (l : List Int) (N : Nat) (n : Int) : Int := (l.getD N default) % n
theorem Ss (l : List Int) (N : Nat) (n : Int) (j : 1 ≤ n) : 0 ≤ L3 l N n ∧ L3 l N n < n := ⟨Int.emod_nonneg _ ω, Int.emod_lt_of_pos _ ω⟩
structure KeyLaw (P : Program) (K : TypeId) {α : Type} (ek : α → Value) : Prop where
  inj : ∀ x y, ek x = ek y → x = y
  check : ∀ w e x, (Instr.checkKey e 10000 K (ek x)).run P w = .ok () w
  same : ∀ x, Instr.sameBits 10000 (ek x) (ek x) = true
  hit : ∀ w x (es : List MapEntry) (i : Nat) (e : MapEntry), (∀ e ∈ es, ∃ y, e.key = ek y) → es[i]? = some e → e.key = ek x → (∀ j e', j < i → es[j]? = some e' → e'.key ≠ ek x) → (Instr.findKey K (ek x) es).run P w = .ok (some (i, e.val)) w
  miss : ∀ w x (es : List MapEntry), (∀ e ∈ es, ∃ y, e.key = ek y) → (∀ e ∈ es, e.key ≠ ek x) → (Instr.findKey K (ek x) es).run P w = .ok none w
theorem Lv {D : TypeDesc} {α : Type} [DecidableEq α] {I : α → Value} (inj : ∀ x y, I x = I y → x = y) (hs : ∀ x y, Instr.sameNow D (I x) (I y) = some (decide (x = y))) (x : α) :
    ∀ (es : List MapEntry) (i k : Nat) (e : MapEntry), (∀ e ∈ es, ∃ y, e.key = I y) → es[i]? = some e → e.key = I x → (∀ j J, j < i → es[j]? = some J → J.key ≠ I x) → Instr.findNow D (I x) es k = some (some (k + i, e.val))
  | [], i, k, e, _, h, _, _ => by simp at h
  | a :: es, 0, k, e, _, h, hk, _ => by
    simp at h; subst h
    simp [Instr.findNow, hk, hs]
  | a :: es, i + 1, k, e, hall, h, hk, hne => by
    obtain ⟨y, hy⟩ := hall a (by simp)
    have h0 := hne 0 a ω (by simp)
    have ih := Lv inj hs x es i (k + 1) e (fun e he => hall e (by simp [he])) (by simpa using h) hk (fun j J hj U => hne (j + 1) J ω (by simpa using U))
    have hd : decide (x = y) = false := by simp; intro h; exact h0 (by rw [hy, h])
    simp only [Instr.findNow, hy, hs, hd]
    rw [ih]
    simp
    omega
theorem Kh {D : TypeDesc} {α : Type} [DecidableEq α] {j : α → Value} (I : ∀ x y, Instr.sameNow D (j x) (j y) = some (decide (x = y))) (x : α) :
    ∀ (es : List MapEntry) (k : Nat), (∀ e ∈ es, ∃ y, e.key = j y) → (∀ e ∈ es, e.key ≠ j x) → Instr.findNow D (j x) es k = some none
  | [], _, _, _ => rfl
  | a :: es, k, hall, hne => by
    obtain ⟨y, J⟩ := hall a (by simp)
    have U := hne a (by simp)
    have ih := Kh I x es (k + 1) (fun e he => hall e (by simp [he])) (fun e he => hne e (by simp [he]))
    have hd : decide (x = y) = false := by simp; intro h; exact U (by rw [J, h])
    simp only [Instr.findNow, J, I, hd]
    exact ih
theorem KeyLaw.scalar {P : Program} {K : TypeId} {D : TypeDesc} {α : Type} [DecidableEq α] {j : α → Value} (hu : P.underlying K = some D) (inj : ∀ x y, j x = j y → x = y) (I : ∀ x y, Instr.sameNow D (j x) (j y) = some (decide (x = y)))
    (check : ∀ w e x, (Instr.checkKey e 10000 K (j x)).run P w = .ok () w) (same : ∀ x, Instr.sameBits 10000 (j x) (j x) = true) : KeyLaw P K j where
  inj := inj
  check := check
  same := same
  hit w x es i e hall h hk hne := by
    have := Lv inj I x es i 0 e hall h hk hne
    simp [Instr.findKey, run_underlying hu, this]
  miss w x es hall hne := by
    have := Kh I x es 0 hall hne
    simp [Instr.findKey, run_underlying hu, this]
theorem Dk {P : Program} {K : TypeId} {D : TypeDesc} (hu : P.underlying K = some D) (w : World) (e : Bool) (n : Nat) (v : Value) (j : (D = .string ∧ ∃ s, v = .string s) ∨ (∃ k a, D = .int k ∧ v = .int k a)) : (Instr.checkKey e (n + 1) K v).run P w = .ok () w := by
  rcases j with ⟨rfl, s, rfl⟩ | ⟨k, a, rfl, rfl⟩ <;> simp only [Instr.checkKey, Sem.run_bind, run_underlying hu, Result.andThen_ok, Sem.run_pure]
theorem Nd (n : Nat) (s : ByteArray) : Instr.sameBits n (.string s) (.string s) = true := by
  cases n <;> simp only [Instr.sameBits, beq_toListBytes, beq_self_eq_true]
theorem NT (n : Nat) (k : IntKind) (a : Int) : Instr.sameBits n (.int k a) (.int k a) = true := by
  cases n <;> simp only [Instr.sameBits, beq_self_eq_true, Bool.and_self]
theorem C7 {P : Program} {K : TypeId} {k : IntKind} (hu : P.underlying K = some (.int k)) : KeyLaw P K (Value.int k) := by
  refine KeyLaw.scalar hu (fun x y h => by injection h) (fun x y => ?_) (fun w e x => ?_) (fun x => ?_)
  · simp only [Instr.sameNow, if_true]
    congr 1
  · exact Dk hu w e 9999 _ (.inr ⟨_, _, rfl, rfl⟩)
  · exact NT _ _ _
section
variable {α β : Type} [DecidableEq α]
def Az (m : List (α × β)) (x : α) : Option β := (m.find? (·.1 = x)).map (·.2)
def Co (m : List (α × β)) (x : α) (v : β) : List (α × β) := if m.any (·.1 = x) then m.map (fun p => if p.1 = x then (x, v) else p) else m ++ [(x, v)]
def JD (m : List (α × β)) (x : α) : List (α × β) := m.filter (fun p => ! decide (p.1 = x))
end
structure MapIs {α β : Type} (w : World) (b : Nat) (ek : α → Value) (ev : β → Value) (m : List (α × β)) : Prop where
  ex : ∃ es clock, w.heap[b]? = some (.map es clock) ∧ es.toList.map (fun e => (e.key, e.val)) = m.map (fun p => (ek p.1, ev p.2)) ∧ (es.toList.map (·.born)).Nodup ∧ (∀ e ∈ es.toList, e.born < clock) ∧ (m.map (·.1)).Nodup
section
variable {α β : Type} {ek : α → Value} {ev : β → Value} {w w' : World} {b : Nat} {m : List (α × β)} {E : List Nat}
theorem MapIs.lt (h : MapIs w b ek ev m) : b < w.heap.size := by
  obtain ⟨es, c, j, _⟩ := h.ex
  rcases Nat.lt_or_ge b w.heap.size with h1 | h1
  · exact h1
  · rw [Array.getElem?_eq_none h1] at j; cases j
theorem MapIs.evo (h : MapIs w b ek ev m) (he : Evo w w' E) (I : b ∉ E) : MapIs w' b ek ev m := by
  obtain ⟨es, c, j, r⟩ := h.ex
  exact ⟨es, c, (he.same b h.lt I).trans j, r⟩
theorem MapIs.evo0 (h : MapIs w b ek ev m) (he : Evo w w' []) : MapIs w' b ek ev m := h.evo he (by simp)
theorem MapIs.nodup (h : MapIs w b ek ev m) : (m.map (·.1)).Nodup := let ⟨_, _, _, _, _, _, h⟩ := h.ex; h
theorem MapIs.made (w : World) : MapIs (w.alloc (.map #[] 0)) w.heap.size ek ev [] := ⟨#[], 0, heap_alloc_new w _, by simp, by simp, by simp, by simp⟩
theorem VD {es : List MapEntry} (h : es.map (fun e => (e.key, e.val)) = m.map (fun p => (ek p.1, ev p.2))) : ∀ e ∈ es, ∃ y, e.key = ek y := by
  intro e he
  have : (e.key, e.val) ∈ es.map (fun e => (e.key, e.val)) := List.mem_map.2 ⟨e, he, rfl⟩
  rw [h] at this
  obtain ⟨p, _, j⟩ := List.mem_map.1 this
  exact ⟨p.1, (congrArg Prod.fst j).symm⟩
theorem Ev {es : List MapEntry} (h : es.map (fun e => (e.key, e.val)) = m.map (fun p => (ek p.1, ev p.2))) (i : Nat) : (es[i]?).map (fun e => (e.key, e.val)) = (m[i]?).map (fun p => (ek p.1, ev p.2)) := by
  have := congrArg (·[i]?) h
  simpa using this
theorem IV [DecidableEq α] (x : α) : ∀ (m : List (α × β)), (∀ p ∈ m, p.1 ≠ x) ∨ ∃ i v, m[i]? = some (x, v) ∧ ∀ (j : Nat) (p : α × β), j < i → m[j]? = some p → p.1 ≠ x
  | [] => .inl (by simp)
  | p :: m => by
    by_cases h : p.1 = x
    · exact .inr ⟨0, p.2, by simp [← h], by simp⟩
    · rcases IV x m with h1 | ⟨i, v, h1, h2⟩
      · refine .inl (fun q hq => ?_)
        rcases List.mem_cons.1 hq with rfl | hq
        · exact h
        · exact h1 q hq
      · refine .inr ⟨i + 1, v, by simpa using h1, fun j q hj hq => ?_⟩
        cases j with
        | zero => simp at hq; subst hq; exact h
        | succ j => exact h2 j q ω (by simpa using hq)
theorem O7 [DecidableEq α] {x : α} (h : ∀ p ∈ m, p.1 ≠ x) : Az m x = none := by
  unfold Az
  rw [List.find?_eq_none.2 (by intro p j; simpa using h p j)]
  rfl
theorem Vm [DecidableEq α] {x : α} {v : β} {i : Nat} (h1 : m[i]? = some (x, v)) (I : ∀ (j : Nat) (p : α × β), j < i → m[j]? = some p → p.1 ≠ x) : Az m x = some v := by
  have : m.find? (·.1 = x) = some (x, v) := by
    induction m generalizing i with
    | nil => simp at h1
    | cons p m ih =>
      cases i with
      | zero => simp at h1; subst h1; simp
      | succ i =>
        have J := I 0 p ω (by simp)
        simp only [List.find?_cons, decide_eq_false J]
        exact ih (by simpa using h1) (fun j q hj U => I (j + 1) q ω (by simpa using U))
  simp [Az, this]
variable {P : Program} {K : TypeId} (L : KeyLaw P K ek)
include L
theorem MapIs.find [DecidableEq α] (h : MapIs w b ek ev m) (x : α) : ∃ es clock, w.heap[b]? = some (.map es clock) ∧
    ((Az m x = none ∧ (Instr.findKey K (ek x) es.toList).run P w = .ok none w) ∨
      ∃ i v, Az m x = some v ∧ m[i]? = some (x, v) ∧ (∀ (j : Nat) (p : α × β), j < i → m[j]? = some p → p.1 ≠ x) ∧ (Instr.findKey K (ek x) es.toList).run P w = .ok (some (i, ev v)) w) := by
  obtain ⟨es, c, U, he, af, al, au⟩ := h.ex
  refine ⟨es, c, U, ?_⟩
  rcases IV x m with h1 | ⟨i, v, h1, h2⟩
  · refine .inl ⟨O7 h1, L.miss w x _ (VD he) (fun e hm hk => ?_)⟩
    obtain ⟨i, I⟩ := List.getElem?_of_mem hm
    have := Ev he i
    rw [I] at this
    cases hp : m[i]? with
    | none => rw [hp] at this; simp at this
    | some p =>
      rw [hp] at this
      simp at this
      exact h1 p (List.mem_of_getElem? hp) (L.inj _ _ (this.1.symm.trans hk))
  · have I := Ev he i
    rw [h1] at I
    cases hes : es.toList[i]? with
    | none => rw [hes] at I; simp at I
    | some e =>
      rw [hes] at I
      simp only [Option.map_some, Option.some.injEq, Prod.mk.injEq] at I
      refine .inr ⟨i, v, Vm h1 h2, h1, h2, ?_⟩
      rw [← I.2]
      refine L.hit w x _ i e (VD he) hes I.1 (fun j e' hj J hk => ?_)
      have := Ev he j
      rw [J] at this
      cases hp : m[j]? with
      | none => rw [hp] at this; simp at this
      | some p =>
        rw [hp] at this
        simp at this
        exact h2 j p hj hp (L.inj _ _ (this.1.symm.trans hk))
end
section
variable {P : Program} {B : Exit → Act → World → Prop} {n : Nat} {k : List Kont} {f : Fr} {w : World} {ops : Array Oper} {rest : List Oper} {o : Oper}
variable {α β : Type} {ek : α → Value} {ev : β → Value} {b : Nat} {m : List (α × β)} {K E : TypeId}
open Go.ChangeMaps (setBlock)
theorem Dj {w : World} {b : Nat} (I : b < w.heap.size) (j : Obj) : (setBlock w b j).heap[b]? = some j := by simp [setBlock, I]
theorem HR {w : World} {b i : Nat} (j : Obj) (h : i ≠ b) : (setBlock w b j).heap[i]? = w.heap[i]? := by
  simp only [setBlock]
  rw [Array.getElem?_setIfInBounds_ne (Ne.symm h)]
theorem Evo.setB (w : World) (b : Nat) (j : Obj) : Evo w (setBlock w b j) [b] := ⟨rfl, rfl, rfl, by simp [setBlock], fun i _ I => HR j (by simpa using I)⟩
theorem DF {T d : Nat} {t : TypeId} {pos : String} {j : Array Edge} (ek : α → Value) (ev : β → Value) (I : Nat.blt d n = true)
    (h : ∀ b w', b = w.heap.size → Evo w w' [] → MapIs w' b ek ev [] → w'.heap.size = b + 1 → KL P B n ops k rest (upd f d (.map (some b))) w') :
    KL P B n ops k (⟨some d, .makeMap T none, t, pos, j, none⟩ :: rest) f w := by
  refine Hs (v := .map (some w.heap.size)) (w' := w.alloc (.map #[] 0)) rfl rfl I ?_ (h _ _ rfl (Evo.alloc _ _ _) (MapIs.made w) (by simp))
  simp [execOp, Instr.makeMap]
theorem Lp [DecidableEq α] (L : KeyLaw P K ek) {T : TypeId} {ok : Bool} {z : Value} {s J : Nat} {y x : Operand} {a : α} (U : o.op = .lookup T x y ok) (hu : P.underlying T = some (.map K E)) (hz : Cy P E = some (s, J, some z))
    (hx : opv f x = .map (some b)) (hy : opv f y = ek a) (h : MapIs w b ek ev m) :
    (execOp (opv f) o).run P w = .ok (.value (if ok then .tuple #[((Az m a).map ev).getD z, .bool (Az m a).isSome] else ((Az m a).map ev).getD z)) w := by
  obtain ⟨es, c, I, j⟩ := h.find L a
  unfold execOp; rw [U]; simp only []; rw [hx, hy]
  rcases j with ⟨hg, j⟩ | ⟨i, v, hg, _, _, j⟩
  · cases ok <;> simp [Instr.lookup, getObj, run_underlying hu, Sem.run, I, L.check, j, ET hz, hg]
  · cases ok <;> simp [Instr.lookup, getObj, run_underlying hu, Sem.run, I, L.check, j, hg]
theorem BM [DecidableEq α] (L : KeyLaw P K ek) {T : TypeId} {z : β} {s j : Nat} {y x : Operand} {a : α} (I : o.op = .lookup T x y false) (hu : P.underlying T = some (.map K E)) (hz : Cy P E = some (s, j, some (ev z)))
    (U : opv f x = .map (some b)) (hy : opv f y = ek a) (h : MapIs w b ek ev m) {v : Value} (J : ev ((Az m a).getD z) = v) :
    (execOp (opv f) o).run P w = .ok (.value v) w := by
  rw [Lp L I hu hz U hy h, ← J]
  cases Az m a <;> rfl
theorem GN [DecidableEq α] (L : KeyLaw P K ek) {T : TypeId} {z : β} {s j : Nat} {y x : Operand} {a : α} (I : o.op = .lookup T x y true) (hu : P.underlying T = some (.map K E)) (hz : Cy P E = some (s, j, some (ev z)))
    (U : opv f x = .map (some b)) (hy : opv f y = ek a) (h : MapIs w b ek ev m) {v : Value} (J : ev ((Az m a).getD z) = v) :
    (execOp (opv f) o).run P w = .ok (.value (.tuple #[v, .bool (Az m a).isSome])) w := by
  rw [Lp L I hu hz U hy h, ← J]
  cases Az m a <;> rfl
theorem Re {T : TypeId} {x : Operand} (J : o.op = .call ⟨.builtin .len, #[x], #[T]⟩) (hu : P.underlying T = some (.map K E)) (U : opv f x = .map (some b)) (h : MapIs w b ek ev m) :
    (execOp (opv f) o).run P w = .ok (.value (.int .i64 (m.length : Int))) w := by
  obtain ⟨es, c, j, he, _⟩ := h.ex
  have I : es.size = m.length := by have := congrArg List.length he; simpa using this
  refine CA (s := Builtin.len_ #[T] o.type #[.map (some b)]) J (by simp [U]) (fun cs => rfl) ?_
  simp [Builtin.len_, run_underlying hu, goInt, getObj, Sem.run, j, I]
theorem FZ [DecidableEq α] {x : α} {v : β} (h : ∀ p ∈ m, p.1 ≠ x) : Co m x v = m ++ [(x, v)] := by
  unfold Co
  rw [if_neg]
  intro hh
  obtain ⟨p, j, he⟩ := List.any_eq_true.1 hh
  exact h p j (by simpa using he)
theorem IL [DecidableEq α] {x : α} {v u : β} {i : Nat} (h1 : m[i]? = some (x, u)) (U : (m.map (·.1)).Nodup) : Co m x v = m.set i (x, v) := by
  unfold Co
  rw [if_pos (by simp; exact ⟨_, List.mem_of_getElem? h1⟩)]
  apply List.ext_getElem?
  intro j
  rw [List.getElem?_map, List.getElem?_set]
  by_cases J : i = j
  · subst J
    have I : i < m.length := by
      rcases Nat.lt_or_ge i m.length with h2 | h2
      · exact h2
      · rw [List.getElem?_eq_none h2] at h1; cases h1
    have hm : m[i] = (x, u) := by rw [List.getElem?_eq_getElem I] at h1; injection h1
    simp [I, hm]
  · simp only [J, if_false]
    cases hm : m[j]? with
    | none => rfl
    | some p =>
      have : p.1 ≠ x := by
        intro e
        have I : i < (m.map (·.1)).length := by
          rcases Nat.lt_or_ge i (m.map (·.1)).length with h2 | h2
          · exact h2
          · rw [List.getElem?_eq_none (by simpa using h2)] at h1; cases h1
        have := (List.getElem?_inj I U (j := j)).1 (by simp [h1, hm, e])
        exact J this
      simp [this]
theorem Gv [DecidableEq α] (x : α) (v : β) (m : List (α × β)) (I : (m.map (·.1)).Nodup) : ((Co m x v).map (·.1)).Nodup := by
  rcases IV x m with h | ⟨i, u, h, _⟩
  · rw [FZ h]
    simp only [List.map_append, List.map_cons, List.map_nil]
    rw [List.nodup_append]
    refine ⟨I, by simp, fun a ha c J => ?_⟩
    simp at J
    subst J
    obtain ⟨p, hp, rfl⟩ := List.mem_map.1 ha
    exact h p hp
  · rw [IL h I, List.map_set]
    have : (m.map (·.1)).set i x = m.map (·.1) := by
      apply List.ext_getElem?
      intro j
      rw [List.getElem?_set]
      by_cases hj : i = j
      · subst hj
        have U : i < m.length := by
          rcases Nat.lt_or_ge i m.length with h2 | h2
          · exact h2
          · rw [List.getElem?_eq_none h2] at h; cases h
        have hm : m[i] = (x, u) := by rw [List.getElem?_eq_getElem U] at h; injection h
        simp [U, hm]
      · simp [hj]
    rw [this]
    exact I
theorem Ta [DecidableEq α] (L : KeyLaw P K ek) {T : TypeId} (hu : P.underlying T = some (.map K E)) (a : α) (v : β) (h : MapIs w b ek ev m) :
    ∃ w', (Instr.mapUpdate T (.map (some b)) (ek a) (ev v)).run P w = .ok () w' ∧ Evo w w' [b] ∧ w'.heap.size = w.heap.size ∧ MapIs w' b ek ev (Co m a v) := by
  obtain ⟨es, c, hb, he, a_, au, aS⟩ := h.ex
  have a1 := h.lt
  obtain ⟨bm, c', ag, hf⟩ := h.find L a
  rw [hb] at ag
  injection ag with ag
  injection ag with e1 e2
  subst e1; subst e2
  rcases hf with ⟨hg, hf⟩ | ⟨i, u, hg, hi, hne, hf⟩
  · have az : ∀ p ∈ m, p.1 ≠ a := by
      intro p hp e
      unfold Az at hg
      have bb := hg
      simp only [Option.map_eq_none_iff, List.find?_eq_none, decide_eq_true_eq] at bb
      exact bb p hp e
    refine ⟨setBlock w b (.map (es.push { key := ek a, val := ev v, born := c }) (c + 1)), ?_, Evo.setB _ _ _, by simp [setBlock], ⟨_, _, Dj a1 _, ?_, ?_, ?_, Gv a v m aS⟩⟩
    · simp only [Instr.mapUpdate, getObj, Sem.run_bind, run_underlying hu, Result.andThen_ok, Sem.run, hb, L.check, hf, setObj, setBlock]
    · rw [FZ az]; simp [he]
    · simp only [Array.toList_push, List.map_append, List.map_cons, List.map_nil]
      rw [List.nodup_append]
      refine ⟨a_, by simp, fun x hx y hy => ?_⟩
      simp at hy
      subst hy
      obtain ⟨e, af, rfl⟩ := List.mem_map.1 hx
      have := au e af
      omega
    · intro e af
      simp only [Array.toList_push, List.mem_append, List.mem_singleton] at af
      rcases af with af | rfl
      · have := au e af; omega
      · simp
  · have I := Ev he i
    rw [hi] at I
    cases hes : es.toList[i]? with
    | none => rw [hes] at I; simp at I
    | some e =>
      rw [hes] at I
      simp only [Option.map_some, Option.some.injEq, Prod.mk.injEq] at I
      have J : es[i]? = some e := by simpa using hes
      have aT : (Instr.keyThatStays (((es[i]?).map (·.key)).getD (ek a)) (ek a)).run P w = .ok (ek a) w := by
        rw [J]
        simp only [Option.map_some, Option.getD_some, I.1, Instr.keyThatStays, L.same, if_true, Sem.run_pure]
      refine ⟨setBlock w b (.map (es.modify i fun e => { e with key := ek a, val := ev v }) c), ?_, Evo.setB _ _ _, by simp [setBlock], ⟨_, _, Dj a1 _, ?_, ?_, ?_, Gv a v m aS⟩⟩
      · simp only [Instr.mapUpdate, getObj, Sem.run_bind, run_underlying hu, Result.andThen_ok, Sem.run, hb, L.check, hf, aT, setObj, setBlock]
      · rw [IL hi aS]
        apply List.ext_getElem?
        intro j
        have hj := Ev he j
        simp only [List.getElem?_map, Array.getElem?_toList, Array.getElem?_modify] at hj ⊢
        rw [List.getElem?_set]
        by_cases U : i = j
        · subst U
          have bd : i < m.length := by
            rcases Nat.lt_or_ge i m.length with h2 | h2
            · exact h2
            · rw [List.getElem?_eq_none h2] at hi; cases hi
          simp [J, bd]
        · simp [U, hj]
      · have : (es.modify i fun e => { e with key := ek a, val := ev v }).toList.map (·.born) = es.toList.map (·.born) := by
          apply List.ext_getElem?
          intro j
          simp only [List.getElem?_map, Array.getElem?_toList, Array.getElem?_modify]
          by_cases U : i = j
          · subst U; simp [J]
          · simp [U]
        rw [this]; exact a_
      · intro x hx
        obtain ⟨j, hj⟩ := List.getElem?_of_mem hx
        simp only [Array.getElem?_toList, Array.getElem?_modify] at hj
        by_cases U : i = j
        · subst U
          simp [J] at hj
          rw [← hj]
          exact au e (by rw [← Array.getElem?_toList] at J; exact List.mem_of_getElem? J)
        · simp only [U, if_false] at hj
          exact au x (by rw [← Array.getElem?_toList] at hj; exact List.mem_of_getElem? hj)
theorem Et [DecidableEq α] (L : KeyLaw P K ek) {T : TypeId} {t : TypeId} {pos : String} {j : Array Edge} {x y z : Operand} {a : α} {v : β} (hu : P.underlying T = some (.map K E)) (hx : opv f x = .map (some b)) (hy : opv f y = ek a) (hz : opv f z = ev v)
    (h : MapIs w b ek ev m) (I : ∀ w', Evo w w' [b] → w'.heap.size = w.heap.size → MapIs w' b ek ev (Co m a v) → KL P B n ops k rest f w') :
    KL P B n ops k (⟨none, .mapUpdate T x y z, t, pos, j, none⟩ :: rest) f w := by
  obtain ⟨w', J, he, U, hm⟩ := Ta L hu a v h
  refine UP (w' := w') rfl rfl ?_ (I w' he U hm)
  simp [execOp, hx, hy, hz, J]
structure IterIs (w : World) (r b : Nat) (ek : α → Value) (ev : β → Value) (m left : List (α × β)) (last : Option (α × β)) : Prop where
  ex : ∃ (es : Array MapEntry) (clock : Nat) (seen : Array Nat), w.heap[b]? = some (.map es clock) ∧ es.toList.map (fun e => (e.key, e.val)) = m.map (fun p => (ek p.1, ev p.2)) ∧ (es.toList.map (·.born)).Nodup ∧ (∀ e ∈ es.toList, e.born < clock) ∧ (m.map (·.1)).Nodup ∧
    w.heap[r]? = some (.mapIter (some b) clock seen clock) ∧ (es.toList.filter (fun e => !seen.contains e.born)).map (fun e => (e.key, e.val)) = left.map (fun p => (ek p.1, ev p.2)) ∧
    (∀ p, last = some p → ∃ e ∈ es.toList, (∃ s : Array Nat, seen = s.push e.born) ∧ e.key = ek p.1 ∧ e.val = ev p.2)
theorem IterIs.lt {left : List (α × β)} {last : Option (α × β)} {r : Nat} (h : IterIs w r b ek ev m left last) : r < w.heap.size := by
  obtain ⟨es, c, seen, I, _, _, _, _, j, _⟩ := h.ex
  rcases Nat.lt_or_ge r w.heap.size with h1 | h1
  · exact h1
  · rw [Array.getElem?_eq_none h1] at j; cases j
theorem IterIs.map {left : List (α × β)} {last : Option (α × β)} {r : Nat} (h : IterIs w r b ek ev m left last) : MapIs w b ek ev m := by
  obtain ⟨es, c, seen, U, h1, j, I, J, _⟩ := h.ex
  exact ⟨es, c, U, h1, j, I, J⟩
theorem IterIs.ne {left : List (α × β)} {last : Option (α × β)} {r : Nat} (h : IterIs w r b ek ev m left last) : r ≠ b := by
  obtain ⟨es, c, seen, I, _, _, _, _, j, _⟩ := h.ex
  intro e
  rw [e, I] at j
  cases j
theorem IterIs.evo {w' : World} {X : List Nat} {left : List (α × β)} {last : Option (α × β)} {r : Nat} (h : IterIs w r b ek ev m left last) (he : Evo w w' X) (hr : r ∉ X) (hb : b ∉ X) : IterIs w' r b ek ev m left last := by
  have h1 := h.lt
  have j := h.map.lt
  obtain ⟨es, c, seen, I, J, U, h6, h7, h8, h9⟩ := h.ex
  exact ⟨es, c, seen, (he.same b j hb).trans I, J, U, h6, h7, (he.same r h1 hr).trans h8, h9⟩
theorem IterIs.evo0 {w' : World} {left : List (α × β)} {last : Option (α × β)} {r : Nat} (h : IterIs w r b ek ev m left last) (he : Evo w w' []) : IterIs w' r b ek ev m left last := h.evo he (by simp) (by simp)
theorem Ip {T d : Nat} {t : TypeId} {pos : String} {j : Array Edge} {x : Operand} (hd : Nat.blt d n = true) (hu : P.underlying T = some (.map K E)) (hx : opv f x = .map (some b)) (h : MapIs w b ek ev m)
    (U : ∀ r w', r = w.heap.size → Evo w w' [] → IterIs w' r b ek ev m m none → w'.heap.size = r + 1 → KL P B n ops k rest (upd f d (.pointer (some ⟨r, 0, none⟩))) w') :
    KL P B n ops k (⟨some d, .range T x, t, pos, j, none⟩ :: rest) f w := by
  obtain ⟨es, c, J, I, h4, h5, h6⟩ := h.ex
  refine Hs (v := .pointer (some ⟨w.heap.size, 0, none⟩)) (w' := w.alloc (.mapIter (some b) c #[] c)) rfl rfl hd ?_ (U _ _ rfl (Evo.alloc _ _ _) ⟨es, c, #[], ?_, I, h4, h5, h6, heap_alloc_new w _, ?_, by simp⟩ (by simp))
  · simp [execOp, hx, Instr.range, run_underlying hu, getObj, Sem.run, J, newObj]
  · rw [Below.heap_alloc w _ b h.lt]; exact J
  · rw [← I]; congr 1; exact List.filter_eq_self.2 (fun _ _ => by simp)
theorem Wk {es : List MapEntry} {seen : Array Nat} {e : MapEntry} (hn : (es.map (·.born)).Nodup) (he : e ∈ es.filter (fun e => !seen.contains e.born)) :
    ∃ I J, es.filter (fun e => !seen.contains e.born) = I ++ e :: J ∧ es.filter (fun x => !(seen.push e.born).contains x.born) = I ++ J := by
  obtain ⟨I, J, h⟩ := List.append_of_mem he
  refine ⟨I, J, h, ?_⟩
  have e1 : es.filter (fun x => !(seen.push e.born).contains x.born) = (es.filter (fun e => !seen.contains e.born)).filter (fun x => x.born != e.born) := by
    rw [List.filter_filter]
    congr 1
    funext x
    simp only [Array.contains_push, Bool.not_or]
    by_cases j : x.born = e.born
    · simp [j]
    · have af : (x.born != e.born) = true := by simpa using j
      have ag : (x.born == e.born) = false := by simpa using j
      have az : (e.born == x.born) = false := by simpa using fun h => j h.symm
      simp [af, ag]
  have U : ((I ++ e :: J).map (·.born)).Nodup := by
    rw [← h]
    exact List.Nodup.sublist (List.Sublist.map _ List.filter_sublist) hn
  rw [e1, h]
  simp only [List.map_append, List.map_cons, List.nodup_append, List.nodup_cons] at U
  obtain ⟨_, ⟨h3, _⟩, h4⟩ := U
  rw [List.filter_append, List.filter_cons]
  have f1 : I.filter (fun x => x.born != e.born) = I := List.filter_eq_self.2 (fun x j => by
    simpa using h4 x.born (List.mem_map.2 ⟨x, j, rfl⟩) e.born (by simp))
  have f2 : J.filter (fun x => x.born != e.born) = J := List.filter_eq_self.2 (fun x j => by
    simp
    intro hxe
    exact h3 (List.mem_map.2 ⟨x, j, hxe⟩))
  simp [f1, f2]
theorem LF {d : Nat} {t : TypeId} {pos : String} {az : Array Edge} {x : Operand} {r : Nat} {left : List (α × β)} {last : Option (α × β)} (hd : Nat.blt d n = true) (hx : opv f x = .pointer (some ⟨r, 0, none⟩)) (h : IterIs w r b ek ev m left last)
    (h1 : left = [] → KL P B n ops k rest (upd f d (.tuple #[.bool false])) w)
    (h2 : ∀ l1 p l2 w', left = l1 ++ p :: l2 → Evo w w' [r] → w'.heap.size = w.heap.size → IterIs w' r b ek ev m (l1 ++ l2) (some p) → KL P B n ops k rest (upd f d (.tuple #[.bool true, ek p.1, ev p.2])) w') :
    KL P B n ops k (⟨some d, .next x false, t, pos, az, none⟩ :: rest) f w := by
  have ba := h.lt
  have a_ := h.ne
  obtain ⟨es, c, seen, hb, he, hn, ag, a1, hr, I, aT⟩ := h.ex
  have af : (leftOf es seen).toList = es.toList.filter (fun e => !seen.contains e.born) := by simp [leftOf]
  rcases run_next_at (P := P) w t r b c c seen es c hr hb ag (Nat.le_refl _) with ⟨h0, hrun⟩ | ⟨e, hem, w1, hw1, hrun⟩
  · refine Hs (v := .tuple #[.bool false]) (w' := w) rfl rfl hd ?_ (h1 ?_)
    · simp [execOp, hx, hrun]
    · have : (es.toList.filter (fun e => !seen.contains e.born)).length = 0 := by rw [← af]; simpa using h0
      have h3 := congrArg List.length I
      simp only [List.length_map] at h3
      exact List.eq_nil_of_length_eq_zero ω
  · rw [af] at hem
    obtain ⟨m1, m2, bb, bc⟩ := Wk hn hem
    rw [bb] at I
    have J := I
    simp only [List.map_append, List.map_cons] at J
    obtain ⟨l1, l3, hl, q1, q2⟩ := List.map_eq_append_iff.1 J.symm
    obtain ⟨p, l2, aS, q3, q4⟩ := List.map_eq_cons_iff.1 q2
    subst aS
    have hk : ek p.1 = e.key := congrArg Prod.fst q3
    have hv : ev p.2 = e.val := congrArg Prod.snd q3
    have j : w1.heap = w.heap := by rcases hw1 with rfl | rfl <;> rfl
    have U : w1.os = w.os ∧ w1.tape = w.tape ∧ w1.output = w.output := by rcases hw1 with rfl | rfl <;> exact ⟨rfl, rfl, rfl⟩
    refine Hs (v := .tuple #[.bool true, ek p.1, ev p.2]) (w' := setBlock w1 r (.mapIter (some b) c (seen.push e.born) c)) rfl rfl hd ?_ (h2 l1 p l2 _ hl ?_ ?_ ?_)
    · simp [execOp, hx, hrun, hk, hv]
    · refine ⟨U.1, U.2.1, U.2.2, by simp [setBlock, j], fun i _ hi => ?_⟩
      rw [HR _ (by simpa using hi), j]
    · simp [setBlock, j]
    · refine ⟨es, c, seen.push e.born, ?_, he, hn, ag, a1, Dj (by rw [j]; exact ba) _, ?_, ?_⟩
      · rw [HR _ (Ne.symm a_), j]; exact hb
      · rw [bc]; simp [q1, q4]
      · intro p' hp'
        injection hp' with hp'
        subst hp'
        exact ⟨e, (List.mem_filter.1 hem).1, ⟨seen, rfl⟩, hk.symm, hv.symm⟩
theorem EW {x : Operand} {r : Nat} {left : List (α × β)} {p : α × β} (ho : o.op = .entry x) (hx : opv f x = .pointer (some ⟨r, 0, none⟩)) (h : IterIs w r b ek ev m left (some p)) :
    (execOp (opv f) o).run P w = .ok (.value (.tuple #[ek p.1, ev p.2])) w := by
  obtain ⟨es, c, seen, hb, he, hn, ag, au, U, J, j⟩ := h.ex
  obtain ⟨e, I, ⟨s, hs⟩, hk, hv⟩ := j p rfl
  rw [hs] at U
  have := run_entry_at (P := P) w r b c s es c e U hb I hn
  unfold execOp; rw [ho]; simp only []; rw [hx]
  simp [this, hk, hv]
end
theorem A7 {α : Type} [Inhabited α] (l : List α) (k : Nat) (h : k < l.length) : l.take (k + 1) = l.take k ++ [l.getD k default] := by
  rw [List.take_succ_eq_append_getElem h]; simp [List.getD, h]
theorem Dl {α β : Type} [DecidableEq α] (p : α × β) (m : List (α × β)) (y : α) : Az (p :: m) y = if p.1 = y then some p.2 else Az m y := by
  unfold Az
  rw [List.find?_cons]
  by_cases h : p.1 = y <;> simp [h]
theorem LY {α β : Type} [DecidableEq α] (x y : α) (v : β) : ∀ (m : List (α × β)), Az (m.map (fun p => if p.1 = x then (x, v) else p)) y = if x = y then (if m.any (·.1 = x) then some v else none) else Az m y
  | [] => by by_cases h : x = y <;> simp [Az, h]
  | p :: m => by
    have J := LY x y v m
    rw [List.map_cons, Dl, Dl, J]
    by_cases I : p.1 = x
    · by_cases j : x = y
      · simp [I, j]
      · have : ¬ p.1 = y := by rw [I]; exact j
        simp [I, j]
    · by_cases j : x = y
      · subst j
        simp only [if_true, List.any_cons, decide_eq_false I, Bool.false_or, if_neg I]
      · simp [I, j]
theorem Rk {α β : Type} [DecidableEq α] (y : α) (x : α) (v : β) : ∀ (m : List (α × β)), (∀ p ∈ m, p.1 ≠ x) → Az (m ++ [(x, v)]) y = if x = y then some v else Az m y
  | [], _ => by rw [List.nil_append, Dl]
  | p :: m, h => by
    have ih := Rk y x v m (fun q hq => h q (by simp [hq]))
    rw [List.cons_append, Dl, Dl, ih]
    have hp := h p (by simp)
    by_cases hpy : p.1 = y
    · have : ¬ x = y := fun e => hp (by rw [hpy, e])
      simp [hpy, this]
    · simp [hpy]
theorem CW {α β : Type} [DecidableEq α] (m : List (α × β)) (x y : α) (v : β) : Az (Co m x v) y = if x = y then some v else Az m y := by
  rcases IV x m with h | ⟨i, u, h, hne⟩
  · rw [FZ h, Rk y x v m h]
  · have j : (m.any (·.1 = x)) = true := by simp only [List.any_eq_true]; exact ⟨_, List.mem_of_getElem? h, by simp⟩
    unfold Co
    rw [if_pos j, LY, j]
    simp
def XC (c : UInt8) : Bool := decide (97 ≤ c.toNat) && decide (c.toNat ≤ 122)
def eo (c : UInt8) : Bool := decide (48 ≤ c.toNat) && decide (c.toNat ≤ 57)
def Oo (c : UInt8) : Bool := XC c || eo c || decide (c.toNat = 45)
def DJ (s : Ac) : Bool := decide (1 ≤ s.length) && decide (s.length ≤ 24) && XC (s.getD 0 0) && (s.drop 1).all Oo
theorem TA {α : Type} (p : α → Bool) (d : α) (l : List α) : l.all p = true ↔ ∀ j, j < l.length → p (l.getD j d) = true := by
  rw [List.all_eq_true]
  constructor
  · intro h j I
    have e : l.getD j d = l[j] := by simp [List.getD, I]
    rw [e]; exact h _ (List.getElem_mem I)
  · intro h x hx
    obtain ⟨j, I, rfl⟩ := List.getElem_of_mem hx
    have := h j I
    have e : l.getD j d = l[j] := by simp [List.getD, I]
    rw [e] at this; exact this
theorem Yw (c : UInt8) : XC c = true ↔ 97 ≤ c.toNat ∧ c.toNat ≤ 122 := by simp [XC]
theorem Oz (c : UInt8) : Oo c = true ↔ (97 ≤ c.toNat ∧ c.toNat ≤ 122) ∨ (48 ≤ c.toNat ∧ c.toNat ≤ 57) ∨ c.toNat = 45 := by
  simp [Oo, XC, eo, or_assoc]
theorem Hi (s : Ac) : DJ s = true ↔ 1 ≤ s.length ∧ s.length ≤ 24 ∧ (97 ≤ (s.getD 0 0).toNat ∧ (s.getD 0 0).toNat ≤ 122) ∧ ∀ j, 1 ≤ j → j < s.length → Oo (s.getD j 0) = true := by
  unfold DJ
  simp only [Bool.and_eq_true, decide_eq_true_eq, Yw, TA Oo 0]
  constructor
  · rintro ⟨⟨⟨h1, h2⟩, h3⟩, h4⟩
    refine ⟨h1, h2, h3, fun j I J => ?_⟩
    have := h4 (j - 1) θ
    have e : (s.drop 1).getD (j - 1) 0 = s.getD j 0 := by
      simp only [List.getD_eq_getElem?_getD, List.getElem?_drop]
      rw [show 1 + (j - 1) = j by omega]
    rwa [e] at this
  · rintro ⟨h1, h2, h3, h4⟩
    refine ⟨⟨⟨h1, h2⟩, h3⟩, fun j I => ?_⟩
    have := h4 (j + 1) ω (by simp at I; omega)
    have e : (s.drop 1).getD j 0 = s.getD (j + 1) 0 := by
      simp only [List.getD_eq_getElem?_getD, List.getElem?_drop]
      rw [show 1 + j = j + 1 by omega]
    rwa [e]
def CJ (s : Ac) : Ac := s.takeWhile (fun c => c != 32)
theorem DG {α : Type} (p : α → Bool) (d : α) : ∀ (l : List α), (∀ j, j < (l.takeWhile p).length → p (l.getD j d) = true) ∧ ((l.takeWhile p).length < l.length → p (l.getD (l.takeWhile p).length d) = false) ∧ (l.takeWhile p).length ≤ l.length ∧ l.take (l.takeWhile p).length = l.takeWhile p
  | [] => by simp
  | c :: l => by
    have ih := DG p d l
    cases hc : p c with
    | true =>
      rw [List.takeWhile_cons, if_pos hc]
      refine ⟨fun j hj => ?_, fun hj => ?_, by simp; exact ih.2.2.1, by simp; exact ih.2.2.2⟩
      · cases j with
        | zero => exact hc
        | succ j => exact ih.1 j (by simpa using hj)
      · simp only [List.length_cons] at hj ⊢
        exact ih.2.1 ω
    | false =>
      rw [List.takeWhile_cons, if_neg (by simp [hc])]
      exact ⟨fun j hj => by simp at hj, fun _ => hc, by simp, rfl⟩
theorem XF {s : Ac} {k : Nat} (h1 : ∀ j, j < k → (s.getD j 0).toNat ≠ 32) (h2 : k < s.length) (h3 : (s.getD k 0).toNat = 32) : CJ s = s.take k := by
  have U := DG (fun c : UInt8 => c != 32) 0 s
  have hk : (CJ s).length = k := by
    rcases Nat.lt_trichotomy (CJ s).length k with h | h | h
    · have I := U.2.1 (by unfold CJ at h; omega)
      have J := h1 _ h
      exfalso
      apply J
      have : s.getD (CJ s).length 0 = 32 := by simpa [CJ] using I
      rw [this]; rfl
    · exact h
    · have I := U.1 k h
      exfalso
      have J : s.getD k 0 = 32 := UInt8.toNat_inj.1 h3
      rw [J] at I; simp at I
  rw [← hk]; exact U.2.2.2.symm
theorem WX {s : Ac} (h1 : ∀ j, j < s.length → (s.getD j 0).toNat ≠ 32) : CJ s = s := by
  have I := DG (fun c : UInt8 => c != 32) 0 s
  have hk : (CJ s).length = s.length := by
    rcases Nat.lt_or_ge (CJ s).length s.length with h | h
    · have J := I.2.1 h
      exfalso
      apply h1 _ h
      have : s.getD (CJ s).length 0 = 32 := by simpa [CJ] using J
      rw [this]; rfl
    · have := I.2.2.1; unfold CJ at *; omega
  have := I.2.2.2
  unfold CJ at *
  rw [hk, List.take_of_length_le (Nat.le_refl _)] at this
  exact this.symm
theorem NI (c : UInt8) : ∀ (s : Ac), (Lib.indexByte s c = -1 ∧ ∀ j, j < s.length → s.getD j 0 ≠ c) ∨ ∃ k : Nat, Lib.indexByte s c = (k : Int) ∧ k < s.length ∧ s.getD k 0 = c ∧ ∀ j, j < k → s.getD j 0 ≠ c
  | [] => .inl ⟨rfl, fun j U => by simp at U⟩
  | b :: s => by
    have ih := NI c s
    by_cases I : b = c
    · refine .inr ⟨0, by simp [Lib.indexByte, I], by simp, I, fun j U => by omega⟩
    · have J : (b == c) = false := by simpa using I
      rcases ih with ⟨h1, h2⟩ | ⟨k, h1, h2, h3, h4⟩
      · refine .inl ⟨by simp [Lib.indexByte, J, h1], fun j U => ?_⟩
        cases j with
        | zero => exact I
        | succ j => exact h2 j (by simpa using U)
      · refine .inr ⟨k + 1, ?_, by simpa using h2, h3, fun j U => ?_⟩
        · simp [Lib.indexByte, J, h1]
        · cases j with
          | zero => exact I
          | succ j => exact h4 j ω
def Lf (c : UInt8) : Bool := decide (32 ≤ c.toNat) && decide (c.toNat ≤ 126) && !(decide (c.toNat = 60) || decide (c.toNat = 62) || decide (c.toNat = 123) || decide (c.toNat = 125))
theorem PV (c : UInt8) : Lf c = true ↔ 32 ≤ c.toNat ∧ c.toNat ≤ 126 ∧ c.toNat ≠ 60 ∧ c.toNat ≠ 62 ∧ c.toNat ≠ 123 ∧ c.toNat ≠ 125 := by
  simp [Lf, and_assoc]
def Ch (s : Ac) : Bool := decide (s.length ≤ 64) && s.all Lf && DJ (CJ s) && (decide ((CJ s).length = s.length) || decide ((CJ s).length + 1 < s.length)) && decide ((s.getD (s.length - 1) 0).toNat ≠ 47)
theorem Ef (s : Ac) : Ch s = true ↔ s.length ≤ 64 ∧ (∀ j, j < s.length → Lf (s.getD j 0) = true) ∧ DJ (CJ s) = true ∧ ((CJ s).length = s.length ∨ (CJ s).length + 1 < s.length) ∧ (s.getD (s.length - 1) 0).toNat ≠ 47 := by
  unfold Ch
  simp only [Bool.and_eq_true, Bool.or_eq_true, decide_eq_true_eq, TA Lf 0, and_assoc]
theorem OT {s : Ac} (j : Nat) (I : j < s.length) (J : ¬ Lf (s.getD j 0) = true) : Ch s = false := by
  rw [← Bool.not_eq_true]
  intro h
  exact J (((Ef s).1 h).2.1 j I)
theorem Tv {s : Ac} (h : ¬ (1 ≤ s.length ∧ s.length ≤ 24 ∧ 97 ≤ (s.getD 0 0).toNat ∧ (s.getD 0 0).toNat ≤ 122)) : DJ s = false := by
  rw [← Bool.not_eq_true]
  intro h2
  have j := (Hi s).1 h2
  exact h ⟨j.1, j.2.1, j.2.2.1.1, j.2.2.1.2⟩
theorem TT {s : Ac} {k : Nat} (hk : k < s.length) (h : ¬ ((97 ≤ (s.getD k 0).toNat ∧ (s.getD k 0).toNat ≤ 122) ∨ (1 ≤ k ∧ ((48 ≤ (s.getD k 0).toNat ∧ (s.getD k 0).toNat ≤ 57) ∨ (s.getD k 0).toNat = 45)))) : DJ s = false := by
  rw [← Bool.not_eq_true]
  intro h2
  have I := (Hi s).1 h2
  by_cases J : k = 0
  · subst J; exact h (.inl I.2.2.1)
  · have j := (Oz _).1 (I.2.2.2 k ω hk)
    apply h
    rcases j with j | j | j
    · exact .inl j
    · exact .inr ⟨by omega, .inl j⟩
    · exact .inr ⟨by omega, .inr j⟩
theorem KR {Q : Nat → Prop} {k : Nat} (h : ∀ j, j < k → Q j) (hk : Q k) : ∀ j, j < k + 1 → Q j := fun j I => by
  rcases Nat.lt_or_ge j k with h1 | h1
  · exact h j h1
  · have : j = k := by omega
    subst this; exact hk
theorem fU {Q : Nat → Prop} {k : Nat} (h : ∀ j, 1 ≤ j → j < k → Q j) (hk : 1 ≤ k → Q k) : ∀ j, 1 ≤ j → j < k + 1 → Q j := fun j I J => by
  rcases Nat.lt_or_ge j k with h1 | h1
  · exact h j I h1
  · have : j = k := by omega
    subst this; exact hk I
def JF (s : Ac) (c : UInt8) : Ac × Ac × Bool :=
  if (s.takeWhile (fun x => x != c)).length < s.length then (s.take (s.takeWhile (fun x => x != c)).length, s.drop ((s.takeWhile (fun x => x != c)).length + 1), true) else (s, [], false)
theorem ZP (s : Ac) (c : UInt8) : (Lib.indexByte s c = -1 ∧ (s.takeWhile (fun x => x != c)).length = s.length) ∨ (Lib.indexByte s c = ((s.takeWhile (fun x => x != c)).length : Nat) ∧ (s.takeWhile (fun x => x != c)).length < s.length) := by
  have I := DG (fun x : UInt8 => x != c) 0 s
  rcases NI c s with ⟨h1, h2⟩ | ⟨k, h1, h2, h3, h4⟩
  · refine .inl ⟨h1, ?_⟩
    rcases Nat.lt_or_ge (s.takeWhile (fun x => x != c)).length s.length with h | h
    · have j := I.2.1 h
      have J := h2 _ h
      exact absurd (by simpa using j) J
    · have := I.2.2.1; omega
  · have e : (s.takeWhile (fun x => x != c)).length = k := by
      rcases Nat.lt_trichotomy (s.takeWhile (fun x => x != c)).length k with h | h | h
      · have j := I.2.1 ω
        exact absurd (by simpa using j) (h4 _ h)
      · exact h
      · have j := I.1 k h
        rw [h3] at j; simp at j
    rw [e]
    exact .inr ⟨h1, h2⟩
theorem R4 (s : Ac) : (JF s 32).1 = CJ s := by
  have j := DG (fun x : UInt8 => x != 32) 0 s
  unfold JF CJ
  split
  · exact j.2.2.2
  · have h := j.2.2.2
    rw [List.take_of_length_le ω] at h
    exact h
theorem gG (c : UInt8) : 0 ≤ Lib.indexByte [60, 62, 123, 125] c ↔ (c.toNat = 60 ∨ c.toNat = 62 ∨ c.toNat = 123 ∨ c.toNat = 125) := by
  have e : ∀ d : UInt8, d = c ↔ c.toNat = d.toNat := fun d => ⟨fun h => by rw [h], fun h => (UInt8.toNat_inj.1 h).symm⟩
  have h1 : c.toNat = 60 ↔ (60 : UInt8) = c := (e 60).symm
  have h2 : c.toNat = 62 ↔ (62 : UInt8) = c := (e 62).symm
  have h3 : c.toNat = 123 ↔ (123 : UInt8) = c := (e 123).symm
  have h4 : c.toNat = 125 ↔ (125 : UInt8) = c := (e 125).symm
  rw [h1, h2, h3, h4]
  by_cases j : (60 : UInt8) = c
  · subst j; decide
  · by_cases a2 : (62 : UInt8) = c
    · subst a2; decide
    · by_cases a3 : (123 : UInt8) = c
      · subst a3; decide
      · by_cases a4 : (125 : UInt8) = c
        · subst a4; decide
        · have I : ((60 : UInt8) == c) = false := by simpa using j
          have J : ((62 : UInt8) == c) = false := by simpa using a2
          have U : ((123 : UInt8) == c) = false := by simpa using a3
          have b4 : ((125 : UInt8) == c) = false := by simpa using a4
          simp [Lib.indexByte, I, J, U, b4, j, a2, a3, a4]
theorem CR (s : Ac) : (CJ s).length ≤ s.length := (DG (fun x : UInt8 => x != 32) 0 s).2.2.1
theorem Yu {s : Ac} (h : DJ (CJ s) = true) : 0 < s.length := by
  have h1 := ((Hi _).1 h).1
  have := CR s
  omega
theorem Sf {s : Ac} (h1 : s.length ≤ 64) (J : (s.getD (s.length - 1) 0).toNat ≠ 47) (I : ∀ j, j < s.length → Lf (s.getD j 0) = true) :
    decide (DJ (JF s 32).1 = true ∧ (¬ (JF s 32).2.2 = true ∨ (0 : Int) < ((JF s 32).2.1.length : Nat))) = Ch s := by
  rw [Bool.eq_iff_iff, decide_eq_true_iff, Ef, R4]
  have hl := CR s
  have U : (¬ (JF s 32).2.2 = true ∨ (0 : Int) < ((JF s 32).2.1.length : Nat)) ↔ ((CJ s).length = s.length ∨ (CJ s).length + 1 < s.length) := by
    unfold JF
    unfold CJ at *
    split
    · simp only [not_true_eq_false, false_or, List.length_drop]
      omega
    · simp
      omega
  rw [U]
  exact ⟨fun h => ⟨h1, I, h.1, h.2, J⟩, fun h => ⟨h.2.2.1, h.2.2.2.1⟩⟩
theorem Qt {s : Ac} (h : ¬ (s.length ≤ 64 ∧ s.length ≠ 0 ∧ (s.getD (s.length - 1) 0).toNat ≠ 47)) : Ch s = false := by
  rw [← Bool.not_eq_true]
  intro h2
  have j := (Ef s).1 h2
  exact h ⟨j.1, by have := Yu j.2.2.1; omega, j.2.2.2.2⟩
theorem aY {s : Ac} {c : UInt8} (h : ((([c] : Ac).length : Nat) : Int) = 0 ∨ [c] = s) : Lib.indexByte s c = 0 := by
  rcases h with h | h
  · simp at h
  · subst h; simp [Lib.indexByte]
def Ex (x : Item) : Int := if x.kind = 1 then (x.text.length : Int) else 1
def DP (f : List Item) : Int := (f.map Ex).sum
theorem HV (f : List Item) (k : Nat) (h : k < f.length) : DP (f.take (k + 1)) = DP (f.take k) + Ex (f.getD k default) := by
  unfold DP; rw [A7 f k h]; simp
def Ay (f : List Item) : Nat := (f.map (fun x => x.text.length)).sum
theorem Ck (f : List Item) (k : Nat) (h : k < f.length) : Ay (f.take (k + 1)) = Ay (f.take k) + (f.getD k default).text.length := by
  unfold Ay; rw [A7 f k h]; simp
theorem DX (f : List Item) (k : Nat) : Ay (f.take k) ≤ Ay f := by
  have h : Ay f = Ay (f.take k) + Ay (f.drop k) := by
    conv => lhs; rw [← List.take_append_drop k f]
    unfold Ay
    rw [List.map_append, List.sum_append]
  omega
theorem Pn {x : Item} : ∀ {f : List Item}, x ∈ f → x.text.length ≤ Ay f
  | y :: f, h => by
    have j : Ay (y :: f) = y.text.length + Ay f := by simp [Ay]
    rw [j]
    rcases List.mem_cons.1 h with rfl | h
    · omega
    · have := Pn h; omega
theorem El (f : List Item) (k : Nat) : (f.getD k default).text.length ≤ Ay f := by
  rcases Nat.lt_or_ge k f.length with h | h
  · have e : f.getD k default = f[k] := by simp [List.getD, h]
    rw [e]; exact Pn (List.getElem_mem h)
  · have e : f.getD k default = default := by simp [List.getD, List.getElem?_eq_none h]
    rw [e]; exact Nat.zero_le _
theorem NB (f : List Item) : 0 ≤ DP f ∧ DP f ≤ Ay f + f.length := by
  induction f with
  | nil => simp [DP, Ay]
  | cons x f ih =>
    have h1 : DP (x :: f) = Ex x + DP f := by simp [DP]
    have j : Ay (x :: f) = x.text.length + Ay f := by simp [Ay]
    rw [h1, j, List.length_cons]
    unfold Ex
    split <;> omega
def Small (f : List Item) : Prop := f.length ≤ 100000 ∧ Ay f ≤ 1000000
def Bh (x : Item) : Bool := decide (x.kind = 2) || decide (x.kind = 3) || decide (x.kind = 4)
theorem Gg (x : Item) : Bh x = true ↔ (x.kind = 2 ∨ x.kind = 3) ∨ x.kind = 4 := by simp [Bh]
def Fz (x y : Item) : Bool := Bh y && decide (y.id = x.id) && (decide (x.kind ≠ 3) || decide (y.kind ≠ 2) || decide (CJ y.text ≠ x.text))
def Bx (b : List Item) (x : Item) : Bool :=
  if x.kind = 1 then decide (x.text ≠ []) && decide (x.id = 0) && (decide (b = []) || decide ((b.getD (b.length - 1) default).kind ≠ 1))
  else if x.kind = 5 then DJ x.text && decide (x.id = 0)
  else if x.kind = 2 ∨ x.kind = 4 then Ch x.text && decide (1 ≤ x.id) && decide (x.id ≤ 999)
  else if x.kind = 3 then DJ x.text && decide (1 ≤ x.id) && decide (x.id ≤ 999)
  else false
def CY (b : List Item) (x : Item) : Int := if Bx b x = true then (if Bh x && b.any (Fz x) then 7 else 0) else 1
def Bo : List Item → List Item → Int
  | _, [] => 0
  | b, x :: r => if CY b x = 0 then Bo (b ++ [x]) r else CY b x
def D7 (f : List Item) : Int := if 512 < f.length ∨ 1024 < DP f then 3 else Bo [] f
def BF (out : List Item) (x : Item) : List Item :=
  if x.kind = 1 then
    if x.text = [] then out
    else if out ≠ [] ∧ (out.getD (out.length - 1) default).kind = 1 then out.set (out.length - 1) ⟨1, (out.getD (out.length - 1) default).text ++ x.text, 0⟩
    else out ++ [⟨1, x.text, 0⟩]
  else out ++ [x]
def Bf (f : List Item) : List Item := f.foldl BF []
theorem Xz (x : Item) : 0 ≤ Ex x ∧ Ex x ≤ (x.text.length : Int) + 1 := by unfold Ex; split <;> omega
theorem Ky {α : Type} (f : List α) (d : α) (i j : Nat) (h : j < i) : (f.take i).getD j d = f.getD j d := by
  simp only [List.getD_eq_getElem?_getD, List.getElem?_take, if_pos h]
theorem RD {α : Type} {f : List α} {i : Nat} (j : i < f.length) : f.take i = [] ↔ i = 0 := by
  constructor
  · intro h
    have : (f.take i).length = 0 := by rw [h]; rfl
    rw [List.length_take] at this; omega
  · intro h; subst h; rfl
theorem SY {f : List Item} {i : Nat} (I : i < f.length) (hk : (f.getD i default).kind = 1) :
    Bx (f.take i) (f.getD i default) = true ↔ ((¬ (f.getD i default).text = [] ∧ (f.getD i default).id = 0) ∧ ((i : Int) = 0 ∨ ¬ (f.getD (i - 1) default).kind = 1)) := by
  unfold Bx
  rw [if_pos hk]
  simp only [Bool.and_eq_true, Bool.or_eq_true, decide_eq_true_eq, ne_eq, RD I]
  have J : (f.take i).length = i := by simp; omega
  rw [J]
  by_cases j : i = 0
  · simp [j]
  · rw [Ky f default i (i - 1) ω]
    have : ¬ ((i : Int) = 0) := by omega
    simp [j]
theorem Lc {b : List Item} {x : Item} (hk : x.kind = 5) : Bx b x = true ↔ (DJ x.text = true ∧ x.id = 0) := by
  unfold Bx
  rw [if_neg ω, if_pos hk]
  simp
theorem C5 {b : List Item} {x : Item} (hk : x.kind = 2 ∨ x.kind = 4) : Bx b x = true ↔ ((Ch x.text = true ∧ 1 ≤ x.id) ∧ x.id ≤ 999) := by
  unfold Bx
  rw [if_neg ω, if_neg ω, if_pos hk]
  simp
theorem EL {b : List Item} {x : Item} (hk : x.kind = 3) : Bx b x = true ↔ ((DJ x.text = true ∧ 1 ≤ x.id) ∧ x.id ≤ 999) := by
  unfold Bx
  rw [if_neg ω, if_neg ω, if_neg ω, if_pos hk]
  simp
theorem Qy {b : List Item} {x : Item} (h1 : ¬ x.kind = 1) (I : ¬ x.kind = 5) (J : ¬ x.kind = 2) (U : ¬ x.kind = 4) (j : ¬ x.kind = 3) : Bx b x = false := by
  unfold Bx
  rw [if_neg h1, if_neg I, if_neg ω, if_neg j]
theorem FY (x y : Item) : Fz x y = true ↔ (Bh y = true ∧ y.id = x.id) ∧ ((¬ x.kind = 3 ∨ ¬ y.kind = 2) ∨ ¬ CJ y.text = x.text) := by
  unfold Fz
  simp [or_assoc]
theorem Pf {x y : Item} (h : (!Bh y) = true ∨ ¬ y.id = x.id) : Fz x y = false := by
  rw [← Bool.not_eq_true, FY]
  rintro ⟨⟨h1, h2⟩, _⟩
  rcases h with h | h
  · rw [h1] at h; cases h
  · exact h h2
theorem Oy {x y : Item} (h : ¬ ((¬ x.kind = 3 ∨ ¬ y.kind = 2) ∨ ¬ CJ y.text = x.text)) : Fz x y = false := by
  rw [← Bool.not_eq_true, FY]
  rintro ⟨_, h1⟩
  exact h h1
theorem Wb {x y : Item} (h : ¬ ((!Bh y) = true ∨ ¬ y.id = x.id)) (I : (¬ x.kind = 3 ∨ ¬ y.kind = 2) ∨ ¬ CJ y.text = x.text) : Fz x y = true := by
  rw [FY]
  refine ⟨⟨?_, ?_⟩, I⟩
  · exact Decidable.byContradiction fun j => h (.inl (by simpa using j))
  · exact Decidable.byContradiction fun j => h (.inr j)
theorem cB {α : Type} {p : α → Bool} {d : α} {l : List α} (k : Nat) (hk : k < l.length) (h : p (l.getD k d) = true) : l.any p = true := by
  rw [List.any_eq_true]
  have e : l.getD k d = l[k] := by simp [List.getD, hk]
  rw [e] at h
  exact ⟨_, List.getElem_mem hk, h⟩
theorem eK {α : Type} {p : α → Bool} {d : α} {l : List α} (h : ∀ j, j < l.length → p (l.getD j d) = false) : l.any p = false := by
  rw [List.any_eq_false]
  intro x hx
  obtain ⟨j, J, rfl⟩ := List.getElem_of_mem hx
  have I := h j J
  have e : l.getD j d = l[j] := by simp [List.getD, J]
  rw [e] at I
  simp [I]
theorem Jg {α : Type} (d : α) (l : List α) (k : Nat) (h : k < l.length) : l.drop k = l.getD k d :: l.drop (k + 1) := by
  rw [List.drop_eq_getElem_cons h]; simp [List.getD, h]
theorem SC (f : List Item) (k : Nat) (h : k < f.length) : Bo (f.take k) (f.drop k) = if CY (f.take k) (f.getD k default) = 0 then Bo (f.take (k + 1)) (f.drop (k + 1)) else CY (f.take k) (f.getD k default) := by
  rw [Jg default f k h]
  conv => lhs; unfold Bo
  rw [A7 f k h]
theorem c7 {f : List Item} {k : Nat} (h : k < f.length) (j : CY (f.take k) (f.getD k default) = 0) : Bo (f.take k) (f.drop k) = Bo (f.take (k + 1)) (f.drop (k + 1)) := by rw [SC f k h, if_pos j]
theorem XA {f : List Item} {k : Nat} (h : k < f.length) (j : ¬ CY (f.take k) (f.getD k default) = 0) : Bo (f.take k) (f.drop k) = CY (f.take k) (f.getD k default) := by rw [SC f k h, if_neg j]
theorem bu {f : List Item} {k : Nat} (h : f.length ≤ k) : Bo (f.take k) (f.drop k) = 0 := by rw [List.drop_eq_nil_of_le h]; unfold Bo; rfl
theorem Pk {f : List Item} (h : ¬ (512 < (f.length : Int) ∨ 1024 < DP f)) : D7 f = Bo [] f := by unfold D7; rw [if_neg ω]
theorem WG {f : List Item} (h : 512 < (f.length : Int) ∨ 1024 < DP f) : D7 f = 3 := by unfold D7; rw [if_pos ω]
theorem PA {b : List Item} {x : Item} (h : ¬ Bx b x = true) : CY b x = 1 := by unfold CY; rw [if_neg h]
theorem Kv {b : List Item} {x : Item} (h : Bx b x = true) (j : Bh x = true) (I : b.any (Fz x) = true) : CY b x = 7 := by unfold CY; rw [if_pos h, j, I]; rfl
theorem Hv {b : List Item} {x : Item} (h : Bx b x = true) (j : ¬ (Bh x = true ∧ b.any (Fz x) = true)) : CY b x = 0 := by
  unfold CY; rw [if_pos h, if_neg (by simpa using j)]
theorem TM {x : Item} (h : x.kind = 1 ∨ x.kind = 5) : ¬ Bh x = true := by rw [Gg]; omega
theorem UC {f : List Item} (h : Small f) (k : Nat) : Small (f.take k) := ⟨by have := h.1; rw [List.length_take]; omega, by have := DX f k; have := h.2; omega⟩
theorem EI {b : List Item} {x : Item} (hk : x.kind = 1) : Bx b x = true ↔ ((¬ x.text = [] ∧ x.id = 0) ∧ (b = [] ∨ ¬ (b.getD (b.length - 1) default).kind = 1)) := by
  unfold Bx
  rw [if_pos hk]
  simp only [Bool.and_eq_true, Bool.or_eq_true, decide_eq_true_eq, ne_eq]
theorem Pb {b : List Item} {x : Item} (hk : x.kind = 1 ∨ x.kind = 5) (h : Bx b x = true) : CY b x = 0 := Hv h (fun j => TM hk j.1)
theorem Hh (l : List Item) (x : Item) : Bf (l ++ [x]) = BF (Bf l) x := by unfold Bf; rw [List.foldl_append]; rfl
theorem Bc (f : List Item) (k : Nat) (h : k < f.length) : Bf (f.take (k + 1)) = BF (Bf (f.take k)) (f.getD k default) := by rw [A7 f k h, Hh]
theorem CI {o : List Item} {x : Item} (h : ¬ x.kind = 1) : BF o x = o ++ [x] := by unfold BF; rw [if_neg h]
theorem D0 {o : List Item} {x : Item} (h : x.kind = 1) (j : x.text = []) : BF o x = o := by unfold BF; rw [if_pos h, if_pos j]
theorem Gr {o : List Item} {x : Item} (h : x.kind = 1) (I : ¬ x.text = []) (j : (0 : Int) < (o.length : Nat) ∧ (o.getD (o.length - 1) default).kind = 1) :
    BF o x = o.set (o.length - 1) ⟨1, (o.getD (o.length - 1) default).text ++ x.text, 0⟩ := by
  unfold BF
  have : o ≠ [] := by intro e; subst e; simp at j
  rw [if_pos h, if_neg I, if_pos ⟨this, j.2⟩]
theorem Eo {o : List Item} {x : Item} (h : x.kind = 1) (I : ¬ x.text = []) (J : ¬ ((0 : Int) < (o.length : Nat) ∧ (o.getD (o.length - 1) default).kind = 1)) : BF o x = o ++ [⟨1, x.text, 0⟩] := by
  unfold BF
  rw [if_pos h, if_neg I, if_neg (fun j => J ⟨by have := List.length_pos_iff.2 j.1; omega, j.2⟩)]
theorem Gt {α : Type} (l : List α) (x d : α) : (l ++ [x]).getD l.length d = x := by simp [List.getD]
theorem Xh {α : Type} (l : List α) (x y : α) : (l ++ [x]).set l.length y = l ++ [y] := by simp
theorem Fl {o : List Item} {y x : Item} (J : y.kind = 1) (h : x.kind = 1) (I : ¬ x.text = []) : BF (o ++ [y]) x = o ++ [⟨1, y.text ++ x.text, 0⟩] := by
  have j : (o ++ [y]).length - 1 = o.length := by simp
  rw [Gr h I (by rw [j, Gt]; exact ⟨by simp, J⟩), j, Gt, Xh]
theorem Cx {α : Type} {Q : List α → Prop} (I : Q []) (h1 : ∀ l x, Q l → Q (l ++ [x])) : ∀ (m : Nat) (l : List α), l.length = m → Q l
  | 0, l, h => by have := List.eq_nil_of_length_eq_zero h; subst this; exact I
  | m + 1, l, h => by
    have j : l ≠ [] := by intro e; subst e; simp at h
    rw [← List.dropLast_concat_getLast j]
    exact h1 _ _ (Cx I h1 m _ θ)
theorem OH {Q : List Item → List Item → Prop} (j : Q [] []) (h1 : ∀ l x, Q l (Bf l) → Q (l ++ [x]) (BF (Bf l) x)) (f : List Item) : Q f (Bf f) := by
  refine Cx (Q := fun f => Q f (Bf f)) j (fun l x I => ?_) _ f rfl
  rw [Hh]; exact h1 l x I
theorem HG (o : List Item) (x : Item) : (x.kind = 1 ∧ x.text = [] ∧ BF o x = o) ∨ (x.kind = 1 ∧ BF o x = o ++ [⟨1, x.text, 0⟩]) ∨ (¬ x.kind = 1 ∧ BF o x = o ++ [x]) ∨
    (x.kind = 1 ∧ ∃ m q, o = m ++ [q] ∧ q.kind = 1 ∧ BF o x = m ++ [⟨1, q.text ++ x.text, 0⟩]) := by
  by_cases hk : x.kind = 1
  · by_cases I : x.text = []
    · exact .inl ⟨hk, I, D0 hk I⟩
    · by_cases j : (0 : Int) < (o.length : Nat) ∧ (o.getD (o.length - 1) default).kind = 1
      · have J : o ≠ [] := by intro e; subst e; simp at j
        obtain ⟨m, q, rfl⟩ : ∃ m q, o = m ++ [q] := ⟨o.dropLast, o.getLast J, (List.dropLast_concat_getLast J).symm⟩
        have U : (m ++ [q]).length - 1 = m.length := by simp
        rw [U, Gt] at j
        exact .inr (.inr (.inr ⟨hk, m, q, rfl, j.2, Fl j.2 hk I⟩))
      · exact .inr (.inl ⟨hk, Eo hk I j⟩)
  · exact .inr (.inr (.inl ⟨hk, CI hk⟩))
theorem BR (f g : List Item) : Ay (f ++ g) = Ay f + Ay g := by simp [Ay]
theorem CK (x : Item) : Ay [x] = x.text.length := by simp [Ay]
theorem D9 (f : List Item) : (Bf f).length ≤ f.length := by
  refine OH (Q := fun f n => n.length ≤ f.length) (by simp) (fun l x j => ?_) f
  rcases HG (Bf l) x with ⟨_, _, e⟩ | ⟨_, e⟩ | ⟨_, e⟩ | ⟨_, m, q, e0, _, e⟩
  · rw [e]; simp; omega
  · rw [e]; simp; omega
  · rw [e]; simp; omega
  · rw [e]; rw [e0] at j; simp at j ⊢; omega
theorem D4 (f : List Item) : Ay (Bf f) ≤ Ay f := by
  refine OH (Q := fun f n => Ay n ≤ Ay f) (by simp [Ay]) (fun l x j => ?_) f
  rw [BR, CK]
  rcases HG (Bf l) x with ⟨_, _, e⟩ | ⟨_, e⟩ | ⟨_, e⟩ | ⟨_, m, q, e0, _, e⟩
  · rw [e]; omega
  · rw [e, BR, CK]; dsimp only; omega
  · rw [e, BR, CK]; omega
  · rw [e, BR, CK]; rw [e0, BR, CK] at j; dsimp only; rw [List.length_append]; omega
def JQ (o : List Item) (bs : Ac) : List Item := if bs = [] then o else o ++ [⟨1, bs, 0⟩]
def DI (o : List Item) : Prop := ¬ ((0 : Int) < (o.length : Nat) ∧ (o.getD (o.length - 1) default).kind = 1)
theorem Rz {o : List Item} {x : Item} (h : ¬ x.kind = 1) : DI (o ++ [x]) := by
  unfold DI
  have I : (o ++ [x]).length - 1 = o.length := by simp
  rw [I, Gt]
  exact fun j => h j.2
theorem N8 : DI [] := by unfold DI; simp
theorem Vo {o : List Item} {I : Ac} {x : Item} (U : DI o) (hk : x.kind = 1) : BF (JQ o I) x = JQ o (I ++ x.text) := by
  by_cases j : x.text = []
  · rw [D0 hk j, j, List.append_nil]
  · by_cases J : I = []
    · subst J
      unfold JQ
      rw [if_pos rfl, List.nil_append, if_neg j, Eo hk j U]
    · unfold JQ
      rw [if_neg J, if_neg (by simp [J]), Fl rfl hk j]
theorem Oj (o : List Item) : JQ o [] = o := by unfold JQ; rw [if_pos rfl]
theorem RQ {o : List Item} {j : Ac} (h : ¬ (0 : Int) < (j.length : Nat)) : JQ o j = o := by
  have := List.eq_nil_of_length_eq_zero (show j.length = 0 by omega)
  subst this; exact Oj o
theorem PO {o : List Item} {j : Ac} (h : (0 : Int) < (j.length : Nat)) : JQ o j = o ++ [⟨1, j, 0⟩] := by
  unfold JQ; rw [if_neg (by intro e; subst e; simp at h)]
theorem Nf {f : List Item} (h : Small f) : Small (Bf f) := ⟨by have := D9 f; have := h.1; omega, by have := D4 f; have := h.2; omega⟩
def EE (o : List Int) (n : Int) : List Int := if n ∈ o then o else o ++ [n]
def CM (o : List Int) (x : Item) : List Int := if Bh x = true then EE o x.id else o
def A4 (f : List Item) : List Int := f.foldl CM []
theorem D2 (l : List Item) (x : Item) : A4 (l ++ [x]) = CM (A4 l) x := by unfold A4; rw [List.foldl_append]; rfl
theorem CZ (f : List Item) (k : Nat) (h : k < f.length) : A4 (f.take (k + 1)) = CM (A4 (f.take k)) (f.getD k default) := by rw [A7 f k h, D2]
theorem G9 {o : List Int} {x : Item} (h : Bh x = true) (j : ¬ x.id ∈ o) : CM o x = o ++ [x.id] := by unfold CM EE; rw [if_pos h, if_neg j]
theorem Fk {o : List Int} {x : Item} (h : ¬ (Bh x = true ∧ ¬ x.id ∈ o)) : CM o x = o := by
  unfold CM EE
  by_cases h1 : Bh x = true
  · rw [if_pos h1, if_pos (Decidable.byContradiction fun j => h ⟨h1, j⟩)]
  · rw [if_neg h1]
theorem TO (o : List Int) (n : Int) : (EE o n).length ≤ o.length + 1 := by unfold EE; split <;> simp
theorem QW (o : List Int) (x : Item) : (CM o x).length ≤ o.length + 1 := by
  unfold CM
  split
  · exact TO _ _
  · omega
theorem Df (f : List Item) : (A4 f).length ≤ f.length := by
  refine Cx (Q := fun f => (A4 f).length ≤ f.length) (by simp [A4]) (fun l x j => ?_) _ f rfl
  rw [D2]
  have := QW (A4 l) x
  simp only [List.length_append, List.length_cons, List.length_nil]
  omega
theorem IM {o : List Int} {n : Int} (h : n ∈ o) : EE o n = o := by unfold EE; rw [if_pos h]
theorem M8 {o : List Int} {n : Int} (h : ¬ n ∈ o) : EE o n = o ++ [n] := by unfold EE; rw [if_neg h]
theorem Rn {o : List Int} {n x : Int} : x ∈ EE o n ↔ x ∈ o ∨ x = n := by
  unfold EE
  split
  · rename_i h
    exact ⟨fun h1 => .inl h1, fun h1 => h1.elim id (fun j => j ▸ h)⟩
  · simp
theorem SZ : ∀ (m : List Int) (o : List Int) (x : Int), x ∈ m.foldl EE o ↔ x ∈ o ∨ x ∈ m
  | [], o, x => by simp
  | n :: m, o, x => by
    rw [List.foldl_cons, SZ m, Rn, List.mem_cons, or_assoc]
theorem W4 (o m : List Int) (n : Int) : (EE m n).foldl EE o = EE (m.foldl EE o) n := by
  by_cases h : n ∈ m
  · rw [IM h, IM ((SZ m o n).2 (.inr h))]
  · rw [M8 h, List.foldl_append]; rfl
theorem Rh (o : List Int) (t : List Item) : (A4 t).foldl EE o = t.foldl CM o := by
  refine Cx (Q := fun t => (A4 t).foldl EE o = t.foldl CM o) rfl (fun l x j => ?_) _ t rfl
  rw [D2, List.foldl_append]
  unfold CM
  show _ = CM _ x
  unfold CM
  by_cases h : Bh x = true
  · rw [if_pos h, if_pos h, W4, j]; rfl
  · rw [if_neg h, if_neg h, j]; rfl
theorem O1 (s t : List Item) : (A4 t).foldl EE (A4 s) = A4 (s ++ t) := by
  rw [Rh]
  unfold A4
  rw [List.foldl_append]
def DL (fr to_ : List Int) (n : Int) : Option Int := Az (fr.zip to_) n
theorem Gk {j to_ : List Int} {k : Nat} (h1 : k < j.length) (I : k < to_.length) (n : Int) : DL (j.drop k) (to_.drop k) n = if j.getD k default = n then some (to_.getD k default) else DL (j.drop (k + 1)) (to_.drop (k + 1)) n := by
  unfold DL
  rw [Jg default j k h1, Jg default to_ k I, List.zip_cons_cons, Dl]
theorem Hd {j to_ : List Int} {k : Nat} (h : j.length ≤ k ∨ to_.length ≤ k) (n : Int) : DL (j.drop k) (to_.drop k) n = none := by
  unfold DL
  rcases h with h | h
  · rw [List.drop_eq_nil_of_le h, List.zip_nil_left]; rfl
  · rw [List.drop_eq_nil_of_le h, List.zip_nil_right]; rfl
def LK (fr to_ : List Int) (x : Item) : List Item := if Bh x = true then (match DL fr to_ x.id with | some n => [⟨x.kind, x.text, n⟩] | none => []) else [x]
def Hc (fr to_ : List Int) (f : List Item) : List Item := f.flatMap (LK fr to_)
def Kw (fr to_ : List Int) (f : List Item) : List Item := Bf (Hc fr to_ f)
theorem Bv (j to_ : List Int) (f : List Item) (k : Nat) (h : k < f.length) : Hc j to_ (f.take (k + 1)) = Hc j to_ (f.take k) ++ LK j to_ (f.getD k default) := by
  unfold Hc; rw [A7 f k h]; simp
theorem Eb {j to_ : List Int} {x : Item} (h : ¬ Bh x = true) : LK j to_ x = [x] := by unfold LK; rw [if_neg h]
theorem Fm {j to_ : List Int} {x : Item} {n : Int} (h : Bh x = true) (I : DL j to_ x.id = some n) : LK j to_ x = [⟨x.kind, x.text, n⟩] := by unfold LK; rw [if_pos h, I]
theorem Gy {j to_ : List Int} {x : Item} (h : Bh x = true) (I : DL j to_ x.id = none) : LK j to_ x = [] := by unfold LK; rw [if_pos h, I]
theorem a8 (j to_ : List Int) (x : Item) : (LK j to_ x).length ≤ 1 ∧ Ay (LK j to_ x) ≤ x.text.length := by
  unfold LK
  split
  · split
    · simp [Ay]
    · simp [Ay]
  · simp [Ay]
theorem HJ (j to_ : List Int) : ∀ (f : List Item), (Hc j to_ f).length ≤ f.length ∧ Ay (Hc j to_ f) ≤ Ay f
  | [] => by simp [Hc]
  | x :: f => by
    have U := HJ j to_ f
    have h1 : Hc j to_ (x :: f) = LK j to_ x ++ Hc j to_ f := by simp [Hc]
    have I : Ay (x :: f) = x.text.length + Ay f := by simp [Ay]
    have J := a8 j to_ x
    rw [h1, I, List.length_append, BR, List.length_cons]
    omega
theorem LN {j to_ : List Int} {f : List Item} (h : Small f) : Small (Hc j to_ f) := ⟨by have := HJ j to_ f; have := h.1; omega, by have := HJ j to_ f; have := h.2; omega⟩
def upL (n : Nat) : List Int := (List.range n).map (fun i => ((i : Nat) : Int) + 1)
theorem ZO (n : Nat) : upL (n + 1) = upL n ++ [((n : Nat) : Int) + 1] := by unfold upL; rw [List.range_succ]; simp
theorem Ee (n : Nat) : (upL n).length = n := by simp [upL]
theorem ZJ {n j : Nat} (h : j < n) : (upL n).getD j default = (j : Int) + 1 := by simp [upL, List.getD, h]
theorem HM {α β : Type} [Inhabited β] (f : α → β → α) (o : α) (l : List β) (k : Nat) (h : k < l.length) : (l.take (k + 1)).foldl f o = f ((l.take k).foldl f o) (l.getD k default) := by
  rw [A7 l k h, List.foldl_append]; rfl
theorem X2 (o : List Int) : ∀ (m : List Int), (m.foldl EE o).length ≤ o.length + m.length := fun m => by
  refine Cx (Q := fun m => (m.foldl EE o).length ≤ o.length + m.length) (by simp) (fun l x j => ?_) _ m rfl
  rw [List.foldl_append]
  have := TO (l.foldl EE o) x
  simp only [List.foldl_cons, List.foldl_nil, List.length_append, List.length_cons, List.length_nil]
  omega
theorem OC : ∀ (f b : List Item) (x : Item), Bo b (f ++ [x]) = 0 ↔ Bo b f = 0 ∧ CY (b ++ f) x = 0
  | [], b, x => by
    rw [List.nil_append, List.append_nil]
    have e : Bo b [x] = if CY b x = 0 then Bo (b ++ [x]) [] else CY b x := by
      conv => lhs; unfold Bo
    have I : ∀ c : List Item, Bo c [] = 0 := fun c => by rw [Bo]
    rw [e, I, I]
    by_cases h : CY b x = 0
    · rw [if_pos h]; simp [h]
    · rw [if_neg h]; simp [h]
  | y :: f, b, x => by
    rw [List.cons_append, Bo, Bo]
    by_cases h : CY b y = 0
    · rw [if_pos h, if_pos h, OC f (b ++ [y]) x, List.append_assoc]; rfl
    · rw [if_neg h, if_neg h]
      exact ⟨fun j => absurd j h, fun j => absurd j.1 h⟩
theorem EJ (f : List Item) (x : Item) : Bo [] (f ++ [x]) = 0 ↔ Bo [] f = 0 ∧ CY f x = 0 := OC f [] x
theorem GJ {b : List Item} {x : Item} (h : CY b x = 0) : Bx b x = true := by
  unfold CY at h
  split at h
  · rename_i h1; exact h1
  · cases h
theorem LC {b : List Item} (h : b = [] ∨ ¬ (b.getD (b.length - 1) default).kind = 1) : DI b := by
  unfold DI
  rintro ⟨h1, h2⟩
  rcases h with h | h
  · subst h; simp at h1
  · exact h h2
theorem PB {b : List Item} (h : DI b) : b = [] ∨ ¬ (b.getD (b.length - 1) default).kind = 1 := by
  by_cases j : b = []
  · exact .inl j
  · refine .inr fun I => h ⟨?_, I⟩
    have := List.length_pos_iff.2 j
    omega
theorem R7 {b : List Item} {t : Ac} (j : ¬ t = []) (h : DI b) : CY b ⟨1, t, 0⟩ = 0 := Pb (.inl rfl) ((EI rfl).2 ⟨⟨j, rfl⟩, PB h⟩)
theorem Su (f : List Item) : Bo [] f = 0 → Bf f = f := by
  refine Cx (Q := fun f => Bo [] f = 0 → Bf f = f) (fun _ => rfl) (fun l x J h => ?_) _ f rfl
  obtain ⟨h1, I⟩ := (EJ l x).1 h
  rw [Hh, J h1]
  by_cases hk : x.kind = 1
  · have j := (EI hk).1 (GJ I)
    rw [Eo hk j.1.1 (LC j.2)]
    obtain ⟨k, t, i⟩ := x
    obtain rfl : k = 1 := hk
    obtain rfl : i = 0 := j.1.2
    rfl
  · rw [CI hk]
structure FI (f op : List Item) (id : Int) : Prop where
  pos : 0 ≤ id
  val : Bo [] f = 0
  ids : ∀ y ∈ f, Bh y = true → y.id ≤ (id : Int)
  opn : ∀ o ∈ op, o.kind = 2 ∧ DJ (CJ o.text) = true ∧ 1 ≤ o.id ∧ o.id ≤ (id : Int) ∧ ∀ y ∈ f, Bh y = true → y.id = o.id → y.kind = 2 ∧ CJ y.text = CJ o.text
  dis : op.Pairwise (fun a b => a.id ≠ b.id)
theorem FI.nil : FI [] [] 0 := ⟨by decide, rfl, by simp, by simp, List.Pairwise.nil⟩
theorem FI.norm {f op : List Item} {id : Int} (h : FI f op id) (x : Item) : Bf (f ++ [x]) = BF f x := by rw [Hh, Su f h.val]
theorem FI.same {f g op : List Item} {id : Int} (h : FI f op id) (hv : Bo [] g = 0) (hm : ∀ y ∈ g, Bh y = true → y ∈ f) : FI g op id :=
  ⟨h.pos, hv, fun y I j => h.ids y (hm y I j) j, fun o ho => by
    obtain ⟨h1, J, U, h4, h5⟩ := h.opn o ho
    exact ⟨h1, J, U, h4, fun y I j => h5 y (hm y I j) j⟩, h.dis⟩
theorem YS (t : Ac) (i : Int) : ¬ Bh (⟨1, t, i⟩ : Item) = true := by rw [Gg]; simp
theorem FI.text {f op : List Item} {id : Int} (h : FI f op id) (t : Ac) : FI (BF f ⟨1, t, 0⟩) op id := by
  by_cases J : t = []
  · rw [D0 rfl J]; exact h
  · by_cases U : DI f
    · rw [Eo (x := ⟨1, t, 0⟩) rfl J U]
      refine h.same ((EJ _ _).2 ⟨h.val, R7 J U⟩) (fun y hy I => ?_)
      rcases List.mem_append.1 hy with h4 | h4
      · exact h4
      · simp at h4; subst h4; exact absurd I (YS _ _)
    · have j : (0 : Int) < (f.length : Nat) ∧ (f.getD (f.length - 1) default).kind = 1 := Decidable.byContradiction U
      have hz : f ≠ [] := by intro e; subst e; simp at j
      obtain ⟨m, q, rfl⟩ : ∃ m q, f = m ++ [q] := ⟨f.dropLast, f.getLast hz, (List.dropLast_concat_getLast hz).symm⟩
      have hl : (m ++ [q]).length - 1 = m.length := by simp
      rw [hl, Gt] at j
      rw [Fl (x := ⟨1, t, 0⟩) j.2 rfl J]
      obtain ⟨h1, h2⟩ := (EJ m q).1 h.val
      have h5 := (EI j.2).1 (GJ h2)
      refine h.same ((EJ _ _).2 ⟨h1, R7 (by simp [J]) (LC h5.2)⟩) (fun y hy I => ?_)
      rcases List.mem_append.1 hy with h4 | h4
      · exact List.mem_append_left _ h4
      · simp at h4; subst h4; exact absurd I (YS _ _)
theorem FI.slot {f op : List Item} {id : Int} (h : FI f op id) {t : Ac} (I : DJ t = true) : FI (BF f ⟨5, t, 0⟩) op id := by
  rw [CI (by simp)]
  refine h.same ((EJ _ _).2 ⟨h.val, Pb (.inr rfl) ((Lc rfl).2 ⟨I, rfl⟩)⟩) (fun y J j => ?_)
  rcases List.mem_append.1 J with h4 | h4
  · exact h4
  · simp at h4; subst h4; exact absurd j (TM (.inr rfl))
theorem FI.new {f op : List Item} {id : Int} (h : FI f op id) {x : Item} (hk : x.kind ≠ 1) (hid : x.id = (id : Int) + 1) (hf : Bx f x = true) : FI (BF f x) op (id + 1) := by
  rw [CI hk]
  have U : f.any (Fz x) = false := by
    rw [List.any_eq_false]
    intro y I hc
    have h1 := (FY x y).1 hc
    have := h.ids y I h1.1.1
    omega
  have hp := h.pos
  refine ⟨by omega, (EJ _ _).2 ⟨h.val, Hv hf (fun J => by rw [U] at J; simp at J)⟩, fun y I ht => ?_, fun o ho => ?_, h.dis⟩
  · rcases List.mem_append.1 I with j | j
    · have := h.ids y j ht; omega
    · simp at j; subst j; omega
  · obtain ⟨h1, J, h3, j, h5⟩ := h.opn o ho
    refine ⟨h1, J, h3, by omega, fun y I ht ag => ?_⟩
    rcases List.mem_append.1 I with h6 | h6
    · exact h5 y h6 ht ag
    · simp at h6; subst h6; omega
theorem P9 {s : Ac} (h : Ch s = true) : DJ (CJ s) = true := ((Ef s).1 h).2.2.1
theorem FI.empty {f op : List Item} {id : Int} (h : FI f op id) {t : Ac} (j : Ch t = true) (hid : id + 1 ≤ 999) : FI (BF f ⟨4, t, (id : Int) + 1⟩) op (id + 1) :=
  h.new (by simp) rfl ((C5 (.inr rfl)).2 ⟨⟨j, by have := h.pos; simp; omega⟩, by simp; omega⟩)
theorem FI.open_ {f op : List Item} {id : Int} (h : FI f op id) {t : Ac} (U : Ch t = true) (hid : id + 1 ≤ 999) : FI (BF f ⟨2, t, (id : Int) + 1⟩) (op ++ [⟨2, t, (id : Int) + 1⟩]) (id + 1) := by
  have h1 := h.new (x := ⟨2, t, (id : Int) + 1⟩) (by simp) rfl ((C5 (.inl rfl)).2 ⟨⟨U, by have := h.pos; simp; omega⟩, by simp; omega⟩)
  have hp := h.pos
  refine ⟨h1.pos, h1.val, h1.ids, fun o ho => ?_, List.pairwise_append.2 ⟨h.dis, List.pairwise_singleton _ _, fun a ha b J => ?_⟩⟩
  · rcases List.mem_append.1 ho with h2 | h2
    · exact h1.opn o h2
    · simp at h2; subst h2
      refine ⟨rfl, P9 U, (by first | (simp; done) | (simp; omega)), (by first | (simp; done) | (simp; omega)), fun y hy I j => ?_⟩
      rw [CI (by simp)] at hy
      rcases List.mem_append.1 hy with h6 | h6
      · have := h.ids y h6 I
        simp only at j
        omega
      · simp at h6; subst h6; exact ⟨rfl, rfl⟩
  · simp at J; subst J
    have := (h.opn a ha).2.2.2.1
    simp only
    omega
theorem FI.closeNew {f op : List Item} {id : Int} (h : FI f op id) {t : Ac} (j : DJ t = true) (hid : id + 1 ≤ 999) : FI (BF f ⟨3, t, (id : Int) + 1⟩) op (id + 1) :=
  h.new (by simp) rfl ((EL rfl).2 ⟨⟨j, by have := h.pos; simp; omega⟩, by simp; omega⟩)
theorem FI.close {f op : List Item} {id : Int} (h : FI f op id) {k : Nat} (hk : k < op.length) (hid : id ≤ 999) : FI (BF f ⟨3, CJ (op.getD k default).text, (op.getD k default).id⟩) (op.take k ++ op.drop (k + 1)) id := by
  have e : op.getD k default = op[k] := by simp [List.getD, hk]
  rw [e, CI (by simp)]
  have hm : op[k] ∈ op := List.getElem_mem hk
  obtain ⟨h1, h2, h3, h4, h5⟩ := h.opn _ hm
  have aS : op = op.take k ++ op[k] :: op.drop (k + 1) := by rw [← List.drop_eq_getElem_cons hk, List.take_append_drop]
  have I := h.dis
  rw [aS, List.pairwise_append, List.pairwise_cons] at I
  have ag : f.any (Fz ⟨3, CJ op[k].text, op[k].id⟩) = false := by
    rw [List.any_eq_false]
    intro y U hc
    have j := (FY _ y).1 hc
    have h7 := h5 y U j.1.1 j.1.2
    rcases j.2 with (h8 | h8) | h8
    · exact h8 rfl
    · exact h8 h7.1
    · exact h8 h7.2
  have J : ∀ o ∈ op.take k ++ op.drop (k + 1), o ∈ op ∧ o.id ≠ op[k].id := fun o ho => by
    rcases List.mem_append.1 ho with j | j
    · exact ⟨List.mem_of_mem_take j, I.2.2 o j _ (List.mem_cons_self ..)⟩
    · exact ⟨List.mem_of_mem_drop j, fun e2 => I.2.1.1 o j e2.symm⟩
  refine ⟨h.pos, (EJ _ _).2 ⟨h.val, Hv ((EL rfl).2 ⟨⟨h2, h3⟩, by simp only; omega⟩) (fun j => by rw [ag] at j; simp at j)⟩, fun y U ht => ?_, fun o ho => ?_, ?_⟩
  · rcases List.mem_append.1 U with j | j
    · exact h.ids y j ht
    · simp at j; subst j; exact h4
  · obtain ⟨au, az⟩ := J o ho
    obtain ⟨g1, g2, g3, g4, g5⟩ := h.opn o au
    refine ⟨g1, g2, g3, g4, fun y U ht af => ?_⟩
    rcases List.mem_append.1 U with j | j
    · exact g5 y j ht af
    · simp at j; subst j; exact absurd af.symm az
  · rw [List.pairwise_append]
    exact ⟨I.1, I.2.1.2, fun a ha b hb => I.2.2 a ha b (List.mem_cons_of_mem _ hb)⟩
def slotW : List Ac := [[110], [110, 97, 109, 101], [120, 49]]
def emptyW : List Ac := [[98, 114], [105, 109, 103, 32, 97]]
def openW : List Ac := [[98], [105], [97, 32, 104, 61, 49]]
theorem CN : ∀ j, j < 3 → DJ (slotW.getD j default) = true ∧ (slotW.getD j default).length ≤ 5 := by decide
theorem Bu : ∀ j, j < 2 → Ch (emptyW.getD j default) = true ∧ (emptyW.getD j default).length ≤ 5 := by decide
theorem BZ : ∀ j, j < 3 → Ch (openW.getD j default) = true ∧ (openW.getD j default).length ≤ 5 := by decide
theorem GF {op : List Item} (h : ∀ o ∈ op, o.text.length ≤ 5) (k : Nat) : (op.getD k default).text.length ≤ 5 := by
  rcases Nat.lt_or_ge k op.length with h1 | h1
  · have e : op.getD k default = op[k] := by simp [List.getD, h1]
    rw [e]; exact h _ (List.getElem_mem h1)
  · have e : op.getD k default = default := by simp [List.getD, List.getElem?_eq_none h1]
    rw [e]; exact Nat.zero_le _
theorem FI.closeLast {f op : List Item} {id : Int} {j : Nat} (h0 : 0 < j) (hj : j ≤ op.length) (h : FI f (op.take j) id) (hid : id ≤ 999) :
    FI (f ++ [⟨3, CJ (op.getD (j - 1) default).text, (op.getD (j - 1) default).id⟩]) (op.take (j - 1)) id := by
  have h1 := h.close (k := j - 1) (by rw [List.length_take]; omega) hid
  have I : (op.take j).getD (j - 1) default = op.getD (j - 1) default := Ky op default j (j - 1) ω
  have J : (op.take j).take (j - 1) = op.take (j - 1) := by rw [List.take_take]; congr 1; omega
  have U : (op.take j).drop (j - 1 + 1) = [] := List.drop_eq_nil_of_le (by rw [List.length_take]; omega)
  rw [I, J, U, List.append_nil, CI (by simp)] at h1
  exact h1
def De (o : Option (List Int × List Int)) (x : Item) : Option (List Int × List Int) :=
  match o with
  | none => none
  | some (c, s) =>
    if x.kind = 2 then some (c, s ++ [x.id])
    else if x.kind = 3 then (if s.length = 0 then some (c ++ [x.id], s) else if s.getD (s.length - 1) default = x.id then some (c, s.take (s.length - 1)) else none)
    else some (c, s)
def IY (f : List Item) : Option (List Int × List Int) := f.foldl De (some ([], []))
theorem HB (f : List Item) (x : Item) : IY (f ++ [x]) = De (IY f) x := by unfold IY; rw [List.foldl_append]; rfl
theorem DV {o : Option (List Int × List Int)} {x : Item} (j : ¬ x.kind = 2) (I : ¬ x.kind = 3) : De o x = o := by
  unfold De
  cases o with
  | none => rfl
  | some p => obtain ⟨c, s⟩ := p; simp only [if_neg j, if_neg I]
theorem TX {o : Option (List Int × List Int)} {c s : List Int} {x : Item} (j : o = some (c, s)) (h : x.kind = 2) : De o x = some (c, s ++ [x.id]) := by
  subst j; unfold De; simp only [if_pos h]
theorem RR {o : Option (List Int × List Int)} {c s : List Int} {x : Item} (j : o = some (c, s)) (h : x.kind = 3) (I : ¬ s.length = 0) (he : s.getD (s.length - 1) default = x.id) : De o x = some (c, s.take (s.length - 1)) := by
  subst j; unfold De; simp only [if_neg (show ¬ x.kind = 2 by omega), if_pos h, if_neg I, if_pos he]
theorem Ff (f : List Item) (x : Item) : IY (BF f x) = De (IY f) x := by
  rcases HG f x with ⟨h1, h2, e⟩ | ⟨h1, e⟩ | ⟨h1, e⟩ | ⟨h1, m, q, e0, hq, e⟩
  · rw [e, DV ω ω]
  · rw [e, HB, DV (by simp) (by simp), DV ω ω]
  · rw [e, HB]
  · rw [e, HB, DV (by simp) (by simp), DV (x := x) ω ω, e0, HB, DV ω ω]
def NS (nb : Bool) (f op : List Item) : Prop := nb = true → IY f = some ([], op.map (fun o => o.id))
theorem NS.nil (j : Bool) : NS j [] [] := fun _ => rfl
theorem NS.other {j : Bool} {f op : List Item} (h : NS j f op) {x : Item} (I : ¬ x.kind = 2) (J : ¬ x.kind = 3) : NS j (BF f x) op := fun U => by rw [Ff, DV I J, h U]
theorem NS.otherB {j : Bool} {f op : List Item} (h : NS j f op) {x : Item} (I : (x.kind == 2) = false) (J : (x.kind == 3) = false) : NS j (BF f x) op := h.other (by simpa using I) (by simpa using J)
theorem NS.open_ {j : Bool} {f op : List Item} (h : NS j f op) (t : Ac) (i : Int) : NS j (BF f ⟨2, t, i⟩) (op ++ [⟨2, t, i⟩]) := fun I => by
  rw [Ff, TX (h I) rfl]; simp
theorem NS.closeNew {j : Bool} {f op : List Item} (I : ¬ j = true) : NS j f op := fun h => absurd h I
theorem NS.close {j : Bool} {f op : List Item} (h : NS j f op) {k : Nat} (hk : k < op.length) (hl : j = true → k = op.length - 1) (t : Ac) : NS j (BF f ⟨3, t, (op.getD k default).id⟩) (op.take k ++ op.drop (k + 1)) := fun I => by
  have e := hl I
  have J : (op.map (fun o => o.id)).getD ((op.map (fun o => o.id)).length - 1) default = (op.getD k default).id := by
    rw [List.length_map, ← e]; simp [List.getD, hk]
  rw [Ff, RR (x := ⟨3, t, (op.getD k default).id⟩) (h I) rfl (by simp; intro U; subst U; simp at hk) J, List.drop_eq_nil_of_le ω, List.append_nil, List.length_map, ← e, List.map_take]
theorem NS.closeLast {I : Bool} {f op : List Item} {j : Nat} (h0 : 0 < j) (hj : j ≤ op.length) (h : NS I f (op.take j)) (t : Ac) : NS I (f ++ [⟨3, t, (op.getD (j - 1) default).id⟩]) (op.take (j - 1)) := by
  have h1 := h.close (k := j - 1) (by rw [List.length_take]; omega) (fun _ => by rw [List.length_take]; omega) t
  have J : (op.take j).getD (j - 1) default = op.getD (j - 1) default := Ky op default j (j - 1) ω
  have U : (op.take j).take (j - 1) = op.take (j - 1) := by rw [List.take_take]; congr 1; omega
  have e3 : (op.take j).drop (j - 1 + 1) = [] := List.drop_eq_nil_of_le (by rw [List.length_take]; omega)
  rw [J, U, e3, List.append_nil, CI (by simp)] at h1
  exact h1
theorem NS.done {I : Bool} {f op : List Item} {j : Nat} (h : NS I f (op.take j)) (U : ¬ ((0 : Int) ≤ (j : Int) - 1 ∧ I = true)) (J : I = true) : IY f = some ([], []) := by
  have e : j = 0 := by
    rcases Nat.eq_zero_or_pos j with h1 | h1
    · exact h1
    · exact absurd ⟨by omega, J⟩ U
  subst e
  exact h J
theorem Tg {b : List Item} {x : Item} : Bx b x = true ↔ Bx [] x = true ∧ (x.kind = 1 → DI b) := by
  by_cases hk : x.kind = 1
  · rw [EI hk, EI hk]
    constructor
    · rintro ⟨h1, j⟩; exact ⟨⟨h1, .inl rfl⟩, fun _ => LC j⟩
    · rintro ⟨⟨h1, _⟩, j⟩; exact ⟨h1, PB (j hk)⟩
  · have e : Bx b x = Bx [] x := by unfold Bx; rw [if_neg hk, if_neg hk]
    rw [e]
    exact ⟨fun h => ⟨h, fun j => absurd j hk⟩, fun h => h.1⟩
def cA : List Item → Prop
  | [] => False
  | y :: _ => y.kind = 1
def NA : List Item → Prop
  | [] => True
  | x :: l => ¬ (x.kind = 1 ∧ cA l) ∧ NA l
theorem RL (y z : Item) (r : List Item) : DI (y :: z :: r) ↔ DI (z :: r) := by
  unfold DI
  have e : (y :: z :: r).getD ((y :: z :: r).length - 1) default = (z :: r).getD ((z :: r).length - 1) default := by simp [List.getD]
  rw [e]
  simp only [List.length_cons]
  constructor
  · intro h j; exact h ⟨by omega, j.2⟩
  · intro h j; exact h ⟨by omega, j.2⟩
theorem Qf : ∀ (f : List Item) (x : Item), NA (f ++ [x]) ↔ NA f ∧ (x.kind = 1 → DI f)
  | [], x => by simp [NA, cA, N8]
  | [y], x => by
    have h : DI [y] ↔ ¬ y.kind = 1 := by unfold DI; simp
    simp [NA, cA, h]
    constructor
    · intro h1 j I; exact h1 I j
    · intro h1 j I; exact h1 I j
  | y :: z :: r, x => by
    have J := Qf (z :: r) x
    rw [RL]
    simp only [List.cons_append] at J ⊢
    show (¬ (y.kind = 1 ∧ z.kind = 1) ∧ NA (z :: (r ++ [x]))) ↔ (¬ (y.kind = 1 ∧ z.kind = 1) ∧ NA (z :: r)) ∧ _
    rw [J, and_assoc]
def QQ (y x : Item) : Prop := Bh x = true → Fz x y = false
theorem PI {f : List Item} {x : Item} : ¬ (Bh x = true ∧ f.any (Fz x) = true) ↔ ∀ y ∈ f, QQ y x := by
  unfold QQ
  constructor
  · intro h y J I
    cases j : Fz x y with
    | false => rfl
    | true => exact absurd ⟨I, List.any_eq_true.2 ⟨y, J, j⟩⟩ h
  · rintro h ⟨I, ha⟩
    obtain ⟨y, J, j⟩ := List.any_eq_true.1 ha
    rw [h y J I] at j; cases j
theorem Vx {b : List Item} {x : Item} : CY b x = 0 ↔ Bx b x = true ∧ ∀ y ∈ b, QQ y x := by
  constructor
  · intro h
    refine ⟨GJ h, PI.1 fun j => ?_⟩
    rw [Kv (GJ h) j.1 j.2] at h; cases h
  · rintro ⟨h1, j⟩
    exact Hv h1 (PI.2 j)
structure VF (f : List Item) : Prop where
  each : ∀ x ∈ f, Bx [] x = true
  na : NA f
  qq : f.Pairwise QQ
theorem MV (f : List Item) : Bo [] f = 0 ↔ VF f := by
  refine Cx (Q := fun f => Bo [] f = 0 ↔ VF f) ⟨fun _ => ⟨by simp, trivial, List.Pairwise.nil⟩, fun _ => rfl⟩ (fun l x ih => ?_) _ f rfl
  rw [EJ, ih, Vx, Tg]
  constructor
  · rintro ⟨h1, ⟨I, h3⟩, h4⟩
    refine ⟨fun y j => ?_, (Qf l x).2 ⟨h1.na, h3⟩, List.pairwise_append.2 ⟨h1.qq, List.pairwise_singleton _ _, fun a U b J => ?_⟩⟩
    · rcases List.mem_append.1 j with h5 | h5
      · exact h1.each y h5
      · simp at h5; subst h5; exact I
    · simp at J; subst J; exact h4 a U
  · intro h
    have h1 := (Qf l x).1 h.na
    have I := List.pairwise_append.1 h.qq
    exact ⟨⟨fun y j => h.each y (List.mem_append_left _ j), h1.1, I.1⟩, ⟨h.each x (by simp), h1.2⟩, fun y j => I.2.2 y j x (by simp)⟩
def Eqv (A B : List Item) : Prop := ∀ o : List Item, A.foldl BF o = B.foldl BF o
theorem Eqv.refl (A : List Item) : Eqv A A := fun _ => rfl
theorem Eqv.symm {A B : List Item} (h : Eqv A B) : Eqv B A := fun o => (h o).symm
theorem Eqv.trans {A B C : List Item} (h : Eqv A B) (j : Eqv B C) : Eqv A C := fun o => (h o).trans (j o)
theorem Eqv.append {A B j I : List Item} (h : Eqv A j) (J : Eqv B I) : Eqv (A ++ B) (j ++ I) := fun o => by rw [List.foldl_append, List.foldl_append, h, J]
theorem Eqv.norm {A B : List Item} (h : Eqv A B) : Bf A = Bf B := h []
def one (c : UInt8) : Item := ⟨1, [c], 0⟩
theorem Ls (a b : Int) (j to_ : List Int) (n : Int) : DL (a :: j) (b :: to_) n = if a = n then some b else DL j to_ n := by
  unfold DL; rw [List.zip_cons_cons, Dl]
theorem He : ∀ {I to_ : List Int} {j : Nat}, I.Nodup → j < I.length → j < to_.length → DL I to_ (I.getD j default) = some (to_.getD j default)
  | a :: I, b :: to_, 0, _, _, _ => by rw [Ls]; simp
  | a :: I, b :: to_, j + 1, hn, h1, h2 => by
    rw [Ls]
    obtain ⟨h3, h4⟩ := List.nodup_cons.1 hn
    have J : j < I.length := by simpa using h1
    have e : (a :: I).getD (j + 1) default = I.getD j default := by simp
    have U : (b :: to_).getD (j + 1) default = to_.getD j default := by simp
    rw [e, U, if_neg, He h4 J (by simpa using h2)]
    intro ha
    have : I.getD j default ∈ I := by
      have e3 : I.getD j default = I[j] := by simp [List.getD, J]
      rw [e3]; exact List.getElem_mem J
    rw [← ha] at this
    exact h3 this
theorem TS {o : List Int} (h : o.Nodup) (n : Int) : (EE o n).Nodup := by
  unfold EE
  split
  · exact h
  · rename_i h2
    exact List.nodup_append.2 ⟨h, by simp, fun a I b j e => by simp at j; subst j; subst e; exact h2 I⟩
theorem NY {o : List Int} (h : o.Nodup) (x : Item) : (CM o x).Nodup := by
  unfold CM
  split
  · exact TS h _
  · exact h
theorem Nt (f : List Item) : (A4 f).Nodup := by
  refine Cx (Q := fun f => (A4 f).Nodup) List.nodup_nil (fun l x j => ?_) _ f rfl
  rw [D2]; exact NY j x
theorem QT {o : List Int} {x : Item} {n : Int} : n ∈ CM o x ↔ n ∈ o ∨ (Bh x = true ∧ x.id = n) := by
  unfold CM
  by_cases h : Bh x = true
  · rw [if_pos h, Rn]
    exact ⟨fun h1 => h1.imp id (fun j => ⟨h, j.symm⟩), fun h1 => h1.imp id (fun j => j.2.symm)⟩
  · rw [if_neg h]
    exact ⟨.inl, fun h1 => h1.elim id (fun j => absurd j.1 h)⟩
theorem Rr {f : List Item} {n : Int} : n ∈ A4 f ↔ ∃ x ∈ f, Bh x = true ∧ x.id = n := by
  refine Cx (Q := fun f => n ∈ A4 f ↔ ∃ x ∈ f, Bh x = true ∧ x.id = n) (by simp [A4]) (fun l x j => ?_) _ f rfl
  rw [D2, QT, j]
  constructor
  · rintro (⟨y, h1, h2⟩ | h)
    · exact ⟨y, by simp [h1], h2⟩
    · exact ⟨x, by simp, h⟩
  · rintro ⟨y, h1, h2⟩
    rcases List.mem_append.1 h1 with h3 | h3
    · exact .inl ⟨y, h3, h2⟩
    · simp at h3; subst h3; exact .inr h2
def MI (r : Int → Int) (x : Item) : Item := if Bh x = true then ⟨x.kind, x.text, r x.id⟩ else x
def OX (r : Int → Int) (f : List Item) : List Item := f.map (MI r)
theorem EB (r : Int → Int) (x : Item) : (MI r x).kind = x.kind := by unfold MI; split <;> rfl
theorem Gj (r : Int → Int) (x : Item) : (MI r x).text = x.text := by unfold MI; split <;> rfl
theorem RM (r : Int → Int) (x : Item) : Bh (MI r x) = Bh x := by unfold Bh; rw [EB]
theorem GD {r : Int → Int} {x : Item} (h : Bh x = true) : (MI r x).id = r x.id := by unfold MI; rw [if_pos h]
theorem Mz {r : Int → Int} {x : Item} (h : ¬ Bh x = true) : MI r x = x := by unfold MI; rw [if_neg h]
def aM (fr to_ : List Int) (n : Int) : Int := (DL fr to_ n).getD 0
theorem Ro {I to_ : List Int} (hl : I.length ≤ to_.length) (hn : I.Nodup) : ∀ {f : List Item}, (∀ x ∈ f, Bh x = true → x.id ∈ I) → Hc I to_ f = OX (aM I to_) f
  | [], _ => rfl
  | x :: f, h => by
    have ih := Ro hl hn (f := f) (fun y hy => h y (by simp [hy]))
    have e : Hc I to_ (x :: f) = LK I to_ x ++ Hc I to_ f := by simp [Hc]
    rw [e, ih]
    show _ = MI _ x :: OX _ f
    by_cases J : Bh x = true
    · obtain ⟨j, hj, ej⟩ := List.getElem_of_mem (h x (by simp) J)
      have e2 : I.getD j default = x.id := by simp [List.getD, hj, ej]
      have U := He (to_ := to_) hn hj ω
      rw [e2] at U
      rw [Fm J U]
      unfold MI aM
      rw [if_pos J, U]; rfl
    · rw [Eb J, Mz J]; rfl
structure InjT (r : Int → Int) (f : List Item) : Prop where
  inj : ∀ x ∈ f, ∀ y ∈ f, Bh x = true → Bh y = true → r x.id = r y.id → x.id = y.id
theorem InjT.left {r : Int → Int} {f g : List Item} (h : InjT r (f ++ g)) : InjT r f := ⟨fun x j y I => h.inj x (by simp [j]) y (by simp [I])⟩
theorem UJ (r : Int → Int) : ∀ f : List Item, NA f → NA (OX r f)
  | [], _ => trivial
  | [x], _ => ⟨fun h => h.2, trivial⟩
  | x :: y :: f, h => by
    refine ⟨fun h2 => h.1 ⟨?_, ?_⟩, UJ r (y :: f) h.2⟩
    · rw [← EB r x]; exact h2.1
    · show y.kind = 1
      rw [← EB r y]; exact h2.2
theorem TU {r : Int → Int} {f : List Item} (h : VF f) (hi : InjT r f) (hb : ∀ x ∈ f, Bh x = true → 1 ≤ r x.id ∧ r x.id ≤ 999) : VF (OX r f) := by
  refine ⟨fun y hy => ?_, UJ r f h.na, ?_⟩
  · obtain ⟨x, hx, rfl⟩ := List.mem_map.1 hy
    have h1 := h.each x hx
    by_cases j : Bh x = true
    · have I := hb x hx j
      rcases (Gg x).1 j with (hk | hk) | hk
      · exact (C5 (.inl (by rw [EB]; exact hk))).2 ⟨⟨by rw [Gj]; exact ((C5 (.inl hk)).1 h1).1.1, by rw [GD j]; exact I.1⟩, by rw [GD j]; exact I.2⟩
      · exact (EL (by rw [EB]; exact hk)).2 ⟨⟨by rw [Gj]; exact ((EL hk).1 h1).1.1, by rw [GD j]; exact I.1⟩, by rw [GD j]; exact I.2⟩
      · exact (C5 (.inr (by rw [EB]; exact hk))).2 ⟨⟨by rw [Gj]; exact ((C5 (.inr hk)).1 h1).1.1, by rw [GD j]; exact I.1⟩, by rw [GD j]; exact I.2⟩
    · rw [Mz j]; exact h1
  · unfold OX
    rw [List.pairwise_map]
    refine h.qq.imp_of_mem (fun {a b} ha U hq j => ?_)
    rw [RM] at j
    have h3 := hq j
    rw [← Bool.not_eq_true, FY] at h3 ⊢
    rw [RM, EB, EB, Gj, Gj, GD j]
    rintro ⟨⟨J, h5⟩, h6⟩
    rw [GD J] at h5
    exact h3 ⟨⟨J, hi.inj a ha b U J j h5⟩, h6⟩
def Jf (f : List Item) : Int → Int := aM (A4 f) (upL (A4 f).length)
def Jk (f : List Item) : List Item := Kw (A4 f) (upL (A4 f).length) f
theorem Kz {f : List Item} {j : Nat} (I : j < (A4 f).length) : Jf f ((A4 f).getD j default) = (j : Int) + 1 := by
  unfold Jf aM
  rw [He (Nt f) I (by rw [Ee]; exact I), ZJ I]; rfl
theorem QA {f : List Item} {x : Item} (U : x ∈ f) (J : Bh x = true) : ∃ j, j < (A4 f).length ∧ (A4 f).getD j default = x.id := by
  obtain ⟨j, I, e⟩ := List.getElem_of_mem (Rr.2 ⟨x, U, J, rfl⟩)
  exact ⟨j, I, by simp [List.getD, I, e]⟩
theorem dF (f : List Item) : Hc (A4 f) (upL (A4 f).length) f = OX (Jf f) f :=
  Ro (by rw [Ee]; exact Nat.le_refl _) (Nt f) (fun x I j => Rr.2 ⟨x, I, j, rfl⟩)
theorem Vp (f : List Item) : InjT (Jf f) f := ⟨fun x hx y hy ht I e => by
  obtain ⟨j, U, J⟩ := QA hx ht
  obtain ⟨k, hk, ek⟩ := QA hy I
  rw [← J, ← ek, Kz U, Kz hk] at e
  have : j = k := by omega
  subst this
  rw [← J, ← ek]⟩
theorem Vb {f : List Item} (h : VF f) (hl : (A4 f).length ≤ 999) : Jk f = OX (Jf f) f ∧ VF (OX (Jf f) f) := by
  have I : VF (OX (Jf f) f) := TU h (Vp f) (fun x hx ht => by
    obtain ⟨j, U, J⟩ := QA hx ht
    rw [← J, Kz U]; omega)
  refine ⟨?_, I⟩
  unfold Jk Kw
  rw [dF]
  exact Su _ ((MV _).2 I)
structure PairOk (b : List Item) (p : List Int × List Int) (k : Nat) : Prop where
  len : p.1.length = p.2.length
  le : p.1.length ≤ k
  nd : p.2.Nodup
def bK (ops : Array Oper) : List Nat → Array Bool
  | [] => Array.replicate ops.size false
  | i :: d => (bK ops d).setIfInBounds i true
def Ed (ops : Array Oper) (l : Array Bool) : Bool := (List.range ops.size).all fun k => !(l.getD k true) || match ops[k]? with
  | some ok => ok.after.all fun e => !(Region.binds .any e) || l.getD e.on true
  | none => true
def Sg (ops : Array Oper) (d : List Nat) (i : Nat) : Bool := Region.noSelect ops && Region.free .any ops (bK ops d) i && (Region.ready .any ops (bK ops d)).contains i && Ed ops (bK ops d)
def Jj (ops : Array Oper) (d rs : List Nat) : Bool := Region.ready .any ops (bK ops d) == rs
def eS (ops : Array Oper) (k i : Nat) : Bool := match ops[k]? with
  | some ok => ok.after.any fun e => Region.binds .any e && e.on == i
  | none => false
def Rf (ops : Array Oper) : Nat → Nat → Nat → Bool
  | 0, j, i => eS ops j i
  | m + 1, j, i => eS ops j i || match ops[j]? with
    | some oj => oj.after.any fun e => Region.binds .any e && Rf ops m e.on i
    | none => false
def IE (ops : Array Oper) (j : Nat) : Bool := match ops[j]? with
  | some _ => (List.range ops.size).all fun i => i == j || Rf ops 8 j i || Rf ops 8 i j
  | none => false
theorem ZN {ops : Array Oper} {k i : Nat} (h : eS ops k i = true) : ∃ ok, ops[k]? = some ok ∧ ∃ e ∈ ok.after, Region.binds .any e = true ∧ e.on = i := by
  unfold eS at h
  split at h
  · rename_i ok hok
    obtain ⟨e, he, j⟩ := Array.any_eq_true'.1 h
    simp only [Bool.and_eq_true, beq_iff_eq] at j
    exact ⟨ok, hok, e, he, j.1, j.2⟩
  · cases h
theorem HZ {ops : Array Oper} {l : Array Bool} (h : Ed ops l = true) {k : Nat} {ok : Oper} (hk : ops[k]? = some ok) (hm : l.getD k true = true) : ∀ e ∈ ok.after, Region.binds .any e = true → l.getD e.on true = true := by
  intro e he hb
  have j := (Array.getElem?_eq_some_iff.1 hk).1
  have h1 := List.all_eq_true.1 h k (List.mem_range.2 j)
  rw [hm, hk] at h1
  simp only [Bool.not_true, Bool.false_or] at h1
  have I := Array.all_eq_true_iff_forall_mem.1 h1 e he
  rw [hb] at I
  simpa using I
theorem Nb {ops : Array Oper} {l : Array Bool} (h : ∀ k ok, ops[k]? = some ok → l.getD k true = true → ∀ e ∈ ok.after, Region.binds .any e = true → l.getD e.on true = true) : Ed ops l = true := by
  refine List.all_eq_true.2 fun k hk => ?_
  cases hm : l.getD k true with
  | false => rfl
  | true =>
    simp only [Bool.not_true, Bool.false_or]
    split
    · rename_i ok hok
      refine Array.all_eq_true_iff_forall_mem.2 fun e he => ?_
      cases hb : Region.binds .any e with
      | false => rfl
      | true => simpa using h k ok hok hm e he hb
    · rfl
theorem Ji {ops : Array Oper} {l : Array Bool} (hcl : Ed ops l = true) {i : Nat} : ∀ (m j : Nat), (∀ oj, ops[j]? = some oj → ∀ e ∈ oj.after, Region.binds .any e = true → l.getD e.on true = true) → Rf ops m j i = true → l.getD i true = true
  | m, j, hall, h => by
    have hd : eS ops j i = true → l.getD i true = true := fun h1 => by
      obtain ⟨ok, hok, e, he, hb, heq⟩ := ZN h1
      rw [← heq]; exact hall ok hok e he hb
    cases m with
    | zero => exact hd h
    | succ m =>
      unfold Rf at h
      rw [Bool.or_eq_true] at h
      rcases h with h | h
      · exact hd h
      · split at h
        · rename_i oj hoj
          obtain ⟨e, he, hb⟩ := Array.any_eq_true'.1 h
          simp only [Bool.and_eq_true] at hb
          exact Ji hcl m e.on (fun ok hok => HZ hcl hok (hall oj hoj e he hb.1)) hb.2
        · cases h
theorem Li {ops : Array Oper} {l : Array Bool} {i j : Nat} {oj : Oper} (U : Ed ops l = true) (al : j ≠ i) (hi : i < ops.size) (hj : ops[j]? = some oj) (J : ∀ e ∈ oj.after, Region.binds .any e = true → l.getD e.on true = true) (au : l.getD i true = false)
    (af : l.getD j true = false) (ag : ∀ oi, ops[i]? = some oi → ∀ e ∈ oi.after, Region.binds .any e = true → l.getD e.on true = true) : IE ops j = false := by
  cases h : IE ops j with
  | false => rfl
  | true =>
    unfold IE at h
    rw [hj] at h
    have h1 := List.all_eq_true.1 h i (List.mem_range.2 hi)
    simp only [Bool.or_eq_true, beq_iff_eq] at h1
    rcases h1 with (h1 | h1) | h1
    · exact absurd h1.symm al
    · have := Ji U 8 j (fun ok I => by rw [hj] at I; injection I with I; subst I; exact J) h1
      rw [au] at this; cases this
    · have := Ji U 8 i ag h1
      rw [af] at this; cases this
section
variable {P : Program} {ops : Array Oper} {Q : Exit → Act → World → Prop} {S : World → Prop}
def AnyF (P : Program) (ops : Array Oper) (Q : Exit → Act → World → Prop) (S : World → Prop) : Nat → Array Bool → Act → World → Prop
  | 0, l, a, w => Region.ready .any ops l = [] ∧ Q .normal a w
  | m + 1, l, a, w => (Region.ready .any ops l = [] → Q .normal a w) ∧
    ∀ i ∈ Region.ready .any ops l, wpOp P ops Q i (fun a' w' => (IE ops i = false → S w') ∧ AnyF P ops Q S m (l.setIfInBounds i true) a' w') a w
theorem OD : ∀ (m : Nat) (l : Array Bool) (a : Act) (w : World), AnyF P ops Q S m l a w → wpAny P .any ops Q m l a w
  | 0, _, _, _, h => h
  | m + 1, _, _, _, h => ⟨h.1, fun i hi => wpOp_mono (fun _ _ h2 => OD m _ _ _ h2.2) (h.2 i hi)⟩
theorem Tj {i : Nat} {oi : Oper} {v : Value} (hi : ops[i]? = some oi) (a_ : ∀ (j : Nat) (o : Oper) cs b, ops[j]? = some o → o.op ≠ .select cs b) (hQ : ∀ c a w, Q (.panic c) (a.put oi.dst v) w → Q (.panic c) a w) :
    ∀ (m : Nat) (l : Array Bool) (a : Act) (w : World), Ed ops l = true → (∀ j oj, ops[j]? = some oj → j ≠ i → l.getD j true = false → (∀ e ∈ oj.after, Region.binds .any e = true → e.on ≠ i) → oi.apart ops oj = true) →
      i ∈ Region.ready .any ops l → YieldsIf P ops S oi v a → S w → AnyF P ops Q S m (l.setIfInBounds i true) (a.put oi.dst v) w → AnyF P ops Q S (m + 1) l a w := by
  have bA : i < ops.size := (Array.getElem?_eq_some_iff.1 hi).1
  intro m
  induction m with
  | zero =>
    intro l a w _ _ hr hy hS H
    refine ⟨fun h => absurd (h ▸ hr) (by simp), fun j hj => ?_⟩
    by_cases I : j = i
    · subst I; exact hy.wpOp hi hS ⟨fun _ => hS, H⟩
    · have h1 := ready_mono hj I
      rw [H.1] at h1
      exact absurd h1 (by simp)
  | succ m ih =>
    intro l a w hcl hfree hr hy hS H
    refine ⟨fun h => absurd (h ▸ hr) (by simp), fun j hj => ?_⟩
    by_cases I : j = i
    · subst I; exact hy.wpOp hi hS ⟨fun _ => hS, H⟩
    · have h1 := H.2 j (ready_mono hj I)
      obtain ⟨al, oj, au, aT⟩ := mem_ready.1 hj
      have h0 := (mem_ready.1 hr).1
      have bx : l.getD i false = false := by
        rcases Nat.lt_or_ge i l.size with h' | h'
        · simp [h'] at h0 ⊢; exact h0
        · simp [Array.getElem?_eq_none h'] at h0
      have bq : ∀ e ∈ oj.after, Region.binds .any e = true → e.on ≠ i := fun e he hb heq => by
        have U := aT e he hb
        rw [heq, bx] at U
        cases U
      have aS : l.getD i true = false := by simpa using h0
      have af : ∀ e ∈ oj.after, Region.binds .any e = true → l.getD e.on true = true := fun e he hb => by
        have U := aT e he hb
        rcases Nat.lt_or_ge e.on l.size with h' | h'
        · simp [h'] at U ⊢; exact U
        · simp [Array.getElem?_eq_none h']
      have bm : ∀ ok, ops[i]? = some ok → ∀ e ∈ ok.after, Region.binds .any e = true → l.getD e.on true = true := fun ok J e he hb => by
        obtain ⟨_, o2, az, bc⟩ := mem_ready.1 hr
        rw [J] at az; injection az with az; subst az
        have U := bc e he hb
        rcases Nat.lt_or_ge e.on l.size with h' | h'
        · simp [h'] at U ⊢; exact U
        · simp [Array.getElem?_eq_none h']
      have bn := Li hcl I bA au af aS al bm
      have bl : Ed ops (l.setIfInBounds j true) = true := Nb fun k ok J hk e he hb => by
        have ba : ∀ q, l.getD q true = true → (l.setIfInBounds j true).getD q true = true := fun q hq => by
          by_cases bo : j = q
          · subst bo
            rcases Nat.lt_or_ge j l.size with h' | h'
            · simp [h']
            · simp
          · rw [getD_set_ne true bo]; exact hq
        by_cases ag : j = k
        · subst ag
          rw [au] at J; injection J with J; subst J
          exact ba _ (af e he hb)
        · rw [getD_set_ne true ag] at hk
          exact ba _ (HZ hcl J hk e he hb)
      have h2 := wpOp_putIf au (hfree j oj au I al bq) (fun cs b => a_ i oi cs b hi) (fun cs b => a_ j oj cs b au) hQ hy h1
      refine wpOp_mono (fun a' w' U => ?_) h2
      have bf := U.2.1 bn
      refine ⟨fun _ => bf, ih (l.setIfInBounds j true) a' w' bl (fun k ok hk bz aS bB => ?_) (ready_mono hr (Ne.symm I)) U.1 bf ?_⟩
      · refine hfree k ok hk bz ?_ bB
        by_cases ag : j = k
        · subst ag; exact al
        · rw [getD_set_ne true ag] at aS; exact aS
      · rw [Array.setIfInBounds_comm _ _ I]
        exact U.2.2
theorem WI {i : Nat} {j : Oper} {v : Value} {m : Nat} {l : Array Bool} {a : Act} {w : World} (J : ops[i]? = some j) (hs : Region.noSelect ops = true) (hf : Region.free .any ops l i = true) (hr : (Region.ready .any ops l).contains i = true) (I : Ed ops l = true)
    (U : ∀ c a w, Q (.panic c) (a.put j.dst v) w → Q (.panic c) a w) (hy : YieldsIf P ops S j v a) (hS : S w) (h : AnyF P ops Q S m (l.setIfInBounds i true) (a.put j.dst v) w) : AnyF P ops Q S (m + 1) l a w :=
  Tj J (Region.noSelect_spec hs) U m l a w I (Region.free_spec J hf) (by simpa using hr) hy hS h
theorem Zd {rs : List Nat} {m : Nat} {l : Array Bool} {a : Act} {w : World} (I : Region.ready .any ops l = rs) (j : rs ≠ [])
    (h : ∀ i ∈ rs, wpOp P ops Q i (fun J w' => (IE ops i = false → S w') ∧ AnyF P ops Q S m (l.setIfInBounds i true) J w') a w) : AnyF P ops Q S (m + 1) l a w :=
  ⟨fun U => absurd (I ▸ U) j, I ▸ h⟩
theorem Vk {l : Array Bool} {a : Act} {w : World} (hr : Region.ready .any ops l = []) (h : Q .normal a w) : ∀ m, AnyF P ops Q S m l a w
  | 0 => ⟨hr, h⟩
  | _ + 1 => ⟨fun _ => h, by rw [hr]; simp⟩
end
section
variable {P : Program} {B : Exit → Act → World → Prop} {n : Nat} {k : List Kont} {f : Fr} {w : World} {ops : Array Oper} {S : World → Prop} {fuel : Nat} {d : List Nat}
def HQ (P : Program) (B : Exit → Act → World → Prop) (k : List Kont) : Exit → Act → World → Prop := NoPanic (Kx P B k)
def HA (P : Program) (B : Exit → Act → World → Prop) (n : Nat) (k : List Kont) (S : World → Prop) (ops : Array Oper) (fuel : Nat) (d : List Nat) (f : Fr) (w : World) : Prop :=
  ∀ a, Is n f a → AnyF P ops (HQ P B k) S fuel (bK ops d) a w
def HO (P : Program) (B : Exit → Act → World → Prop) (n : Nat) (k : List Kont) (S : World → Prop) (ops : Array Oper) (fuel : Nat) (d : List Nat) (f : Fr) (w : World) (i : Nat) : Prop :=
  ∀ a, Is n f a → wpOp P ops (HQ P B k) i (fun a' w' => (IE ops i = false → S w') ∧ AnyF P ops (HQ P B k) S fuel (bK ops (i :: d)) a' w') a w
def BH (P : Program) (B : Exit → Act → World → Prop) (_n : Nat) (k : List Kont) (S : World → Prop) (ops : Array Oper) (fuel : Nat) (i : Nat) (d : List Nat) : Exit → Act → World → Prop
  | .normal, a, w => (IE ops i = false → S w) ∧ AnyF P ops (HQ P B k) S fuel (bK ops (i :: d)) a w
  | _, _, _ => False
theorem Aw {id : Nat} {l : List Oper} (E : List Nat) (hm : P.follows .mixedOrders = true) (h : ∀ j, Evo w j [] → Evo w j E → HA P B n k (fun w' => Evo w w' E) l.toArray l.toArray.size [] f j) : KF P B n (.code (.region id l.toArray true) :: k) f w := by
  intro a ha
  show (Code.region id l.toArray true).wp P (Kx P B k) a w
  exact wp_region_noPanic (wp_region_any hm (OD _ _ _ _ (h _ (Evo.drew _ _) (Evo.drew _ _) a ha)))
theorem df {i s : Nat} {U : Oper} {v : Value} (hi : ops[i]? = some U) (hg : U.guard = none) (I : U.dst = some s) (hd : Nat.blt s n = true) (j : Sg ops d i = true)
    (J : ∀ w', S w' → (execOp (opv f) U).run P w' = .ok (.value v) w') (hS : S w) (h : HA P B n k S ops fuel (i :: d) (upd f s v) w) : HA P B n k S ops (fuel + 1) d f w := by
  intro a ha
  simp only [Sg, Bool.and_eq_true] at j
  refine WI (v := v) hi j.1.1.1 j.1.1.2 j.1.2 j.2 (fun _ _ _ h => (h : False).elim) (.inl ⟨by simp [Region.wanted, hg], fun w' af => ?_⟩) hS ?_
  · rw [ha.eval]; exact J w' af
  · rw [I]; exact h _ (ha.put hd v)
theorem ch (rs : List Nat) (J : Jj ops d rs = true) (j : rs ≠ []) (h : ∀ i ∈ rs, HO P B n k S ops fuel d f w i) : HA P B n k S ops (fuel + 1) d f w := by
  intro a ha
  exact Zd (by simpa [Jj] using J) j (fun i I => h i I a ha)
theorem fW {i : Nat} (J : Jj ops d [i] = true) (h : HO P B n k S ops fuel d f w i) : HA P B n k S ops (fuel + 1) d f w :=
  ch [i] J (by simp) (by intro j I; simp at I; subst I; exact h)
theorem GM {i j : Nat} (J : Jj ops d [i, j] = true) (h : HO P B n k S ops fuel d f w i) (U : HO P B n k S ops fuel d f w j) : HA P B n k S ops (fuel + 1) d f w :=
  ch [i, j] J (by simp) (by intro q I; simp at I; rcases I with rfl | rfl <;> assumption)
theorem A5 (j : Jj ops d [] = true) (h : KF P B n k f w) : HA P B n k S ops fuel d f w := by
  intro a ha
  exact Vk (by simpa [Jj] using j) (NoPanic.normal (h a ha)) fuel
theorem EO {i : Nat} {I : Oper} (J : ops[i]? = some I) (h : KL P (BH P B n k S ops fuel i d) n ops [] [I] f w) : HO P B n k S ops fuel d f w i := by
  intro a ha
  have h1 := h a ha
  unfold wpOp
  simp only [J]
  unfold wpList at h1
  split
  · rename_i hw
    rw [if_pos hw] at h1
    rcases h1 with h1 | ⟨_, _, _, j⟩
    · refine .inl ?_
      unfold Oper.wp at h1 ⊢
      generalize (execOp a.eval I).run P w = r at h1 ⊢
      cases r with
      | ok nx w' =>
        cases nx <;> simp only [Oper.upon] at h1 ⊢ <;>
          first
            | exact h1
            | exact Calls.mono h1 (fun e U he => by cases e <;> first | exact he | exact (he : False).elim | (obtain ⟨_, _, j⟩ := he; exact (j : False).elim))
            | exact Rows.mono h1 (fun _ _ he => he)
      | halt x w' => cases x <;> simp only [Oper.upon] at h1 ⊢ <;> first | exact (h1 : False).elim | exact h1
    · exact (j : False).elim
  · rename_i hw
    rw [if_neg hw] at h1
    exact h1
theorem AZ {i : Nat} (j : S w) (h : HA P B n k S ops fuel (i :: d) f w) : KL P (BH P B n k S ops fuel i d) n ops [] [] f w := fun a I => ⟨fun _ => j, h a I⟩
theorem Ah {i : Nat} (I : IE ops i = true) (h : HA P B n k S ops fuel (i :: d) f w) : KL P (BH P B n k S ops fuel i d) n ops [] [] f w := fun a j => ⟨fun J => Bool.noConfusion (I.symm.trans J), h a j⟩
end
section
variable {P : Program} {B : Exit → Act → World → Prop} {n : Nat} {k : List Kont} {f : Fr} {w : World} {ops : Array Oper} {S : World → Prop} {fuel : Nat} {d : List Nat}
end
def HK (n : Nat) (c : Nat → List Value) : List Value := (List.range n).flatMap c
theorem Ik (n : Nat) (c : Nat → List Value) : HK (n + 1) c = HK n c ++ c n := by unfold HK; rw [List.range_succ]; simp
theorem DS {s : Nat} {c : Nat → List Value} (h : ∀ x, (c x).length = s) : ∀ n, (HK n c).length = n * s
  | 0 => by simp [HK]
  | n + 1 => by rw [Ik, List.length_append, DS h n, h, Nat.add_mul, Nat.one_mul]
theorem Mm {s : Nat} {c : Nat → List Value} (h : ∀ x, (c x).length = s) {j : Nat} (J : j < s) : ∀ (n x : Nat), x < n → (HK n c)[x * s + j]? = (c x)[j]?
  | 0, x, hx => absurd hx ω
  | n + 1, x, hx => by
    rw [Ik]
    by_cases e : x = n
    · subst e
      rw [List.getElem?_append_right (by rw [DS h]; omega), DS h]
      congr 1
      omega
    · have I : x < n := by omega
      have : x * s + j < n * s := by
        have := Nat.mul_le_mul_right s (show x + 1 ≤ n from I)
        rw [Nat.add_mul, Nat.one_mul] at this
        omega
      rw [List.getElem?_append_left (by rw [DS h]; exact this)]
      exact Mm h J n x I
theorem UB {c j : Nat → List Value} {n : Nat} (h : ∀ x, x < n → c x = j x) : HK n c = HK n j := by
  induction n with
  | zero => rfl
  | succ n ih => rw [Ik, Ik, ih (fun x I => h x ω), h n ω]
theorem ZD {s : Nat} {c : Nat → List Value} (h : ∀ x, (c x).length = s) (vs : List Value) (hv : vs.length = s) (n x : Nat) (hx : x < n) :
    (HK n c).take (x * s) ++ vs ++ (HK n c).drop (x * s + vs.length) = HK n (fun y => if y = x then vs else c y) := by
  have h2 : ∀ y, ((fun y => if y = x then vs else c y) y).length = s := fun y => by dsimp only; split <;> simp [*]
  have hle : x * s + s ≤ n * s := by have := Nat.mul_le_mul_right s (show x + 1 ≤ n from hx); rw [Nat.add_mul, Nat.one_mul] at this; exact this
  have hl := DS h n
  apply List.ext_getElem?
  intro i
  by_cases hi : i < n * s
  · have J : 0 < s := by
      rcases Nat.eq_zero_or_pos s with e | e
      · rw [e] at hi; omega
      · exact e
    have hq : i / s < n := (Nat.div_lt_iff_lt_mul J).2 hi
    have hr : i % s < s := Nat.mod_lt _ J
    have j : i = (i / s) * s + i % s := by rw [Nat.mul_comm]; exact (Nat.div_add_mod i s).symm
    have e1 : (HK n (fun y => if y = x then vs else c y))[i]? = (if i / s = x then vs else c (i / s))[i % s]? := by
      conv => lhs; rw [j]
      exact Mm h2 hr n _ hq
    have e2 : (HK n c)[i]? = (c (i / s))[i % s]? := by
      conv => lhs; rw [j]
      exact Mm h hr n _ hq
    rw [e1]
    by_cases U : i < x * s
    · have a_ : i / s < x := (Nat.div_lt_iff_lt_mul J).2 U
      rw [List.append_assoc, List.getElem?_append_left (by rw [List.length_take]; omega), List.getElem?_take_of_lt U, e2, if_neg ω]
    · by_cases ag : i < x * s + s
      · have I : i / s = x := by
          have h3 : x ≤ i / s := (Nat.le_div_iff_mul_le J).2 ω
          have h4 : i / s < x + 1 := (Nat.div_lt_iff_lt_mul J).2 (by rw [Nat.add_mul, Nat.one_mul]; exact ag)
          omega
        rw [if_pos I, List.append_assoc, List.getElem?_append_right (by rw [List.length_take]; omega), List.length_take, Nat.min_eq_left ω, List.getElem?_append_left ω]
        congr 1
        rw [I] at j
        omega
      · have af : i / s ≠ x := by
          intro e
          rw [e] at j
          omega
        rw [if_neg af, ← e2, List.getElem?_append_right (by rw [List.length_append, List.length_take]; omega), List.getElem?_drop, List.length_append, List.length_take]
        congr 1
        omega
  · rw [List.getElem?_eq_none (by rw [List.length_append, List.length_append, List.length_take, List.length_drop]; omega), List.getElem?_eq_none (by rw [DS h2]; omega)]
structure FB (w : World) (b : Nat) (T : TypeId) (s n : Nat) (c : Nat → List Value) : Prop where
  blk : Blk w b T (HK n c)
  len : ∀ x, (c x).length = s
section
variable {w w' : World} {b : Nat} {T : TypeId} {s n : Nat} {c : Nat → List Value} {E : List Nat}
theorem FB.evo (h : FB w b T s n c) (he : Evo w w' E) (j : b ∉ E) : FB w' b T s n c := ⟨h.blk.evo he j, h.len⟩
theorem FB.evo0 (h : FB w b T s n c) (he : Evo w w' []) : FB w' b T s n c := h.evo he (by simp)
theorem FB.lt (h : FB w b T s n c) : b < w.heap.size := h.blk.lt
theorem FB.cell (h : FB w b T s n c) {x j : Nat} (U : x < n) (I : j < s) {v : Value} (J : (c x)[j]? = some v) : w.cell? ⟨b, 0 + x * s + j, none⟩ = some v := by
  have := h.blk.at (x * s + j) v (by rw [Mm h.len I n x U]; exact J)
  rwa [← Nat.add_assoc] at this
theorem FB.cell0 (h : FB w b T s n c) {x : Nat} (J : x < n) {v : Value} {r : List Value} (I : c x = v :: r) : w.cell? ⟨b, 0 + x * s, none⟩ = some v :=
  h.cell (j := 0) J (by rw [← h.len x, I]; simp) (by rw [I]; rfl)
theorem FB.at (h : FB w b T s n c) {x : Nat} (J : x < n) : At w b (0 + x * s) (c x) := fun j v I => h.cell J (by
  rcases Nat.lt_or_ge j s with h1 | h1
  · exact h1
  · rw [List.getElem?_eq_none (by rw [h.len]; exact h1)] at I; cases I) I
theorem FB.congr (h : FB w b T s n c) {j : Nat → List Value} (I : ∀ x, j x = c x) : FB w b T s n j := by
  rw [show j = c from funext I]; exact h
theorem FB.congr' (h : FB w b T s n c) {j : Nat → List Value} (J : ∀ x, (j x).length = s) (I : ∀ x, x < n → j x = c x) : FB w b T s n j :=
  ⟨by rw [UB I]; exact h.blk, J⟩
end
section
variable {P : Program} {B : Exit → Act → World → Prop} {n : Nat} {k : List Kont} {f : Fr} {w : World} {ops : Array Oper} {rest : List Oper}
theorem OA {z : Value} {zs : List Value} {m : Nat} (I : z.cells = zs.toArray) (hm : zs.length = m) (j : 0 < m) (len : Nat) : madeCells z.cells (len * m) = (HK len (fun _ => zs)).toArray := by
  have e : HK len (fun _ => zs) = (List.replicate len zs).flatten := by
    unfold HK
    induction len with
    | zero => simp
    | succ len ih => rw [List.range_succ, List.replicate_succ', List.flatMap_append, ih]; simp
  rw [e, ← Da I hm j len]
  unfold madeCells
  apply Array.ext'
  simp
theorem Zf {T E d m bb len : Nat} {t : TypeId} {pos : String} {ag : Array Edge} {x y : Operand} {z : Value} {zs : List Value} {κ U : IntKind} {i j : Int}
    (hu : P.underlying T = some (.slice E)) (ht : Cy P E = some (m, bb, some z)) (hz : z.cells = zs.toArray) (hm : (Nat.beq zs.length m && Nat.ble 1 m) = true) (hd : Nat.blt d n = true)
    (hx : opv f x = .int κ i) (hy : opv f y = .int U j) (hi : i = (len : Int)) (hj : j = (len : Int)) (hlen : len * m ≤ 10000000) (hb : bb * len ≤ 10000000)
    (h : ∀ b w', b = w.heap.size → Evo w w' [] → FB w' b E m len (fun _ => zs) → w'.heap.size = b + 1 → KL P B n ops k rest (upd f d (.slice (some ⟨b, 0, none⟩) len len)) w') :
    KL P B n ops k (⟨some d, .makeSlice T x y, t, pos, ag, none⟩ :: rest) f w := by
  simp only [Bool.and_eq_true, Nat.ble_eq] at hm
  have J := Nat.eq_of_beq_eq_true hm.1
  obtain ⟨it, hit, h1, h2, h3⟩ := GK ht
  have a_ : len ≤ len * m := Nat.le_mul_of_pos_right len ω
  have al : (bb : Int) * (len : Int) = ((bb * len : Nat) : Int) := by simp
  have I := run_makeSlice (P := P) (w := w) T E it z hu hit h3 κ U (len : Int) (len : Int) ω (Int.le_refl _) (by rw [h1, Int.toNat_natCast]; omega) (by rw [h2, al]; omega) ω
  simp only [Int.toNat_natCast, h1] at I
  rw [OA hz J ω len] at I
  refine Hs (v := .slice (some ⟨w.heap.size, 0, none⟩) len len) (w' := w.alloc (.cells (HK len (fun _ => zs)).toArray E)) rfl rfl hd ?_ (h _ _ rfl (Evo.alloc _ _ _) ⟨heap_alloc_new w _, fun _ => J⟩ (by simp))
  subst hi
  subst hj
  simp [execOp, hx, hy, I]
theorem Jz {T T' : TypeId} {t : TypeId} {pos : String} {J : Array Edge} {x y : Operand} {b len m bb off : Nat} {z : Option Value} {v : Value} {c : Nat → List Value} {vs : List Value} (i : Nat)
    (hx : opv f x = .pointer (some ⟨b, off, none⟩)) (j : off = 0 + i * m) (hy : opv f y = v) (I : FB w b T' m len c) (U : i < len) (ht : Cy P T = some (m, bb, z)) (hv : v.cells = vs.toArray) (hm : Nat.beq vs.length m = true)
    (h1 : A1 vs = true)
    (h : ∀ w', Evo w w' [b] → w'.heap.size = w.heap.size → FB w' b T' m len (fun q => if q = i then vs else c q) → KL P B n ops k rest f w') :
    KL P B n ops k (⟨none, .store T x y, t, pos, J, none⟩ :: rest) f w := by
  subst j
  have hm := Nat.eq_of_beq_eq_true hm
  have hle : i * m + m ≤ len * m := by have := Nat.mul_le_mul_right m (show i + 1 ≤ len from U); rw [Nat.add_mul, Nat.one_mul] at this; exact this
  refine Ai (T' := T') (cs' := HK len (fun q => if q = i then vs else c q)) hx hy I.blk ht hv hm h1 ?_ ?_ (fun w' he hs hB => h w' he hs ⟨hB, fun q => by split <;> simp [I.len, hm]⟩)
  · rw [Nat.ble_eq, DS I.len]; omega
  · have := ZD I.len vs hm len i U
    simpa using this
end
def Nz (rb : Nat → Nat) (lo m : Nat) : Nat → List Value := fun x => if lo ≤ x then [.slice (some ⟨rb x, 0, none⟩) m m] else [.slice none 0 0]
theorem Xv {I : Nat → Nat} {j m x : Nat} (h : j ≤ x) : Nz I j m x = [.slice (some ⟨I x, 0, none⟩) m m] := by unfold Nz; rw [if_pos h]
structure Tab (w : World) (base bt : Nat) (T E : TypeId) (s n m lo : Nat) (rb : Nat → Nat) (c : Nat → Nat → List Value) : Prop where
  out : FB w bt T 1 n (Nz rb lo m)
  row : ∀ x, lo ≤ x → x < n → FB w (rb x) E s m (c x)
  old : ∀ x, lo ≤ x → x < n → base ≤ rb x ∧ rb x ≠ bt
  apart : ∀ x y, lo ≤ x → x < n → lo ≤ y → y < n → rb x = rb y → x = y
  base : base ≤ bt
section
variable {w w' : World} {base bt : Nat} {T E : TypeId} {s n m lo : Nat} {rb : Nat → Nat} {c : Nat → Nat → List Value} {X : List Nat}
theorem Tab.new (h : FB w bt T 1 n (fun _ => [.slice none 0 0])) (I : base ≤ bt) (rb : Nat → Nat) (c : Nat → Nat → List Value) : Tab w base bt T E s n m n rb c :=
  ⟨h.congr' (fun x => by unfold Nz; split <;> rfl) (fun x J => by unfold Nz; rw [if_neg ω]), fun x h1 j => absurd j ω, fun x h1 j => absurd j ω, fun x y h1 j => absurd j ω, I⟩
theorem Tab.evo (h : Tab w base bt T E s n m lo rb c) (he : Evo w w' X) (h1 : bt ∉ X) (J : ∀ x, lo ≤ x → x < n → rb x ∉ X) : Tab w' base bt T E s n m lo rb c :=
  ⟨h.out.evo he h1, fun x j I => (h.row x j I).evo he (J x j I), h.old, h.apart, h.base⟩
theorem Tab.evo0 (h : Tab w base bt T E s n m lo rb c) (he : Evo w w' []) : Tab w' base bt T E s n m lo rb c := h.evo he (by simp) (by simp)
theorem Tab.lt (h : Tab w base bt T E s n m lo rb c) : bt < w.heap.size ∧ ∀ x, lo ≤ x → x < n → rb x < w.heap.size := ⟨h.out.lt, fun x h1 j => (h.row x h1 j).lt⟩
theorem Tab.add (h : Tab w base bt T E s n m (lo + 1) rb c) (a_ : lo < n) {b : Nat} {cb : Nat → List Value} (hb : w.heap.size ≤ b) (ag : base ≤ w.heap.size) (he : Evo w w' [bt]) (J : FB w' bt T 1 n (fun q => if q = lo then [.slice (some ⟨b, 0, none⟩) m m] else Nz rb (lo + 1) m q))
    (U : FB w' b E s m cb) {c' : Nat → Nat → List Value} (hc : c' lo = cb) (al : ∀ x, lo < x → c' x = c x) : Tab w' base bt T E s n m lo (fun q => if q = lo then b else rb q) c' := by
  refine ⟨J.congr (fun x => ?_), fun x h1 j => ?_, fun x h1 j => ?_, fun x y h1 j h3 h4 => ?_, h.base⟩
  · unfold Nz
    show (if lo ≤ x then [Value.slice (some ⟨if x = lo then b else rb x, 0, none⟩) m m] else [Value.slice none 0 0]) = _
    by_cases e : x = lo
    · rw [if_pos ω, if_pos e, if_pos e]
    · by_cases I : lo + 1 ≤ x
      · rw [if_pos ω, if_neg e, if_neg e, if_pos I]
      · rw [if_neg ω, if_neg e, if_neg I]
  · by_cases e : x = lo
    · subst e; simp only [if_true]; rw [hc]; exact U
    · simp only [if_neg e]
      rw [al x ω]
      exact (h.row x ω j).evo he (by have := (h.old x ω j).2; simpa using this)
  · by_cases e : x = lo
    · have := h.out.lt
      simp only [if_pos e]
      exact ⟨by omega, by omega⟩
    · simp only [if_neg e]; exact h.old x ω j
  · have hl := fun z h1 j => (h.row z h1 j).lt
    by_cases e : x = lo <;> by_cases I : y = lo
    · intro _; omega
    · simp only [if_pos e, if_neg I]; intro e3; have := hl y ω h4; omega
    · simp only [if_neg e, if_pos I]; intro e3; have := hl x ω j; omega
    · simp only [if_neg e, if_neg I]; exact h.apart x y ω j ω h4
theorem Tab.congr (h : Tab w base bt T E s n m lo rb c) {j : Nat → Nat → List Value} (J : ∀ x, lo ≤ x → x < n → ∀ y, j x y = c x y) : Tab w base bt T E s n m lo rb j :=
  ⟨h.out, fun x h1 I => (h.row x h1 I).congr (J x h1 I), h.old, h.apart, h.base⟩
theorem Tab.store (h : Tab w base bt T E s n m lo rb c) {i : Nat} (h1 : lo ≤ i) (I : i < n) (he : Evo w w' [rb i]) {j : Nat → List Value} (hr : FB w' (rb i) E s m j) : Tab w' base bt T E s n m lo rb (fun x => if x = i then j else c x) := by
  refine ⟨h.out.evo he (by have := (h.old i h1 I).2; simpa using Ne.symm this), fun x J U => ?_, h.old, h.apart, h.base⟩
  by_cases e : x = i
  · subst e; simp only [if_true]; exact hr
  · simp only [if_neg e]
    exact (h.row x J U).evo he (by simp; intro e3; exact e (h.apart x i J U h1 I e3))
theorem Tab.load (h : Tab w base bt T E s n m lo rb c) (x : Nat) (h1 : lo ≤ x) (j : x < n) : w.cell? ⟨bt, 0 + x * 1, none⟩ = some (.slice (some ⟨rb x, 0, none⟩) m m) := h.out.cell0 j (Xv h1)
theorem Tab.cell (h : Tab w base bt T E s n m lo rb c) (x y j : Nat) (h1 : lo ≤ x) (I : x < n) (J : y < m) (U : j < s) {v : Value} (hv : (c x y)[j]? = some v) : w.cell? ⟨rb x, 0 + y * s + j, none⟩ = some v := (h.row x h1 I).cell J U hv
theorem Tab.cell0 (h : Tab w base bt T E s n m lo rb c) (x y : Nat) (h1 : lo ≤ x) (j : x < n) (I : y < m) {v : Value} {r : List Value} (J : c x y = v :: r) : w.cell? ⟨rb x, 0 + y * s, none⟩ = some v := (h.row x h1 j).cell0 I J
theorem Tab.at (h : Tab w base bt T E s n m lo rb c) (x y : Nat) (h1 : lo ≤ x) (j : x < n) (I : y < m) : At w (rb x) (0 + y * s) (c x y) := (h.row x h1 j).at I
end
theorem CH {α : Type} [Enc α] {w : World} {b : Nat} {T : TypeId} {cs : List Value} (l : List α) (h : Blk w b T cs) (I : cs = (l.map Enc.enc).flatten) (hl : Nat.ble l.length 10000 = true) : RowE w (some ⟨b, 0, none⟩) b 0 l.length l := by
  subst I
  refine ⟨⟨by simp, by have := Nat.le_of_ble_eq_true hl; simp; omega⟩, fun _ => rfl, fun i cs hi => ?_⟩
  have hlen : ∀ c ∈ l.map (Enc.enc (α := α)), c.length = Enc.n α := by
    intro c I
    obtain ⟨x, _, rfl⟩ := List.mem_map.1 I
    exact Enc.len x
  have J := hlen cs (List.mem_of_getElem? hi)
  refine ⟨J, fun j v U => ?_⟩
  have af : j < Enc.n α := by
    rcases Nat.lt_or_ge j (Enc.n α) with h1 | h1
    · exact h1
    · rw [List.getElem?_eq_none ω] at U; cases U
  have := h.at (i * Enc.n α + j) v (by rw [Ea _ _ i j cs hlen hi af]; exact U)
  rwa [← Nat.add_assoc] at this
section
variable {P : Program} {w : World} {f : Fr} {o : Oper}
theorem C2 {E : TypeId} {cs : Array Value} {i : Nat} {v : Value} (j : CQ P E = some false) (I : cs[i]? = some v) : (part E cs i).run P w = .ok v w := by
  simp [part, I1 j, I]
end
section
variable {P : Program} {f : Fr} {w : World} {o : Oper}
theorem bC {T E : TypeId} {x y : Operand} {b off len m J : Nat} {z : Option Value} {κ : IntKind} {i : Int} (j : Nat) (ho : o.op = .indexAddr T x y) (hu : P.underlying T = some (.array len E))
    (ht : Cy P E = some (m, J, z)) (hx : opv f x = .pointer (some ⟨b, off, none⟩)) (hy : opv f y = .int κ i) (I : i = (j : Int)) (U : j < len) :
    (execOp (opv f) o).run P w = .ok (.value (.pointer (some ⟨b, off + j * m, none⟩))) w := by
  subst I
  unfold execOp; rw [ho]; simp only []; rw [hx, hy]
  have h1 : (0 : Int) ≤ (j : Int) ∧ (j : Int) < (len : Int) := by omega
  simp [Instr.indexAt, run_underlying hu, asIntOf, CF ht, h1, add_lit, Instr.sureAddr]
  intro h2
  omega
end
section
variable {P : Program} {fn : Func} {n : Nat} {f : Fr} {w : World}
theorem Nn {s : Nat} {T : TypeId} {b : Nat} {m j : Nat} {z : Option Value} {cs : List Value} (h : fn.results = #[.cell s T]) (J : CQ P T = some true) (ht : Cy P T = some (m, j, z)) (hs : f s = .pointer (some ⟨b, 0, none⟩)) (hn : cs.length = m) (U : At w b 0 cs) :
    ∀ a, Is n f a → (results fn a.tmps).run P w = .ok (.agg cs.toArray) w := fun a hi => by
  have h1 := Gn (P := P) (w := w) J ht hn U
  have I : (loadVar T ⟨b, 0, none⟩).run P w = .ok (.agg cs.toArray) w := by
    simpa [Instr.loadAt, Instr.sureAddr] using h1
  simp [results, h, hi.get, hs, asAddr, I]
end
section
variable {P : Program} {f : Fr} {w : World} {o : Oper}
theorem Wh {t t2 : TypeId} {x y : Operand} {a b : List UInt8} (j : o.op = .binOp .lss t x y t2) (I : opv f x = S a) (J : opv f y = S b) :
    (execOp (opv f) o).run P w = .ok (.value (.bool (decide (blt a b = true)))) w := by
  rw [Bool.decide_eq_true]; exact XN j I J
end
section
variable {P : Program} {f : Fr} {w : World} {o : Oper}
theorem W9 {α : Type} [Enc α] {l : List α} {T E m J : Nat} {z : Option Value} {x : Operand} {ao : Option Addr} {b off cap : Nat} {lo : Option Operand} (i : Nat) (U : o.op = .slice T x lo none none) (hu : P.underlying T = some (.slice E))
    (ht : Cy P E = some (m, J, z)) (I : m = Enc.n α) (hx : opv f x = .slice ao l.length cap) (hr : RowE w ao b off cap l) (j : (lo.map (opv f) = none ∧ i = 0) ∨ ∃ κ, lo.map (opv f) = some (.int κ (i : Int))) (h1 : i ≤ l.length) :
    (execOp (opv f) o).run P w = .ok (.value (.slice (if cap = i then ao else ao.map (·.add (i * Enc.n α))) (l.drop i).length (cap - i))) w := by
  have := K1 (P := P) (w := w) (f := f) (o := o) i l.length U hu ht hx j Zp h1 hr.le
  rw [List.length_drop, ← I]
  exact this
end
theorem Cc {P : Program} {f : Fr} {w : World} {o : Oper} {x : Operand} {b : Bool} (j : o.op = .move x) (I : opv f x = .bool b) : (execOp (opv f) o).run P w = .ok (.value (.bool (decide (b = true)))) w := by
  rw [Bool.decide_eq_true]; exact AN j I
theorem Evo.weaken {w w' : World} {X Y : List Nat} (h : Evo w w' X) (j : ∀ x ∈ X, x ∈ Y ∨ w.heap.size ≤ x) : Evo w w' Y :=
  ⟨h.os, h.tape, h.output, h.size, fun b I J => h.same b I (fun hm => by
    rcases j b hm with h1 | h1
    · exact J h1
    · omega)⟩
def OwnR {α : Type} [Rep α] (w : World) (base : Nat) (E : TypeId) (Y : List Nat) (v : Value) (l : List α) : Prop :=
  ∃ css, Own w base E (Rep.n α) v css ∧ ∀ w', Evo w w' (Y ++ v.ownBlock.toList) → RepL w' css l
section
variable {α : Type} [Rep α] {w w' : World} {base : Nat} {E : TypeId} {Y X : List Nat} {v : Value} {l : List α}
theorem OwnR.nil (w : World) (base : Nat) (E : TypeId) (Y : List Nat) : OwnR (α := α) w base E Y (.slice none 0 0) [] := ⟨[], Own.nil _ _ _ _, fun _ _ => RepL.nil _⟩
theorem OwnR.block (h : OwnR w base E Y v l) {g : Nat} (j : v.ownBlock = some g) : base ≤ g ∧ g < w.heap.size := let ⟨_, h1, _⟩ := h; h1.block j
theorem OwnR.shape (h : OwnR w base E Y v l) : ∃ ao cap, v = .slice ao l.length cap := by
  obtain ⟨css, h1, j⟩ := h
  have := (j w (Evo.refl _ _)).1
  rw [← this]
  exact h1.shape
theorem OwnR.bd (h : OwnR w base E Y v l) : l.length ≤ 140737488355328 := by
  obtain ⟨css, h1, j⟩ := h
  rw [← (j w (Evo.refl _ _)).1]
  exact h1.bd
theorem OwnR.evo (h : OwnR w base E Y v l) (he : Evo w w' X) (hX : ∀ x ∈ X, x ∈ Y ∨ w.heap.size ≤ x) (hb : ∀ g, v.ownBlock = some g → g ∉ X) : OwnR w' base E Y v l := by
  obtain ⟨css, h1, U⟩ := h
  refine ⟨css, h1.evo he hb, fun J j => U J (Evo.trans (he.weaken (Y := Y ++ v.ownBlock.toList) (fun x I => ?_)) j (fun x I _ => I))⟩
  rcases hX x I with h3 | h3
  · exact .inl (List.mem_append_left _ h3)
  · exact .inr h3
theorem OwnR.evo0 (h : OwnR w base E Y v l) (he : Evo w w' []) : OwnR w' base E Y v l := h.evo he (by simp) (by simp)
theorem OwnR.evoY (h : OwnR w base E Y v l) (he : Evo w w' Y) (j : ∀ y ∈ Y, y < base) : OwnR w' base E Y v l := h.evo he (fun x J => .inl J) (fun g I hm => by have := j g hm; have := h.block I; omega)
theorem OwnR.sub {j : Nat} {I : List Nat} (h : OwnR w base E Y v l) (hb : j ≤ base) (U : ∀ y ∈ I, y ∈ Y) : OwnR w j E I v l := by
  obtain ⟨css, h1, J⟩ := h
  refine ⟨css, h1.base_le hb, fun w' he => J w' (he.mono (fun x hx => ?_))⟩
  rcases List.mem_append.1 hx with h3 | h3
  · exact List.mem_append_left _ (U x h3)
  · exact List.mem_append_right _ h3
theorem OwnR.rowOf (h : OwnR w base E Y v l) : ∃ ao g cap, v = .slice ao l.length cap ∧ RowR w ao g 0 cap l := by
  obtain ⟨css, h1, I⟩ := h
  have j := I w (Evo.refl _ _)
  obtain ⟨ao, g, cap, U, J, _⟩ := h1.rowOf
  exact ⟨ao, g, cap, by rw [← j.1]; exact U, css, J, j⟩
end
theorem L2 (m : Nat) : ∀ (css : List (List Value)) (i k : Nat) (c vs : List Value), (∀ cs ∈ css, cs.length = m) → css[i]? = some c → k + vs.length ≤ m →
    css.flatten.take (i * m + k) ++ vs ++ css.flatten.drop (i * m + k + vs.length) = (css.set i (c.take k ++ vs ++ c.drop (k + vs.length))).flatten
  | [], i, k, c, vs, _, h, _ => by simp at h
  | d :: css, 0, k, c, vs, hm, h, hk => by
    simp at h; subst h
    have j : d.length = m := hm d (by simp)
    simp only [List.flatten_cons, Nat.zero_mul, Nat.zero_add, List.set_cons_zero]
    rw [List.take_append_of_le_length ω, List.drop_append_of_le_length ω]
    simp
  | d :: css, i + 1, k, c, vs, hm, h, hk => by
    have j : d.length = m := hm d (by simp)
    have ih := L2 m css i k c vs (fun x U => hm x (by simp [U])) (by simpa using h) hk
    simp only [List.flatten_cons, List.set_cons_succ]
    rw [← ih]
    have I : (i + 1) * m + k = d.length + (i * m + k) := by rw [j, Nat.add_mul]; omega
    have J : (i + 1) * m + k + vs.length = d.length + (i * m + k + vs.length) := by omega
    rw [J, I, List.take_length_add_append, List.drop_length_add_append]
    simp
section
variable {P : Program} {B : Exit → Act → World → Prop} {n : Nat} {k : List Kont} {f : Fr} {w : World} {ops : Array Oper} {rest : List Oper}
theorem W8 {T E : TypeId} {t : TypeId} {pos : String} {al : Array Edge} {x y : Operand} {base g m mt bb off : Nat} {z : Option Value} {v u : Value} {css : List (List Value)} {vs c : List Value} (i I : Nat)
    (hx : opv f x = .pointer (some ⟨g, off, none⟩)) (U : off = 0 + i * m + I) (hy : opv f y = u) (j : Own w base E m v css) (hg : v.ownBlock = some g) (hc : css[i]? = some c) (ht : Cy P T = some (mt, bb, z)) (hv : u.cells = vs.toArray) (hm : vs.length = mt)
    (h1 : A1 vs = true) (hk : I + vs.length ≤ m)
    (h : ∀ w', Evo w w' [g] → w'.heap.size = w.heap.size → Own w' base E m v (css.set i (c.take I ++ vs ++ c.drop (I + vs.length))) → KL P B n ops k rest f w') :
    KL P B n ops k (⟨none, .store T x y, t, pos, al, none⟩ :: rest) f w := by
  subst U
  have hi : i < css.length := by
    rcases Nat.lt_or_ge i css.length with h2 | h2
    · exact h2
    · rw [List.getElem?_eq_none h2] at hc; cases hc
  have bc : c.length = m := j.each c (List.mem_of_getElem? hc)
  rcases j.row.2 with ⟨hv2, _⟩ | ⟨g2, cap, cur, hv2, hb, hblk, hn, hcap, hs, htk⟩
  · rw [hv2] at hg; cases hg
  · have e : g2 = g := by rw [hv2] at hg; simpa [Value.ownBlock] using hg
    subst e
    have hB : Blk w g2 E cur.toList := by simpa [Blk] using hblk
    have hle : i * m + m ≤ css.length * m := by have := Nat.mul_le_mul_right m (show i + 1 ≤ css.length from hi); rw [Nat.add_mul, Nat.one_mul] at this; exact this
    have aS : css.length * m ≤ cap * m := Nat.mul_le_mul_right m hn
    refine Ai (T' := E) (cs' := cur.toList.take (0 + i * m + I) ++ vs ++ cur.toList.drop (0 + i * m + I + vs.length)) hx hy hB ht hv hm h1 ?_ rfl (fun w' he az au => h w' he az ⟨⟨?_, .inr ⟨g2, cap, (cur.toList.take (0 + i * m + I) ++ vs ++ cur.toList.drop (0 + i * m + I + vs.length)).toArray, ?_, hb, au, ?_, hcap, ?_, ?_⟩⟩, ?_, ?_⟩)
    · rw [Nat.ble_eq]; simp [hs]; omega
    · rw [Bm _ m, List.length_set]
      intro d hd
      rcases List.mem_or_eq_of_mem_set hd with h3 | h3
      · exact j.each d h3
      · rw [h3]; simp; omega
    · rw [hv2, List.length_set]
    · rw [List.length_set]; exact hn
    · simp [hs]; omega
    · rw [List.length_set]
      rw [← L2 m css i I c vs j.each hc hk]
      have bf := Bm css m j.each
      obtain ⟨R, J⟩ : ∃ R, cur.toList = css.flatten ++ R := ⟨cur.toList.drop (css.length * m), by rw [← htk, List.take_append_drop]⟩
      have e1 : (css.flatten ++ R).take (i * m + I) = css.flatten.take (i * m + I) := List.take_append_of_le_length ω
      have e2 : (css.flatten ++ R).drop (i * m + I + vs.length) = css.flatten.drop (i * m + I + vs.length) ++ R := List.drop_append_of_le_length ω
      simp only [Nat.zero_add]
      rw [J, e1, e2, ← List.append_assoc]
      refine List.take_left' ?_
      simp only [List.length_append, List.length_take, List.length_drop]
      omega
    · intro d hd
      rcases List.mem_or_eq_of_mem_set hd with h3 | h3
      · exact j.each d h3
      · rw [h3]; simp; omega
    · rw [List.length_set]; exact j.bd
end
section
variable {α : Type} [Rep α] {w w' : World} {base : Nat} {E : TypeId} {Y X Z : List Nat} {v : Value} {l : List α}
theorem OwnR.grow (h : OwnR w base E Y v l) (he : Evo w w' X) (hX : ∀ x ∈ X, x ∈ Y ∨ w.heap.size ≤ x) (hb : ∀ g, v.ownBlock = some g → g ∉ X) (hZ : ∀ z ∈ Z, z ∈ Y ∨ w.heap.size ≤ z) : OwnR w' base E Z v l := by
  obtain ⟨css, h1, U⟩ := h
  refine ⟨css, h1.evo he hb, fun J j => U J (Evo.trans (he.weaken (Y := Y ++ v.ownBlock.toList) (fun x I => ?_)) j (fun x I au => ?_))⟩
  · rcases hX x I with h3 | h3
    · exact .inl (List.mem_append_left _ h3)
    · exact .inr h3
  · rcases List.mem_append.1 I with h3 | h3
    · rcases hZ x h3 with h4 | h4
      · exact List.mem_append_left _ h4
      · omega
    · exact List.mem_append_right _ h3
theorem RepL.set {css : List (List Value)} {cs : List Value} {x : α} (h : RepL w css l) (i : Nat) (U : Rep.rep w cs x) : RepL w (css.set i cs) (l.set i x) := by
  refine ⟨by simp [h.1], fun j ds y h1 I => ?_⟩
  rw [List.getElem?_set] at h1 I
  by_cases J : i = j
  · subst J
    rw [if_pos rfl] at h1 I
    split at h1
    · rename_i hl
      rw [if_pos (by rw [← h.1]; exact hl)] at I
      injection h1 with h1; injection I with I
      rw [← h1, ← I]; exact U
    · cases h1
  · rw [if_neg J] at h1 I
    exact h.2 j ds y h1 I
end
theorem NO {α : Type} [Enc α] [Inhabited α] {P : Program} {B : Exit → Act → World → Prop} {n : Nat} {k : List Kont} {f : Fr} {w : World} {ops : Array Oper} {rest : List Oper} {T E : TypeId} {t : TypeId} {pos : String} {af : Array Edge} {x yo : Operand} {base mt bb off len cap c2 m : Nat} {z0 : Option Value} {ao : Option Addr} {l : List α} {u : Value} {vs : List Value} {g0 : Nat} (i U : Nat) (y : α)
    (hx : opv f x = .pointer (some ⟨g0, off, none⟩)) (au : Enc.n α = m) (J : off = 0 + i * m + U) (hy : opv f yo = u) (h : OwnE w base E (.slice ao len cap) l) (hr : RowE w ao g0 0 c2 l) (hi : i < l.length) (ht : Cy P T = some (mt, bb, z0))
    (hv : u.cells = vs.toArray) (hm : vs.length = mt) (h1 : A1 vs = true) (al : Nat.ble (U + vs.length) m = true) (j : (Enc.enc (l.getD i default)).take U ++ vs ++ (Enc.enc (l.getD i default)).drop (U + vs.length) = Enc.enc y)
    (hk : ∀ w', Evo w w' (Value.slice ao len cap).ownBlock.toList → w'.heap.size = w.heap.size → OwnE w' base E (.slice ao len cap) (l.set i y) → KL P B n ops k rest f w') :
    KL P B n ops k (⟨none, .store T x yo, t, pos, af, none⟩ :: rest) f w := by
  subst au
  have hg : (Value.slice ao len cap).ownBlock = some g0 := by rw [hr.addr hi]; rfl
  have e : l.getD i default = l[i] := by simp [List.getD, hi]
  rw [e] at j
  refine W8 (vs := vs) (c := Enc.enc l[i]) (m := Enc.n α) i U hx J hy h hg (by simp [hi]) ht hv hm h1 (Nat.le_of_ble_eq_true al) (fun w' he az I => hk w' (by rw [hg]; exact he) az ?_)
  rw [j] at I
  show Own w' base E (Enc.n α) _ ((l.set i y).map Enc.enc)
  rw [List.map_set]
  exact I
theorem Ty {P : Program} {f : Fr} {w : World} {o : Oper} {g : FuncId} {x y : Operand} {ts : Array TypeId} {fn : Func} {s : List UInt8} {c : UInt8} (ho : o.op = .call ⟨.value (.func g), #[x, y], ts⟩) (hx : opv f x = S s) (hy : opv f y = .int .u8 ((c.toNat : Nat) : Int))
    (J : P.funcs[g]? = some fn) (j : (fn.name == "runtime.NumGoroutine") = false) (I : fn.body.isNone = true) (U : Extern.findNext fn = none) (he : Extern.find fn = some Extern.BytealgIndexByte.indexByte) :
    (execOp (opv f) o).run P w = .ok (.value (.int .i64 (Lib.indexByte s c))) w := by
  unfold execOp; rw [ho]; simp only [resolve]
  have h1 : (callFunc g #[S s, .int .u8 ((c.toNat : Nat) : Int)]).run P w = .ok (.value (.int .i64 (Lib.indexByte s c))) w := by
    rw [run_callFunc_extern J j I U he]
    have : (Extern.BytealgIndexByte.indexByte #[S s, .int .u8 ((c.toNat : Nat) : Int)]).run P w = _ := Lib.run_indexByteString (P := P) ⟨s.toArray⟩ ((c.toNat : Nat) : Int) w
    rw [this]
    have e : ((c.toNat : Nat) : Int).toNat.toUInt8 = c := by simp
    rw [e]
    simp [Result.andThen]
  rw [show (#[x, y] : Array Operand).map (opv f) = #[S s, .int .u8 ((c.toNat : Nat) : Int)] by simp [hx, hy]]
  simpa [Deferred.ofValue, invoke] using h1
instance : Enc UInt8 := ⟨1, fun c => [.int .u8 (c.toNat : Int)], fun _ => rfl, fun _ => rfl, by decide⟩
section
variable {P : Program} {B : Exit → Act → World → Prop} {n : Nat} {k : List Kont} {f : Fr} {w : World}
theorem Dy {c : Operand} {x y : Code} {p : Prop} [Decidable p] (j : opv f c = .bool (decide p)) (I : p) (h : KF P B n (.code x :: k) f w) : KF P B n (.code (.cond c x y) :: k) f w :=
  DY (by rw [j, decide_eq_true I]) h
theorem Jh {ops : Array Oper} {rest : List Oper} {d : Option Nat} {op : Op} {t : TypeId} {pos : String} {I : Array Edge} {j s : Nat} {b : Bool} {g : Prop} [Decidable g] (U : (ops[j]?).bind (·.dst) = some s) (hw : Wanted f s b g) (J : g)
    (h : KL P B n ops k (⟨d, op, t, pos, I, none⟩ :: rest) f w) : KL P B n ops k (⟨d, op, t, pos, I, some (j, b)⟩ :: rest) f w := H0 U (hw.yes J) h
end
end Go.Vc
namespace Go.Vc
open Go Go.RowKit Go.IntWalk Go.Deep
def YX (α : Type) [Enc α] (P : Program) (e : TypeId) : Prop :=
  ∀ {H : Type} (enc : TypeId × Value → H) (w : World) (base : Nat) (sp : Nat → Bool) (hd : Bool) (n : Nat) (cs : List Value) (d : DataW H) (pl : List MemPlace), DataW.trod enc P w base sp hd n e cs = some (d, pl) → ∃ x : α, cs = Enc.enc x
section
variable {P : Program} {H : Type} {enc : TypeId × Value → H} {w : World} {base : Nat} {sp : Nat → Bool} {hd : Bool} {t e : TypeId}
theorem TL (hu : P.underlying e = some (.int .i64)) : YX Int P e := fun _ _ _ _ _ _ _ _ _ h => by
  obtain ⟨n, h1, _⟩ := DataW.trod_int hu h
  exact ⟨n, h1⟩
theorem Lr {w : World} {base : Nat} {a : Addr} {n : Nat} {cs : List Value} (h : w.cells? base a n = some cs) (hn : 0 < n) : a = ⟨a.block, a.off, none⟩ ∧ At w a.block a.off cs := by
  obtain ⟨_, h1, h2⟩ := World.cells?_some h
  have hs : ∀ (b : Addr) (v : Value), w.cell? b = some v → b.spot = none := by
    intro b v hb
    unfold World.cell? at hb
    split at hb
    · split at hb
      · cases hb
      · rename_i h3; simpa using h3
    · cases hb
  have h0 := h2 0 hn
  have U : ∃ v, cs[0]? = some v := ⟨cs[0]'ω, by simp [h1, hn]⟩
  obtain ⟨v, hv⟩ := U
  rw [hv, show a.add 0 = a by unfold Addr.add; rw [if_pos rfl]] at h0
  have ha := hs _ v h0
  have J : a = ⟨a.block, a.off, none⟩ := by cases a; simp_all
  refine ⟨J, fun j u hj => ?_⟩
  have ag : j < n := by
    rcases Nat.lt_or_ge j n with I | I
    · exact I
    · rw [List.getElem?_eq_none ω] at hj; cases hj
  have I := h2 j ag
  rw [hj, J, add_lit] at I
  exact I
theorem cE {α : Type} [Enc α] (hu : P.underlying t = some (.slice e)) (hc : P.cellsOf e = Enc.n α) (hb : 1 ≤ P.bytesOf e) (ag : YX α P e) {fuel : Nat} {ao : Option Addr} {len cap : Nat} {d : DataW H} {pl : List MemPlace}
    (h : DataW.trod enc P w base sp hd fuel t [.slice ao len cap] = some (d, pl)) (hw : ∀ m ∈ d.weights P t, m ≤ reachBytes) : ∃ b off, ∃ l : List α, len = l.length ∧ RowE w ao b off cap l := by
  rcases open_slice hu h with ⟨h1, _⟩ | ⟨a, len', cap', m, n, D, Pl, h1, _, hl, _, hm, hx, hall⟩
  · simp only [List.cons.injEq, Value.slice.injEq, and_true] at h1
    obtain ⟨rfl, rfl, rfl⟩ := h1
    exact ⟨0, 0, [], rfl, RowE.nil _ _ _ _ _⟩
  · simp only [List.cons.injEq, Value.slice.injEq, and_true] at h1
    obtain ⟨rfl, rfl, rfl⟩ := h1
    have ba : len ≤ m := by rw [hm]; split <;> omega
    have ha : 0 < len → a = ⟨a.block, a.off, none⟩ := fun h0 => by
      obtain ⟨cs, J, _⟩ := hall 0 ω
      rw [Nat.zero_mul, show a.add 0 = a by unfold Addr.add; rw [if_pos rfl], hc] at J
      exact (Lr J (Enc.pos (α := α))).1
    have hex : ∀ i, i < len → ∃ x : α, At w a.block (a.off + i * Enc.n α) (Enc.enc x) := fun i I => by
      obtain ⟨cs, J, h3⟩ := hall i ω
      obtain ⟨x, al⟩ := ag enc w base sp hd n cs _ _ h3
      rw [hc, ha ω, add_lit] at J
      exact ⟨x, by rw [← al]; exact (Lr J (Enc.pos (α := α))).2⟩
    have a1 : len ≤ 140737488355328 := by
      have J : d = _ := congrArg Prod.fst hx
      have h3 := hw ((((List.range len).map D).length + ((List.range (m - len)).map fun j => D (len + j)).length) * P.bytesOf e) (by rw [J]; simp [DataW.weights, hu])
      simp only [List.length_map, List.length_range] at h3
      have h4 : len * 1 ≤ (len + (m - len)) * P.bytesOf e := Nat.mul_le_mul ω hb
      have h5 := reachBytes_lt
      omega
    by_cases h0 : len = 0
    · subst h0; exact ⟨0, 0, [], rfl, ⟨by simp, by simp, by simp⟩⟩
    · obtain ⟨x0, _⟩ := hex 0 ω
      obtain ⟨f, hf⟩ : ∃ f : Nat → α, ∀ i, i < len → At w a.block (a.off + i * Enc.n α) (Enc.enc (f i)) := by
        classical
        exact ⟨fun i => if I : i < len then Classical.choose (hex i I) else x0, fun i I => by simp only [dif_pos I]; exact Classical.choose_spec (hex i I)⟩
      refine ⟨a.block, a.off, (List.range len).map f, by simp, ⟨by simp; omega, fun _ => congrArg some (ha ω), fun i cs I => ?_⟩⟩
      have U : i < len := by
        rcases Nat.lt_or_ge i len with h6 | h6
        · exact h6
        · rw [List.getElem?_eq_none (by simpa using h6)] at I; cases I
      simp [U] at I
      subst I
      exact ⟨Enc.len _, hf i U⟩
end
def zs (l : List Int) : List Value := l.map (Value.int .i64)
def vz (g : Bool) (l : List Int) : Value := if g then .agg (zs l).toArray else (zs l).headD .nilFunc
structure EqI (P : Program) (m T n : Nat) (g : Bool) : Prop where
  ag : CQ P T = some g
  sz : ∃ bb z, Cy P T = some (n, bb, z)
  one : g = false → n = 1
  eq : ∀ (d : Nat) (w : World) (az bs : List Int), az.length = n → bs.length = n → (Op.equalIn (d + m) T (vz g az) (vz g bs)).run P w = .ok (decide (az = bs)) w
section
variable {P : Program}
theorem EqI.int {T J : Nat} {z : Option Value} (hu : P.underlying T = some (.int .i64)) (ha : CQ P T = some false) (ht : Cy P T = some (1, J, z)) : EqI P 1 T 1 false :=
  ⟨ha, ⟨_, _, ht⟩, fun _ => rfl, fun d w I U h1 j => by
    rcases I with _ | ⟨a, _ | ⟨a1, l⟩⟩
    · simp at h1
    · rcases U with _ | ⟨b, _ | ⟨b1, l⟩⟩
      · simp at j
      · show (Op.equalIn (d + 1) T (.int .i64 a) (.int .i64 b)).run P w = _
        rw [run_equalIn_int w d T _ _ a b hu]
        congr 1
        by_cases h : a = b
        · simp [h]
        · simp [h]
      · simp at j
    · simp at h1⟩
theorem EqI.up {m T n : Nat} {g : Bool} (h : EqI P m T n g) : EqI P (m + 1) T n g :=
  ⟨h.ag, h.sz, h.one, fun d w j I h1 J => by
    have := h.eq (d + 1) w j I h1 J
    rw [show d + (m + 1) = d + 1 + m by omega]; exact this⟩
theorem EqI.part {m T n : Nat} {g : Bool} (h : EqI P m T n g) (w : World) (xs : List Int) (off : Nat) (hl : off + n ≤ xs.length) : (part T (zs xs).toArray off).run P w = .ok (vz g ((xs.drop off).take n)) w := by
  obtain ⟨bb, z, U⟩ := h.sz
  cases g with
  | false =>
    have J := h.one rfl
    subst J
    have j : off < xs.length := by omega
    have e : (zs xs).toArray[off]? = some (.int .i64 xs[off]) := by simp [zs, j]
    rw [C2 h.ag e]
    congr 1
    have I : (xs.drop off).take 1 = [xs[off]] := by rw [List.drop_eq_getElem_cons j]; rfl
    rw [I]; rfl
  | true =>
    simp [Go.part, I1 h.ag, CF U, vz, zs, List.map_drop, List.map_take]
def dt (P : Program) (m : Nat) : List Field → Nat → Nat → Prop
  | [], _, n => n = 0
  | f :: fs, off, n => f.name ≠ "_" ∧ f.offset = off ∧ ∃ k g, EqI P m f.type k g ∧ k ≤ n ∧ dt P m fs (off + k) (n - k)
theorem O3 {m : Nat} (d : Nat) (w : World) (xs I : List Int) : ∀ (U : List Field) (off n : Nat), dt P m U off n → off + n ≤ xs.length → off + n ≤ I.length →
    (Op.eqFields (d + m) (zs xs).toArray (zs I).toArray U).run P w = .ok (decide ((xs.drop off).take n = (I.drop off).take n)) w
  | [], off, n, h, _, _ => by
    have h : n = 0 := h
    subst h
    simp [Op.eqFields]
  | f :: U, off, n, ⟨hn, ho, k, g, hE, hk, hL⟩, hx, hy => by
    subst ho
    have p1 := hE.part w xs f.offset ω
    have p2 := hE.part w I f.offset ω
    have p3 := hE.eq d w ((xs.drop f.offset).take k) ((I.drop f.offset).take k) θ θ
    have ih := O3 d w xs I U (f.offset + k) (n - k) hL ω ω
    have split : ∀ zs : List Int, (zs.drop f.offset).take n = (zs.drop f.offset).take k ++ (zs.drop (f.offset + k)).take (n - k) := fun zs => by
      conv => lhs; rw [show n = k + (n - k) by omega]
      rw [List.take_add, List.drop_drop]
    have j : (xs.drop f.offset).take n = (I.drop f.offset).take n ↔ (xs.drop f.offset).take k = (I.drop f.offset).take k ∧ (xs.drop (f.offset + k)).take (n - k) = (I.drop (f.offset + k)).take (n - k) := by
      rw [split xs, split I]
      refine ⟨fun h => ?_, fun h => by rw [h.1, h.2]⟩
      exact List.append_inj h θ
    simp only [Op.eqFields, hn, ne_eq, not_false_eq_true, if_true, Sem.run_bind, p1, p2, p3, Result.andThen_ok]
    by_cases h1 : (xs.drop f.offset).take k = (I.drop f.offset).take k
    · rw [decide_eq_true h1]
      simp only [Bool.not_true, Bool.false_eq_true, if_false, ih]
      congr 1
      exact decide_eq_decide.2 ⟨fun J => j.2 ⟨h1, J⟩, fun J => (j.1 J).2⟩
    · rw [decide_eq_false h1, decide_eq_false (fun J => h1 (j.1 J).1)]
      simp
theorem EqI.struct {m T n bb : Nat} {z : Option Value} {j : Array Field} (hu : P.underlying T = some (.struct j)) (hp : P.stoodInHeld T = false) (ha : CQ P T = some true) (ht : Cy P T = some (n, bb, z)) (hL : dt P m j.toList 0 n) : EqI P (m + 1) T n true :=
  ⟨ha, ⟨_, _, ht⟩, fun h => (by cases h), fun d w J U h1 h2 => by
    have hf : P.fieldsOf T = j := by simp [Program.fieldsOf, hu]
    have h3 := O3 d w J U j.toList 0 n hL ω ω
    have I := run_equalIn_struct (P := P) w (d + m) T (zs J).toArray (zs U).toArray (by rw [hf]; exact hu) hp
    rw [hf, h3] at I
    rw [List.drop_zero, List.drop_zero, List.take_of_length_le ω, List.take_of_length_le ω] at I
    exact I⟩
variable {w : World} {f : Fr} {o : Oper}
end
def ElemZ (P : Program) (e n : Nat) : Prop :=
  ∀ {H : Type} (enc : TypeId × Value → H) (w : World) (base : Nat) (sp : Nat → Bool) (hd : Bool) (m : Nat) (cs : List Value) (d : DataW H) (pl : List MemPlace), DataW.trod enc P w base sp hd m e cs = some (d, pl) → ∃ l : List Int, l.length = n ∧ cs = zs l
section
variable {P : Program} {e : TypeId}
theorem ElemZ.int (hu : P.underlying e = some (.int .i64)) : ElemZ P e 1 := fun _ _ _ _ _ _ _ _ _ h => by
  obtain ⟨n, h1, _⟩ := DataW.trod_int hu h
  exact ⟨[n], rfl, h1⟩
theorem ElemZ.range (h : ElemZ P e 2) : YX Range P e := fun enc w base sp hd n cs d pl hr => by
  obtain ⟨l, hl, hc⟩ := h enc w base sp hd n cs d pl hr
  match l, hl with
  | [a, b], _ => exact ⟨⟨a, b⟩, hc⟩
end
section
variable {P : Program} {w : World} {f : Fr} {o : Oper}
theorem KI (d : Nat) {T : TypeId} {f0 f1 f2 : Field} (hu : P.underlying T = some (.struct #[f0, f1, f2])) (hp : P.stoodInHeld T = false) (n0 : f0.name ≠ "_") (n1 : f1.name ≠ "_") (n2 : f2.name ≠ "_")
    (o0 : f0.offset = 0) (o1 : f1.offset = 1) (o2 : f2.offset = 2) (u0 : P.underlying f0.type = some (.int .i64)) (u1 : P.underlying f1.type = some .string) (u2 : P.underlying f2.type = some (.int .i64))
    (a0 : CQ P f0.type = some false) (I : CQ P f1.type = some false) (a2 : CQ P f2.type = some false) (x y : Item) :
    (Op.equalIn (d + 2) T (.agg (Enc.enc x).toArray) (.agg (Enc.enc y).toArray)).run P w = .ok (decide (x = y)) w := by
  have j : P.fieldsOf T = #[f0, f1, f2] := by simp [Program.fieldsOf, hu]
  rw [run_equalIn_struct (P := P) w (d + 1) T _ _ (by rw [j]; exact hu) hp, j]
  have p0 : ∀ (z : Item), (part f0.type (Enc.enc z).toArray 0).run P w = .ok (.int .i64 z.kind) w := fun z => C2 a0 rfl
  have p1 : ∀ (z : Item), (part f1.type (Enc.enc z).toArray 1).run P w = .ok (S z.text) w := fun z => C2 I rfl
  have p2 : ∀ (z : Item), (part f2.type (Enc.enc z).toArray 2).run P w = .ok (.int .i64 z.id) w := fun z => C2 a2 rfl
  have J := run_equalIn_int (P := P) w d f0.type .i64 .i64 x.kind y.kind u0
  have U : (Op.equalIn (d + 1) f1.type (S x.text) (S y.text)).run P w = .ok (x.text == y.text) w := by
    have := run_equalIn_string (P := P) w d f1.type ⟨x.text.toArray⟩ ⟨y.text.toArray⟩ u1
    rw [Fp, Fp] at this
    exact this
  have e2 := run_equalIn_int (P := P) w d f2.type .i64 .i64 x.id y.id u2
  have key : (Op.eqFields (d + 1) (Enc.enc x).toArray (Enc.enc y).toArray [f0, f1, f2]).run P w = .ok ((x.kind == y.kind) && ((x.text == y.text) && (x.id == y.id))) w := by
    simp only [Op.eqFields, n0, n1, n2, o0, o1, o2, ne_eq, not_false_eq_true, if_true, Sem.run_bind, p0, J, Result.andThen_ok]
    cases (x.kind == y.kind) with
    | false => simp
    | true =>
      simp only [Bool.not_true, Bool.false_eq_true, if_false, Sem.run_bind, p1, U, Result.andThen_ok, Bool.true_and]
      cases (x.text == y.text) with
      | false => simp
      | true =>
        simp only [Bool.not_true, Bool.false_eq_true, if_false, Sem.run_bind, p2, e2, Result.andThen_ok, Bool.true_and]
        cases (x.id == y.id) with
        | false => simp
        | true => simp
  have e3 : ((x.kind == y.kind) && ((x.text == y.text) && (x.id == y.id))) = decide (x = y) := by
    obtain ⟨k1, t1, i1⟩ := x
    obtain ⟨k2, t2, i2⟩ := y
    rw [Bool.eq_iff_iff]
    simp
  rw [← e3]
  exact key
theorem Xg {T j : TypeId} {x y : Operand} (a b : Item) (J : o.op = .binOp .neq T x y j) (I : P.eqGuardType P.depth T = false) (he : ∀ (w : World) (x y : Item), (Op.equalIn 10000 T (.agg (Enc.enc x).toArray) (.agg (Enc.enc y).toArray)).run P w = .ok (decide (x = y)) w)
    (U : opv f x = .agg (Enc.enc a).toArray) (hy : opv f y = .agg (Enc.enc b).toArray) : (execOp (opv f) o).run P w = .ok (.value (.bool (decide (¬ a = b)))) w := by
  unfold execOp; rw [J]; simp only []; rw [U, hy]
  simp only [Sem.run_bind, run_eqGuard_agg w .neq T x y _ _ I, Result.andThen_ok, run_neq_struct, he, Sem.run_pure]
  simp
theorem Cw {c a b : Operand} {q : Prop} {r : Bool} [Decidable q] (U : o.op = .pick c a b) (J : opv f c = .bool (decide q)) (j : q → opv f a = .bool r) (I : opv f b = .bool false) :
    (execOp (opv f) o).run P w = .ok (.value (.bool (decide (q ∧ r = true)))) w := Cu U J (fun h => by rw [j h, Bool.decide_eq_true]) I
end
theorem N4 (l : List UInt8) : (l.map (Enc.enc (α := UInt8))).flatten = l.map (fun c => Value.int .u8 ((c.toNat : Nat) : Int)) := by
  induction l with
  | nil => rfl
  | cons c l ih => rw [List.map_cons, List.flatten_cons, ih]; rfl
section
variable {P : Program} {B : Exit → Act → World → Prop} {n : Nat} {k : List Kont} {f : Fr} {w : World} {ops : Array Oper} {rest : List Oper} {o : Oper}
theorem FU {T U E d bb : Nat} {t : TypeId} {pos : String} {aS : Array Edge} {x y : Operand} {base : Nat} {v : Value} {l s : List UInt8}
    (hd : Nat.blt d n = true) (hu : P.underlying T = some (.slice E)) (a_ : P.underlying U = some .string) (ht : Cy P E = some (1, bb, some (.int .u8 0))) (aT : bb = 1)
    (al : OwnE w base E v l) (hx : opv f x = v) (hy : opv f y = S s) (hlen : l.length + s.length ≤ 140737488355328) (I : base ≤ w.heap.size)
    (h : ∀ v' w', Evo w w' v.ownBlock.toList → OwnE w' base E v' (l ++ s) → KL P B n ops k rest (upd f d v') w') :
    KL P B n ops k (⟨some d, .call ⟨.builtin .append, #[x, y], #[T, U]⟩, t, pos, aS, none⟩ :: rest) f w := by
  obtain ⟨i, hi, h1, h2, h3⟩ := GK ht
  have au : w.ownsRow base E 1 v l.length (l.map (Enc.enc (α := UInt8))).flatten := by
    have h9 := al.row
    rw [List.length_map] at h9
    exact h9
  have af : (ByteArray.mk s.toArray).size = s.length := by simp [ByteArray.size]
  obtain ⟨v', w', az, j, hg, _⟩ := Lib.run_append_own_string (P := P) (w := w) base T U t E i hu a_ hi h3 h1 (by rw [h2]; exact aT) v l.length _ au ⟨s.toArray⟩ (by rw [af]; unfold maxLen; omega) (by rw [af]; exact hlen) I
  have J : OwnE w' base E v' (l ++ s) := by
    refine ⟨?_, fun cs a1 => ?_, by simp; omega⟩
    · have e : Lib.strCells ⟨s.toArray⟩ = s.map (fun c => Value.int .u8 ((c.toNat : Nat) : Int)) := by simp [Lib.strCells]
      rw [e, af, N4] at j
      show w'.ownsRow base E 1 v' ((l ++ s).map (Enc.enc (α := UInt8))).length ((l ++ s).map (Enc.enc (α := UInt8))).flatten
      rw [N4, List.length_map, List.length_append, List.map_append]
      exact j
    · obtain ⟨c, _, rfl⟩ := List.mem_map.1 a1
      rfl
  refine Hs rfl rfl hd ?_ (h v' w' (Evo.grown hg) J)
  exact CA (s := Builtin.append_ #[T, U] t #[v, S s]) rfl (by simp [hx, hy]) (fun cs => rfl) az
theorem Hy {T U E : TypeId} {x : Operand} {l : List UInt8} {ao : Option Addr} {b off cap len : Nat} (ho : o.op = .convert T U x) (J : P.underlying T = some (.slice E)) (I : P.underlying E = some (.int .u8)) (hU : P.underlying U = some .string)
    (hx : opv f x = .slice ao len cap) (hl : len = l.length) (hr : RowE w ao b off cap l) : (execOp (opv f) o).run P w = .ok (.value (S l)) w := by
  subst hl
  unfold execOp; rw [ho]; simp only []; rw [hx]
  have hc : (convert T U (.slice ao l.length cap)).run P w = .ok (S l) w := by
    cases l with
    | nil =>
      show (convert T U (.slice ao 0 cap)).run P w = .ok (S []) w
      rw [run_convert_bytes_string w T U E ao 0 cap J I hU]
      cases ao with
      | none => simp [Conv.bytesToString, S]; rfl
      | some a => simp [Conv.bytesToString, S, loadCells, loadCellsFrom]; rfl
    | cons c l =>
      obtain rfl : ao = some ⟨b, off, none⟩ := hr.2.1 (by simp)
      exact run_convert_bytes_back (P := P) w T U E ⟨b, off, none⟩ cap (c :: l) J I hU (fun j hj => by
        have := (hr.2.2 j (Enc.enc ((c :: l)[j])) (by rw [List.getElem?_map, List.getElem?_eq_getElem hj]; rfl)).2 0 (.int .u8 (((c :: l)[j]).toNat : Int)) rfl
        rw [add_lit]
        simpa [Enc.n] using this)
  simp [hc]
end
instance repList {α : Type} [Enc α] : Rep (List α) where
  n := 1
  rep w cs x := ∃ ao b off cap, cs = [.slice ao x.length cap] ∧ RowE w ao b off cap x
  len := fun ⟨_, _, _, _, h, _⟩ => by rw [h]; rfl
  evo0 := fun ⟨ao, b, off, cap, h, hr⟩ he => ⟨ao, b, off, cap, h, hr.evo0 he⟩
  pos := by decide
section
variable {P : Program} {B : Exit → Act → World → Prop} {n : Nat} {k : List Kont} {f : Fr} {w : World} {ops : Array Oper} {rest : List Oper} {o : Oper}
end
section
variable {P : Program} {f : Fr} {w : World} {o : Oper}
end
theorem cS {α : Type} (a b : List α) : [a, b].flatten = a ++ b := by simp
theorem Ol {P : Program} {f : Fr} {w : World} {o : Oper} {T U : TypeId} {k j : IntKind} {x : Operand} {a : Int} (ho : o.op = .convert T U x) (J : P.underlying T = some (.int k)) (I : P.underlying U = some (.int j)) (hx : opv f x = .int k a) :
    (execOp (opv f) o).run P w = .ok (.value (.int j (j.wrap a))) w := by
  unfold execOp; rw [ho]; simp only []; rw [hx]
  have hk : P.intKind U = j := by simp [Program.intKind, I]
  have := run_convert_int (P := P) w T U k a (by rw [J]; rfl) (by rw [hk]; exact I)
  rw [hk] at this
  simp [this]
theorem dq {α : Type} [Enc α] [Inhabited α] {w : World} {b E len : Nat} {c : Nat → List Value} (l : List α) (h : FB w b E (Enc.n α) len c) (hlen : l.length = len) (hl : len ≤ 140737488355328) (hc : ∀ i, i < len → c i = Enc.enc (l.getD i default)) : RowE w (some ⟨b, 0, none⟩) b 0 len l := by
  refine ⟨⟨by simp [hlen], by simpa [hlen] using hl⟩, fun _ => rfl, fun i cs J => ?_⟩
  have I : i < len := by
    rcases Nat.lt_or_ge i len with h1 | h1
    · exact h1
    · rw [List.getElem?_eq_none (by simp [hlen]; omega)] at J; cases J
  have e : l.getD i default = l[i]'ω := by simp [List.getD, hlen, I]
  have e2 : cs = Enc.enc (l.getD i default) := by
    rw [List.getElem?_map, List.getElem?_eq_getElem (by omega : i < l.length)] at J
    injection J with J
    rw [e, ← J]
  subst e2
  refine ⟨Enc.len _, fun j v U => ?_⟩
  have af : j < Enc.n α := by
    rcases Nat.lt_or_ge j (Enc.n α) with h1 | h1
    · exact h1
    · rw [List.getElem?_eq_none (by rw [Enc.len]; exact h1)] at U; cases U
  have := h.cell (x := i) (j := j) I af (v := v) (by rw [hc i I]; exact U)
  exact this
theorem C1 {α : Type} [Enc α] {w w' : World} {ao : Option Addr} {b off cap : Nat} {l : List α} {X : List Nat} (h : RowE w ao b off cap l) (he : Evo w w' X) (I : l ≠ [] → b ∉ X) : RowE w' ao b off cap l := by
  by_cases j : l = []
  · subst j; exact ⟨h.1, by simp, by simp⟩
  · exact h.evo he (I j)
theorem ab {P : Program} {B : Exit → Act → World → Prop} {n : Nat} {k : List Kont} {f : Fr} {w : World} {ops : Array Oper} {rest : List Oper} {d : Nat} {op : Op} {t : TypeId} {pos : String} {J : Array Edge} {j s : Nat} {b : Bool} {g : Prop} [Decidable g] {F : FuncId} {args : Array Value} {U T N : Nat} {c0 : Value} {m : Int}
    (hj : (ops[j]?).bind (·.dst) = some s) (hw : Wanted f s b g) (hd : Nat.blt d n = true) (af : g → (execOp (opv f) ⟨some d, op, t, pos, J, none⟩).run P w = .ok (.enter F args) w)
    (hc : g → Calls P F args w fun e w' => ∃ r, e = .returned (.int .i64 r) ∧ (0 ≤ r ∧ r < m) ∧ Evo w w' [U] ∧ Blk w' U T [c0, .int .i64 (N + 1 : Nat)]) (hb : Blk w U T [c0, .int .i64 (N : Nat)])
    (h : ∀ r w' N', (g → 0 ≤ r ∧ r < m) → Evo w w' [U] → N ≤ N' → N' ≤ N + 1 → Blk w' U T [c0, .int .i64 (N' : Nat)] → KL P B n ops k rest (upd f d (gv g (.int .i64 r))) w') : KL P B n ops k (⟨some d, op, t, pos, J, some (j, b)⟩ :: rest) f w := by
  by_cases I : g
  · refine H0 hj (hw.yes I) (Ft rfl rfl hd (af I) (hc I) ?_)
    rintro e w' ⟨r, h1, h2, h3, h4⟩
    refine ⟨_, h1, ?_⟩
    have h5 := h r w' (N + 1) (fun _ => h2) h3 ω (Nat.le_refl _) h4
    rw [Gf I] at h5
    exact h5
  · intro a ha
    have az := Iw ha hj hw
    unfold wpList
    rw [if_neg (by simp only [Region.wanted]; rw [az.2 I]; simp)]
    have h3 := h 0 w N (fun h => absurd h I) (Evo.refl _ _) (Nat.le_refl _) ω hb _ (ha.put hd (gv g (.int .i64 0)))
    rw [NF I] at h3
    exact h3
theorem Own.cut {w : World} {base : Nat} {E : TypeId} {m : Nat} {css : List (List Value)} {g cap : Nat} (h : Own w base E m (.slice (some ⟨g, 0, none⟩) css.length cap) css) {k : Nat} (hk : k ≤ css.length) :
    Own w base E m (.slice (some ⟨g, 0, none⟩) k cap) (css.take k) := by
  have J : (css.take k).length = k := by rw [List.length_take]; omega
  have U : ∀ (l : List (List Value)), (∀ cs ∈ l, cs.length = m) → ∀ k, k ≤ l.length → (l.take k).flatten = l.flatten.take (k * m) := fun l => by
    induction l with
    | nil => intro _ k hk; simp
    | cons c l ih =>
      intro hm k hk
      cases k with
      | zero => simp
      | succ k =>
        have I : c.length = m := hm c (by simp)
        rw [List.take_succ_cons, List.flatten_cons, List.flatten_cons, ih (fun x hx => hm x (by simp [hx])) k (by simpa using hk), List.take_append, List.take_of_length_le (l := c) (by rw [I, Nat.add_mul]; omega), I]
        congr 2
        rw [Nat.add_mul]; omega
  refine ⟨⟨?_, .inr ?_⟩, fun cs j => h.each cs (List.mem_of_mem_take j), by have := h.bd; omega⟩
  · rw [Bm _ m (fun cs j => h.each cs (List.mem_of_mem_take j))]
  · rcases h.row.2 with ⟨hv, _⟩ | ⟨g', cap', cur, hv, hb, hg, hn, I, hs, ht⟩
    · cases hv
    · simp only [Value.slice.injEq, Option.some.injEq, Addr.mk.injEq, and_true] at hv
      obtain ⟨rfl, _, rfl⟩ := hv
      refine ⟨g, cap, cur, by rw [J], hb, hg, by omega, I, hs, ?_⟩
      rw [U css h.each k hk, ← ht, List.take_take, J]
      congr 1
      exact (Nat.min_eq_left (Nat.mul_le_mul_right m hk)).symm
section
variable {α : Type} [Enc α] {w : World} {base : Nat} {E : TypeId} {v : Value} {l : List α}
theorem YD {P : Program} {B : Exit → Act → World → Prop} {n : Nat} {k : List Kont} {f : Fr} {ops : Array Oper} {rest : List Oper} {T d m bb : Nat} {z : Option Value} {t : TypeId} {pos : String} {U : Array Edge} {x hi : Operand} (j : Nat)
    (hd : Nat.blt d n = true) (hu : P.underlying T = some (.slice E)) (ht : Cy P E = some (m, bb, z)) (I : OwnE w base E v l) (hx : opv f x = v) (ag : ∃ κ, opv f hi = .int κ (j : Int)) (hj : j ≤ l.length) (au : 0 < l.length)
    (h : ∀ v', OwnE w base E v' (l.take j) → v'.ownBlock = v.ownBlock → KL P B n ops k rest (upd f d v') w) :
    KL P B n ops k (⟨some d, .slice T x none (some hi) none, t, pos, U, none⟩ :: rest) f w := by
  rcases I.form with ⟨_, h2⟩ | ⟨g, cap, rfl, h3, h4, h5, h6⟩
  · subst h2; simp at au
  · obtain ⟨κ, az⟩ := ag
    have J : ∀ o : Oper, o.op = .slice T x none (some hi) none → (execOp (opv f) o).run P w = .ok (.value (.slice (some ⟨g, 0, none⟩) j cap)) w := fun o ho => by
      rw [K1 (w := w) 0 j ho hu ht hx (.inl ⟨rfl, rfl⟩) (.inr ⟨κ, by simp [az]⟩) ω ω]
      by_cases hc : cap = 0
      · simp [hc]
      · have ba : ¬ (0 : Nat) = cap := fun e => hc e.symm
        simp [hc, Addr.add]
    refine Hs rfl rfl hd (J _ rfl) (h _ ?_ rfl)
    have h8 : Own w base E (Enc.n α) (.slice (some ⟨g, 0, none⟩) (l.map Enc.enc).length cap) (l.map Enc.enc) := by simpa [OwnE] using I
    have h7 := h8.cut (k := j) (by simpa using hj)
    unfold OwnE
    rw [List.map_take]
    exact h7
end
theorem gI {v : Value} {κ : IntKind} {a : Int} {j : Nat} (h : v = .int κ a) (e : a = (j : Int)) : ∃ κ, v = .int κ (j : Int) := ⟨κ, by rw [h, e]⟩
theorem CL {w0 w w' : World} {X Y : List Nat} (h : Evo w0 w X) (he : Evo w w' Y) (j : ∀ g ∈ Y, w0.heap.size ≤ g ∨ g ∈ X) : Evo w0 w' X := h.trans he (fun x J I => by
  rcases j x J with j | j
  · omega
  · exact j)
def Sep (v u : Value) : Prop := ∀ g, v.ownBlock = some g → ∀ h, u.ownBlock = some h → g ≠ h
theorem Sep.symm {v u : Value} (h : Sep v u) : Sep u v := fun g I j J e => h j J g I e.symm
theorem Sep.same {v j u : Value} (h : Sep v u) (e : j.ownBlock = v.ownBlock) : Sep j u := fun g I => h g (e ▸ I)
theorem Sep.grow {v j u : Value} {n m : Nat} (h : Sep v u) (hl : j.ownBlock = v.ownBlock ∨ ∃ g, j.ownBlock = some g ∧ n ≤ g) (hu : ∀ h, u.ownBlock = some h → h < m) (hm : m ≤ n) : Sep j u := fun g J I U e => by
  rcases hl with h1 | ⟨g2, h1, h2⟩
  · exact h g (h1 ▸ J) I U e
  · have h3 : g2 = g := Option.some.inj (h1.symm.trans J)
    have := hu I U
    omega
theorem Sep.grown {v j u : Value} {n m : Nat} (h : Sep v u) (I : j.ownBlock = v.ownBlock ∨ j.ownBlock = some n) (hu : ∀ h, u.ownBlock = some h → h < m) (hm : m ≤ n) : Sep j u :=
  h.grow (I.imp id fun h1 => ⟨n, h1, Nat.le_refl _⟩) hu hm
end Go.Vc
namespace Go.Vc
open Go Go.RowKit Go.IntWalk Go.Sort Go.Proofs
section
variable {α : Type} [Enc α] {w : World} {base : Nat} {E : TypeId} {v : Value} {l : List α}
theorem Nq {enc1 : α → Value} (h : ∀ x : α, Enc.enc x = [enc1 x]) : ∀ l : List α, (l.map Enc.enc).flatten = l.map enc1
  | [] => rfl
  | x :: l => by rw [List.map_cons, List.flatten_cons, h, Nq h l]; rfl
theorem OwnE.open1 {enc1 : α → Value} (I : Enc.n α = 1) (he : ∀ x : α, Enc.enc x = [enc1 x]) (h : OwnE w base E v l) : (v = .slice none 0 0 ∧ l = []) ∨ ∃ g cap cur, v = .slice (some ⟨g, 0, none⟩) l.length cap ∧ base ≤ g ∧
    w.heap[g]? = some (.cells cur E (0, 0)) ∧ l.length ≤ cap ∧ cap ≤ maxLen ∧ cur.size = cap * 1 ∧ cur.toList.take l.length = l.map enc1 := by
  have j : Own w base E (Enc.n α) v (l.map Enc.enc) := h
  have h1 := j.row
  rcases h1.2 with ⟨hv, hl⟩ | ⟨g, cap, cur, hv, hb, hg, h2, h3, h4, h5⟩
  · exact .inl ⟨hv, by simpa using hl⟩
  · rw [I] at h4 h5
    refine .inr ⟨g, cap, cur, by simpa using hv, hb, hg, by simpa using h2, h3, h4, ?_⟩
    rw [Nq he] at h5
    simpa using h5
theorem OwnE.of1 {enc1 : α → Value} (J : Enc.n α = 1) (he : ∀ x : α, Enc.enc x = [enc1 x]) (j : l.length ≤ 140737488355328) (h : w.ownsRow base E 1 v l.length (l.map enc1)) : OwnE w base E v l := by
  refine ⟨?_, fun cs I => ?_, by simpa using j⟩
  · rw [J, List.length_map, Nq he]; exact h
  · obtain ⟨x, _, rfl⟩ := List.mem_map.1 I; exact Enc.len x
end
end Go.Vc
