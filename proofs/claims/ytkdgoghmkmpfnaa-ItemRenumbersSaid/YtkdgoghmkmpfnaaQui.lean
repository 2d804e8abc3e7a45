/-
  Regions that draw their order and whose operations only read, or call what leaves the worlds of a class: one walk in the order of the text. Guarded calls. Generic over the program.
-/
import Derived.Test.YtkdgoghmkmpfnaaOwn
import Derived.Deep.Quiet
namespace Go.Vc
open Go Go.RowKit Go.IntWalk

section
variable {P : Program} {B : Exit → Act → World → Prop} {n : Nat} {k : List Kont} {f : Fr} {w : World} {ops : Array Oper} {rest : List Oper} {C : World → Prop} {Q : Fr → Prop}

def KQ (P : Program) (n : Nat) (C : World → Prop) (Q : Fr → Prop) (ops : Array Oper) (l : List Oper) (f : Fr) : Prop :=
  ∀ a, Is n f a → wpQuiet P ops C (fun a' => ∃ f', Is n f' a' ∧ Q f') l a

theorem r_qregion {id : Nat} {l : List Oper} (hm : P.follows .mixedOrders = true) (hB : Region.lexB .any l.toArray = true)
    (h : KQ P n (fun w' => Evo w w' []) (fun f' => ∀ w', Evo w w' [] → KF P B n k f' w') l.toArray l f) : KF P B n (.code (.region id l.toArray true) :: k) f w := by
  intro a ha
  show (Code.region id l.toArray true).wp P (Kx P B k) a w
  refine wp_region_quiet (C := fun w' => Evo w w' []) hm hB (Evo.drew w []) ?_
  have := h a ha
  have mono : ∀ (l : List Oper) (a : Act) (Q1 Q2 : Act → Prop), (∀ a, Q1 a → Q2 a) → wpQuiet P l.toArray (fun w' => Evo w w' []) Q1 l a → wpQuiet P l.toArray (fun w' => Evo w w' []) Q2 l a := by
    intro l a Q1 Q2 h12
    have gen : ∀ (m : List Oper) (os : Array Oper) (a : Act), wpQuiet P os (fun w' => Evo w w' []) Q1 m a → wpQuiet P os (fun w' => Evo w w' []) Q2 m a := by
      intro m os
      induction m with
      | nil => exact fun a h => h12 a h
      | cons o m ih =>
        intro a h
        unfold wpQuiet at h ⊢
        split
        · rename_i hw; rw [if_pos hw] at h; exact Oper.quiet_mono ih h
        · rename_i hw; rw [if_neg hw] at h; exact ih _ h
    exact gen l l.toArray a
  simpa using mono l a _ _ (fun a' ⟨f', h1, h2⟩ w' hw' => h2 w' hw' a' h1) this
theorem q_nil (h : Q f) : KQ P n C Q ops [] f := fun _ ha => ⟨f, ha, h⟩
theorem q_op {o : Oper} {d : Nat} {v : Value} (hg : o.guard = none) (hdst : o.dst = some d) (hd : Nat.blt d n = true) (hrun : ∀ w', C w' → (execOp (opv f) o).run P w' = .ok (.value v) w')
    (h : KQ P n C Q ops rest (upd f d v)) : KQ P n C Q ops (o :: rest) f := by
  intro a ha
  refine wpQuiet_step fun K hK => ?_
  rw [if_pos (by simp [Region.wanted, hg])]
  refine ⟨v, fun w' hw' => ?_, hK _ (h _ (by rw [hdst]; exact ha.put hd v))⟩
  unfold Oper.quietAt
  rw [ha.eval, hrun w' hw']
  exact ⟨rfl, rfl⟩
theorem q_call {o : Oper} {d : Nat} {v : Value} {g : FuncId} {args : Array Value} (hg : o.guard = none) (hdst : o.dst = some d) (hd : Nat.blt d n = true) (hrun : ∀ w', C w' → (execOp (opv f) o).run P w' = .ok (.enter g args) w')
    (hc : ∀ w', C w' → Calls P g args w' fun e w'' => e = .returned v ∧ C w'')
    (h : KQ P n C Q ops rest (upd f d v)) : KQ P n C Q ops (o :: rest) f := by
  intro a ha
  refine wpQuiet_step fun K hK => ?_
  rw [if_pos (by simp [Region.wanted, hg])]
  refine ⟨v, fun w' hw' => ?_, hK _ (h _ (by rw [hdst]; exact ha.put hd v))⟩
  unfold Oper.quietAt
  rw [ha.eval, hrun w' hw']
  exact ⟨rfl, hc w' hw'⟩
theorem wanted_of {a : Act} (ha : Is n f a) {j s : Nat} {b : Bool} {g : Prop} (hj : (ops[j]?).bind (·.dst) = some s) (hw : Wanted f s b g) : (g → (yielded ops a.tmps j == some b) = true) ∧ (¬ g → (yielded ops a.tmps j == some b) = false) := by
  refine ⟨fun hg => ?_, fun hg => ?_⟩
  · rw [yielded_is ha hj (hw.yes hg)]; simp
  · have h1 := ha.get s
    have h2 := hw.no hg
    rw [← h1, Array.getD_eq_getD_getElem?] at h2
    unfold yielded
    rw [hj]
    simp only [Option.bind_some]
    cases h3 : a.tmps[s]? with
    | none => rfl
    | some u =>
      rw [h3] at h2
      simp at h2
      cases u <;> simp_all
      rename_i b'
      intro e
      exact h2 (by rw [← h1, e])
theorem q_g {d : Nat} {op : Op} {t : TypeId} {pos : String} {aft : Array Edge} {j s : Nat} {b : Bool} {g : Prop} [Decidable g] {v : Value} (hj : (ops[j]?).bind (·.dst) = some s) (hw : Wanted f s b g)
    (hd : Nat.blt d n = true) (hrun : g → ∀ w', C w' → (execOp (opv f) ⟨some d, op, t, pos, aft, none⟩).run P w' = .ok (.value v) w')
    (h : KQ P n C Q ops rest (upd f d (gv g v))) : KQ P n C Q ops (⟨some d, op, t, pos, aft, some (j, b)⟩ :: rest) f := by
  intro a ha
  refine wpQuiet_step fun K hK => ?_
  have hwa := wanted_of ha hj hw
  by_cases hg : g
  · rw [if_pos (by simp only [Region.wanted]; exact hwa.1 hg)]
    rw [gv_yes hg] at h
    refine ⟨v, fun w' hw' => ?_, hK _ (h _ (ha.put hd v))⟩
    unfold Oper.quietAt
    have := hrun hg w' hw'
    rw [ha.eval]
    have e : execOp (opv f) ⟨some d, op, t, pos, aft, some (j, b)⟩ = execOp (opv f) ⟨some d, op, t, pos, aft, none⟩ := rfl
    rw [e, this]
    exact ⟨rfl, rfl⟩
  · rw [if_neg (by simp only [Region.wanted]; rw [hwa.2 hg]; simp)]
    rw [gv_no hg] at h
    exact hK _ (h _ (ha.put hd _))
theorem q_gcall {d : Nat} {op : Op} {t : TypeId} {pos : String} {aft : Array Edge} {j s : Nat} {b : Bool} {g : Prop} [Decidable g] {v : Value} {F : FuncId} {args : Array Value} (hj : (ops[j]?).bind (·.dst) = some s) (hw : Wanted f s b g)
    (hd : Nat.blt d n = true) (hrun : g → ∀ w', C w' → (execOp (opv f) ⟨some d, op, t, pos, aft, none⟩).run P w' = .ok (.enter F args) w')
    (hc : g → ∀ w', C w' → Calls P F args w' fun e w'' => e = .returned v ∧ C w'')
    (h : KQ P n C Q ops rest (upd f d (gv g v))) : KQ P n C Q ops (⟨some d, op, t, pos, aft, some (j, b)⟩ :: rest) f := by
  intro a ha
  refine wpQuiet_step fun K hK => ?_
  have hwa := wanted_of ha hj hw
  by_cases hg : g
  · rw [if_pos (by simp only [Region.wanted]; exact hwa.1 hg)]
    rw [gv_yes hg] at h
    refine ⟨v, fun w' hw' => ?_, hK _ (h _ (ha.put hd v))⟩
    unfold Oper.quietAt
    have := hrun hg w' hw'
    rw [ha.eval]
    have e : execOp (opv f) ⟨some d, op, t, pos, aft, some (j, b)⟩ = execOp (opv f) ⟨some d, op, t, pos, aft, none⟩ := rfl
    rw [e, this]
    exact ⟨rfl, hc hg w' hw'⟩
  · rw [if_neg (by simp only [Region.wanted]; rw [hwa.2 hg]; simp)]
    rw [gv_no hg] at h
    exact hK _ (h _ (ha.put hd _))
/-- a guarded call, the order fixed -/
theorem r_gcall {d : Nat} {op : Op} {t : TypeId} {pos : String} {aft : Array Edge} {j s : Nat} {b : Bool} {g : Prop} [Decidable g] {v : Value} {F : FuncId} {args : Array Value} (hj : (ops[j]?).bind (·.dst) = some s) (hw : Wanted f s b g)
    (hd : Nat.blt d n = true) (hrun : g → (execOp (opv f) ⟨some d, op, t, pos, aft, none⟩).run P w = .ok (.enter F args) w)
    (hc : g → Calls P F args w fun e w' => e = .returned v ∧ Evo w w' [])
    (h : ∀ w', Evo w w' [] → KL P B n ops k rest (upd f d (gv g v)) w') : KL P B n ops k (⟨some d, op, t, pos, aft, some (j, b)⟩ :: rest) f w := by
  intro a ha
  have hwa := wanted_of ha hj hw
  by_cases hg : g
  · unfold wpList
    rw [if_pos (by simp only [Region.wanted]; exact hwa.1 hg)]
    refine .inl ?_
    unfold Oper.wp
    have e : execOp (opv f) ⟨some d, op, t, pos, aft, some (j, b)⟩ = execOp (opv f) ⟨some d, op, t, pos, aft, none⟩ := rfl
    rw [ha.eval, e, hrun hg]
    simp only [Oper.upon]
    refine (hc hg).mono fun e w' ⟨h1, h2⟩ => ?_
    subst h1
    have h3 := h w' h2 _ (ha.put hd (gv g v))
    rw [gv_yes hg] at h3
    exact h3
  · unfold wpList
    rw [if_neg (by simp only [Region.wanted]; rw [hwa.2 hg]; simp)]
    have h3 := h w (Evo.refl _ _) _ (ha.put hd (gv g v))
    rw [gv_no hg] at h3
    exact h3
theorem r_gop {d : Nat} {op : Op} {t : TypeId} {pos : String} {aft : Array Edge} {j s : Nat} {b : Bool} {g : Prop} [Decidable g] {v : Value} (hj : (ops[j]?).bind (·.dst) = some s) (hw : Wanted f s b g)
    (hd : Nat.blt d n = true) (hrun : g → (execOp (opv f) ⟨some d, op, t, pos, aft, none⟩).run P w = .ok (.value v) w)
    (h : KL P B n ops k rest (upd f d (gv g v)) w) : KL P B n ops k (⟨some d, op, t, pos, aft, some (j, b)⟩ :: rest) f w := r_g hj hw hd hrun h
end
end Go.Vc
