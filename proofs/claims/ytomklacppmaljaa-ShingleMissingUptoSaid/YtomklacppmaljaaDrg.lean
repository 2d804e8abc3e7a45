/-
  Regions that draw their order and write: one relation that holds whatever has come up, and that every operation keeps. Generic over the program.
-/
import Derived.Test.YtomklacppmaljaaDrc
namespace Go.Vc
open Go Go.RowKit Go.IntWalk
def ordB (ops : Array Oper) : Bool := (List.range ops.size).all fun i => match ops[i]? with
  | some o => o.after.all fun e => !(Region.binds .any e) || Nat.blt e.on i
  | none => true
def BI (n : Nat) (I : Array Bool → Fr → World → Prop) (l : Array Bool) : Exit → Act → World → Prop
  | .normal, a, w => ∃ f, Is n f a ∧ I l f w
  | _, _, _ => False
section
variable {P : Program} {B : Exit → Act → World → Prop} {n : Nat} {k : List Kont} {ops : Array Oper} {I : Array Bool → Fr → World → Prop}
theorem rg_do {f : Fr} {w : World} {i : Nat} {oi : Oper} {l : Array Bool} (hi : ops[i]? = some oi) (h : KL P (BI n I l) n ops [] [oi] f w) : ∀ a, Is n f a → wpOp P ops (HQ P B k) i (fun a' w' => BI n I l .normal a' w') a w := by
  intro a ha
  have h1 := h a ha
  unfold wpOp
  simp only [hi]
  unfold wpList at h1
  split
  · rename_i hw
    rw [if_pos hw] at h1
    rcases h1 with h1 | ⟨_, _, _, h2⟩
    · refine .inl ?_
      unfold Oper.wp at h1 ⊢
      generalize (execOp a.eval oi).run P w = r at h1 ⊢
      cases r with
      | ok nx w' =>
        cases nx <;> simp only [Oper.upon] at h1 ⊢ <;>
          first
            | exact h1
            | exact Calls.mono h1 (fun e w'' he => by cases e <;> first | exact he | exact (he : False).elim | (obtain ⟨_, _, h2⟩ := he; exact (h2 : False).elim))
            | exact Rows.mono h1 (fun _ _ he => he)
      | halt x w' => cases x <;> simp only [Oper.upon] at h1 ⊢ <;> first | exact (h1 : False).elim | exact h1
    · exact (h2 : False).elim
  · rename_i hw
    rw [if_neg hw] at h1
    exact h1
theorem all_true {l : Array Bool} {m : Nat} (hs : l.size = m) (h : ∀ i, i < m → l.getD i true = true) : l = Array.replicate m true := by
  refine Array.ext (by simp [hs]) fun i h1 h2 => ?_
  have := h i (by omega)
  simp only [Array.getElem_replicate]
  rw [← this]
  simp [h1]
theorem rg_none {l : Array Bool} (hord : ordB ops = true) (hs : l.size = ops.size) (hr : Region.ready .any ops l = []) : ∀ i, i < ops.size → l.getD i true = true := by
  intro i
  induction i using Nat.strongRecOn with
  | _ i ih =>
    intro hi
    cases hu : l.getD i true with
    | true => rfl
    | false =>
      have h1 := List.all_eq_true.1 hord i (List.mem_range.2 hi)
      rw [Array.getElem?_eq_getElem hi] at h1
      have h2 := Array.all_eq_true_iff_forall_mem.1 h1
      have : i ∈ Region.ready .any ops l := mem_ready.2 ⟨by first | exact hu | simpa using hu, ops[i], Array.getElem?_eq_getElem hi, fun e he hb => by
        have h3 := h2 e he
        rw [hb] at h3
        simp only [Bool.not_true, Bool.false_or] at h3
        have h4 : e.on < i := by simpa using h3
        have h5 := ih e.on h4 (by omega)
        have h6 : e.on < l.size := by omega
        simp [h6] at h5 ⊢; exact h5⟩
      rw [hr] at this
      cases this
theorem rg_any (hord : ordB ops = true) (hstep : ∀ i oi, ops[i]? = some oi → ∀ l f w, l.getD i true = false → (∀ e ∈ oi.after, Region.binds .any e = true → l.getD e.on false = true) → I l f w → KL P (BI n I (l.setIfInBounds i true)) n ops [] [oi] f w)
    (hend : ∀ f w, I (Array.replicate ops.size true) f w → KF P B n k f w) :
    ∀ (m : Nat) (l : Array Bool) (a : Act) (w : World) (f : Fr), l.size = ops.size → Is n f a → I l f w → l.toList.count false ≤ m → wpAny P .any ops (HQ P B k) m l a w
  | 0, l, a, w, f, hs, ha, hI, hc => by
    have hall : ∀ i, i < ops.size → l.getD i true = true := fun i hi => by
      have h0 : l.toList.count false = 0 := by omega
      rw [List.count_eq_zero] at h0
      have h1 : i < l.size := by omega
      cases h2 : l[i] with
      | true => simp [h1, h2]
      | false => exact absurd (by rw [← h2]; exact Array.getElem_mem_toList h1) h0
    have hl := all_true hs hall
    refine ⟨List.eq_nil_iff_forall_not_mem.2 fun i hi => ?_, ?_⟩
    · obtain ⟨h1, oi, h2, _⟩ := mem_ready.1 hi
      have h3 : i < ops.size := (Array.getElem?_eq_some_iff.1 h2).1
      rw [hall i h3] at h1
      cases h1
    · rw [hl] at hI
      exact NoPanic.normal (hend f w hI a ha)
  | m + 1, l, a, w, f, hs, ha, hI, hc => by
    refine ⟨fun hr => ?_, fun i hi => ?_⟩
    · have hl := all_true hs (rg_none hord hs hr)
      rw [hl] at hI
      exact NoPanic.normal (hend f w hI a ha)
    · obtain ⟨h1, oi, h2, h3⟩ := mem_ready.1 hi
      have h4 := rg_do (B := B) (k := k) h2 (hstep i oi h2 l f w (by first | exact h1 | simpa using h1) h3 hI) a ha
      refine wpOp_mono (fun a' w' h5 => ?_) h4
      obtain ⟨f', ha', hI'⟩ := h5
      have h6 : i < ops.size := (Array.getElem?_eq_some_iff.1 h2).1
      have h7 : i < l.toList.length := by simp; omega
      refine rg_any hord hstep hend m _ a' w' f' (by simp [hs]) ha' hI' ?_
      rw [Array.toList_setIfInBounds, List.count_set h7]
      have h8 : l.toList[i] = false := by
        have h9 : i < l.size := by omega
        simp [h9] at h1
        simpa using h1
      have h10 : 0 < l.toList.count false := List.count_pos_iff.2 (h8 ▸ List.getElem_mem h7)
      simp [h8]
      simp at hc h10
      omega
theorem h_rg {id : Nat} {f : Fr} {w : World} {ol : List Oper} (I : Array Bool → Fr → World → Prop) (hm : P.follows .mixedOrders = true) (hord : ordB ol.toArray = true)
    (h0 : ∀ w1, Evo w w1 [] → I (Array.replicate ol.toArray.size false) f w1)
    (hend : ∀ f w, I (Array.replicate ol.toArray.size true) f w → KF P B n k f w)
    (hstep : ∀ i oi, ol.toArray[i]? = some oi → ∀ l f w, l.getD i true = false → (∀ e ∈ oi.after, Region.binds .any e = true → l.getD e.on false = true) → I l f w → KL P (BI n I (l.setIfInBounds i true)) n ol.toArray [] [oi] f w) :
    KF P B n (.code (.region id ol.toArray true) :: k) f w := by
  intro a ha
  show (Code.region id ol.toArray true).wp P (Kx P B k) a w
  refine wp_region_noPanic (wp_region_any hm (rg_any hord hstep hend _ _ a _ f (by simp) ha (h0 _ (Evo.drew _ _)) ?_))
  simp [List.count_replicate]
/-- the steps, one operation after another -/
def Steps (P : Program) (n : Nat) (I : Array Bool → Fr → World → Prop) (ops : Array Oper) : Nat → List Oper → Prop
  | _, [] => True
  | i, o :: r => (∀ l f w, l.getD i true = false → (∀ e ∈ o.after, Region.binds .any e = true → l.getD e.on false = true) → I l f w → KL P (BI n I (l.setIfInBounds i true)) n ops [] [o] f w) ∧ Steps P n I ops (i + 1) r
theorem Steps.get {ops : Array Oper} : ∀ {r : List Oper} {i : Nat}, Steps P n I ops i r → ∀ j o, r[j]? = some o → ∀ l f w, l.getD (i + j) true = false → (∀ e ∈ o.after, Region.binds .any e = true → l.getD e.on false = true) → I l f w → KL P (BI n I (l.setIfInBounds (i + j) true)) n ops [] [o] f w
  | [], _, _, j, o, hj => by simp at hj
  | a :: r, i, h, 0, o, hj => by
    simp at hj; subst hj
    exact h.1
  | a :: r, i, h, j + 1, o, hj => by
    have := Steps.get h.2 j o (by simpa using hj)
    rw [show i + (j + 1) = i + 1 + j by omega]
    exact this
theorem rg_end {f : Fr} {w : World} {l : Array Bool} (h : I l f w) : KL P (BI n I l) n ops [] [] f w := fun _ ha => ⟨f, ha, h⟩
theorem h_rgs {id : Nat} {f : Fr} {w : World} {ol : List Oper} (I : Array Bool → Fr → World → Prop) (hm : P.follows .mixedOrders = true) (hord : ordB ol.toArray = true)
    (h0 : ∀ w1, Evo w w1 [] → I (Array.replicate ol.toArray.size false) f w1)
    (hend : ∀ f w, I (Array.replicate ol.toArray.size true) f w → KF P B n k f w)
    (hstep : Steps P n I ol.toArray 0 ol) : KF P B n (.code (.region id ol.toArray true) :: k) f w :=
  h_rg I hm hord h0 hend fun i oi hi l f w h1 h2 h3 => by
    have := hstep.get i oi (by simpa using hi) l f w (by simpa using h1) h2 h3
    simpa using this
/-- the same over frames: the slots of 'M' change, the others stand as they stood -/
theorem h_rgm {id : Nat} {f : Fr} {w : World} {ol : List Oper} (M : List Nat) (I : Array Bool → Fr → World → Prop) (hm : P.follows .mixedOrders = true) (hord : ordB ol.toArray = true)
    (h0 : ∀ w1, Evo w w1 [] → I (Array.replicate ol.toArray.size false) f w1)
    (hend : ∀ g w, I (Array.replicate ol.toArray.size true) g w → KF P B n k (merge M f g) w)
    (hstep : Steps P n (fun l g w => I l g w ∧ Agree M f g) ol.toArray 0 ol) : KF P B n (.code (.region id ol.toArray true) :: k) f w :=
  h_rgs (fun l g w => I l g w ∧ Agree M f g) hm hord (fun w1 he => ⟨h0 w1 he, Agree.refl _ _⟩) (fun g w ⟨h1, h2⟩ => by have := hend g w h1; rwa [merge_of h2] at this) hstep
theorem rg_step {f g : Fr} {M : List Nat} {ops : Array Oper} {w : World} {l : List Oper} {B' : Exit → Act → World → Prop} (hA : Agree M f g) (h : KL P B' n ops [] l (merge M f g) w) : KL P B' n ops [] l g w := by rwa [merge_of hA] at h
end
section
variable {P : Program} {B : Exit → Act → World → Prop} {n : Nat} {k : List Kont} {f : Fr} {w : World} {ops : Array Oper} {S : World → Prop} {fuel : Nat} {d : List Nat}
/-- a quiet operation whose guard holds is taken first -/
theorem h_takeY {i s j sj : Nat} {b : Bool} {g : Prop} [Decidable g] {oi : Oper} {v : Value} (hi : ops[i]? = some oi) (hgd : oi.guard = some (j, b)) (hj : (ops[j]?).bind (·.dst) = some sj) (hw : Wanted f sj b g) (hg : g) (hdst : oi.dst = some s) (hd : Nat.blt s n = true) (hc : takeB ops d i = true)
    (hrun : ∀ w', S w' → (execOp (opv f) oi).run P w' = .ok (.value v) w') (hS : S w) (h : HA P B n k S ops fuel (i :: d) (upd f s v) w) : HA P B n k S ops (fuel + 1) d f w := by
  intro a ha
  simp only [takeB, Bool.and_eq_true] at hc
  have hwa := (wanted_of ha hj hw).1 hg
  refine AnyF_take (v := v) hi hc.1.1.1 hc.1.1.2 hc.1.2 hc.2 (fun _ _ _ h => (h : False).elim) (.inl ⟨by simp only [Region.wanted, hgd]; exact hwa, fun w' hw' => ?_⟩) hS ?_
  · rw [ha.eval]; exact hrun w' hw'
  · rw [hdst]; exact h _ (ha.put hd v)
end
def depB (o : Oper) (j : Nat) : Bool := o.after.any fun e => Region.binds .any e && Nat.beq e.on j
theorem dep_of {o : Oper} {l : Array Bool} (hd : ∀ e ∈ o.after, Region.binds .any e = true → l.getD e.on false = true) (j : Nat) (h : depB o j = true) : l.getD j false = true := by
  obtain ⟨e, he, hb⟩ := Array.any_eq_true'.1 h
  simp only [Bool.and_eq_true] at hb
  have := hd e he hb.1
  have h2 : e.on = j := by simpa using hb.2
  rwa [h2] at this
theorem un_false {l : Array Bool} {i : Nat} (h : l.getD i true = false) : l.getD i false = false ∧ i < l.size := by
  rcases Nat.lt_or_ge i l.size with h1 | h1
  · simp [h1] at h ⊢; exact h
  · simp [Array.getElem?_eq_none h1] at h
theorem set_ne {l : Array Bool} {i j : Nat} (h : j ≠ i) : (l.setIfInBounds i true).getD j false = l.getD j false := by
  simp [Array.getElem?_setIfInBounds, Ne.symm h]
theorem set_eq {l : Array Bool} {i : Nat} (h : i < l.size) : (l.setIfInBounds i true).getD i false = true := by
  simp [h]
theorem same_merge {M : List Nat} {f g : Fr} : ∀ q, elemN q M = true → merge M f g q = g q := fun q h => by simp only [merge, h, cond_true]
theorem same_know {M : List Nat} {f g : Fr} {i : Nat} {v : Value} (h : ∀ q, elemN q M = true → f q = g q) (hv : g i = v) : ∀ q, elemN q M = true → upd f i v q = g q := fun q hq => by
  by_cases e : q = i
  · subst e; rw [upd_same, hv]
  · rw [upd_ne _ _ _ _ e]; exact h q hq
theorem same_put {M : List Nat} {f g : Fr} {d : Nat} {v : Value} (h : ∀ q, elemN q M = true → f q = g q) : ∀ q, elemN q M = true → q ≠ d → upd f d v q = g q := fun q hq hne => by rw [upd_ne _ _ _ _ hne]; exact h q hq
end Go.Vc
