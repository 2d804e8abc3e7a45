/-
  Regions that draw their order and write: what is quiet in every world of a class is taken first; of the rest whatever may come up comes up. Generic over the program.
-/
import Derived.Test.YtkdgoghmkmpfnaaQui
import Derived.OrdersHeld
import Derived.Deep.RegionHeld3
namespace Go.Vc
open Go Go.RowKit Go.IntWalk

/-- which operations have come up -/
def lst (ops : Array Oper) : List Nat → Array Bool
  | [] => Array.replicate ops.size false
  | i :: d => (lst ops d).setIfInBounds i true
/-- what a marked operation waits for is marked -/
def closedB (ops : Array Oper) (l : Array Bool) : Bool := (List.range ops.size).all fun k => !(l.getD k true) || match ops[k]? with
  | some ok => ok.after.all fun e => !(Region.binds .any e) || l.getD e.on true
  | none => true
def takeB (ops : Array Oper) (d : List Nat) (i : Nat) : Bool := Region.noSelect ops && Region.free .any ops (lst ops d) i && (Region.ready .any ops (lst ops d)).contains i && closedB ops (lst ops d)
def readyB (ops : Array Oper) (d rs : List Nat) : Bool := Region.ready .any ops (lst ops d) == rs

def onB (ops : Array Oper) (k i : Nat) : Bool := match ops[k]? with
  | some ok => ok.after.any fun e => Region.binds .any e && e.on == i
  | none => false
/-- 'j' waits for 'i', itself or through others -/
def waitB (ops : Array Oper) : Nat → Nat → Nat → Bool
  | 0, j, i => onB ops j i
  | m + 1, j, i => onB ops j i || match ops[j]? with
    | some oj => oj.after.any fun e => Region.binds .any e && waitB ops m e.on i
    | none => false
/-- number 'j' waits for all others, but for those that wait for it -/
def finalB (ops : Array Oper) (j : Nat) : Bool := match ops[j]? with
  | some _ => (List.range ops.size).all fun i => i == j || waitB ops 8 j i || waitB ops 8 i j
  | none => false
theorem onB_spec {ops : Array Oper} {k i : Nat} (h : onB ops k i = true) : ∃ ok, ops[k]? = some ok ∧ ∃ e ∈ ok.after, Region.binds .any e = true ∧ e.on = i := by
  unfold onB at h
  split at h
  · rename_i ok hok
    obtain ⟨e, he, hb⟩ := Array.any_eq_true'.1 h
    simp only [Bool.and_eq_true, beq_iff_eq] at hb
    exact ⟨ok, hok, e, he, hb.1, hb.2⟩
  · cases h
theorem closedB_spec {ops : Array Oper} {l : Array Bool} (h : closedB ops l = true) {k : Nat} {ok : Oper} (hk : ops[k]? = some ok) (hm : l.getD k true = true) : ∀ e ∈ ok.after, Region.binds .any e = true → l.getD e.on true = true := by
  intro e he hb
  have hlt := (Array.getElem?_eq_some_iff.1 hk).1
  have h1 := List.all_eq_true.1 h k (List.mem_range.2 hlt)
  rw [hm, hk] at h1
  simp only [Bool.not_true, Bool.false_or] at h1
  have h2 := Array.all_eq_true_iff_forall_mem.1 h1 e he
  rw [hb] at h2
  simpa using h2
theorem closedB_mk {ops : Array Oper} {l : Array Bool} (h : ∀ k ok, ops[k]? = some ok → l.getD k true = true → ∀ e ∈ ok.after, Region.binds .any e = true → l.getD e.on true = true) : closedB ops l = true := by
  refine List.all_eq_true.2 fun k hk => ?_
  cases hm : l.getD k true with
  | false => rfl
  | true =>
    simp only [Bool.not_true, Bool.false_or]
    split
    · rename_i ok hok
      refine Array.all_eq_true_iff_forall_mem.2 fun e he => ?_
      cases hb : Region.binds .any e with
      | false => rfl
      | true => simpa using h k ok hok hm e he hb
    · rfl
theorem waitB_spec {ops : Array Oper} {l : Array Bool} (hcl : closedB ops l = true) {i : Nat} : ∀ (m j : Nat), (∀ oj, ops[j]? = some oj → ∀ e ∈ oj.after, Region.binds .any e = true → l.getD e.on true = true) → waitB ops m j i = true → l.getD i true = true
  | m, j, hall, h => by
    have hd : onB ops j i = true → l.getD i true = true := fun h1 => by
      obtain ⟨ok, hok, e, he, hb, heq⟩ := onB_spec h1
      rw [← heq]; exact hall ok hok e he hb
    cases m with
    | zero => exact hd h
    | succ m =>
      unfold waitB at h
      rw [Bool.or_eq_true] at h
      rcases h with h | h
      · exact hd h
      · split at h
        · rename_i oj hoj
          obtain ⟨e, he, hb⟩ := Array.any_eq_true'.1 h
          simp only [Bool.and_eq_true] at hb
          exact waitB_spec hcl m e.on (fun ok hok => closedB_spec hcl hok (hall oj hoj e he hb.1)) hb.2
        · cases h
theorem final_false {ops : Array Oper} {l : Array Bool} {i j : Nat} {oj : Oper} (hcl : closedB ops l = true) (hne : j ≠ i) (hi : i < ops.size) (hj : ops[j]? = some oj) (hall : ∀ e ∈ oj.after, Region.binds .any e = true → l.getD e.on true = true) (hun : l.getD i true = false)
    (hunj : l.getD j true = false) (hdi : ∀ oi, ops[i]? = some oi → ∀ e ∈ oi.after, Region.binds .any e = true → l.getD e.on true = true) : finalB ops j = false := by
  cases h : finalB ops j with
  | false => rfl
  | true =>
    unfold finalB at h
    rw [hj] at h
    have h1 := List.all_eq_true.1 h i (List.mem_range.2 hi)
    simp only [Bool.or_eq_true, beq_iff_eq] at h1
    rcases h1 with (h1 | h1) | h1
    · exact absurd h1.symm hne
    · have := waitB_spec hcl 8 j (fun ok hok => by rw [hj] at hok; injection hok with hok; subst hok; exact hall) h1
      rw [hun] at this; cases this
    · have := waitB_spec hcl 8 i hdi h1
      rw [hunj] at this; cases this

section
variable {P : Program} {ops : Array Oper} {Q : Exit → Act → World → Prop} {S : World → Prop}
/-- Whatever order is picked, and 'S' holds behind every operation but one that waits for all others. -/
def AnyF (P : Program) (ops : Array Oper) (Q : Exit → Act → World → Prop) (S : World → Prop) : Nat → Array Bool → Act → World → Prop
  | 0, l, a, w => Region.ready .any ops l = [] ∧ Q .normal a w
  | m + 1, l, a, w => (Region.ready .any ops l = [] → Q .normal a w) ∧
    ∀ i ∈ Region.ready .any ops l, wpOp P ops Q i (fun a' w' => (finalB ops i = false → S w') ∧ AnyF P ops Q S m (l.setIfInBounds i true) a' w') a w
theorem any_of_F : ∀ (m : Nat) (l : Array Bool) (a : Act) (w : World), AnyF P ops Q S m l a w → wpAny P .any ops Q m l a w
  | 0, _, _, _, h => h
  | m + 1, _, _, _, h => ⟨h.1, fun i hi => wpOp_mono (fun _ _ h2 => any_of_F m _ _ _ h2.2) (h.2 i hi)⟩
/-- what yields its value in every world of 'S' may be taken first -/
theorem AnyF_first {i : Nat} {oi : Oper} {v : Value} (hi : ops[i]? = some oi) (hsel : ∀ (j : Nat) (o : Oper) cs b, ops[j]? = some o → o.op ≠ .select cs b) (hQ : ∀ c a w, Q (.panic c) (a.put oi.dst v) w → Q (.panic c) a w) :
    ∀ (m : Nat) (l : Array Bool) (a : Act) (w : World), closedB ops l = true → (∀ j oj, ops[j]? = some oj → j ≠ i → l.getD j true = false → (∀ e ∈ oj.after, Region.binds .any e = true → e.on ≠ i) → oi.apart ops oj = true) →
      i ∈ Region.ready .any ops l → YieldsIf P ops S oi v a → S w → AnyF P ops Q S m (l.setIfInBounds i true) (a.put oi.dst v) w → AnyF P ops Q S (m + 1) l a w := by
  have hlt : i < ops.size := (Array.getElem?_eq_some_iff.1 hi).1
  intro m
  induction m with
  | zero =>
    intro l a w _ _ hr hy hS H
    refine ⟨fun h => absurd (h ▸ hr) (by simp), fun j hj => ?_⟩
    by_cases hji : j = i
    · subst hji; exact hy.wpOp hi hS ⟨fun _ => hS, H⟩
    · have h1 := ready_mono hj hji
      rw [H.1] at h1
      exact absurd h1 (by simp)
  | succ m ih =>
    intro l a w hcl hfree hr hy hS H
    refine ⟨fun h => absurd (h ▸ hr) (by simp), fun j hj => ?_⟩
    by_cases hji : j = i
    · subst hji; exact hy.wpOp hi hS ⟨fun _ => hS, H⟩
    · have h1 := H.2 j (ready_mono hj hji)
      obtain ⟨hjun, oj, hoj, hall⟩ := mem_ready.1 hj
      have h0 := (mem_ready.1 hr).1
      have hil : l.getD i false = false := by
        rcases Nat.lt_or_ge i l.size with h' | h'
        · simp [h'] at h0 ⊢; exact h0
        · simp [Array.getElem?_eq_none h'] at h0
      have hnot : ∀ e ∈ oj.after, Region.binds .any e = true → e.on ≠ i := fun e he hb heq => by
        have h3 := hall e he hb
        rw [heq, hil] at h3
        cases h3
      have hun : l.getD i true = false := by simpa using h0
      have hallT : ∀ e ∈ oj.after, Region.binds .any e = true → l.getD e.on true = true := fun e he hb => by
        have h3 := hall e he hb
        rcases Nat.lt_or_ge e.on l.size with h' | h'
        · simp [h'] at h3 ⊢; exact h3
        · simp [Array.getElem?_eq_none h']
      have hdiT : ∀ ok, ops[i]? = some ok → ∀ e ∈ ok.after, Region.binds .any e = true → l.getD e.on true = true := fun ok hok e he hb => by
        obtain ⟨_, o2, ho2, hall2⟩ := mem_ready.1 hr
        rw [hok] at ho2; injection ho2 with ho2; subst ho2
        have h3 := hall2 e he hb
        rcases Nat.lt_or_ge e.on l.size with h' | h'
        · simp [h'] at h3 ⊢; exact h3
        · simp [Array.getElem?_eq_none h']
      have hfin := final_false hcl hji hlt hoj hallT hun hjun hdiT
      have hcl2 : closedB ops (l.setIfInBounds j true) = true := closedB_mk fun k ok hok hk e he hb => by
        have hset : ∀ q, l.getD q true = true → (l.setIfInBounds j true).getD q true = true := fun q hq => by
          by_cases hjq : j = q
          · subst hjq
            rcases Nat.lt_or_ge j l.size with h' | h'
            · simp [h']
            · simp
          · rw [getD_set_ne true hjq]; exact hq
        by_cases hjk : j = k
        · subst hjk
          rw [hoj] at hok; injection hok with hok; subst hok
          exact hset _ (hallT e he hb)
        · rw [getD_set_ne true hjk] at hk
          exact hset _ (closedB_spec hcl hok hk e he hb)
      have h2 := wpOp_putIf hoj (hfree j oj hoj hji hjun hnot) (fun cs b => hsel i oi cs b hi) (fun cs b => hsel j oj cs b hoj) hQ hy h1
      refine wpOp_mono (fun a' w' h3 => ?_) h2
      have hS' := h3.2.1 hfin
      refine ⟨fun _ => hS', ih (l.setIfInBounds j true) a' w' hcl2 (fun k ok hk hki hun hno => ?_) (ready_mono hr (Ne.symm hji)) h3.1 hS' ?_⟩
      · refine hfree k ok hk hki ?_ hno
        by_cases hjk : j = k
        · subst hjk; exact hjun
        · rw [getD_set_ne true hjk] at hun; exact hun
      · rw [Array.setIfInBounds_comm _ _ hji]
        exact h3.2.2
theorem AnyF_take {i : Nat} {oi : Oper} {v : Value} {m : Nat} {l : Array Bool} {a : Act} {w : World} (hi : ops[i]? = some oi) (hs : Region.noSelect ops = true) (hf : Region.free .any ops l i = true) (hr : (Region.ready .any ops l).contains i = true) (hcl : closedB ops l = true)
    (hQ : ∀ c a w, Q (.panic c) (a.put oi.dst v) w → Q (.panic c) a w) (hy : YieldsIf P ops S oi v a) (hS : S w) (h : AnyF P ops Q S m (l.setIfInBounds i true) (a.put oi.dst v) w) : AnyF P ops Q S (m + 1) l a w :=
  AnyF_first hi (Region.noSelect_spec hs) hQ m l a w hcl (Region.free_spec hi hf) (by simpa using hr) hy hS h
theorem AnyF_all {rs : List Nat} {m : Nat} {l : Array Bool} {a : Act} {w : World} (hr : Region.ready .any ops l = rs) (hne : rs ≠ [])
    (h : ∀ i ∈ rs, wpOp P ops Q i (fun a' w' => (finalB ops i = false → S w') ∧ AnyF P ops Q S m (l.setIfInBounds i true) a' w') a w) : AnyF P ops Q S (m + 1) l a w :=
  ⟨fun h0 => absurd (hr ▸ h0) hne, hr ▸ h⟩
theorem AnyF_done {l : Array Bool} {a : Act} {w : World} (hr : Region.ready .any ops l = []) (h : Q .normal a w) : ∀ m, AnyF P ops Q S m l a w
  | 0 => ⟨hr, h⟩
  | _ + 1 => ⟨fun _ => h, by rw [hr]; simp⟩
end

section
variable {P : Program} {B : Exit → Act → World → Prop} {n : Nat} {k : List Kont} {f : Fr} {w : World} {ops : Array Oper} {S : World → Prop} {fuel : Nat} {d : List Nat}

def HQ (P : Program) (B : Exit → Act → World → Prop) (k : List Kont) : Exit → Act → World → Prop := NoPanic (Kx P B k)
def HA (P : Program) (B : Exit → Act → World → Prop) (n : Nat) (k : List Kont) (S : World → Prop) (ops : Array Oper) (fuel : Nat) (d : List Nat) (f : Fr) (w : World) : Prop :=
  ∀ a, Is n f a → AnyF P ops (HQ P B k) S fuel (lst ops d) a w
/-- operation number 'i' comes up -/
def HO (P : Program) (B : Exit → Act → World → Prop) (n : Nat) (k : List Kont) (S : World → Prop) (ops : Array Oper) (fuel : Nat) (d : List Nat) (f : Fr) (w : World) (i : Nat) : Prop :=
  ∀ a, Is n f a → wpOp P ops (HQ P B k) i (fun a' w' => (finalB ops i = false → S w') ∧ AnyF P ops (HQ P B k) S fuel (lst ops (i :: d)) a' w') a w
/-- what stands behind one operation -/
def BH (P : Program) (B : Exit → Act → World → Prop) (_n : Nat) (k : List Kont) (S : World → Prop) (ops : Array Oper) (fuel : Nat) (i : Nat) (d : List Nat) : Exit → Act → World → Prop
  | .normal, a, w => (finalB ops i = false → S w) ∧ AnyF P ops (HQ P B k) S fuel (lst ops (i :: d)) a w
  | _, _, _ => False

theorem h_region {id : Nat} {l : List Oper} (E : List Nat) (hm : P.follows .mixedOrders = true) (h : ∀ w1, Evo w w1 [] → Evo w w1 E → HA P B n k (fun w' => Evo w w' E) l.toArray l.toArray.size [] f w1) : KF P B n (.code (.region id l.toArray true) :: k) f w := by
  intro a ha
  show (Code.region id l.toArray true).wp P (Kx P B k) a w
  exact wp_region_noPanic (wp_region_any hm (any_of_F _ _ _ _ (h _ (Evo.drew _ _) (Evo.drew _ _) a ha)))
theorem h_take {i s : Nat} {oi : Oper} {v : Value} (hi : ops[i]? = some oi) (hg : oi.guard = none) (hdst : oi.dst = some s) (hd : Nat.blt s n = true) (hc : takeB ops d i = true)
    (hrun : ∀ w', S w' → (execOp (opv f) oi).run P w' = .ok (.value v) w') (hS : S w) (h : HA P B n k S ops fuel (i :: d) (upd f s v) w) : HA P B n k S ops (fuel + 1) d f w := by
  intro a ha
  simp only [takeB, Bool.and_eq_true] at hc
  refine AnyF_take (v := v) hi hc.1.1.1 hc.1.1.2 hc.1.2 hc.2 (fun _ _ _ h => (h : False).elim) (.inl ⟨by simp [Region.wanted, hg], fun w' hw' => ?_⟩) hS ?_
  · rw [ha.eval]; exact hrun w' hw'
  · rw [hdst]; exact h _ (ha.put hd v)
theorem h_all (rs : List Nat) (hr : readyB ops d rs = true) (hne : rs ≠ []) (h : ∀ i ∈ rs, HO P B n k S ops fuel d f w i) : HA P B n k S ops (fuel + 1) d f w := by
  intro a ha
  exact AnyF_all (by simpa [readyB] using hr) hne (fun i hi => h i hi a ha)
theorem h_one {i : Nat} (hr : readyB ops d [i] = true) (h : HO P B n k S ops fuel d f w i) : HA P B n k S ops (fuel + 1) d f w :=
  h_all [i] hr (by simp) (by intro j hj; simp at hj; subst hj; exact h)
theorem h_two {i j : Nat} (hr : readyB ops d [i, j] = true) (h : HO P B n k S ops fuel d f w i) (h2 : HO P B n k S ops fuel d f w j) : HA P B n k S ops (fuel + 1) d f w :=
  h_all [i, j] hr (by simp) (by intro q hq; simp at hq; rcases hq with rfl | rfl <;> assumption)
theorem h_done (hr : readyB ops d [] = true) (h : KF P B n k f w) : HA P B n k S ops fuel d f w := by
  intro a ha
  exact AnyF_done (by simpa [readyB] using hr) (NoPanic.normal (h a ha)) fuel
theorem h_do {i : Nat} {oi : Oper} (hi : ops[i]? = some oi) (h : KL P (BH P B n k S ops fuel i d) n ops [] [oi] f w) : HO P B n k S ops fuel d f w i := by
  intro a ha
  have h1 := h a ha
  unfold wpOp
  simp only [hi]
  unfold wpList at h1
  split
  · rename_i hw
    rw [if_pos hw] at h1
    rcases h1 with h1 | ⟨_, _, _, h2⟩
    · refine .inl ?_
      unfold Oper.wp at h1 ⊢
      generalize (execOp a.eval oi).run P w = r at h1 ⊢
      cases r with
      | ok nx w' =>
        cases nx <;> simp only [Oper.upon] at h1 ⊢ <;>
          first
            | exact h1
            | exact Calls.mono h1 (fun e w'' he => by cases e <;> first | exact he | exact (he : False).elim | (obtain ⟨_, _, h2⟩ := he; exact (h2 : False).elim))
            | exact Rows.mono h1 (fun _ _ he => he)
      | halt x w' => cases x <;> simp only [Oper.upon] at h1 ⊢ <;> first | exact (h1 : False).elim | exact h1
    · exact (h2 : False).elim
  · rename_i hw
    rw [if_neg hw] at h1
    exact h1
theorem h_next {i : Nat} (hS : S w) (h : HA P B n k S ops fuel (i :: d) f w) : KL P (BH P B n k S ops fuel i d) n ops [] [] f w := fun a ha => ⟨fun _ => hS, h a ha⟩
theorem h_last {i : Nat} (hf : finalB ops i = true) (h : HA P B n k S ops fuel (i :: d) f w) : KL P (BH P B n k S ops fuel i d) n ops [] [] f w := fun a ha => ⟨fun hn => Bool.noConfusion (hf.symm.trans hn), h a ha⟩
end
end Go.Vc
