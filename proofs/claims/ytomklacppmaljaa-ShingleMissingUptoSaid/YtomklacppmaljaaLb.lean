/-
  Regions that draw their order and write: what is quiet in every world of a class is taken first; of the rest whatever may come up comes up. Generic over the program.
  Regions that draw their order and write: three, four or five ways at once. Generic over the program.
  Blocks of our own, read as functions: what 'make' makes, tables. Generic over the program.
  '==' between arrays of two integers, and between structs of scalars. Generic over the program.
  Arrays: elements of a variable, elements of a value, a result in a cell. Generic over the program.
  Our own slices of values with memory behind them; stores into elements of our own slices. Generic over the program.
  Our own slices of values with memory behind them: what may be written grows, and a store into a side. Generic over the program.
  Functions without a body in Go (the search for a byte in a string), and bytes: slices of bytes, conversions. Generic over the program.
  Arguments as they are handed in: slices read as rows. Generic over the program.
  '==' and '!=' between structs of integers, however they are nested. Generic over the program.
  Arguments as they are handed in: elements whose cells are integers, however they are nested. Generic over the program.
  '==' and '!=' between items (an integer, a string, an integer); a choice whose second half is a truth. Generic over the program.
  Slices of bytes: what a string is appended to, bytes as a string; slices of slices; room that is asked for ahead. Generic over the program.
  Integers of another kind; bytes that were made. Generic over the program.
  A guarded call that takes the next number. Generic over the program.
  Arguments as they are handed in: strings, items. Generic over the program.
  A slice of our own, cut at its end. Generic over the program.
  The library's contracts (slices.Delete, slices.Sort) at slices of our own. Generic over the program.
-/
import Derived.Test.YtomklacppmaljaaLa
import Derived.OrdersHeld
import Derived.Deep.RegionHeld3
import Derived.Laws.MakeOwn
import Derived.Lib.Bytealg
import Derived.Laws.Externs
import Derived.Deep.Slices
import Derived.SizedLaws
import Derived.ProofKit
import Derived.Lib.AppendStr
import Derived.Lib.AppendZeros
import Derived.Laws.IdiomStrings
import Derived.Laws.Bits64
import Derived.Sort.OwnSorted
import Derived.Sort.OwnSortedInts
namespace Go.Vc
open Go Go.RowKit Go.IntWalk

/-- which operations have come up -/
def lst (ops : Array Oper) : List Nat → Array Bool
  | [] => Array.replicate ops.size false
  | i :: d => (lst ops d).setIfInBounds i true
/-- what a marked operation waits for is marked -/
def closedB (ops : Array Oper) (l : Array Bool) : Bool := (List.range ops.size).all fun k => !(l.getD k true) || match ops[k]? with
  | some ok => ok.after.all fun e => !(Region.binds .any e) || l.getD e.on true
  | none => true
def takeB (ops : Array Oper) (d : List Nat) (i : Nat) : Bool := Region.noSelect ops && Region.free .any ops (lst ops d) i && (Region.ready .any ops (lst ops d)).contains i && closedB ops (lst ops d)
def readyB (ops : Array Oper) (d rs : List Nat) : Bool := Region.ready .any ops (lst ops d) == rs

def onB (ops : Array Oper) (k i : Nat) : Bool := match ops[k]? with
  | some ok => ok.after.any fun e => Region.binds .any e && e.on == i
  | none => false
/-- 'j' waits for 'i', itself or through others -/
def waitB (ops : Array Oper) : Nat → Nat → Nat → Bool
  | 0, j, i => onB ops j i
  | m + 1, j, i => onB ops j i || match ops[j]? with
    | some oj => oj.after.any fun e => Region.binds .any e && waitB ops m e.on i
    | none => false
/-- number 'j' waits for all others, but for those that wait for it -/
def finalB (ops : Array Oper) (j : Nat) : Bool := match ops[j]? with
  | some _ => (List.range ops.size).all fun i => i == j || waitB ops 8 j i || waitB ops 8 i j
  | none => false
theorem onB_spec {ops : Array Oper} {k i : Nat} (h : onB ops k i = true) : ∃ ok, ops[k]? = some ok ∧ ∃ e ∈ ok.after, Region.binds .any e = true ∧ e.on = i := by
  unfold onB at h
  split at h
  · rename_i ok hok
    obtain ⟨e, he, hb⟩ := Array.any_eq_true'.1 h
    simp only [Bool.and_eq_true, beq_iff_eq] at hb
    exact ⟨ok, hok, e, he, hb.1, hb.2⟩
  · cases h
theorem closedB_spec {ops : Array Oper} {l : Array Bool} (h : closedB ops l = true) {k : Nat} {ok : Oper} (hk : ops[k]? = some ok) (hm : l.getD k true = true) : ∀ e ∈ ok.after, Region.binds .any e = true → l.getD e.on true = true := by
  intro e he hb
  have hlt := (Array.getElem?_eq_some_iff.1 hk).1
  have h1 := List.all_eq_true.1 h k (List.mem_range.2 hlt)
  rw [hm, hk] at h1
  simp only [Bool.not_true, Bool.false_or] at h1
  have h2 := Array.all_eq_true_iff_forall_mem.1 h1 e he
  rw [hb] at h2
  simpa using h2
theorem closedB_mk {ops : Array Oper} {l : Array Bool} (h : ∀ k ok, ops[k]? = some ok → l.getD k true = true → ∀ e ∈ ok.after, Region.binds .any e = true → l.getD e.on true = true) : closedB ops l = true := by
  refine List.all_eq_true.2 fun k hk => ?_
  cases hm : l.getD k true with
  | false => rfl
  | true =>
    simp only [Bool.not_true, Bool.false_or]
    split
    · rename_i ok hok
      refine Array.all_eq_true_iff_forall_mem.2 fun e he => ?_
      cases hb : Region.binds .any e with
      | false => rfl
      | true => simpa using h k ok hok hm e he hb
    · rfl
theorem waitB_spec {ops : Array Oper} {l : Array Bool} (hcl : closedB ops l = true) {i : Nat} : ∀ (m j : Nat), (∀ oj, ops[j]? = some oj → ∀ e ∈ oj.after, Region.binds .any e = true → l.getD e.on true = true) → waitB ops m j i = true → l.getD i true = true
  | m, j, hall, h => by
    have hd : onB ops j i = true → l.getD i true = true := fun h1 => by
      obtain ⟨ok, hok, e, he, hb, heq⟩ := onB_spec h1
      rw [← heq]; exact hall ok hok e he hb
    cases m with
    | zero => exact hd h
    | succ m =>
      unfold waitB at h
      rw [Bool.or_eq_true] at h
      rcases h with h | h
      · exact hd h
      · split at h
        · rename_i oj hoj
          obtain ⟨e, he, hb⟩ := Array.any_eq_true'.1 h
          simp only [Bool.and_eq_true] at hb
          exact waitB_spec hcl m e.on (fun ok hok => closedB_spec hcl hok (hall oj hoj e he hb.1)) hb.2
        · cases h
theorem final_false {ops : Array Oper} {l : Array Bool} {i j : Nat} {oj : Oper} (hcl : closedB ops l = true) (hne : j ≠ i) (hi : i < ops.size) (hj : ops[j]? = some oj) (hall : ∀ e ∈ oj.after, Region.binds .any e = true → l.getD e.on true = true) (hun : l.getD i true = false)
    (hunj : l.getD j true = false) (hdi : ∀ oi, ops[i]? = some oi → ∀ e ∈ oi.after, Region.binds .any e = true → l.getD e.on true = true) : finalB ops j = false := by
  cases h : finalB ops j with
  | false => rfl
  | true =>
    unfold finalB at h
    rw [hj] at h
    have h1 := List.all_eq_true.1 h i (List.mem_range.2 hi)
    simp only [Bool.or_eq_true, beq_iff_eq] at h1
    rcases h1 with (h1 | h1) | h1
    · exact absurd h1.symm hne
    · have := waitB_spec hcl 8 j (fun ok hok => by rw [hj] at hok; injection hok with hok; subst hok; exact hall) h1
      rw [hun] at this; cases this
    · have := waitB_spec hcl 8 i hdi h1
      rw [hunj] at this; cases this

section
variable {P : Program} {ops : Array Oper} {Q : Exit → Act → World → Prop} {S : World → Prop}
/-- Whatever order is picked, and 'S' holds behind every operation but one that waits for all others. -/
def AnyF (P : Program) (ops : Array Oper) (Q : Exit → Act → World → Prop) (S : World → Prop) : Nat → Array Bool → Act → World → Prop
  | 0, l, a, w => Region.ready .any ops l = [] ∧ Q .normal a w
  | m + 1, l, a, w => (Region.ready .any ops l = [] → Q .normal a w) ∧
    ∀ i ∈ Region.ready .any ops l, wpOp P ops Q i (fun a' w' => (finalB ops i = false → S w') ∧ AnyF P ops Q S m (l.setIfInBounds i true) a' w') a w
theorem any_of_F : ∀ (m : Nat) (l : Array Bool) (a : Act) (w : World), AnyF P ops Q S m l a w → wpAny P .any ops Q m l a w
  | 0, _, _, _, h => h
  | m + 1, _, _, _, h => ⟨h.1, fun i hi => wpOp_mono (fun _ _ h2 => any_of_F m _ _ _ h2.2) (h.2 i hi)⟩
/-- what yields its value in every world of 'S' may be taken first -/
theorem AnyF_first {i : Nat} {oi : Oper} {v : Value} (hi : ops[i]? = some oi) (hsel : ∀ (j : Nat) (o : Oper) cs b, ops[j]? = some o → o.op ≠ .select cs b) (hQ : ∀ c a w, Q (.panic c) (a.put oi.dst v) w → Q (.panic c) a w) :
    ∀ (m : Nat) (l : Array Bool) (a : Act) (w : World), closedB ops l = true → (∀ j oj, ops[j]? = some oj → j ≠ i → l.getD j true = false → (∀ e ∈ oj.after, Region.binds .any e = true → e.on ≠ i) → oi.apart ops oj = true) →
      i ∈ Region.ready .any ops l → YieldsIf P ops S oi v a → S w → AnyF P ops Q S m (l.setIfInBounds i true) (a.put oi.dst v) w → AnyF P ops Q S (m + 1) l a w := by
  have hlt : i < ops.size := (Array.getElem?_eq_some_iff.1 hi).1
  intro m
  induction m with
  | zero =>
    intro l a w _ _ hr hy hS H
    refine ⟨fun h => absurd (h ▸ hr) (by simp), fun j hj => ?_⟩
    by_cases hji : j = i
    · subst hji; exact hy.wpOp hi hS ⟨fun _ => hS, H⟩
    · have h1 := ready_mono hj hji
      rw [H.1] at h1
      exact absurd h1 (by simp)
  | succ m ih =>
    intro l a w hcl hfree hr hy hS H
    refine ⟨fun h => absurd (h ▸ hr) (by simp), fun j hj => ?_⟩
    by_cases hji : j = i
    · subst hji; exact hy.wpOp hi hS ⟨fun _ => hS, H⟩
    · have h1 := H.2 j (ready_mono hj hji)
      obtain ⟨hjun, oj, hoj, hall⟩ := mem_ready.1 hj
      have h0 := (mem_ready.1 hr).1
      have hil : l.getD i false = false := by
        rcases Nat.lt_or_ge i l.size with h' | h'
        · simp [h'] at h0 ⊢; exact h0
        · simp [Array.getElem?_eq_none h'] at h0
      have hnot : ∀ e ∈ oj.after, Region.binds .any e = true → e.on ≠ i := fun e he hb heq => by
        have h3 := hall e he hb
        rw [heq, hil] at h3
        cases h3
      have hun : l.getD i true = false := by simpa using h0
      have hallT : ∀ e ∈ oj.after, Region.binds .any e = true → l.getD e.on true = true := fun e he hb => by
        have h3 := hall e he hb
        rcases Nat.lt_or_ge e.on l.size with h' | h'
        · simp [h'] at h3 ⊢; exact h3
        · simp [Array.getElem?_eq_none h']
      have hdiT : ∀ ok, ops[i]? = some ok → ∀ e ∈ ok.after, Region.binds .any e = true → l.getD e.on true = true := fun ok hok e he hb => by
        obtain ⟨_, o2, ho2, hall2⟩ := mem_ready.1 hr
        rw [hok] at ho2; injection ho2 with ho2; subst ho2
        have h3 := hall2 e he hb
        rcases Nat.lt_or_ge e.on l.size with h' | h'
        · simp [h'] at h3 ⊢; exact h3
        · simp [Array.getElem?_eq_none h']
      have hfin := final_false hcl hji hlt hoj hallT hun hjun hdiT
      have hcl2 : closedB ops (l.setIfInBounds j true) = true := closedB_mk fun k ok hok hk e he hb => by
        have hset : ∀ q, l.getD q true = true → (l.setIfInBounds j true).getD q true = true := fun q hq => by
          by_cases hjq : j = q
          · subst hjq
            rcases Nat.lt_or_ge j l.size with h' | h'
            · simp [h']
            · simp
          · rw [getD_set_ne true hjq]; exact hq
        by_cases hjk : j = k
        · subst hjk
          rw [hoj] at hok; injection hok with hok; subst hok
          exact hset _ (hallT e he hb)
        · rw [getD_set_ne true hjk] at hk
          exact hset _ (closedB_spec hcl hok hk e he hb)
      have h2 := wpOp_putIf hoj (hfree j oj hoj hji hjun hnot) (fun cs b => hsel i oi cs b hi) (fun cs b => hsel j oj cs b hoj) hQ hy h1
      refine wpOp_mono (fun a' w' h3 => ?_) h2
      have hS' := h3.2.1 hfin
      refine ⟨fun _ => hS', ih (l.setIfInBounds j true) a' w' hcl2 (fun k ok hk hki hun hno => ?_) (ready_mono hr (Ne.symm hji)) h3.1 hS' ?_⟩
      · refine hfree k ok hk hki ?_ hno
        by_cases hjk : j = k
        · subst hjk; exact hjun
        · rw [getD_set_ne true hjk] at hun; exact hun
      · rw [Array.setIfInBounds_comm _ _ hji]
        exact h3.2.2
theorem AnyF_take {i : Nat} {oi : Oper} {v : Value} {m : Nat} {l : Array Bool} {a : Act} {w : World} (hi : ops[i]? = some oi) (hs : Region.noSelect ops = true) (hf : Region.free .any ops l i = true) (hr : (Region.ready .any ops l).contains i = true) (hcl : closedB ops l = true)
    (hQ : ∀ c a w, Q (.panic c) (a.put oi.dst v) w → Q (.panic c) a w) (hy : YieldsIf P ops S oi v a) (hS : S w) (h : AnyF P ops Q S m (l.setIfInBounds i true) (a.put oi.dst v) w) : AnyF P ops Q S (m + 1) l a w :=
  AnyF_first hi (Region.noSelect_spec hs) hQ m l a w hcl (Region.free_spec hi hf) (by simpa using hr) hy hS h
theorem AnyF_all {rs : List Nat} {m : Nat} {l : Array Bool} {a : Act} {w : World} (hr : Region.ready .any ops l = rs) (hne : rs ≠ [])
    (h : ∀ i ∈ rs, wpOp P ops Q i (fun a' w' => (finalB ops i = false → S w') ∧ AnyF P ops Q S m (l.setIfInBounds i true) a' w') a w) : AnyF P ops Q S (m + 1) l a w :=
  ⟨fun h0 => absurd (hr ▸ h0) hne, hr ▸ h⟩
theorem AnyF_done {l : Array Bool} {a : Act} {w : World} (hr : Region.ready .any ops l = []) (h : Q .normal a w) : ∀ m, AnyF P ops Q S m l a w
  | 0 => ⟨hr, h⟩
  | _ + 1 => ⟨fun _ => h, by rw [hr]; simp⟩
end

section
variable {P : Program} {B : Exit → Act → World → Prop} {n : Nat} {k : List Kont} {f : Fr} {w : World} {ops : Array Oper} {S : World → Prop} {fuel : Nat} {d : List Nat}

def HQ (P : Program) (B : Exit → Act → World → Prop) (k : List Kont) : Exit → Act → World → Prop := NoPanic (Kx P B k)
def HA (P : Program) (B : Exit → Act → World → Prop) (n : Nat) (k : List Kont) (S : World → Prop) (ops : Array Oper) (fuel : Nat) (d : List Nat) (f : Fr) (w : World) : Prop :=
  ∀ a, Is n f a → AnyF P ops (HQ P B k) S fuel (lst ops d) a w
/-- operation number 'i' comes up -/
def HO (P : Program) (B : Exit → Act → World → Prop) (n : Nat) (k : List Kont) (S : World → Prop) (ops : Array Oper) (fuel : Nat) (d : List Nat) (f : Fr) (w : World) (i : Nat) : Prop :=
  ∀ a, Is n f a → wpOp P ops (HQ P B k) i (fun a' w' => (finalB ops i = false → S w') ∧ AnyF P ops (HQ P B k) S fuel (lst ops (i :: d)) a' w') a w
/-- what stands behind one operation -/
def BH (P : Program) (B : Exit → Act → World → Prop) (_n : Nat) (k : List Kont) (S : World → Prop) (ops : Array Oper) (fuel : Nat) (i : Nat) (d : List Nat) : Exit → Act → World → Prop
  | .normal, a, w => (finalB ops i = false → S w) ∧ AnyF P ops (HQ P B k) S fuel (lst ops (i :: d)) a w
  | _, _, _ => False

theorem h_region {id : Nat} {l : List Oper} (E : List Nat) (hm : P.follows .mixedOrders = true) (h : ∀ w1, Evo w w1 [] → Evo w w1 E → HA P B n k (fun w' => Evo w w' E) l.toArray l.toArray.size [] f w1) : KF P B n (.code (.region id l.toArray true) :: k) f w := by
  intro a ha
  show (Code.region id l.toArray true).wp P (Kx P B k) a w
  exact wp_region_noPanic (wp_region_any hm (any_of_F _ _ _ _ (h _ (Evo.drew _ _) (Evo.drew _ _) a ha)))
theorem h_take {i s : Nat} {oi : Oper} {v : Value} (hi : ops[i]? = some oi) (hg : oi.guard = none) (hdst : oi.dst = some s) (hd : Nat.blt s n = true) (hc : takeB ops d i = true)
    (hrun : ∀ w', S w' → (execOp (opv f) oi).run P w' = .ok (.value v) w') (hS : S w) (h : HA P B n k S ops fuel (i :: d) (upd f s v) w) : HA P B n k S ops (fuel + 1) d f w := by
  intro a ha
  simp only [takeB, Bool.and_eq_true] at hc
  refine AnyF_take (v := v) hi hc.1.1.1 hc.1.1.2 hc.1.2 hc.2 (fun _ _ _ h => (h : False).elim) (.inl ⟨by simp [Region.wanted, hg], fun w' hw' => ?_⟩) hS ?_
  · rw [ha.eval]; exact hrun w' hw'
  · rw [hdst]; exact h _ (ha.put hd v)
theorem h_all (rs : List Nat) (hr : readyB ops d rs = true) (hne : rs ≠ []) (h : ∀ i ∈ rs, HO P B n k S ops fuel d f w i) : HA P B n k S ops (fuel + 1) d f w := by
  intro a ha
  exact AnyF_all (by simpa [readyB] using hr) hne (fun i hi => h i hi a ha)
theorem h_one {i : Nat} (hr : readyB ops d [i] = true) (h : HO P B n k S ops fuel d f w i) : HA P B n k S ops (fuel + 1) d f w :=
  h_all [i] hr (by simp) (by intro j hj; simp at hj; subst hj; exact h)
theorem h_two {i j : Nat} (hr : readyB ops d [i, j] = true) (h : HO P B n k S ops fuel d f w i) (h2 : HO P B n k S ops fuel d f w j) : HA P B n k S ops (fuel + 1) d f w :=
  h_all [i, j] hr (by simp) (by intro q hq; simp at hq; rcases hq with rfl | rfl <;> assumption)
theorem h_done (hr : readyB ops d [] = true) (h : KF P B n k f w) : HA P B n k S ops fuel d f w := by
  intro a ha
  exact AnyF_done (by simpa [readyB] using hr) (NoPanic.normal (h a ha)) fuel
theorem h_do {i : Nat} {oi : Oper} (hi : ops[i]? = some oi) (h : KL P (BH P B n k S ops fuel i d) n ops [] [oi] f w) : HO P B n k S ops fuel d f w i := by
  intro a ha
  have h1 := h a ha
  unfold wpOp
  simp only [hi]
  unfold wpList at h1
  split
  · rename_i hw
    rw [if_pos hw] at h1
    rcases h1 with h1 | ⟨_, _, _, h2⟩
    · refine .inl ?_
      unfold Oper.wp at h1 ⊢
      generalize (execOp a.eval oi).run P w = r at h1 ⊢
      cases r with
      | ok nx w' =>
        cases nx <;> simp only [Oper.upon] at h1 ⊢ <;>
          first
            | exact h1
            | exact Calls.mono h1 (fun e w'' he => by cases e <;> first | exact he | exact (he : False).elim | (obtain ⟨_, _, h2⟩ := he; exact (h2 : False).elim))
            | exact Rows.mono h1 (fun _ _ he => he)
      | halt x w' => cases x <;> simp only [Oper.upon] at h1 ⊢ <;> first | exact (h1 : False).elim | exact h1
    · exact (h2 : False).elim
  · rename_i hw
    rw [if_neg hw] at h1
    exact h1
theorem h_next {i : Nat} (hS : S w) (h : HA P B n k S ops fuel (i :: d) f w) : KL P (BH P B n k S ops fuel i d) n ops [] [] f w := fun a ha => ⟨fun _ => hS, h a ha⟩
theorem h_last {i : Nat} (hf : finalB ops i = true) (h : HA P B n k S ops fuel (i :: d) f w) : KL P (BH P B n k S ops fuel i d) n ops [] [] f w := fun a ha => ⟨fun hn => Bool.noConfusion (hf.symm.trans hn), h a ha⟩
end
end Go.Vc
namespace Go.Vc
open Go Go.RowKit Go.IntWalk
section
variable {P : Program} {B : Exit → Act → World → Prop} {n : Nat} {k : List Kont} {f : Fr} {w : World} {ops : Array Oper} {S : World → Prop} {fuel : Nat} {d : List Nat}
theorem h_three {i j p : Nat} (hr : readyB ops d [i, j, p] = true) (h : HO P B n k S ops fuel d f w i) (h2 : HO P B n k S ops fuel d f w j) (h3 : HO P B n k S ops fuel d f w p) : HA P B n k S ops (fuel + 1) d f w :=
  h_all [i, j, p] hr (by simp) (by intro q hq; simp at hq; rcases hq with rfl | rfl | rfl <;> assumption)
theorem h_four {i j p r : Nat} (hr : readyB ops d [i, j, p, r] = true) (h : HO P B n k S ops fuel d f w i) (h2 : HO P B n k S ops fuel d f w j) (h3 : HO P B n k S ops fuel d f w p) (h4 : HO P B n k S ops fuel d f w r) : HA P B n k S ops (fuel + 1) d f w :=
  h_all [i, j, p, r] hr (by simp) (by intro q hq; simp at hq; rcases hq with rfl | rfl | rfl | rfl <;> assumption)
end
end Go.Vc
namespace Go.Vc
open Go Go.RowKit Go.IntWalk

/-- the cells of 'n' elements -/
def flat (n : Nat) (c : Nat → List Value) : List Value := (List.range n).flatMap c
theorem flat_succ (n : Nat) (c : Nat → List Value) : flat (n + 1) c = flat n c ++ c n := by unfold flat; rw [List.range_succ]; simp
theorem flat_length {s : Nat} {c : Nat → List Value} (h : ∀ x, (c x).length = s) : ∀ n, (flat n c).length = n * s
  | 0 => by simp [flat]
  | n + 1 => by rw [flat_succ, List.length_append, flat_length h n, h, Nat.add_mul, Nat.one_mul]
theorem flat_at {s : Nat} {c : Nat → List Value} (h : ∀ x, (c x).length = s) {j : Nat} (hj : j < s) : ∀ (n x : Nat), x < n → (flat n c)[x * s + j]? = (c x)[j]?
  | 0, x, hx => absurd hx (by omega)
  | n + 1, x, hx => by
    rw [flat_succ]
    by_cases e : x = n
    · subst e
      rw [List.getElem?_append_right (by rw [flat_length h]; omega), flat_length h]
      congr 1
      omega
    · have hx' : x < n := by omega
      have : x * s + j < n * s := by
        have := Nat.mul_le_mul_right s (show x + 1 ≤ n from hx')
        rw [Nat.add_mul, Nat.one_mul] at this
        omega
      rw [List.getElem?_append_left (by rw [flat_length h]; exact this)]
      exact flat_at h hj n x hx'
theorem flat_congr {c c' : Nat → List Value} {n : Nat} (h : ∀ x, x < n → c x = c' x) : flat n c = flat n c' := by
  induction n with
  | zero => rfl
  | succ n ih => rw [flat_succ, flat_succ, ih (fun x hx => h x (by omega)), h n (by omega)]
theorem flat_set {s : Nat} {c : Nat → List Value} (h : ∀ x, (c x).length = s) (vs : List Value) (hv : vs.length = s) (n x : Nat) (hx : x < n) :
    (flat n c).take (x * s) ++ vs ++ (flat n c).drop (x * s + vs.length) = flat n (fun y => if y = x then vs else c y) := by
  have h2 : ∀ y, ((fun y => if y = x then vs else c y) y).length = s := fun y => by dsimp only; split <;> simp [*]
  have hle : x * s + s ≤ n * s := by have := Nat.mul_le_mul_right s (show x + 1 ≤ n from hx); rw [Nat.add_mul, Nat.one_mul] at this; exact this
  have hl := flat_length h n
  apply List.ext_getElem?
  intro i
  by_cases hi : i < n * s
  · have hs : 0 < s := by
      rcases Nat.eq_zero_or_pos s with e | e
      · rw [e] at hi; omega
      · exact e
    have hq : i / s < n := (Nat.div_lt_iff_lt_mul hs).2 hi
    have hr : i % s < s := Nat.mod_lt _ hs
    have hi2 : i = (i / s) * s + i % s := by rw [Nat.mul_comm]; exact (Nat.div_add_mod i s).symm
    have e1 : (flat n (fun y => if y = x then vs else c y))[i]? = (if i / s = x then vs else c (i / s))[i % s]? := by
      conv => lhs; rw [hi2]
      exact flat_at h2 hr n _ hq
    have e2 : (flat n c)[i]? = (c (i / s))[i % s]? := by
      conv => lhs; rw [hi2]
      exact flat_at h hr n _ hq
    rw [e1]
    by_cases hx1 : i < x * s
    · have hlt : i / s < x := (Nat.div_lt_iff_lt_mul hs).2 hx1
      rw [List.append_assoc, List.getElem?_append_left (by rw [List.length_take]; omega), List.getElem?_take_of_lt hx1, e2, if_neg (by omega)]
    · by_cases hx2 : i < x * s + s
      · have hix : i / s = x := by
          have h3 : x ≤ i / s := (Nat.le_div_iff_mul_le hs).2 (by omega)
          have h4 : i / s < x + 1 := (Nat.div_lt_iff_lt_mul hs).2 (by rw [Nat.add_mul, Nat.one_mul]; exact hx2)
          omega
        rw [if_pos hix, List.append_assoc, List.getElem?_append_right (by rw [List.length_take]; omega), List.length_take, Nat.min_eq_left (by omega), List.getElem?_append_left (by omega)]
        congr 1
        rw [hix] at hi2
        omega
      · have hgt : i / s ≠ x := by
          intro e
          rw [e] at hi2
          omega
        rw [if_neg hgt, ← e2, List.getElem?_append_right (by rw [List.length_append, List.length_take]; omega), List.getElem?_drop, List.length_append, List.length_take]
        congr 1
        omega
  · rw [List.getElem?_eq_none (by rw [List.length_append, List.length_append, List.length_take, List.length_drop]; omega), List.getElem?_eq_none (by rw [flat_length h2]; omega)]

/-- block 'b' holds 'n' elements of 's' cells each -/
structure FB (w : World) (b : Nat) (T : TypeId) (s n : Nat) (c : Nat → List Value) : Prop where
  blk : Blk w b T (flat n c)
  len : ∀ x, (c x).length = s
section
variable {w w' : World} {b : Nat} {T : TypeId} {s n : Nat} {c : Nat → List Value} {E : List Nat}
theorem FB.evo (h : FB w b T s n c) (he : Evo w w' E) (hn : b ∉ E) : FB w' b T s n c := ⟨h.blk.evo he hn, h.len⟩
theorem FB.evo0 (h : FB w b T s n c) (he : Evo w w' []) : FB w' b T s n c := h.evo he (by simp)
theorem FB.lt (h : FB w b T s n c) : b < w.heap.size := h.blk.lt
theorem FB.cell (h : FB w b T s n c) {x j : Nat} (hx : x < n) (hj : j < s) {v : Value} (hv : (c x)[j]? = some v) : w.cell? ⟨b, 0 + x * s + j, none⟩ = some v := by
  have := h.blk.at (x * s + j) v (by rw [flat_at h.len hj n x hx]; exact hv)
  rwa [← Nat.add_assoc] at this
theorem FB.cell0 (h : FB w b T s n c) {x : Nat} (hx : x < n) {v : Value} {r : List Value} (hv : c x = v :: r) : w.cell? ⟨b, 0 + x * s, none⟩ = some v :=
  h.cell (j := 0) hx (by rw [← h.len x, hv]; simp) (by rw [hv]; rfl)
theorem FB.at (h : FB w b T s n c) {x : Nat} (hx : x < n) : At w b (0 + x * s) (c x) := fun j v hj => h.cell hx (by
  rcases Nat.lt_or_ge j s with h1 | h1
  · exact h1
  · rw [List.getElem?_eq_none (by rw [h.len]; exact h1)] at hj; cases hj) hj
theorem FB.congr (h : FB w b T s n c) {c' : Nat → List Value} (hc : ∀ x, c' x = c x) : FB w b T s n c' := by
  rw [show c' = c from funext hc]; exact h
theorem FB.congr' (h : FB w b T s n c) {c' : Nat → List Value} (hl : ∀ x, (c' x).length = s) (hc : ∀ x, x < n → c' x = c x) : FB w b T s n c' :=
  ⟨by rw [flat_congr hc]; exact h.blk, hl⟩
end

section
variable {P : Program} {B : Exit → Act → World → Prop} {n : Nat} {k : List Kont} {f : Fr} {w : World} {ops : Array Oper} {rest : List Oper}

theorem madeCells_flat {z : Value} {zs : List Value} {m : Nat} (hz : z.cells = zs.toArray) (hm : zs.length = m) (h0 : 0 < m) (len : Nat) : madeCells z.cells (len * m) = (flat len (fun _ => zs)).toArray := by
  have e : flat len (fun _ => zs) = (List.replicate len zs).flatten := by
    unfold flat
    induction len with
    | zero => simp
    | succ len ih => rw [List.range_succ, List.replicate_succ', List.flatMap_append, ih]; simp
  rw [e, ← zeros_cells hz hm h0 len]
  unfold madeCells
  apply Array.ext'
  simp
theorem r_make {T E d m bb len : Nat} {t : TypeId} {pos : String} {aft : Array Edge} {x y : Operand} {z : Value} {zs : List Value} {κ κ' : IntKind} {i j : Int}
    (hu : P.underlying T = some (.slice E)) (ht : tyP P E = some (m, bb, some z)) (hz : z.cells = zs.toArray) (hm : (Nat.beq zs.length m && Nat.ble 1 m) = true) (hd : Nat.blt d n = true)
    (hx : opv f x = .int κ i) (hy : opv f y = .int κ' j) (hi : i = (len : Int)) (hj : j = (len : Int)) (hlen : len * m ≤ 10000000) (hb : bb * len ≤ 10000000)
    (h : ∀ b w', b = w.heap.size → Evo w w' [] → FB w' b E m len (fun _ => zs) → w'.heap.size = b + 1 → KL P B n ops k rest (upd f d (.slice (some ⟨b, 0, none⟩) len len)) w') :
    KL P B n ops k (⟨some d, .makeSlice T x y, t, pos, aft, none⟩ :: rest) f w := by
  simp only [Bool.and_eq_true, Nat.ble_eq] at hm
  have hzl := Nat.eq_of_beq_eq_true hm.1
  obtain ⟨it, hit, h1, h2, h3⟩ := info_of ht
  have hll : len ≤ len * m := Nat.le_mul_of_pos_right len (by omega)
  have hbb : (bb : Int) * (len : Int) = ((bb * len : Nat) : Int) := by simp
  have hrun := run_makeSlice (P := P) (w := w) T E it z hu hit h3 κ κ' (len : Int) (len : Int) (by omega) (Int.le_refl _) (by rw [h1, Int.toNat_natCast]; omega) (by rw [h2, hbb]; omega) (by omega)
  simp only [Int.toNat_natCast, h1] at hrun
  rw [madeCells_flat hz hzl (by omega) len] at hrun
  refine r_op (v := .slice (some ⟨w.heap.size, 0, none⟩) len len) (w' := w.alloc (.cells (flat len (fun _ => zs)).toArray E)) rfl rfl hd ?_ (h _ _ rfl (Evo.alloc _ _ _) ⟨heap_alloc_new w _, fun _ => hzl⟩ (by simp))
  subst hi
  subst hj
  simp [execOp, hx, hy, hrun]
/-- a whole element is stored -/
theorem r_storeF {T T' : TypeId} {t : TypeId} {pos : String} {aft : Array Edge} {x y : Operand} {b len m bb off : Nat} {z : Option Value} {v : Value} {c : Nat → List Value} {vs : List Value} (i : Nat)
    (hx : opv f x = .pointer (some ⟨b, off, none⟩)) (hoff : off = 0 + i * m) (hy : opv f y = v) (hb : FB w b T' m len c) (hi : i < len) (ht : tyP P T = some (m, bb, z)) (hv : v.cells = vs.toArray) (hm : Nat.beq vs.length m = true)
    (h1 : oneCells vs = true)
    (h : ∀ w', Evo w w' [b] → w'.heap.size = w.heap.size → FB w' b T' m len (fun q => if q = i then vs else c q) → KL P B n ops k rest f w') :
    KL P B n ops k (⟨none, .store T x y, t, pos, aft, none⟩ :: rest) f w := by
  subst hoff
  have hm := Nat.eq_of_beq_eq_true hm
  have hle : i * m + m ≤ len * m := by have := Nat.mul_le_mul_right m (show i + 1 ≤ len from hi); rw [Nat.add_mul, Nat.one_mul] at this; exact this
  refine r_store (T' := T') (cs' := flat len (fun q => if q = i then vs else c q)) hx hy hb.blk ht hv hm h1 ?_ ?_ (fun w' he hs hB => h w' he hs ⟨hB, fun q => by split <;> simp [hb.len, hm]⟩)
  · rw [Nat.ble_eq, flat_length hb.len]; omega
  · have := flat_set hb.len vs hm len i hi
    simpa using this
end

/-! ### Tables: a slice of slices, all of our own -/
def rowsC (rb : Nat → Nat) (lo m : Nat) : Nat → List Value := fun x => if lo ≤ x then [.slice (some ⟨rb x, 0, none⟩) m m] else [.slice none 0 0]
theorem rowsC_at {rb : Nat → Nat} {lo m x : Nat} (h : lo ≤ x) : rowsC rb lo m x = [.slice (some ⟨rb x, 0, none⟩) m m] := by unfold rowsC; rw [if_pos h]
/-- 'n' places for rows; the rows from 'lo' on are there, of 'm' elements of 's' cells; 'c' is what they hold -/
structure Tab (w : World) (base bt : Nat) (T E : TypeId) (s n m lo : Nat) (rb : Nat → Nat) (c : Nat → Nat → List Value) : Prop where
  out : FB w bt T 1 n (rowsC rb lo m)
  row : ∀ x, lo ≤ x → x < n → FB w (rb x) E s m (c x)
  old : ∀ x, lo ≤ x → x < n → base ≤ rb x ∧ rb x ≠ bt
  apart : ∀ x y, lo ≤ x → x < n → lo ≤ y → y < n → rb x = rb y → x = y
  base : base ≤ bt
section
variable {w w' : World} {base bt : Nat} {T E : TypeId} {s n m lo : Nat} {rb : Nat → Nat} {c : Nat → Nat → List Value} {X : List Nat}
theorem Tab.new (h : FB w bt T 1 n (fun _ => [.slice none 0 0])) (hb : base ≤ bt) (rb : Nat → Nat) (c : Nat → Nat → List Value) : Tab w base bt T E s n m n rb c :=
  ⟨h.congr' (fun x => by unfold rowsC; split <;> rfl) (fun x hx => by unfold rowsC; rw [if_neg (by omega)]), fun x h1 h2 => absurd h2 (by omega), fun x h1 h2 => absurd h2 (by omega), fun x y h1 h2 => absurd h2 (by omega), hb⟩
theorem Tab.evo (h : Tab w base bt T E s n m lo rb c) (he : Evo w w' X) (h1 : bt ∉ X) (h2 : ∀ x, lo ≤ x → x < n → rb x ∉ X) : Tab w' base bt T E s n m lo rb c :=
  ⟨h.out.evo he h1, fun x h3 h4 => (h.row x h3 h4).evo he (h2 x h3 h4), h.old, h.apart, h.base⟩
theorem Tab.evo0 (h : Tab w base bt T E s n m lo rb c) (he : Evo w w' []) : Tab w' base bt T E s n m lo rb c := h.evo he (by simp) (by simp)
theorem Tab.lt (h : Tab w base bt T E s n m lo rb c) : bt < w.heap.size ∧ ∀ x, lo ≤ x → x < n → rb x < w.heap.size := ⟨h.out.lt, fun x h1 h2 => (h.row x h1 h2).lt⟩
/-- a row is laid: 'b' was new when the table was as 'w' has it -/
theorem Tab.add (h : Tab w base bt T E s n m (lo + 1) rb c) (hlo : lo < n) {b : Nat} {cb : Nat → List Value} (hb : w.heap.size ≤ b) (hbase : base ≤ w.heap.size) (he : Evo w w' [bt]) (hout : FB w' bt T 1 n (fun q => if q = lo then [.slice (some ⟨b, 0, none⟩) m m] else rowsC rb (lo + 1) m q))
    (hrow : FB w' b E s m cb) {c' : Nat → Nat → List Value} (hc : c' lo = cb) (hc2 : ∀ x, lo < x → c' x = c x) : Tab w' base bt T E s n m lo (fun q => if q = lo then b else rb q) c' := by
  refine ⟨hout.congr (fun x => ?_), fun x h1 h2 => ?_, fun x h1 h2 => ?_, fun x y h1 h2 h3 h4 => ?_, h.base⟩
  · unfold rowsC
    show (if lo ≤ x then [Value.slice (some ⟨if x = lo then b else rb x, 0, none⟩) m m] else [Value.slice none 0 0]) = _
    by_cases e : x = lo
    · rw [if_pos (by omega), if_pos e, if_pos e]
    · by_cases e2 : lo + 1 ≤ x
      · rw [if_pos (by omega), if_neg e, if_neg e, if_pos e2]
      · rw [if_neg (by omega), if_neg e, if_neg e2]
  · by_cases e : x = lo
    · subst e; simp only [if_true]; rw [hc]; exact hrow
    · simp only [if_neg e]
      rw [hc2 x (by omega)]
      exact (h.row x (by omega) h2).evo he (by have := (h.old x (by omega) h2).2; simpa using this)
  · by_cases e : x = lo
    · have := h.out.lt
      simp only [if_pos e]
      exact ⟨by omega, by omega⟩
    · simp only [if_neg e]; exact h.old x (by omega) h2
  · have hl := fun z h1 h2 => (h.row z h1 h2).lt
    by_cases e : x = lo <;> by_cases e2 : y = lo
    · intro _; omega
    · simp only [if_pos e, if_neg e2]; intro e3; have := hl y (by omega) h4; omega
    · simp only [if_neg e, if_pos e2]; intro e3; have := hl x (by omega) h2; omega
    · simp only [if_neg e, if_neg e2]; exact h.apart x y (by omega) h2 (by omega) h4
theorem Tab.congr (h : Tab w base bt T E s n m lo rb c) {c' : Nat → Nat → List Value} (hc : ∀ x, lo ≤ x → x < n → ∀ y, c' x y = c x y) : Tab w base bt T E s n m lo rb c' :=
  ⟨h.out, fun x h1 h2 => (h.row x h1 h2).congr (hc x h1 h2), h.old, h.apart, h.base⟩
/-- a store into row 'i' -/
theorem Tab.store (h : Tab w base bt T E s n m lo rb c) {i : Nat} (h1 : lo ≤ i) (h2 : i < n) (he : Evo w w' [rb i]) {cb : Nat → List Value} (hr : FB w' (rb i) E s m cb) : Tab w' base bt T E s n m lo rb (fun x => if x = i then cb else c x) := by
  refine ⟨h.out.evo he (by have := (h.old i h1 h2).2; simpa using Ne.symm this), fun x h3 h4 => ?_, h.old, h.apart, h.base⟩
  by_cases e : x = i
  · subst e; simp only [if_true]; exact hr
  · simp only [if_neg e]
    exact (h.row x h3 h4).evo he (by simp; intro e3; exact e (h.apart x i h3 h4 h1 h2 e3))
theorem Tab.load (h : Tab w base bt T E s n m lo rb c) (x : Nat) (h1 : lo ≤ x) (h2 : x < n) : w.cell? ⟨bt, 0 + x * 1, none⟩ = some (.slice (some ⟨rb x, 0, none⟩) m m) := h.out.cell0 h2 (rowsC_at h1)
theorem Tab.cell (h : Tab w base bt T E s n m lo rb c) (x y j : Nat) (h1 : lo ≤ x) (h2 : x < n) (h3 : y < m) (h4 : j < s) {v : Value} (hv : (c x y)[j]? = some v) : w.cell? ⟨rb x, 0 + y * s + j, none⟩ = some v := (h.row x h1 h2).cell h3 h4 hv
theorem Tab.cell0 (h : Tab w base bt T E s n m lo rb c) (x y : Nat) (h1 : lo ≤ x) (h2 : x < n) (h3 : y < m) {v : Value} {r : List Value} (hv : c x y = v :: r) : w.cell? ⟨rb x, 0 + y * s, none⟩ = some v := (h.row x h1 h2).cell0 h3 hv
theorem Tab.at (h : Tab w base bt T E s n m lo rb c) (x y : Nat) (h1 : lo ≤ x) (h2 : x < n) (h3 : y < m) : At w (rb x) (0 + y * s) (c x y) := (h.row x h1 h2).at h3
end

/-- a slice literal, as a row -/
theorem rowLit {α : Type} [Enc α] {w : World} {b : Nat} {T : TypeId} {cs : List Value} (l : List α) (h : Blk w b T cs) (hc : cs = (l.map Enc.enc).flatten) (hl : Nat.ble l.length 10000 = true) : RowE w (some ⟨b, 0, none⟩) b 0 l.length l := by
  subst hc
  refine ⟨⟨by simp, by have := Nat.le_of_ble_eq_true hl; simp; omega⟩, fun _ => rfl, fun i cs hi => ?_⟩
  have hlen : ∀ c ∈ l.map (Enc.enc (α := α)), c.length = Enc.n α := by
    intro c hc
    obtain ⟨x, _, rfl⟩ := List.mem_map.1 hc
    exact Enc.len x
  have hcs := hlen cs (List.mem_of_getElem? hi)
  refine ⟨hcs, fun j v hj => ?_⟩
  have hjm : j < Enc.n α := by
    rcases Nat.lt_or_ge j (Enc.n α) with h1 | h1
    · exact h1
    · rw [List.getElem?_eq_none (by omega)] at hj; cases hj
  have := h.at (i * Enc.n α + j) v (by rw [flatten_at _ _ i j cs hlen hi hjm]; exact hj)
  rwa [← Nat.add_assoc] at this
end Go.Vc
namespace Go.Vc
open Go Go.RowKit Go.IntWalk

section
variable {P : Program} {w : World} {f : Fr} {o : Oper}
theorem run_part1 {E : TypeId} {cs : Array Value} {i : Nat} {v : Value} (ha : aggP P E = some false) (hv : cs[i]? = some v) : (part E cs i).run P w = .ok v w := by
  simp [part, run_isAgg ha, hv]
theorem equalIn_arr2 (d : Nat) {T E : TypeId} {k : IntKind} {a b c e : Int} {bb : Nat} {z : Option Value} (hT : P.underlying T = some (.array 2 E)) (hE : P.underlying E = some (.int k)) (hs : tyP P E = some (1, bb, z)) (hag : aggP P E = some false) :
    (Op.equalIn (d + 2) T (.agg #[.int k a, .int k b]) (.agg #[.int k c, .int k e])).run P w = .ok (decide (a = c ∧ b = e)) w := by
  have h1 : ∀ w (x y : Int), (Op.equalIn (d + 1) E (.int k x) (.int k y)).run P w = .ok (decide (x = y)) w := fun w x y => by
    rw [run_equalIn_int w d E k k x y hE]
    congr 1
  have p0 : ∀ w (x y : Value), (part E #[x, y] (0 * 1)).run P w = .ok x w := fun w x y => run_part1 hag rfl
  have p1 : ∀ w (x y : Value), (part E #[x, y] (1 * 1)).run P w = .ok y w := fun w x y => run_part1 hag rfl
  have hr : List.range' 0 2 1 = [0, 1] := rfl
  rw [Op.equalIn]
  simp only [Sem.run_bind, run_underlying hT, Result.andThen_ok, run_sizeOf hs, Std.Legacy.Range.forIn_eq_forIn_range', Std.Legacy.Range.size]
  simp only [show (2 - 0 + 1 - 1) / 1 = 2 from rfl, hr, List.forIn_cons, List.forIn_nil, Sem.run_bind, p0, h1, Result.andThen_ok]
  by_cases hac : a = c
  · by_cases hbe : b = e
    · simp [hac, hbe, p1, h1]
    · simp [hac, hbe, p1, h1]
  · simp [hac]
theorem run_eqlA2 {T T2 E : TypeId} {x y : Operand} {k : IntKind} {a b c e : Int} {bb : Nat} {z : Option Value} (ho : o.op = .binOp .eql T x y T2) (hT : P.underlying T = some (.array 2 E)) (hE : P.underlying E = some (.int k)) (hs : tyP P E = some (1, bb, z)) (hag : aggP P E = some false)
    (hg : P.eqGuardType P.depth T = false) (hx : opv f x = .agg #[.int k a, .int k b]) (hy : opv f y = .agg #[.int k c, .int k e]) : (execOp (opv f) o).run P w = .ok (.value (.bool (decide (a = c ∧ b = e)))) w := by
  unfold execOp; rw [ho]; simp only []; rw [hx, hy]
  have := equalIn_arr2 (P := P) (w := w) 9998 (a := a) (b := b) (c := c) (e := e) hT hE hs hag
  simp only [Sem.run_bind, run_eqGuard_agg w .eql T x y _ _ hg, Result.andThen_ok, run_eql_struct, this, Sem.run_pure]
end
end Go.Vc
namespace Go.Vc
open Go Go.RowKit Go.IntWalk

section
variable {P : Program} {f : Fr} {w : World} {o : Oper}
/-- the address of an element of an array variable -/
theorem run_ixP {T E : TypeId} {x y : Operand} {b off len m bb : Nat} {z : Option Value} {κ : IntKind} {i : Int} (j : Nat) (ho : o.op = .indexAddr T x y) (hu : P.underlying T = some (.array len E))
    (ht : tyP P E = some (m, bb, z)) (hx : opv f x = .pointer (some ⟨b, off, none⟩)) (hy : opv f y = .int κ i) (hij : i = (j : Int)) (hlt : j < len) :
    (execOp (opv f) o).run P w = .ok (.value (.pointer (some ⟨b, off + j * m, none⟩))) w := by
  subst hij
  unfold execOp; rw [ho]; simp only []; rw [hx, hy]
  have h1 : (0 : Int) ≤ (j : Int) ∧ (j : Int) < (len : Int) := by omega
  simp [Instr.indexAt, run_underlying hu, asIntOf, run_sizeOf ht, h1, add_lit, Instr.sureAddr]
  intro h2
  omega
/-- an element of an array value: more than one cell -/
theorem run_ixAg {T E : TypeId} {x y : Operand} {len m bb : Nat} {z : Option Value} {κ : IntKind} {i : Int} {cs ds : List Value} (j : Nat) (ho : o.op = .index T x y) (hu : P.underlying T = some (.array len E))
    (ht : tyP P E = some (m, bb, z)) (ha : aggP P E = some true) (hx : opv f x = .agg cs.toArray) (hy : opv f y = .int κ i) (hij : i = (j : Int)) (hlt : j < len) (hd : (cs.drop (j * m)).take m = ds) :
    (execOp (opv f) o).run P w = .ok (.value (.agg ds.toArray)) w := by
  subst hij
  unfold execOp; rw [ho]; simp only []; rw [hx, hy]
  have h1 : (0 : Int) ≤ (j : Int) ∧ (j : Int) < (len : Int) := by omega
  simp [Instr.index, run_underlying hu, asIntOf, run_sizeOf ht, h1, part, run_isAgg ha, ← hd]
  intro h2
  omega
theorem run_ixA1 {T E : TypeId} {x y : Operand} {len bb : Nat} {z : Option Value} {κ : IntKind} {i : Int} {cs : List Value} {v : Value} (j : Nat) (ho : o.op = .index T x y) (hu : P.underlying T = some (.array len E))
    (ht : tyP P E = some (1, bb, z)) (ha : aggP P E = some false) (hx : opv f x = .agg cs.toArray) (hy : opv f y = .int κ i) (hij : i = (j : Int)) (hlt : j < len) (hd : cs[j]? = some v) :
    (execOp (opv f) o).run P w = .ok (.value v) w := by
  subst hij
  unfold execOp; rw [ho]; simp only []; rw [hx, hy]
  have h1 : (0 : Int) ≤ (j : Int) ∧ (j : Int) < (len : Int) := by omega
  simp [Instr.index, run_underlying hu, asIntOf, run_sizeOf ht, h1, part, run_isAgg ha, hd]
  intro h2
  omega
end
section
variable {P : Program} {fn : Func} {n : Nat} {f : Fr} {w : World}
theorem resC1 {s : Nat} {T : TypeId} {b : Nat} {m bb : Nat} {z : Option Value} {cs : List Value} (h : fn.results = #[.cell s T]) (ha : aggP P T = some true) (ht : tyP P T = some (m, bb, z)) (hs : f s = .pointer (some ⟨b, 0, none⟩)) (hn : cs.length = m) (hc : At w b 0 cs) :
    ∀ a, Is n f a → (results fn a.tmps).run P w = .ok (.agg cs.toArray) w := fun a hi => by
  have h1 := run_loadN (P := P) (w := w) ha ht hn hc
  have h2 : (loadVar T ⟨b, 0, none⟩).run P w = .ok (.agg cs.toArray) w := by
    simpa [Instr.loadAt, Instr.sureAddr] using h1
  simp [results, h, hi.get, hs, asAddr, h2]
theorem resC1v {s : Nat} {T : TypeId} {b : Nat} {v : Value} (h : fn.results = #[.cell s T]) (ha : aggP P T = some false) (hs : f s = .pointer (some ⟨b, 0, none⟩)) (hc : w.cell? ⟨b, 0, none⟩ = some v) :
    ∀ a, Is n f a → (results fn a.tmps).run P w = .ok v w := fun a hi => by
  have h1 := run_load1 (P := P) ha hc
  have h2 : (loadVar T ⟨b, 0, none⟩).run P w = .ok v w := by
    simpa [Instr.loadAt, Instr.sureAddr] using h1
  simp [results, h, hi.get, hs, asAddr, h2]
end
section
variable {P : Program} {f : Fr} {w : World} {o : Oper}
theorem run_slssD {t t2 : TypeId} {x y : Operand} {a b : List UInt8} (ho : o.op = .binOp .lss t x y t2) (hx : opv f x = S a) (hy : opv f y = S b) :
    (execOp (opv f) o).run P w = .ok (.value (.bool (decide (blt a b = true)))) w := by
  rw [Bool.decide_eq_true]; exact run_slss ho hx hy
theorem run_sleqD {t t2 : TypeId} {x y : Operand} {a b : List UInt8} (ho : o.op = .binOp .leq t x y t2) (hx : opv f x = S a) (hy : opv f y = S b) :
    (execOp (opv f) o).run P w = .ok (.value (.bool (decide ((blt a b || a == b) = true)))) w := by
  rw [Bool.decide_eq_true]; exact run_sleq ho hx hy
end
section
variable {P : Program} {f : Fr} {w : World} {o : Oper}
theorem run_slE0 {α : Type} [Enc α] {l : List α} {T E m bb : Nat} {z : Option Value} {x : Operand} {ao : Option Addr} {b off cap : Nat} {lo : Option Operand} (i : Nat) (ho : o.op = .slice T x lo none none) (hu : P.underlying T = some (.slice E))
    (ht : tyP P E = some (m, bb, z)) (hmn : m = Enc.n α) (hx : opv f x = .slice ao l.length cap) (hr : RowE w ao b off cap l) (hlo : (lo.map (opv f) = none ∧ i = 0) ∨ ∃ κ, lo.map (opv f) = some (.int κ (i : Int))) (h1 : i ≤ l.length) :
    (execOp (opv f) o).run P w = .ok (.value (.slice (if cap = i then ao else ao.map (·.add (i * Enc.n α))) (l.drop i).length (cap - i))) w := by
  have := run_sl (P := P) (w := w) (f := f) (o := o) i l.length ho hu ht hx hlo hi0 h1 hr.le
  rw [List.length_drop, ← hmn]
  exact this
theorem run_slR0 {α : Type} [Rep α] {l : List α} {T E m bb : Nat} {z : Option Value} {x : Operand} {ao : Option Addr} {b off cap : Nat} {lo : Option Operand} (i : Nat) (ho : o.op = .slice T x lo none none) (hu : P.underlying T = some (.slice E))
    (ht : tyP P E = some (m, bb, z)) (hmn : m = Rep.n α) (hx : opv f x = .slice ao l.length cap) (hr : RowR w ao b off cap l) (hlo : (lo.map (opv f) = none ∧ i = 0) ∨ ∃ κ, lo.map (opv f) = some (.int κ (i : Int))) (h1 : i ≤ l.length) :
    (execOp (opv f) o).run P w = .ok (.value (.slice (if cap = i then ao else ao.map (·.add (i * Rep.n α))) (l.drop i).length (cap - i))) w := by
  have := run_sl (P := P) (w := w) (f := f) (o := o) i l.length ho hu ht hx hlo hi0 h1 hr.le
  rw [List.length_drop, ← hmn]
  exact this
end
theorem run_mvb {P : Program} {f : Fr} {w : World} {o : Oper} {x : Operand} {b : Bool} (ho : o.op = .move x) (hx : opv f x = .bool b) : (execOp (opv f) o).run P w = .ok (.value (.bool (decide (b = true)))) w := by
  rw [Bool.decide_eq_true]; exact run_mv ho hx
/-- a guarded call whose answer is a truth of which something is known -/
theorem r_gcallB {P : Program} {B : Exit → Act → World → Prop} {n : Nat} {k : List Kont} {f : Fr} {w : World} {ops : Array Oper} {rest : List Oper} {d : Nat} {op : Op} {t : TypeId} {pos : String} {aft : Array Edge} {j s : Nat} {b : Bool} {g : Prop} [Decidable g] {F : FuncId} {args : Array Value} {Φ : Bool → Prop}
    (hj : (ops[j]?).bind (·.dst) = some s) (hw : Wanted f s b g) (hd : Nat.blt d n = true) (hrun : g → (execOp (opv f) ⟨some d, op, t, pos, aft, none⟩).run P w = .ok (.enter F args) w)
    (hc : g → Calls P F args w fun e w' => ∃ x, e = .returned (.bool x) ∧ Φ x ∧ Evo w w' [])
    (h : ∀ x w', (g → Φ x) → Evo w w' [] → KL P B n ops k rest (upd f d (gv g (.bool (decide (x = true))))) w') : KL P B n ops k (⟨some d, op, t, pos, aft, some (j, b)⟩ :: rest) f w := by
  intro a ha
  have hwa := wanted_of ha hj hw
  by_cases hg : g
  · unfold wpList
    rw [if_pos (by simp only [Region.wanted]; exact hwa.1 hg)]
    refine .inl ?_
    unfold Oper.wp
    have e : execOp (opv f) ⟨some d, op, t, pos, aft, some (j, b)⟩ = execOp (opv f) ⟨some d, op, t, pos, aft, none⟩ := rfl
    rw [ha.eval, e, hrun hg]
    simp only [Oper.upon]
    refine (hc hg).mono fun e w' ⟨x, h1, hx, h2⟩ => ?_
    subst h1
    have h3 := h x w' (fun _ => hx) h2 _ (ha.put hd (gv g (.bool (decide (x = true)))))
    rw [gv_yes hg, Bool.decide_eq_true] at h3
    exact h3
  · unfold wpList
    rw [if_neg (by simp only [Region.wanted]; rw [hwa.2 hg]; simp)]
    have h3 := h true w (fun h => absurd h hg) (Evo.refl _ _) _ (ha.put hd (gv g (.bool (decide (true = true)))))
    rw [gv_no hg] at h3
    exact h3
theorem run_bneq {P : Program} {f : Fr} {w : World} {o : Oper} {t t2 : TypeId} {x y : Operand} {p q : Prop} [Decidable p] [Decidable q] (ho : o.op = .binOp .neq t x y t2) (hu : P.underlying t = some .bool) (hx : opv f x = .bool (decide p)) (hy : opv f y = .bool (decide q)) :
    (execOp (opv f) o).run P w = .ok (.value (.bool (decide (¬ (p ↔ q))))) w := by
  have e : (decide (¬ (p ↔ q)) : Bool) = !(decide p == decide q) := by by_cases hp : p <;> by_cases hq : q <;> simp [hp, hq]
  rw [e]
  unfold execOp; rw [ho]; simp only []; rw [hx, hy]
  have h2 : (Op.equal t (.bool (decide p)) (.bool (decide q))).run P w = .ok (decide p == decide q) w := run_equalIn_bool w 9999 t _ _ hu
  simp [binOp, eqGuard, h2]
theorem run_beql {P : Program} {f : Fr} {w : World} {o : Oper} {t t2 : TypeId} {x y : Operand} {p q : Prop} [Decidable p] [Decidable q] (ho : o.op = .binOp .eql t x y t2) (hu : P.underlying t = some .bool) (hx : opv f x = .bool (decide p)) (hy : opv f y = .bool (decide q)) :
    (execOp (opv f) o).run P w = .ok (.value (.bool (decide (p ↔ q)))) w := by
  have e : (decide (p ↔ q) : Bool) = (decide p == decide q) := by by_cases hp : p <;> by_cases hq : q <;> simp [hp, hq]
  rw [e]
  unfold execOp; rw [ho]; simp only []; rw [hx, hy]
  have h2 : (Op.equal t (.bool (decide p)) (.bool (decide q))).run P w = .ok (decide p == decide q) w := run_equalIn_bool w 9999 t _ _ hu
  simp [binOp, eqGuard, h2]
end Go.Vc
namespace Go.Vc
open Go Go.RowKit Go.IntWalk

theorem Evo.weaken {w w' : World} {X Y : List Nat} (h : Evo w w' X) (hX : ∀ x ∈ X, x ∈ Y ∨ w.heap.size ≤ x) : Evo w w' Y :=
  ⟨h.os, h.tape, h.output, h.size, fun b hb hn => h.same b hb (fun hm => by
    rcases hX b hm with h1 | h1
    · exact hn h1
    · omega)⟩

/-- 'v' owns a row of 'l'; what its elements hold is as it is in every world that differs in new blocks, in those of 'Y' and in the row's own -/
def OwnR {α : Type} [Rep α] (w : World) (base : Nat) (E : TypeId) (Y : List Nat) (v : Value) (l : List α) : Prop :=
  ∃ css, Own w base E (Rep.n α) v css ∧ ∀ w', Evo w w' (Y ++ v.ownBlock.toList) → RepL w' css l
section
variable {α : Type} [Rep α] {w w' : World} {base : Nat} {E : TypeId} {Y X : List Nat} {v : Value} {l : List α}
theorem OwnR.nil (w : World) (base : Nat) (E : TypeId) (Y : List Nat) : OwnR (α := α) w base E Y (.slice none 0 0) [] := ⟨[], Own.nil _ _ _ _, fun _ _ => RepL.nil _⟩
theorem OwnR.block (h : OwnR w base E Y v l) {g : Nat} (hg : v.ownBlock = some g) : base ≤ g ∧ g < w.heap.size := let ⟨_, h1, _⟩ := h; h1.block hg
theorem OwnR.shape (h : OwnR w base E Y v l) : ∃ ao cap, v = .slice ao l.length cap := by
  obtain ⟨css, h1, h2⟩ := h
  have := (h2 w (Evo.refl _ _)).1
  rw [← this]
  exact h1.shape
theorem OwnR.bd (h : OwnR w base E Y v l) : l.length ≤ 140737488355328 := by
  obtain ⟨css, h1, h2⟩ := h
  rw [← (h2 w (Evo.refl _ _)).1]
  exact h1.bd
theorem OwnR.evo (h : OwnR w base E Y v l) (he : Evo w w' X) (hX : ∀ x ∈ X, x ∈ Y ∨ w.heap.size ≤ x) (hb : ∀ g, v.ownBlock = some g → g ∉ X) : OwnR w' base E Y v l := by
  obtain ⟨css, h1, h2⟩ := h
  refine ⟨css, h1.evo he hb, fun w'' he2 => h2 w'' (Evo.trans (he.weaken (Y := Y ++ v.ownBlock.toList) (fun x hx => ?_)) he2 (fun x hx _ => hx))⟩
  rcases hX x hx with h3 | h3
  · exact .inl (List.mem_append_left _ h3)
  · exact .inr h3
theorem OwnR.evo0 (h : OwnR w base E Y v l) (he : Evo w w' []) : OwnR w' base E Y v l := h.evo he (by simp) (by simp)
/-- with what is in 'Y' written -/
theorem OwnR.evoY (h : OwnR w base E Y v l) (he : Evo w w' Y) (hb : ∀ y ∈ Y, y < base) : OwnR w' base E Y v l := h.evo he (fun x hx => .inl hx) (fun g hg hm => by have := hb g hm; have := h.block hg; omega)
theorem OwnR.sub {base' : Nat} {Y' : List Nat} (h : OwnR w base E Y v l) (hb : base' ≤ base) (hY : ∀ y ∈ Y', y ∈ Y) : OwnR w base' E Y' v l := by
  obtain ⟨css, h1, h2⟩ := h
  refine ⟨css, h1.base_le hb, fun w' he => h2 w' (he.mono (fun x hx => ?_))⟩
  rcases List.mem_append.1 hx with h3 | h3
  · exact List.mem_append_left _ (hY x h3)
  · exact List.mem_append_right _ h3
theorem OwnR.rowOf (h : OwnR w base E Y v l) : ∃ ao g cap, v = .slice ao l.length cap ∧ RowR w ao g 0 cap l := by
  obtain ⟨css, h1, h2⟩ := h
  have h3 := h2 w (Evo.refl _ _)
  obtain ⟨ao, g, cap, hv, hr, _⟩ := h1.rowOf
  exact ⟨ao, g, cap, by rw [← h3.1]; exact hv, css, hr, h3⟩
theorem run_lenOR {P : Program} {f : Fr} {o : Oper} {t e : TypeId} {x : Operand} (ho : o.op = .call ⟨.builtin .len, #[x], #[t]⟩) (hx : opv f x = v) (ht : P.underlying t = some (.slice e)) (hown : OwnR w base E Y v l) :
    (execOp (opv f) o).run P w = .ok (.value (.int .i64 (l.length : Int))) w := by
  obtain ⟨ao, cap, rfl⟩ := hown.shape
  exact run_lenSl ho hx ht
/-- 'x = append(x, e)' -/
theorem r_append1R {P : Program} {B : Exit → Act → World → Prop} {n : Nat} {k : List Kont} {f : Fr} {ops : Array Oper} {rest : List Oper} {T d d1 bb m : Nat} {t t1 : TypeId} {pos pos1 : String} {aft aft1 : Array Edge} {x e : Operand} {z u : Value} {us : List Value} {y : α}
    (hd : Nat.blt d n = true) (hd1 : Nat.blt d1 n = true) (hu : P.underlying T = some (.slice E)) (ht : tyP P E = some (m, bb, some z)) (hzs : z.cells.size = m) (hm : (Nat.ble 1 m && Nat.ble m 10000) = true) (hmn : m = Rep.n α)
    (hown : OwnR w base E Y v l) (hx : ∀ q, opv (upd f d1 q) x = v) (he : opv f e = u) (hus : u.cells = us.toArray) (hml : us.length = m) (h1 : oneCells us = true) (hrep : ∀ w', Evo w w' (Y ++ v.ownBlock.toList) → Rep.rep w' us y)
    (hbytes : (l.length + 1) * bb ≤ 140737488355328) (hlen : l.length + 1 ≤ 140737488355328) (hbase : base ≤ w.heap.size)
    (h : ∀ q v' w', Evo w w' v.ownBlock.toList → OwnR w' base E Y v' (l ++ [y]) → (v'.ownBlock = v.ownBlock ∨ ∃ g, v'.ownBlock = some g ∧ w.heap.size ≤ g) → KL P B n ops k rest (upd (upd f d1 q) d v') w') :
    KL P B n ops k (⟨some d1, .buildSlice T 1 #[(0, e)], t1, pos1, aft1, none⟩ :: ⟨some d, .call ⟨.builtin .append, #[x, .tmp d1], #[T, T]⟩, t, pos, aft, none⟩ :: rest) f w := by
  subst hmn
  obtain ⟨css, h2, h3⟩ := hown
  have hl := (h3 w (Evo.refl _ _)).1
  refine r_append1 hd hd1 hu ht hzs hm h2 hx he hus hml h1 (by rw [hl]; exact hbytes) (by rw [hl]; exact hlen) hbase (fun q v' w' he' hown' hloc => h q v' w' he' ⟨_, hown', fun w'' he2 => ?_⟩ hloc)
  have hE : Evo w w'' (Y ++ v.ownBlock.toList) := Evo.trans (he'.weaken (fun x hx => .inl (List.mem_append_right _ hx))) he2 (fun x hx hlt => by
    rcases List.mem_append.1 hx with h4 | h4
    · exact List.mem_append_left _ h4
    · have h5 : v'.ownBlock = some x := by simpa using h4
      rcases hloc with h6 | ⟨g, h6, h7⟩
      · exact List.mem_append_right _ (by rw [← h6]; exact h4)
      · rw [h5] at h6; injection h6 with h6; omega)
  exact (h3 w'' hE).append (RepL.one (hrep w'' hE))
end

theorem run_quow {P : Program} {f : Fr} {w : World} {o : Oper} {t t2 : TypeId} {x y : Operand} {a b : Int} (ho : o.op = .binOp .quo t x y t2) (hx : opv f x = .int .i64 a) (hy : opv f y = .int .i64 b) (h0 : b ≠ 0) :
    (execOp (opv f) o).run P w = .ok (.value (.int .i64 (IntKind.i64.wrap (a.tdiv b)))) w := by
  refine run_bin ho hx hy ?_
  simp [binOp, Op.intDiv, h0]
/-! ### A store into an element of our own slice -/
theorem flatten_set (m : Nat) : ∀ (css : List (List Value)) (i k : Nat) (c vs : List Value), (∀ cs ∈ css, cs.length = m) → css[i]? = some c → k + vs.length ≤ m →
    css.flatten.take (i * m + k) ++ vs ++ css.flatten.drop (i * m + k + vs.length) = (css.set i (c.take k ++ vs ++ c.drop (k + vs.length))).flatten
  | [], i, k, c, vs, _, h, _ => by simp at h
  | d :: css, 0, k, c, vs, hm, h, hk => by
    simp at h; subst h
    have hd : d.length = m := hm d (by simp)
    simp only [List.flatten_cons, Nat.zero_mul, Nat.zero_add, List.set_cons_zero]
    rw [List.take_append_of_le_length (by omega), List.drop_append_of_le_length (by omega)]
    simp
  | d :: css, i + 1, k, c, vs, hm, h, hk => by
    have hd : d.length = m := hm d (by simp)
    have ih := flatten_set m css i k c vs (fun x hx => hm x (by simp [hx])) (by simpa using h) hk
    simp only [List.flatten_cons, List.set_cons_succ]
    rw [← ih]
    have e1 : (i + 1) * m + k = d.length + (i * m + k) := by rw [hd, Nat.add_mul]; omega
    have e2 : (i + 1) * m + k + vs.length = d.length + (i * m + k + vs.length) := by omega
    rw [e2, e1, List.take_length_add_append, List.drop_length_add_append]
    simp
section
variable {P : Program} {B : Exit → Act → World → Prop} {n : Nat} {k : List Kont} {f : Fr} {w : World} {ops : Array Oper} {rest : List Oper}
theorem r_storeO {T E : TypeId} {t : TypeId} {pos : String} {aft : Array Edge} {x y : Operand} {base g m mt bb off : Nat} {z : Option Value} {v u : Value} {css : List (List Value)} {vs c : List Value} (i k0 : Nat)
    (hx : opv f x = .pointer (some ⟨g, off, none⟩)) (hoff : off = 0 + i * m + k0) (hy : opv f y = u) (hown : Own w base E m v css) (hg : v.ownBlock = some g) (hc : css[i]? = some c) (ht : tyP P T = some (mt, bb, z)) (hv : u.cells = vs.toArray) (hm : vs.length = mt)
    (h1 : oneCells vs = true) (hk : k0 + vs.length ≤ m)
    (h : ∀ w', Evo w w' [g] → w'.heap.size = w.heap.size → Own w' base E m v (css.set i (c.take k0 ++ vs ++ c.drop (k0 + vs.length))) → KL P B n ops k rest f w') :
    KL P B n ops k (⟨none, .store T x y, t, pos, aft, none⟩ :: rest) f w := by
  subst hoff
  have hi : i < css.length := by
    rcases Nat.lt_or_ge i css.length with h2 | h2
    · exact h2
    · rw [List.getElem?_eq_none h2] at hc; cases hc
  have hcm : c.length = m := hown.each c (List.mem_of_getElem? hc)
  rcases hown.row.2 with ⟨hv2, _⟩ | ⟨g2, cap, cur, hv2, hb, hblk, hn, hcap, hs, htk⟩
  · rw [hv2] at hg; cases hg
  · have e : g2 = g := by rw [hv2] at hg; simpa [Value.ownBlock] using hg
    subst e
    have hB : Blk w g2 E cur.toList := by simpa [Blk] using hblk
    have hle : i * m + m ≤ css.length * m := by have := Nat.mul_le_mul_right m (show i + 1 ≤ css.length from hi); rw [Nat.add_mul, Nat.one_mul] at this; exact this
    have hle2 : css.length * m ≤ cap * m := Nat.mul_le_mul_right m hn
    refine r_store (T' := E) (cs' := cur.toList.take (0 + i * m + k0) ++ vs ++ cur.toList.drop (0 + i * m + k0 + vs.length)) hx hy hB ht hv hm h1 ?_ rfl (fun w' he hsz hB' => h w' he hsz ⟨⟨?_, .inr ⟨g2, cap, (cur.toList.take (0 + i * m + k0) ++ vs ++ cur.toList.drop (0 + i * m + k0 + vs.length)).toArray, ?_, hb, hB', ?_, hcap, ?_, ?_⟩⟩, ?_, ?_⟩)
    · rw [Nat.ble_eq]; simp [hs]; omega
    · rw [flatten_length _ m, List.length_set]
      intro d hd
      rcases List.mem_or_eq_of_mem_set hd with h3 | h3
      · exact hown.each d h3
      · rw [h3]; simp; omega
    · rw [hv2, List.length_set]
    · rw [List.length_set]; exact hn
    · simp [hs]; omega
    · rw [List.length_set]
      rw [← flatten_set m css i k0 c vs hown.each hc hk]
      have hfl := flatten_length css m hown.each
      obtain ⟨R, hcur⟩ : ∃ R, cur.toList = css.flatten ++ R := ⟨cur.toList.drop (css.length * m), by rw [← htk, List.take_append_drop]⟩
      have e1 : (css.flatten ++ R).take (i * m + k0) = css.flatten.take (i * m + k0) := List.take_append_of_le_length (by omega)
      have e2 : (css.flatten ++ R).drop (i * m + k0 + vs.length) = css.flatten.drop (i * m + k0 + vs.length) ++ R := List.drop_append_of_le_length (by omega)
      simp only [Nat.zero_add]
      rw [hcur, e1, e2, ← List.append_assoc]
      refine List.take_left' ?_
      simp only [List.length_append, List.length_take, List.length_drop]
      omega
    · intro d hd
      rcases List.mem_or_eq_of_mem_set hd with h3 | h3
      · exact hown.each d h3
      · rw [h3]; simp; omega
    · rw [List.length_set]; exact hown.bd
end

/-! ### Sides -/
theorem side_own {w : World} {base E : Nat} {Y : List Nat} {v vs : Value} {ls : List Str} (len : Int) (h : OwnE w base E vs ls) (hY : ∀ y ∈ Y, y < base) (hv : ∀ g, v.ownBlock = some g → g < base) :
    ∀ w', Evo w w' (Y ++ v.ownBlock.toList) → Rep.rep w' [.int .i64 len, vs] (⟨len, ls⟩ : Side) := fun w' he => by
  have h2 := h.evo he (fun g hg hm => by
    have hb := (h.block hg).1
    rcases List.mem_append.1 hm with h3 | h3
    · have := hY g h3; omega
    · have := hv g (by simpa using h3); omega)
  obtain ⟨ao, g, cap, hv2, hr, _⟩ := h2.rowOf
  exact ⟨ao, g, 0, cap, by rw [hv2], hr⟩
theorem side_row {w0 w : World} {Y : List Nat} {v : Value} {ao : Option Addr} {b off cap : Nat} {ls : List Str} (len : Int) (h0 : ∀ w', Evo w0 w' [] → RowE w' ao b off cap ls) (hV : Evo w0 w []) (hY : ∀ y ∈ Y, w0.heap.size ≤ y) (hv : ∀ g, v.ownBlock = some g → w0.heap.size ≤ g) :
    ∀ w', Evo w w' (Y ++ v.ownBlock.toList) → Rep.rep w' [.int .i64 len, .slice ao ls.length cap] (⟨len, ls⟩ : Side) := fun w' he =>
  ⟨ao, b, off, cap, rfl, h0 w' (hV.trans he (fun x hx hlt => by
    rcases List.mem_append.1 hx with h3 | h3
    · have := hY x h3; omega
    · have := hv x (by simpa using h3); omega))⟩
/-- a slice literal of values with memory behind them, as a row -/
theorem rowLitR {α : Type} [Rep α] {w : World} {b : Nat} {T : TypeId} {cs : List Value} (css : List (List Value)) (l : List α) (h : Blk w b T cs) (hc : cs = css.flatten) (hr : RepL w css l) (hl : Nat.ble l.length 10000 = true) : RowR w (some ⟨b, 0, none⟩) b 0 l.length l := by
  subst hc
  have hlen : ∀ c ∈ css, c.length = Rep.n α := by
    intro c hc
    obtain ⟨i, hi⟩ := List.getElem?_of_mem hc
    have hi2 : i < l.length := by
      rw [← hr.1]
      rcases Nat.lt_or_ge i css.length with h1 | h1
      · exact h1
      · rw [List.getElem?_eq_none h1] at hi; cases hi
    exact Rep.len (hr.2 i c l[i] hi (by simp [hi2]))
  refine ⟨css, ⟨⟨by rw [hr.1]; exact Nat.le_refl _, by rw [hr.1]; have := Nat.le_of_ble_eq_true hl; omega⟩, fun _ => rfl, fun i cs hi => ?_⟩, hr⟩
  have hcs := hlen cs (List.mem_of_getElem? hi)
  refine ⟨hcs, fun j v hj => ?_⟩
  have hjm : j < Rep.n α := by
    rcases Nat.lt_or_ge j (Rep.n α) with h1 | h1
    · exact h1
    · rw [List.getElem?_eq_none (by omega)] at hj; cases hj
  have := h.at (i * Rep.n α + j) v (by rw [flatten_at _ _ i j cs hlen hi hjm]; exact hj)
  rwa [← Nat.add_assoc] at this
theorem side_lit {w : World} {b : Nat} {ls : List Str} {n cap : Nat} (len : Int) (h : RowE w (some ⟨b, 0, none⟩) b 0 cap ls) (hn : n = ls.length) : Rep.rep w [.int .i64 len, .slice (some ⟨b, 0, none⟩) n cap] (⟨len, ls⟩ : Side) := ⟨_, b, 0, cap, by rw [hn], h⟩
theorem side_nil (w : World) (len : Int) : Rep.rep w [.int .i64 len, .slice none 0 0] (⟨len, []⟩ : Side) := ⟨none, 0, 0, 0, rfl, RowE.nil _ _ _ _ _⟩
end Go.Vc
namespace Go.Vc
open Go Go.RowKit Go.IntWalk
section
variable {α : Type} [Rep α] {w w' : World} {base : Nat} {E : TypeId} {Y X Z : List Nat} {v : Value} {l : List α}
theorem OwnR.grow (h : OwnR w base E Y v l) (he : Evo w w' X) (hX : ∀ x ∈ X, x ∈ Y ∨ w.heap.size ≤ x) (hb : ∀ g, v.ownBlock = some g → g ∉ X) (hZ : ∀ z ∈ Z, z ∈ Y ∨ w.heap.size ≤ z) : OwnR w' base E Z v l := by
  obtain ⟨css, h1, h2⟩ := h
  refine ⟨css, h1.evo he hb, fun w'' he2 => h2 w'' (Evo.trans (he.weaken (Y := Y ++ v.ownBlock.toList) (fun x hx => ?_)) he2 (fun x hx hlt => ?_))⟩
  · rcases hX x hx with h3 | h3
    · exact .inl (List.mem_append_left _ h3)
    · exact .inr h3
  · rcases List.mem_append.1 hx with h3 | h3
    · rcases hZ x h3 with h4 | h4
      · exact List.mem_append_left _ h4
      · omega
    · exact List.mem_append_right _ h3
theorem RepL.set {css : List (List Value)} {cs : List Value} {x : α} (h : RepL w css l) (i : Nat) (hx : Rep.rep w cs x) : RepL w (css.set i cs) (l.set i x) := by
  refine ⟨by simp [h.1], fun j ds y h1 h2 => ?_⟩
  rw [List.getElem?_set] at h1 h2
  by_cases hij : i = j
  · subst hij
    rw [if_pos rfl] at h1 h2
    split at h1
    · rename_i hl
      rw [if_pos (by rw [← h.1]; exact hl)] at h2
      injection h1 with h1; injection h2 with h2
      rw [← h1, ← h2]; exact hx
    · cases h1
  · rw [if_neg hij] at h1 h2
    exact h.2 j ds y h1 h2
end
theorem r_storeLen {P : Program} {B : Exit → Act → World → Prop} {n : Nat} {k : List Kont} {f : Fr} {w : World} {ops : Array Oper} {rest : List Oper} {T E : TypeId} {t : TypeId} {pos : String} {aft : Array Edge} {x y : Operand} {base bb off len cap c2 : Nat} {z0 : Option Value} {ao : Option Addr} {Y : List Nat} {l : List Side} {z : Int} {g0 : Nat} (i : Nat)
    (hx : opv f x = .pointer (some ⟨g0, off, none⟩)) (hoff : off = 0 + i * 2 + 0) (hy : opv f y = .int .i64 z) (h : OwnR w base E Y (.slice ao len cap) l) (hr : RowR w ao g0 0 c2 l) (hi : i < l.length) (ht : tyP P T = some (1, bb, z0))
    (hk : ∀ w', Evo w w' (Value.slice ao len cap).ownBlock.toList → w'.heap.size = w.heap.size → OwnR w' base E Y (.slice ao len cap) (l.set i ⟨z, (l.getD i default).anchors⟩) → KL P B n ops k rest f w') :
    KL P B n ops k (⟨none, .store T x y, t, pos, aft, none⟩ :: rest) f w := by
  obtain ⟨css, h1, h2⟩ := h
  have hg : (Value.slice ao len cap).ownBlock = some g0 := by rw [hr.addr hi]; rfl
  have hl := h2 w (Evo.refl _ _)
  have hic : i < css.length := by rw [hl.1]; exact hi
  have hget : ∀ w', RepL w' css l → ∃ ao b off cap, css[i] = [.int .i64 (l.getD i default).len, .slice ao (l.getD i default).anchors.length cap] ∧ RowE w' ao b off cap (l.getD i default).anchors := fun w' hR => by
    have h3 := hR.2 i css[i] l[i] (by simp [hic]) (by simp [hi])
    have e : l.getD i default = l[i] := by simp [List.getD, hi]
    rw [e]; exact h3
  obtain ⟨ao1, b1, off1, cap1, hcs, _⟩ := hget w hl
  refine r_storeO (vs := [.int .i64 z]) (c := css[i]) (m := 2) i 0 hx hoff hy h1 hg (by simp [hic]) ht rfl rfl rfl (by simp) (fun w' he hsz hown => hk w' (by rw [hg]; exact he) hsz ?_)
  refine ⟨_, hown, fun w'' he2 => RepL.set ?_ i ?_⟩
  · exact h2 w'' (Evo.trans (he.weaken (fun x hx => .inl (List.mem_append_right _ (by rw [hg]; simpa using hx)))) he2 (fun x hx _ => hx))
  · have h5 := h2 w'' (Evo.trans (he.weaken (fun x hx => .inl (List.mem_append_right _ (by rw [hg]; simpa using hx)))) he2 (fun x hx _ => hx))
    obtain ⟨ao2, b2, off2, cap2, hcs2, hr2⟩ := hget w'' h5
    exact ⟨ao2, b2, off2, cap2, by rw [hcs2]; rfl, hr2⟩
/-- a store into a cell of an element of our own slice of flat values -/
theorem r_storeE {α : Type} [Enc α] [Inhabited α] {P : Program} {B : Exit → Act → World → Prop} {n : Nat} {k : List Kont} {f : Fr} {w : World} {ops : Array Oper} {rest : List Oper} {T E : TypeId} {t : TypeId} {pos : String} {aft : Array Edge} {x yo : Operand} {base mt bb off len cap c2 m : Nat} {z0 : Option Value} {ao : Option Addr} {l : List α} {u : Value} {vs : List Value} {g0 : Nat} (i k0 : Nat) (y : α)
    (hx : opv f x = .pointer (some ⟨g0, off, none⟩)) (hmn : Enc.n α = m) (hoff : off = 0 + i * m + k0) (hy : opv f yo = u) (h : OwnE w base E (.slice ao len cap) l) (hr : RowE w ao g0 0 c2 l) (hi : i < l.length) (ht : tyP P T = some (mt, bb, z0))
    (hv : u.cells = vs.toArray) (hm : vs.length = mt) (h1 : oneCells vs = true) (hk0 : Nat.ble (k0 + vs.length) m = true) (henc : (Enc.enc (l.getD i default)).take k0 ++ vs ++ (Enc.enc (l.getD i default)).drop (k0 + vs.length) = Enc.enc y)
    (hk : ∀ w', Evo w w' (Value.slice ao len cap).ownBlock.toList → w'.heap.size = w.heap.size → OwnE w' base E (.slice ao len cap) (l.set i y) → KL P B n ops k rest f w') :
    KL P B n ops k (⟨none, .store T x yo, t, pos, aft, none⟩ :: rest) f w := by
  subst hmn
  have hg : (Value.slice ao len cap).ownBlock = some g0 := by rw [hr.addr hi]; rfl
  have e : l.getD i default = l[i] := by simp [List.getD, hi]
  rw [e] at henc
  refine r_storeO (vs := vs) (c := Enc.enc l[i]) (m := Enc.n α) i k0 hx hoff hy h hg (by simp [hi]) ht hv hm h1 (Nat.le_of_ble_eq_true hk0) (fun w' he hsz hown => hk w' (by rw [hg]; exact he) hsz ?_)
  rw [henc] at hown
  show Own w' base E (Enc.n α) _ ((l.set i y).map Enc.enc)
  rw [List.map_set]
  exact hown
end Go.Vc
namespace Go.Vc
open Go Go.RowKit Go.IntWalk
/-- internal/bytealg.IndexByteString, by the model's own entry -/
theorem run_extIdx {P : Program} {f : Fr} {w : World} {o : Oper} {g : FuncId} {x y : Operand} {ts : Array TypeId} {fn : Func} {s : List UInt8} {c : UInt8} (ho : o.op = .call ⟨.value (.func g), #[x, y], ts⟩) (hx : opv f x = S s) (hy : opv f y = .int .u8 ((c.toNat : Nat) : Int))
    (hf : P.funcs[g]? = some fn) (hname : (fn.name == "runtime.NumGoroutine") = false) (hb : fn.body.isNone = true) (hn : Extern.findNext fn = none) (he : Extern.find fn = some Extern.BytealgIndexByte.indexByte) :
    (execOp (opv f) o).run P w = .ok (.value (.int .i64 (Lib.indexByte s c))) w := by
  unfold execOp; rw [ho]; simp only [resolve]
  have h1 : (callFunc g #[S s, .int .u8 ((c.toNat : Nat) : Int)]).run P w = .ok (.value (.int .i64 (Lib.indexByte s c))) w := by
    rw [run_callFunc_extern hf hname hb hn he]
    have : (Extern.BytealgIndexByte.indexByte #[S s, .int .u8 ((c.toNat : Nat) : Int)]).run P w = _ := Lib.run_indexByteString (P := P) ⟨s.toArray⟩ ((c.toNat : Nat) : Int) w
    rw [this]
    have e : ((c.toNat : Nat) : Int).toNat.toUInt8 = c := by simp
    rw [e]
    simp [Result.andThen]
  rw [show (#[x, y] : Array Operand).map (opv f) = #[S s, .int .u8 ((c.toNat : Nat) : Int)] by simp [hx, hy]]
  simpa [Deferred.ofValue, invoke] using h1
instance : Enc UInt8 := ⟨1, fun c => [.int .u8 (c.toNat : Int)], fun _ => rfl, fun _ => rfl, by decide⟩
section
variable {P : Program} {B : Exit → Act → World → Prop} {n : Nat} {k : List Kont} {f : Fr} {w : World}
/-- a condition of which it is known already -/
theorem r_condT {c : Operand} {x y : Code} {p : Prop} [Decidable p] (hc : opv f c = .bool (decide p)) (hp : p) (h : KF P B n (.code x :: k) f w) : KF P B n (.code (.cond c x y) :: k) f w :=
  r_cond_yes (by rw [hc, decide_eq_true hp]) h
theorem r_condF {c : Operand} {x y : Code} {p : Prop} [Decidable p] (hc : opv f c = .bool (decide p)) (hp : ¬ p) (h : KF P B n (.code y :: k) f w) : KF P B n (.code (.cond c x y) :: k) f w :=
  r_cond_no (by rw [hc, decide_eq_false hp]) h
/-- a guarded operation that is wanted -/
theorem r_gyes {ops : Array Oper} {rest : List Oper} {d : Option Nat} {op : Op} {t : TypeId} {pos : String} {aft : Array Edge} {j s : Nat} {b : Bool} {g : Prop} [Decidable g] (hj : (ops[j]?).bind (·.dst) = some s) (hw : Wanted f s b g) (hg : g)
    (h : KL P B n ops k (⟨d, op, t, pos, aft, none⟩ :: rest) f w) : KL P B n ops k (⟨d, op, t, pos, aft, some (j, b)⟩ :: rest) f w := r_guard_yes hj (hw.yes hg) h
end
/-- wrapping changes nothing where the number fits -/
theorem wrap_in {a : Int} (h1 : -9223372036854775808 ≤ a) (h2 : a ≤ 9223372036854775807) : IntKind.i64.wrap a = a := by
  simp only [IntKind.wrap, IntKind.bits, IntKind.signed]
  simp
  omega
end Go.Vc
namespace Go.Vc
open Go Go.RowKit Go.IntWalk Go.Deep

/-- what an element's reading tells: its cells are those of a value of 'α' -/
def ElemE (α : Type) [Enc α] (P : Program) (e : TypeId) : Prop :=
  ∀ {H : Type} (enc : TypeId × Value → H) (w : World) (base : Nat) (sp : Nat → Bool) (hd : Bool) (n : Nat) (cs : List Value) (d : DataW H) (pl : List MemPlace), DataW.trod enc P w base sp hd n e cs = some (d, pl) → ∃ x : α, cs = Enc.enc x
def ElemR (α : Type) [Rep α] (P : Program) (e : TypeId) : Prop :=
  ∀ {H : Type} (enc : TypeId × Value → H) (w : World) (base : Nat) (sp : Nat → Bool) (hd : Bool) (n : Nat) (cs : List Value) (d : DataW H) (pl : List MemPlace), DataW.trod enc P w base sp hd n e cs = some (d, pl) → (∀ m ∈ d.weights P e, m ≤ reachBytes) → ∃ x : α, Rep.rep w cs x
section
variable {P : Program} {H : Type} {enc : TypeId × Value → H} {w : World} {base : Nat} {sp : Nat → Bool} {hd : Bool} {t e : TypeId}
theorem elem_int (hu : P.underlying e = some (.int .i64)) : ElemE Int P e := fun _ _ _ _ _ _ _ _ _ h => by
  obtain ⟨n, h1, _⟩ := DataW.trod_int hu h
  exact ⟨n, h1⟩
theorem elem_str (hu : P.underlying e = some .string) : ElemE Str P e := fun _ _ _ _ _ _ _ _ _ h => by
  obtain ⟨s, h1, _⟩ := DataW.trod_string hu h
  exact ⟨s.data.toList, by rw [h1]; cases s; rfl⟩
theorem at_of_cells {w : World} {base : Nat} {a : Addr} {n : Nat} {cs : List Value} (h : w.cells? base a n = some cs) (hn : 0 < n) : a = ⟨a.block, a.off, none⟩ ∧ At w a.block a.off cs := by
  obtain ⟨_, h1, h2⟩ := World.cells?_some h
  have hs : ∀ (b : Addr) (v : Value), w.cell? b = some v → b.spot = none := by
    intro b v hb
    unfold World.cell? at hb
    split at hb
    · split at hb
      · cases hb
      · rename_i h3; simpa using h3
    · cases hb
  have h0 := h2 0 hn
  have hc0 : ∃ v, cs[0]? = some v := ⟨cs[0]'(by omega), by simp [h1, hn]⟩
  obtain ⟨v, hv⟩ := hc0
  rw [hv, show a.add 0 = a by unfold Addr.add; rw [if_pos rfl]] at h0
  have ha := hs _ v h0
  have hae : a = ⟨a.block, a.off, none⟩ := by cases a; simp_all
  refine ⟨hae, fun j u hj => ?_⟩
  have hjn : j < n := by
    rcases Nat.lt_or_ge j n with h4 | h4
    · exact h4
    · rw [List.getElem?_eq_none (by omega)] at hj; cases hj
  have h4 := h2 j hjn
  rw [hj, hae, add_lit] at h4
  exact h4
/-- a slice of plain elements -/
theorem openE {α : Type} [Enc α] (hu : P.underlying t = some (.slice e)) (hc : P.cellsOf e = Enc.n α) (hb : 1 ≤ P.bytesOf e) (hel : ElemE α P e) {fuel : Nat} {ao : Option Addr} {len cap : Nat} {d : DataW H} {pl : List MemPlace}
    (h : DataW.trod enc P w base sp hd fuel t [.slice ao len cap] = some (d, pl)) (hw : ∀ m ∈ d.weights P t, m ≤ reachBytes) : ∃ b off, ∃ l : List α, len = l.length ∧ RowE w ao b off cap l := by
  rcases open_slice hu h with ⟨h1, _⟩ | ⟨a, len', cap', m, n, D, Pl, h1, _, hl, _, hm, hx, hall⟩
  · simp only [List.cons.injEq, Value.slice.injEq, and_true] at h1
    obtain ⟨rfl, rfl, rfl⟩ := h1
    exact ⟨0, 0, [], rfl, RowE.nil _ _ _ _ _⟩
  · simp only [List.cons.injEq, Value.slice.injEq, and_true] at h1
    obtain ⟨rfl, rfl, rfl⟩ := h1
    have hlm : len ≤ m := by rw [hm]; split <;> omega
    have ha : 0 < len → a = ⟨a.block, a.off, none⟩ := fun h0 => by
      obtain ⟨cs, h2, _⟩ := hall 0 (by omega)
      rw [Nat.zero_mul, show a.add 0 = a by unfold Addr.add; rw [if_pos rfl], hc] at h2
      exact (at_of_cells h2 (Enc.pos (α := α))).1
    have hex : ∀ i, i < len → ∃ x : α, At w a.block (a.off + i * Enc.n α) (Enc.enc x) := fun i hi => by
      obtain ⟨cs, h2, h3⟩ := hall i (by omega)
      obtain ⟨x, hx2⟩ := hel enc w base sp hd n cs _ _ h3
      rw [hc, ha (by omega), add_lit] at h2
      exact ⟨x, by rw [← hx2]; exact (at_of_cells h2 (Enc.pos (α := α))).2⟩
    have hbd : len ≤ 140737488355328 := by
      have h2 : d = _ := congrArg Prod.fst hx
      have h3 := hw ((((List.range len).map D).length + ((List.range (m - len)).map fun j => D (len + j)).length) * P.bytesOf e) (by rw [h2]; simp [DataW.weights, hu])
      simp only [List.length_map, List.length_range] at h3
      have h4 : len * 1 ≤ (len + (m - len)) * P.bytesOf e := Nat.mul_le_mul (by omega) hb
      have h5 := reachBytes_lt
      omega
    by_cases h0 : len = 0
    · subst h0; exact ⟨0, 0, [], rfl, ⟨by simp, by simp, by simp⟩⟩
    · obtain ⟨x0, _⟩ := hex 0 (by omega)
      obtain ⟨f, hf⟩ : ∃ f : Nat → α, ∀ i, i < len → At w a.block (a.off + i * Enc.n α) (Enc.enc (f i)) := by
        classical
        exact ⟨fun i => if hi : i < len then Classical.choose (hex i hi) else x0, fun i hi => by simp only [dif_pos hi]; exact Classical.choose_spec (hex i hi)⟩
      refine ⟨a.block, a.off, (List.range len).map f, by simp, ⟨by simp; omega, fun _ => congrArg some (ha (by omega)), fun i cs hi => ?_⟩⟩
      have hil : i < len := by
        rcases Nat.lt_or_ge i len with h6 | h6
        · exact h6
        · rw [List.getElem?_eq_none (by simpa using h6)] at hi; cases hi
      simp [hil] at hi
      subst hi
      exact ⟨Enc.len _, hf i hil⟩
theorem weights_elem {ds : List (DataW H)} {d : DataW H} (h : d ∈ ds) {m : Nat} (hm : m ∈ d.weights P e) : m ∈ DataW.weightsAll P e ds := by
  induction ds with
  | nil => cases h
  | cons x r ih =>
    simp only [DataW.weightsAll, List.mem_append]
    rcases List.mem_cons.1 h with rfl | h1
    · exact .inl hm
    · exact .inr (ih h1)
/-- a slice of elements with memory behind them -/
theorem openR {α : Type} [Rep α] (hu : P.underlying t = some (.slice e)) (hc : P.cellsOf e = Rep.n α) (hb : 1 ≤ P.bytesOf e) (hel : ElemR α P e) {fuel : Nat} {ao : Option Addr} {len cap : Nat} {d : DataW H} {pl : List MemPlace}
    (h : DataW.trod enc P w base sp hd fuel t [.slice ao len cap] = some (d, pl)) (hw : ∀ m ∈ d.weights P t, m ≤ reachBytes) : ∃ b off, ∃ l : List α, len = l.length ∧ RowR w ao b off cap l := by
  rcases open_slice hu h with ⟨h1, _⟩ | ⟨a, len', cap', m, n, D, Pl, h1, _, hl, _, hm, hx, hall⟩
  · simp only [List.cons.injEq, Value.slice.injEq, and_true] at h1
    obtain ⟨rfl, rfl, rfl⟩ := h1
    exact ⟨0, 0, [], rfl, RowR.nil _ _ _ _ _⟩
  · simp only [List.cons.injEq, Value.slice.injEq, and_true] at h1
    obtain ⟨rfl, rfl, rfl⟩ := h1
    have hlm : len ≤ m := by rw [hm]; split <;> omega
    have hd2 : d = _ := congrArg Prod.fst hx
    have ha : 0 < len → a = ⟨a.block, a.off, none⟩ := fun h0 => by
      obtain ⟨cs, h2, _⟩ := hall 0 (by omega)
      rw [Nat.zero_mul, show a.add 0 = a by unfold Addr.add; rw [if_pos rfl], hc] at h2
      exact (at_of_cells h2 (Rep.pos (α := α))).1
    have hex : ∀ i, i < len → ∃ y : List Value × α, At w a.block (a.off + i * Rep.n α) y.1 ∧ Rep.rep w y.1 y.2 := fun i hi => by
      obtain ⟨cs, h2, h3⟩ := hall i (by omega)
      obtain ⟨x, hx2⟩ := hel enc w base sp hd n cs _ _ h3 (fun q hq => hw q (by
        rw [hd2]
        simp only [DataW.weights, hu, List.mem_cons, List.mem_append]
        exact .inr (.inl (weights_elem (List.mem_map.2 ⟨i, List.mem_range.2 hi, rfl⟩) hq))))
      rw [hc, ha (by omega), add_lit] at h2
      exact ⟨(cs, x), (at_of_cells h2 (Rep.pos (α := α))).2, hx2⟩
    have hbd : len ≤ 140737488355328 := by
      have h3 := hw ((((List.range len).map D).length + ((List.range (m - len)).map fun j => D (len + j)).length) * P.bytesOf e) (by rw [hd2]; simp [DataW.weights, hu])
      simp only [List.length_map, List.length_range] at h3
      have h4 : len * 1 ≤ (len + (m - len)) * P.bytesOf e := Nat.mul_le_mul (by omega) hb
      have h5 := reachBytes_lt
      omega
    by_cases h0 : len = 0
    · subst h0; exact ⟨0, 0, [], rfl, RowR.nil _ _ _ _ _⟩
    · obtain ⟨y0, _⟩ := hex 0 (by omega)
      obtain ⟨f, hf⟩ : ∃ f : Nat → List Value × α, ∀ i, i < len → At w a.block (a.off + i * Rep.n α) (f i).1 ∧ Rep.rep w (f i).1 (f i).2 := by
        classical
        exact ⟨fun i => if hi : i < len then Classical.choose (hex i hi) else y0, fun i hi => by simp only [dif_pos hi]; exact Classical.choose_spec (hex i hi)⟩
      have hgl : ∀ (i : Nat) {β : Type} (g : Nat → β) (z : β), ((List.range len).map g)[i]? = some z → i < len ∧ g i = z := by
        intro i β g z hz
        have hil : i < len := by
          rcases Nat.lt_or_ge i len with h6 | h6
          · exact h6
          · rw [List.getElem?_eq_none (by simpa using h6)] at hz; cases hz
        simp [hil] at hz
        exact ⟨hil, hz⟩
      refine ⟨a.block, a.off, (List.range len).map (fun i => (f i).2), by simp, (List.range len).map (fun i => (f i).1), ⟨by simp; omega, fun _ => congrArg some (ha (by omega)), fun i cs hi => ?_⟩, by simp, fun i cs x h1 h2 => ?_⟩
      · obtain ⟨hil, rfl⟩ := hgl i _ _ hi
        exact ⟨Rep.len (hf i hil).2, (hf i hil).1⟩
      · obtain ⟨hil, rfl⟩ := hgl i _ _ h1
        obtain ⟨_, rfl⟩ := hgl i _ _ h2
        exact (hf i hil).2
theorem elem_side {f0 f1 : Field} {se : TypeId} (ht : P.underlying e = some (.struct #[f0, f1])) (h2 : P.cellsOf e = 2) (o0 : f0.offset = 0) (c0 : P.cellsOf f0.type = 1) (o1 : f1.offset = 1) (c1 : P.cellsOf f1.type = 1)
    (u0 : P.underlying f0.type = some (.int .i64)) (u1 : P.underlying f1.type = some (.slice se)) (us : P.underlying se = some .string) (cs0 : P.cellsOf se = 1) (bs0 : 1 ≤ P.bytesOf se) : ElemR Side P e := by
  intro H enc w base sp hd n cs d pl h hw
  obtain ⟨y0, y1, m, hx, hl, h3, h4⟩ := ChangeShapes.trod_struct2 ht h
  rw [o0, c0] at h3
  rw [o1, c1] at h4
  rw [h2] at hl
  match cs, hl with
  | [v, u], _ =>
    obtain ⟨k, h5, _⟩ := DataW.trod_int u0 h3
    simp only [List.drop_zero, List.take_succ_cons, List.take_zero, List.cons.injEq, and_true] at h5
    subst h5
    simp only [List.drop_succ_cons, List.drop_zero, List.take_succ_cons, List.take_zero] at h4
    have hd2 : d = .agg [y0.1, y1.1] := congrArg Prod.fst hx
    have hw1 : ∀ q ∈ y1.1.weights P f1.type, q ≤ reachBytes := fun q hq => hw q (by rw [hd2]; simp [DataW.weights, ht, DataW.weightsEach, hq])
    rcases open_slice u1 h4 with ⟨h6, _⟩ | ⟨a, len, cap, _, _, _, _, h6, _⟩
    · simp only [List.cons.injEq, and_true] at h6
      subst h6
      exact ⟨⟨k, []⟩, none, 0, 0, 0, rfl, RowE.nil _ _ _ _ _⟩
    · simp only [List.cons.injEq, and_true] at h6
      subst h6
      obtain ⟨b, off, l, rfl, hr⟩ := openE (α := Str) u1 cs0 bs0 (elem_str us) (d := y1.1) (pl := y1.2) (by simpa using h4) hw1
      exact ⟨⟨k, l⟩, _, b, off, cap, rfl, hr⟩
end
end Go.Vc
namespace Go.Vc
open Go Go.RowKit Go.IntWalk
def zs (l : List Int) : List Value := l.map (Value.int .i64)
/-- a value whose cells are integers -/
def vz (g : Bool) (l : List Int) : Value := if g then .agg (zs l).toArray else (zs l).headD .nilFunc
/-- the type's cells are 'n' integers, and two of its values are compared cell by cell -/
structure EqI (P : Program) (m T n : Nat) (g : Bool) : Prop where
  ag : aggP P T = some g
  sz : ∃ bb z, tyP P T = some (n, bb, z)
  one : g = false → n = 1
  eq : ∀ (d : Nat) (w : World) (as bs : List Int), as.length = n → bs.length = n → (Op.equalIn (d + m) T (vz g as) (vz g bs)).run P w = .ok (decide (as = bs)) w
section
variable {P : Program}
theorem EqI.int {T bb : Nat} {z : Option Value} (hu : P.underlying T = some (.int .i64)) (ha : aggP P T = some false) (ht : tyP P T = some (1, bb, z)) : EqI P 1 T 1 false :=
  ⟨ha, ⟨_, _, ht⟩, fun _ => rfl, fun d w as bs h1 h2 => by
    rcases as with _ | ⟨a, _ | ⟨a1, l⟩⟩
    · simp at h1
    · rcases bs with _ | ⟨b, _ | ⟨b1, l⟩⟩
      · simp at h2
      · show (Op.equalIn (d + 1) T (.int .i64 a) (.int .i64 b)).run P w = _
        rw [run_equalIn_int w d T _ _ a b hu]
        congr 1
        by_cases h : a = b
        · simp [h]
        · simp [h]
      · simp at h2
    · simp at h1⟩
theorem EqI.up {m T n : Nat} {g : Bool} (h : EqI P m T n g) : EqI P (m + 1) T n g :=
  ⟨h.ag, h.sz, h.one, fun d w as bs h1 h2 => by
    have := h.eq (d + 1) w as bs h1 h2
    rw [show d + (m + 1) = d + 1 + m by omega]; exact this⟩
theorem EqI.part {m T n : Nat} {g : Bool} (h : EqI P m T n g) (w : World) (xs : List Int) (off : Nat) (hl : off + n ≤ xs.length) : (part T (zs xs).toArray off).run P w = .ok (vz g ((xs.drop off).take n)) w := by
  obtain ⟨bb, z, hs⟩ := h.sz
  cases g with
  | false =>
    have hn := h.one rfl
    subst hn
    have hlt : off < xs.length := by omega
    have e : (zs xs).toArray[off]? = some (.int .i64 xs[off]) := by simp [zs, hlt]
    rw [run_part1 h.ag e]
    congr 1
    have e2 : (xs.drop off).take 1 = [xs[off]] := by rw [List.drop_eq_getElem_cons hlt]; rfl
    rw [e2]; rfl
  | true =>
    simp [Go.part, run_isAgg h.ag, run_sizeOf hs, vz, zs, List.map_drop, List.map_take]
def LayF (P : Program) (m : Nat) : List Field → Nat → Nat → Prop
  | [], _, n => n = 0
  | f :: fs, off, n => f.name ≠ "_" ∧ f.offset = off ∧ ∃ k g, EqI P m f.type k g ∧ k ≤ n ∧ LayF P m fs (off + k) (n - k)
theorem eqFieldsZ {m : Nat} (d : Nat) (w : World) (xs ys : List Int) : ∀ (fs : List Field) (off n : Nat), LayF P m fs off n → off + n ≤ xs.length → off + n ≤ ys.length →
    (Op.eqFields (d + m) (zs xs).toArray (zs ys).toArray fs).run P w = .ok (decide ((xs.drop off).take n = (ys.drop off).take n)) w
  | [], off, n, h, _, _ => by
    have h : n = 0 := h
    subst h
    simp [Op.eqFields]
  | f :: fs, off, n, ⟨hn, ho, k, g, hE, hk, hL⟩, hx, hy => by
    subst ho
    have p1 := hE.part w xs f.offset (by omega)
    have p2 := hE.part w ys f.offset (by omega)
    have p3 := hE.eq d w ((xs.drop f.offset).take k) ((ys.drop f.offset).take k) (by simp; omega) (by simp; omega)
    have ih := eqFieldsZ d w xs ys fs (f.offset + k) (n - k) hL (by omega) (by omega)
    have split : ∀ zs : List Int, (zs.drop f.offset).take n = (zs.drop f.offset).take k ++ (zs.drop (f.offset + k)).take (n - k) := fun zs => by
      conv => lhs; rw [show n = k + (n - k) by omega]
      rw [List.take_add, List.drop_drop]
    have hiff : (xs.drop f.offset).take n = (ys.drop f.offset).take n ↔ (xs.drop f.offset).take k = (ys.drop f.offset).take k ∧ (xs.drop (f.offset + k)).take (n - k) = (ys.drop (f.offset + k)).take (n - k) := by
      rw [split xs, split ys]
      refine ⟨fun h => ?_, fun h => by rw [h.1, h.2]⟩
      exact List.append_inj h (by simp; omega)
    simp only [Op.eqFields, hn, ne_eq, not_false_eq_true, if_true, Sem.run_bind, p1, p2, p3, Result.andThen_ok]
    by_cases h1 : (xs.drop f.offset).take k = (ys.drop f.offset).take k
    · rw [decide_eq_true h1]
      simp only [Bool.not_true, Bool.false_eq_true, if_false, ih]
      congr 1
      exact decide_eq_decide.2 ⟨fun h2 => hiff.2 ⟨h1, h2⟩, fun h2 => (hiff.1 h2).2⟩
    · rw [decide_eq_false h1, decide_eq_false (fun h2 => h1 (hiff.1 h2).1)]
      simp
theorem EqI.struct {m T n bb : Nat} {z : Option Value} {fs : Array Field} (hu : P.underlying T = some (.struct fs)) (hp : P.stoodInHeld T = false) (ha : aggP P T = some true) (ht : tyP P T = some (n, bb, z)) (hL : LayF P m fs.toList 0 n) : EqI P (m + 1) T n true :=
  ⟨ha, ⟨_, _, ht⟩, fun h => (by cases h), fun d w as bs h1 h2 => by
    have hf : P.fieldsOf T = fs := by simp [Program.fieldsOf, hu]
    have h3 := eqFieldsZ d w as bs fs.toList 0 n hL (by omega) (by omega)
    have h4 := run_equalIn_struct (P := P) w (d + m) T (zs as).toArray (zs bs).toArray (by rw [hf]; exact hu) hp
    rw [hf, h3] at h4
    rw [List.drop_zero, List.drop_zero, List.take_of_length_le (by omega), List.take_of_length_le (by omega)] at h4
    exact h4⟩
variable {w : World} {f : Fr} {o : Oper}
theorem run_eqlZ {T T2 : TypeId} {n m : Nat} {x y : Operand} (as bs : List Int) (ho : o.op = .binOp .eql T x y T2) (hg : P.eqGuardType P.depth T = false) (h : EqI P m T n true) (hm : Nat.ble m 10000 = true) (hx : opv f x = .agg (as.map (Value.int .i64)).toArray) (hy : opv f y = .agg (bs.map (Value.int .i64)).toArray)
    (ha : as.length = n) (hb : bs.length = n) : (execOp (opv f) o).run P w = .ok (.value (.bool (decide (as = bs)))) w := by
  unfold execOp; rw [ho]; simp only []; rw [hx, hy]
  have := h.eq (10000 - m) w as bs ha hb
  rw [Nat.sub_add_cancel (Nat.le_of_ble_eq_true hm)] at this
  have h5 : (Op.equalIn 10000 T (.agg (as.map (Value.int .i64)).toArray) (.agg (bs.map (Value.int .i64)).toArray)).run P w = .ok (decide (as = bs)) w := this
  simp only [Sem.run_bind, run_eqGuard_agg w .eql T x y _ _ hg, Result.andThen_ok, run_eql_struct, h5, Sem.run_pure]
theorem run_neqZ {T T2 : TypeId} {n m : Nat} {x y : Operand} (as bs : List Int) (ho : o.op = .binOp .neq T x y T2) (hg : P.eqGuardType P.depth T = false) (h : EqI P m T n true) (hm : Nat.ble m 10000 = true) (hx : opv f x = .agg (as.map (Value.int .i64)).toArray) (hy : opv f y = .agg (bs.map (Value.int .i64)).toArray)
    (ha : as.length = n) (hb : bs.length = n) : (execOp (opv f) o).run P w = .ok (.value (.bool (decide (¬ as = bs)))) w := by
  unfold execOp; rw [ho]; simp only []; rw [hx, hy]
  have := h.eq (10000 - m) w as bs ha hb
  rw [Nat.sub_add_cancel (Nat.le_of_ble_eq_true hm)] at this
  have h5 : (Op.equalIn 10000 T (.agg (as.map (Value.int .i64)).toArray) (.agg (bs.map (Value.int .i64)).toArray)).run P w = .ok (decide (as = bs)) w := this
  simp only [Sem.run_bind, run_eqGuard_agg w .neq T x y _ _ hg, Result.andThen_ok, run_neq_struct, h5, Sem.run_pure]
  simp
end
end Go.Vc
namespace Go.Vc
open Go Go.RowKit Go.IntWalk Go.Deep
def ElemZ (P : Program) (e n : Nat) : Prop :=
  ∀ {H : Type} (enc : TypeId × Value → H) (w : World) (base : Nat) (sp : Nat → Bool) (hd : Bool) (m : Nat) (cs : List Value) (d : DataW H) (pl : List MemPlace), DataW.trod enc P w base sp hd m e cs = some (d, pl) → ∃ l : List Int, l.length = n ∧ cs = zs l
section
variable {P : Program} {e : TypeId}
theorem ElemZ.int (hu : P.underlying e = some (.int .i64)) : ElemZ P e 1 := fun _ _ _ _ _ _ _ _ _ h => by
  obtain ⟨n, h1, _⟩ := DataW.trod_int hu h
  exact ⟨[n], rfl, h1⟩
theorem ElemZ.struct2 {f0 f1 : Field} {n0 n1 : Nat} (ht : P.underlying e = some (.struct #[f0, f1])) (hc : P.cellsOf e = n0 + n1) (o0 : f0.offset = 0) (c0 : P.cellsOf f0.type = n0) (o1 : f1.offset = n0) (c1 : P.cellsOf f1.type = n1)
    (h0 : ElemZ P f0.type n0) (h1 : ElemZ P f1.type n1) : ElemZ P e (n0 + n1) := by
  intro H enc w base sp hd n cs d pl h
  obtain ⟨y0, y1, m, hx, hl, h3, h4⟩ := ChangeShapes.trod_struct2 ht h
  rw [o0, c0] at h3
  rw [o1, c1] at h4
  rw [hc] at hl
  obtain ⟨l0, g0, e0⟩ := h0 enc w base sp hd m _ _ _ h3
  obtain ⟨l1, g1, e1⟩ := h1 enc w base sp hd m _ _ _ h4
  refine ⟨l0 ++ l1, by simp [g0, g1], ?_⟩
  rw [List.drop_zero] at e0
  rw [List.take_of_length_le (by simp; omega)] at e1
  rw [← List.take_append_drop n0 cs, e0, e1]
  simp [zs]
theorem ElemZ.range (h : ElemZ P e 2) : ElemE Range P e := fun enc w base sp hd n cs d pl hr => by
  obtain ⟨l, hl, hc⟩ := h enc w base sp hd n cs d pl hr
  match l, hl with
  | [a, b], _ => exact ⟨⟨a, b⟩, hc⟩
theorem ElemZ.bead (h : ElemZ P e 4) : ElemE Bead P e := fun enc w base sp hd n cs d pl hr => by
  obtain ⟨l, hl, hc⟩ := h enc w base sp hd n cs d pl hr
  match l, hl with
  | [a, b, c, f], _ => exact ⟨⟨a, b, c, f⟩, hc⟩
end
end Go.Vc
namespace Go.Vc
open Go Go.RowKit Go.IntWalk
section
variable {P : Program} {w : World} {f : Fr} {o : Oper}
theorem equalIn_item (d : Nat) {T : TypeId} {f0 f1 f2 : Field} (hu : P.underlying T = some (.struct #[f0, f1, f2])) (hp : P.stoodInHeld T = false) (n0 : f0.name ≠ "_") (n1 : f1.name ≠ "_") (n2 : f2.name ≠ "_")
    (o0 : f0.offset = 0) (o1 : f1.offset = 1) (o2 : f2.offset = 2) (u0 : P.underlying f0.type = some (.int .i64)) (u1 : P.underlying f1.type = some .string) (u2 : P.underlying f2.type = some (.int .i64))
    (a0 : aggP P f0.type = some false) (a1 : aggP P f1.type = some false) (a2 : aggP P f2.type = some false) (x y : Item) :
    (Op.equalIn (d + 2) T (.agg (Enc.enc x).toArray) (.agg (Enc.enc y).toArray)).run P w = .ok (decide (x = y)) w := by
  have hf : P.fieldsOf T = #[f0, f1, f2] := by simp [Program.fieldsOf, hu]
  rw [run_equalIn_struct (P := P) w (d + 1) T _ _ (by rw [hf]; exact hu) hp, hf]
  have p0 : ∀ (z : Item), (part f0.type (Enc.enc z).toArray 0).run P w = .ok (.int .i64 z.kind) w := fun z => run_part1 a0 rfl
  have p1 : ∀ (z : Item), (part f1.type (Enc.enc z).toArray 1).run P w = .ok (S z.text) w := fun z => run_part1 a1 rfl
  have p2 : ∀ (z : Item), (part f2.type (Enc.enc z).toArray 2).run P w = .ok (.int .i64 z.id) w := fun z => run_part1 a2 rfl
  have e0 := run_equalIn_int (P := P) w d f0.type .i64 .i64 x.kind y.kind u0
  have e1 : (Op.equalIn (d + 1) f1.type (S x.text) (S y.text)).run P w = .ok (x.text == y.text) w := by
    have := run_equalIn_string (P := P) w d f1.type ⟨x.text.toArray⟩ ⟨y.text.toArray⟩ u1
    rw [toList_S, toList_S] at this
    exact this
  have e2 := run_equalIn_int (P := P) w d f2.type .i64 .i64 x.id y.id u2
  have key : (Op.eqFields (d + 1) (Enc.enc x).toArray (Enc.enc y).toArray [f0, f1, f2]).run P w = .ok ((x.kind == y.kind) && ((x.text == y.text) && (x.id == y.id))) w := by
    simp only [Op.eqFields, n0, n1, n2, o0, o1, o2, ne_eq, not_false_eq_true, if_true, Sem.run_bind, p0, e0, Result.andThen_ok]
    cases (x.kind == y.kind) with
    | false => simp
    | true =>
      simp only [Bool.not_true, Bool.false_eq_true, if_false, Sem.run_bind, p1, e1, Result.andThen_ok, Bool.true_and]
      cases (x.text == y.text) with
      | false => simp
      | true =>
        simp only [Bool.not_true, Bool.false_eq_true, if_false, Sem.run_bind, p2, e2, Result.andThen_ok, Bool.true_and]
        cases (x.id == y.id) with
        | false => simp
        | true => simp
  have e3 : ((x.kind == y.kind) && ((x.text == y.text) && (x.id == y.id))) = decide (x = y) := by
    obtain ⟨k1, t1, i1⟩ := x
    obtain ⟨k2, t2, i2⟩ := y
    rw [Bool.eq_iff_iff]
    simp
  rw [← e3]
  exact key
theorem run_eqlI {T T2 : TypeId} {x y : Operand} (a b : Item) (ho : o.op = .binOp .eql T x y T2) (hg : P.eqGuardType P.depth T = false) (he : ∀ (w : World) (x y : Item), (Op.equalIn 10000 T (.agg (Enc.enc x).toArray) (.agg (Enc.enc y).toArray)).run P w = .ok (decide (x = y)) w)
    (hx : opv f x = .agg (Enc.enc a).toArray) (hy : opv f y = .agg (Enc.enc b).toArray) : (execOp (opv f) o).run P w = .ok (.value (.bool (decide (a = b)))) w := by
  unfold execOp; rw [ho]; simp only []; rw [hx, hy]
  simp only [Sem.run_bind, run_eqGuard_agg w .eql T x y _ _ hg, Result.andThen_ok, run_eql_struct, he, Sem.run_pure]
theorem run_neqI {T T2 : TypeId} {x y : Operand} (a b : Item) (ho : o.op = .binOp .neq T x y T2) (hg : P.eqGuardType P.depth T = false) (he : ∀ (w : World) (x y : Item), (Op.equalIn 10000 T (.agg (Enc.enc x).toArray) (.agg (Enc.enc y).toArray)).run P w = .ok (decide (x = y)) w)
    (hx : opv f x = .agg (Enc.enc a).toArray) (hy : opv f y = .agg (Enc.enc b).toArray) : (execOp (opv f) o).run P w = .ok (.value (.bool (decide (¬ a = b)))) w := by
  unfold execOp; rw [ho]; simp only []; rw [hx, hy]
  simp only [Sem.run_bind, run_eqGuard_agg w .neq T x y _ _ hg, Result.andThen_ok, run_neq_struct, he, Sem.run_pure]
  simp
theorem run_pick_andB {c a b : Operand} {q : Prop} {r : Bool} [Decidable q] (ho : o.op = .pick c a b) (hc : opv f c = .bool (decide q)) (ha : q → opv f a = .bool r) (hb : opv f b = .bool false) :
    (execOp (opv f) o).run P w = .ok (.value (.bool (decide (q ∧ r = true)))) w := run_pick_and ho hc (fun h => by rw [ha h, Bool.decide_eq_true]) hb
theorem run_pick_orB {c a b : Operand} {q : Prop} {r : Bool} [Decidable q] (ho : o.op = .pick c a b) (hc : opv f c = .bool (decide q)) (ha : opv f a = .bool true) (hb : ¬ q → opv f b = .bool r) :
    (execOp (opv f) o).run P w = .ok (.value (.bool (decide (q ∨ r = true)))) w := run_pick_or ho hc ha (fun h => by rw [hb h, Bool.decide_eq_true])
theorem run_beqlB {t t2 : TypeId} {x y : Operand} {a b : Bool} (ho : o.op = .binOp .eql t x y t2) (hu : P.underlying t = some .bool) (hx : opv f x = .bool a) (hy : opv f y = .bool b) :
    (execOp (opv f) o).run P w = .ok (.value (.bool (decide (a = b)))) w := by
  unfold execOp; rw [ho]; simp only []; rw [hx, hy]
  have h2 : (Op.equal t (.bool a) (.bool b)).run P w = .ok (a == b) w := run_equalIn_bool w 9999 t _ _ hu
  have e : (a == b) = decide (a = b) := by cases a <;> cases b <;> rfl
  simp [binOp, eqGuard, h2, e]
theorem run_bneqB {t t2 : TypeId} {x y : Operand} {a b : Bool} (ho : o.op = .binOp .neq t x y t2) (hu : P.underlying t = some .bool) (hx : opv f x = .bool a) (hy : opv f y = .bool b) :
    (execOp (opv f) o).run P w = .ok (.value (.bool (decide (¬ a = b)))) w := by
  unfold execOp; rw [ho]; simp only []; rw [hx, hy]
  have h2 : (Op.equal t (.bool a) (.bool b)).run P w = .ok (a == b) w := run_equalIn_bool w 9999 t _ _ hu
  have e : (!(a == b)) = decide (¬ a = b) := by cases a <;> cases b <;> rfl
  simp [binOp, eqGuard, h2, e]
end
end Go.Vc
namespace Go.Vc
open Go Go.RowKit Go.IntWalk
theorem bytes_flat (l : List UInt8) : (l.map (Enc.enc (α := UInt8))).flatten = l.map (fun c => Value.int .u8 ((c.toNat : Nat) : Int)) := by
  induction l with
  | nil => rfl
  | cons c l ih => rw [List.map_cons, List.flatten_cons, ih]; rfl
section
variable {P : Program} {B : Exit → Act → World → Prop} {n : Nat} {k : List Kont} {f : Fr} {w : World} {ops : Array Oper} {rest : List Oper} {o : Oper}
/-- 'x = append(x, s...)' of a string's bytes -/
theorem r_appendS {T U E d bb : Nat} {t : TypeId} {pos : String} {aft : Array Edge} {x y : Operand} {base : Nat} {v : Value} {l s : List UInt8}
    (hd : Nat.blt d n = true) (hu : P.underlying T = some (.slice E)) (hus : P.underlying U = some .string) (ht : tyP P E = some (1, bb, some (.int .u8 0))) (hbb : bb = 1)
    (hown : OwnE w base E v l) (hx : opv f x = v) (hy : opv f y = S s) (hlen : l.length + s.length ≤ 140737488355328) (hbase : base ≤ w.heap.size)
    (h : ∀ v' w', Evo w w' v.ownBlock.toList → OwnE w' base E v' (l ++ s) → KL P B n ops k rest (upd f d v') w') :
    KL P B n ops k (⟨some d, .call ⟨.builtin .append, #[x, y], #[T, U]⟩, t, pos, aft, none⟩ :: rest) f w := by
  obtain ⟨i, hi, h1, h2, h3⟩ := info_of ht
  have hrow : w.ownsRow base E 1 v l.length (l.map (Enc.enc (α := UInt8))).flatten := by
    have h9 := hown.row
    rw [List.length_map] at h9
    exact h9
  have hsz : (ByteArray.mk s.toArray).size = s.length := by simp [ByteArray.size]
  obtain ⟨v', w', hrun, hrow', hg, _⟩ := Lib.run_append_own_string (P := P) (w := w) base T U t E i hu hus hi h3 h1 (by rw [h2]; exact hbb) v l.length _ hrow ⟨s.toArray⟩ (by rw [hsz]; unfold maxLen; omega) (by rw [hsz]; exact hlen) hbase
  have hown' : OwnE w' base E v' (l ++ s) := by
    refine ⟨?_, fun cs hcs => ?_, by simp; omega⟩
    · have e : Lib.strCells ⟨s.toArray⟩ = s.map (fun c => Value.int .u8 ((c.toNat : Nat) : Int)) := by simp [Lib.strCells]
      rw [e, hsz, bytes_flat] at hrow'
      show w'.ownsRow base E 1 v' ((l ++ s).map (Enc.enc (α := UInt8))).length ((l ++ s).map (Enc.enc (α := UInt8))).flatten
      rw [bytes_flat, List.length_map, List.length_append, List.map_append]
      exact hrow'
    · obtain ⟨c, _, rfl⟩ := List.mem_map.1 hcs
      rfl
  refine r_op rfl rfl hd ?_ (h v' w' (Evo.grown hg) hown')
  exact run_builtin (s := Builtin.append_ #[T, U] t #[v, S s]) rfl (by simp [hx, hy]) (fun cs => rfl) hrun
/-- 'string(b)' -/
theorem run_cvBS {T U E : TypeId} {x : Operand} {l : List UInt8} {ao : Option Addr} {b off cap len : Nat} (ho : o.op = .convert T U x) (hT : P.underlying T = some (.slice E)) (hE : P.underlying E = some (.int .u8)) (hU : P.underlying U = some .string)
    (hx : opv f x = .slice ao len cap) (hl : len = l.length) (hr : RowE w ao b off cap l) : (execOp (opv f) o).run P w = .ok (.value (S l)) w := by
  subst hl
  unfold execOp; rw [ho]; simp only []; rw [hx]
  have hc : (convert T U (.slice ao l.length cap)).run P w = .ok (S l) w := by
    cases l with
    | nil =>
      show (convert T U (.slice ao 0 cap)).run P w = .ok (S []) w
      rw [run_convert_bytes_string w T U E ao 0 cap hT hE hU]
      cases ao with
      | none => simp [Conv.bytesToString, S]; rfl
      | some a => simp [Conv.bytesToString, S, loadCells, loadCellsFrom]; rfl
    | cons c l =>
      obtain rfl : ao = some ⟨b, off, none⟩ := hr.2.1 (by simp)
      exact run_convert_bytes_back (P := P) w T U E ⟨b, off, none⟩ cap (c :: l) hT hE hU (fun j hj => by
        have := (hr.2.2 j (Enc.enc ((c :: l)[j])) (by rw [List.getElem?_map, List.getElem?_eq_getElem hj]; rfl)).2 0 (.int .u8 (((c :: l)[j]).toNat : Int)) rfl
        rw [add_lit]
        simpa [Enc.n] using this)
  simp [hc]
end
/-! ### slices of slices -/
instance repList {α : Type} [Enc α] : Rep (List α) where
  n := 1
  rep w cs x := ∃ ao b off cap, cs = [.slice ao x.length cap] ∧ RowE w ao b off cap x
  len := fun ⟨_, _, _, _, h, _⟩ => by rw [h]; rfl
  evo0 := fun ⟨ao, b, off, cap, h, hr⟩ he => ⟨ao, b, off, cap, h, hr.evo0 he⟩
  pos := by decide
theorem sl_at {α : Type} [Enc α] {w : World} {ao : Option Addr} {b off cap : Nat} {l : List (List α)} (h : RowR w ao b off cap l) (k : Nat) (hk : k < l.length) :
    ∃ ao' b' off' cap', At w b (off + k * 1) [.slice ao' (l.getD k default).length cap'] ∧ RowE w ao' b' off' cap' (l.getD k default) := by
  obtain ⟨cs, h1, ao', b', off', cap', h2, h3⟩ := h.atD k hk
  exact ⟨ao', b', off', cap', h2 ▸ h1, h3⟩
theorem sl_atK {α : Type} [Enc α] {w : World} {E : List Nat} {ao : Option Addr} {b off cap : Nat} {l : List (List α)} (h : RowRK w E ao b off cap l) (k : Nat) (hk : k < l.length) :
    ∃ ao' b' off' cap', ∀ w', Evo w w' E → At w' b (off + k * 1) [.slice ao' (l.getD k default).length cap'] ∧ RowE w' ao' b' off' cap' (l.getD k default) := by
  obtain ⟨cs, h1⟩ := h.atD k hk
  obtain ⟨_, ao', b', off', cap', h2, h3⟩ := h1 w (Evo.refl _ _)
  refine ⟨ao', b', off', cap', fun w' he => ?_⟩
  obtain ⟨h4, ao2, b2, off2, cap2, h5, h6⟩ := h1 w' he
  rw [h2] at h5
  simp only [List.cons.injEq, Value.slice.injEq, and_true, true_and] at h5
  obtain ⟨rfl, rfl⟩ := h5
  exact ⟨h2 ▸ h4, rowE_same h6 h3⟩
theorem sl_rep {α : Type} [Enc α] {w : World} {ao : Option Addr} {b off cap : Nat} {l : List α} (h : RowE w ao b off cap l) : Rep.rep w [.slice ao l.length cap] l := ⟨ao, b, off, cap, rfl, h⟩
section
variable {P : Program} {B : Exit → Act → World → Prop} {n : Nat} {k : List Kont} {f : Fr} {w : World} {ops : Array Oper} {rest : List Oper} {o : Oper}
/-- 'append(nil, make([]T, m)...)': a new row; cut down to nothing, it is our own with room -/
theorem r_appendZ {α : Type} [Enc α] {T N E d m bb : Nat} {t : TypeId} {pos : String} {aft : Array Edge} {x y : Operand} {base : Nat} {z : Value} {c : Nat}
    (hd : Nat.blt d n = true) (hu : P.underlying T = some (.slice E)) (hN : P.underlying N = some (.int .i64)) (ht : tyP P E = some (m, bb, some z)) (hzs : z.cells.size = m) (hmn : m = Enc.n α)
    (hx : opv f x = .slice none 0 0) (hy : opv f y = .int .i64 (c : Nat)) (hc : 0 < c) (hb : c * bb ≤ 140737488355328) (hc2 : c ≤ 140737488355328) (hbase : base ≤ w.heap.size)
    (h : ∀ g cap w', Evo w w' [] → c ≤ cap → OwnE (α := α) w' base E (.slice (some ⟨g, 0, none⟩) 0 cap) [] → KL P B n ops k rest (upd f d (.slice (some ⟨g, 0, none⟩) c cap)) w') :
    KL P B n ops k (⟨some d, .call ⟨.builtin .append, #[x, y], #[T, N]⟩, t, pos, aft, none⟩ :: rest) f w := by
  obtain ⟨i, hi, h1, h2, h3⟩ := info_of ht
  have hpos := Enc.pos (α := α)
  have hrun := Lib.run_append_nil_zeros (P := P) w T N t E i z .i64 .i64 hu hN hi h3 c hc (by rw [h1, hmn]; exact hpos) (by omega) (by rw [h2]; omega)
  have hge := grownCap_ge w c 0 E
  have hcm : grownCap w c 0 E ≤ maxLen := grownCap_le_maxLen w c 0 E (by unfold maxLen; omega)
  refine r_op rfl rfl hd (run_builtin (s := Builtin.append_ #[T, N] t #[.slice none 0 0, .int .i64 (c : Nat)]) rfl (by simp [hx, hy]) (fun cs => rfl) hrun) ?_
  refine h _ _ _ (Evo.trans (Evo.drew _ _) (Evo.alloc _ _ []) (by simp)) hge ⟨⟨by simp, .inr ⟨w.heap.size, _, _, rfl, hbase, heap_alloc_new w.drew _, by simp, hcm, ?_, by simp⟩⟩, by simp, by simp⟩
  subst hmn
  simp [Builtin.zeroCells, hzs]
  rw [← Nat.add_mul]
  congr 1
  omega
end
section
variable {P : Program} {f : Fr} {w : World} {o : Oper}
theorem run_capSl {t e : TypeId} {x : Operand} {ao : Option Addr} {len cap : Nat} (ho : o.op = .call ⟨.builtin .cap, #[x], #[t]⟩) (hx : opv f x = .slice ao len cap) (ht : P.underlying t = some (.slice e)) :
    (execOp (opv f) o).run P w = .ok (.value (.int .i64 (cap : Int))) w := by
  refine run_builtin (s := Builtin.cap_ #[t] o.type #[.slice ao len cap]) ho (by simp [hx]) (fun cs => rfl) ?_
  simp [Builtin.cap_, run_underlying ht, goInt]
/-- what was made ahead, cut down to nothing -/
theorem run_sl00 {T E m bb : Nat} {z : Option Value} {x : Operand} {g len cap : Nat} {hi : Option Operand} (ho : o.op = .slice T x none hi none) (hu : P.underlying T = some (.slice E)) (ht : tyP P E = some (m, bb, z)) (hx : opv f x = .slice (some ⟨g, 0, none⟩) len cap)
    (hhi : ∃ κ, hi.map (opv f) = some (.int κ ((0 : Nat) : Int))) : (execOp (opv f) o).run P w = .ok (.value (.slice (some ⟨g, 0, none⟩) 0 cap)) w := by
  have := run_sl (P := P) (w := w) (f := f) (o := o) 0 0 ho hu ht hx (.inl ⟨rfl, rfl⟩) (.inr hhi) (Nat.le_refl _) (Nat.zero_le _)
  rw [this]
  have e : (if cap = 0 then some (⟨g, 0, none⟩ : Addr) else (some (⟨g, 0, none⟩ : Addr)).map (·.add (0 * m))) = some ⟨g, 0, none⟩ := by
    split
    · rfl
    · simp [add_lit]
  rw [e]; simp
end
theorem flat_succL {α : Type} (l : List (List α)) (k : Nat) (h : k < l.length) : (l.take (k + 1)).flatten = (l.take k).flatten ++ l.getD k default := by
  rw [List.take_succ_eq_append_getElem h, List.flatten_append]; simp [List.getD, h]
theorem flat_take {α : Type} (l : List (List α)) (k : Nat) : (l.take k).flatten.length ≤ l.flatten.length := by
  conv => rhs; rw [← List.take_append_drop k l]
  rw [List.flatten_append, List.length_append]; omega
theorem flat2 {α : Type} (a b : List α) : [a, b].flatten = a ++ b := by simp
end Go.Vc
namespace Go.Vc
open Go Go.RowKit Go.IntWalk
theorem run_cvInt {P : Program} {f : Fr} {w : World} {o : Oper} {T U : TypeId} {k k' : IntKind} {x : Operand} {a : Int} (ho : o.op = .convert T U x) (hT : P.underlying T = some (.int k)) (hU : P.underlying U = some (.int k')) (hx : opv f x = .int k a) :
    (execOp (opv f) o).run P w = .ok (.value (.int k' (k'.wrap a))) w := by
  unfold execOp; rw [ho]; simp only []; rw [hx]
  have hk : P.intKind U = k' := by simp [Program.intKind, hU]
  have := run_convert_int (P := P) w T U k a (by rw [hT]; rfl) (by rw [hk]; exact hU)
  rw [hk] at this
  simp [this]
theorem fb_bytes {w : World} {b E len : Nat} (h : FB w b E 1 len (fun _ => [.int .u8 0])) (hl : len ≤ 140737488355328) : RowE w (some ⟨b, 0, none⟩) b 0 len (List.replicate len (0 : UInt8)) := by
  refine ⟨⟨by simp, by simpa using hl⟩, fun _ => rfl, fun i cs hi => ?_⟩
  have hil : i < len := by
    rcases Nat.lt_or_ge i len with h1 | h1
    · exact h1
    · rw [List.getElem?_eq_none (by simpa using h1)] at hi; cases hi
  simp [hil] at hi
  subst hi
  refine ⟨rfl, fun j v hj => ?_⟩
  have hj0 : j = 0 := by
    rcases Nat.eq_zero_or_pos j with h1 | h1
    · exact h1
    · rw [List.getElem?_eq_none (by show 1 ≤ j; exact h1)] at hj; cases hj
  subst hj0
  have := h.cell (x := i) (j := 0) hil (by decide) (v := .int .u8 0) rfl
  have e : v = .int .u8 0 := by
    have : (some (Value.int .u8 (((0 : UInt8).toNat : Nat) : Int))) = some v := hj
    injection this with this
    rw [← this]; rfl
  rw [e]
  have e2 : (off0 : Nat) → off0 + i * Enc.n UInt8 + 0 = off0 + i := fun o => by show o + i * 1 + 0 = o + i; omega
  rw [e2]
  simpa using this
/-- a block of flat values as a row -/
theorem fb_row {α : Type} [Enc α] [Inhabited α] {w : World} {b E len : Nat} {c : Nat → List Value} (l : List α) (h : FB w b E (Enc.n α) len c) (hlen : l.length = len) (hl : len ≤ 140737488355328) (hc : ∀ i, i < len → c i = Enc.enc (l.getD i default)) : RowE w (some ⟨b, 0, none⟩) b 0 len l := by
  refine ⟨⟨by simp [hlen], by simpa [hlen] using hl⟩, fun _ => rfl, fun i cs hi => ?_⟩
  have hil : i < len := by
    rcases Nat.lt_or_ge i len with h1 | h1
    · exact h1
    · rw [List.getElem?_eq_none (by simp [hlen]; omega)] at hi; cases hi
  have e : l.getD i default = l[i]'(by omega) := by simp [List.getD, hlen, hil]
  have e2 : cs = Enc.enc (l.getD i default) := by
    rw [List.getElem?_map, List.getElem?_eq_getElem (by omega : i < l.length)] at hi
    injection hi with hi
    rw [e, ← hi]
  subst e2
  refine ⟨Enc.len _, fun j v hj => ?_⟩
  have hjn : j < Enc.n α := by
    rcases Nat.lt_or_ge j (Enc.n α) with h1 | h1
    · exact h1
    · rw [List.getElem?_eq_none (by rw [Enc.len]; exact h1)] at hj; cases hj
  have := h.cell (x := i) (j := j) hil hjn (v := v) (by rw [hc i hil]; exact hj)
  exact this
theorem row_keep {α : Type} [Enc α] {w w' : World} {ao : Option Addr} {b off cap : Nat} {l : List α} {X : List Nat} (h : RowE w ao b off cap l) (he : Evo w w' X) (hn : l ≠ [] → b ∉ X) : RowE w' ao b off cap l := by
  by_cases hl : l = []
  · subst hl; exact ⟨h.1, by simp, by simp⟩
  · exact h.evo he (hn hl)
end Go.Vc
namespace Go.Vc
open Go Go.RowKit Go.IntWalk
theorem r_gnext {P : Program} {B : Exit → Act → World → Prop} {n : Nat} {k : List Kont} {f : Fr} {w : World} {ops : Array Oper} {rest : List Oper} {d : Nat} {op : Op} {t : TypeId} {pos : String} {aft : Array Edge} {j s : Nat} {b : Bool} {g : Prop} [Decidable g] {F : FuncId} {args : Array Value} {bs T N : Nat} {c0 : Value} {m : Int}
    (hj : (ops[j]?).bind (·.dst) = some s) (hw : Wanted f s b g) (hd : Nat.blt d n = true) (hrun : g → (execOp (opv f) ⟨some d, op, t, pos, aft, none⟩).run P w = .ok (.enter F args) w)
    (hc : g → Calls P F args w fun e w' => ∃ r, e = .returned (.int .i64 r) ∧ (0 ≤ r ∧ r < m) ∧ Evo w w' [bs] ∧ Blk w' bs T [c0, .int .i64 (N + 1 : Nat)]) (hb : Blk w bs T [c0, .int .i64 (N : Nat)])
    (h : ∀ r w' N', (g → 0 ≤ r ∧ r < m) → Evo w w' [bs] → N ≤ N' → N' ≤ N + 1 → Blk w' bs T [c0, .int .i64 (N' : Nat)] → KL P B n ops k rest (upd f d (gv g (.int .i64 r))) w') : KL P B n ops k (⟨some d, op, t, pos, aft, some (j, b)⟩ :: rest) f w := by
  by_cases hg : g
  · refine r_guard_yes hj (hw.yes hg) (r_opcall rfl rfl hd (hrun hg) (hc hg) ?_)
    rintro e w' ⟨r, h1, h2, h3, h4⟩
    refine ⟨_, h1, ?_⟩
    have h5 := h r w' (N + 1) (fun _ => h2) h3 (by omega) (Nat.le_refl _) h4
    rw [gv_yes hg] at h5
    exact h5
  · intro a ha
    have hwa := wanted_of ha hj hw
    unfold wpList
    rw [if_neg (by simp only [Region.wanted]; rw [hwa.2 hg]; simp)]
    have h3 := h 0 w N (fun h => absurd h hg) (Evo.refl _ _) (Nat.le_refl _) (by omega) hb _ (ha.put hd (gv g (.int .i64 0)))
    rw [gv_no hg] at h3
    exact h3
end Go.Vc
namespace Go.Vc
open Go Go.RowKit Go.IntWalk Go.Deep
theorem okS {v : Value} (h : ∃ s, v = Value.string s) : ∃ s : Str, v = S s := by
  obtain ⟨s, rfl⟩ := h
  exact ⟨s.data.toList, by cases s; rfl⟩
/-- a slice of plain elements of which something is known -/
theorem openEQ {α : Type} [Enc α] {Q : α → Prop} {P : Program} {H : Type} {enc : TypeId × Value → H} {w : World} {base : Nat} {sp : Nat → Bool} {hd : Bool} {t e : TypeId} (hu : P.underlying t = some (.slice e)) (hc : P.cellsOf e = Enc.n α) (hb : 1 ≤ P.bytesOf e)
    (hel : ∀ (n : Nat) (cs : List Value) (d : DataW H) (pl : List MemPlace), DataW.trod enc P w base sp hd n e cs = some (d, pl) → (∀ m ∈ d.weights P e, m ≤ reachBytes) → ∃ x : α, cs = Enc.enc x ∧ Q x)
    {fuel : Nat} {ao : Option Addr} {len cap : Nat} {d : DataW H} {pl : List MemPlace}
    (h : DataW.trod enc P w base sp hd fuel t [.slice ao len cap] = some (d, pl)) (hw : ∀ m ∈ d.weights P t, m ≤ reachBytes) : ∃ b off, ∃ l : List α, len = l.length ∧ RowE w ao b off cap l ∧ ∀ x ∈ l, Q x := by
  rcases open_slice hu h with ⟨h1, _⟩ | ⟨a, len', cap', m, n, D, Pl, h1, _, hl, _, hm, hx, hall⟩
  · simp only [List.cons.injEq, Value.slice.injEq, and_true] at h1
    obtain ⟨rfl, rfl, rfl⟩ := h1
    exact ⟨0, 0, [], rfl, RowE.nil _ _ _ _ _, by simp⟩
  · simp only [List.cons.injEq, Value.slice.injEq, and_true] at h1
    obtain ⟨rfl, rfl, rfl⟩ := h1
    have hlm : len ≤ m := by rw [hm]; split <;> omega
    have hd2 : d = _ := congrArg Prod.fst hx
    have ha : 0 < len → a = ⟨a.block, a.off, none⟩ := fun h0 => by
      obtain ⟨cs, h2, _⟩ := hall 0 (by omega)
      rw [Nat.zero_mul, show a.add 0 = a by unfold Addr.add; rw [if_pos rfl], hc] at h2
      exact (at_of_cells h2 (Enc.pos (α := α))).1
    have hex : ∀ i, i < len → ∃ x : α, At w a.block (a.off + i * Enc.n α) (Enc.enc x) ∧ Q x := fun i hi => by
      obtain ⟨cs, h2, h3⟩ := hall i (by omega)
      obtain ⟨x, hx2, hq⟩ := hel n cs _ _ h3 (fun q hq => hw q (by
        rw [hd2]
        simp only [DataW.weights, hu, List.mem_cons, List.mem_append]
        exact .inr (.inl (weights_elem (List.mem_map.2 ⟨i, List.mem_range.2 hi, rfl⟩) hq))))
      rw [hc, ha (by omega), add_lit] at h2
      exact ⟨x, by rw [← hx2]; exact (at_of_cells h2 (Enc.pos (α := α))).2, hq⟩
    have hbd : len ≤ 140737488355328 := by
      have h3 := hw ((((List.range len).map D).length + ((List.range (m - len)).map fun j => D (len + j)).length) * P.bytesOf e) (by rw [hd2]; simp [DataW.weights, hu])
      simp only [List.length_map, List.length_range] at h3
      have h4 : len * 1 ≤ (len + (m - len)) * P.bytesOf e := Nat.mul_le_mul (by omega) hb
      have h5 := reachBytes_lt
      omega
    by_cases h0 : len = 0
    · subst h0; exact ⟨0, 0, [], rfl, ⟨by simp, by simp, by simp⟩, by simp⟩
    · obtain ⟨x0, _⟩ := hex 0 (by omega)
      obtain ⟨f, hf⟩ : ∃ f : Nat → α, ∀ i, i < len → At w a.block (a.off + i * Enc.n α) (Enc.enc (f i)) ∧ Q (f i) := by
        classical
        exact ⟨fun i => if hi : i < len then Classical.choose (hex i hi) else x0, fun i hi => by simp only [dif_pos hi]; exact Classical.choose_spec (hex i hi)⟩
      refine ⟨a.block, a.off, (List.range len).map f, by simp, ⟨by simp; omega, fun _ => congrArg some (ha (by omega)), fun i cs hi => ?_⟩, fun x hx => ?_⟩
      · have hil : i < len := by
          rcases Nat.lt_or_ge i len with h6 | h6
          · exact h6
          · rw [List.getElem?_eq_none (by simpa using h6)] at hi; cases hi
        simp [hil] at hi
        subst hi
        exact ⟨Enc.len _, (hf i hil).1⟩
      · obtain ⟨i, hi, rfl⟩ := List.mem_map.1 hx
        exact (hf i (List.mem_range.1 hi)).2
/-- what an element's reading tells of an item: its text is no longer than a string may be -/
theorem elem_item {P : Program} {e : TypeId} {f0 f1 f2 : Field} (ht : P.underlying e = some (.struct #[f0, f1, f2])) (h2 : P.cellsOf e = 3) (o0 : f0.offset = 0) (c0 : P.cellsOf f0.type = 1) (o1 : f1.offset = 1) (c1 : P.cellsOf f1.type = 1) (o2 : f2.offset = 2) (c2 : P.cellsOf f2.type = 1)
    (u0 : P.underlying f0.type = some (.int .i64)) (u1 : P.underlying f1.type = some .string) (u2 : P.underlying f2.type = some (.int .i64)) {H : Type} {enc : TypeId × Value → H} {w : World} {base : Nat} {sp : Nat → Bool} {hd : Bool} {n : Nat} {cs : List Value} {d : DataW H} {pl : List MemPlace}
    (h : DataW.trod enc P w base sp hd n e cs = some (d, pl)) (hw : ∀ m ∈ d.weights P e, m ≤ reachBytes) : ∃ x : Item, cs = Enc.enc x ∧ x.text.length ≤ reachBytes := by
  obtain ⟨xs, m, _, hxd, hl, hlen, hf⟩ := DataW.trod_struct ht h
  match xs, hlen with
  | [y0, y1, y2], _ =>
    have h3 := hf 0 f0 rfl
    have h4 := hf 1 f1 rfl
    have h5 := hf 2 f2 rfl
    rw [o0, c0] at h3
    rw [o1, c1] at h4
    rw [o2, c2] at h5
    rw [h2] at hl
    match cs, hl with
    | [v0, v1, v2], _ =>
      obtain ⟨k, e0, _⟩ := DataW.trod_int u0 (by simpa using h3)
      obtain ⟨s, e1, e1a, _⟩ := DataW.trod_string u1 (by simpa using h4)
      obtain ⟨i, e2, _⟩ := DataW.trod_int u2 (by simpa using h5)
      simp only [List.cons.injEq, and_true] at e0 e1 e2
      subst e0; subst e1; subst e2
      refine ⟨⟨k, s.data.toList, i⟩, by cases s; rfl, ?_⟩
      have hd2 : d = .agg [y0.1, y1.1, y2.1] := congrArg Prod.fst hxd
      have hy : y1.1 = .lit (.string s.data.toList) := congrArg Prod.fst e1a
      exact hw _ (by rw [hd2, hy]; simp [DataW.weights, ht, DataW.weightsEach])
end Go.Vc
namespace Go.Vc
open Go Go.RowKit Go.IntWalk
theorem Own.cut {w : World} {base : Nat} {E : TypeId} {m : Nat} {css : List (List Value)} {g cap : Nat} (h : Own w base E m (.slice (some ⟨g, 0, none⟩) css.length cap) css) {k : Nat} (hk : k ≤ css.length) :
    Own w base E m (.slice (some ⟨g, 0, none⟩) k cap) (css.take k) := by
  have hl : (css.take k).length = k := by rw [List.length_take]; omega
  have hf : ∀ (l : List (List Value)), (∀ cs ∈ l, cs.length = m) → ∀ k, k ≤ l.length → (l.take k).flatten = l.flatten.take (k * m) := fun l => by
    induction l with
    | nil => intro _ k hk; simp
    | cons c l ih =>
      intro hm k hk
      cases k with
      | zero => simp
      | succ k =>
        have hc : c.length = m := hm c (by simp)
        rw [List.take_succ_cons, List.flatten_cons, List.flatten_cons, ih (fun x hx => hm x (by simp [hx])) k (by simpa using hk), List.take_append, List.take_of_length_le (l := c) (by rw [hc, Nat.add_mul]; omega), hc]
        congr 2
        rw [Nat.add_mul]; omega
  refine ⟨⟨?_, .inr ?_⟩, fun cs hcs => h.each cs (List.mem_of_mem_take hcs), by have := h.bd; omega⟩
  · rw [flatten_length _ m (fun cs hcs => h.each cs (List.mem_of_mem_take hcs))]
  · rcases h.row.2 with ⟨hv, _⟩ | ⟨g', cap', cur, hv, hb, hg, hn, hc, hs, ht⟩
    · cases hv
    · simp only [Value.slice.injEq, Option.some.injEq, Addr.mk.injEq, and_true] at hv
      obtain ⟨rfl, _, rfl⟩ := hv
      refine ⟨g, cap, cur, by rw [hl], hb, hg, by omega, hc, hs, ?_⟩
      rw [hf css h.each k hk, ← ht, List.take_take, hl]
      congr 1
      exact (Nat.min_eq_left (Nat.mul_le_mul_right m hk)).symm
section
variable {α : Type} [Enc α] {w : World} {base : Nat} {E : TypeId} {v : Value} {l : List α}
/-- 'x[:k]' of a slice of our own that is not empty -/
theorem r_cutOwn {P : Program} {B : Exit → Act → World → Prop} {n : Nat} {k : List Kont} {f : Fr} {ops : Array Oper} {rest : List Oper} {T d m bb : Nat} {z : Option Value} {t : TypeId} {pos : String} {aft : Array Edge} {x hi : Operand} (j : Nat)
    (hd : Nat.blt d n = true) (hu : P.underlying T = some (.slice E)) (ht : tyP P E = some (m, bb, z)) (hown : OwnE w base E v l) (hx : opv f x = v) (hhi : ∃ κ, opv f hi = .int κ (j : Int)) (hj : j ≤ l.length) (hne : 0 < l.length)
    (h : ∀ v', OwnE w base E v' (l.take j) → v'.ownBlock = v.ownBlock → KL P B n ops k rest (upd f d v') w) :
    KL P B n ops k (⟨some d, .slice T x none (some hi) none, t, pos, aft, none⟩ :: rest) f w := by
  rcases hown.form with ⟨_, h2⟩ | ⟨g, cap, rfl, h3, h4, h5, h6⟩
  · subst h2; simp at hne
  · obtain ⟨κ, hκ⟩ := hhi
    have hrun : ∀ o : Oper, o.op = .slice T x none (some hi) none → (execOp (opv f) o).run P w = .ok (.value (.slice (some ⟨g, 0, none⟩) j cap)) w := fun o ho => by
      rw [run_sl (w := w) 0 j ho hu ht hx (.inl ⟨rfl, rfl⟩) (.inr ⟨κ, by simp [hκ]⟩) (by omega) (by omega)]
      by_cases hc : cap = 0
      · simp [hc]
      · have hc' : ¬ (0 : Nat) = cap := fun e => hc e.symm
        simp [hc, Addr.add]
    refine r_op rfl rfl hd (hrun _ rfl) (h _ ?_ rfl)
    have h8 : Own w base E (Enc.n α) (.slice (some ⟨g, 0, none⟩) (l.map Enc.enc).length cap) (l.map Enc.enc) := by simpa [OwnE] using hown
    have h7 := h8.cut (k := j) (by simpa using hj)
    unfold OwnE
    rw [List.map_take]
    exact h7
end
theorem hi1 {v : Value} {κ : IntKind} {a : Int} {j : Nat} (h : v = .int κ a) (e : a = (j : Int)) : ∃ κ, v = .int κ (j : Int) := ⟨κ, by rw [h, e]⟩
theorem evo_steps {w0 w w' : World} {X Y : List Nat} (h : Evo w0 w X) (he : Evo w w' Y) (hb : ∀ g ∈ Y, w0.heap.size ≤ g ∨ g ∈ X) : Evo w0 w' X := h.trans he (fun x hx hlt => by
  rcases hb x hx with hb | hb
  · omega
  · exact hb)
/-- two slices of our own lie in different blocks -/
def Sep (v u : Value) : Prop := ∀ g, v.ownBlock = some g → ∀ h, u.ownBlock = some h → g ≠ h
theorem Sep.symm {v u : Value} (h : Sep v u) : Sep u v := fun g hg h' hh e => h h' hh g hg e.symm
theorem Sep.nil_l (u : Value) : Sep (.slice none 0 0) u := fun g hg => by cases hg
theorem Sep.nil_r (u : Value) : Sep u (.slice none 0 0) := fun g hg h hh => by cases hh
theorem Sep.same {v v' u : Value} (h : Sep v u) (e : v'.ownBlock = v.ownBlock) : Sep v' u := fun g hg => h g (e ▸ hg)
theorem Sep.grow {v v' u : Value} {n m : Nat} (h : Sep v u) (hl : v'.ownBlock = v.ownBlock ∨ ∃ g, v'.ownBlock = some g ∧ n ≤ g) (hu : ∀ h, u.ownBlock = some h → h < m) (hm : m ≤ n) : Sep v' u := fun g hg h' hh e => by
  rcases hl with h1 | ⟨g2, h1, h2⟩
  · exact h g (h1 ▸ hg) h' hh e
  · have h3 : g2 = g := Option.some.inj (h1.symm.trans hg)
    have := hu h' hh
    omega
theorem Sep.grown {v v' u : Value} {n m : Nat} (h : Sep v u) (hl : v'.ownBlock = v.ownBlock ∨ v'.ownBlock = some n) (hu : ∀ h, u.ownBlock = some h → h < m) (hm : m ≤ n) : Sep v' u :=
  h.grow (hl.imp id fun h1 => ⟨n, h1, Nat.le_refl _⟩) hu hm
end Go.Vc
namespace Go.Vc
open Go Go.RowKit Go.IntWalk Go.Sort Go.Proofs
section
variable {α : Type} [Enc α] {w : World} {base : Nat} {E : TypeId} {v : Value} {l : List α}
theorem flat_one {enc1 : α → Value} (h : ∀ x : α, Enc.enc x = [enc1 x]) : ∀ l : List α, (l.map Enc.enc).flatten = l.map enc1
  | [] => rfl
  | x :: l => by rw [List.map_cons, List.flatten_cons, h, flat_one h l]; rfl
theorem OwnE.open1 {enc1 : α → Value} (hn : Enc.n α = 1) (he : ∀ x : α, Enc.enc x = [enc1 x]) (h : OwnE w base E v l) : (v = .slice none 0 0 ∧ l = []) ∨ ∃ g cap cur, v = .slice (some ⟨g, 0, none⟩) l.length cap ∧ base ≤ g ∧
    w.heap[g]? = some (.cells cur E (0, 0)) ∧ l.length ≤ cap ∧ cap ≤ maxLen ∧ cur.size = cap * 1 ∧ cur.toList.take l.length = l.map enc1 := by
  have h0 : Own w base E (Enc.n α) v (l.map Enc.enc) := h
  have h1 := h0.row
  rcases h1.2 with ⟨hv, hl⟩ | ⟨g, cap, cur, hv, hb, hg, h2, h3, h4, h5⟩
  · exact .inl ⟨hv, by simpa using hl⟩
  · rw [hn] at h4 h5
    refine .inr ⟨g, cap, cur, by simpa using hv, hb, hg, by simpa using h2, h3, h4, ?_⟩
    rw [flat_one he] at h5
    simpa using h5
theorem OwnE.of1 {enc1 : α → Value} (hn : Enc.n α = 1) (he : ∀ x : α, Enc.enc x = [enc1 x]) (hbd : l.length ≤ 140737488355328) (h : w.ownsRow base E 1 v l.length (l.map enc1)) : OwnE w base E v l := by
  refine ⟨?_, fun cs hcs => ?_, by simpa using hbd⟩
  · rw [hn, List.length_map, flat_one he]; exact h
  · obtain ⟨x, _, rfl⟩ := List.mem_map.1 hcs; exact Enc.len x
end
theorem grow_none (w : World) : grow w #[] = w := by unfold grow; simp
/-- slices.Delete at integers -/
theorem sdel_of {P : Program} {fn : FuncId} (c : ∀ (blk off cap i j : Nat) (zs : List Int) (w : World), Holds (Value.int .i64) w blk off zs.toArray → zs.length ≤ cap → cap ≤ 9223372036854775807 → i ≤ j → j ≤ zs.length →
      Calls P fn #[.slice (some ⟨blk, off, none⟩) zs.length cap, .int .i64 i, .int .i64 j] w fun e w' => e = .returned (.slice (some ⟨blk, off, none⟩) (zs.length - (j - i)) cap) ∧ ∃ q, w' = putRow (Value.int .i64) (Sort.ahead w q) blk off (zs.take i ++ zs.drop j ++ List.replicate (j - i) 0).toArray)
    {w : World} {base : Nat} {E : TypeId} {v : Value} {l : List Int} {i j : Nat} (h : OwnE w base E v l) (hij : i < j) (hj : j ≤ l.length) :
    Calls P fn #[v, .int .i64 (i : Nat), .int .i64 (j : Nat)] w fun e w' => ∃ v', e = .returned v' ∧ Evo w w' v.ownBlock.toList ∧ OwnE w' base E v' (l.take i ++ l.drop j) ∧ v'.ownBlock = v.ownBlock := by
  rcases h.open1 (enc1 := Value.int .i64) rfl (fun _ => rfl) with ⟨_, hl⟩ | ⟨g, cap, cur, rfl, hb, hg, h2, h3, h4, h5⟩
  · subst hl; simp at hj; omega
  · refine (c g 0 cap i j l w (holds_of_blockI hg h5) h2 (by unfold maxLen at h3; omega) (by omega) hj).mono ?_
    rintro e w' ⟨rfl, q, rfl⟩
    have hlen : (l.take i ++ l.drop j ++ List.replicate (j - i) 0).length = l.length := by simp; omega
    have hr := ownsRow_sortedI (n := q) (os := #[]) (ss := l) (ts := l.take i ++ l.drop j ++ List.replicate (j - i) 0) hlen hb hg h2 h3 h4
    rw [grow_none] at hr
    have hg2 := grownBy_sortedI (w := w) (g := g) (n := q) (os := #[]) (l.take i ++ l.drop j ++ List.replicate (j - i) 0).toArray
    rw [grow_none] at hg2
    have hbd := h.bd
    have ho : OwnE (putRow (Value.int .i64) (Sort.ahead w q) g 0 (l.take i ++ l.drop j ++ List.replicate (j - i) 0).toArray) base E (.slice (some ⟨g, 0, none⟩) l.length cap) (l.take i ++ l.drop j ++ List.replicate (j - i) 0) :=
      OwnE.of1 (enc1 := Value.int .i64) rfl (fun _ => rfl) (by omega) (by rw [hlen]; exact hr)
    refine ⟨_, rfl, ?_, ?_, rfl⟩
    · exact Evo.grown hg2
    · have h8 : Own (putRow (Value.int .i64) (Sort.ahead w q) g 0 (l.take i ++ l.drop j ++ List.replicate (j - i) 0).toArray) base E 1 (.slice (some ⟨g, 0, none⟩) ((l.take i ++ l.drop j ++ List.replicate (j - i) 0).map Enc.enc).length cap) ((l.take i ++ l.drop j ++ List.replicate (j - i) 0).map Enc.enc) := by
        rw [List.length_map, hlen]; exact ho
      have h9 := h8.cut (k := l.length - (j - i)) (by rw [List.length_map, hlen]; omega)
      rw [← List.map_take] at h9
      have e : (l.take i ++ l.drop j ++ List.replicate (j - i) 0).take (l.length - (j - i)) = l.take i ++ l.drop j := by
        rw [List.take_append_of_le_length (by simp; omega), List.take_of_length_le (by simp; omega)]
      rw [e] at h9
      exact h9
/-- slices.Sort at strings -/
theorem ssort_of {P : Program} {fn : FuncId} (c : ∀ (blk off cap : Nat) (ss : List (List UInt8)) (w : World), Holds encStr w blk off ss.toArray → blk < w.heap.size → ss.length < 4611686018427387904 →
      Calls P fn #[.slice (some ⟨blk, off, none⟩) ss.length cap] w fun e w' => e = .returned (.tuple #[]) ∧ ∃ n os, w' = grow (putRow encStr (Sort.ahead w n) blk off (ss.mergeSort fun x y => decide (x ≤ y)).toArray) os)
    (c0 : ∀ w : World, Calls P fn #[.slice none 0 0] w fun e w' => e = .returned (.tuple #[]) ∧ w' = w)
    {w : World} {base : Nat} {E : TypeId} {v : Value} {l : List Str} (h : OwnE w base E v l) :
    Calls P fn #[v] w fun e w' => e = .returned (.tuple #[]) ∧ Evo w w' v.ownBlock.toList ∧ OwnE w' base E v (l.mergeSort fun x y => decide (x ≤ y)) := by
  rcases h.open1 (enc1 := encStr) rfl (fun _ => rfl) with ⟨rfl, rfl⟩ | ⟨g, cap, cur, rfl, hb, hg, h2, h3, h4, h5⟩
  · refine (c0 w).mono ?_
    rintro e w' ⟨rfl, rfl⟩
    exact ⟨rfl, Evo.refl _ _, by simpa using h⟩
  · have hbd := h.bd
    refine (c g 0 cap l w (holds_of_block hg h5) (Array.getElem?_eq_some_iff.1 hg).1 (by omega)).mono ?_
    rintro e w' ⟨rfl, n, os, rfl⟩
    have hlen : (l.mergeSort fun x y => decide (x ≤ y)).length = l.length := by simp
    have hr := ownsRow_sorted (n := n) (os := os) (ss := l) (ts := l.mergeSort fun x y => decide (x ≤ y)) hlen hb hg h2 h3 h4
    exact ⟨rfl, Evo.grown (grownBy_sorted _), OwnE.of1 (enc1 := encStr) rfl (fun _ => rfl) (by omega) (by rw [hlen]; exact hr)⟩
end Go.Vc
