/-
  Library, plain laws and walks that the statements reach (joined by a program out of smaller texts).
-/
import Derived.Test.YtkklomiipkipnaaGreatDoorUa
import Derived.OrdersHeld
import Derived.Deep.RegionHeld3
import Derived.Laws.MakeOwn
import Derived.Lib.Bytealg
import Derived.Laws.Externs
import Derived.Deep.Slices
import Derived.SizedLaws
import Derived.ProofKit
import Derived.Lib.AppendStr
import Derived.Lib.AppendZeros
import Derived.Laws.IdiomStrings
import Derived.Laws.Bits64
import Derived.Sort.OwnSorted
import Derived.Sort.OwnSortedInts
import Derived.Lib.ConvBytes
import Derived.ArgAppend
import Derived.Laws.IdiomCopy
import Derived.Scope
import Derived.Laws.Slices
namespace Go.Vc
open Go Go.RowKit Go.IntWalk
def lst (ops : Array Oper) : List Nat → Array Bool
  | [] => Array.replicate ops.size false
  | i :: d => (lst ops d).setIfInBounds i true
def closedB (ops : Array Oper) (l : Array Bool) : Bool := (List.range ops.size).all fun k => !(l.getD k true) || match ops[k]? with
  | some ok => ok.after.all fun e => !(Region.binds .any e) || l.getD e.on true
  | none => true
def takeB (ops : Array Oper) (d : List Nat) (i : Nat) : Bool := Region.noSelect ops && Region.free .any ops (lst ops d) i && (Region.ready .any ops (lst ops d)).contains i && closedB ops (lst ops d)
def readyB (ops : Array Oper) (d rs : List Nat) : Bool := Region.ready .any ops (lst ops d) == rs
def onB (ops : Array Oper) (k i : Nat) : Bool := match ops[k]? with
  | some ok => ok.after.any fun e => Region.binds .any e && e.on == i
  | none => false
def waitB (ops : Array Oper) : Nat → Nat → Nat → Bool
  | 0, j, i => onB ops j i
  | m + 1, j, i => onB ops j i || match ops[j]? with
    | some oj => oj.after.any fun e => Region.binds .any e && waitB ops m e.on i
    | none => false
def finalB (ops : Array Oper) (j : Nat) : Bool := match ops[j]? with
  | some _ => (List.range ops.size).all fun i => i == j || waitB ops 8 j i || waitB ops 8 i j
  | none => false
theorem onB_spec {ops : Array Oper} {k i : Nat} (h : onB ops k i = true) : ∃ ok, ops[k]? = some ok ∧ ∃ e ∈ ok.after, Region.binds .any e = true ∧ e.on = i := by
  unfold onB at h
  split at h
  · rename_i ok hok
    obtain ⟨e, he, hb⟩ := Array.any_eq_true'.1 h
    simp only [Bool.and_eq_true, beq_iff_eq] at hb
    exact ⟨ok, hok, e, he, hb.1, hb.2⟩
  · cases h
theorem closedB_spec {ops : Array Oper} {l : Array Bool} (h : closedB ops l = true) {k : Nat} {ok : Oper} (hk : ops[k]? = some ok) (hm : l.getD k true = true) : ∀ e ∈ ok.after, Region.binds .any e = true → l.getD e.on true = true := by
  intro e he hb
  have hlt := (Array.getElem?_eq_some_iff.1 hk).1
  have h1 := List.all_eq_true.1 h k (List.mem_range.2 hlt)
  rw [hm, hk] at h1
  simp only [Bool.not_true, Bool.false_or] at h1
  have h2 := Array.all_eq_true_iff_forall_mem.1 h1 e he
  rw [hb] at h2
  simpa using h2
theorem closedB_mk {ops : Array Oper} {l : Array Bool} (h : ∀ k ok, ops[k]? = some ok → l.getD k true = true → ∀ e ∈ ok.after, Region.binds .any e = true → l.getD e.on true = true) : closedB ops l = true := by
  refine List.all_eq_true.2 fun k hk => ?_
  cases hm : l.getD k true with
  | false => rfl
  | true =>
    simp only [Bool.not_true, Bool.false_or]
    split
    · rename_i ok hok
      refine Array.all_eq_true_iff_forall_mem.2 fun e he => ?_
      cases hb : Region.binds .any e with
      | false => rfl
      | true => simpa using h k ok hok hm e he hb
    · rfl
theorem waitB_spec {ops : Array Oper} {l : Array Bool} (hcl : closedB ops l = true) {i : Nat} : ∀ (m j : Nat), (∀ oj, ops[j]? = some oj → ∀ e ∈ oj.after, Region.binds .any e = true → l.getD e.on true = true) → waitB ops m j i = true → l.getD i true = true
  | m, j, hall, h => by
    have hd : onB ops j i = true → l.getD i true = true := fun h1 => by
      obtain ⟨ok, hok, e, he, hb, heq⟩ := onB_spec h1
      rw [← heq]; exact hall ok hok e he hb
    cases m with
    | zero => exact hd h
    | succ m =>
      unfold waitB at h
      rw [Bool.or_eq_true] at h
      rcases h with h | h
      · exact hd h
      · split at h
        · rename_i oj hoj
          obtain ⟨e, he, hb⟩ := Array.any_eq_true'.1 h
          simp only [Bool.and_eq_true] at hb
          exact waitB_spec hcl m e.on (fun ok hok => closedB_spec hcl hok (hall oj hoj e he hb.1)) hb.2
        · cases h
theorem final_false {ops : Array Oper} {l : Array Bool} {i j : Nat} {oj : Oper} (hcl : closedB ops l = true) (hne : j ≠ i) (hi : i < ops.size) (hj : ops[j]? = some oj) (hall : ∀ e ∈ oj.after, Region.binds .any e = true → l.getD e.on true = true) (hun : l.getD i true = false)
    (hunj : l.getD j true = false) (hdi : ∀ oi, ops[i]? = some oi → ∀ e ∈ oi.after, Region.binds .any e = true → l.getD e.on true = true) : finalB ops j = false := by
  cases h : finalB ops j with
  | false => rfl
  | true =>
    unfold finalB at h
    rw [hj] at h
    have h1 := List.all_eq_true.1 h i (List.mem_range.2 hi)
    simp only [Bool.or_eq_true, beq_iff_eq] at h1
    rcases h1 with (h1 | h1) | h1
    · exact absurd h1.symm hne
    · have := waitB_spec hcl 8 j (fun ok hok => by rw [hj] at hok; injection hok with hok; subst hok; exact hall) h1
      rw [hun] at this; cases this
    · have := waitB_spec hcl 8 i hdi h1
      rw [hunj] at this; cases this
section
variable {P : Program} {ops : Array Oper} {Q : Exit → Act → World → Prop} {S : World → Prop}
def AnyF (P : Program) (ops : Array Oper) (Q : Exit → Act → World → Prop) (S : World → Prop) : Nat → Array Bool → Act → World → Prop
  | 0, l, a, w => Region.ready .any ops l = [] ∧ Q .normal a w
  | m + 1, l, a, w => (Region.ready .any ops l = [] → Q .normal a w) ∧
    ∀ i ∈ Region.ready .any ops l, wpOp P ops Q i (fun a' w' => (finalB ops i = false → S w') ∧ AnyF P ops Q S m (l.setIfInBounds i true) a' w') a w
theorem any_of_F : ∀ (m : Nat) (l : Array Bool) (a : Act) (w : World), AnyF P ops Q S m l a w → wpAny P .any ops Q m l a w
  | 0, _, _, _, h => h
  | m + 1, _, _, _, h => ⟨h.1, fun i hi => wpOp_mono (fun _ _ h2 => any_of_F m _ _ _ h2.2) (h.2 i hi)⟩
theorem AnyF_first {i : Nat} {oi : Oper} {v : Value} (hi : ops[i]? = some oi) (hsel : ∀ (j : Nat) (o : Oper) cs b, ops[j]? = some o → o.op ≠ .select cs b) (hQ : ∀ c a w, Q (.panic c) (a.put oi.dst v) w → Q (.panic c) a w) :
    ∀ (m : Nat) (l : Array Bool) (a : Act) (w : World), closedB ops l = true → (∀ j oj, ops[j]? = some oj → j ≠ i → l.getD j true = false → (∀ e ∈ oj.after, Region.binds .any e = true → e.on ≠ i) → oi.apart ops oj = true) →
      i ∈ Region.ready .any ops l → YieldsIf P ops S oi v a → S w → AnyF P ops Q S m (l.setIfInBounds i true) (a.put oi.dst v) w → AnyF P ops Q S (m + 1) l a w := by
  have hlt : i < ops.size := (Array.getElem?_eq_some_iff.1 hi).1
  intro m
  induction m with
  | zero =>
    intro l a w _ _ hr hy hS H
    refine ⟨fun h => absurd (h ▸ hr) (by simp), fun j hj => ?_⟩
    by_cases hji : j = i
    · subst hji; exact hy.wpOp hi hS ⟨fun _ => hS, H⟩
    · have h1 := ready_mono hj hji
      rw [H.1] at h1
      exact absurd h1 (by simp)
  | succ m ih =>
    intro l a w hcl hfree hr hy hS H
    refine ⟨fun h => absurd (h ▸ hr) (by simp), fun j hj => ?_⟩
    by_cases hji : j = i
    · subst hji; exact hy.wpOp hi hS ⟨fun _ => hS, H⟩
    · have h1 := H.2 j (ready_mono hj hji)
      obtain ⟨hjun, oj, hoj, hall⟩ := mem_ready.1 hj
      have h0 := (mem_ready.1 hr).1
      have hil : l.getD i false = false := by
        rcases Nat.lt_or_ge i l.size with h' | h'
        · simp [h'] at h0 ⊢; exact h0
        · simp [Array.getElem?_eq_none h'] at h0
      have hnot : ∀ e ∈ oj.after, Region.binds .any e = true → e.on ≠ i := fun e he hb heq => by
        have h3 := hall e he hb
        rw [heq, hil] at h3
        cases h3
      have hun : l.getD i true = false := by simpa using h0
      have hallT : ∀ e ∈ oj.after, Region.binds .any e = true → l.getD e.on true = true := fun e he hb => by
        have h3 := hall e he hb
        rcases Nat.lt_or_ge e.on l.size with h' | h'
        · simp [h'] at h3 ⊢; exact h3
        · simp [Array.getElem?_eq_none h']
      have hdiT : ∀ ok, ops[i]? = some ok → ∀ e ∈ ok.after, Region.binds .any e = true → l.getD e.on true = true := fun ok hok e he hb => by
        obtain ⟨_, o2, ho2, hall2⟩ := mem_ready.1 hr
        rw [hok] at ho2; injection ho2 with ho2; subst ho2
        have h3 := hall2 e he hb
        rcases Nat.lt_or_ge e.on l.size with h' | h'
        · simp [h'] at h3 ⊢; exact h3
        · simp [Array.getElem?_eq_none h']
      have hfin := final_false hcl hji hlt hoj hallT hun hjun hdiT
      have hcl2 : closedB ops (l.setIfInBounds j true) = true := closedB_mk fun k ok hok hk e he hb => by
        have hset : ∀ q, l.getD q true = true → (l.setIfInBounds j true).getD q true = true := fun q hq => by
          by_cases hjq : j = q
          · subst hjq
            rcases Nat.lt_or_ge j l.size with h' | h'
            · simp [h']
            · simp
          · rw [getD_set_ne true hjq]; exact hq
        by_cases hjk : j = k
        · subst hjk
          rw [hoj] at hok; injection hok with hok; subst hok
          exact hset _ (hallT e he hb)
        · rw [getD_set_ne true hjk] at hk
          exact hset _ (closedB_spec hcl hok hk e he hb)
      have h2 := wpOp_putIf hoj (hfree j oj hoj hji hjun hnot) (fun cs b => hsel i oi cs b hi) (fun cs b => hsel j oj cs b hoj) hQ hy h1
      refine wpOp_mono (fun a' w' h3 => ?_) h2
      have hS' := h3.2.1 hfin
      refine ⟨fun _ => hS', ih (l.setIfInBounds j true) a' w' hcl2 (fun k ok hk hki hun hno => ?_) (ready_mono hr (Ne.symm hji)) h3.1 hS' ?_⟩
      · refine hfree k ok hk hki ?_ hno
        by_cases hjk : j = k
        · subst hjk; exact hjun
        · rw [getD_set_ne true hjk] at hun; exact hun
      · rw [Array.setIfInBounds_comm _ _ hji]
        exact h3.2.2
theorem AnyF_take {i : Nat} {oi : Oper} {v : Value} {m : Nat} {l : Array Bool} {a : Act} {w : World} (hi : ops[i]? = some oi) (hs : Region.noSelect ops = true) (hf : Region.free .any ops l i = true) (hr : (Region.ready .any ops l).contains i = true) (hcl : closedB ops l = true)
    (hQ : ∀ c a w, Q (.panic c) (a.put oi.dst v) w → Q (.panic c) a w) (hy : YieldsIf P ops S oi v a) (hS : S w) (h : AnyF P ops Q S m (l.setIfInBounds i true) (a.put oi.dst v) w) : AnyF P ops Q S (m + 1) l a w :=
  AnyF_first hi (Region.noSelect_spec hs) hQ m l a w hcl (Region.free_spec hi hf) (by simpa using hr) hy hS h
theorem AnyF_all {rs : List Nat} {m : Nat} {l : Array Bool} {a : Act} {w : World} (hr : Region.ready .any ops l = rs) (hne : rs ≠ [])
    (h : ∀ i ∈ rs, wpOp P ops Q i (fun a' w' => (finalB ops i = false → S w') ∧ AnyF P ops Q S m (l.setIfInBounds i true) a' w') a w) : AnyF P ops Q S (m + 1) l a w :=
  ⟨fun h0 => absurd (hr ▸ h0) hne, hr ▸ h⟩
theorem AnyF_done {l : Array Bool} {a : Act} {w : World} (hr : Region.ready .any ops l = []) (h : Q .normal a w) : ∀ m, AnyF P ops Q S m l a w
  | 0 => ⟨hr, h⟩
  | _ + 1 => ⟨fun _ => h, by rw [hr]; simp⟩
end
section
variable {P : Program} {B : Exit → Act → World → Prop} {n : Nat} {k : List Kont} {f : Fr} {w : World} {ops : Array Oper} {S : World → Prop} {fuel : Nat} {d : List Nat}
def HQ (P : Program) (B : Exit → Act → World → Prop) (k : List Kont) : Exit → Act → World → Prop := NoPanic (Kx P B k)
def HA (P : Program) (B : Exit → Act → World → Prop) (n : Nat) (k : List Kont) (S : World → Prop) (ops : Array Oper) (fuel : Nat) (d : List Nat) (f : Fr) (w : World) : Prop :=
  ∀ a, Is n f a → AnyF P ops (HQ P B k) S fuel (lst ops d) a w
def HO (P : Program) (B : Exit → Act → World → Prop) (n : Nat) (k : List Kont) (S : World → Prop) (ops : Array Oper) (fuel : Nat) (d : List Nat) (f : Fr) (w : World) (i : Nat) : Prop :=
  ∀ a, Is n f a → wpOp P ops (HQ P B k) i (fun a' w' => (finalB ops i = false → S w') ∧ AnyF P ops (HQ P B k) S fuel (lst ops (i :: d)) a' w') a w
def BH (P : Program) (B : Exit → Act → World → Prop) (_n : Nat) (k : List Kont) (S : World → Prop) (ops : Array Oper) (fuel : Nat) (i : Nat) (d : List Nat) : Exit → Act → World → Prop
  | .normal, a, w => (finalB ops i = false → S w) ∧ AnyF P ops (HQ P B k) S fuel (lst ops (i :: d)) a w
  | _, _, _ => False
theorem h_region {id : Nat} {l : List Oper} (E : List Nat) (hm : P.follows .mixedOrders = true) (h : ∀ w1, Evo w w1 [] → Evo w w1 E → HA P B n k (fun w' => Evo w w' E) l.toArray l.toArray.size [] f w1) : KF P B n (.code (.region id l.toArray true) :: k) f w := by
  intro a ha
  show (Code.region id l.toArray true).wp P (Kx P B k) a w
  exact wp_region_noPanic (wp_region_any hm (any_of_F _ _ _ _ (h _ (Evo.drew _ _) (Evo.drew _ _) a ha)))
theorem h_take {i s : Nat} {oi : Oper} {v : Value} (hi : ops[i]? = some oi) (hg : oi.guard = none) (hdst : oi.dst = some s) (hd : Nat.blt s n = true) (hc : takeB ops d i = true)
    (hrun : ∀ w', S w' → (execOp (opv f) oi).run P w' = .ok (.value v) w') (hS : S w) (h : HA P B n k S ops fuel (i :: d) (upd f s v) w) : HA P B n k S ops (fuel + 1) d f w := by
  intro a ha
  simp only [takeB, Bool.and_eq_true] at hc
  refine AnyF_take (v := v) hi hc.1.1.1 hc.1.1.2 hc.1.2 hc.2 (fun _ _ _ h => (h : False).elim) (.inl ⟨by simp [Region.wanted, hg], fun w' hw' => ?_⟩) hS ?_
  · rw [ha.eval]; exact hrun w' hw'
  · rw [hdst]; exact h _ (ha.put hd v)
theorem h_all (rs : List Nat) (hr : readyB ops d rs = true) (hne : rs ≠ []) (h : ∀ i ∈ rs, HO P B n k S ops fuel d f w i) : HA P B n k S ops (fuel + 1) d f w := by
  intro a ha
  exact AnyF_all (by simpa [readyB] using hr) hne (fun i hi => h i hi a ha)
theorem h_one {i : Nat} (hr : readyB ops d [i] = true) (h : HO P B n k S ops fuel d f w i) : HA P B n k S ops (fuel + 1) d f w :=
  h_all [i] hr (by simp) (by intro j hj; simp at hj; subst hj; exact h)
theorem h_two {i j : Nat} (hr : readyB ops d [i, j] = true) (h : HO P B n k S ops fuel d f w i) (h2 : HO P B n k S ops fuel d f w j) : HA P B n k S ops (fuel + 1) d f w :=
  h_all [i, j] hr (by simp) (by intro q hq; simp at hq; rcases hq with rfl | rfl <;> assumption)
theorem h_done (hr : readyB ops d [] = true) (h : KF P B n k f w) : HA P B n k S ops fuel d f w := by
  intro a ha
  exact AnyF_done (by simpa [readyB] using hr) (NoPanic.normal (h a ha)) fuel
theorem h_do {i : Nat} {oi : Oper} (hi : ops[i]? = some oi) (h : KL P (BH P B n k S ops fuel i d) n ops [] [oi] f w) : HO P B n k S ops fuel d f w i := by
  intro a ha
  have h1 := h a ha
  unfold wpOp
  simp only [hi]
  unfold wpList at h1
  split
  · rename_i hw
    rw [if_pos hw] at h1
    rcases h1 with h1 | ⟨_, _, _, h2⟩
    · refine .inl ?_
      unfold Oper.wp at h1 ⊢
      generalize (execOp a.eval oi).run P w = r at h1 ⊢
      cases r with
      | ok nx w' =>
        cases nx <;> simp only [Oper.upon] at h1 ⊢ <;>
          first
            | exact h1
            | exact Calls.mono h1 (fun e w'' he => by cases e <;> first | exact he | exact (he : False).elim | (obtain ⟨_, _, h2⟩ := he; exact (h2 : False).elim))
            | exact Rows.mono h1 (fun _ _ he => he)
      | halt x w' => cases x <;> simp only [Oper.upon] at h1 ⊢ <;> first | exact (h1 : False).elim | exact h1
    · exact (h2 : False).elim
  · rename_i hw
    rw [if_neg hw] at h1
    exact h1
theorem h_next {i : Nat} (hS : S w) (h : HA P B n k S ops fuel (i :: d) f w) : KL P (BH P B n k S ops fuel i d) n ops [] [] f w := fun a ha => ⟨fun _ => hS, h a ha⟩
theorem h_last {i : Nat} (hf : finalB ops i = true) (h : HA P B n k S ops fuel (i :: d) f w) : KL P (BH P B n k S ops fuel i d) n ops [] [] f w := fun a ha => ⟨fun hn => Bool.noConfusion (hf.symm.trans hn), h a ha⟩
end
end Go.Vc
namespace Go.Vc
open Go Go.RowKit Go.IntWalk
section
variable {P : Program} {B : Exit → Act → World → Prop} {n : Nat} {k : List Kont} {f : Fr} {w : World} {ops : Array Oper} {S : World → Prop} {fuel : Nat} {d : List Nat}
end
end Go.Vc
namespace Go.Vc
open Go Go.RowKit Go.IntWalk
def flat (n : Nat) (c : Nat → List Value) : List Value := (List.range n).flatMap c
theorem flat_succ (n : Nat) (c : Nat → List Value) : flat (n + 1) c = flat n c ++ c n := by unfold flat; rw [List.range_succ]; simp
theorem flat_length {s : Nat} {c : Nat → List Value} (h : ∀ x, (c x).length = s) : ∀ n, (flat n c).length = n * s
  | 0 => by simp [flat]
  | n + 1 => by rw [flat_succ, List.length_append, flat_length h n, h, Nat.add_mul, Nat.one_mul]
theorem flat_at {s : Nat} {c : Nat → List Value} (h : ∀ x, (c x).length = s) {j : Nat} (hj : j < s) : ∀ (n x : Nat), x < n → (flat n c)[x * s + j]? = (c x)[j]?
  | 0, x, hx => absurd hx (by omega)
  | n + 1, x, hx => by
    rw [flat_succ]
    by_cases e : x = n
    · subst e
      rw [List.getElem?_append_right (by rw [flat_length h]; omega), flat_length h]
      congr 1
      omega
    · have hx' : x < n := by omega
      have : x * s + j < n * s := by
        have := Nat.mul_le_mul_right s (show x + 1 ≤ n from hx')
        rw [Nat.add_mul, Nat.one_mul] at this
        omega
      rw [List.getElem?_append_left (by rw [flat_length h]; exact this)]
      exact flat_at h hj n x hx'
theorem flat_congr {c c' : Nat → List Value} {n : Nat} (h : ∀ x, x < n → c x = c' x) : flat n c = flat n c' := by
  induction n with
  | zero => rfl
  | succ n ih => rw [flat_succ, flat_succ, ih (fun x hx => h x (by omega)), h n (by omega)]
theorem flat_set {s : Nat} {c : Nat → List Value} (h : ∀ x, (c x).length = s) (vs : List Value) (hv : vs.length = s) (n x : Nat) (hx : x < n) :
    (flat n c).take (x * s) ++ vs ++ (flat n c).drop (x * s + vs.length) = flat n (fun y => if y = x then vs else c y) := by
  have h2 : ∀ y, ((fun y => if y = x then vs else c y) y).length = s := fun y => by dsimp only; split <;> simp [*]
  have hle : x * s + s ≤ n * s := by have := Nat.mul_le_mul_right s (show x + 1 ≤ n from hx); rw [Nat.add_mul, Nat.one_mul] at this; exact this
  have hl := flat_length h n
  apply List.ext_getElem?
  intro i
  by_cases hi : i < n * s
  · have hs : 0 < s := by
      rcases Nat.eq_zero_or_pos s with e | e
      · rw [e] at hi; omega
      · exact e
    have hq : i / s < n := (Nat.div_lt_iff_lt_mul hs).2 hi
    have hr : i % s < s := Nat.mod_lt _ hs
    have hi2 : i = (i / s) * s + i % s := by rw [Nat.mul_comm]; exact (Nat.div_add_mod i s).symm
    have e1 : (flat n (fun y => if y = x then vs else c y))[i]? = (if i / s = x then vs else c (i / s))[i % s]? := by
      conv => lhs; rw [hi2]
      exact flat_at h2 hr n _ hq
    have e2 : (flat n c)[i]? = (c (i / s))[i % s]? := by
      conv => lhs; rw [hi2]
      exact flat_at h hr n _ hq
    rw [e1]
    by_cases hx1 : i < x * s
    · have hlt : i / s < x := (Nat.div_lt_iff_lt_mul hs).2 hx1
      rw [List.append_assoc, List.getElem?_append_left (by rw [List.length_take]; omega), List.getElem?_take_of_lt hx1, e2, if_neg (by omega)]
    · by_cases hx2 : i < x * s + s
      · have hix : i / s = x := by
          have h3 : x ≤ i / s := (Nat.le_div_iff_mul_le hs).2 (by omega)
          have h4 : i / s < x + 1 := (Nat.div_lt_iff_lt_mul hs).2 (by rw [Nat.add_mul, Nat.one_mul]; exact hx2)
          omega
        rw [if_pos hix, List.append_assoc, List.getElem?_append_right (by rw [List.length_take]; omega), List.length_take, Nat.min_eq_left (by omega), List.getElem?_append_left (by omega)]
        congr 1
        rw [hix] at hi2
        omega
      · have hgt : i / s ≠ x := by
          intro e
          rw [e] at hi2
          omega
        rw [if_neg hgt, ← e2, List.getElem?_append_right (by rw [List.length_append, List.length_take]; omega), List.getElem?_drop, List.length_append, List.length_take]
        congr 1
        omega
  · rw [List.getElem?_eq_none (by rw [List.length_append, List.length_append, List.length_take, List.length_drop]; omega), List.getElem?_eq_none (by rw [flat_length h2]; omega)]
structure FB (w : World) (b : Nat) (T : TypeId) (s n : Nat) (c : Nat → List Value) : Prop where
  blk : Blk w b T (flat n c)
  len : ∀ x, (c x).length = s
section
variable {w w' : World} {b : Nat} {T : TypeId} {s n : Nat} {c : Nat → List Value} {E : List Nat}
theorem FB.evo (h : FB w b T s n c) (he : Evo w w' E) (hn : b ∉ E) : FB w' b T s n c := ⟨h.blk.evo he hn, h.len⟩
theorem FB.evo0 (h : FB w b T s n c) (he : Evo w w' []) : FB w' b T s n c := h.evo he (by simp)
theorem FB.lt (h : FB w b T s n c) : b < w.heap.size := h.blk.lt
theorem FB.cell (h : FB w b T s n c) {x j : Nat} (hx : x < n) (hj : j < s) {v : Value} (hv : (c x)[j]? = some v) : w.cell? ⟨b, 0 + x * s + j, none⟩ = some v := by
  have := h.blk.at (x * s + j) v (by rw [flat_at h.len hj n x hx]; exact hv)
  rwa [← Nat.add_assoc] at this
theorem FB.cell0 (h : FB w b T s n c) {x : Nat} (hx : x < n) {v : Value} {r : List Value} (hv : c x = v :: r) : w.cell? ⟨b, 0 + x * s, none⟩ = some v :=
  h.cell (j := 0) hx (by rw [← h.len x, hv]; simp) (by rw [hv]; rfl)
theorem FB.at (h : FB w b T s n c) {x : Nat} (hx : x < n) : At w b (0 + x * s) (c x) := fun j v hj => h.cell hx (by
  rcases Nat.lt_or_ge j s with h1 | h1
  · exact h1
  · rw [List.getElem?_eq_none (by rw [h.len]; exact h1)] at hj; cases hj) hj
theorem FB.congr (h : FB w b T s n c) {c' : Nat → List Value} (hc : ∀ x, c' x = c x) : FB w b T s n c' := by
  rw [show c' = c from funext hc]; exact h
theorem FB.congr' (h : FB w b T s n c) {c' : Nat → List Value} (hl : ∀ x, (c' x).length = s) (hc : ∀ x, x < n → c' x = c x) : FB w b T s n c' :=
  ⟨by rw [flat_congr hc]; exact h.blk, hl⟩
end
section
variable {P : Program} {B : Exit → Act → World → Prop} {n : Nat} {k : List Kont} {f : Fr} {w : World} {ops : Array Oper} {rest : List Oper}
theorem madeCells_flat {z : Value} {zs : List Value} {m : Nat} (hz : z.cells = zs.toArray) (hm : zs.length = m) (h0 : 0 < m) (len : Nat) : madeCells z.cells (len * m) = (flat len (fun _ => zs)).toArray := by
  have e : flat len (fun _ => zs) = (List.replicate len zs).flatten := by
    unfold flat
    induction len with
    | zero => simp
    | succ len ih => rw [List.range_succ, List.replicate_succ', List.flatMap_append, ih]; simp
  rw [e, ← zeros_cells hz hm h0 len]
  unfold madeCells
  apply Array.ext'
  simp
theorem r_make {T E d m bb len : Nat} {t : TypeId} {pos : String} {aft : Array Edge} {x y : Operand} {z : Value} {zs : List Value} {κ κ' : IntKind} {i j : Int}
    (hu : P.underlying T = some (.slice E)) (ht : tyP P E = some (m, bb, some z)) (hz : z.cells = zs.toArray) (hm : (Nat.beq zs.length m && Nat.ble 1 m) = true) (hd : Nat.blt d n = true)
    (hx : opv f x = .int κ i) (hy : opv f y = .int κ' j) (hi : i = (len : Int)) (hj : j = (len : Int)) (hlen : len * m ≤ 10000000) (hb : bb * len ≤ 10000000)
    (h : ∀ b w', b = w.heap.size → Evo w w' [] → FB w' b E m len (fun _ => zs) → w'.heap.size = b + 1 → KL P B n ops k rest (upd f d (.slice (some ⟨b, 0, none⟩) len len)) w') :
    KL P B n ops k (⟨some d, .makeSlice T x y, t, pos, aft, none⟩ :: rest) f w := by
  simp only [Bool.and_eq_true, Nat.ble_eq] at hm
  have hzl := Nat.eq_of_beq_eq_true hm.1
  obtain ⟨it, hit, h1, h2, h3⟩ := info_of ht
  have hll : len ≤ len * m := Nat.le_mul_of_pos_right len (by omega)
  have hbb : (bb : Int) * (len : Int) = ((bb * len : Nat) : Int) := by simp
  have hrun := run_makeSlice (P := P) (w := w) T E it z hu hit h3 κ κ' (len : Int) (len : Int) (by omega) (Int.le_refl _) (by rw [h1, Int.toNat_natCast]; omega) (by rw [h2, hbb]; omega) (by omega)
  simp only [Int.toNat_natCast, h1] at hrun
  rw [madeCells_flat hz hzl (by omega) len] at hrun
  refine r_op (v := .slice (some ⟨w.heap.size, 0, none⟩) len len) (w' := w.alloc (.cells (flat len (fun _ => zs)).toArray E)) rfl rfl hd ?_ (h _ _ rfl (Evo.alloc _ _ _) ⟨heap_alloc_new w _, fun _ => hzl⟩ (by simp))
  subst hi
  subst hj
  simp [execOp, hx, hy, hrun]
theorem r_storeF {T T' : TypeId} {t : TypeId} {pos : String} {aft : Array Edge} {x y : Operand} {b len m bb off : Nat} {z : Option Value} {v : Value} {c : Nat → List Value} {vs : List Value} (i : Nat)
    (hx : opv f x = .pointer (some ⟨b, off, none⟩)) (hoff : off = 0 + i * m) (hy : opv f y = v) (hb : FB w b T' m len c) (hi : i < len) (ht : tyP P T = some (m, bb, z)) (hv : v.cells = vs.toArray) (hm : Nat.beq vs.length m = true)
    (h1 : oneCells vs = true)
    (h : ∀ w', Evo w w' [b] → w'.heap.size = w.heap.size → FB w' b T' m len (fun q => if q = i then vs else c q) → KL P B n ops k rest f w') :
    KL P B n ops k (⟨none, .store T x y, t, pos, aft, none⟩ :: rest) f w := by
  subst hoff
  have hm := Nat.eq_of_beq_eq_true hm
  have hle : i * m + m ≤ len * m := by have := Nat.mul_le_mul_right m (show i + 1 ≤ len from hi); rw [Nat.add_mul, Nat.one_mul] at this; exact this
  refine r_store (T' := T') (cs' := flat len (fun q => if q = i then vs else c q)) hx hy hb.blk ht hv hm h1 ?_ ?_ (fun w' he hs hB => h w' he hs ⟨hB, fun q => by split <;> simp [hb.len, hm]⟩)
  · rw [Nat.ble_eq, flat_length hb.len]; omega
  · have := flat_set hb.len vs hm len i hi
    simpa using this
end
def rowsC (rb : Nat → Nat) (lo m : Nat) : Nat → List Value := fun x => if lo ≤ x then [.slice (some ⟨rb x, 0, none⟩) m m] else [.slice none 0 0]
theorem rowsC_at {rb : Nat → Nat} {lo m x : Nat} (h : lo ≤ x) : rowsC rb lo m x = [.slice (some ⟨rb x, 0, none⟩) m m] := by unfold rowsC; rw [if_pos h]
structure Tab (w : World) (base bt : Nat) (T E : TypeId) (s n m lo : Nat) (rb : Nat → Nat) (c : Nat → Nat → List Value) : Prop where
  out : FB w bt T 1 n (rowsC rb lo m)
  row : ∀ x, lo ≤ x → x < n → FB w (rb x) E s m (c x)
  old : ∀ x, lo ≤ x → x < n → base ≤ rb x ∧ rb x ≠ bt
  apart : ∀ x y, lo ≤ x → x < n → lo ≤ y → y < n → rb x = rb y → x = y
  base : base ≤ bt
section
variable {w w' : World} {base bt : Nat} {T E : TypeId} {s n m lo : Nat} {rb : Nat → Nat} {c : Nat → Nat → List Value} {X : List Nat}
theorem Tab.new (h : FB w bt T 1 n (fun _ => [.slice none 0 0])) (hb : base ≤ bt) (rb : Nat → Nat) (c : Nat → Nat → List Value) : Tab w base bt T E s n m n rb c :=
  ⟨h.congr' (fun x => by unfold rowsC; split <;> rfl) (fun x hx => by unfold rowsC; rw [if_neg (by omega)]), fun x h1 h2 => absurd h2 (by omega), fun x h1 h2 => absurd h2 (by omega), fun x y h1 h2 => absurd h2 (by omega), hb⟩
theorem Tab.evo (h : Tab w base bt T E s n m lo rb c) (he : Evo w w' X) (h1 : bt ∉ X) (h2 : ∀ x, lo ≤ x → x < n → rb x ∉ X) : Tab w' base bt T E s n m lo rb c :=
  ⟨h.out.evo he h1, fun x h3 h4 => (h.row x h3 h4).evo he (h2 x h3 h4), h.old, h.apart, h.base⟩
theorem Tab.evo0 (h : Tab w base bt T E s n m lo rb c) (he : Evo w w' []) : Tab w' base bt T E s n m lo rb c := h.evo he (by simp) (by simp)
theorem Tab.lt (h : Tab w base bt T E s n m lo rb c) : bt < w.heap.size ∧ ∀ x, lo ≤ x → x < n → rb x < w.heap.size := ⟨h.out.lt, fun x h1 h2 => (h.row x h1 h2).lt⟩
theorem Tab.add (h : Tab w base bt T E s n m (lo + 1) rb c) (hlo : lo < n) {b : Nat} {cb : Nat → List Value} (hb : w.heap.size ≤ b) (hbase : base ≤ w.heap.size) (he : Evo w w' [bt]) (hout : FB w' bt T 1 n (fun q => if q = lo then [.slice (some ⟨b, 0, none⟩) m m] else rowsC rb (lo + 1) m q))
    (hrow : FB w' b E s m cb) {c' : Nat → Nat → List Value} (hc : c' lo = cb) (hc2 : ∀ x, lo < x → c' x = c x) : Tab w' base bt T E s n m lo (fun q => if q = lo then b else rb q) c' := by
  refine ⟨hout.congr (fun x => ?_), fun x h1 h2 => ?_, fun x h1 h2 => ?_, fun x y h1 h2 h3 h4 => ?_, h.base⟩
  · unfold rowsC
    show (if lo ≤ x then [Value.slice (some ⟨if x = lo then b else rb x, 0, none⟩) m m] else [Value.slice none 0 0]) = _
    by_cases e : x = lo
    · rw [if_pos (by omega), if_pos e, if_pos e]
    · by_cases e2 : lo + 1 ≤ x
      · rw [if_pos (by omega), if_neg e, if_neg e, if_pos e2]
      · rw [if_neg (by omega), if_neg e, if_neg e2]
  · by_cases e : x = lo
    · subst e; simp only [if_true]; rw [hc]; exact hrow
    · simp only [if_neg e]
      rw [hc2 x (by omega)]
      exact (h.row x (by omega) h2).evo he (by have := (h.old x (by omega) h2).2; simpa using this)
  · by_cases e : x = lo
    · have := h.out.lt
      simp only [if_pos e]
      exact ⟨by omega, by omega⟩
    · simp only [if_neg e]; exact h.old x (by omega) h2
  · have hl := fun z h1 h2 => (h.row z h1 h2).lt
    by_cases e : x = lo <;> by_cases e2 : y = lo
    · intro _; omega
    · simp only [if_pos e, if_neg e2]; intro e3; have := hl y (by omega) h4; omega
    · simp only [if_neg e, if_pos e2]; intro e3; have := hl x (by omega) h2; omega
    · simp only [if_neg e, if_neg e2]; exact h.apart x y (by omega) h2 (by omega) h4
theorem Tab.congr (h : Tab w base bt T E s n m lo rb c) {c' : Nat → Nat → List Value} (hc : ∀ x, lo ≤ x → x < n → ∀ y, c' x y = c x y) : Tab w base bt T E s n m lo rb c' :=
  ⟨h.out, fun x h1 h2 => (h.row x h1 h2).congr (hc x h1 h2), h.old, h.apart, h.base⟩
theorem Tab.store (h : Tab w base bt T E s n m lo rb c) {i : Nat} (h1 : lo ≤ i) (h2 : i < n) (he : Evo w w' [rb i]) {cb : Nat → List Value} (hr : FB w' (rb i) E s m cb) : Tab w' base bt T E s n m lo rb (fun x => if x = i then cb else c x) := by
  refine ⟨h.out.evo he (by have := (h.old i h1 h2).2; simpa using Ne.symm this), fun x h3 h4 => ?_, h.old, h.apart, h.base⟩
  by_cases e : x = i
  · subst e; simp only [if_true]; exact hr
  · simp only [if_neg e]
    exact (h.row x h3 h4).evo he (by simp; intro e3; exact e (h.apart x i h3 h4 h1 h2 e3))
theorem Tab.load (h : Tab w base bt T E s n m lo rb c) (x : Nat) (h1 : lo ≤ x) (h2 : x < n) : w.cell? ⟨bt, 0 + x * 1, none⟩ = some (.slice (some ⟨rb x, 0, none⟩) m m) := h.out.cell0 h2 (rowsC_at h1)
theorem Tab.cell (h : Tab w base bt T E s n m lo rb c) (x y j : Nat) (h1 : lo ≤ x) (h2 : x < n) (h3 : y < m) (h4 : j < s) {v : Value} (hv : (c x y)[j]? = some v) : w.cell? ⟨rb x, 0 + y * s + j, none⟩ = some v := (h.row x h1 h2).cell h3 h4 hv
theorem Tab.cell0 (h : Tab w base bt T E s n m lo rb c) (x y : Nat) (h1 : lo ≤ x) (h2 : x < n) (h3 : y < m) {v : Value} {r : List Value} (hv : c x y = v :: r) : w.cell? ⟨rb x, 0 + y * s, none⟩ = some v := (h.row x h1 h2).cell0 h3 hv
theorem Tab.at (h : Tab w base bt T E s n m lo rb c) (x y : Nat) (h1 : lo ≤ x) (h2 : x < n) (h3 : y < m) : At w (rb x) (0 + y * s) (c x y) := (h.row x h1 h2).at h3
end
theorem rowLit {α : Type} [Enc α] {w : World} {b : Nat} {T : TypeId} {cs : List Value} (l : List α) (h : Blk w b T cs) (hc : cs = (l.map Enc.enc).flatten) (hl : Nat.ble l.length 10000 = true) : RowE w (some ⟨b, 0, none⟩) b 0 l.length l := by
  subst hc
  refine ⟨⟨by simp, by have := Nat.le_of_ble_eq_true hl; simp; omega⟩, fun _ => rfl, fun i cs hi => ?_⟩
  have hlen : ∀ c ∈ l.map (Enc.enc (α := α)), c.length = Enc.n α := by
    intro c hc
    obtain ⟨x, _, rfl⟩ := List.mem_map.1 hc
    exact Enc.len x
  have hcs := hlen cs (List.mem_of_getElem? hi)
  refine ⟨hcs, fun j v hj => ?_⟩
  have hjm : j < Enc.n α := by
    rcases Nat.lt_or_ge j (Enc.n α) with h1 | h1
    · exact h1
    · rw [List.getElem?_eq_none (by omega)] at hj; cases hj
  have := h.at (i * Enc.n α + j) v (by rw [flatten_at _ _ i j cs hlen hi hjm]; exact hj)
  rwa [← Nat.add_assoc] at this
end Go.Vc
namespace Go.Vc
open Go Go.RowKit Go.IntWalk
section
variable {P : Program} {w : World} {f : Fr} {o : Oper}
theorem run_part1 {E : TypeId} {cs : Array Value} {i : Nat} {v : Value} (ha : aggP P E = some false) (hv : cs[i]? = some v) : (part E cs i).run P w = .ok v w := by
  simp [part, run_isAgg ha, hv]
end
end Go.Vc
namespace Go.Vc
open Go Go.RowKit Go.IntWalk
section
variable {P : Program} {f : Fr} {w : World} {o : Oper}
theorem run_ixA1 {T E : TypeId} {x y : Operand} {len bb : Nat} {z : Option Value} {κ : IntKind} {i : Int} {cs : List Value} {v : Value} (j : Nat) (ho : o.op = .index T x y) (hu : P.underlying T = some (.array len E))
    (ht : tyP P E = some (1, bb, z)) (ha : aggP P E = some false) (hx : opv f x = .agg cs.toArray) (hy : opv f y = .int κ i) (hij : i = (j : Int)) (hlt : j < len) (hd : cs[j]? = some v) :
    (execOp (opv f) o).run P w = .ok (.value v) w := by
  subst hij
  unfold execOp; rw [ho]; simp only []; rw [hx, hy]
  have h1 : (0 : Int) ≤ (j : Int) ∧ (j : Int) < (len : Int) := by omega
  simp [Instr.index, run_underlying hu, asIntOf, run_sizeOf ht, h1, part, run_isAgg ha, hd]
  intro h2
  omega
end
section
variable {P : Program} {fn : Func} {n : Nat} {f : Fr} {w : World}
end
section
variable {P : Program} {f : Fr} {w : World} {o : Oper}
end
section
variable {P : Program} {f : Fr} {w : World} {o : Oper}
theorem run_slE0 {α : Type} [Enc α] {l : List α} {T E m bb : Nat} {z : Option Value} {x : Operand} {ao : Option Addr} {b off cap : Nat} {lo : Option Operand} (i : Nat) (ho : o.op = .slice T x lo none none) (hu : P.underlying T = some (.slice E))
    (ht : tyP P E = some (m, bb, z)) (hmn : m = Enc.n α) (hx : opv f x = .slice ao l.length cap) (hr : RowE w ao b off cap l) (hlo : (lo.map (opv f) = none ∧ i = 0) ∨ ∃ κ, lo.map (opv f) = some (.int κ (i : Int))) (h1 : i ≤ l.length) :
    (execOp (opv f) o).run P w = .ok (.value (.slice (if cap = i then ao else ao.map (·.add (i * Enc.n α))) (l.drop i).length (cap - i))) w := by
  have := run_sl (P := P) (w := w) (f := f) (o := o) i l.length ho hu ht hx hlo hi0 h1 hr.le
  rw [List.length_drop, ← hmn]
  exact this
end
theorem run_mvb {P : Program} {f : Fr} {w : World} {o : Oper} {x : Operand} {b : Bool} (ho : o.op = .move x) (hx : opv f x = .bool b) : (execOp (opv f) o).run P w = .ok (.value (.bool (decide (b = true)))) w := by
  rw [Bool.decide_eq_true]; exact run_mv ho hx
end Go.Vc
namespace Go.Vc
open Go Go.RowKit Go.IntWalk
theorem Evo.weaken {w w' : World} {X Y : List Nat} (h : Evo w w' X) (hX : ∀ x ∈ X, x ∈ Y ∨ w.heap.size ≤ x) : Evo w w' Y :=
  ⟨h.os, h.tape, h.output, h.size, fun b hb hn => h.same b hb (fun hm => by
    rcases hX b hm with h1 | h1
    · exact hn h1
    · omega)⟩
def OwnR {α : Type} [Rep α] (w : World) (base : Nat) (E : TypeId) (Y : List Nat) (v : Value) (l : List α) : Prop :=
  ∃ css, Own w base E (Rep.n α) v css ∧ ∀ w', Evo w w' (Y ++ v.ownBlock.toList) → RepL w' css l
section
variable {α : Type} [Rep α] {w w' : World} {base : Nat} {E : TypeId} {Y X : List Nat} {v : Value} {l : List α}
theorem OwnR.nil (w : World) (base : Nat) (E : TypeId) (Y : List Nat) : OwnR (α := α) w base E Y (.slice none 0 0) [] := ⟨[], Own.nil _ _ _ _, fun _ _ => RepL.nil _⟩
theorem OwnR.block (h : OwnR w base E Y v l) {g : Nat} (hg : v.ownBlock = some g) : base ≤ g ∧ g < w.heap.size := let ⟨_, h1, _⟩ := h; h1.block hg
theorem OwnR.shape (h : OwnR w base E Y v l) : ∃ ao cap, v = .slice ao l.length cap := by
  obtain ⟨css, h1, h2⟩ := h
  have := (h2 w (Evo.refl _ _)).1
  rw [← this]
  exact h1.shape
theorem OwnR.bd (h : OwnR w base E Y v l) : l.length ≤ 140737488355328 := by
  obtain ⟨css, h1, h2⟩ := h
  rw [← (h2 w (Evo.refl _ _)).1]
  exact h1.bd
theorem OwnR.evo (h : OwnR w base E Y v l) (he : Evo w w' X) (hX : ∀ x ∈ X, x ∈ Y ∨ w.heap.size ≤ x) (hb : ∀ g, v.ownBlock = some g → g ∉ X) : OwnR w' base E Y v l := by
  obtain ⟨css, h1, h2⟩ := h
  refine ⟨css, h1.evo he hb, fun w'' he2 => h2 w'' (Evo.trans (he.weaken (Y := Y ++ v.ownBlock.toList) (fun x hx => ?_)) he2 (fun x hx _ => hx))⟩
  rcases hX x hx with h3 | h3
  · exact .inl (List.mem_append_left _ h3)
  · exact .inr h3
theorem OwnR.evo0 (h : OwnR w base E Y v l) (he : Evo w w' []) : OwnR w' base E Y v l := h.evo he (by simp) (by simp)
theorem OwnR.evoY (h : OwnR w base E Y v l) (he : Evo w w' Y) (hb : ∀ y ∈ Y, y < base) : OwnR w' base E Y v l := h.evo he (fun x hx => .inl hx) (fun g hg hm => by have := hb g hm; have := h.block hg; omega)
theorem OwnR.sub {base' : Nat} {Y' : List Nat} (h : OwnR w base E Y v l) (hb : base' ≤ base) (hY : ∀ y ∈ Y', y ∈ Y) : OwnR w base' E Y' v l := by
  obtain ⟨css, h1, h2⟩ := h
  refine ⟨css, h1.base_le hb, fun w' he => h2 w' (he.mono (fun x hx => ?_))⟩
  rcases List.mem_append.1 hx with h3 | h3
  · exact List.mem_append_left _ (hY x h3)
  · exact List.mem_append_right _ h3
theorem OwnR.rowOf (h : OwnR w base E Y v l) : ∃ ao g cap, v = .slice ao l.length cap ∧ RowR w ao g 0 cap l := by
  obtain ⟨css, h1, h2⟩ := h
  have h3 := h2 w (Evo.refl _ _)
  obtain ⟨ao, g, cap, hv, hr, _⟩ := h1.rowOf
  exact ⟨ao, g, cap, by rw [← h3.1]; exact hv, css, hr, h3⟩
theorem r_append1R {P : Program} {B : Exit → Act → World → Prop} {n : Nat} {k : List Kont} {f : Fr} {ops : Array Oper} {rest : List Oper} {T d d1 bb m : Nat} {t t1 : TypeId} {pos pos1 : String} {aft aft1 : Array Edge} {x e : Operand} {z u : Value} {us : List Value} {y : α}
    (hd : Nat.blt d n = true) (hd1 : Nat.blt d1 n = true) (hu : P.underlying T = some (.slice E)) (ht : tyP P E = some (m, bb, some z)) (hzs : z.cells.size = m) (hm : (Nat.ble 1 m && Nat.ble m 10000) = true) (hmn : m = Rep.n α)
    (hown : OwnR w base E Y v l) (hx : ∀ q, opv (upd f d1 q) x = v) (he : opv f e = u) (hus : u.cells = us.toArray) (hml : us.length = m) (h1 : oneCells us = true) (hrep : ∀ w', Evo w w' (Y ++ v.ownBlock.toList) → Rep.rep w' us y)
    (hbytes : (l.length + 1) * bb ≤ 140737488355328) (hlen : l.length + 1 ≤ 140737488355328) (hbase : base ≤ w.heap.size)
    (h : ∀ q v' w', Evo w w' v.ownBlock.toList → OwnR w' base E Y v' (l ++ [y]) → (v'.ownBlock = v.ownBlock ∨ ∃ g, v'.ownBlock = some g ∧ w.heap.size ≤ g) → KL P B n ops k rest (upd (upd f d1 q) d v') w') :
    KL P B n ops k (⟨some d1, .buildSlice T 1 #[(0, e)], t1, pos1, aft1, none⟩ :: ⟨some d, .call ⟨.builtin .append, #[x, .tmp d1], #[T, T]⟩, t, pos, aft, none⟩ :: rest) f w := by
  subst hmn
  obtain ⟨css, h2, h3⟩ := hown
  have hl := (h3 w (Evo.refl _ _)).1
  refine r_append1 hd hd1 hu ht hzs hm h2 hx he hus hml h1 (by rw [hl]; exact hbytes) (by rw [hl]; exact hlen) hbase (fun q v' w' he' hown' hloc => h q v' w' he' ⟨_, hown', fun w'' he2 => ?_⟩ hloc)
  have hE : Evo w w'' (Y ++ v.ownBlock.toList) := Evo.trans (he'.weaken (fun x hx => .inl (List.mem_append_right _ hx))) he2 (fun x hx hlt => by
    rcases List.mem_append.1 hx with h4 | h4
    · exact List.mem_append_left _ h4
    · have h5 : v'.ownBlock = some x := by simpa using h4
      rcases hloc with h6 | ⟨g, h6, h7⟩
      · exact List.mem_append_right _ (by rw [← h6]; exact h4)
      · rw [h5] at h6; injection h6 with h6; omega)
  exact (h3 w'' hE).append (RepL.one (hrep w'' hE))
end
theorem flatten_set (m : Nat) : ∀ (css : List (List Value)) (i k : Nat) (c vs : List Value), (∀ cs ∈ css, cs.length = m) → css[i]? = some c → k + vs.length ≤ m →
    css.flatten.take (i * m + k) ++ vs ++ css.flatten.drop (i * m + k + vs.length) = (css.set i (c.take k ++ vs ++ c.drop (k + vs.length))).flatten
  | [], i, k, c, vs, _, h, _ => by simp at h
  | d :: css, 0, k, c, vs, hm, h, hk => by
    simp at h; subst h
    have hd : d.length = m := hm d (by simp)
    simp only [List.flatten_cons, Nat.zero_mul, Nat.zero_add, List.set_cons_zero]
    rw [List.take_append_of_le_length (by omega), List.drop_append_of_le_length (by omega)]
    simp
  | d :: css, i + 1, k, c, vs, hm, h, hk => by
    have hd : d.length = m := hm d (by simp)
    have ih := flatten_set m css i k c vs (fun x hx => hm x (by simp [hx])) (by simpa using h) hk
    simp only [List.flatten_cons, List.set_cons_succ]
    rw [← ih]
    have e1 : (i + 1) * m + k = d.length + (i * m + k) := by rw [hd, Nat.add_mul]; omega
    have e2 : (i + 1) * m + k + vs.length = d.length + (i * m + k + vs.length) := by omega
    rw [e2, e1, List.take_length_add_append, List.drop_length_add_append]
    simp
section
variable {P : Program} {B : Exit → Act → World → Prop} {n : Nat} {k : List Kont} {f : Fr} {w : World} {ops : Array Oper} {rest : List Oper}
theorem r_storeO {T E : TypeId} {t : TypeId} {pos : String} {aft : Array Edge} {x y : Operand} {base g m mt bb off : Nat} {z : Option Value} {v u : Value} {css : List (List Value)} {vs c : List Value} (i k0 : Nat)
    (hx : opv f x = .pointer (some ⟨g, off, none⟩)) (hoff : off = 0 + i * m + k0) (hy : opv f y = u) (hown : Own w base E m v css) (hg : v.ownBlock = some g) (hc : css[i]? = some c) (ht : tyP P T = some (mt, bb, z)) (hv : u.cells = vs.toArray) (hm : vs.length = mt)
    (h1 : oneCells vs = true) (hk : k0 + vs.length ≤ m)
    (h : ∀ w', Evo w w' [g] → w'.heap.size = w.heap.size → Own w' base E m v (css.set i (c.take k0 ++ vs ++ c.drop (k0 + vs.length))) → KL P B n ops k rest f w') :
    KL P B n ops k (⟨none, .store T x y, t, pos, aft, none⟩ :: rest) f w := by
  subst hoff
  have hi : i < css.length := by
    rcases Nat.lt_or_ge i css.length with h2 | h2
    · exact h2
    · rw [List.getElem?_eq_none h2] at hc; cases hc
  have hcm : c.length = m := hown.each c (List.mem_of_getElem? hc)
  rcases hown.row.2 with ⟨hv2, _⟩ | ⟨g2, cap, cur, hv2, hb, hblk, hn, hcap, hs, htk⟩
  · rw [hv2] at hg; cases hg
  · have e : g2 = g := by rw [hv2] at hg; simpa [Value.ownBlock] using hg
    subst e
    have hB : Blk w g2 E cur.toList := by simpa [Blk] using hblk
    have hle : i * m + m ≤ css.length * m := by have := Nat.mul_le_mul_right m (show i + 1 ≤ css.length from hi); rw [Nat.add_mul, Nat.one_mul] at this; exact this
    have hle2 : css.length * m ≤ cap * m := Nat.mul_le_mul_right m hn
    refine r_store (T' := E) (cs' := cur.toList.take (0 + i * m + k0) ++ vs ++ cur.toList.drop (0 + i * m + k0 + vs.length)) hx hy hB ht hv hm h1 ?_ rfl (fun w' he hsz hB' => h w' he hsz ⟨⟨?_, .inr ⟨g2, cap, (cur.toList.take (0 + i * m + k0) ++ vs ++ cur.toList.drop (0 + i * m + k0 + vs.length)).toArray, ?_, hb, hB', ?_, hcap, ?_, ?_⟩⟩, ?_, ?_⟩)
    · rw [Nat.ble_eq]; simp [hs]; omega
    · rw [flatten_length _ m, List.length_set]
      intro d hd
      rcases List.mem_or_eq_of_mem_set hd with h3 | h3
      · exact hown.each d h3
      · rw [h3]; simp; omega
    · rw [hv2, List.length_set]
    · rw [List.length_set]; exact hn
    · simp [hs]; omega
    · rw [List.length_set]
      rw [← flatten_set m css i k0 c vs hown.each hc hk]
      have hfl := flatten_length css m hown.each
      obtain ⟨R, hcur⟩ : ∃ R, cur.toList = css.flatten ++ R := ⟨cur.toList.drop (css.length * m), by rw [← htk, List.take_append_drop]⟩
      have e1 : (css.flatten ++ R).take (i * m + k0) = css.flatten.take (i * m + k0) := List.take_append_of_le_length (by omega)
      have e2 : (css.flatten ++ R).drop (i * m + k0 + vs.length) = css.flatten.drop (i * m + k0 + vs.length) ++ R := List.drop_append_of_le_length (by omega)
      simp only [Nat.zero_add]
      rw [hcur, e1, e2, ← List.append_assoc]
      refine List.take_left' ?_
      simp only [List.length_append, List.length_take, List.length_drop]
      omega
    · intro d hd
      rcases List.mem_or_eq_of_mem_set hd with h3 | h3
      · exact hown.each d h3
      · rw [h3]; simp; omega
    · rw [List.length_set]; exact hown.bd
end
theorem rowLitR {α : Type} [Rep α] {w : World} {b : Nat} {T : TypeId} {cs : List Value} (css : List (List Value)) (l : List α) (h : Blk w b T cs) (hc : cs = css.flatten) (hr : RepL w css l) (hl : Nat.ble l.length 10000 = true) : RowR w (some ⟨b, 0, none⟩) b 0 l.length l := by
  subst hc
  have hlen : ∀ c ∈ css, c.length = Rep.n α := by
    intro c hc
    obtain ⟨i, hi⟩ := List.getElem?_of_mem hc
    have hi2 : i < l.length := by
      rw [← hr.1]
      rcases Nat.lt_or_ge i css.length with h1 | h1
      · exact h1
      · rw [List.getElem?_eq_none h1] at hi; cases hi
    exact Rep.len (hr.2 i c l[i] hi (by simp [hi2]))
  refine ⟨css, ⟨⟨by rw [hr.1]; exact Nat.le_refl _, by rw [hr.1]; have := Nat.le_of_ble_eq_true hl; omega⟩, fun _ => rfl, fun i cs hi => ?_⟩, hr⟩
  have hcs := hlen cs (List.mem_of_getElem? hi)
  refine ⟨hcs, fun j v hj => ?_⟩
  have hjm : j < Rep.n α := by
    rcases Nat.lt_or_ge j (Rep.n α) with h1 | h1
    · exact h1
    · rw [List.getElem?_eq_none (by omega)] at hj; cases hj
  have := h.at (i * Rep.n α + j) v (by rw [flatten_at _ _ i j cs hlen hi hjm]; exact hj)
  rwa [← Nat.add_assoc] at this
end Go.Vc
namespace Go.Vc
open Go Go.RowKit Go.IntWalk
section
variable {α : Type} [Rep α] {w w' : World} {base : Nat} {E : TypeId} {Y X Z : List Nat} {v : Value} {l : List α}
theorem OwnR.grow (h : OwnR w base E Y v l) (he : Evo w w' X) (hX : ∀ x ∈ X, x ∈ Y ∨ w.heap.size ≤ x) (hb : ∀ g, v.ownBlock = some g → g ∉ X) (hZ : ∀ z ∈ Z, z ∈ Y ∨ w.heap.size ≤ z) : OwnR w' base E Z v l := by
  obtain ⟨css, h1, h2⟩ := h
  refine ⟨css, h1.evo he hb, fun w'' he2 => h2 w'' (Evo.trans (he.weaken (Y := Y ++ v.ownBlock.toList) (fun x hx => ?_)) he2 (fun x hx hlt => ?_))⟩
  · rcases hX x hx with h3 | h3
    · exact .inl (List.mem_append_left _ h3)
    · exact .inr h3
  · rcases List.mem_append.1 hx with h3 | h3
    · rcases hZ x h3 with h4 | h4
      · exact List.mem_append_left _ h4
      · omega
    · exact List.mem_append_right _ h3
theorem RepL.set {css : List (List Value)} {cs : List Value} {x : α} (h : RepL w css l) (i : Nat) (hx : Rep.rep w cs x) : RepL w (css.set i cs) (l.set i x) := by
  refine ⟨by simp [h.1], fun j ds y h1 h2 => ?_⟩
  rw [List.getElem?_set] at h1 h2
  by_cases hij : i = j
  · subst hij
    rw [if_pos rfl] at h1 h2
    split at h1
    · rename_i hl
      rw [if_pos (by rw [← h.1]; exact hl)] at h2
      injection h1 with h1; injection h2 with h2
      rw [← h1, ← h2]; exact hx
    · cases h1
  · rw [if_neg hij] at h1 h2
    exact h.2 j ds y h1 h2
end
theorem r_storeE {α : Type} [Enc α] [Inhabited α] {P : Program} {B : Exit → Act → World → Prop} {n : Nat} {k : List Kont} {f : Fr} {w : World} {ops : Array Oper} {rest : List Oper} {T E : TypeId} {t : TypeId} {pos : String} {aft : Array Edge} {x yo : Operand} {base mt bb off len cap c2 m : Nat} {z0 : Option Value} {ao : Option Addr} {l : List α} {u : Value} {vs : List Value} {g0 : Nat} (i k0 : Nat) (y : α)
    (hx : opv f x = .pointer (some ⟨g0, off, none⟩)) (hmn : Enc.n α = m) (hoff : off = 0 + i * m + k0) (hy : opv f yo = u) (h : OwnE w base E (.slice ao len cap) l) (hr : RowE w ao g0 0 c2 l) (hi : i < l.length) (ht : tyP P T = some (mt, bb, z0))
    (hv : u.cells = vs.toArray) (hm : vs.length = mt) (h1 : oneCells vs = true) (hk0 : Nat.ble (k0 + vs.length) m = true) (henc : (Enc.enc (l.getD i default)).take k0 ++ vs ++ (Enc.enc (l.getD i default)).drop (k0 + vs.length) = Enc.enc y)
    (hk : ∀ w', Evo w w' (Value.slice ao len cap).ownBlock.toList → w'.heap.size = w.heap.size → OwnE w' base E (.slice ao len cap) (l.set i y) → KL P B n ops k rest f w') :
    KL P B n ops k (⟨none, .store T x yo, t, pos, aft, none⟩ :: rest) f w := by
  subst hmn
  have hg : (Value.slice ao len cap).ownBlock = some g0 := by rw [hr.addr hi]; rfl
  have e : l.getD i default = l[i] := by simp [List.getD, hi]
  rw [e] at henc
  refine r_storeO (vs := vs) (c := Enc.enc l[i]) (m := Enc.n α) i k0 hx hoff hy h hg (by simp [hi]) ht hv hm h1 (Nat.le_of_ble_eq_true hk0) (fun w' he hsz hown => hk w' (by rw [hg]; exact he) hsz ?_)
  rw [henc] at hown
  show Own w' base E (Enc.n α) _ ((l.set i y).map Enc.enc)
  rw [List.map_set]
  exact hown
end Go.Vc
namespace Go.Vc
open Go Go.RowKit Go.IntWalk
instance : Enc UInt8 := ⟨1, fun c => [.int .u8 (c.toNat : Int)], fun _ => rfl, fun _ => rfl, by decide⟩
section
variable {P : Program} {B : Exit → Act → World → Prop} {n : Nat} {k : List Kont} {f : Fr} {w : World}
theorem r_condT {c : Operand} {x y : Code} {p : Prop} [Decidable p] (hc : opv f c = .bool (decide p)) (hp : p) (h : KF P B n (.code x :: k) f w) : KF P B n (.code (.cond c x y) :: k) f w :=
  r_cond_yes (by rw [hc, decide_eq_true hp]) h
theorem r_gyes {ops : Array Oper} {rest : List Oper} {d : Option Nat} {op : Op} {t : TypeId} {pos : String} {aft : Array Edge} {j s : Nat} {b : Bool} {g : Prop} [Decidable g] (hj : (ops[j]?).bind (·.dst) = some s) (hw : Wanted f s b g) (hg : g)
    (h : KL P B n ops k (⟨d, op, t, pos, aft, none⟩ :: rest) f w) : KL P B n ops k (⟨d, op, t, pos, aft, some (j, b)⟩ :: rest) f w := r_guard_yes hj (hw.yes hg) h
end
end Go.Vc
namespace Go.Vc
open Go Go.RowKit Go.IntWalk Go.Deep
def ElemE (α : Type) [Enc α] (P : Program) (e : TypeId) : Prop :=
  ∀ {H : Type} (enc : TypeId × Value → H) (w : World) (base : Nat) (sp : Nat → Bool) (hd : Bool) (n : Nat) (cs : List Value) (d : DataW H) (pl : List MemPlace), DataW.trod enc P w base sp hd n e cs = some (d, pl) → ∃ x : α, cs = Enc.enc x
def ElemR (α : Type) [Rep α] (P : Program) (e : TypeId) : Prop :=
  ∀ {H : Type} (enc : TypeId × Value → H) (w : World) (base : Nat) (sp : Nat → Bool) (hd : Bool) (n : Nat) (cs : List Value) (d : DataW H) (pl : List MemPlace), DataW.trod enc P w base sp hd n e cs = some (d, pl) → (∀ m ∈ d.weights P e, m ≤ reachBytes) → ∃ x : α, Rep.rep w cs x
section
variable {P : Program} {H : Type} {enc : TypeId × Value → H} {w : World} {base : Nat} {sp : Nat → Bool} {hd : Bool} {t e : TypeId}
theorem elem_int (hu : P.underlying e = some (.int .i64)) : ElemE Int P e := fun _ _ _ _ _ _ _ _ _ h => by
  obtain ⟨n, h1, _⟩ := DataW.trod_int hu h
  exact ⟨n, h1⟩
theorem at_of_cells {w : World} {base : Nat} {a : Addr} {n : Nat} {cs : List Value} (h : w.cells? base a n = some cs) (hn : 0 < n) : a = ⟨a.block, a.off, none⟩ ∧ At w a.block a.off cs := by
  obtain ⟨_, h1, h2⟩ := World.cells?_some h
  have hs : ∀ (b : Addr) (v : Value), w.cell? b = some v → b.spot = none := by
    intro b v hb
    unfold World.cell? at hb
    split at hb
    · split at hb
      · cases hb
      · rename_i h3; simpa using h3
    · cases hb
  have h0 := h2 0 hn
  have hc0 : ∃ v, cs[0]? = some v := ⟨cs[0]'(by omega), by simp [h1, hn]⟩
  obtain ⟨v, hv⟩ := hc0
  rw [hv, show a.add 0 = a by unfold Addr.add; rw [if_pos rfl]] at h0
  have ha := hs _ v h0
  have hae : a = ⟨a.block, a.off, none⟩ := by cases a; simp_all
  refine ⟨hae, fun j u hj => ?_⟩
  have hjn : j < n := by
    rcases Nat.lt_or_ge j n with h4 | h4
    · exact h4
    · rw [List.getElem?_eq_none (by omega)] at hj; cases hj
  have h4 := h2 j hjn
  rw [hj, hae, add_lit] at h4
  exact h4
theorem openE {α : Type} [Enc α] (hu : P.underlying t = some (.slice e)) (hc : P.cellsOf e = Enc.n α) (hb : 1 ≤ P.bytesOf e) (hel : ElemE α P e) {fuel : Nat} {ao : Option Addr} {len cap : Nat} {d : DataW H} {pl : List MemPlace}
    (h : DataW.trod enc P w base sp hd fuel t [.slice ao len cap] = some (d, pl)) (hw : ∀ m ∈ d.weights P t, m ≤ reachBytes) : ∃ b off, ∃ l : List α, len = l.length ∧ RowE w ao b off cap l := by
  rcases open_slice hu h with ⟨h1, _⟩ | ⟨a, len', cap', m, n, D, Pl, h1, _, hl, _, hm, hx, hall⟩
  · simp only [List.cons.injEq, Value.slice.injEq, and_true] at h1
    obtain ⟨rfl, rfl, rfl⟩ := h1
    exact ⟨0, 0, [], rfl, RowE.nil _ _ _ _ _⟩
  · simp only [List.cons.injEq, Value.slice.injEq, and_true] at h1
    obtain ⟨rfl, rfl, rfl⟩ := h1
    have hlm : len ≤ m := by rw [hm]; split <;> omega
    have ha : 0 < len → a = ⟨a.block, a.off, none⟩ := fun h0 => by
      obtain ⟨cs, h2, _⟩ := hall 0 (by omega)
      rw [Nat.zero_mul, show a.add 0 = a by unfold Addr.add; rw [if_pos rfl], hc] at h2
      exact (at_of_cells h2 (Enc.pos (α := α))).1
    have hex : ∀ i, i < len → ∃ x : α, At w a.block (a.off + i * Enc.n α) (Enc.enc x) := fun i hi => by
      obtain ⟨cs, h2, h3⟩ := hall i (by omega)
      obtain ⟨x, hx2⟩ := hel enc w base sp hd n cs _ _ h3
      rw [hc, ha (by omega), add_lit] at h2
      exact ⟨x, by rw [← hx2]; exact (at_of_cells h2 (Enc.pos (α := α))).2⟩
    have hbd : len ≤ 140737488355328 := by
      have h2 : d = _ := congrArg Prod.fst hx
      have h3 := hw ((((List.range len).map D).length + ((List.range (m - len)).map fun j => D (len + j)).length) * P.bytesOf e) (by rw [h2]; simp [DataW.weights, hu])
      simp only [List.length_map, List.length_range] at h3
      have h4 : len * 1 ≤ (len + (m - len)) * P.bytesOf e := Nat.mul_le_mul (by omega) hb
      have h5 := reachBytes_lt
      omega
    by_cases h0 : len = 0
    · subst h0; exact ⟨0, 0, [], rfl, ⟨by simp, by simp, by simp⟩⟩
    · obtain ⟨x0, _⟩ := hex 0 (by omega)
      obtain ⟨f, hf⟩ : ∃ f : Nat → α, ∀ i, i < len → At w a.block (a.off + i * Enc.n α) (Enc.enc (f i)) := by
        classical
        exact ⟨fun i => if hi : i < len then Classical.choose (hex i hi) else x0, fun i hi => by simp only [dif_pos hi]; exact Classical.choose_spec (hex i hi)⟩
      refine ⟨a.block, a.off, (List.range len).map f, by simp, ⟨by simp; omega, fun _ => congrArg some (ha (by omega)), fun i cs hi => ?_⟩⟩
      have hil : i < len := by
        rcases Nat.lt_or_ge i len with h6 | h6
        · exact h6
        · rw [List.getElem?_eq_none (by simpa using h6)] at hi; cases hi
      simp [hil] at hi
      subst hi
      exact ⟨Enc.len _, hf i hil⟩
theorem weights_elem {ds : List (DataW H)} {d : DataW H} (h : d ∈ ds) {m : Nat} (hm : m ∈ d.weights P e) : m ∈ DataW.weightsAll P e ds := by
  induction ds with
  | nil => cases h
  | cons x r ih =>
    simp only [DataW.weightsAll, List.mem_append]
    rcases List.mem_cons.1 h with rfl | h1
    · exact .inl hm
    · exact .inr (ih h1)
theorem openR {α : Type} [Rep α] (hu : P.underlying t = some (.slice e)) (hc : P.cellsOf e = Rep.n α) (hb : 1 ≤ P.bytesOf e) (hel : ElemR α P e) {fuel : Nat} {ao : Option Addr} {len cap : Nat} {d : DataW H} {pl : List MemPlace}
    (h : DataW.trod enc P w base sp hd fuel t [.slice ao len cap] = some (d, pl)) (hw : ∀ m ∈ d.weights P t, m ≤ reachBytes) : ∃ b off, ∃ l : List α, len = l.length ∧ RowR w ao b off cap l := by
  rcases open_slice hu h with ⟨h1, _⟩ | ⟨a, len', cap', m, n, D, Pl, h1, _, hl, _, hm, hx, hall⟩
  · simp only [List.cons.injEq, Value.slice.injEq, and_true] at h1
    obtain ⟨rfl, rfl, rfl⟩ := h1
    exact ⟨0, 0, [], rfl, RowR.nil _ _ _ _ _⟩
  · simp only [List.cons.injEq, Value.slice.injEq, and_true] at h1
    obtain ⟨rfl, rfl, rfl⟩ := h1
    have hlm : len ≤ m := by rw [hm]; split <;> omega
    have hd2 : d = _ := congrArg Prod.fst hx
    have ha : 0 < len → a = ⟨a.block, a.off, none⟩ := fun h0 => by
      obtain ⟨cs, h2, _⟩ := hall 0 (by omega)
      rw [Nat.zero_mul, show a.add 0 = a by unfold Addr.add; rw [if_pos rfl], hc] at h2
      exact (at_of_cells h2 (Rep.pos (α := α))).1
    have hex : ∀ i, i < len → ∃ y : List Value × α, At w a.block (a.off + i * Rep.n α) y.1 ∧ Rep.rep w y.1 y.2 := fun i hi => by
      obtain ⟨cs, h2, h3⟩ := hall i (by omega)
      obtain ⟨x, hx2⟩ := hel enc w base sp hd n cs _ _ h3 (fun q hq => hw q (by
        rw [hd2]
        simp only [DataW.weights, hu, List.mem_cons, List.mem_append]
        exact .inr (.inl (weights_elem (List.mem_map.2 ⟨i, List.mem_range.2 hi, rfl⟩) hq))))
      rw [hc, ha (by omega), add_lit] at h2
      exact ⟨(cs, x), (at_of_cells h2 (Rep.pos (α := α))).2, hx2⟩
    have hbd : len ≤ 140737488355328 := by
      have h3 := hw ((((List.range len).map D).length + ((List.range (m - len)).map fun j => D (len + j)).length) * P.bytesOf e) (by rw [hd2]; simp [DataW.weights, hu])
      simp only [List.length_map, List.length_range] at h3
      have h4 : len * 1 ≤ (len + (m - len)) * P.bytesOf e := Nat.mul_le_mul (by omega) hb
      have h5 := reachBytes_lt
      omega
    by_cases h0 : len = 0
    · subst h0; exact ⟨0, 0, [], rfl, RowR.nil _ _ _ _ _⟩
    · obtain ⟨y0, _⟩ := hex 0 (by omega)
      obtain ⟨f, hf⟩ : ∃ f : Nat → List Value × α, ∀ i, i < len → At w a.block (a.off + i * Rep.n α) (f i).1 ∧ Rep.rep w (f i).1 (f i).2 := by
        classical
        exact ⟨fun i => if hi : i < len then Classical.choose (hex i hi) else y0, fun i hi => by simp only [dif_pos hi]; exact Classical.choose_spec (hex i hi)⟩
      have hgl : ∀ (i : Nat) {β : Type} (g : Nat → β) (z : β), ((List.range len).map g)[i]? = some z → i < len ∧ g i = z := by
        intro i β g z hz
        have hil : i < len := by
          rcases Nat.lt_or_ge i len with h6 | h6
          · exact h6
          · rw [List.getElem?_eq_none (by simpa using h6)] at hz; cases hz
        simp [hil] at hz
        exact ⟨hil, hz⟩
      refine ⟨a.block, a.off, (List.range len).map (fun i => (f i).2), by simp, (List.range len).map (fun i => (f i).1), ⟨by simp; omega, fun _ => congrArg some (ha (by omega)), fun i cs hi => ?_⟩, by simp, fun i cs x h1 h2 => ?_⟩
      · obtain ⟨hil, rfl⟩ := hgl i _ _ hi
        exact ⟨Rep.len (hf i hil).2, (hf i hil).1⟩
      · obtain ⟨hil, rfl⟩ := hgl i _ _ h1
        obtain ⟨_, rfl⟩ := hgl i _ _ h2
        exact (hf i hil).2
end
end Go.Vc
namespace Go.Vc
open Go Go.RowKit Go.IntWalk
def zs (l : List Int) : List Value := l.map (Value.int .i64)
def vz (g : Bool) (l : List Int) : Value := if g then .agg (zs l).toArray else (zs l).headD .nilFunc
structure EqI (P : Program) (m T n : Nat) (g : Bool) : Prop where
  ag : aggP P T = some g
  sz : ∃ bb z, tyP P T = some (n, bb, z)
  one : g = false → n = 1
  eq : ∀ (d : Nat) (w : World) (as bs : List Int), as.length = n → bs.length = n → (Op.equalIn (d + m) T (vz g as) (vz g bs)).run P w = .ok (decide (as = bs)) w
section
variable {P : Program}
theorem EqI.int {T bb : Nat} {z : Option Value} (hu : P.underlying T = some (.int .i64)) (ha : aggP P T = some false) (ht : tyP P T = some (1, bb, z)) : EqI P 1 T 1 false :=
  ⟨ha, ⟨_, _, ht⟩, fun _ => rfl, fun d w as bs h1 h2 => by
    rcases as with _ | ⟨a, _ | ⟨a1, l⟩⟩
    · simp at h1
    · rcases bs with _ | ⟨b, _ | ⟨b1, l⟩⟩
      · simp at h2
      · show (Op.equalIn (d + 1) T (.int .i64 a) (.int .i64 b)).run P w = _
        rw [run_equalIn_int w d T _ _ a b hu]
        congr 1
        by_cases h : a = b
        · simp [h]
        · simp [h]
      · simp at h2
    · simp at h1⟩
theorem EqI.part {m T n : Nat} {g : Bool} (h : EqI P m T n g) (w : World) (xs : List Int) (off : Nat) (hl : off + n ≤ xs.length) : (part T (zs xs).toArray off).run P w = .ok (vz g ((xs.drop off).take n)) w := by
  obtain ⟨bb, z, hs⟩ := h.sz
  cases g with
  | false =>
    have hn := h.one rfl
    subst hn
    have hlt : off < xs.length := by omega
    have e : (zs xs).toArray[off]? = some (.int .i64 xs[off]) := by simp [zs, hlt]
    rw [run_part1 h.ag e]
    congr 1
    have e2 : (xs.drop off).take 1 = [xs[off]] := by rw [List.drop_eq_getElem_cons hlt]; rfl
    rw [e2]; rfl
  | true =>
    simp [Go.part, run_isAgg h.ag, run_sizeOf hs, vz, zs, List.map_drop, List.map_take]
def LayF (P : Program) (m : Nat) : List Field → Nat → Nat → Prop
  | [], _, n => n = 0
  | f :: fs, off, n => f.name ≠ "_" ∧ f.offset = off ∧ ∃ k g, EqI P m f.type k g ∧ k ≤ n ∧ LayF P m fs (off + k) (n - k)
theorem eqFieldsZ {m : Nat} (d : Nat) (w : World) (xs ys : List Int) : ∀ (fs : List Field) (off n : Nat), LayF P m fs off n → off + n ≤ xs.length → off + n ≤ ys.length →
    (Op.eqFields (d + m) (zs xs).toArray (zs ys).toArray fs).run P w = .ok (decide ((xs.drop off).take n = (ys.drop off).take n)) w
  | [], off, n, h, _, _ => by
    have h : n = 0 := h
    subst h
    simp [Op.eqFields]
  | f :: fs, off, n, ⟨hn, ho, k, g, hE, hk, hL⟩, hx, hy => by
    subst ho
    have p1 := hE.part w xs f.offset (by omega)
    have p2 := hE.part w ys f.offset (by omega)
    have p3 := hE.eq d w ((xs.drop f.offset).take k) ((ys.drop f.offset).take k) (by simp; omega) (by simp; omega)
    have ih := eqFieldsZ d w xs ys fs (f.offset + k) (n - k) hL (by omega) (by omega)
    have split : ∀ zs : List Int, (zs.drop f.offset).take n = (zs.drop f.offset).take k ++ (zs.drop (f.offset + k)).take (n - k) := fun zs => by
      conv => lhs; rw [show n = k + (n - k) by omega]
      rw [List.take_add, List.drop_drop]
    have hiff : (xs.drop f.offset).take n = (ys.drop f.offset).take n ↔ (xs.drop f.offset).take k = (ys.drop f.offset).take k ∧ (xs.drop (f.offset + k)).take (n - k) = (ys.drop (f.offset + k)).take (n - k) := by
      rw [split xs, split ys]
      refine ⟨fun h => ?_, fun h => by rw [h.1, h.2]⟩
      exact List.append_inj h (by simp; omega)
    simp only [Op.eqFields, hn, ne_eq, not_false_eq_true, if_true, Sem.run_bind, p1, p2, p3, Result.andThen_ok]
    by_cases h1 : (xs.drop f.offset).take k = (ys.drop f.offset).take k
    · rw [decide_eq_true h1]
      simp only [Bool.not_true, Bool.false_eq_true, if_false, ih]
      congr 1
      exact decide_eq_decide.2 ⟨fun h2 => hiff.2 ⟨h1, h2⟩, fun h2 => (hiff.1 h2).2⟩
    · rw [decide_eq_false h1, decide_eq_false (fun h2 => h1 (hiff.1 h2).1)]
      simp
theorem EqI.struct {m T n bb : Nat} {z : Option Value} {fs : Array Field} (hu : P.underlying T = some (.struct fs)) (hp : P.stoodInHeld T = false) (ha : aggP P T = some true) (ht : tyP P T = some (n, bb, z)) (hL : LayF P m fs.toList 0 n) : EqI P (m + 1) T n true :=
  ⟨ha, ⟨_, _, ht⟩, fun h => (by cases h), fun d w as bs h1 h2 => by
    have hf : P.fieldsOf T = fs := by simp [Program.fieldsOf, hu]
    have h3 := eqFieldsZ d w as bs fs.toList 0 n hL (by omega) (by omega)
    have h4 := run_equalIn_struct (P := P) w (d + m) T (zs as).toArray (zs bs).toArray (by rw [hf]; exact hu) hp
    rw [hf, h3] at h4
    rw [List.drop_zero, List.drop_zero, List.take_of_length_le (by omega), List.take_of_length_le (by omega)] at h4
    exact h4⟩
variable {w : World} {f : Fr} {o : Oper}
theorem run_neqZ {T T2 : TypeId} {n m : Nat} {x y : Operand} (as bs : List Int) (ho : o.op = .binOp .neq T x y T2) (hg : P.eqGuardType P.depth T = false) (h : EqI P m T n true) (hm : Nat.ble m 10000 = true) (hx : opv f x = .agg (as.map (Value.int .i64)).toArray) (hy : opv f y = .agg (bs.map (Value.int .i64)).toArray)
    (ha : as.length = n) (hb : bs.length = n) : (execOp (opv f) o).run P w = .ok (.value (.bool (decide (¬ as = bs)))) w := by
  unfold execOp; rw [ho]; simp only []; rw [hx, hy]
  have := h.eq (10000 - m) w as bs ha hb
  rw [Nat.sub_add_cancel (Nat.le_of_ble_eq_true hm)] at this
  have h5 : (Op.equalIn 10000 T (.agg (as.map (Value.int .i64)).toArray) (.agg (bs.map (Value.int .i64)).toArray)).run P w = .ok (decide (as = bs)) w := this
  simp only [Sem.run_bind, run_eqGuard_agg w .neq T x y _ _ hg, Result.andThen_ok, run_neq_struct, h5, Sem.run_pure]
  simp
end
end Go.Vc
namespace Go.Vc
open Go Go.RowKit Go.IntWalk Go.Deep
def ElemZ (P : Program) (e n : Nat) : Prop :=
  ∀ {H : Type} (enc : TypeId × Value → H) (w : World) (base : Nat) (sp : Nat → Bool) (hd : Bool) (m : Nat) (cs : List Value) (d : DataW H) (pl : List MemPlace), DataW.trod enc P w base sp hd m e cs = some (d, pl) → ∃ l : List Int, l.length = n ∧ cs = zs l
section
variable {P : Program} {e : TypeId}
theorem ElemZ.int (hu : P.underlying e = some (.int .i64)) : ElemZ P e 1 := fun _ _ _ _ _ _ _ _ _ h => by
  obtain ⟨n, h1, _⟩ := DataW.trod_int hu h
  exact ⟨[n], rfl, h1⟩
theorem ElemZ.range (h : ElemZ P e 2) : ElemE Range P e := fun enc w base sp hd n cs d pl hr => by
  obtain ⟨l, hl, hc⟩ := h enc w base sp hd n cs d pl hr
  match l, hl with
  | [a, b], _ => exact ⟨⟨a, b⟩, hc⟩
end
end Go.Vc
namespace Go.Vc
open Go Go.RowKit Go.IntWalk
section
variable {P : Program} {w : World} {f : Fr} {o : Oper}
theorem run_pick_andB {c a b : Operand} {q : Prop} {r : Bool} [Decidable q] (ho : o.op = .pick c a b) (hc : opv f c = .bool (decide q)) (ha : q → opv f a = .bool r) (hb : opv f b = .bool false) :
    (execOp (opv f) o).run P w = .ok (.value (.bool (decide (q ∧ r = true)))) w := run_pick_and ho hc (fun h => by rw [ha h, Bool.decide_eq_true]) hb
theorem run_pick_orB {c a b : Operand} {q : Prop} {r : Bool} [Decidable q] (ho : o.op = .pick c a b) (hc : opv f c = .bool (decide q)) (ha : opv f a = .bool true) (hb : ¬ q → opv f b = .bool r) :
    (execOp (opv f) o).run P w = .ok (.value (.bool (decide (q ∨ r = true)))) w := run_pick_or ho hc ha (fun h => by rw [hb h, Bool.decide_eq_true])
end
end Go.Vc
namespace Go.Vc
open Go Go.RowKit Go.IntWalk
section
variable {P : Program} {B : Exit → Act → World → Prop} {n : Nat} {k : List Kont} {f : Fr} {w : World} {ops : Array Oper} {rest : List Oper} {o : Oper}
theorem run_cvBS {T U E : TypeId} {x : Operand} {l : List UInt8} {ao : Option Addr} {b off cap len : Nat} (ho : o.op = .convert T U x) (hT : P.underlying T = some (.slice E)) (hE : P.underlying E = some (.int .u8)) (hU : P.underlying U = some .string)
    (hx : opv f x = .slice ao len cap) (hl : len = l.length) (hr : RowE w ao b off cap l) : (execOp (opv f) o).run P w = .ok (.value (S l)) w := by
  subst hl
  unfold execOp; rw [ho]; simp only []; rw [hx]
  have hc : (convert T U (.slice ao l.length cap)).run P w = .ok (S l) w := by
    cases l with
    | nil =>
      show (convert T U (.slice ao 0 cap)).run P w = .ok (S []) w
      rw [run_convert_bytes_string w T U E ao 0 cap hT hE hU]
      cases ao with
      | none => simp [Conv.bytesToString, S]; rfl
      | some a => simp [Conv.bytesToString, S, loadCells, loadCellsFrom]; rfl
    | cons c l =>
      obtain rfl : ao = some ⟨b, off, none⟩ := hr.2.1 (by simp)
      exact run_convert_bytes_back (P := P) w T U E ⟨b, off, none⟩ cap (c :: l) hT hE hU (fun j hj => by
        have := (hr.2.2 j (Enc.enc ((c :: l)[j])) (by rw [List.getElem?_map, List.getElem?_eq_getElem hj]; rfl)).2 0 (.int .u8 (((c :: l)[j]).toNat : Int)) rfl
        rw [add_lit]
        simpa [Enc.n] using this)
  simp [hc]
end
instance repList {α : Type} [Enc α] : Rep (List α) where
  n := 1
  rep w cs x := ∃ ao b off cap, cs = [.slice ao x.length cap] ∧ RowE w ao b off cap x
  len := fun ⟨_, _, _, _, h, _⟩ => by rw [h]; rfl
  evo0 := fun ⟨ao, b, off, cap, h, hr⟩ he => ⟨ao, b, off, cap, h, hr.evo0 he⟩
  pos := by decide
theorem sl_at {α : Type} [Enc α] {w : World} {ao : Option Addr} {b off cap : Nat} {l : List (List α)} (h : RowR w ao b off cap l) (k : Nat) (hk : k < l.length) :
    ∃ ao' b' off' cap', At w b (off + k * 1) [.slice ao' (l.getD k default).length cap'] ∧ RowE w ao' b' off' cap' (l.getD k default) := by
  obtain ⟨cs, h1, ao', b', off', cap', h2, h3⟩ := h.atD k hk
  exact ⟨ao', b', off', cap', h2 ▸ h1, h3⟩
theorem sl_atK {α : Type} [Enc α] {w : World} {E : List Nat} {ao : Option Addr} {b off cap : Nat} {l : List (List α)} (h : RowRK w E ao b off cap l) (k : Nat) (hk : k < l.length) :
    ∃ ao' b' off' cap', ∀ w', Evo w w' E → At w' b (off + k * 1) [.slice ao' (l.getD k default).length cap'] ∧ RowE w' ao' b' off' cap' (l.getD k default) := by
  obtain ⟨cs, h1⟩ := h.atD k hk
  obtain ⟨_, ao', b', off', cap', h2, h3⟩ := h1 w (Evo.refl _ _)
  refine ⟨ao', b', off', cap', fun w' he => ?_⟩
  obtain ⟨h4, ao2, b2, off2, cap2, h5, h6⟩ := h1 w' he
  rw [h2] at h5
  simp only [List.cons.injEq, Value.slice.injEq, and_true, true_and] at h5
  obtain ⟨rfl, rfl⟩ := h5
  exact ⟨h2 ▸ h4, rowE_same h6 h3⟩
theorem sl_rep {α : Type} [Enc α] {w : World} {ao : Option Addr} {b off cap : Nat} {l : List α} (h : RowE w ao b off cap l) : Rep.rep w [.slice ao l.length cap] l := ⟨ao, b, off, cap, rfl, h⟩
section
variable {P : Program} {B : Exit → Act → World → Prop} {n : Nat} {k : List Kont} {f : Fr} {w : World} {ops : Array Oper} {rest : List Oper} {o : Oper}
end
section
variable {P : Program} {f : Fr} {w : World} {o : Oper}
end
theorem flat_succL {α : Type} (l : List (List α)) (k : Nat) (h : k < l.length) : (l.take (k + 1)).flatten = (l.take k).flatten ++ l.getD k default := by
  rw [List.take_succ_eq_append_getElem h, List.flatten_append]; simp [List.getD, h]
theorem flat_take {α : Type} (l : List (List α)) (k : Nat) : (l.take k).flatten.length ≤ l.flatten.length := by
  conv => rhs; rw [← List.take_append_drop k l]
  rw [List.flatten_append, List.length_append]; omega
end Go.Vc
namespace Go.Vc
open Go Go.RowKit Go.IntWalk
theorem run_cvInt {P : Program} {f : Fr} {w : World} {o : Oper} {T U : TypeId} {k k' : IntKind} {x : Operand} {a : Int} (ho : o.op = .convert T U x) (hT : P.underlying T = some (.int k)) (hU : P.underlying U = some (.int k')) (hx : opv f x = .int k a) :
    (execOp (opv f) o).run P w = .ok (.value (.int k' (k'.wrap a))) w := by
  unfold execOp; rw [ho]; simp only []; rw [hx]
  have hk : P.intKind U = k' := by simp [Program.intKind, hU]
  have := run_convert_int (P := P) w T U k a (by rw [hT]; rfl) (by rw [hk]; exact hU)
  rw [hk] at this
  simp [this]
theorem row_keep {α : Type} [Enc α] {w w' : World} {ao : Option Addr} {b off cap : Nat} {l : List α} {X : List Nat} (h : RowE w ao b off cap l) (he : Evo w w' X) (hn : l ≠ [] → b ∉ X) : RowE w' ao b off cap l := by
  by_cases hl : l = []
  · subst hl; exact ⟨h.1, by simp, by simp⟩
  · exact h.evo he (hn hl)
end Go.Vc
namespace Go.Vc
open Go Go.RowKit Go.IntWalk
theorem r_gnext {P : Program} {B : Exit → Act → World → Prop} {n : Nat} {k : List Kont} {f : Fr} {w : World} {ops : Array Oper} {rest : List Oper} {d : Nat} {op : Op} {t : TypeId} {pos : String} {aft : Array Edge} {j s : Nat} {b : Bool} {g : Prop} [Decidable g] {F : FuncId} {args : Array Value} {bs T N : Nat} {c0 : Value} {m : Int}
    (hj : (ops[j]?).bind (·.dst) = some s) (hw : Wanted f s b g) (hd : Nat.blt d n = true) (hrun : g → (execOp (opv f) ⟨some d, op, t, pos, aft, none⟩).run P w = .ok (.enter F args) w)
    (hc : g → Calls P F args w fun e w' => ∃ r, e = .returned (.int .i64 r) ∧ (0 ≤ r ∧ r < m) ∧ Evo w w' [bs] ∧ Blk w' bs T [c0, .int .i64 (N + 1 : Nat)]) (hb : Blk w bs T [c0, .int .i64 (N : Nat)])
    (h : ∀ r w' N', (g → 0 ≤ r ∧ r < m) → Evo w w' [bs] → N ≤ N' → N' ≤ N + 1 → Blk w' bs T [c0, .int .i64 (N' : Nat)] → KL P B n ops k rest (upd f d (gv g (.int .i64 r))) w') : KL P B n ops k (⟨some d, op, t, pos, aft, some (j, b)⟩ :: rest) f w := by
  by_cases hg : g
  · refine r_guard_yes hj (hw.yes hg) (r_opcall rfl rfl hd (hrun hg) (hc hg) ?_)
    rintro e w' ⟨r, h1, h2, h3, h4⟩
    refine ⟨_, h1, ?_⟩
    have h5 := h r w' (N + 1) (fun _ => h2) h3 (by omega) (Nat.le_refl _) h4
    rw [gv_yes hg] at h5
    exact h5
  · intro a ha
    have hwa := wanted_of ha hj hw
    unfold wpList
    rw [if_neg (by simp only [Region.wanted]; rw [hwa.2 hg]; simp)]
    have h3 := h 0 w N (fun h => absurd h hg) (Evo.refl _ _) (Nat.le_refl _) (by omega) hb _ (ha.put hd (gv g (.int .i64 0)))
    rw [gv_no hg] at h3
    exact h3
end Go.Vc
namespace Go.Vc
open Go Go.RowKit Go.IntWalk Go.Deep
theorem openEQ {α : Type} [Enc α] {Q : α → Prop} {P : Program} {H : Type} {enc : TypeId × Value → H} {w : World} {base : Nat} {sp : Nat → Bool} {hd : Bool} {t e : TypeId} (hu : P.underlying t = some (.slice e)) (hc : P.cellsOf e = Enc.n α) (hb : 1 ≤ P.bytesOf e)
    (hel : ∀ (n : Nat) (cs : List Value) (d : DataW H) (pl : List MemPlace), DataW.trod enc P w base sp hd n e cs = some (d, pl) → (∀ m ∈ d.weights P e, m ≤ reachBytes) → ∃ x : α, cs = Enc.enc x ∧ Q x)
    {fuel : Nat} {ao : Option Addr} {len cap : Nat} {d : DataW H} {pl : List MemPlace}
    (h : DataW.trod enc P w base sp hd fuel t [.slice ao len cap] = some (d, pl)) (hw : ∀ m ∈ d.weights P t, m ≤ reachBytes) : ∃ b off, ∃ l : List α, len = l.length ∧ RowE w ao b off cap l ∧ ∀ x ∈ l, Q x := by
  rcases open_slice hu h with ⟨h1, _⟩ | ⟨a, len', cap', m, n, D, Pl, h1, _, hl, _, hm, hx, hall⟩
  · simp only [List.cons.injEq, Value.slice.injEq, and_true] at h1
    obtain ⟨rfl, rfl, rfl⟩ := h1
    exact ⟨0, 0, [], rfl, RowE.nil _ _ _ _ _, by simp⟩
  · simp only [List.cons.injEq, Value.slice.injEq, and_true] at h1
    obtain ⟨rfl, rfl, rfl⟩ := h1
    have hlm : len ≤ m := by rw [hm]; split <;> omega
    have hd2 : d = _ := congrArg Prod.fst hx
    have ha : 0 < len → a = ⟨a.block, a.off, none⟩ := fun h0 => by
      obtain ⟨cs, h2, _⟩ := hall 0 (by omega)
      rw [Nat.zero_mul, show a.add 0 = a by unfold Addr.add; rw [if_pos rfl], hc] at h2
      exact (at_of_cells h2 (Enc.pos (α := α))).1
    have hex : ∀ i, i < len → ∃ x : α, At w a.block (a.off + i * Enc.n α) (Enc.enc x) ∧ Q x := fun i hi => by
      obtain ⟨cs, h2, h3⟩ := hall i (by omega)
      obtain ⟨x, hx2, hq⟩ := hel n cs _ _ h3 (fun q hq => hw q (by
        rw [hd2]
        simp only [DataW.weights, hu, List.mem_cons, List.mem_append]
        exact .inr (.inl (weights_elem (List.mem_map.2 ⟨i, List.mem_range.2 hi, rfl⟩) hq))))
      rw [hc, ha (by omega), add_lit] at h2
      exact ⟨x, by rw [← hx2]; exact (at_of_cells h2 (Enc.pos (α := α))).2, hq⟩
    have hbd : len ≤ 140737488355328 := by
      have h3 := hw ((((List.range len).map D).length + ((List.range (m - len)).map fun j => D (len + j)).length) * P.bytesOf e) (by rw [hd2]; simp [DataW.weights, hu])
      simp only [List.length_map, List.length_range] at h3
      have h4 : len * 1 ≤ (len + (m - len)) * P.bytesOf e := Nat.mul_le_mul (by omega) hb
      have h5 := reachBytes_lt
      omega
    by_cases h0 : len = 0
    · subst h0; exact ⟨0, 0, [], rfl, ⟨by simp, by simp, by simp⟩, by simp⟩
    · obtain ⟨x0, _⟩ := hex 0 (by omega)
      obtain ⟨f, hf⟩ : ∃ f : Nat → α, ∀ i, i < len → At w a.block (a.off + i * Enc.n α) (Enc.enc (f i)) ∧ Q (f i) := by
        classical
        exact ⟨fun i => if hi : i < len then Classical.choose (hex i hi) else x0, fun i hi => by simp only [dif_pos hi]; exact Classical.choose_spec (hex i hi)⟩
      refine ⟨a.block, a.off, (List.range len).map f, by simp, ⟨by simp; omega, fun _ => congrArg some (ha (by omega)), fun i cs hi => ?_⟩, fun x hx => ?_⟩
      · have hil : i < len := by
          rcases Nat.lt_or_ge i len with h6 | h6
          · exact h6
          · rw [List.getElem?_eq_none (by simpa using h6)] at hi; cases hi
        simp [hil] at hi
        subst hi
        exact ⟨Enc.len _, (hf i hil).1⟩
      · obtain ⟨i, hi, rfl⟩ := List.mem_map.1 hx
        exact (hf i (List.mem_range.1 hi)).2
end Go.Vc
namespace Go.Vc
open Go Go.RowKit Go.IntWalk
theorem Own.cut {w : World} {base : Nat} {E : TypeId} {m : Nat} {css : List (List Value)} {g cap : Nat} (h : Own w base E m (.slice (some ⟨g, 0, none⟩) css.length cap) css) {k : Nat} (hk : k ≤ css.length) :
    Own w base E m (.slice (some ⟨g, 0, none⟩) k cap) (css.take k) := by
  have hl : (css.take k).length = k := by rw [List.length_take]; omega
  have hf : ∀ (l : List (List Value)), (∀ cs ∈ l, cs.length = m) → ∀ k, k ≤ l.length → (l.take k).flatten = l.flatten.take (k * m) := fun l => by
    induction l with
    | nil => intro _ k hk; simp
    | cons c l ih =>
      intro hm k hk
      cases k with
      | zero => simp
      | succ k =>
        have hc : c.length = m := hm c (by simp)
        rw [List.take_succ_cons, List.flatten_cons, List.flatten_cons, ih (fun x hx => hm x (by simp [hx])) k (by simpa using hk), List.take_append, List.take_of_length_le (l := c) (by rw [hc, Nat.add_mul]; omega), hc]
        congr 2
        rw [Nat.add_mul]; omega
  refine ⟨⟨?_, .inr ?_⟩, fun cs hcs => h.each cs (List.mem_of_mem_take hcs), by have := h.bd; omega⟩
  · rw [flatten_length _ m (fun cs hcs => h.each cs (List.mem_of_mem_take hcs))]
  · rcases h.row.2 with ⟨hv, _⟩ | ⟨g', cap', cur, hv, hb, hg, hn, hc, hs, ht⟩
    · cases hv
    · simp only [Value.slice.injEq, Option.some.injEq, Addr.mk.injEq, and_true] at hv
      obtain ⟨rfl, _, rfl⟩ := hv
      refine ⟨g, cap, cur, by rw [hl], hb, hg, by omega, hc, hs, ?_⟩
      rw [hf css h.each k hk, ← ht, List.take_take, hl]
      congr 1
      exact (Nat.min_eq_left (Nat.mul_le_mul_right m hk)).symm
section
variable {α : Type} [Enc α] {w : World} {base : Nat} {E : TypeId} {v : Value} {l : List α}
end
theorem hi1 {v : Value} {κ : IntKind} {a : Int} {j : Nat} (h : v = .int κ a) (e : a = (j : Int)) : ∃ κ, v = .int κ (j : Int) := ⟨κ, by rw [h, e]⟩
def Sep (v u : Value) : Prop := ∀ g, v.ownBlock = some g → ∀ h, u.ownBlock = some h → g ≠ h
theorem Sep.symm {v u : Value} (h : Sep v u) : Sep u v := fun g hg h' hh e => h h' hh g hg e.symm
theorem Sep.same {v v' u : Value} (h : Sep v u) (e : v'.ownBlock = v.ownBlock) : Sep v' u := fun g hg => h g (e ▸ hg)
theorem Sep.grow {v v' u : Value} {n m : Nat} (h : Sep v u) (hl : v'.ownBlock = v.ownBlock ∨ ∃ g, v'.ownBlock = some g ∧ n ≤ g) (hu : ∀ h, u.ownBlock = some h → h < m) (hm : m ≤ n) : Sep v' u := fun g hg h' hh e => by
  rcases hl with h1 | ⟨g2, h1, h2⟩
  · exact h g (h1 ▸ hg) h' hh e
  · have h3 : g2 = g := Option.some.inj (h1.symm.trans hg)
    have := hu h' hh
    omega
theorem Sep.grown {v v' u : Value} {n m : Nat} (h : Sep v u) (hl : v'.ownBlock = v.ownBlock ∨ v'.ownBlock = some n) (hu : ∀ h, u.ownBlock = some h → h < m) (hm : m ≤ n) : Sep v' u :=
  h.grow (hl.imp id fun h1 => ⟨n, h1, Nat.le_refl _⟩) hu hm
end Go.Vc
namespace Go.Vc
open Go Go.RowKit Go.IntWalk Go.Sort Go.Proofs
section
variable {α : Type} [Enc α] {w : World} {base : Nat} {E : TypeId} {v : Value} {l : List α}
theorem flat_one {enc1 : α → Value} (h : ∀ x : α, Enc.enc x = [enc1 x]) : ∀ l : List α, (l.map Enc.enc).flatten = l.map enc1
  | [] => rfl
  | x :: l => by rw [List.map_cons, List.flatten_cons, h, flat_one h l]; rfl
theorem OwnE.of1 {enc1 : α → Value} (hn : Enc.n α = 1) (he : ∀ x : α, Enc.enc x = [enc1 x]) (hbd : l.length ≤ 140737488355328) (h : w.ownsRow base E 1 v l.length (l.map enc1)) : OwnE w base E v l := by
  refine ⟨?_, fun cs hcs => ?_, by simpa using hbd⟩
  · rw [hn, List.length_map, flat_one he]; exact h
  · obtain ⟨x, _, rfl⟩ := List.mem_map.1 hcs; exact Enc.len x
end
end Go.Vc
namespace Go.Vc
open Go Go.RowKit Go.IntWalk
open Go.ChangeMaps (setBlock)
def StampIs {α : Type} (w : World) (b : Nat) (ek : α → Value) (a : α) (s : Int) : Prop := ∃ (es : Array MapEntry) (clock i : Nat) (e : MapEntry), w.heap[b]? = some (.map es clock) ∧ es[i]? = some e ∧ (e.born : Int) = s ∧ e.key = ek a
section
variable {P : Program} {B : Exit → Act → World → Prop} {n : Nat} {k : List Kont} {f : Fr} {w : World} {ops : Array Oper} {rest : List Oper}
variable {α β : Type} {ek : α → Value} {ev : β → Value} {b : Nat} {m : List (α × β)} {K E : TypeId}
theorem StampIs.evo {w' : World} {a : α} {s : Int} {X : List Nat} (h : StampIs w b ek a s) (he : Evo w w' X) (hb : b < w.heap.size) (hn : b ∉ X) : StampIs w' b ek a s := by
  obtain ⟨es, c, i, e, h1, h2⟩ := h
  exact ⟨es, c, i, e, (he.same b hb hn).trans h1, h2⟩
end
end Go.Vc
namespace Go.Vc
open Go Go.RowKit Go.IntWalk
abbrev u8v (c : UInt8) : Value := .int .u8 ((c.toNat : Nat) : Int)
def ByB (w : World) (b cap : Nat) (l : List UInt8) : Prop := ∃ (cur : Array Value) (E : TypeId), w.heap[b]? = some (.cells cur E (cap, cap + 1)) ∧ cur.size = cap ∧ l.length ≤ cap ∧ l.length ≤ 140737488355328 ∧ cur.toList.take l.length = l.map u8v
section
variable {w w' : World} {b cap : Nat} {l : List UInt8} {X : List Nat}
theorem ByB.lt (h : ByB w b cap l) : b < w.heap.size := by
  obtain ⟨cur, E, hb, _⟩ := h
  rcases Nat.lt_or_ge b w.heap.size with h1 | h1
  · exact h1
  · rw [Array.getElem?_eq_none h1] at hb; cases hb
theorem ByB.evo (h : ByB w b cap l) (he : Evo w w' X) (hn : b ∉ X) : ByB w' b cap l := by
  have hl := h.lt
  obtain ⟨cur, E, hb, r⟩ := h
  exact ⟨cur, E, (he.same b hl hn).trans hb, r⟩
theorem ByB.evo0 (h : ByB w b cap l) (he : Evo w w' []) : ByB w' b cap l := h.evo he (by simp)
theorem ByB.len (h : ByB w b cap l) : l.length ≤ cap ∧ l.length ≤ 140737488355328 := by obtain ⟨cur, E, _, _, h1, h2, _⟩ := h; exact ⟨h1, h2⟩
theorem ByB.cell (h : ByB w b cap l) {i : Nat} (hi : i < l.length) : w.cell? ⟨b, i, none⟩ = some (u8v (l.getD i 0)) := by
  obtain ⟨cur, E, hb, h1, h2, h3, h4⟩ := h
  have h5 : (cur.toList.take l.length)[i]? = (l.map u8v)[i]? := by rw [h4]
  rw [List.getElem?_take_of_lt hi, Array.getElem?_toList, List.getElem?_map, List.getElem?_eq_getElem hi] at h5
  simp only [World.cell?, hb, Option.isSome_none, Bool.false_eq_true, if_false]
  rw [h5]
  simp [List.getD, hi]
theorem ByB.row (h : ByB w b cap l) : RowE w (some ⟨b, 0, none⟩) b 0 cap l := by
  refine ⟨⟨by simpa using h.len.1, by simpa using h.len.2⟩, fun _ => rfl, fun i cs hi => ?_⟩
  have hil : i < l.length := by
    rcases Nat.lt_or_ge i l.length with h1 | h1
    · exact h1
    · rw [List.getElem?_eq_none (by simpa using h1)] at hi; cases hi
  rw [List.getElem?_map, List.getElem?_eq_getElem hil] at hi
  injection hi with hi
  subst hi
  refine ⟨rfl, fun j v hj => ?_⟩
  have hj0 : j = 0 := by
    rcases Nat.eq_zero_or_pos j with h1 | h1
    · exact h1
    · rw [List.getElem?_eq_none (by show 1 ≤ j; exact h1)] at hj; cases hj
  subst hj0
  have h2 : some (u8v l[i]) = some v := hj
  injection h2 with h2
  have h3 := h.cell hil
  have e : l.getD i 0 = l[i] := by simp [List.getD, hil]
  rw [e, h2] at h3
  have e2 : 0 + i * Enc.n UInt8 + 0 = i := by show 0 + i * 1 + 0 = i; omega
  rw [e2]; exact h3
end
section
variable {P : Program} {B : Exit → Act → World → Prop} {n : Nat} {k : List Kont} {f : Fr} {w : World} {ops : Array Oper} {rest : List Oper}
theorem r_cvSB {T U E d : Nat} {t : TypeId} {pos : String} {aft : Array Edge} {x : Operand} {s : Str} (hd : Nat.blt d n = true) (hs : P.underlying T = some .string) (hu : P.underlying U = some (.slice E)) (he : P.underlying E = some (.int .u8)) (hx : opv f x = S s) (hb : s.length ≤ 140737488355328)
    (h : ∀ b cap w', b = w.heap.size → Evo w w' [] → ByB w' b cap s → w'.heap.size = b + 1 → KL P B n ops k rest (upd f d (.slice (some ⟨b, 0, none⟩) s.length cap)) w') :
    KL P B n ops k (⟨some d, .convert T U x, t, pos, aft, none⟩ :: rest) f w := by
  have hr := Lib.run_convert_string_bytes (P := P) w T U E ⟨s.toArray⟩ hs hu he
  have hsz : (⟨s.toArray⟩ : ByteArray).size = s.length := by simp [ByteArray.size]
  have hge := grownCap_ge w (⟨s.toArray⟩ : ByteArray).size 0 E
  have hcs : (Lib.bytesCells w E ⟨s.toArray⟩).size = grownCap w (⟨s.toArray⟩ : ByteArray).size 0 E := by
    simp only [Lib.bytesCells, Array.size_append, Array.size_map, Array.size_replicate]
    have e : s.toArray.size = (⟨s.toArray⟩ : ByteArray).size := rfl
    rw [e]; omega
  have hby : ByB (Lib.bytesWorld w E ⟨s.toArray⟩) w.heap.size (grownCap w (⟨s.toArray⟩ : ByteArray).size 0 E) s := by
    refine ⟨Lib.bytesCells w E ⟨s.toArray⟩, E, by rw [Lib.bytesWorld_at_new, hcs], hcs, by rw [hsz] at hge; rw [hsz]; exact hge, hb, ?_⟩
    simp [Lib.bytesCells]
  refine r_op (v := .slice (some ⟨w.heap.size, 0, none⟩) s.length (grownCap w (⟨s.toArray⟩ : ByteArray).size 0 E)) (w' := Lib.bytesWorld w E ⟨s.toArray⟩) rfl rfl hd ?_ (h _ _ _ rfl ⟨rfl, rfl, rfl, by rw [Lib.bytesWorld_size]; omega, fun j hj _ => Lib.bytesWorld_at_old w E ⟨s.toArray⟩ j hj⟩ hby (Lib.bytesWorld_size w E ⟨s.toArray⟩))
  unfold execOp
  simp only []
  rw [hx, ← hsz]
  simp only [Sem.run_bind]
  rw [show S s = Value.string ⟨s.toArray⟩ from rfl, hr]
  rfl
theorem ByB.set {b cap i : Nat} {l : List UInt8} (c : UInt8) (h : ByB w b cap l) (hi : i < l.length) : ByB (w.setCell ⟨b, i, none⟩ (u8v c)) b cap (l.set i c) := by
  obtain ⟨cur, E, hb, h1, h2, h3, h4⟩ := h
  refine ⟨cur.setIfInBounds i (u8v c), E, by simp [World.setCell, Array.getElem?_modify, hb], by simpa using h1, by simpa using h2, by simpa using h3, ?_⟩
  rw [List.length_set, Array.toList_setIfInBounds]
  apply List.ext_getElem?
  intro j
  have h5 := congrArg (fun q : List Value => q[j]?) h4
  simp only [List.getElem?_take, List.getElem?_map] at h5 ⊢
  rw [List.getElem?_set, List.getElem?_set]
  have hc : i < cur.toList.length := by rw [Array.length_toList, h1]; omega
  by_cases hj : j < l.length
  · simp only [hj, if_true] at h5 ⊢
    by_cases hij : i = j
    · subst hij; rw [if_pos rfl, if_pos rfl, if_pos hc, if_pos hi]; rfl
    · simp only [hij, if_false]; exact h5
  · simp only [hj, if_false]
    have : ¬ i = j := by omega
    simp [this, List.getElem?_eq_none (Nat.le_of_not_lt hj)]
theorem r_storeBy {T : TypeId} {t : TypeId} {pos : String} {aft : Array Edge} {x y : Operand} {b cap bb : Nat} {z : Option Value} {l : List UInt8} {c : UInt8} (i : Nat) (hx : opv f x = .pointer (some ⟨b, i, none⟩)) (hy : opv f y = u8v c) (hb : ByB w b cap l) (hi : i < l.length) (ht : tyP P T = some (1, bb, z))
    (h : ∀ w', Evo w w' [b] → w'.heap.size = w.heap.size → ByB w' b cap (l.set i c) → KL P B n ops k rest f w') :
    KL P B n ops k (⟨none, .store T x y, t, pos, aft, none⟩ :: rest) f w := by
  refine r_op0 (w' := w.setCell ⟨b, i, none⟩ (u8v c)) rfl rfl ?_ (h _ (Evo.setCell _ _ _) (by simp [World.setCell]) (hb.set c hi))
  have hcell := hb.cell hi
  have hfr : w.frozen? ⟨b, i, none⟩ = false := by
    have hl := hb.len.1
    obtain ⟨cur, E, hb', h1, h2, h3, h4⟩ := hb
    simp only [World.frozen?, hb']
    simp; omega
  have hst := run_storeCells_cells (P := P) b i [u8v c] 0 w (by intro j hj; simp at hj; subst hj; simp [hcell]) (by intro j hj; simp at hj; subst hj; simpa using hfr) (by intro v hv; simp at hv; subst hv; rfl)
  have hsc : (u8v c).cells = #[u8v c] := rfl
  simp only [execOp, Instr.storeAt, Instr.sureAddr, storeVar, hx, hy, Sem.run_bind, run_sizeOf ht, hsc, Sem.run_pure, Result.andThen_ok]
  simp
  simp at hst
  rw [hst]
  rfl
theorem r_storeBy2 {T : TypeId} {t : TypeId} {pos : String} {aft : Array Edge} {x y : Operand} {b cap bb j : Nat} {z : Option Value} {l : List UInt8} {m : Int} (i : Nat) (c : UInt8) (hx : opv f x = .pointer (some ⟨b, j, none⟩)) (hj : j = i) (hy : opv f y = .int .u8 m) (hm : m = ((c.toNat : Nat) : Int)) (hb : ByB w b cap l) (hi : i < l.length) (ht : tyP P T = some (1, bb, z))
    (h : ∀ w', Evo w w' [b] → w'.heap.size = w.heap.size → ByB w' b cap (l.set i c) → KL P B n ops k rest f w') :
    KL P B n ops k (⟨none, .store T x y, t, pos, aft, none⟩ :: rest) f w := by
  subst hj; subst hm
  exact r_storeBy _ hx hy hb hi ht h
def BA (w : World) (base : Nat) (E : TypeId) (v : Value) (l : List UInt8) : Prop := OwnE w base E v l ∨ ∃ b, v = .slice (some ⟨b, 0, none⟩) l.length l.length ∧ base ≤ b ∧ b < w.heap.size ∧ ByB w b l.length l ∧ l.length = 2
theorem BA.shape {base : Nat} {E : TypeId} {v : Value} {l : List UInt8} (h : BA w base E v l) : ∃ ao cap, v = .slice ao l.length cap := by
  rcases h with h | ⟨b, h, _⟩
  · exact h.shape
  · exact ⟨_, _, h⟩
theorem BA.own {base : Nat} {E : TypeId} {v : Value} {l : List UInt8} (h : BA w base E v l) (hl : ¬ l.length = 2) : OwnE w base E v l := by
  rcases h with h | ⟨b, _, _, _, _, h⟩
  · exact h
  · exact absurd h hl
theorem BA.evo0 {w' : World} {base : Nat} {E : TypeId} {v : Value} {l : List UInt8} (h : BA w base E v l) (he : Evo w w' []) : BA w' base E v l := by
  rcases h with h | ⟨b, h1, h2, h3, h4, h5⟩
  · exact .inl (h.evo0 he)
  · exact .inr ⟨b, h1, h2, Nat.lt_of_lt_of_le h3 he.size, h4.evo0 he, h5⟩
end
end Go.Vc
namespace Go.Vc
open Go Go.RowKit Go.IntWalk
section
variable {P : Program} {ops : Array Oper} {Q : Exit → Act → World → Prop} {S : World → Prop}
def YC (P : Program) (ops : Array Oper) (S : World → Prop) (o : Oper) (v : Value) (a : Act) : Prop :=
  Region.wanted o (yielded ops a.tmps) = true ∧ ∀ w, S w → ∃ g args, (execOp a.eval o).run P w = .ok (.enter g args) w ∧ Calls P g args w (fun e w' => e = .returned v ∧ w' = w)
theorem YC.wpOp {i : Nat} {o : Oper} {v : Value} {a : Act} (hi : ops[i]? = some o) (hy : YC P ops S o v a) {K : Act → World → Prop} {w : World} (hS : S w) (h : K (a.put o.dst v) w) : wpOp P ops Q i K a w := by
  unfold Go.wpOp
  simp only [hi]
  obtain ⟨hw, hv⟩ := hy
  obtain ⟨g, args, h1, h2⟩ := hv w hS
  simp only [hw, if_true, Oper.wp, h1, Oper.upon]
  refine .inl (Calls.mono h2 (fun e w' he => ?_))
  obtain ⟨rfl, rfl⟩ := he
  exact h
end
section
variable {P : Program} {B : Exit → Act → World → Prop} {n : Nat} {k : List Kont} {f : Fr} {w : World} {ops : Array Oper} {S : World → Prop} {fuel : Nat} {d : List Nat}
end
end Go.Vc
namespace Go.Vc
open Go Go.RowKit Go.IntWalk
section
variable {P : Program} {f : Fr} {w : World} {o : Oper}
theorem run_mkF {g : FuncId} {xs : List Operand} {vs : List Value} (ho : o.op = .makeFunc (.func g) #[] xs.toArray) (hvs : xs.map (opv f) = vs) : (execOp (opv f) o).run P w = .ok (.value (.func (.func g) #[] vs.toArray)) w := by
  unfold execOp; rw [ho]; simp only []
  rw [show xs.toArray.map (opv f) = vs.toArray from by rw [← hvs]; simp]
  simp [Instr.makeFunc]
theorem run_callfn {g : FuncId} {F : Operand} {args : List Operand} {ts : Array TypeId} {vs cs : List Value} {fn : Func} {c : Code} (ho : o.op = .call ⟨.value F, args.toArray, ts⟩) (hF : opv f F = .func (.func g) #[] cs.toArray) (hvs : args.map (opv f) = vs)
    (hf : P.funcs[g]? = some fn) (hb : fn.body = some c) (hn : (fn.name == "runtime.NumGoroutine") = false) : (execOp (opv f) o).run P w = .ok (.enter g (vs ++ cs).toArray) w := by
  unfold execOp; rw [ho]; simp only [resolve]
  rw [show args.toArray.map (opv f) = vs.toArray from by rw [← hvs]; simp, hF]
  have hn' : ¬ fn.name = "runtime.NumGoroutine" := by simpa using hn
  simp [Deferred.ofValue, invoke, callFunc, hf, hb, hn']
end
section
variable {α β : Type} {P : Program} {B : Exit → Act → World → Prop} {n : Nat} {k : List Kont} {f : Fr} {w : World} {ops : Array Oper} {rest : List Oper} {K E : TypeId} {ek : α → Value} {ev : β → Value} {m : List (α × β)} {b : Nat}
theorem r_mapins [DecidableEq α] (L : KeyLaw P K ek) {T : TypeId} {t : TypeId} {pos : String} {aft : Array Edge} {x y z : Operand} {a : α} {v : β} (hu : P.underlying T = some (.map K E)) (hx : opv f x = .map (some b)) (hy : opv f y = ek a) (hz : opv f z = ev v)
    (h : MapIs w b ek ev m) (h2 : ∀ w', Evo w w' [b] → w'.heap.size = w.heap.size → MapIs w' b ek ev (setM m a v) → KL P B n ops k rest f w') :
    KL P B n ops k (⟨none, .insert T x y z, t, pos, aft, none⟩ :: rest) f w := by
  obtain ⟨w', hr, he, hs, hm⟩ := run_mapset L hu a v h
  refine r_op0 (w' := w') rfl rfl ?_ (h2 w' he hs hm)
  simp [execOp, hx, hy, hz, hr]
end
end Go.Vc
namespace Go.Vc
open Go Go.RowKit Go.IntWalk
def ordB (ops : Array Oper) : Bool := (List.range ops.size).all fun i => match ops[i]? with
  | some o => o.after.all fun e => !(Region.binds .any e) || Nat.blt e.on i
  | none => true
def BI (n : Nat) (I : Array Bool → Fr → World → Prop) (l : Array Bool) : Exit → Act → World → Prop
  | .normal, a, w => ∃ f, Is n f a ∧ I l f w
  | _, _, _ => False
section
variable {P : Program} {B : Exit → Act → World → Prop} {n : Nat} {k : List Kont} {ops : Array Oper} {I : Array Bool → Fr → World → Prop}
theorem rg_do {f : Fr} {w : World} {i : Nat} {oi : Oper} {l : Array Bool} (hi : ops[i]? = some oi) (h : KL P (BI n I l) n ops [] [oi] f w) : ∀ a, Is n f a → wpOp P ops (HQ P B k) i (fun a' w' => BI n I l .normal a' w') a w := by
  intro a ha
  have h1 := h a ha
  unfold wpOp
  simp only [hi]
  unfold wpList at h1
  split
  · rename_i hw
    rw [if_pos hw] at h1
    rcases h1 with h1 | ⟨_, _, _, h2⟩
    · refine .inl ?_
      unfold Oper.wp at h1 ⊢
      generalize (execOp a.eval oi).run P w = r at h1 ⊢
      cases r with
      | ok nx w' =>
        cases nx <;> simp only [Oper.upon] at h1 ⊢ <;>
          first
            | exact h1
            | exact Calls.mono h1 (fun e w'' he => by cases e <;> first | exact he | exact (he : False).elim | (obtain ⟨_, _, h2⟩ := he; exact (h2 : False).elim))
            | exact Rows.mono h1 (fun _ _ he => he)
      | halt x w' => cases x <;> simp only [Oper.upon] at h1 ⊢ <;> first | exact (h1 : False).elim | exact h1
    · exact (h2 : False).elim
  · rename_i hw
    rw [if_neg hw] at h1
    exact h1
theorem all_true {l : Array Bool} {m : Nat} (hs : l.size = m) (h : ∀ i, i < m → l.getD i true = true) : l = Array.replicate m true := by
  refine Array.ext (by simp [hs]) fun i h1 h2 => ?_
  have := h i (by omega)
  simp only [Array.getElem_replicate]
  rw [← this]
  simp [h1]
theorem rg_none {l : Array Bool} (hord : ordB ops = true) (hs : l.size = ops.size) (hr : Region.ready .any ops l = []) : ∀ i, i < ops.size → l.getD i true = true := by
  intro i
  induction i using Nat.strongRecOn with
  | _ i ih =>
    intro hi
    cases hu : l.getD i true with
    | true => rfl
    | false =>
      have h1 := List.all_eq_true.1 hord i (List.mem_range.2 hi)
      rw [Array.getElem?_eq_getElem hi] at h1
      have h2 := Array.all_eq_true_iff_forall_mem.1 h1
      have : i ∈ Region.ready .any ops l := mem_ready.2 ⟨by first | exact hu | simpa using hu, ops[i], Array.getElem?_eq_getElem hi, fun e he hb => by
        have h3 := h2 e he
        rw [hb] at h3
        simp only [Bool.not_true, Bool.false_or] at h3
        have h4 : e.on < i := by simpa using h3
        have h5 := ih e.on h4 (by omega)
        have h6 : e.on < l.size := by omega
        simp [h6] at h5 ⊢; exact h5⟩
      rw [hr] at this
      cases this
theorem rg_any (hord : ordB ops = true) (hstep : ∀ i oi, ops[i]? = some oi → ∀ l f w, l.getD i true = false → (∀ e ∈ oi.after, Region.binds .any e = true → l.getD e.on false = true) → I l f w → KL P (BI n I (l.setIfInBounds i true)) n ops [] [oi] f w)
    (hend : ∀ f w, I (Array.replicate ops.size true) f w → KF P B n k f w) :
    ∀ (m : Nat) (l : Array Bool) (a : Act) (w : World) (f : Fr), l.size = ops.size → Is n f a → I l f w → l.toList.count false ≤ m → wpAny P .any ops (HQ P B k) m l a w
  | 0, l, a, w, f, hs, ha, hI, hc => by
    have hall : ∀ i, i < ops.size → l.getD i true = true := fun i hi => by
      have h0 : l.toList.count false = 0 := by omega
      rw [List.count_eq_zero] at h0
      have h1 : i < l.size := by omega
      cases h2 : l[i] with
      | true => simp [h1, h2]
      | false => exact absurd (by rw [← h2]; exact Array.getElem_mem_toList h1) h0
    have hl := all_true hs hall
    refine ⟨List.eq_nil_iff_forall_not_mem.2 fun i hi => ?_, ?_⟩
    · obtain ⟨h1, oi, h2, _⟩ := mem_ready.1 hi
      have h3 : i < ops.size := (Array.getElem?_eq_some_iff.1 h2).1
      rw [hall i h3] at h1
      cases h1
    · rw [hl] at hI
      exact NoPanic.normal (hend f w hI a ha)
  | m + 1, l, a, w, f, hs, ha, hI, hc => by
    refine ⟨fun hr => ?_, fun i hi => ?_⟩
    · have hl := all_true hs (rg_none hord hs hr)
      rw [hl] at hI
      exact NoPanic.normal (hend f w hI a ha)
    · obtain ⟨h1, oi, h2, h3⟩ := mem_ready.1 hi
      have h4 := rg_do (B := B) (k := k) h2 (hstep i oi h2 l f w (by first | exact h1 | simpa using h1) h3 hI) a ha
      refine wpOp_mono (fun a' w' h5 => ?_) h4
      obtain ⟨f', ha', hI'⟩ := h5
      have h6 : i < ops.size := (Array.getElem?_eq_some_iff.1 h2).1
      have h7 : i < l.toList.length := by simp; omega
      refine rg_any hord hstep hend m _ a' w' f' (by simp [hs]) ha' hI' ?_
      rw [Array.toList_setIfInBounds, List.count_set h7]
      have h8 : l.toList[i] = false := by
        have h9 : i < l.size := by omega
        simp [h9] at h1
        simpa using h1
      have h10 : 0 < l.toList.count false := List.count_pos_iff.2 (h8 ▸ List.getElem_mem h7)
      simp [h8]
      simp at hc h10
      omega
theorem h_rg {id : Nat} {f : Fr} {w : World} {ol : List Oper} (I : Array Bool → Fr → World → Prop) (hm : P.follows .mixedOrders = true) (hord : ordB ol.toArray = true)
    (h0 : ∀ w1, Evo w w1 [] → I (Array.replicate ol.toArray.size false) f w1)
    (hend : ∀ f w, I (Array.replicate ol.toArray.size true) f w → KF P B n k f w)
    (hstep : ∀ i oi, ol.toArray[i]? = some oi → ∀ l f w, l.getD i true = false → (∀ e ∈ oi.after, Region.binds .any e = true → l.getD e.on false = true) → I l f w → KL P (BI n I (l.setIfInBounds i true)) n ol.toArray [] [oi] f w) :
    KF P B n (.code (.region id ol.toArray true) :: k) f w := by
  intro a ha
  show (Code.region id ol.toArray true).wp P (Kx P B k) a w
  refine wp_region_noPanic (wp_region_any hm (rg_any hord hstep hend _ _ a _ f (by simp) ha (h0 _ (Evo.drew _ _)) ?_))
  simp [List.count_replicate]
def Steps (P : Program) (n : Nat) (I : Array Bool → Fr → World → Prop) (ops : Array Oper) : Nat → List Oper → Prop
  | _, [] => True
  | i, o :: r => (∀ l f w, l.getD i true = false → (∀ e ∈ o.after, Region.binds .any e = true → l.getD e.on false = true) → I l f w → KL P (BI n I (l.setIfInBounds i true)) n ops [] [o] f w) ∧ Steps P n I ops (i + 1) r
theorem Steps.get {ops : Array Oper} : ∀ {r : List Oper} {i : Nat}, Steps P n I ops i r → ∀ j o, r[j]? = some o → ∀ l f w, l.getD (i + j) true = false → (∀ e ∈ o.after, Region.binds .any e = true → l.getD e.on false = true) → I l f w → KL P (BI n I (l.setIfInBounds (i + j) true)) n ops [] [o] f w
  | [], _, _, j, o, hj => by simp at hj
  | a :: r, i, h, 0, o, hj => by
    simp at hj; subst hj
    exact h.1
  | a :: r, i, h, j + 1, o, hj => by
    have := Steps.get h.2 j o (by simpa using hj)
    rw [show i + (j + 1) = i + 1 + j by omega]
    exact this
theorem rg_end {f : Fr} {w : World} {l : Array Bool} (h : I l f w) : KL P (BI n I l) n ops [] [] f w := fun _ ha => ⟨f, ha, h⟩
theorem h_rgs {id : Nat} {f : Fr} {w : World} {ol : List Oper} (I : Array Bool → Fr → World → Prop) (hm : P.follows .mixedOrders = true) (hord : ordB ol.toArray = true)
    (h0 : ∀ w1, Evo w w1 [] → I (Array.replicate ol.toArray.size false) f w1)
    (hend : ∀ f w, I (Array.replicate ol.toArray.size true) f w → KF P B n k f w)
    (hstep : Steps P n I ol.toArray 0 ol) : KF P B n (.code (.region id ol.toArray true) :: k) f w :=
  h_rg I hm hord h0 hend fun i oi hi l f w h1 h2 h3 => by
    have := hstep.get i oi (by simpa using hi) l f w (by simpa using h1) h2 h3
    simpa using this
theorem h_rgm {id : Nat} {f : Fr} {w : World} {ol : List Oper} (M : List Nat) (I : Array Bool → Fr → World → Prop) (hm : P.follows .mixedOrders = true) (hord : ordB ol.toArray = true)
    (h0 : ∀ w1, Evo w w1 [] → I (Array.replicate ol.toArray.size false) f w1)
    (hend : ∀ g w, I (Array.replicate ol.toArray.size true) g w → KF P B n k (merge M f g) w)
    (hstep : Steps P n (fun l g w => I l g w ∧ Agree M f g) ol.toArray 0 ol) : KF P B n (.code (.region id ol.toArray true) :: k) f w :=
  h_rgs (fun l g w => I l g w ∧ Agree M f g) hm hord (fun w1 he => ⟨h0 w1 he, Agree.refl _ _⟩) (fun g w ⟨h1, h2⟩ => by have := hend g w h1; rwa [merge_of h2] at this) hstep
theorem rg_step {f g : Fr} {M : List Nat} {ops : Array Oper} {w : World} {l : List Oper} {B' : Exit → Act → World → Prop} (hA : Agree M f g) (h : KL P B' n ops [] l (merge M f g) w) : KL P B' n ops [] l g w := by rwa [merge_of hA] at h
end
section
variable {P : Program} {B : Exit → Act → World → Prop} {n : Nat} {k : List Kont} {f : Fr} {w : World} {ops : Array Oper} {S : World → Prop} {fuel : Nat} {d : List Nat}
end
def depB (o : Oper) (j : Nat) : Bool := o.after.any fun e => Region.binds .any e && Nat.beq e.on j
theorem dep_of {o : Oper} {l : Array Bool} (hd : ∀ e ∈ o.after, Region.binds .any e = true → l.getD e.on false = true) (j : Nat) (h : depB o j = true) : l.getD j false = true := by
  obtain ⟨e, he, hb⟩ := Array.any_eq_true'.1 h
  simp only [Bool.and_eq_true] at hb
  have := hd e he hb.1
  have h2 : e.on = j := by simpa using hb.2
  rwa [h2] at this
theorem un_false {l : Array Bool} {i : Nat} (h : l.getD i true = false) : l.getD i false = false ∧ i < l.size := by
  rcases Nat.lt_or_ge i l.size with h1 | h1
  · simp [h1] at h ⊢; exact h
  · simp [Array.getElem?_eq_none h1] at h
theorem set_ne {l : Array Bool} {i j : Nat} (h : j ≠ i) : (l.setIfInBounds i true).getD j false = l.getD j false := by
  simp [Array.getElem?_setIfInBounds, Ne.symm h]
theorem set_eq {l : Array Bool} {i : Nat} (h : i < l.size) : (l.setIfInBounds i true).getD i false = true := by
  simp [h]
theorem same_merge {M : List Nat} {f g : Fr} : ∀ q, elemN q M = true → merge M f g q = g q := fun q h => by simp only [merge, h, cond_true]
theorem same_know {M : List Nat} {f g : Fr} {i : Nat} {v : Value} (h : ∀ q, elemN q M = true → f q = g q) (hv : g i = v) : ∀ q, elemN q M = true → upd f i v q = g q := fun q hq => by
  by_cases e : q = i
  · subst e; rw [upd_same, hv]
  · rw [upd_ne _ _ _ _ e]; exact h q hq
theorem same_put {M : List Nat} {f g : Fr} {d : Nat} {v : Value} (h : ∀ q, elemN q M = true → f q = g q) : ∀ q, elemN q M = true → q ≠ d → upd f d v q = g q := fun q hq hne => by rw [upd_ne _ _ _ _ hne]; exact h q hq
end Go.Vc
namespace Go.Vc
open Go Go.RowKit Go.IntWalk
section
variable {α : Type} [Rep α] {w w' : World} {base : Nat} {E : TypeId} {Y : List Nat} {v : Value} {l : List α}
theorem own_lit0 {m b base : Nat} {E : TypeId} {w : World} (h : Blk w b E []) (hb : base ≤ b) : Own w base E m (.slice (some ⟨b, 0, none⟩) 0 0) [] :=
  ⟨⟨by simp, .inr ⟨b, 0, #[], rfl, hb, by simpa [Blk] using h, by simp, by simp [maxLen], by simp, by simp⟩⟩, by simp, by simp⟩
theorem ownR_lit0 {b base : Nat} {E : TypeId} {Y : List Nat} {w : World} (h : Blk w b E []) (hb : base ≤ b) : OwnR (α := α) w base E Y (.slice (some ⟨b, 0, none⟩) 0 0) [] := ⟨[], own_lit0 h hb, fun _ _ => RepL.nil _⟩
theorem own_step {X : List Nat} {v' : Value} (hE0 : Evo w w' v.ownBlock.toList) (hloc : v'.ownBlock = v.ownBlock ∨ ∃ g, v'.ownBlock = some g ∧ w.heap.size ≤ g) (w'' : World) (he2 : Evo w' w'' (X ++ v'.ownBlock.toList)) : Evo w w'' (X ++ v.ownBlock.toList) :=
  Evo.trans (hE0.weaken (fun x hx => .inl (List.mem_append_right _ hx))) he2 (fun x hx hlt => by
    rcases List.mem_append.1 hx with h4 | h4
    · exact List.mem_append_left _ h4
    · have h5 : v'.ownBlock = some x := by simpa using h4
      rcases hloc with h6 | ⟨g, h6, h7⟩
      · exact List.mem_append_right _ (by rw [← h6]; exact h4)
      · rw [h5] at h6; injection h6 with h6; omega)
end
section
variable {P : Program} {B : Exit → Act → World → Prop} {n : Nat} {k : List Kont} {f : Fr} {w : World} {ops : Array Oper} {rest : List Oper}
theorem r_appendR {α : Type} [Rep α] {base : Nat} {E : TypeId} {Y : List Nat} {v : Value} {l : List α} {T d bb m : Nat} {t : TypeId} {pos : String} {aft : Array Edge} {x y : Operand} {z : Value} {ao : Option Addr} {b off cap len : Nat} {l' : List α} {E' : List Nat} {w1 : World}
    (hd : Nat.blt d n = true) (hu : P.underlying T = some (.slice E)) (ht : tyP P E = some (m, bb, some z)) (hm : (m == Rep.n α && z.cells.size == Rep.n α) = true) (hone : ∀ (w : World) cs (x : α), Rep.rep w cs x → oneCells cs = true)
    (hown : OwnR w base E Y v l) (hx : opv f x = v) (hy : opv f y = .slice ao len cap) (hr : RowRK w1 E' ao b off cap l') (hw1 : ∀ w'', Evo w w'' (Y ++ v.ownBlock.toList) → Evo w1 w'' E') (hl : len = l'.length)
    (hbytes : (l.length + l'.length) * bb ≤ 140737488355328) (hlen : l.length + l'.length ≤ 140737488355328) (hbase : base ≤ w.heap.size)
    (h : ∀ v' w', Evo w w' v.ownBlock.toList → OwnR w' base E Y v' (l ++ l') → (v'.ownBlock = v.ownBlock ∨ v'.ownBlock = some w.heap.size) → KL P B n ops k rest (upd f d v') w') :
    KL P B n ops k (⟨some d, .call ⟨.builtin .append, #[x, y], #[T, T]⟩, t, pos, aft, none⟩ :: rest) f w := by
  simp only [Bool.and_eq_true, beq_iff_eq] at hm
  obtain ⟨rfl, h2⟩ := hm
  obtain ⟨css, ho, hL⟩ := hown
  obtain ⟨css2, hr2⟩ := hr
  have h0 := hr2 w (hw1 w (Evo.refl _ _))
  have e1 := (hL w (Evo.refl _ _)).1
  have e2 := h0.2.1
  refine r_append (news := css2) hd hu ht h2 Rep.pos ho hx hy h0.1 (by rw [e2]; exact hl) (fun cs hcs => ?_) (by rw [e1, e2]; exact hbytes) (by rw [e1, e2]; exact hlen) hbase ?_
  · obtain ⟨i, hi⟩ := List.getElem?_of_mem hcs
    have hi2 : i < l'.length := by rw [← e2]; exact (List.getElem?_eq_some_iff.1 hi).1
    exact hone w cs l'[i] (h0.2.2 i cs _ hi (by simp [hi2]))
  intro v' w' he ho' hloc
  refine h v' w' he ⟨_, ho', fun w'' he2 => ?_⟩ hloc
  have h5 := own_step (X := Y) he (hloc.imp_right fun h => ⟨_, h, Nat.le_refl _⟩) w'' he2
  exact (hL w'' h5).append (hr2 w'' (hw1 w'' h5)).2
end
end Go.Vc
namespace Go.Vc
open Go Go.RowKit Go.IntWalk
theorem rowLitRK {α : Type} [Rep α] {w : World} {b : Nat} {T : TypeId} {cs : List Value} {x : α} (E : List Nat) (h : Blk w b T cs) (hb : b ∉ E) (hr : ∀ w', Evo w w' E → Rep.rep w' cs x) : RowRK w E (some ⟨b, 0, none⟩) b 0 1 [x] := by
  refine ⟨[cs], fun w' he => ⟨⟨by simp, fun _ => rfl, fun i c hi => ?_⟩, RepL.one (hr w' he)⟩⟩
  cases i with
  | zero =>
    simp at hi; subst hi
    refine ⟨Rep.len (hr w' he), ?_⟩
    have := (h.evo he hb).at
    simpa using this
  | succ i => simp at hi
end Go.Vc
namespace Go.Vc
open Go Go.RowKit
section
variable {P : Program} {n : Nat} {f : Fr} {w : World}
theorem Kx_goto {B : Exit → Act → World → Prop} (hB : ∀ i a w, ¬ B (.goto i) a w) {i : Nat} {a : Act} {w : World} : ∀ k : List Kont, ¬ Kx P B k (.goto i) a w
  | [], h => hB i a w h
  | .code _ :: k, h => Kx_goto hB k h
  | .blk _ :: k, h => Kx_goto hB k h
  | .stop _ :: k, h => Kx_goto hB k h
theorem r_scope {fn : Func} {R : Ending → World → Prop} {c : Code} {k : List Kont} (h : KF P (bodyPost P fn R) n (.code c :: k) f w) : KF P (bodyPost P fn R) n (.code (.scope c) :: k) f w := by
  intro a ha
  show (Code.scope c).wp P (Kx P (bodyPost P fn R) k) a w
  refine wp_scope_straight (wp_mono (h a ha) fun e a w hq => ?_)
  cases e with
  | goto i => exact (Kx_goto (P := P) (fun _ _ _ h => h) k hq).elim
  | normal => exact hq
  | exit i => exact hq
  | ret => exact hq
  | panic c => exact hq
  | outgrown => exact hq
theorem r_label {B : Exit → Act → World → Prop} {l : Nat} {k : List Kont} (h : KF P B n k f w) : KF P B n (.code (.label l) :: k) f w := fun a ha => wp_label (h a ha)
end
end Go.Vc
namespace Go.Vc
open Go Go.RowKit Go.IntWalk
section
variable {P : Program} {B : Exit → Act → World → Prop} {n : Nat} {k : List Kont} {f : Fr} {w : World} {ops : Array Oper} {rest : List Oper}
theorem r_makeB {T E d m bb len : Nat} {t : TypeId} {pos : String} {aft : Array Edge} {x y : Operand} {z : Value} {zs : List Value} {κ κ' : IntKind} {i j : Int}
    (hu : P.underlying T = some (.slice E)) (ht : tyP P E = some (m, bb, some z)) (hz : z.cells = zs.toArray) (hm : (Nat.beq zs.length m && Nat.ble 1 m) = true) (hd : Nat.blt d n = true)
    (hx : opv f x = .int κ i) (hy : opv f y = .int κ' j) (hi : i = (len : Int)) (hj : j = (len : Int)) (hlen : len ≤ 140737488355328) (hb : bb * len ≤ 281474976710656)
    (h : ∀ b w', b = w.heap.size → Evo w w' [] → FB w' b E m len (fun _ => zs) → w'.heap.size = b + 1 → KL P B n ops k rest (upd f d (.slice (some ⟨b, 0, none⟩) len len)) w') :
    KL P B n ops k (⟨some d, .makeSlice T x y, t, pos, aft, none⟩ :: rest) f w := by
  simp only [Bool.and_eq_true, Nat.ble_eq] at hm
  have hzl := Nat.eq_of_beq_eq_true hm.1
  obtain ⟨it, hit, h1, h2, h3⟩ := info_of ht
  have hll : len ≤ len * m := Nat.le_mul_of_pos_right len (by omega)
  have hbb : (bb : Int) * (len : Int) = ((bb * len : Nat) : Int) := by simp
  have hrun := run_make (P := P) w T E it z hu hit h3 κ κ' (len : Int) (len : Int) (by omega) (Int.le_refl _) (by rw [h2, hbb]; omega) (by omega)
  simp only [Int.toNat_natCast, h1] at hrun
  rw [madeCells_flat hz hzl (by omega) len] at hrun
  refine r_op (v := .slice (some ⟨w.heap.size, 0, none⟩) len len) (w' := w.alloc (.cells (flat len (fun _ => zs)).toArray E)) rfl rfl hd ?_ (h _ _ rfl (Evo.alloc _ _ _) ⟨heap_alloc_new w _, fun _ => hzl⟩ (by simp))
  subst hi
  subst hj
  simp [execOp, hx, hy, hrun]
end
end Go.Vc
namespace Go.Vc
open Go Go.RowKit
theorem OwnR.rowK {α : Type} [Rep α] {w : World} {base : Nat} {E : TypeId} {Y : List Nat} {v : Value} {l : List α} (h : OwnR w base E Y v l) (hY : ∀ y ∈ Y, y < base) : ∃ ao g cap, v = .slice ao l.length cap ∧ RowRK w Y ao g 0 cap l := by
  obtain ⟨css, h1, h2⟩ := h
  have h3 := h2 w (Evo.refl _ _)
  obtain ⟨ao, g, cap, hv, hr, hg⟩ := h1.rowOf
  refine ⟨ao, g, cap, by rw [← h3.1]; exact hv, css, fun w' he => ⟨?_, h2 w' (he.mono (fun x hx => List.mem_append.2 (.inl hx)))⟩⟩
  by_cases hc : css = []
  · subst hc; exact ⟨hr.1, by simp, by simp⟩
  · exact hr.evo he (fun hm => by have := hY g hm; have := (hg hc).2; omega)
end Go.Vc
namespace Go.Vc
open Go
section
variable {P : Program} {B : Exit → Act → World → Prop} {n : Nat} {k : List Kont} {f : Fr} {w : World} {ops : Array Oper} {S : World → Prop} {fuel : Nat} {d : List Nat}
theorem h_know {i : Nat} {v : Value} (hv : f i = v) (h : HA P B n k S ops fuel d (upd f i v) w) : HA P B n k S ops fuel d f w := fun a ha => h a (ha.know hv)
theorem h_split {p : Prop} [Decidable p] {i : Nat} (hv : f i = .bool (decide p)) (ht : p → HA P B n k S ops fuel d (upd f i (.bool true)) w) (hf : ¬ p → HA P B n k S ops fuel d (upd f i (.bool false)) w) : HA P B n k S ops fuel d f w := by
  by_cases hp : p
  · exact h_know (by rw [hv]; simp [hp]) (ht hp)
  · exact h_know (by rw [hv]; simp [hp]) (hf hp)
theorem h_takeN {i s j sj : Nat} {b c : Bool} {oi : Oper} (hi : ops[i]? = some oi) (hgd : oi.guard = some (j, c)) (hj : (ops[j]?).bind (·.dst) = some sj) (hv : f sj = .bool b) (hne : c = !b) (hdst : oi.dst = some s) (hd : Nat.blt s n = true) (hc : takeB ops d i = true)
    (hS : S w) (h : HA P B n k S ops fuel (i :: d) (upd f s undef) w) : HA P B n k S ops (fuel + 1) d f w := by
  intro a ha
  simp only [takeB, Bool.and_eq_true] at hc
  have hy := yielded_is ha hj hv
  subst hne
  refine AnyF_take (v := undef) hi hc.1.1.1 hc.1.1.2 hc.1.2 hc.2 (fun _ _ _ h => (h : False).elim) (.inr ⟨by simp only [Region.wanted, hgd, hy]; cases b <;> rfl, rfl⟩) hS ?_
  rw [hdst]; exact h _ (ha.put hd undef)
theorem h_takeK {i s j sj : Nat} {b : Bool} {oi : Oper} {v : Value} (hi : ops[i]? = some oi) (hgd : oi.guard = some (j, b)) (hj : (ops[j]?).bind (·.dst) = some sj) (hv : f sj = .bool b) (hdst : oi.dst = some s) (hd : Nat.blt s n = true) (hc : takeB ops d i = true)
    (hrun : ∀ w', S w' → (execOp (opv f) oi).run P w' = .ok (.value v) w') (hS : S w) (h : HA P B n k S ops fuel (i :: d) (upd f s v) w) : HA P B n k S ops (fuel + 1) d f w := by
  intro a ha
  simp only [takeB, Bool.and_eq_true] at hc
  have hy := yielded_is ha hj hv
  refine AnyF_take (v := v) hi hc.1.1.1 hc.1.1.2 hc.1.2 hc.2 (fun _ _ _ h => (h : False).elim) (.inl ⟨by simp only [Region.wanted, hgd, hy]; simp, fun w' hw' => ?_⟩) hS ?_
  · rw [ha.eval]; exact hrun w' hw'
  · rw [hdst]; exact h _ (ha.put hd v)
end
end Go.Vc
