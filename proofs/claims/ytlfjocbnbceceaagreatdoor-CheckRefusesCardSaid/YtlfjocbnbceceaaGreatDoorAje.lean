/-
  Library, plain laws and walks that the statements reach (joined by a program out of smaller texts).
-/
import Derived.Test.YtlfjocbnbceceaaGreatDoorAjd
import Derived.Test.YtlfjocbnbceceaaGreatDoorAjb
import Derived.Shelf.LaysM
import Derived.Shelf.Strconv.Itoa3
import Derived.Test.YtlfjocbnbceceaaGreatDoorProg
import Derived.Lib.ItoaNum
import Derived.Lib.LaidTab
import Derived.Sort.OwnSorted
import Derived.Test.YtlfjocbnbceceaaGreatDoorAja
import Derived.Test.YtlfjocbnbceceaaGreatDoorAjc
import Derived.ArgAppend
import Derived.Laws.Slices
import Derived.MapKept
set_option linter.unusedVariables false
set_option linter.unusedSimpArgs false
namespace Go.Proofs.YtlfjocbnbceceaaGreatDoor
open Go Go.RowKit Go.Vc
structure Chk where
  lev : List Int
  short : Int
  long : Int
  ts : List TermL
  cls : List Clas
def chkBad (c : Chk) : Prop := (∃ x ∈ c.lev, x < 0 ∨ 2 < x) ∨ (((¬ c.lev.getD 0 default = 0 ∨ c.short < 0) ∨ 100 < c.short) ∨ (¬ c.long = 0 ∧ (c.long < 100 ∨ 10000 < c.long)))
instance (c : Chk) : Decidable (chkBad c) := by unfold chkBad; infer_instance
def validK (c : Chk) : Int := if chkBad c then 1 else validT c.ts c.cls
def Tiny (f : List Vc.Item) : Prop := f.length ≤ 1000 ∧ sizeL f ≤ 100000
theorem sizeL_f (f : List Vc.Item) : fLen f = sizeL f := rfl
theorem Tiny.small {f : List Vc.Item} (h : Tiny f) : Small f := ⟨by have := h.1; omega, by have := h.2; omega⟩
theorem Tiny.tk {f : List Vc.Item} (h : Tiny f) : fLen f + f.length ≤ 1000000000 := by have h1 := h.1; have h2 := h.2; rw [← sizeL_f] at h2; omega
theorem Tiny.tlen {f : List Vc.Item} (h : Tiny f) : (toks f).length ≤ 101000 := by have h0 := toks_len f; have h1 := h.1; have h2 := h.2; rw [← sizeL_f] at h2; omega
theorem Tiny.ttx {f : List Vc.Item} (h : Tiny f) : ∀ x ∈ toks f, x.text.length ≤ 100000 := fun x hx => by have h0 := toks_text hx; have h2 := h.2; rw [← sizeL_f] at h2; omega
theorem Tiny.plen {f : List Vc.Item} (h : Tiny f) : (plainL f).length ≤ 101000 := by have h0 := plainL_len f; have h1 := h.1; have h2 := h.2; omega
theorem Tiny.txt {f : List Vc.Item} (h : Tiny f) {x : Vc.Item} (hx : x ∈ f) : x.text.length ≤ 100000 := by have h0 := sizeL_mem hx; have h2 := h.2; omega
def spB (c : UInt8) : Bool := decide (clsB c = 2)
def tBeg (s : Str) : Nat := (s.takeWhile spB).length
def tEndK (s : Str) : Nat → Nat
  | 0 => 0
  | k + 1 => if spB (s.getD k default) = true then tEndK s k else k + 1
def tEnd (s : Str) : Nat := tEndK s s.length
theorem tBeg_at : ∀ {s : Str} {k : Nat}, k ≤ s.length → (∀ j, j < k → clsB (s.getD j default) = 2) → (k = s.length ∨ ¬ clsB (s.getD k default) = 2) → tBeg s = k
  | [], k, hk, _, _ => by
    have : k = 0 := by simpa using hk
    subst this; rfl
  | c :: s, 0, _, _, h => by
    rcases h with h | h
    · simp at h
    · have h' : spB c = false := by unfold spB; exact decide_eq_false h
      unfold tBeg; rw [List.takeWhile_cons, h']; rfl
  | c :: s, k + 1, hk, h1, h2 => by
    have h0 : spB c = true := decide_eq_true (h1 0 ω)
    have ih := tBeg_at (s := s) (k := k) (by simpa using hk) (fun j hj => h1 (j + 1) ω) (h2.imp (fun q => by simpa using q) (fun q => q))
    unfold tBeg at *; rw [List.takeWhile_cons, h0]
    show (s.takeWhile spB).length + 1 = k + 1
    rw [ih]
theorem tEndK_le (s : Str) : ∀ k, tEndK s k ≤ k
  | 0 => Nat.le_refl _
  | k + 1 => by
    unfold tEndK; split
    · exact Nat.le_succ_of_le (tEndK_le s k)
    · exact Nat.le_refl _
theorem tEnd_le (s : Str) : tEnd s ≤ s.length := tEndK_le s _
theorem tEndK_go {s : Str} {k : Nat} (h0 : 0 < k) (h : clsB (s.getD (k - 1) default) = 2) : tEndK s k = tEndK s (k - 1) := by
  obtain ⟨k, rfl⟩ : ∃ j, k = j + 1 := ⟨k - 1, by omega⟩
  conv => lhs; unfold tEndK
  rw [if_pos (show spB (s.getD k default) = true from decide_eq_true h)]; rfl
theorem tEndK_stop {s : Str} {k : Nat} (h : k = 0 ∨ ¬ clsB (s.getD (k - 1) default) = 2) : tEndK s k = k := by
  cases k with
  | zero => rfl
  | succ k =>
    unfold tEndK
    rw [if_neg (show ¬ spB (s.getD k default) = true from fun q => (h.elim (fun q => by omega) id : ¬ clsB (s.getD (k + 1 - 1) default) = 2) (of_decide_eq_true q))]
theorem tEndK_gt {s : Str} {j : Nat} (h : ¬ clsB (s.getD j default) = 2) : ∀ {k : Nat}, j < k → j < tEndK s k
  | k + 1, hj => by
    unfold tEndK; split
    · rename_i hs
      rcases Nat.lt_or_ge j k with h1 | h1
      · exact tEndK_gt h h1
      · have : j = k := by omega
        subst this; exact absurd (of_decide_eq_true hs) h
    · omega
theorem tEnd_gt {s : Str} {j : Nat} (h : ¬ clsB (s.getD j default) = 2) (hj : j < s.length) : j < tEnd s := tEndK_gt h hj
theorem tBeg_le (s : Str) : tBeg s ≤ s.length := by
  unfold tBeg
  exact (List.takeWhile_sublist _).length_le
theorem mem_tw : ∀ (s : Str) {c : UInt8}, c ∈ s.takeWhile spB → spB c = true
  | [], c, h => by simp at h
  | a :: s, c, h => by
    rw [List.takeWhile_cons] at h
    split at h
    · rcases List.mem_cons.1 h with rfl | h
      · assumption
      · exact mem_tw s h
    · cases h
theorem tEnd_zero {s : Str} (h : tBeg s = s.length) : tEnd s = 0 := by
  have h1 : ∀ c ∈ s, spB c = true := by
    have e : s.takeWhile spB = s := (List.takeWhile_sublist spB).eq_of_length h
    intro c hc
    rw [← e] at hc
    exact mem_tw s hc
  rcases Nat.eq_zero_or_pos (tEnd s) with h2 | h2
  · exact h2
  · exfalso
    have key : ∀ k, k ≤ s.length → tEndK s k = 0 := by
      intro k
      induction k with
      | zero => intro _; rfl
      | succ k ih =>
        intro hk
        unfold tEndK
        rw [if_pos (h1 _ (getD_in ω)), ih ω]
    have := key s.length (Nat.le_refl _)
    unfold tEnd at h2; omega
theorem prefix_iff3 {s t : Str} : t <+: s ↔ t.length ≤ s.length ∧ s.take t.length = t := by
  constructor
  · intro h; exact ⟨h.length_le, (List.prefix_iff_eq_take.1 h).symm⟩
  · rintro ⟨_, h⟩; exact List.prefix_iff_eq_take.2 h.symm
theorem cut_hi {s : Str} {k : Nat} : (s.drop k).take (s.length - k) = s.drop k := List.take_of_length_le (by simp)
def trF (s : Str) : Nat := if tBeg s = s.length then 0 else tBeg s
theorem tBeg_stop : ∀ (s : Str), tBeg s = s.length ∨ ¬ clsB (s.getD (tBeg s) default) = 2
  | [] => .inl rfl
  | c :: s => by
    by_cases h : spB c = true
    · have e : tBeg (c :: s) = tBeg s + 1 := by unfold tBeg; rw [List.takeWhile_cons, h]; rfl
      rw [e]
      exact (tBeg_stop s).imp (fun q => by rw [List.length_cons, q]) (fun q => q)
    · have h' : spB c = false := by simpa using h
      have e : tBeg (c :: s) = 0 := by unfold tBeg; rw [List.takeWhile_cons, h']; rfl
      rw [e]
      exact .inr (fun q => h (decide_eq_true q))
theorem trim_all {s : Str} {b k : Nat} (hb : tBeg s = b) (he : tEndK s k = tEnd s) (hk : k = b) : trF s = 0 ∧ tEnd s = 0 := by
  rcases tBeg_stop s with h | h
  · exact ⟨if_pos h, tEnd_zero h⟩
  · by_cases h2 : tBeg s = s.length
    · exact ⟨if_pos h2, tEnd_zero h2⟩
    · have h1 := tBeg_le s
      have h3 := tEnd_gt h ω
      have h4 := tEndK_le s k
      omega
theorem trim_some {s : Str} {b k : Nat} (hb : tBeg s = b) (he : tEndK s k = tEnd s) (hk : b < k) (hl : k ≤ s.length) (hs : ¬ clsB (s.getD (k - 1) default) = 2) : trF s = b ∧ tEnd s = k :=
  ⟨by unfold trF; rw [if_neg ω, hb], by rw [← he]; exact tEndK_stop (.inr hs)⟩
theorem trF_ne {s : Str} (h : ¬ trF s = tEnd s) : trF s = tBeg s := by
  unfold trF at *; split
  · rename_i q; rw [if_pos q, tEnd_zero q] at h; exact absurd rfl h
  · rfl
theorem trF_eq {s : Str} (h : trF s = tEnd s) : tBeg s = s.length := by
  rcases tBeg_stop s with q | q
  · exact q
  · by_cases q2 : tBeg s = s.length
    · exact q2
    · have h1 := tBeg_le s
      have h3 := tEnd_gt q ω
      unfold trF at h; rw [if_neg q2] at h; omega
def leadS (s : Str) : Str := s.take (tBeg s)
def trailS (s : Str) : Str := s.drop (tEnd s)
theorem edges_all {s : Str} (h : tBeg s = s.length) : leadS s = s ∧ trailS s = s := by
  unfold leadS trailS
  rw [tEnd_zero h, h]
  exact ⟨List.take_length, List.drop_zero⟩
def signL (s : Str) : Str := if tEnd s = 0 then [] else if clsB (s.getD (tEnd s - 1) default) = 5 then [s.getD (tEnd s - 1) default] else []
theorem sign_no {s : Str} (h : tEnd s = 0 ∨ ¬ clsB (s.getD (tEnd s - 1) default) = 5) : signL s = [] := by
  unfold signL; split
  · rfl
  · rename_i q2; rw [if_neg (h.elim (fun q => absurd q q2) id)]
theorem sign_yes {s : Str} (h : 0 < tEnd s) (h2 : clsB (s.getD (tEnd s - 1) default) = 5) : (s.take (tEnd s)).drop (tEnd s - 1) = signL s := by
  unfold signL; rw [if_neg ω, if_pos h2]
  have h3 := tEnd_le s
  have hk : tEnd s - 1 < s.length := by omega
  have e : s.take (tEnd s) = s.take (tEnd s - 1) ++ [s.getD (tEnd s - 1) default] := by
    have := take_succD s (tEnd s - 1) hk
    rwa [show tEnd s - 1 + 1 = tEnd s by omega] at this
  rw [e, List.drop_append_of_le_length (by rw [List.length_take]; omega), List.drop_of_length_le (by rw [List.length_take]; omega)]; rfl
def dblB (t : Str) (i : Nat) : Bool := decide (t.getD i 0 = 32 ∧ t.getD (i + 1) 0 = 32)
def dblK (t : Str) (k : Nat) : Nat := (List.range k).countP (dblB t)
def dblN (t : Str) : Nat := dblK t t.length
theorem dblK_succ (t : Str) (k : Nat) : dblK t (k + 1) = dblK t k + (if dblB t k = true then 1 else 0) := by
  unfold dblK; rw [List.range_succ, List.countP_append, List.countP_singleton]
theorem dblK_le (t : Str) (k : Nat) : dblK t k ≤ k := by
  unfold dblK
  have := List.countP_le_length (p := dblB t) (l := List.range k)
  rwa [List.length_range] at this
def begW : Str := [98, 101, 103, 105, 110]
def endW : Str := [101, 110, 100]
def longW : Str := [108, 111, 110, 103]
def shortW : Str := [115, 104, 111, 114, 116]
def decI (n : Int) : Str := if 0 ≤ n then decW n.toNat [] else 45 :: decW (-n).toNat []
def numI (x : Vc.Item) : Str := decI x.id ++ [58] ++ x.text
def writ (x : Vc.Item) : Str := if x.kind = 3 then [60, 47] ++ numI x ++ [62] else if x.kind = 4 then [60] ++ numI x ++ [47, 62] else [60] ++ numI x ++ [62]
def numT (l : List Vc.Item) : List Str := (l.filter (fun x => decide (x.kind = 7))).map (·.text)
theorem numT_len (l : List Vc.Item) : (numT l).length ≤ l.length := by unfold numT; rw [List.length_map]; exact List.length_filter_le _ _
theorem numT_yes {l : List Vc.Item} {k : Nat} (hk : k < l.length) (h : (l.getD k default).kind = 7) : numT (l.take (k + 1)) = numT (l.take k) ++ [(l.getD k default).text] := by
  unfold numT; rw [take_succD l k hk, List.filter_append, List.map_append, List.filter_cons_of_pos (p := fun x : Vc.Item => decide (x.kind = 7)) (decide_eq_true h)]; rfl
theorem numT_no {l : List Vc.Item} {k : Nat} (hk : k < l.length) (h : ¬ (l.getD k default).kind = 7) : numT (l.take (k + 1)) = numT (l.take k) := by
  unfold numT; rw [take_succD l k hk, List.filter_append, List.map_append, List.filter_cons_of_neg (p := fun x : Vc.Item => decide (x.kind = 7)) (by simpa using h)]; simp
theorem wordB_yes {l : List Vc.Item} {k : Nat} (hk : k < l.length) (h : (l.getD k default).kind = 6) : l.any (fun x => decide (x.kind = 6)) = true := List.any_eq_true.2 ⟨_, getD_in hk, decide_eq_true h⟩
theorem wordB_no {l : List Vc.Item} (h : ∀ j, j < l.length → ¬ (l.getD j default).kind = 6) : l.any (fun x => decide (x.kind = 6)) = false := by
  rw [Bool.eq_false_iff]; intro q
  obtain ⟨x, hx, h2⟩ := List.any_eq_true.1 q
  obtain ⟨i, hi, rfl⟩ := List.mem_iff_getElem.1 hx
  exact h i hi (by rw [List.getD_eq_getElem?_getD, List.getElem?_eq_getElem hi]; exact of_decide_eq_true h2)
def wordB (l : List Vc.Item) : Bool := l.any (fun x => decide (x.kind = 6))
def uniS (a b : List Str) : List Str := (a ++ b).foldl addS []
theorem uniS_mem {a b : List Str} {x : Str} : x ∈ uniS a b ↔ x ∈ a ∨ x ∈ b := by
  have h : ∀ (l o : List Str), x ∈ l.foldl addS o ↔ x ∈ o ∨ x ∈ l := by
    intro l
    induction l with
    | nil => intro o; simp
    | cons y l ih => intro o; rw [List.foldl_cons, ih, addS_mem, List.mem_cons, or_assoc]
  unfold uniS; rw [h, List.mem_append]; simp
theorem uniS_nodup (a b : List Str) : (uniS a b).Nodup := by
  have h : ∀ (l o : List Str), o.Pairwise (fun a b => a < b) → (l.foldl addS o).Pairwise (fun a b => a < b) := by
    intro l
    induction l with
    | nil => intro o ho; exact ho
    | cons y l ih => intro o ho; exact ih _ (addS_sorted y ho)
  exact nodup_of_lt (h _ _ List.Pairwise.nil)
def mkS (k : Int) (s : Str) (n : Int) : Vc.Item := ⟨k, s, n⟩
def mkT (x : Vc.Item) (n : Int) : Vc.Item := ⟨4, writ x, n⟩
def difS (k : Int) (a b : List Str) : List Vc.Item := difs (uniS a b) a b (mkS k)
def difT (a b : List Vc.Item) : List Vc.Item := difs (dist (a ++ b)) a b mkT
def sameF (f g : List Vc.Item) : List Vc.Item := if f = g ∧ wordB (toks f) = true then [⟨2, [], 0⟩] else []
def shapeF (f g : List Vc.Item) : List Vc.Item := if ((shapeL f).isSome ≠ (shapeL g).isSome ∨ ¬ sC f = sC g) ∨ ¬ sO f = sO g then [⟨5, [], 0⟩] else []
def edgeA (s t : Str) : List Vc.Item := if ¬ leadS s = leadS t then [⟨7, begW, 0⟩] else []
def edgeB (s t : Str) : List Vc.Item := if ¬ trailS s = trailS t then [⟨7, endW, 0⟩] else []
def dblF (t : Str) : List Vc.Item := if 0 < dblN t then [⟨8, [], (dblN t : Nat)⟩] else []
def signF (s t : Str) : List Vc.Item := if ¬ signL s = signL t then [⟨9, signL t, 0⟩] else []
def longF (c : Chk) (s t : Str) : List Vc.Item := if ¬ c.long = 0 ∧ c.long * (s.length : Nat) < 100 * (t.length : Nat) then [⟨12, longW, 0⟩] else []
def shortF (c : Chk) (s t : Str) : List Vc.Item := if ¬ c.short = 0 ∧ 100 * (t.length : Nat) < c.short * (s.length : Nat) then [⟨12, shortW, 0⟩] else []
def plainF (c : Chk) (s t : Str) : List Vc.Item := edgeA s t ++ edgeB s t ++ dblF t ++ signF s t ++ longF c s t ++ shortF c s t
def fndK (c : Chk) (S : List Vc.Item) : List Nat := foundN c.ts.length (spotsF S (fsT c.cls c.ts) 0)
def reqF (c : Chk) (k : Nat) : Vc.Item := ⟨10, (c.ts.getD k default).req.getD 0 default, -1⟩
def forF (s : Str) : Vc.Item := ⟨11, s, 1⟩
def missF (c : Chk) (S T : List Vc.Item) : List Vc.Item := (missN T c.ts (fndK c S)).map (reqF c)
def wrongF (c : Chk) (S T : List Vc.Item) : List Vc.Item := (wrongK T c.ts [] (fndK c S)).map forF
def termF (c : Chk) (S T : List Vc.Item) : List Vc.Item := missF c S T ++ wrongF c S T
def slotF (f g : List Vc.Item) : List Vc.Item := difS 3 (sortS (slotsL f)) (sortS (slotsL g))
def tagF (f g : List Vc.Item) : List Vc.Item := difT (tagsL f) (tagsL g)
def numF (f g : List Vc.Item) : List Vc.Item := difS 6 (numT (toks f)) (numT (toks g))
def findA (c : Chk) (f g : List Vc.Item) : List Vc.Item := sameF f g ++ slotF f g ++ tagF f g ++ shapeF f g ++ numF f g ++ plainF c (plainL f) (plainL g) ++ termF c (toks f) (toks g)
def hidB (f g : List Vc.Item) : Prop := g.length = 0 ∧ 0 < f.length
instance (f g : List Vc.Item) : Decidable (hidB f g) := by unfold hidB; infer_instance
def findL (c : Chk) (f g : List Vc.Item) : List Vc.Item := if hidB f g then [⟨1, [], 0⟩] else findA c f g
def levF (c : Chk) (x : Vc.Item) : Bool := decide (¬ c.lev.getD x.kind.toNat default = 0)
def runF (c : Chk) (f g : List Vc.Item) : List Vc.Item := if validK c = 0 then (sortF (findL c f g)).filter (levF c) else []
theorem all_perm {c : Chk} {f g p1 p2 p3 : List Vc.Item} (h1 : p1.Perm (slotF f g)) (h2 : p2.Perm (tagF f g)) (h3 : p3.Perm (numF f g)) : (sameF f g ++ (p1 ++ (p2 ++ p3)) ++ shapeF f g ++ plainF c (plainL f) (plainL g) ++ termF c (toks f) (toks g)).Perm (findA c f g) := by
  unfold findA
  refine List.Perm.append_right _ (List.Perm.append_right _ ?_)
  rw [List.append_assoc, List.append_assoc (sameF f g), List.append_assoc (sameF f g), List.append_assoc (sameF f g)]
  refine List.Perm.append_left _ ?_
  rw [List.append_assoc p1, List.append_assoc (slotF f g ++ tagF f g), List.append_assoc (slotF f g), List.append_assoc p2]
  exact h1.append (h2.append (List.perm_append_comm.trans ((List.Perm.refl _).append h3)))
theorem difs_kind {α : Type} [DecidableEq α] {u s t : List α} {f : α → Int → Vc.Item} {k : Int} (hf : ∀ x n, (f x n).kind = k) {z : Vc.Item} (h : z ∈ difs u s t f) : z.kind = k := by
  unfold difs at h
  obtain ⟨x, _, rfl⟩ := List.mem_map.1 h
  exact hf _ _
theorem if_kind {p : Prop} [Decidable p] {y z : Vc.Item} {k : Int} (hy : y.kind = k) (h : z ∈ (if p then [y] else [])) : z.kind = k := by
  split at h
  · rw [List.mem_singleton] at h; rw [h]; exact hy
  · cases h
theorem plainF_kind {c : Chk} {s t : Str} {z : Vc.Item} (h : z ∈ plainF c s t) : 7 ≤ z.kind ∧ z.kind ≤ 12 := by
  unfold plainF at h
  rcases List.mem_append.1 h with h | h
  · rcases List.mem_append.1 h with h | h
    · rcases List.mem_append.1 h with h | h
      · rcases List.mem_append.1 h with h | h
        · rcases List.mem_append.1 h with h | h
          · have := if_kind (k := 7) rfl h; omega
          · have := if_kind (k := 7) rfl h; omega
        · have := if_kind (k := 8) rfl h; omega
      · have := if_kind (k := 9) rfl h; omega
    · have := if_kind (k := 12) rfl h; omega
  · have := if_kind (k := 12) rfl h; omega
theorem termF_kind {c : Chk} {S T : List Vc.Item} {z : Vc.Item} (h : z ∈ termF c S T) : 10 ≤ z.kind ∧ z.kind ≤ 11 := by
  unfold termF missF wrongF at h
  rcases List.mem_append.1 h with h | h
  · obtain ⟨k, _, rfl⟩ := List.mem_map.1 h
    exact ⟨(show (10 : Int) ≤ 10 by decide), (show (10 : Int) ≤ 11 by decide)⟩
  · obtain ⟨k, _, rfl⟩ := List.mem_map.1 h
    exact ⟨(show (10 : Int) ≤ 11 by decide), (show (11 : Int) ≤ 11 by decide)⟩
theorem findA_kind {c : Chk} {f g : List Vc.Item} {z : Vc.Item} (h : z ∈ findA c f g) : 2 ≤ z.kind ∧ z.kind ≤ 12 := by
  unfold findA at h
  rcases List.mem_append.1 h with h | h
  · rcases List.mem_append.1 h with h | h
    · rcases List.mem_append.1 h with h | h
      · rcases List.mem_append.1 h with h | h
        · rcases List.mem_append.1 h with h | h
          · rcases List.mem_append.1 h with h | h
            · have := if_kind (k := 2) rfl h; omega
            · have := difs_kind (k := 3) (fun _ _ => rfl) h; omega
          · have := difs_kind (k := 4) (fun _ _ => rfl) h; omega
        · have := if_kind (k := 5) rfl h; omega
      · have := difs_kind (k := 6) (fun _ _ => rfl) h; omega
    · have := plainF_kind h; omega
  · have := termF_kind h; omega
theorem findL_kind {c : Chk} {f g : List Vc.Item} {z : Vc.Item} (h : z ∈ findL c f g) : 1 ≤ z.kind ∧ z.kind ≤ 12 := by
  unfold findL at h; split at h
  · rw [List.mem_singleton] at h; rw [h]; exact ⟨by decide, by decide⟩
  · have := findA_kind h; omega
def refB (c : Chk) (x : Vc.Item) : Bool := decide ((1 ≤ x.kind ∧ x.kind ≤ 12) ∧ c.lev.getD x.kind.toNat default = 2)
def refL (c : Chk) (l : List Vc.Item) : Bool := l.any (refB c)
theorem sl_hp_calls {s t : Str} {w0 : World} (hs : s.length ≤ 140737488355328) (ht : t.length ≤ 140737488355328) :
    Calls Tryz.prog 154 #[S s, S t] w0 fun e w' => e = .returned (.bool (decide (t <+: s))) ∧ Evo w0 w' [] := by
 refine calls_enter (n := 18) Tryz.func154 rfl Tryz.ntmps154 rfl ?_
 have hV : Evo w0 w0 [] := Evo.refl _ _
 refine Zs ?_
 refine Zn asB ?_
 refine Zs ?_
 refine Zo mvT ?_
 refine Zo (run_lenS rfl η Tryz.underlying9) ?_
 refine Zo mvT ?_
 refine Zo (run_lenS rfl η Tryz.underlying9) ?_
 refine Zo (run_geq rfl η η) ?_
 refine Zo mvB ?_
 refine r_g rfl (wantT η) rfl (fun hg => mvT) ?_
 refine r_g rfl (wantT η) rfl (fun hg => mvT) ?_
 refine r_g rfl (wantT η) rfl (fun hg => run_lenS rfl (glv η (fun h => h) hg) Tryz.underlying9) ?_
 refine r_g rfl (wantT η) rfl (fun hg => run_slS (0) (t.length) rfl Tryz.underlying9 (glv η (fun h => h) hg) lo0 (at1 (glv η (fun h => h) hg) ω) (by first | omega | (simp; omega)) (by first | omega | (simp; omega))) ?_
 refine r_g rfl (wantT η) rfl (fun hg => mvT) ?_
 refine r_g rfl (wantT η) rfl (fun hg => run_seql rfl (glv η (fun h => h) hg) (glv η (fun h => h) hg)) ?_
 refine Zo (run_pick_and rfl η (fun hq => glv η (fun h => h) hq) rfl) ?_
 refine Zn asB ?_
 refine r_ret (res1 (v := .bool _) rfl η) ?_
 exact ⟨ret_bool (by rw [Bool.eq_iff_iff, decide_eq_true_iff, decide_eq_true_iff, prefix_iff3]; constructor <;> (rintro ⟨h1, h2⟩; exact ⟨by omega, h2⟩)), hV⟩
theorem s_hp_calls {s t : Str} {w0 : World} (hs : s.length ≤ 140737488355328) (ht : t.length ≤ 140737488355328) :
    Calls Tryz.prog 110 #[S s, S t] w0 fun e w' => e = .returned (.bool (decide (t <+: s))) ∧ Evo w0 w' [] := by
 refine calls_enter (n := 8) Tryz.func110 rfl Tryz.ntmps110 rfl ?_
 have hV : Evo w0 w0 [] := Evo.refl _ _
 refine Zs ?_
 refine Zn asB ?_
 refine Zs ?_
 refine Zo mvT ?_
 refine Zo mvT ?_
 refine Zr [S _, S _] rfl η Tryz.func154 (sl_hp_calls (by first | omega | (simp; omega)) (by first | omega | (simp; omega))) ?_
 rintro e w1 ⟨rfl, F1⟩
 refine ⟨_, rfl, ?_⟩
 have Q1 := F1.size
 replace hV := Z0 hV F1
 refine Zn asB ?_
 refine r_ret (res1 (v := .bool _) rfl η) ?_
 exact ⟨rfl, hV⟩
theorem trim_calls {s : Str} {w0 : World} (hs : s.length ≤ 140737488355328) :
    Calls Tryz.prog 153 #[S s] w0 fun e w' => e = .returned (.tuple #[.int .i64 (trF s : Nat), .int .i64 (tEnd s : Nat)]) ∧ Evo w0 w' [] := by
 refine calls_enter (n := 36) Tryz.func153 rfl Tryz.ntmps153 rfl ?_
 have hV : Evo w0 w0 [] := Evo.refl _ _
 refine Zs ?_
 refine Zo asI ?_
 refine Zn asI ?_
 refine Zs ?_
 refine Zo mvT ?_
 refine Zo (run_lenS rfl η Tryz.underlying9) ?_
 refine Zn asI ?_
 refine r_seq ?_
 refine r_block ?_
 refine r_loop (α := Nat) [2, 6, 7, 8, 9, 10, 11, 12, 13, 14, 15, 16, 17] (fun k g w => g 2 = .int .i64 (k : Nat) ∧ k ≤ s.length ∧ (∀ j, j < k → clsB (s.getD j default) = 2) ∧ w0.heap.size ≤ w.heap.size ∧ Evo w0 w []) (fun k => s.length - k) 0 ?_ ?_
 ·refine ⟨σ, δ, (fun j h => by omega), δ, hV⟩
 rintro k g w2 ⟨hj3, hk, hall, hzl1, hV⟩
 have hs_w2hV := hV.size
 refine Zk 2 (v := .int .i64 (k : Nat)) (by exact hj3) ?_
 refine r_seq ?_
 refine Zs ?_
 refine Zo mvI ?_
 refine Zo mvI ?_
 refine Zo (run_lss rfl η η) ?_
 refine Zo mvB ?_
 refine r_g rfl (wantT η) rfl (fun hg => mvT) ?_
 refine r_g rfl (wantT η) rfl (fun hg => mvI) ?_
 refine r_g rfl (wantT η) rfl (fun hg => run_ixS (k) rfl Tryz.underlying9 (glv η (fun h => h) hg) (glv η (fun h => h) hg) (by first | exact rfl | omega) ω) ?_
 refine r_gcall rfl (wantT η) rfl (fun hg => run_callf rfl (argcons (v := .int _ _) (glv η (fun h => h) hg) (rfl)) Tryz.func143 rfl ζ) (fun hg => (of_calls ).mono (fun e w' h => ⟨h.1, h.2⟩)) (fun w4 F5 => ?_)
 have Q4 := F5.size
 replace hV := Z0 hV F5
 refine r_g rfl (wantT η) rfl (fun hg => run_eql rfl (glv η (fun h => h) hg) η) ?_
 refine Zn (run_pick_and rfl η (fun hq => glv η (fun h => h) hq) rfl) ?_
 refine r_cond η (fun hc6 => ?_) (fun hc6 => ?_)
 ·skip
  refine r_skip ?_
  refine r_block ?_
  refine r_region ?_
  refine Zo mvI ?_
  refine Zo (run_add rfl η η ω ω) ?_
  refine Zn asI ?_
  refine r_blk ?_
  refine r_again (k + 1) ?_ ?_ ?_
  ·first | omega | (dsimp only; omega)
  ·refine ⟨σ, δ, (upto0 hall hc6.2), δ, hV⟩
  exact ψ
 refine r_exit rfl ?_
 refine r_seq ?_
 refine r_block ?_
 have hbeg : tBeg s = k := tBeg_at ω hall (by by_cases q : k = s.length; exact .inl q; exact .inr (fun h => hc6 ⟨by omega, h⟩))
 refine r_loop (α := Nat) [3, 18, 19, 20, 21, 22, 23, 24, 25, 26, 27, 28, 29, 30] (fun m g w => g 3 = .int .i64 (m : Nat) ∧ (k ≤ m ∧ m ≤ s.length) ∧ tEndK s m = tEnd s ∧ w4.heap.size ≤ w.heap.size ∧ Evo w0 w []) (fun m => m) s.length ?_ ?_
 ·refine ⟨σ, ⟨by omega, Nat.le_refl _⟩, rfl, δ, hV⟩
 rintro m g w8 ⟨hj9, hm, hend, hzl7, hV⟩
 have hs_w8hV := hV.size
 refine Zk 3 (v := .int .i64 (m : Nat)) (by exact hj9) ?_
 refine r_seq ?_
 refine Zs ?_
 refine Zo mvI ?_
 refine Zo mvI ?_
 refine Zo (run_gtr rfl η η) ?_
 refine Zo mvB ?_
 refine r_g rfl (wantT η) rfl (fun hg => mvT) ?_
 refine r_g rfl (wantT η) rfl (fun hg => mvI) ?_
 refine r_g rfl (wantT η) rfl (fun hg => run_sub rfl (glv η (fun h => h) hg) η ω ω) ?_
 refine r_g rfl (wantT η) rfl (fun hg => run_ixS ((m - 1)) rfl Tryz.underlying9 (glv η (fun h => h) hg) (glv η (fun h => h) hg) ω ω) ?_
 refine r_gcall rfl (wantT η) rfl (fun hg => run_callf rfl (argcons (v := .int _ _) (glv η (fun h => h) hg) (rfl)) Tryz.func143 rfl ζ) (fun hg => (of_calls ).mono (fun e w' h => ⟨h.1, h.2⟩)) (fun w10 F11 => ?_)
 have Q10 := F11.size
 replace hV := Z0 hV F11
 refine r_g rfl (wantT η) rfl (fun hg => run_eql rfl (glv η (fun h => h) hg) η) ?_
 refine Zn (run_pick_and rfl η (fun hq => glv η (fun h => h) hq) rfl) ?_
 refine r_cond η (fun hc12 => ?_) (fun hc12 => ?_)
 ·skip
  refine r_skip ?_
  refine r_block ?_
  refine r_region ?_
  refine Zo mvI ?_
  refine Zo (run_sub rfl η η ω ω) ?_
  refine Zn asI ?_
  refine r_blk ?_
  refine r_again (m - 1) ?_ ?_ ?_
  ·first | omega | (dsimp only; omega)
  ·refine ⟨(congrArg (Value.int _) ω), ⟨by omega, by omega⟩, (by rw [← hend]; exact (tEndK_go ω hc12.2).symm), δ, hV⟩
  exact ψ
 refine r_exit rfl ?_
 refine r_seq ?_
 refine r_seq ?_
 have hstop : m = k ∨ ¬ clsB (s.getD (m - 1) default) = 2 := by by_cases q : m = k; exact .inl q; exact .inr (fun h => hc12 ⟨by omega, h⟩)
 refine r_region ?_
 refine Zo mvI ?_
 refine Zo mvI ?_
 refine Zn (run_eql rfl η η) ?_
 refine r_cond η (fun hc13 => ?_) (fun hc13 => ?_)
 ·skip
  refine Zs ?_
  refine Zo asI ?_
  refine Zn asI ?_
  refine r_ret (res2 (v := .int _ _) (u := .int _ _) rfl η η) ?_
  have h9 := trim_all hbeg hend ω
  exact ⟨by rw [h9.1, h9.2]; rfl, hV⟩
 refine r_skip ?_
 refine Zs ?_
 refine Zo mvI ?_
 refine Zo mvI ?_
 refine Zo asI ?_
 refine Zn asI ?_
 refine r_ret (res2 (v := .int _ _) (u := .int _ _) rfl η η) ?_
 have h9 := trim_some hbeg hend ω ω (hstop.resolve_left ω)
 exact ⟨by rw [h9.1, h9.2], hV⟩
theorem edges_calls {s : Str} {w0 : World} (hs : s.length ≤ 140737488355328) :
    Calls Tryz.prog 109 #[S s] w0 fun e w' => e = .returned (.tuple #[S (leadS s), S (trailS s)]) ∧ Evo w0 w' [] := by
 refine calls_enter (n := 22) Tryz.func109 rfl Tryz.ntmps109 rfl ?_
 have hV : Evo w0 w0 [] := Evo.refl _ _
 refine Zs ?_
 refine Zo asT ?_
 refine Zn asT ?_
 refine Zs ?_
 refine Zo mvT ?_
 refine Zr [S _] rfl η Tryz.func153 (trim_calls ω) ?_
 rintro e w1 ⟨rfl, F1⟩
 refine ⟨_, rfl, ?_⟩
 have Q1 := F1.size
 replace hV := Z0 hV F1
 refine Zo mvU ?_
 refine Zo (run_extract (v := .int _ _) rfl η η) ?_
 refine Zo (run_extract (v := .int _ _) rfl η η) ?_
 refine Zo asI ?_
 refine Zn asI ?_
 refine r_seq ?_
 refine Zs ?_
 refine Zo mvI ?_
 refine Zo mvI ?_
 refine Zn (run_eql rfl η η) ?_
 refine r_cond η (fun hc2 => ?_) (fun hc2 => ?_)
 ·skip
  refine Zs ?_
  refine Zo mvT ?_
  refine Zo mvT ?_
  refine Zo asT ?_
  refine Zn asT ?_
  refine r_ret (res2 (v := S _) (u := S _) rfl η η) ?_
  have h9 := edges_all (trF_eq (s := s) ω)
  exact ⟨by rw [h9.1, h9.2], hV⟩
 refine r_skip ?_
 refine r_seq ?_
 have h8 := trF_ne (s := s) (fun q => hc2 (by rw [q])); have h7 := tBeg_le s; have h6 := tEnd_le s
 have hV_q := hV
 refine h_region ([]) ζ ?_
 intro w3 F4 hC5
 have Q3 := F4.size
 replace hV := Z0 hV F4
 refine Zt (i := 0) η (fun w' hC => mvT) hC5 ?_
 refine Zt (i := 1) η (fun w' hC => mvI) hC5 ?_
 refine Zt (i := 2) η (fun w' hC => by exact run_slS (0) ((trF s)) rfl Tryz.underlying9 η lo0 (at1 η (by first | exact rfl | omega)) (by first | omega | (simp; omega)) (by first | omega | (simp; omega))) hC5 ?_
 refine Zt (i := 3) η (fun w' hC => mvT) hC5 ?_
 refine Zt (i := 4) η (fun w' hC => mvI) hC5 ?_
 refine Zt (i := 5) η (fun w' hC => by exact run_slS ((tEnd s)) (_) rfl Tryz.underlying9 η (at1 η (by first | exact rfl | omega)) hi0 (by first | omega | (simp; omega)) (by first | omega | (simp; omega))) hC5 ?_
 refine Zt (i := 6) η (fun w' hC => asT) hC5 ?_
 refine Zt (i := 7) η (fun w' hC => asT) hC5 ?_
 refine h_done ζ ?_
 refine r_ret (res2 (v := S _) (u := S _) rfl η η) ?_
 exact ⟨by rw [cut_hi, h8]; rfl, hV⟩
theorem last_calls {s : Str} {w0 : World} (hs : s.length ≤ 140737488355328) :
    Calls Tryz.prog 111 #[S s] w0 fun e w' => e = .returned (S (signL s)) ∧ Evo w0 w' [] := by
 refine calls_enter (n := 25) Tryz.func111 rfl Tryz.ntmps111 rfl ?_
 have hV : Evo w0 w0 [] := Evo.refl _ _
 refine Zs ?_
 refine Zn asT ?_
 refine Zs ?_
 refine Zo mvT ?_
 refine Zr [S _] rfl η Tryz.func153 (trim_calls ω) ?_
 rintro e w1 ⟨rfl, F1⟩
 refine ⟨_, rfl, ?_⟩
 have Q1 := F1.size
 replace hV := Z0 hV F1
 refine Zo mvU ?_
 refine Zo (run_extract (v := .int _ _) rfl η η) ?_
 refine Zo (run_extract (v := .int _ _) rfl η η) ?_
 refine Zo asI ?_
 refine Zn asI ?_
 refine r_seq ?_
 refine r_seq ?_
 have h6 := tEnd_le s
 refine r_region ?_
 refine Zo mvI ?_
 refine Zo (run_gtr rfl η η) ?_
 refine Zo mvB ?_
 refine r_g rfl (wantT η) rfl (fun hg => mvT) ?_
 refine r_g rfl (wantT η) rfl (fun hg => mvI) ?_
 refine r_g rfl (wantT η) rfl (fun hg => run_sub rfl (glv η (fun h => h) hg) η ω ω) ?_
 refine r_g rfl (wantT η) rfl (fun hg => run_ixS ((tEnd s - 1)) rfl Tryz.underlying9 (glv η (fun h => h) hg) (glv η (fun h => h) hg) ω ω) ?_
 refine r_gcall rfl (wantT η) rfl (fun hg => run_callf rfl (argcons (v := .int _ _) (glv η (fun h => h) hg) (rfl)) Tryz.func143 rfl ζ) (fun hg => (of_calls ).mono (fun e w' h => ⟨h.1, h.2⟩)) (fun w2 F3 => ?_)
 have Q2 := F3.size
 replace hV := Z0 hV F3
 refine r_g rfl (wantT η) rfl (fun hg => run_eql rfl (glv η (fun h => h) hg) η) ?_
 refine Zn (run_pick_and rfl η (fun hq => glv η (fun h => h) hq) rfl) ?_
 refine r_cond η (fun hc4 => ?_) (fun hc4 => ?_)
 ·skip
  refine Zs ?_
  refine Zo mvT ?_
  refine Zo mvI ?_
  refine Zo (run_sub rfl η η ω ω) ?_
  refine Zo mvI ?_
  refine Zo (by exact run_slS ((tEnd s - 1)) ((tEnd s)) rfl Tryz.underlying9 η (at1 η ω) (at1 η ω) (by first | omega | (simp; omega)) (by first | omega | (simp; omega))) ?_
  refine Zn asT ?_
  refine r_ret (res1 (v := S _) rfl η) ?_
  exact ⟨by rw [← sign_yes ω hc4.2, List.drop_take], hV⟩
 refine r_skip ?_
 refine Zs ?_
 refine Zn asT ?_
 refine r_ret (res1 (v := S _) rfl η) ?_
 exact ⟨by rw [sign_no (by by_cases q : tEnd s = 0; exact .inl q; exact .inr (fun h => hc4 ⟨by omega, h⟩))], hV⟩
end Go.Proofs.YtlfjocbnbceceaaGreatDoor
namespace Go.Proofs
open Go.Shelf
def Tryz.laysM171_ren : Go.Shelf.Ren := ⟨fun | 171 => 152 | 243 => 186 | 246 => 207 | 283 => 221 | 284 => 222 | 285 => 223 | 286 => 224 | 129 => 123 | 317 => 235 | 318 => 236 | 319 => 237 | 320 => 238 | 337 => 251 | 338 => 252 | n => n, fun | 3 => 3 | 9 => 9 | 2 => 2 | 4 => 4 | 171 => 224 | 0 => 0 | 53 => 153 | 37 => 123 | 5 => 5 | 173 => 226 | 212 => 233 | 51 => 151 | 20 => 20 | 213 => 234 | 46 => 105 | 232 => 249 | 233 => 250 | n => n, fun | 17 => 1 | 18 => 4 | 19 => 5 | n => n⟩
theorem Tryz.laysM171 : Go.Proofs.LaysM.n171 Tryz.prog Tryz.laysM171_ren := {
  mixed := by kernel_rfl
  f129 := Tryz.func123.trans (congrArg some (by kernel_rfl))
  f171 := Tryz.func152.trans (congrArg some (by kernel_rfl))
  f243 := Tryz.func186.trans (congrArg some (by kernel_rfl))
  f246 := Tryz.func207.trans (congrArg some (by kernel_rfl))
  f283 := Tryz.func221.trans (congrArg some (by kernel_rfl))
  f284 := Tryz.func222.trans (congrArg some (by kernel_rfl))
  f285 := Tryz.func223.trans (congrArg some (by kernel_rfl))
  f286 := Tryz.func224.trans (congrArg some (by kernel_rfl))
  f317 := Tryz.func235.trans (congrArg some (by kernel_rfl))
  f318 := Tryz.func236.trans (congrArg some (by kernel_rfl))
  f319 := Tryz.func237.trans (congrArg some (by kernel_rfl))
  f320 := Tryz.func238.trans (congrArg some (by kernel_rfl))
  f337 := Tryz.func251.trans (congrArg some (by kernel_rfl))
  f338 := Tryz.func252.trans (congrArg some (by kernel_rfl))
  t0 := Tryz.underlying0
  a0 := Tryz.isAgg0
  z0 := Tryz.sizeOf0
  v0 := Tryz.zeroValue0
  t2 := Tryz.underlying2
  a2 := Tryz.isAgg2
  z2 := Tryz.sizeOf2
  v2 := Tryz.zeroValue2
  t3 := Tryz.underlying3
  a3 := Tryz.isAgg3
  z3 := Tryz.sizeOf3
  v3 := Tryz.zeroValue3
  t4 := Tryz.underlying4
  a4 := Tryz.isAgg4
  z4 := Tryz.sizeOf4
  v4 := Tryz.zeroValue4
  t5 := Tryz.underlying5
  a5 := Tryz.isAgg5
  z5 := Tryz.sizeOf5
  v5 := Tryz.zeroValue5
  t9 := Tryz.underlying9
  a9 := Tryz.isAgg9
  z9 := Tryz.sizeOf9
  v9 := Tryz.zeroValue9
  t20 := Tryz.underlying20
  a20 := Tryz.isAgg20
  z20 := Tryz.sizeOf20
  v20 := Tryz.zeroValue20
  t37 := Tryz.underlying123
  a37 := Tryz.isAgg123
  z37 := Tryz.sizeOf123
  v37 := Tryz.zeroValue123
  t46 := Tryz.underlying105
  a46 := Tryz.isAgg105
  z46 := Tryz.sizeOf105
  v46 := Tryz.zeroValue105
  t51 := Tryz.underlying151
  a51 := Tryz.isAgg151
  z51 := Tryz.sizeOf151
  v51 := Tryz.zeroValue151
  t53 := Tryz.underlying153
  a53 := Tryz.isAgg153
  z53 := Tryz.sizeOf153
  v53 := Tryz.zeroValue153
  t171 := Tryz.underlying224
  a171 := Tryz.isAgg224
  z171 := Tryz.sizeOf224
  v171 := Tryz.zeroValue224
  t173 := Tryz.underlying226
  a173 := Tryz.isAgg226
  z173 := Tryz.sizeOf226
  v173 := Tryz.zeroValue226
  t212 := Tryz.underlying233
  a212 := Tryz.isAgg233
  z212 := Tryz.sizeOf233
  v212 := Tryz.zeroValue233
  t213 := Tryz.underlying234
  a213 := Tryz.isAgg234
  z213 := Tryz.sizeOf234
  t232 := Tryz.underlying249
  a232 := Tryz.isAgg249
  z232 := Tryz.sizeOf249
  v232 := Tryz.zeroValue249
  t233 := Tryz.underlying250
  a233 := Tryz.isAgg250
  z233 := Tryz.sizeOf250
  v233 := Tryz.zeroValue250
  g17 := by kernel_rfl
  g18 := by kernel_rfl
  g19 := by kernel_rfl
  i0 := by kernel_rfl
  i2 := by kernel_rfl
  i3 := by kernel_rfl
  i4 := by kernel_rfl
  i5 := by kernel_rfl
  i9 := by kernel_rfl
  i20 := by kernel_rfl
  i37 := by kernel_rfl
  i46 := by kernel_rfl
  i51 := by kernel_rfl
  i53 := by kernel_rfl
  i171 := by kernel_rfl
  i173 := by kernel_rfl
  i212 := by kernel_rfl
  i232 := by kernel_rfl
  i233 := by kernel_rfl
  m17 := by kernel_rfl
  m18 := by kernel_rfl
  m19 := by kernel_rfl }
open Go.RowKit Go.Sort Go.Lib in
theorem Tryz.strconv_Itoa (n : Int) (h0 : -9223372036854775808 ≤ n) (h1 : n ≤ 9223372036854775807) (w : World) (htab : Lib.TabIs Tryz.prog w "internal/strconv.uint64pow10" .u64 Lib.pow10Tab) :
    Calls Tryz.prog 152 #[.int .i64 n] w fun e w' => e = .returned (.string ⟨(Lib.itoa n).toArray⟩) ∧ ∃ k os, w' = grow (w.drewN k) os := Any.strconv_Itoa Tryz.laysM171 n h0 h1 w htab
end Go.Proofs
namespace Go.Vc
open Go Go.RowKit Go.IntWalk Go.Sort
theorem evo_grow (w : World) (os : Array Obj) : Evo w (grow w os) [] := by
  refine ⟨rfl, rfl, rfl, ?_, fun b hb _ => ?_⟩
  · simp [grow]
  · simp [grow, Array.getElem?_append, hb]
end Go.Vc
namespace Go.Proofs.YtlfjocbnbceceaaGreatDoor
open Go Go.RowKit Go.Vc
theorem decW_dig (n : Nat) : ∀ s : Str, decW n s = Go.Lib.decDigits n ++ s := by
  induction n using Nat.strongRecOn with
  | _ n ih =>
    intro s
    by_cases h : n / 10 = 0
    · rw [decW_stop s h]
      unfold Go.Lib.decDigits
      rw [dif_pos ω, show n % 10 = n by omega]; rfl
    · rw [decW_go s h, ih (n / 10) ω]
      conv => rhs; unfold Go.Lib.decDigits
      rw [dif_neg ω, List.append_assoc]; rfl
theorem decD_eq (n : Nat) : Go.Lib.decDigits n = decW n [] := by rw [decW_dig, List.append_nil]
theorem itoa_decI (n : Int) : Go.Lib.itoa n = decI n := by
  unfold Go.Lib.itoa decI
  by_cases h : n < 0
  · rw [if_pos h, if_neg ω, decD_eq, show n.natAbs = (-n).toNat by omega]
  · rw [if_neg h, if_pos ω, decD_eq]
theorem numbers_calls {ao : Option Addr} {b off cap : Nat} {l : List Vc.Item} {w0 : World} (hl : RowE w0 ao b off cap l) (hz : l.length ≤ 1000000) :
    Calls Tryz.prog 108 #[.slice ao l.length cap] w0 fun e w' => ∃ v, e = .returned v ∧ Evo w0 w' [] ∧ OwnE w' w0.heap.size 9 v (numT l) := by
 refine calls_enter (n := 22) Tryz.func108 rfl Tryz.ntmps108 rfl ?_
 have hV : Evo w0 w0 [] := Evo.refl _ _
 have hl0 := keepE hl
 have hbd_hl := hl.bd
 refine Zs ?_
 refine Zn asS ?_
 refine Zs ?_
 refine Zn asS ?_
 refine r_seq ?_
 refine Zs ?_
 refine Zo mvS ?_
 refine Zo (run_lenSl rfl η Tryz.underlying94) ?_
 refine Zn mvI ?_
 refine r_block ?_
 refine r_loop (α := Nat) [3, 5, 8, 9, 10, 11, 12, 13, 14, 15, 16, 17, 18, 19, 20] (fun k g w => ∃ vo : Value, g 8 = .int .i64 (k : Nat) ∧ g 3 = vo ∧ k ≤ l.length ∧ OwnE w w0.heap.size 9 vo (numT (l.take k)) ∧ w0.heap.size ≤ w.heap.size ∧ Evo w0 w []) (fun k => l.length - k) 0 ?_ ?_
 ·refine ⟨_, σ, rfl, δ, (OwnE.nil _ _ _), δ, hV⟩
 rintro k g w2 ⟨vo, hj3, hj4, hk_k, hoo, hzl1, hV⟩
 have hs_w2hV := hV.size
 replace hl := hl0 _ hV
 refine Zk 8 (v := .int .i64 (k : Nat)) (by exact hj3) ?_
 refine Zk 3 (v := vo) (by exact hj4) ?_
 refine Zs ?_
 refine Zn (run_lss rfl η η) ?_
 refine r_seq ?_
 refine r_cond η (fun hc5 => ?_) (fun hc5 => ?_)
 ·skip
  refine r_skip ?_
  refine r_seq ?_
  refine r_block ?_
  refine r_seq ?_
  have hnl := numT_len (l.take k); have hnk : (l.take k).length ≤ k := List.length_take_le _ _
  refine r_region ?_
  refine Zo (run_ix (k) rfl Tryz.underlying94 ty_96 η η (by first | exact rfl | omega) ω (hl.addr (i := k) ω)) ?_
  have hA60 := fun (w' : World) (h : Evo w0 w' []) => (hl0 w' h).atD (k) ω
  have hA6 := hA60 _ hV
  refine Zo (run_ldN rfl ag_96 ty_96 η rfl hA6) ?_
  have hob7 := fun g hg => (hoo.block (g := g) hg).2
  refine r_var (zs := [_, _, _]) (vs := [_, _, _]) ty_96 η rfl η (fun _ => rfl) η rfl rfl η ?_
  intro b8 w9 J8 E9 B8 Y8
  have Q9 := E9.size
  replace hV := Z0 hV E9
  replace hl := hl0 _ hV
  replace hoo := hoo.evo0 E9
  refine r_nil ?_
  refine Zs ?_
  refine Zo (run_fa rfl η fo_96_0) ?_
  refine Zo (run_ld1 rfl ag_3 η (B8.at.cell 0 η)) ?_
  refine Zn (run_eql rfl η η) ?_
  refine r_cond η (fun hc10 => ?_) (fun hc10 => ?_)
  ·skip
   refine r_region ?_
   refine Zo (run_mv (v := vo) rfl η) ?_
   refine Zo (run_fa rfl η fo_96_1) ?_
   refine Zo (run_ld1 rfl ag_9 η (B8.at.cell 1 η)) ?_
   refine r_append1E (u := S _) (y := _) rfl rfl Tryz.underlying77 ty_9 η hoo (fun _ => η) η (by first | exact rfl | (show _ = List.toArray [_]; first | (dsimp only; done) | exact rfl | (dsimp only; exact rfl))) (ω) (ω) ω ?_
   intro q_v11 v11 w12 E12 hov11 hlv11
   have Q12 := E12.size
   replace hV := evo_stepo hV E12 (fun g hg => .inl (by first | exact (hoo.block hg).1 | (have := hoo.block hg; omega)))
   replace hl := hl0 _ hV
   refine Zn (run_asg (v := v11) rfl η) ?_
   refine r_blk ?_
   refine r_region ?_
   refine Zo (run_add rfl η η ω ω) ?_
   refine Zn mvI ?_
   refine r_again (k + 1) ?_ ?_ ?_
   ·first | omega | (dsimp only; omega)
   ·refine ⟨_, σ, rfl, δ, (by first | (rw [numT_yes ω hc10]; exact hov11) | (rw [numT_no ω hc10]; exact hov11)), δ, hV⟩
   exact ψ
  refine r_skip ?_
  refine r_blk ?_
  refine r_region ?_
  refine Zo (run_add rfl η η ω ω) ?_
  refine Zn mvI ?_
  refine r_again (k + 1) ?_ ?_ ?_
  ·first | omega | (dsimp only; omega)
  ·refine ⟨_, σ, rfl, δ, (by first | (rw [numT_yes ω hc10]; exact hoo) | (rw [numT_no ω hc10]; exact hoo)), δ, hV⟩
  exact ψ
 refine r_exit rfl ?_
 refine Zs ?_
 refine Zo (run_mv (v := vo) rfl η) ?_
 refine Zn (run_asg (v := vo) rfl η) ?_
 refine r_ret (res1 (v := vo) rfl η) ?_
 exact ⟨_, rfl, hV, by rw [List.take_of_length_le ω] at hoo; exact hoo⟩
theorem isw_calls {x : Vc.Item} {w0 : World}  :
    Calls Tryz.prog 60 #[(.agg (Enc.enc x).toArray)] w0 fun e w' => e = .returned (.bool (decide (x.kind = 6))) ∧ Evo w0 w' [] := by
 refine calls_enter (n := 6) Tryz.func60 rfl Tryz.ntmps60 rfl ?_
 have hV : Evo w0 w0 [] := Evo.refl _ _
 refine Zs ?_
 refine r_box (vs := [_, _, _]) η η rfl ?_
 intro b1 w2 J1 E2 B1 Y1
 have Q2 := E2.size
 replace hV := Z0 hV E2
 refine Zn asB ?_
 refine Zs ?_
 refine Zo (run_fa rfl η fo_96_0) ?_
 refine Zo (run_ld1 rfl ag_3 η (B1.at.cell 0 η)) ?_
 refine Zo (run_eql rfl η η) ?_
 refine Zn asB ?_
 refine r_ret (res1 (v := .bool _) rfl η) ?_
 exact ⟨rfl, hV⟩
theorem ixw_calls {ao : Option Addr} {b off cap : Nat} {l : List Vc.Item} {w0 : World} (hl : RowE w0 ao b off cap l) :
    Calls Tryz.prog 104 #[.slice ao l.length cap, .func (.func 60) #[] #[]] w0 fun e w' => ∃ r : Int, e = .returned (.int .i64 r) ∧ Evo w0 w' [] ∧ (0 ≤ r ↔ wordB l = true) := by
 refine calls_enter (n := 19) Tryz.func104 rfl Tryz.ntmps104 rfl ?_
 have hV : Evo w0 w0 [] := Evo.refl _ _
 have hl0 := keepE hl
 have hbd_hl := hl.bd
 refine Zs ?_
 refine Zn asI ?_
 refine r_seq ?_
 refine Zs ?_
 refine Zo mvS ?_
 refine Zo (run_lenSl rfl η Tryz.underlying94) ?_
 refine Zn mvI ?_
 refine r_block ?_
 refine r_loop (α := Nat) [4, 5, 8, 9, 10, 11, 12, 13, 14, 15, 16, 17, 18] (fun k g w => g 8 = .int .i64 (k : Nat) ∧ k ≤ l.length ∧ (∀ j, j < k → ¬ (l.getD j default).kind = 6) ∧ w0.heap.size ≤ w.heap.size ∧ Evo w0 w []) (fun k => l.length - k) 0 ?_ ?_
 ·refine ⟨σ, δ, (fun j h => by omega), δ, hV⟩
 rintro k g w2 ⟨hj3, hk_k, hno, hzl1, hV⟩
 have hs_w2hV := hV.size
 replace hl := hl0 _ hV
 refine Zk 8 (v := .int .i64 (k : Nat)) (by exact hj3) ?_
 refine Zs ?_
 refine Zn (run_lss rfl η η) ?_
 refine r_seq ?_
 refine r_cond η (fun hc4 => ?_) (fun hc4 => ?_)
 ·skip
  refine r_skip ?_
  refine r_seq ?_
  refine r_block ?_
  refine Zs ?_
  refine Zo mvI ?_
  refine Zn asI ?_
  refine Zs ?_
  refine Zo (run_mv (v := .func _ _ _) rfl η) ?_
  refine Zo mvS ?_
  refine Zo mvI ?_
  refine Zo (run_ix (k) rfl Tryz.underlying94 ty_96 η η (by first | exact rfl | omega) ω (hl.addr (i := k) ω)) ?_
  have hA50 := fun (w' : World) (h : Evo w0 w' []) => (hl0 w' h).atD (k) ω
  have hA5 := hA50 _ hV
  refine Zo (run_ldN rfl ag_96 ty_96 η rfl hA5) ?_
  refine r_opcall rfl rfl rfl (run_callfn (vs := [.agg _]) (cs := []) rfl η η Tryz.func60 rfl ζ) (isw_calls ) ?_
  rintro e w6 ⟨rfl, F6⟩
  refine ⟨_, rfl, ?_⟩
  have Q6 := F6.size
  replace hV := Z0 hV F6
  replace hl := hl0 _ hV
  refine r_nil ?_
  refine r_cond η (fun hc7 => ?_) (fun hc7 => ?_)
  ·skip
   refine Zs ?_
   refine Zo mvI ?_
   refine Zn asI ?_
   refine r_ret (res1 (v := .int _ _) rfl η) ?_
   exact ⟨_, rfl, hV, ⟨fun _ => wordB_yes (l := l) ω hc7, fun _ => by omega⟩⟩
  refine r_skip ?_
  refine r_blk ?_
  refine r_region ?_
  refine Zo (run_add rfl η η ω ω) ?_
  refine Zn mvI ?_
  refine r_again (k + 1) ?_ ?_ ?_
  ·first | omega | (dsimp only; omega)
  ·refine ⟨σ, δ, (upto0 hno hc7), δ, hV⟩
  exact ψ
 refine r_exit rfl ?_
 refine Zs ?_
 refine Zn asI ?_
 refine r_ret (res1 (v := .int _ _) rfl η) ?_
 exact ⟨_, rfl, hV, ⟨fun h9 => absurd h9 ω, fun h9 => absurd h9 (by rw [show wordB l = false from wordB_no (fun j hj => hno j ω)]; decide)⟩⟩
theorem ctw_calls {ao : Option Addr} {b off cap : Nat} {l : List Vc.Item} {w0 : World} (hl : RowE w0 ao b off cap l) :
    Calls Tryz.prog 62 #[.slice ao l.length cap, .func (.func 60) #[] #[]] w0 fun e w' => e = .returned (.bool (wordB l)) ∧ Evo w0 w' [] := by
 refine calls_enter (n := 9) Tryz.func62 rfl Tryz.ntmps62 rfl ?_
 have hV : Evo w0 w0 [] := Evo.refl _ _
 have hl0 := keepE hl
 have hbd_hl := hl.bd
 refine Zs ?_
 refine Zn asB ?_
 refine Zs ?_
 refine Zo mvS ?_
 refine Zo (run_mv (v := .func _ _ _) rfl η) ?_
 refine Zr [.slice _ _ _, .func _ _ _] rfl η Tryz.func104 (ixw_calls hl) ?_
 rintro e w1 ⟨r1, rfl, F1, hri1⟩
 refine ⟨_, rfl, ?_⟩
 have Q1 := F1.size
 replace hV := Z0 hV F1
 replace hl := hl0 _ hV
 refine Zo (run_geq rfl η η) ?_
 refine Zn asB ?_
 refine r_ret (res1 (v := .bool _) rfl η) ?_
 exact ⟨ret_bool (by have h9 := hri1; cases h8 : wordB l <;> simp_all), hV⟩
def Tab (w : World) : Prop := Go.Lib.TabIs Tryz.prog w "internal/strconv.uint64pow10" .u64 Go.Lib.pow10Tab
theorem Tab.evo0 {w w' : World} (h : Tab w) (he : Evo w w' []) : Tab w' := by
  unfold Tab Go.Lib.TabIs World.var? at *
  cases hg : Tryz.prog.globalNamed "internal/strconv.uint64pow10" with
  | none => rw [hg] at h; cases h
  | some q =>
    rw [hg] at h
    have h1 : q < w.heap.size := by
      rcases Nat.lt_or_ge q w.heap.size with h2 | h2
      · exact h2
      · simp only [Option.bind_some] at h; rw [Array.getElem?_eq_none h2] at h; cases h
    simp only [Option.bind_some] at *
    rw [he.same q h1 (by simp)]; exact h
theorem itoa_calls {w : World} {n : Int} (h : Tab w) (h0 : -9223372036854775808 ≤ n ∧ n ≤ 9223372036854775807) : Calls Tryz.prog 152 #[.int .i64 n] w fun e w' => e = .returned (S (decI n)) ∧ Evo w w' [] :=
  (Tryz.strconv_Itoa n h0.1 h0.2 w h).mono fun e w' ⟨h1, k, os, h2⟩ => ⟨by rw [h1, itoa_decI]; rfl, by subst h2; exact Evo.trans (Evo.drewN w k []) (evo_grow _ _) (by simp)⟩
theorem ag_39 : aggP Tryz.prog 39 = some true := ζ
theorem fo_39_0 : fieldP Tryz.prog 39 0 = some 0 := ζ
theorem fo_39_1 : fieldP Tryz.prog 39 1 = some 1 := ζ
theorem fo_39_2 : fieldP Tryz.prog 39 2 = some 2 := ζ
theorem ty_39 : tyP Tryz.prog 39 = some (3, 32, some (.agg #[(.int .i64 0), (.string ⟨#[]⟩), (.int .i64 0)])) := ζ
def InR (x : Vc.Item) : Prop := -9223372036854775808 ≤ x.id ∧ x.id ≤ 9223372036854775807
theorem decI_len {n : Int} (h : -9223372036854775808 ≤ n ∧ n ≤ 9223372036854775807) : (decI n).length ≤ 21 := by
  unfold decI; split
  · have := decW_len 18 n.toNat [] ω; simp at this; omega
  · have := decW_len 18 (-n).toNat [] ω; simp at this ⊢; omega
theorem tag_calls {x : Vc.Item} {w0 : World} (htab : Tab w0) (ht : x.text.length ≤ 100000) (hi : InR x) :
    Calls Tryz.prog 107 #[(.agg (Enc.enc x).toArray)] w0 fun e w' => e = .returned (S (writ x)) ∧ Evo w0 w' [] := by
 have hdl := decI_len hi
 refine calls_enter (n := 26) Tryz.func107 rfl Tryz.ntmps107 rfl ?_
 have hV : Evo w0 w0 [] := Evo.refl _ _
 refine Zs ?_
 refine r_box (vs := [_, _, _]) η η rfl ?_
 intro b1 w2 J1 E2 B1 Y1
 have Q2 := E2.size
 replace hV := Z0 hV E2
 refine Zn asT ?_
 refine r_seq ?_
 refine r_qregion ζ ζ ?_
 refine Zq (fun w' hC => run_fa rfl η fo_32_2) ?_
 refine Zq (fun w' hC => run_ld1 rfl ag_3 η ((B1.at.evo0 hC).cell 2 η)) ?_
 refine q_call rfl rfl rfl (fun w' hC => run_callf rfl (argcons (v := .int _ _) η (rfl)) Tryz.func152 rfl ζ) (fun w' hC => (itoa_calls ((htab.evo0 hV).evo0 hC) hi).mono (fun e w'' h => ⟨h.1, evo_step0 hC h.2⟩)) ?_
 refine Zq (fun w' hC => run_sadd rfl η η (by first | omega | (simp; done) | (simp; omega))) ?_
 refine Zq (fun w' hC => run_fa rfl η fo_32_1) ?_
 refine Zq (fun w' hC => run_ld1 rfl ag_9 η ((B1.at.evo0 hC).cell 1 η)) ?_
 refine Zq (fun w' hC => run_sadd rfl η η (by first | omega | (simp; done) | (simp; omega))) ?_
 refine Zq (fun w' hC => asT) ?_
 refine q_nil (fun w3 F4 => ?_)
 have Q3 := F4.size
 replace hV := Z0 hV F4
 replace B1 := B1.evo0 F4
 refine r_seq ?_
 refine Zs ?_
 refine Zo (run_fa rfl η fo_32_0) ?_
 refine Zn (run_ld1 rfl ag_3 η (B1.at.cell 0 η)) ?_
 refine r_block ?_
 refine Zs ?_
 refine Zo (run_eql rfl η η) ?_
 refine Zn asB ?_
 refine r_cond η (fun hc5 => ?_) (fun hc5 => ?_)
 ·skip
  refine Zs ?_
  refine Zo mvT ?_
  refine Zo (run_sadd rfl η η (by first | omega | (simp; done) | (simp; omega))) ?_
  refine Zo (run_sadd rfl η η (by first | omega | (simp; done) | (simp; omega))) ?_
  refine Zn asT ?_
  refine r_ret (res1 (v := S _) rfl η) ?_
  exact ⟨ret_str (by unfold writ; rw [if_pos hc5]; rfl), hV⟩
 refine Zs ?_
 refine Zo (run_eql rfl η η) ?_
 refine Zn asB ?_
 refine r_cond η (fun hc6 => ?_) (fun hc6 => ?_)
 ·skip
  refine Zs ?_
  refine Zo mvT ?_
  refine Zo (run_sadd rfl η η (by first | omega | (simp; done) | (simp; omega))) ?_
  refine Zo (run_sadd rfl η η (by first | omega | (simp; done) | (simp; omega))) ?_
  refine Zn asT ?_
  refine r_ret (res1 (v := S _) rfl η) ?_
  exact ⟨ret_str (by unfold writ; rw [if_neg hc5, if_pos hc6]; rfl), hV⟩
 refine r_skip ?_
 refine r_blk ?_
 refine Zs ?_
 refine Zo mvT ?_
 refine Zo (run_sadd rfl η η (by first | omega | (simp; done) | (simp; omega))) ?_
 refine Zo (run_sadd rfl η η (by first | omega | (simp; done) | (simp; omega))) ?_
 refine Zn asT ?_
 refine r_ret (res1 (v := S _) rfl η) ?_
 exact ⟨ret_str (by unfold writ; rw [if_neg hc5, if_neg hc6]; rfl), hV⟩
theorem fold_addS_len : ∀ (l o : List Str), (l.foldl addS o).length ≤ o.length + l.length
  | [], o => by simp
  | x :: l, o => by
    have h1 := fold_addS_len l (addS o x)
    have h2 := addS_len o x
    rw [List.foldl_cons, List.length_cons]; omega
theorem uniS_len (a b : List Str) : (uniS a b).length ≤ a.length + b.length := by
  have := fold_addS_len (a ++ b) []
  unfold uniS; rw [List.length_append] at this; simpa using this
theorem difS_len (k : Int) (a b : List Str) : (difS k a b).length ≤ a.length + b.length := Nat.le_trans (difs_len _ _ _ _) (uniS_len a b)
section
variable {α : Type} [DecidableEq α] [Inhabited α]
end
theorem dist_len {α : Type} [DecidableEq α] (l : List α) : (dist l).length ≤ l.length := by
  have h : ∀ (l o : List α), (l.foldl (fun acc x => if x ∈ acc then acc else acc ++ [x]) o).length ≤ o.length + l.length := by
    intro l
    induction l with
    | nil => intro o; simp
    | cons x l ih =>
      intro o
      rw [List.foldl_cons, List.length_cons]
      refine Nat.le_trans (ih _) ?_
      split
      · omega
      · rw [List.length_append, List.length_singleton]; omega
  have := h l []
  simpa [dist] using this
theorem mul_bd {a b : Int} (h0 : 0 ≤ a) (h1 : a ≤ 10000) (h2 : 0 ≤ b) (h3 : b ≤ 101000) : 0 ≤ a * b ∧ a * b ≤ 1010000000 :=
  ⟨Int.mul_nonneg h0 h2, Int.le_trans (Int.mul_le_mul h1 h3 h2 (by decide)) (by decide)⟩
theorem dblP_yes {t : Str} {k : Nat} (hk : k < t.length) (h : [32, 32] <+: t.drop k) : dblK t (k + 1) = dblK t k + 1 := by
  rw [dblK_succ, if_pos]
  obtain ⟨r, hr⟩ := h
  have e1 : t[k]? = some 32 := by have := congrArg (fun z => z[0]?) hr; simpa using this.symm
  have e2 : t[k + 1]? = some 32 := by have := congrArg (fun z => z[1]?) hr; simpa [List.getElem?_drop] using this.symm
  exact decide_eq_true ⟨by rw [List.getD_eq_getElem?_getD, e1]; rfl, by rw [List.getD_eq_getElem?_getD, e2]; rfl⟩
theorem dblP_no {t : Str} {k : Nat} (hk : k < t.length) (h : ¬ [32, 32] <+: t.drop k) : dblK t (k + 1) = dblK t k := by
  rw [dblK_succ, if_neg]
  · rfl
  · intro q
    have q := of_decide_eq_true q
    refine h ?_
    have h2 : k + 1 < t.length := by
      rcases Nat.lt_or_ge (k + 1) t.length with h3 | h3
      · exact h3
      · have := q.2; rw [List.getD_eq_getElem?_getD, List.getElem?_eq_none h3] at this; exact absurd this (by decide)
    have e1 : t[k] = 32 := by have := q.1; rwa [List.getD_eq_getElem?_getD, List.getElem?_eq_getElem hk] at this
    have e2 : t[k + 1] = 32 := by have := q.2; rwa [List.getD_eq_getElem?_getD, List.getElem?_eq_getElem h2] at this
    rw [List.drop_eq_getElem_cons hk, List.drop_eq_getElem_cons h2, e1, e2]
    exact ⟨_, rfl⟩
set_option maxHeartbeats 1000000 in
theorem phrase_make {T bs : Nat} {ao : Option Addr} {b off cap : Nat} {l : List Int} {N : Nat} {w0 : World} (hb : Blk w0 bs T [.slice ao l.length cap, .int .i64 (N : Nat)]) (hl : ∀ w', Evo w0 w' [bs] → RowE w' ao b off cap l) (hN : N ≤ 999990) :
    Calls Tryz.prog 73 #[.pointer (some ⟨bs, 0, none⟩)] w0 fun e w' => ∃ s N', e = .returned (S s) ∧ MadePh s ∧ (N ≤ N' ∧ N' ≤ N + 4) ∧ Evo w0 w' [bs] ∧ Blk w' bs T [.slice ao l.length cap, .int .i64 (N' : Nat)] := by
 have hAs := hb.at; have hbslt := hb.lt
 refine calls_enter (n := 23) Tryz.func73 rfl Tryz.ntmps73 rfl ?_
 have hV : Evo w0 w0 [bs] := Evo.refl _ _
 have hl0 := hl
 replace hl := hl0 _ hV
 have hbd_hl := hl.bd
 refine Zs ?_
 refine Zn asT ?_
 refine Zs ?_
 refine Zn asT ?_
 refine r_seq ?_
 refine Zs ?_
 refine Zo mvP ?_
 refine Zr [.pointer _, .int _ _] rfl η Tryz.func38 (nx_calls hb hl ω ω ω) ?_
 rintro e w1 ⟨nx1, rfl, hx1, F1, hn1⟩
 refine ⟨_, rfl, ?_⟩
 have Q1 := F1.size
 replace hV := Z1 hV F1 (.inr (by simp))
 replace hl := hl0 _ hV
 replace hb := hn1
 clear hn1
 have hAs := hb.at
 refine Zn asI ?_
 refine r_block ?_
 refine r_loop (α := Nat) [3, 4, 7, 8, 9, 10, 11, 12, 13, 14, 15, 16, 17, 18, 19, 20, 21] (fun ii g w => ∃ o : Str, ∃ N1 : Nat, g 4 = .int .i64 ((ii : Nat) - 1 : Int) ∧ g 3 = S o ∧ Blk w bs T [.slice ao l.length cap, .int .i64 (N1 : Nat)] ∧ At w bs 0 [.slice ao l.length cap, .int .i64 (N1 : Nat)] ∧ PhR (nx1.toNat + 1) ii o ∧ (N1 + ii = N + 1 + (nx1.toNat + 1)) ∧ w1.heap.size ≤ w.heap.size ∧ Evo w0 w [bs]) (fun ii => ii) (nx1.toNat + 1) ?_ ?_
 ·refine ⟨[], _, (congrArg (Value.int _) ω), rfl, hb, hb.at, (PhR.nil _), ω, δ, hV⟩
 rintro ii g w3 ⟨o, N1, hj4, hj5, hb, hAs, hph, hN1, hzl2, hV⟩
 have hs_w3hV := hV.size
 have hlt6 := hb.lt
 refine Zk 4 (v := .int .i64 ((ii : Nat) - 1 : Int)) (by exact hj4) ?_
 refine Zk 3 (v := S o) (by exact hj5) ?_
 refine r_seq ?_
 refine Zs ?_
 refine Zo mvI ?_
 refine Zn (run_geq rfl η η) ?_
 refine r_cond η (fun hc7 => ?_) (fun hc7 => ?_)
 ·skip
  refine r_skip ?_
  refine r_seq ?_
  refine r_block ?_
  refine r_seq ?_
  refine r_seq ?_
  have hpl := hph.len
  refine r_region ?_
  refine Zo mvT ?_
  refine Zn (run_sneq rfl η η) ?_
  refine r_cond η (fun hc8 => ?_) (fun hc8 => ?_)
  ·skip
   refine r_region ?_
   refine Zo mvT ?_
   refine Zo (run_sadd rfl η η (by first | omega | (simp; done) | (simp; omega))) ?_
   refine Zn asT ?_
   refine r_region ?_
   refine Zo mvT ?_
   refine r_bslice (pv := [(0, S _), (1, S _), (2, S _), (3, S _), (4, S _), (5, S _), (6, S _), (7, S _)]) (zs := [_]) (cs := [_, _, _, _, _, _, _, _]) Tryz.underlying77 ty_9 η rfl η rfl η ?_
   intro b9 w10 J9 E10 B9 Y9
   have Q10 := E10.size
   replace hV := Z0 hV E10
   replace hl := hl0 _ hV
   replace hb := hb.evo0 E10
   replace hAs := hAs.evo0 E10
   have hrb9 : RowE w10 (some ⟨b9, 0, none⟩) b9 0 8 phrW := rowLit phrW B9 rfl rfl
   refine Zo mvP ?_
   refine Zr [.pointer _, .int _ _] rfl η Tryz.func38 (nx_calls hb hl ω ω ω) ?_
   rintro e w11 ⟨nx11, rfl, hx11, F11, hn11⟩
   refine ⟨_, rfl, ?_⟩
   have Q11 := F11.size
   replace hV := Z1 hV F11 (.inr (by simp))
   replace hl := hl0 _ hV
   replace hrb9 := hrb9.evo F11 θ
   replace hb := hn11
   clear hn11
   have hAs := hb.at
   have hwl9 := (phr_len (phrD_in (k := nx11.toNat) ω)).2; have hwl8 := hwl9; rw [List.getD_eq_getElem?_getD] at hwl8
   refine Zo (run_ix (nx11.toNat) rfl Tryz.underlying77 ty_9 η η ω (by show _ < 8; omega) (hrb9.addr (i := nx11.toNat) (by show _ < 8; omega))) ?_
   have hA12 := hrb9.atD (nx11.toNat) (by show _ < 8; omega)
   refine Zo (run_ld1 rfl ag_9 η (hA12.cell 0 η)) ?_
   refine Zo (run_sadd rfl η η (by first | omega | (simp; done) | (simp; omega))) ?_
   refine Zn asT ?_
   refine r_blk ?_
   refine r_region ?_
   refine Zo mvI ?_
   refine Zo (run_sub rfl η η ω ω) ?_
   refine Zn asI ?_
   refine r_again (ii - 1) ?_ ?_ ?_
   ·first | omega | (dsimp only; omega)
   ·refine ⟨_, _, (congrArg (Value.int _) ω), rfl, hb, hb.at, (by obtain ⟨i9, hi9⟩ : ∃ z, ii = z + 1 := ⟨ii - 1, by omega⟩; subst hi9; first | exact hph.more1 (phrD_in ω) hc8 | exact hph.more2 (phrD_in ω) (Classical.not_not.1 hc8)), ω, δ, hV⟩
   exact ψ
  refine r_skip ?_
  refine r_region ?_
  refine Zo mvT ?_
  refine r_bslice (pv := [(0, S _), (1, S _), (2, S _), (3, S _), (4, S _), (5, S _), (6, S _), (7, S _)]) (zs := [_]) (cs := [_, _, _, _, _, _, _, _]) Tryz.underlying77 ty_9 η rfl η rfl η ?_
  intro b13 w14 J13 E14 B13 Y13
  have Q14 := E14.size
  replace hV := Z0 hV E14
  replace hl := hl0 _ hV
  replace hb := hb.evo0 E14
  replace hAs := hAs.evo0 E14
  have hrb13 : RowE w14 (some ⟨b13, 0, none⟩) b13 0 8 phrW := rowLit phrW B13 rfl rfl
  refine Zo mvP ?_
  refine Zr [.pointer _, .int _ _] rfl η Tryz.func38 (nx_calls hb hl ω ω ω) ?_
  rintro e w15 ⟨nx15, rfl, hx15, F15, hn15⟩
  refine ⟨_, rfl, ?_⟩
  have Q15 := F15.size
  replace hV := Z1 hV F15 (.inr (by simp))
  replace hl := hl0 _ hV
  replace hrb13 := hrb13.evo F15 θ
  replace hb := hn15
  clear hn15
  have hAs := hb.at
  have hwl9 := (phr_len (phrD_in (k := nx15.toNat) ω)).2; have hwl8 := hwl9; rw [List.getD_eq_getElem?_getD] at hwl8
  refine Zo (run_ix (nx15.toNat) rfl Tryz.underlying77 ty_9 η η ω (by show _ < 8; omega) (hrb13.addr (i := nx15.toNat) (by show _ < 8; omega))) ?_
  have hA16 := hrb13.atD (nx15.toNat) (by show _ < 8; omega)
  refine Zo (run_ld1 rfl ag_9 η (hA16.cell 0 η)) ?_
  refine Zo (run_sadd rfl η η (by first | omega | (simp; done) | (simp; omega))) ?_
  refine Zn asT ?_
  refine r_blk ?_
  refine r_region ?_
  refine Zo mvI ?_
  refine Zo (run_sub rfl η η ω ω) ?_
  refine Zn asI ?_
  refine r_again (ii - 1) ?_ ?_ ?_
  ·first | omega | (dsimp only; omega)
  ·refine ⟨_, _, (congrArg (Value.int _) ω), rfl, hb, hb.at, (by obtain ⟨i9, hi9⟩ : ∃ z, ii = z + 1 := ⟨ii - 1, by omega⟩; subst hi9; first | exact hph.more1 (phrD_in ω) hc8 | exact hph.more2 (phrD_in ω) (Classical.not_not.1 hc8)), ω, δ, hV⟩
  exact ψ
 refine r_exit rfl ?_
 refine Zs ?_
 refine Zo mvT ?_
 refine Zn asT ?_
 refine r_ret (res1 (v := S _) rfl η) ?_
 exact ⟨o, N1, rfl, PhR.made (by rw [show ii = 0 by omega] at hph; exact hph) ω ω, by omega, hV, hb⟩
theorem pl_88 : placesP Tryz.prog 88 = some [(0, 1), (1, 1)] := ζ
theorem ty_83 : tyP Tryz.prog 83 = some (1, 24, some (.slice none 0 0)) := ζ
theorem term_rep {w : World} {Y : List Nat} {ao1 ao2 ao3 : Option Addr} {g1 g2 g3 c1 c2 c3 : Nat} (x : TermL) (h1 : RowE w ao1 g1 0 c1 x.words) (n1 : x.words ≠ [] → g1 ∉ Y) (h2 : RowE w ao2 g2 0 c2 x.req) (n2 : x.req ≠ [] → g2 ∉ Y) (h3 : RowE w ao3 g3 0 c3 x.forb) (n3 : x.forb ≠ [] → g3 ∉ Y) (hb : x.words.length ≤ 4398046510976 ∧ ∀ y ∈ x.words, BdE y) :
    ∀ w', Evo w w' Y → Rep.rep w' [.slice ao1 x.words.length c1, .slice ao2 x.req.length c2, .slice ao3 x.forb.length c3] x := fun w' he => ⟨⟨_, _, _, _, _, _, _, _, _, _, _, _, rfl, row_keep h1 he n1, row_keep h2 he n2, row_keep h3 he n3⟩, hb⟩
theorem nm_get {c : List Clas} (h : ∀ x ∈ c, x.name.length ≤ 1000) {k : Nat} (hk : k < c.length) : (c.getD k default).name.length ≤ 1000 := h _ (getD_in hk)
end Go.Proofs.YtlfjocbnbceceaaGreatDoor
namespace Go.Vc
open Go Go.RowKit
theorem OwnR.rowK {α : Type} [Rep α] {w : World} {base : Nat} {E : TypeId} {Y : List Nat} {v : Value} {l : List α} (h : OwnR w base E Y v l) (hY : ∀ y ∈ Y, y < base) : ∃ ao g cap, v = .slice ao l.length cap ∧ RowRK w Y ao g 0 cap l := by
  obtain ⟨css, h1, h2⟩ := h
  have h3 := h2 w (Evo.refl _ _)
  obtain ⟨ao, g, cap, hv, hr, hg⟩ := h1.rowOf
  refine ⟨ao, g, cap, by rw [← h3.1]; exact hv, css, fun w' he => ⟨?_, h2 w' (he.mono (fun x hx => List.mem_append.2 (.inl hx)))⟩⟩
  by_cases hc : css = []
  · subst hc; exact ⟨hr.1, by simp, by simp⟩
  · exact hr.evo he (fun hm => by have := hY g hm; have := (hg hc).2; omega)
end Go.Vc
namespace Go.Proofs.YtlfjocbnbceceaaGreatDoor
open Go.RowKit Go.Vc
theorem made_names {cl : List Clas} {m : Nat} (h : MadeP cl m 0) (hm : m ≤ 9) : ∀ x ∈ cl, x.name.length ≤ 1000 := fun x hx => by
  obtain ⟨k, hk, rfl⟩ := List.mem_iff_getElem.1 hx
  rw [h.2.1 k hk]
  have := decW_len 0 (m - k) [] ω
  simp at this ⊢; omega
theorem pl_128 : placesP Tryz.prog 128 = some [(0, 1), (1, 1)] := ζ
theorem ty_128 : tyP Tryz.prog 128 = some (2, 48, some (.agg #[(.slice none 0 0), (.slice none 0 0)])) := ζ
set_option maxHeartbeats 1000000 in
theorem checked_calls {aox : Option Addr} {bx offx capx : Nat} {aoq : Option Addr} {bq offq capq : Nat} {aof : Option Addr} {bf offf capf : Nat} {x : TermL} {ao : Option Addr} {b off cap : Nat} {c : List Clas} {w0 : World} (hw : RowE w0 aox bx offx capx x.words) (hq : RowE w0 aoq bq offq capq x.req) (hf : RowE w0 aof bf offf capf x.forb) (hc : RowR w0 ao b off cap c) :
    Calls Tryz.prog 54 #[.agg #[.slice aox x.words.length capx, .slice aoq x.req.length capq, .slice aof x.forb.length capf], .slice ao c.length cap] w0 fun e w' => e = .returned (.int .i64 (termE c x)) ∧ Evo w0 w' [] := by
 refine calls_enter (n := 75) Tryz.func54 rfl Tryz.ntmps54 rfl ?_
 have hV : Evo w0 w0 [] := Evo.refl _ _
 have hw0 := keepE hw
 have hbd_hw := hw.bd
 have hq0 := keepE hq
 have hbd_hq := hq.bd
 have hf0 := keepE hf
 have hbd_hf := hf.bd
 have hc0 := hc.keep
 have hbd_hc := hc.bd
 refine Zs ?_
 refine r_box (vs := [_, _, _]) η η rfl ?_
 intro b1 w2 J1 E2 B1 Y1
 have Q2 := E2.size
 replace hV := Z0 hV E2
 replace hw := hw0 _ hV
 replace hq := hq0 _ hV
 replace hf := hf0 _ hV
 replace hc := hc0.now hV
 have hAb1 := B1.at
 refine Zn asI ?_
 refine r_seq ?_
 refine Zs ?_
 refine Zo (run_fa rfl η fo_85_0) ?_
 refine Zo (run_ld1 rfl ag_83 η (hAb1.cell 0 η)) ?_
 refine Zo (run_lenSl rfl η Tryz.underlying83) ?_
 refine Zo (run_eql rfl η η) ?_
 refine Zo mvB ?_
 refine r_g rfl (wantF η) rfl (fun hg => run_fa rfl η fo_85_0) ?_
 refine r_g rfl (wantF η) rfl (fun hg => run_ld1 rfl ag_83 (glv η (fun h => h) hg) (hAb1.cell 0 η)) ?_
 refine r_g rfl (wantF η) rfl (fun hg => run_lenSl rfl (glv η (fun h => h) hg) Tryz.underlying83) ?_
 refine r_g rfl (wantF η) rfl (fun hg => run_gtr rfl (glv η (fun h => h) hg) η) ?_
 refine Zo (run_pick_or rfl η rfl (fun hq => glv η (fun h => h) hq)) ?_
 refine Zo mvB ?_
 refine r_g rfl (wantF η) rfl (fun hg => run_fa rfl η fo_85_1) ?_
 refine r_g rfl (wantF η) rfl (fun hg => run_ld1 rfl ag_77 (glv η (fun h => h) hg) (hAb1.cell 1 η)) ?_
 refine r_g rfl (wantF η) rfl (fun hg => run_lenSl rfl (glv η (fun h => h) hg) Tryz.underlying77) ?_
 refine r_g rfl (wantF η) rfl (fun hg => run_gtr rfl (glv η (fun h => h) hg) η) ?_
 refine Zo (run_pick_or rfl η rfl (fun hq => glv η (fun h => h) hq)) ?_
 refine Zo mvB ?_
 refine r_g rfl (wantF η) rfl (fun hg => run_fa rfl η fo_85_2) ?_
 refine r_g rfl (wantF η) rfl (fun hg => run_ld1 rfl ag_77 (glv η (fun h => h) hg) (hAb1.cell 2 η)) ?_
 refine r_g rfl (wantF η) rfl (fun hg => run_lenSl rfl (glv η (fun h => h) hg) Tryz.underlying77) ?_
 refine r_g rfl (wantF η) rfl (fun hg => run_gtr rfl (glv η (fun h => h) hg) η) ?_
 refine Zn (run_pick_or rfl η rfl (fun hq => glv η (fun h => h) hq)) ?_
 refine r_cond η (fun hc3 => ?_) (fun hc3 => ?_)
 ·skip
  refine Zs ?_
  refine Zn asI ?_
  refine r_ret (res1 (v := .int _ _) rfl η) ?_
  exact ⟨ret_int (termE_lim (limT_z hc3)).symm, hV⟩
 refine r_skip ?_
 refine r_seq ?_
 refine Zs ?_
 refine Zo (run_fa rfl η fo_85_0) ?_
 refine Zo (run_ld1 rfl ag_83 η (hAb1.cell 0 η)) ?_
 refine Zo (run_lenSl rfl η Tryz.underlying83) ?_
 refine Zn mvI ?_
 refine r_block ?_
 have hnl : ¬ limT x := limT_n hc3
 refine r_loop (α := Nat) [4, 6, 36, 37, 38, 39, 40, 41, 42, 43, 44, 45, 46, 47, 48, 49, 50, 51, 52, 53, 54] (fun k g w => g 36 = .int .i64 (k : Nat) ∧ k ≤ x.words.length ∧ Blk w b1 85 [.slice aox x.words.length capx, .slice aoq x.req.length capq, .slice aof x.forb.length capf] ∧ At w b1 0 [.slice aox x.words.length capx, .slice aoq x.req.length capq, .slice aof x.forb.length capf] ∧ (∀ j, j < k → wordE c (x.words.getD j default) = 0) ∧ w2.heap.size ≤ w.heap.size ∧ Evo w0 w []) (fun k => x.words.length - k) 0 ?_ ?_
 ·refine ⟨σ, δ, B1, B1.at, (fun j h => by omega), δ, hV⟩
 rintro k g w5 ⟨hj6, hk_k, B1, hAb1, hnw, hzl4, hV⟩
 have hs_w5hV := hV.size
 have hlt7 := B1.lt
 replace hw := hw0 _ hV
 replace hq := hq0 _ hV
 replace hf := hf0 _ hV
 replace hc := hc0.now hV
 refine Zk 36 (v := .int .i64 (k : Nat)) (by exact hj6) ?_
 refine Zs ?_
 refine Zn (run_lss rfl η η) ?_
 refine r_seq ?_
 refine r_cond η (fun hc8 => ?_) (fun hc8 => ?_)
 ·skip
  refine r_skip ?_
  refine r_seq ?_
  refine r_block ?_
  refine Zs ?_
  refine Zo (run_ix (k) rfl Tryz.underlying83 ty_88 η η (by first | exact rfl | omega) ω (hw.addr (i := k) ω)) ?_
  have hA90 := fun (w' : World) (h : Evo w0 w' []) => (hw0 w' h).atD (k) ω
  have hA9 := hA90 _ hV
  refine Zo (run_ldN rfl ag_88 ty_88 η rfl hA9) ?_
  refine r_var (zs := [_, _]) (vs := [_, _]) ty_88 η rfl η (fun _ => rfl) η rfl rfl η ?_
  intro b10 w11 J10 E11 B10 Y10
  have Q11 := E11.size
  replace hV := Z0 hV E11
  replace B1 := B1.evo0 E11
  replace hAb1 := hAb1.evo0 E11
  refine r_nil ?_
  refine r_seq ?_
  refine Zs ?_
  refine Zo (run_fa rfl η fo_88_0) ?_
  refine Zo (run_ld1 rfl ag_9 η (B10.at.cell 0 η)) ?_
  refine Zr [S _] rfl η Tryz.func96 (tplain_calls ) ?_
  rintro e w12 ⟨rfl, F12⟩
  refine ⟨_, rfl, ?_⟩
  have Q12 := F12.size
  replace hV := Z0 hV F12
  replace hc := hc0.now hV
  replace B1 := B1.evo0 F12
  replace hAb1 := hAb1.evo0 F12
  replace B10 := B10.evo0 F12
  refine Zn (run_not rfl η) ?_
  refine r_cond η (fun hc13 => ?_) (fun hc13 => ?_)
  ·skip
   refine Zs ?_
   refine Zn asI ?_
   refine r_ret (res1 (v := .int _ _) rfl η) ?_
   exact ⟨ret_int (termE_word hnl ω hnw (wordE_1 (by have h9 := hc13; simpa using h9)) (by decide)).symm, hV⟩
  refine r_skip ?_
  refine r_seq ?_
  have hpl : plainP (x.words.getD k default).strip := by have h9 := hc13; simpa using h9
  refine r_region ?_
  refine Zo (run_fa rfl η fo_88_1) ?_
  refine Zo (run_ld1 rfl ag_9 η (B10.at.cell 1 η)) ?_
  refine Zo (run_sneq rfl η η) ?_
  refine Zo mvB ?_
  refine r_g rfl (wantT η) rfl (fun hg => mvS) ?_
  refine r_g rfl (wantT η) rfl (fun hg => run_fa rfl η fo_88_1) ?_
  refine r_g rfl (wantT η) rfl (fun hg => run_ld1 rfl ag_9 (glv η (fun h => h) hg) (B10.at.cell 1 η)) ?_
  refine r_gcall rfl (wantT η) rfl (fun hg => run_callf rfl (argcons (v := .slice _ _ _) (glv η (fun h => h) hg) (argcons (v := S _) (glv η (fun h => h) hg) (rfl))) Tryz.func97 rfl ζ) (fun hg => (find_calls hc).mono (fun e w' h => ⟨h.1, h.2⟩)) (fun w14 F15 => ?_)
  have Q14 := F15.size
  replace hV := Z0 hV F15
  replace hw := hw0 _ hV
  replace hq := hq0 _ hV
  replace hf := hf0 _ hV
  replace hc := hc0.now hV
  replace B1 := B1.evo0 F15
  replace hAb1 := hAb1.evo0 F15
  refine r_g rfl (wantT η) rfl (fun hg => run_lss rfl (glv η (fun h => h) hg) η) ?_
  refine Zn (run_pick_and rfl η (fun hq => glv η (fun h => h) hq) rfl) ?_
  refine r_cond η (fun hc16 => ?_) (fun hc16 => ?_)
  ·skip
   refine Zs ?_
   refine Zn asI ?_
   refine r_ret (res1 (v := .int _ _) rfl η) ?_
   exact ⟨ret_int (termE_word hnl ω hnw (wordE_4 hpl hc16) (by decide)).symm, hV⟩
  refine r_skip ?_
  refine r_blk ?_
  refine r_region ?_
  refine Zo (run_add rfl η η ω ω) ?_
  refine Zn mvI ?_
  refine r_again (k + 1) ?_ ?_ ?_
  ·first | omega | (dsimp only; omega)
  ·refine ⟨σ, δ, B1, B1.at, (upto0 hnw (wordE_0 hpl hc16)), δ, hV⟩
  exact ψ
 refine r_exit rfl ?_
 refine r_seq ?_
 refine Zs ?_
 refine Zo (run_fa rfl η fo_85_1) ?_
 refine Zo (run_ld1 rfl ag_77 η (hAb1.cell 1 η)) ?_
 refine Zo (run_fa rfl η fo_85_2) ?_
 refine Zo (run_ld1 rfl ag_77 η (hAb1.cell 2 η)) ?_
 refine Zo (run_bld (pv := [(0, .slice aoq x.req.length capq), (1, .slice aof x.forb.length capf)]) (zs := [_, _]) (cells := [_, _]) rfl ty_128 η pl_128 η η) ?_
 refine Zn mvI ?_
 refine r_block ?_
 have hnw2 : ∀ j, j < x.words.length → wordE c (x.words.getD j default) = 0 := fun j hj => hnw j ω
 refine r_loop (α := Nat) [4, 8, 10, 60, 61, 62, 63, 64, 65, 66, 67, 68, 69, 70, 71, 72, 73, 74] (fun i g w => g 60 = .int .i64 (i : Nat) ∧ i ≤ 2 ∧ (∀ j, j < i → firstM phrE (([x.req, x.forb] : List (List Str)).getD j default) = 0) ∧ w5.heap.size ≤ w.heap.size ∧ Evo w0 w []) (fun i => 2 - i) 0 ?_ ?_
 ·refine ⟨σ, δ, (fun j h => by omega), δ, hV⟩
 rintro i g w18 ⟨hj19, hk_i, hno, hzl17, hV⟩
 have hs_w18hV := hV.size
 replace hw := hw0 _ hV
 replace hq := hq0 _ hV
 replace hf := hf0 _ hV
 replace hc := hc0.now hV
 refine Zk 60 (v := .int .i64 (i : Nat)) (by exact hj19) ?_
 refine Zs ?_
 refine Zn (run_lss rfl η η) ?_
 refine r_seq ?_
 refine r_cond η (fun hc20 => ?_) (fun hc20 => ?_)
 ·skip
  refine r_skip ?_
  refine r_seq ?_
  refine r_block ?_
  refine r_seq ?_
  obtain ⟨aoL, bL, offL, capL, hvL, hL0⟩ : ∃ ao9 b9 off9 cap9, ([.slice aoq x.req.length capq, .slice aof x.forb.length capf] : List Value)[i]? = some (.slice ao9 (([x.req, x.forb] : List (List Str)).getD i default).length cap9) ∧ ∀ w9, Evo w0 w9 [] → RowE w9 ao9 b9 off9 cap9 (([x.req, x.forb] : List (List Str)).getD i default) := by
    rcases (show i = 0 ∨ i = 1 by omega) with rfl | rfl
    · exact ⟨_, _, _, _, rfl, hq0⟩
    · exact ⟨_, _, _, _, rfl, hf0⟩
  have hL := hL0 _ hV; have hbd_hL := hL.bd
  refine r_region ?_
  refine Zo (run_ixA1 (v := .slice aoL (([x.req, x.forb] : List (List Str)).getD i default).length capL) (i) rfl Tryz.underlying128 ty_77 ag_77 η η (by first | exact rfl | omega) ω (by exact hvL)) ?_
  refine Zn (run_asg (v := .slice aoL (([x.req, x.forb] : List (List Str)).getD i default).length capL) rfl η) ?_
  refine Zs ?_
  refine Zo (run_mv (v := .slice aoL (([x.req, x.forb] : List (List Str)).getD i default).length capL) rfl η) ?_
  refine Zo (run_lenSl rfl η Tryz.underlying77) ?_
  refine Zn mvI ?_
  refine r_block ?_
  refine r_loop (α := Nat) [4, 10, 65, 66, 67, 68, 69, 70, 71, 72, 73] (fun k g w => g 65 = .int .i64 (k : Nat) ∧ k ≤ (([x.req, x.forb] : List (List Str)).getD i default).length ∧ (∀ j, j < k → phrE ((([x.req, x.forb] : List (List Str)).getD i default).getD j default) = 0) ∧ w18.heap.size ≤ w.heap.size ∧ Evo w0 w []) (fun k => (([x.req, x.forb] : List (List Str)).getD i default).length - k) 0 ?_ ?_
  ·refine ⟨σ, δ, (fun j h => by omega), δ, hV⟩
  rintro k g w22 ⟨hj23, hk_k, hnp, hzl21, hV⟩
  have hs_w22hV := hV.size
  replace hw := hw0 _ hV
  replace hq := hq0 _ hV
  replace hf := hf0 _ hV
  replace hc := hc0.now hV
  replace hL := hL0 _ hV
  refine Zk 65 (v := .int .i64 (k : Nat)) (by exact hj23) ?_
  refine Zs ?_
  refine Zn (run_lss rfl η η) ?_
  refine r_seq ?_
  refine r_cond η (fun hc24 => ?_) (fun hc24 => ?_)
  ·skip
   refine r_skip ?_
   refine r_seq ?_
   refine r_block ?_
   refine Zs ?_
   refine Zo (run_ix (k) rfl Tryz.underlying77 ty_9 η η (by first | exact rfl | omega) ω (hL.addr (i := k) ω)) ?_
   have hA250 := fun (w' : World) (h : Evo w0 w' []) => (hL0 w' h).atD (k) ω
   have hA25 := hA250 _ hV
   refine Zo (run_ld1 rfl ag_9 η (hA25.cell 0 η)) ?_
   refine Zn asT ?_
   refine Zs ?_
   refine Zo mvT ?_
   refine Zr [S _] rfl η Tryz.func98 twords_calls ?_
   rintro e w26 ⟨ao26, bs26, off26, cap26, rfl, F26, hr26⟩
   refine ⟨_, rfl, ?_⟩
   have Q26 := F26.size
   replace hV := Z0 hV F26
   replace hw := hw0 _ hV
   replace hq := hq0 _ hV
   replace hf := hf0 _ hV
   replace hc := hc0.now hV
   replace hL := hL0 _ hV
   refine Zo (run_lenSl rfl η Tryz.underlying77) ?_
   refine Zn (run_eql rfl η η) ?_
   refine r_cond η (fun hc27 => ?_) (fun hc27 => ?_)
   ·skip
    refine Zs ?_
    refine Zn asI ?_
    refine r_ret (res1 (v := .int _ _) rfl η) ?_
    exact ⟨ret_int (termE_phr hnl hnw2 ω hno ω hnp (words_zero.1 hc27)).symm, hV⟩
   refine r_skip ?_
   refine r_blk ?_
   refine r_region ?_
   refine Zo (run_add rfl η η ω ω) ?_
   refine Zn mvI ?_
   refine r_again (k + 1) ?_ ?_ ?_
   ·first | omega | (dsimp only; omega)
   ·refine ⟨σ, δ, (upto0 hnp (phrE_0 (Classical.not_not.1 (fun q => hc27 (words_zero.2 q))))), δ, hV⟩
   exact ψ
  refine r_exit rfl ?_
  refine r_blk ?_
  refine r_region ?_
  refine Zo (run_add rfl η η ω ω) ?_
  refine Zn mvI ?_
  refine r_again (i + 1) ?_ ?_ ?_
  ·first | omega | (dsimp only; omega)
  ·refine ⟨σ, δ, (upto0 hno (firstM_ok (fun j hj => hnp j ω))), δ, hV⟩
  exact ψ
 refine r_exit rfl ?_
 refine Zs ?_
 refine Zn asI ?_
 refine r_ret (res1 (v := .int _ _) rfl η) ?_
 exact ⟨ret_int (termE_ok hnl hnw2 (fun j hj => hno j ω)).symm, hV⟩
set_option maxHeartbeats 1000000 in
theorem tvalidate_calls {aot : Option Addr} {btt offt capt : Nat} {ts : List TermL} {ao : Option Addr} {b off cap : Nat} {c : List Clas} {w0 : World} (ht : RowR w0 aot btt offt capt ts) (hc : RowR w0 ao b off cap c) :
    Calls Tryz.prog 29 #[.slice aot ts.length capt, .slice ao c.length cap] w0 fun e w' => e = .returned (.int .i64 (validT ts c)) ∧ Evo w0 w' [] := by
 refine calls_enter (n := 30) Tryz.func29 rfl Tryz.ntmps29 rfl ?_
 have hV : Evo w0 w0 [] := Evo.refl _ _
 have ht0 := ht.keep
 have hbd_ht := ht.bd
 have hc0 := hc.keep
 have hbd_hc := hc.bd
 refine Zs ?_
 refine Zn asI ?_
 refine r_seq ?_
 refine Zs ?_
 refine Zo mvS ?_
 refine Zr [.slice _ _ _] rfl η Tryz.func53 (validate_calls hc) ?_
 rintro e w1 ⟨rfl, F1⟩
 refine ⟨_, rfl, ?_⟩
 have Q1 := F1.size
 replace hV := Z0 hV F1
 replace ht := ht0.now hV
 replace hc := hc0.now hV
 refine Zn asI ?_
 refine Zs ?_
 refine Zo mvI ?_
 refine Zn (run_neq rfl η η) ?_
 refine r_cond η (fun hc2 => ?_) (fun hc2 => ?_)
 ·skip
  refine Zs ?_
  refine Zo mvI ?_
  refine Zn asI ?_
  refine r_ret (res1 (v := .int _ _) rfl η) ?_
  exact ⟨ret_int (validT_c hc2).symm, hV⟩
 refine r_skip ?_
 refine r_seq ?_
 refine r_seq ?_
 have hvc := hc2
 refine r_region ?_
 refine Zo mvS ?_
 refine Zo (run_lenSl rfl η Tryz.underlying25) ?_
 refine Zn (run_gtr rfl η η) ?_
 refine r_cond η (fun hc3 => ?_) (fun hc3 => ?_)
 ·skip
  refine Zs ?_
  refine Zn asI ?_
  refine r_ret (res1 (v := .int _ _) rfl η) ?_
  exact ⟨ret_int (validT_lim (Classical.not_not.1 hvc) ω).symm, hV⟩
 refine r_skip ?_
 refine r_seq ?_
 refine Zs ?_
 refine Zo mvS ?_
 refine Zo (run_lenSl rfl η Tryz.underlying25) ?_
 refine Zn mvI ?_
 refine r_block ?_
 refine r_loop (α := Nat) [4, 7, 8, 19, 20, 21, 22, 23, 24, 25, 26, 27, 28, 29] (fun k g w => g 19 = .int .i64 (k : Nat) ∧ k ≤ ts.length ∧ (∀ j, j < k → termE c (ts.getD j default) = 0) ∧ w1.heap.size ≤ w.heap.size ∧ Evo w0 w []) (fun k => ts.length - k) 0 ?_ ?_
 ·refine ⟨σ, δ, (fun j h => by omega), δ, hV⟩
 rintro k g w5 ⟨hj6, hk_k, hno, hzl4, hV⟩
 have hs_w5hV := hV.size
 replace ht := ht0.now hV
 refine Zk 19 (v := .int .i64 (k : Nat)) (by exact hj6) ?_
 refine Zs ?_
 refine Zn (run_lss rfl η η) ?_
 refine r_seq ?_
 refine r_cond η (fun hc7 => ?_) (fun hc7 => ?_)
 ·skip
  refine r_skip ?_
  refine r_seq ?_
  refine r_block ?_
  refine Zs ?_
  refine Zo (run_ix (k) rfl Tryz.underlying25 ty_85 η η (by first | exact rfl | omega) ω (ht.addr (i := k) ω)) ?_
  obtain ⟨aoW8, bW8, offW8, capW8, aoQ8, bQ8, offQ8, capQ8, aoF8, bF8, offF8, capF8, hX⟩ := term_atK ht0 (k) ω
  have hA80 := fun (w' : World) (h : Evo w0 w' []) => (hX w' h).1
  have hA8 := hA80 _ hV
  have hW80 := fun (w' : World) (h : Evo w0 w' []) => (hX w' h).2.1
  have hW8 := hW80 _ hV
  have hQ80 := fun (w' : World) (h : Evo w0 w' []) => (hX w' h).2.2.1
  have hQ8 := hQ80 _ hV
  have hF80 := fun (w' : World) (h : Evo w0 w' []) => (hX w' h).2.2.2
  have hF8 := hF80 _ hV
  clear hX
  have hbd_hW8 := hW8.bd
  have hbd_hQ8 := hQ8.bd
  have hbd_hF8 := hF8.bd
  refine Zo (run_ldN rfl ag_85 ty_85 η rfl hA8) ?_
  refine r_var (zs := [_, _, _]) (vs := [_, _, _]) ty_85 η rfl η (fun _ => rfl) η rfl rfl η ?_
  intro b9 w10 J9 E10 B9 Y9
  have Q10 := E10.size
  replace hV := Z0 hV E10
  replace hc := hc0.now hV
  replace hW8 := hW80 _ hV
  replace hQ8 := hQ80 _ hV
  replace hF8 := hF80 _ hV
  refine r_nil ?_
  refine Zs ?_
  refine Zo (run_ldN rfl ag_85 ty_85 η rfl B9.at) ?_
  refine Zo mvS ?_
  refine Zr [.agg _, .slice _ _ _] rfl η Tryz.func54 (checked_calls hW8 hQ8 hF8 hc) ?_
  rintro e w11 ⟨rfl, F11⟩
  refine ⟨_, rfl, ?_⟩
  have Q11 := F11.size
  replace hV := Z0 hV F11
  replace ht := ht0.now hV
  replace hc := hc0.now hV
  refine Zn asI ?_
  refine Zs ?_
  refine Zo mvI ?_
  refine Zn (run_neq rfl η η) ?_
  refine r_cond η (fun hc12 => ?_) (fun hc12 => ?_)
  ·skip
   refine Zs ?_
   refine Zo mvI ?_
   refine Zn asI ?_
   refine r_ret (res1 (v := .int _ _) rfl η) ?_
   exact ⟨ret_int (validT_at (k := k) (Classical.not_not.1 hvc) ω ω hno rfl hc12).symm, hV⟩
  refine r_skip ?_
  refine r_blk ?_
  refine r_region ?_
  refine Zo (run_add rfl η η ω ω) ?_
  refine Zn mvI ?_
  refine r_again (k + 1) ?_ ?_ ?_
  ·first | omega | (dsimp only; omega)
  ·refine ⟨σ, δ, (upto0 hno (Classical.not_not.1 hc12)), δ, hV⟩
  exact ψ
 refine r_exit rfl ?_
 refine Zs ?_
 refine Zn asI ?_
 refine r_ret (res1 (v := .int _ _) rfl η) ?_
 exact ⟨ret_int (validT_ok (Classical.not_not.1 hvc) ω (fun j hj => hno j ω)).symm, hV⟩
end Go.Proofs.YtlfjocbnbceceaaGreatDoor
namespace Go.Vc
open Go Go.RowKit Go.IntWalk Go.Deep
structure TmsL where
  ts : List TermL
deriving Inhabited
instance : Rep TmsL where
  n := 1
  rep w cs x := ∃ ao b off cap, cs = [.slice ao x.ts.length cap] ∧ RowR w ao b off cap x.ts
  len := fun ⟨_, _, _, _, h, _⟩ => by rw [h]; rfl
  evo0 := fun ⟨ao, b, off, cap, h, h1⟩ he => ⟨ao, b, off, cap, h, h1.evo0 he⟩
  pos := by decide
section
variable {P : Program} {B : Exit → Act → World → Prop} {n : Nat} {k : List Kont} {f : Fr} {w : World} {ops : Array Oper} {S : World → Prop} {fuel : Nat} {d : List Nat}
theorem h_know {i : Nat} {v : Value} (hv : f i = v) (h : HA P B n k S ops fuel d (upd f i v) w) : HA P B n k S ops fuel d f w := fun a ha => h a (ha.know hv)
end
end Go.Vc
namespace Go.Proofs.YtlfjocbnbceceaaGreatDoor
open Go.RowKit Go.Vc
structure MF (nested : Bool) (f : List Vc.Item) : Prop where
  val : valGo [] f = 0
  len : f.length ≤ 16
  size : sizeL f ≤ 240
  shp : nested = true → shapeL f = some ([], [])
theorem MF.small {n : Bool} {f : List Vc.Item} (h : MF n f) : Small f := ⟨by have := h.len; omega, by have := h.size; omega⟩
def shC (f : List Vc.Item) : List Int := ((shapeL f).getD ([], [])).1
def shO (f : List Vc.Item) : List Int := ((shapeL f).getD ([], [])).2
theorem shape_mono {f : List Vc.Item} {k : Nat} (hk : k ≤ f.length) (h : shapeL (f.take k) = none) : shapeL f = none := by
  have e : ∀ l : List Vc.Item, l.foldl shapeStep none = none := fun l => by
    induction l with
    | nil => rfl
    | cons x l ih => rw [List.foldl_cons]; exact ih
  have h1 : shapeL f = (f.drop k).foldl shapeStep (shapeL (f.take k)) := by
    unfold shapeL; rw [← List.foldl_append, List.take_append_drop]
  rw [h1, h, e]
theorem shape_no {f : List Vc.Item} {k : Nat} {c s : List Int} (hk : k < f.length) (ho : shapeL (f.take k) = some (c, s)) (h : (f.getD k default).kind = 3) (hs : ¬ s.length = 0) (he : ¬ s.getD (s.length - 1) default = (f.getD k default).id) : shapeL f = none :=
  shape_mono (k := k + 1) ω (by rw [shape_succ f k hk, shape_cross ho h hs he])
theorem sh_some {f : List Vc.Item} {c s : List Int} (h : shapeL f = some (c, s)) : (shapeL f).isSome = true ∧ shC f = c ∧ shO f = s := by unfold shC shO; rw [h]; exact ⟨rfl, rfl, rfl⟩
theorem sh_none {f : List Vc.Item} (h : shapeL f = none) : (shapeL f).isSome = false ∧ shC f = [] ∧ shO f = [] := by unfold shC shO; rw [h]; exact ⟨rfl, rfl, rfl⟩
theorem shape_calls {ao : Option Addr} {b off cap : Nat} {f : List Vc.Item} {w0 : World} (hf : RowE w0 ao b off cap f) (hsm : Small f) :
    Calls Tryz.prog 23 #[.slice ao f.length cap] w0 fun e w' => ∃ v u, e = .returned (.tuple #[v, u, .bool (shapeL f).isSome]) ∧ Evo w0 w' [] ∧ OwnE w' w0.heap.size 3 v (shC f) ∧ OwnE w' w0.heap.size 3 u (shO f) := by
 have hs1 := hsm.1
 refine calls_enter (n := 63) Tryz.func23 rfl Tryz.ntmps23 rfl ?_
 have hV : Evo w0 w0 [] := Evo.refl _ _
 have hf0 := keepE hf
 have hbd_hf := hf.bd
 refine Zs ?_
 refine Zo asS ?_
 refine Zo asS ?_
 refine Zn asB ?_
 refine r_seq ?_
 refine Zs ?_
 refine Zo mvS ?_
 refine Zo (run_lenSl rfl η Tryz.underlying33) ?_
 refine Zn mvI ?_
 refine r_block ?_
 refine r_loop (α := Nat) [2, 3, 4, 6, 9, 10, 11, 12, 13, 14, 15, 16, 17, 18, 19, 20, 21, 22, 23, 24, 25, 26, 27, 28, 29, 30, 31, 32, 33, 34, 35, 36, 37, 38, 39, 40, 41, 42, 43, 44, 45, 46, 47, 48, 49, 50, 51, 52, 53, 54, 55, 56, 57, 58, 59, 60] (fun k g w => ∃ vc : Value, ∃ vo : Value, ∃ cl : List Int, ∃ op : List Int, g 9 = .int .i64 (k : Nat) ∧ g 2 = vc ∧ g 3 = vo ∧ k ≤ f.length ∧ OwnE w w0.heap.size 3 vc cl ∧ OwnE w w0.heap.size 3 vo op ∧ Sep vc vo ∧ shapeL (f.take k) = some (cl, op) ∧ (cl.length ≤ k ∧ op.length ≤ k) ∧ w0.heap.size ≤ w.heap.size ∧ Evo w0 w []) (fun k => f.length - k) 0 ?_ ?_
 ·refine ⟨_, _, [], [], σ, rfl, rfl, δ, (OwnE.nil _ _ _), (OwnE.nil _ _ _), (Sep.nil_l _), rfl, (by simp), δ, hV⟩
 rintro k g w2 ⟨vc, vo, cl, op, hj3, hj4, hj5, hk_k, hoc, hoo, hsep, hsh, hlen, hzl1, hV⟩
 have hs_w2hV := hV.size
 replace hf := hf0 _ hV
 refine Zk 9 (v := .int .i64 (k : Nat)) (by exact hj3) ?_
 refine Zk 2 (v := vc) (by exact hj4) ?_
 refine Zk 3 (v := vo) (by exact hj5) ?_
 refine Zs ?_
 refine Zn (run_lss rfl η η) ?_
 refine r_seq ?_
 refine r_cond η (fun hc6 => ?_) (fun hc6 => ?_)
 ·skip
  refine r_skip ?_
  refine r_seq ?_
  refine r_block ?_
  refine r_seq ?_
  have hobC := fun g hg => (hoc.block (g := g) hg).2; have hobO := fun g hg => (hoo.block (g := g) hg).2
  refine r_region ?_
  refine Zo (run_ix (k) rfl Tryz.underlying33 ty_32 η η (by first | exact rfl | omega) ω (hf.addr (i := k) ω)) ?_
  have hA70 := fun (w' : World) (h : Evo w0 w' []) => (hf0 w' h).atD (k) ω
  have hA7 := hA70 _ hV
  refine Zo (run_ldN rfl ag_32 ty_32 η rfl hA7) ?_
  have hob8 := fun g hg => (hoc.block (g := g) hg).2
  have hob9 := fun g hg => (hoo.block (g := g) hg).2
  refine r_var (zs := [_, _, _]) (vs := [_, _, _]) ty_32 η rfl η (fun _ => rfl) η rfl rfl η ?_
  intro b10 w11 J10 E11 B10 Y10
  have Q11 := E11.size
  replace hV := Z0 hV E11
  replace hoc := hoc.evo0 E11
  replace hoo := hoo.evo0 E11
  refine r_nil ?_
  refine r_block ?_
  refine Zs ?_
  refine Zo (run_fa rfl η fo_32_0) ?_
  refine Zo (run_ld1 rfl ag_3 η (B10.at.cell 0 η)) ?_
  refine Zo (run_eql rfl η η) ?_
  refine Zn asB ?_
  refine r_cond η (fun hc12 => ?_) (fun hc12 => ?_)
  ·skip
   refine r_region ?_
   refine Zo (run_mv (v := vo) rfl η) ?_
   refine Zo (run_fa rfl η fo_32_2) ?_
   refine Zo (run_ld1 rfl ag_3 η (B10.at.cell 2 η)) ?_
   refine r_append1E (u := .int _ _) (y := _) rfl rfl Tryz.underlying22 ty_3 η hoo (fun _ => η) η (by first | exact rfl | (show _ = List.toArray [_]; first | (dsimp only; done) | exact rfl | (dsimp only; exact rfl))) (ω) (ω) ω ?_
   intro q_v13 v13 w14 E14 hov13 hlv13
   have Q14 := E14.size
   replace hV := evo_stepo hV E14 (fun g hg => .inl (by first | exact (hoo.block hg).1 | (have := hoo.block hg; omega)))
   replace hf := hf0 _ hV
   replace hoc := hoc.evo E14 (by intro g hg hm; exact hsep _ hg _ (Option.mem_toList.1 hm) rfl)
   refine Zn (run_asg (v := v13) rfl η) ?_
   refine r_blk ?_
   refine r_blk ?_
   refine r_region ?_
   refine Zo (run_add rfl η η ω ω) ?_
   refine Zn mvI ?_
   refine r_again (k + 1) ?_ ?_ ?_
   ·first | omega | (dsimp only; omega)
   ·refine ⟨_, _, _, _, σ, rfl, rfl, δ, hoc, hov13, (by first | exact hsep | exact (hsep.symm.grow hlv13 hobC ω).symm | exact hsep.grow hlvc hobO ω | exact (hsep.symm.same hlv13).symm), (by first | exact (shape_succ f k ω).trans (shape_open hsh (by assumption)) | exact (shape_succ f k ω).trans (shape_free hsh (by first | assumption | exact hc12.1) (by first | omega | (have := hc12; omega))) | exact (shape_succ f k ω).trans (shape_match hsh (by first | assumption | exact hc12.1) ω (by first | exact hc12 | exact hc12.2)) | exact (shape_succ f k ω).trans ((shape_other ω ω).trans hsh)), (by first | omega | (simp only [List.length_append, List.length_cons, List.length_nil, List.length_take]; omega)), δ, hV⟩
   exact ψ
  refine Zs ?_
  refine Zo (run_fa rfl η fo_32_0) ?_
  refine Zo (run_ld1 rfl ag_3 η (B10.at.cell 0 η)) ?_
  refine Zo (run_eql rfl η η) ?_
  refine Zo mvB ?_
  refine r_g rfl (wantT η) rfl (fun hg => run_mv (v := vo) rfl η) ?_
  refine r_g rfl (wantT η) rfl (fun hg => run_lenOE rfl (glv η (fun h => h) hg) Tryz.underlying22 hoo) ?_
  refine r_g rfl (wantT η) rfl (fun hg => run_eql rfl (glv η (fun h => h) hg) η) ?_
  refine Zo (run_pick_and rfl η (fun hq => glv η (fun h => h) hq) rfl) ?_
  refine Zn asB ?_
  refine r_cond η (fun hc15 => ?_) (fun hc15 => ?_)
  ·skip
   refine r_region ?_
   refine Zo (run_mv (v := vc) rfl η) ?_
   refine Zo (run_fa rfl η fo_32_2) ?_
   refine Zo (run_ld1 rfl ag_3 η (B10.at.cell 2 η)) ?_
   refine r_append1E (u := .int _ _) (y := _) rfl rfl Tryz.underlying22 ty_3 η hoc (fun _ => η) η (by first | exact rfl | (show _ = List.toArray [_]; first | (dsimp only; done) | exact rfl | (dsimp only; exact rfl))) (ω) (ω) ω ?_
   intro q_v16 v16 w17 E17 hov16 hlv16
   have Q17 := E17.size
   replace hV := evo_stepo hV E17 (fun g hg => .inl (by first | exact (hoc.block hg).1 | (have := hoc.block hg; omega)))
   replace hf := hf0 _ hV
   replace hoo := hoo.evo E17 (by intro g hg hm; exact hsep.symm _ hg _ (Option.mem_toList.1 hm) rfl)
   refine Zn (run_asg (v := v16) rfl η) ?_
   refine r_blk ?_
   refine r_blk ?_
   refine r_region ?_
   refine Zo (run_add rfl η η ω ω) ?_
   refine Zn mvI ?_
   refine r_again (k + 1) ?_ ?_ ?_
   ·first | omega | (dsimp only; omega)
   ·refine ⟨_, _, _, _, σ, rfl, rfl, δ, hov16, hoo, (by first | exact hsep | exact (hsep.symm.grow hlvo hobC ω).symm | exact hsep.grow hlv16 hobO ω | exact (hsep.symm.same hlvo).symm), (by first | exact (shape_succ f k ω).trans (shape_open hsh (by assumption)) | exact (shape_succ f k ω).trans (shape_free hsh (by first | assumption | exact hc15.1) (by first | omega | (have := hc15; omega))) | exact (shape_succ f k ω).trans (shape_match hsh (by first | assumption | exact hc15.1) ω (by first | exact hc15 | exact hc15.2)) | exact (shape_succ f k ω).trans ((shape_other ω ω).trans hsh)), (by first | omega | (simp only [List.length_append, List.length_cons, List.length_nil, List.length_take]; omega)), δ, hV⟩
   exact ψ
  refine r_seq ?_
  obtain ⟨ao18, g18, cp18, hv18, hr18, hg18⟩ := hoo.rowOf
  subst hv18
  refine r_qregion ζ ζ ?_
  refine Zq (fun w' hC => run_fa rfl η fo_32_0) ?_
  refine Zq (fun w' hC => run_ld1 rfl ag_3 η ((B10.at.evo0 hC).cell 0 η)) ?_
  refine Zq (fun w' hC => run_eql rfl η η) ?_
  refine Zq (fun w' hC => mvB) ?_
  refine q_g rfl (wantT η) rfl (fun hg w' hC => mvS) ?_
  refine q_g rfl (wantT η) rfl (fun hg w' hC => mvS) ?_
  refine q_g rfl (wantT η) rfl (fun hg w' hC => run_lenSl rfl (glv η (fun h => h) hg) Tryz.underlying22) ?_
  refine q_g rfl (wantT η) rfl (fun hg w' hC => run_sub rfl (glv η (fun h => h) hg) η ω ω) ?_
  refine q_g rfl (wantT η) rfl (fun hg w' hC => run_ix ((op.length - 1)) rfl Tryz.underlying22 ty_3 (glv η (fun h => h) hg) (glv η (fun h => h) hg) ω ω (hr18.addr (i := (op.length - 1)) ω)) ?_
  refine q_g rfl (wantT η) rfl (fun hg w' hC => run_ld1 rfl ag_3 (glv η (fun h => h) hg) (((hr18.atD ((op.length - 1)) ω).evo0 hC).cell 0 η)) ?_
  refine q_g rfl (wantT η) rfl (fun hg w' hC => run_fa rfl η fo_32_2) ?_
  refine q_g rfl (wantT η) rfl (fun hg w' hC => run_ld1 rfl ag_3 (glv η (fun h => h) hg) ((B10.at.evo0 hC).cell 2 η)) ?_
  refine q_g rfl (wantT η) rfl (fun hg w' hC => run_eql rfl (glv η (fun h => h) hg) (glv η (fun h => h) hg)) ?_
  refine Zq (fun w' hC => run_pick_and rfl η (fun hq => glv η (fun h => h) hq) rfl) ?_
  refine Zq (fun w' hC => asB) ?_
  refine q_nil (fun w19 F20 => ?_)
  have Q19 := F20.size
  replace hV := Z0 hV F20
  replace hf := hf0 _ hV
  replace hoc := hoc.evo0 F20
  replace hoo := hoo.evo0 F20
  replace B10 := B10.evo0 F20
  replace hr18 := hr18.evo0 F20
  refine r_cond η (fun hc21 => ?_) (fun hc21 => ?_)
  ·skip
   refine r_region ?_
   refine Zo mvS ?_
   refine Zo mvS ?_
   refine Zo (run_lenSl rfl η Tryz.underlying22) ?_
   refine Zo (run_sub rfl η η ω ω) ?_
   refine r_cutOwn ((op.length - 1)) rfl Tryz.underlying22 ty_3 hoo η (hi1 η ω) ω ω ?_
   intro v22 hov22 hlv22
   refine Zn (run_asg (v := v22) rfl η) ?_
   refine r_blk ?_
   refine r_blk ?_
   refine r_region ?_
   refine Zo (run_add rfl η η ω ω) ?_
   refine Zn mvI ?_
   refine r_again (k + 1) ?_ ?_ ?_
   ·first | omega | (dsimp only; omega)
   ·refine ⟨_, _, _, _, σ, rfl, rfl, δ, hoc, hov22, (by first | exact hsep | exact (hsep.symm.grow hlv22 hobC ω).symm | exact hsep.grow hlvc hobO ω | exact (hsep.symm.same hlv22).symm), (by first | exact (shape_succ f k ω).trans (shape_open hsh (by assumption)) | exact (shape_succ f k ω).trans (shape_free hsh (by first | assumption | exact hc21.1) (by first | omega | (have := hc21; omega))) | exact (shape_succ f k ω).trans (shape_match hsh (by first | assumption | exact hc21.1) ω (by first | exact hc21 | exact hc21.2)) | exact (shape_succ f k ω).trans ((shape_other ω ω).trans hsh)), (by first | omega | (simp only [List.length_append, List.length_cons, List.length_nil, List.length_take]; omega)), δ, hV⟩
   exact ψ
  refine Zs ?_
  refine Zo (run_fa rfl η fo_32_0) ?_
  refine Zo (run_ld1 rfl ag_3 η (B10.at.cell 0 η)) ?_
  refine Zo (run_eql rfl η η) ?_
  refine Zn asB ?_
  refine r_cond η (fun hc23 => ?_) (fun hc23 => ?_)
  ·skip
   refine r_seq ?_
   have hno : shapeL f = none := shape_no ω hsh (by assumption) ω ω
   refine r_region ?_
   refine Zo asS ?_
   refine Zo asS ?_
   refine Zn asB ?_
   refine r_ret (res3 (v := .slice _ _ _) (u := .slice _ _ _) (x := .bool _) rfl η η η) ?_
   exact ⟨_, _, by rw [(sh_none hno).1], hV, by rw [(sh_none hno).2.1]; exact OwnE.nil _ _ _, by rw [(sh_none hno).2.2]; exact OwnE.nil _ _ _⟩
  refine r_skip ?_
  refine r_blk ?_
  refine r_blk ?_
  refine r_region ?_
  refine Zo (run_add rfl η η ω ω) ?_
  refine Zn mvI ?_
  refine r_again (k + 1) ?_ ?_ ?_
  ·first | omega | (dsimp only; omega)
  ·refine ⟨_, _, _, _, σ, rfl, rfl, δ, hoc, hoo, (by first | exact hsep | exact (hsep.symm.grow hl.slice _ _ _ hobC ω).symm | exact hsep.grow hlvc hobO ω | exact (hsep.symm.same hl.slice _ _ _).symm), (by first | exact (shape_succ f k ω).trans (shape_open hsh (by assumption)) | exact (shape_succ f k ω).trans (shape_free hsh (by first | assumption | exact hc23.1) (by first | omega | (have := hc23; omega))) | exact (shape_succ f k ω).trans (shape_match hsh (by first | assumption | exact hc23.1) ω (by first | exact hc23 | exact hc23.2)) | exact (shape_succ f k ω).trans ((shape_other ω ω).trans hsh)), (by first | omega | (simp only [List.length_append, List.length_cons, List.length_nil, List.length_take]; omega)), δ, hV⟩
  exact ψ
 refine r_exit rfl ?_
 refine r_seq ?_
 rw [List.take_of_length_le ω] at hsh
 refine r_region ?_
 refine Zo (run_mv (v := vc) rfl η) ?_
 refine Zo (run_mv (v := vo) rfl η) ?_
 refine Zo (run_asg (v := vc) rfl η) ?_
 refine Zo (run_asg (v := vo) rfl η) ?_
 refine Zn asB ?_
 refine r_ret (res3 (v := vc) (u := vo) (x := .bool _) rfl η η η) ?_
 exact ⟨_, _, by rw [(sh_some hsh).1], hV, by rw [(sh_some hsh).2.1]; exact hoc, by rw [(sh_some hsh).2.2]; exact hoo⟩
theorem kitem : KeyLaw Tryz.prog 32 (fun x : Vc.Item => Value.agg (Enc.enc x).toArray) := key_item Tryz.underlying32 (by decide) (by decide) (by decide) rfl rfl rfl Tryz.underlying3 Tryz.underlying9 Tryz.underlying3 ag_3 ag_9 ag_3 ei_32
theorem tags_noB {f : List Vc.Item} {k : Nat} (h : k < f.length) (ht : isTag (f.getD k default) = false) : tagsL (f.take (k + 1)) = tagsL (f.take k) := tags_no h (by rw [ht]; simp)
theorem ssort_calls {w : World} {base : Nat} {v : Value} {l : List Str} (h : OwnE w base 9 v l) : Calls Tryz.prog 91 #[v] w fun e w' => e = .returned (.tuple #[]) ∧ Evo w w' v.ownBlock.toList ∧ OwnE w' base 9 v (sortS l) :=
  ssort_of Tryz.slices_Sort_string (Tryz.slices_Sort_string_none none 0) h
theorem tags_calls {ao : Option Addr} {b off cap : Nat} {f : List Vc.Item} {w0 : World} (hf : RowE w0 ao b off cap f) (hsm : Small f) :
    Calls Tryz.prog 46 #[.slice ao f.length cap] w0 fun e w' => ∃ v, e = .returned v ∧ Evo w0 w' [] ∧ OwnE w' w0.heap.size 32 v (tagsL f) := by
 have hs1 := hsm.1
 refine calls_enter (n := 20) Tryz.func46 rfl Tryz.ntmps46 rfl ?_
 have hV : Evo w0 w0 [] := Evo.refl _ _
 have hf0 := keepE hf
 have hbd_hf := hf.bd
 refine Zs ?_
 refine Zn asS ?_
 refine Zs ?_
 refine Zn asS ?_
 refine r_seq ?_
 refine Zs ?_
 refine Zo mvS ?_
 refine Zo (run_lenSl rfl η Tryz.underlying33) ?_
 refine Zn mvI ?_
 refine r_block ?_
 refine r_loop (α := Nat) [3, 5, 8, 9, 10, 11, 12, 13, 14, 15, 16, 17, 18] (fun k g w => ∃ vo : Value, g 8 = .int .i64 (k : Nat) ∧ g 3 = vo ∧ k ≤ f.length ∧ OwnE w w0.heap.size 32 vo (tagsL (f.take k)) ∧ w0.heap.size ≤ w.heap.size ∧ Evo w0 w []) (fun k => f.length - k) 0 ?_ ?_
 ·refine ⟨_, σ, rfl, δ, (OwnE.nil _ _ _), δ, hV⟩
 rintro k g w2 ⟨vo, hj3, hj4, hk_k, hoo, hzl1, hV⟩
 have hs_w2hV := hV.size
 replace hf := hf0 _ hV
 refine Zk 8 (v := .int .i64 (k : Nat)) (by exact hj3) ?_
 refine Zk 3 (v := vo) (by exact hj4) ?_
 refine Zs ?_
 refine Zn (run_lss rfl η η) ?_
 refine r_seq ?_
 refine r_cond η (fun hc5 => ?_) (fun hc5 => ?_)
 ·skip
  refine r_skip ?_
  refine r_seq ?_
  refine r_block ?_
  refine r_seq ?_
  have hobO := fun g hg => (hoo.block (g := g) hg).2
  have ht1 := tagsL_len (f.take k); have ht2 : (f.take k).length ≤ k := List.length_take_le _ _
  refine r_region ?_
  refine Zo (run_ix (k) rfl Tryz.underlying33 ty_32 η η (by first | exact rfl | omega) ω (hf.addr (i := k) ω)) ?_
  have hA60 := fun (w' : World) (h : Evo w0 w' []) => (hf0 w' h).atD (k) ω
  have hA6 := hA60 _ hV
  refine Zo (run_ldN rfl ag_32 ty_32 η rfl hA6) ?_
  have hob7 := fun g hg => (hoo.block (g := g) hg).2
  refine r_var (zs := [_, _, _]) (vs := [_, _, _]) ty_32 η rfl η (fun _ => rfl) η rfl rfl η ?_
  intro b8 w9 J8 E9 B8 Y8
  have Q9 := E9.size
  replace hV := Z0 hV E9
  replace hoo := hoo.evo0 E9
  refine r_nil ?_
  refine Zs ?_
  refine Zo (run_ldN rfl ag_32 ty_32 η rfl B8.at) ?_
  refine Zr [.agg _] rfl η Tryz.func90 istag_calls ?_
  rintro e w10 ⟨rfl, F10⟩
  refine ⟨_, rfl, ?_⟩
  have Q10 := F10.size
  replace hV := Z0 hV F10
  replace hf := hf0 _ hV
  replace hoo := hoo.evo0 F10
  replace B8 := B8.evo0 F10
  refine r_nil ?_
  refine r_condb η (fun hc11 => ?_) (fun hc11 => ?_)
  ·skip
   refine r_region ?_
   refine Zo (run_mv (v := vo) rfl η) ?_
   refine Zo (run_ldN rfl ag_32 ty_32 η rfl B8.at) ?_
   refine r_append1E (u := .agg _) (y := ⟨_, _, _⟩) rfl rfl Tryz.underlying33 ty_32 η hoo (fun _ => η) η (by first | exact rfl | (show _ = List.toArray [_, _, _]; first | (dsimp only; done) | exact rfl | (dsimp only; exact rfl))) ((by first | omega | (simp; omega))) ((by first | omega | (simp; omega))) ω ?_
   intro q_v12 v12 w13 E13 hov12 hlv12
   have Q13 := E13.size
   replace hV := evo_stepo hV E13 (fun g hg => .inl (by first | exact (hoo.block hg).1 | (have := hoo.block hg; omega)))
   replace hf := hf0 _ hV
   refine Zn (run_asg (v := v12) rfl η) ?_
   refine r_blk ?_
   refine r_region ?_
   refine Zo (run_add rfl η η ω ω) ?_
   refine Zn mvI ?_
   refine r_again (k + 1) ?_ ?_ ?_
   ·first | omega | (dsimp only; omega)
   ·refine ⟨_, σ, rfl, δ, (by first | (rw [tags_yes ω hc11]; exact hov12) | (rw [tags_noB ω hc11]; exact hov12)), δ, hV⟩
   exact ψ
  refine r_skip ?_
  refine r_blk ?_
  refine r_region ?_
  refine Zo (run_add rfl η η ω ω) ?_
  refine Zn mvI ?_
  refine r_again (k + 1) ?_ ?_ ?_
  ·first | omega | (dsimp only; omega)
  ·refine ⟨_, σ, rfl, δ, (by first | (rw [tags_yes ω hc11]; exact hoo) | (rw [tags_noB ω hc11]; exact hoo)), δ, hV⟩
  exact ψ
 refine r_exit rfl ?_
 refine Zs ?_
 refine Zo (run_mv (v := vo) rfl η) ?_
 refine Zn (run_asg (v := vo) rfl η) ?_
 refine r_ret (res1 (v := vo) rfl η) ?_
 exact ⟨_, rfl, hV, by rw [List.take_of_length_le ω] at hoo; exact hoo⟩
theorem slots_calls {ao : Option Addr} {b off cap : Nat} {f : List Vc.Item} {w0 : World} (hf : RowE w0 ao b off cap f) (hsm : Small f) :
    Calls Tryz.prog 48 #[.slice ao f.length cap] w0 fun e w' => ∃ v, e = .returned v ∧ Evo w0 w' [] ∧ OwnE w' w0.heap.size 9 v (sortS (slotsL f)) := by
 have hs1 := hsm.1
 refine calls_enter (n := 24) Tryz.func48 rfl Tryz.ntmps48 rfl ?_
 have hV : Evo w0 w0 [] := Evo.refl _ _
 have hf0 := keepE hf
 have hbd_hf := hf.bd
 refine Zs ?_
 refine Zn asS ?_
 refine Zs ?_
 refine Zn asS ?_
 refine r_seq ?_
 refine Zs ?_
 refine Zo mvS ?_
 refine Zo (run_lenSl rfl η Tryz.underlying33) ?_
 refine Zn mvI ?_
 refine r_block ?_
 refine r_loop (α := Nat) [3, 5, 8, 9, 10, 11, 12, 13, 14, 15, 16, 17, 18, 19, 20] (fun k g w => ∃ vo : Value, g 8 = .int .i64 (k : Nat) ∧ g 3 = vo ∧ k ≤ f.length ∧ OwnE w w0.heap.size 9 vo (slotsL (f.take k)) ∧ w0.heap.size ≤ w.heap.size ∧ Evo w0 w []) (fun k => f.length - k) 0 ?_ ?_
 ·refine ⟨_, σ, rfl, δ, (OwnE.nil _ _ _), δ, hV⟩
 rintro k g w2 ⟨vo, hj3, hj4, hk_k, hoo, hzl1, hV⟩
 have hs_w2hV := hV.size
 replace hf := hf0 _ hV
 refine Zk 8 (v := .int .i64 (k : Nat)) (by exact hj3) ?_
 refine Zk 3 (v := vo) (by exact hj4) ?_
 refine Zs ?_
 refine Zn (run_lss rfl η η) ?_
 refine r_seq ?_
 refine r_cond η (fun hc5 => ?_) (fun hc5 => ?_)
 ·skip
  refine r_skip ?_
  refine r_seq ?_
  refine r_block ?_
  refine r_seq ?_
  have hobO := fun g hg => (hoo.block (g := g) hg).2
  have ht1 := slotsL_len (f.take k); have ht2 : (f.take k).length ≤ k := List.length_take_le _ _; have ht3 := fold_ins_len (slotsL (f.take k))
  refine r_region ?_
  refine Zo (run_ix (k) rfl Tryz.underlying33 ty_32 η η (by first | exact rfl | omega) ω (hf.addr (i := k) ω)) ?_
  have hA60 := fun (w' : World) (h : Evo w0 w' []) => (hf0 w' h).atD (k) ω
  have hA6 := hA60 _ hV
  refine Zo (run_ldN rfl ag_32 ty_32 η rfl hA6) ?_
  have hob7 := fun g hg => (hoo.block (g := g) hg).2
  refine r_var (zs := [_, _, _]) (vs := [_, _, _]) ty_32 η rfl η (fun _ => rfl) η rfl rfl η ?_
  intro b8 w9 J8 E9 B8 Y8
  have Q9 := E9.size
  replace hV := Z0 hV E9
  replace hf := hf0 _ hV
  replace hoo := hoo.evo0 E9
  refine r_nil ?_
  refine Zs ?_
  refine Zo (run_fa rfl η fo_32_0) ?_
  refine Zo (run_ld1 rfl ag_3 η (B8.at.cell 0 η)) ?_
  refine Zn (run_eql rfl η η) ?_
  refine r_cond η (fun hc10 => ?_) (fun hc10 => ?_)
  ·skip
   refine r_region ?_
   refine Zo (run_mv (v := vo) rfl η) ?_
   refine Zo (run_fa rfl η fo_32_1) ?_
   refine Zo (run_ld1 rfl ag_9 η (B8.at.cell 1 η)) ?_
   refine r_append1E (u := S _) (y := _) rfl rfl Tryz.underlying77 ty_9 η hoo (fun _ => η) η (by first | exact rfl | (show _ = List.toArray [_]; first | (dsimp only; done) | exact rfl | (dsimp only; exact rfl))) ((by first | omega | (simp; omega))) ((by first | omega | (simp; omega))) ω ?_
   intro q_v11 v11 w12 E12 hov11 hlv11
   have Q12 := E12.size
   replace hV := evo_stepo hV E12 (fun g hg => .inl (by first | exact (hoo.block hg).1 | (have := hoo.block hg; omega)))
   replace hf := hf0 _ hV
   refine Zn (run_asg (v := v11) rfl η) ?_
   refine r_blk ?_
   refine r_region ?_
   refine Zo (run_add rfl η η ω ω) ?_
   refine Zn mvI ?_
   refine r_again (k + 1) ?_ ?_ ?_
   ·first | omega | (dsimp only; omega)
   ·refine ⟨_, σ, rfl, δ, (by first | (rw [slots_yes ω hc10]; exact hov11) | (rw [slots_no ω hc10]; exact hov11)), δ, hV⟩
   exact ψ
  refine r_skip ?_
  refine r_blk ?_
  refine r_region ?_
  refine Zo (run_add rfl η η ω ω) ?_
  refine Zn mvI ?_
  refine r_again (k + 1) ?_ ?_ ?_
  ·first | omega | (dsimp only; omega)
  ·refine ⟨_, σ, rfl, δ, (by first | (rw [slots_yes ω hc10]; exact hoo) | (rw [slots_no ω hc10]; exact hoo)), δ, hV⟩
  exact ψ
 refine r_exit rfl ?_
 refine r_seq ?_
 rw [List.take_of_length_le ω] at hoo
 refine r_region ?_
 refine Zo (run_mv (v := vo) rfl η) ?_
 refine Zr [vo] rfl η Tryz.func91 (ssort_calls hoo) ?_
 rintro e w13 ⟨rfl, F13, hs13⟩
 refine ⟨_, rfl, ?_⟩
 have Q13 := F13.size
 replace hV := evo_stepo hV F13 (fun g hg => .inl (by first | exact (hoo.block hg).1 | (have := hoo.block hg; omega)))
 replace hoo := hs13
 refine r_nil ?_
 refine Zs ?_
 refine Zo (run_mv (v := vo) rfl η) ?_
 refine Zn (run_asg (v := vo) rfl η) ?_
 refine r_ret (res1 (v := vo) rfl η) ?_
 exact ⟨_, rfl, hV, hoo⟩
theorem sleqi_calls {aoa aob : Option Addr} {ba offa capa bb offb capb : Nat} {a b : List Int} {w0 : World} (ha : RowE w0 aoa ba offa capa a) (hb : RowE w0 aob bb offb capb b) :
    Calls Tryz.prog 45 #[.slice aoa a.length capa, .slice aob b.length capb] w0 fun e w' => e = .returned (.bool (decide (a = b))) ∧ Evo w0 w' [] := by
 refine calls_enter (n := 26) Tryz.func45 rfl Tryz.ntmps45 rfl ?_
 have hV : Evo w0 w0 [] := Evo.refl _ _
 have ha0 := keepE ha
 have hbd_ha := ha.bd
 have hb0 := keepE hb
 have hbd_hb := hb.bd
 refine Zs ?_
 refine Zn asB ?_
 refine r_seq ?_
 refine Zs ?_
 refine Zo mvS ?_
 refine Zo (run_lenSl rfl η Tryz.underlying22) ?_
 refine Zo mvS ?_
 refine Zo (run_lenSl rfl η Tryz.underlying22) ?_
 refine Zn (run_neq rfl η η) ?_
 refine r_cond η (fun hc1 => ?_) (fun hc1 => ?_)
 ·skip
  refine Zs ?_
  refine Zn asB ?_
  refine r_ret (res1 (v := .bool _) rfl η) ?_
  exact ⟨by rw [decide_eq_false (fun h => by subst h; omega)], hV⟩
 refine r_skip ?_
 refine r_seq ?_
 refine Zs ?_
 refine Zo mvS ?_
 refine Zo (run_lenSl rfl η Tryz.underlying22) ?_
 refine Zn mvI ?_
 refine r_block ?_
 refine r_loop (α := Nat) [4, 5, 13, 14, 15, 16, 17, 18, 19, 20, 21, 22, 23, 24, 25] (fun k g w => g 13 = .int .i64 (k : Nat) ∧ k ≤ a.length ∧ a.take k = b.take k ∧ w0.heap.size ≤ w.heap.size ∧ Evo w0 w []) (fun k => a.length - k) 0 ?_ ?_
 ·refine ⟨σ, δ, (by simp), δ, hV⟩
 rintro k g w3 ⟨hj4, hk_k, hpre, hzl2, hV⟩
 have hs_w3hV := hV.size
 replace ha := ha0 _ hV
 replace hb := hb0 _ hV
 refine Zk 13 (v := .int .i64 (k : Nat)) (by exact hj4) ?_
 refine Zs ?_
 refine Zn (run_lss rfl η η) ?_
 refine r_seq ?_
 refine r_cond η (fun hc5 => ?_) (fun hc5 => ?_)
 ·skip
  refine r_skip ?_
  refine r_seq ?_
  refine r_block ?_
  refine Zs ?_
  refine Zo mvI ?_
  refine Zn asI ?_
  refine r_seq ?_
  refine r_qregion ζ ζ ?_
  refine Zq (fun w' hC => mvS) ?_
  refine Zq (fun w' hC => mvI) ?_
  refine Zq (fun w' hC => run_ix (k) rfl Tryz.underlying22 ty_3 η η (by first | exact rfl | omega) ω (ha.addr (i := k) ω)) ?_
  have hA60 := fun (w' : World) (h : Evo w0 w' []) => (ha0 w' h).atD (k) ω
  have hA6 := hA60 _ hV
  refine Zq (fun w' hC => run_ld1 rfl ag_3 η ((hA6.evo0 hC).cell 0 η)) ?_
  refine Zq (fun w' hC => mvS) ?_
  refine Zq (fun w' hC => mvI) ?_
  refine Zq (fun w' hC => run_ix (k) rfl Tryz.underlying22 ty_3 η η (by first | exact rfl | omega) ω (hb.addr (i := k) ω)) ?_
  have hA70 := fun (w' : World) (h : Evo w0 w' []) => (hb0 w' h).atD (k) ω
  have hA7 := hA70 _ hV
  refine Zq (fun w' hC => run_ld1 rfl ag_3 η ((hA7.evo0 hC).cell 0 η)) ?_
  refine Zq (fun w' hC => run_neq rfl η η) ?_
  refine q_nil (fun w8 F9 => ?_)
  have Q8 := F9.size
  replace hV := Z0 hV F9
  replace ha := ha0 _ hV
  replace hb := hb0 _ hV
  refine r_cond η (fun hc10 => ?_) (fun hc10 => ?_)
  ·skip
   refine Zs ?_
   refine Zn asB ?_
   refine r_ret (res1 (v := .bool _) rfl η) ?_
   exact ⟨by rw [decide_eq_false (fun h => by subst h; exact hc10 rfl)], hV⟩
  refine r_skip ?_
  refine r_blk ?_
  refine r_region ?_
  refine Zo (run_add rfl η η ω ω) ?_
  refine Zn mvI ?_
  refine r_again (k + 1) ?_ ?_ ?_
  ·first | omega | (dsimp only; omega)
  ·refine ⟨σ, δ, (itake_bothI hpre ω ω (Classical.not_not.1 hc10)), δ, hV⟩
  exact ψ
 refine r_exit rfl ?_
 refine Zs ?_
 refine Zn asB ?_
 refine r_ret (res1 (v := .bool _) rfl η) ?_
 exact ⟨by rw [decide_eq_true (by rw [List.take_of_length_le ω, List.take_of_length_le ω] at hpre; exact hpre)], hV⟩
theorem sleqt_calls {aoa aob : Option Addr} {ba offa capa bb offb capb : Nat} {a b : List Vc.Item} {w0 : World} (ha : RowE w0 aoa ba offa capa a) (hb : RowE w0 aob bb offb capb b) :
    Calls Tryz.prog 103 #[.slice aoa a.length capa, .slice aob b.length capb] w0 fun e w' => e = .returned (.bool (decide (a = b))) ∧ Evo w0 w' [] := by
 refine calls_enter (n := 26) Tryz.func103 rfl Tryz.ntmps103 rfl ?_
 have hV : Evo w0 w0 [] := Evo.refl _ _
 have ha0 := keepE ha
 have hbd_ha := ha.bd
 have hb0 := keepE hb
 have hbd_hb := hb.bd
 refine Zs ?_
 refine Zn asB ?_
 refine r_seq ?_
 refine Zs ?_
 refine Zo mvS ?_
 refine Zo (run_lenSl rfl η Tryz.underlying33) ?_
 refine Zo mvS ?_
 refine Zo (run_lenSl rfl η Tryz.underlying33) ?_
 refine Zn (run_neq rfl η η) ?_
 refine r_cond η (fun hc1 => ?_) (fun hc1 => ?_)
 ·skip
  refine Zs ?_
  refine Zn asB ?_
  refine r_ret (res1 (v := .bool _) rfl η) ?_
  exact ⟨by rw [decide_eq_false (fun h => by subst h; omega)], hV⟩
 refine r_skip ?_
 refine r_seq ?_
 refine Zs ?_
 refine Zo mvS ?_
 refine Zo (run_lenSl rfl η Tryz.underlying33) ?_
 refine Zn mvI ?_
 refine r_block ?_
 refine r_loop (α := Nat) [4, 5, 13, 14, 15, 16, 17, 18, 19, 20, 21, 22, 23, 24, 25] (fun k g w => g 13 = .int .i64 (k : Nat) ∧ k ≤ a.length ∧ a.take k = b.take k ∧ w0.heap.size ≤ w.heap.size ∧ Evo w0 w []) (fun k => a.length - k) 0 ?_ ?_
 ·refine ⟨σ, δ, (by simp), δ, hV⟩
 rintro k g w3 ⟨hj4, hk_k, hpre, hzl2, hV⟩
 have hs_w3hV := hV.size
 replace ha := ha0 _ hV
 replace hb := hb0 _ hV
 refine Zk 13 (v := .int .i64 (k : Nat)) (by exact hj4) ?_
 refine Zs ?_
 refine Zn (run_lss rfl η η) ?_
 refine r_seq ?_
 refine r_cond η (fun hc5 => ?_) (fun hc5 => ?_)
 ·skip
  refine r_skip ?_
  refine r_seq ?_
  refine r_block ?_
  refine Zs ?_
  refine Zo mvI ?_
  refine Zn asI ?_
  refine r_seq ?_
  refine r_qregion ζ ζ ?_
  refine Zq (fun w' hC => mvS) ?_
  refine Zq (fun w' hC => mvI) ?_
  refine Zq (fun w' hC => run_ix (k) rfl Tryz.underlying33 ty_32 η η (by first | exact rfl | omega) ω (ha.addr (i := k) ω)) ?_
  have hA60 := fun (w' : World) (h : Evo w0 w' []) => (ha0 w' h).atD (k) ω
  have hA6 := hA60 _ hV
  refine Zq (fun w' hC => run_ldN rfl ag_32 ty_32 η rfl (hA6.evo0 hC)) ?_
  refine Zq (fun w' hC => mvS) ?_
  refine Zq (fun w' hC => mvI) ?_
  refine Zq (fun w' hC => run_ix (k) rfl Tryz.underlying33 ty_32 η η (by first | exact rfl | omega) ω (hb.addr (i := k) ω)) ?_
  have hA70 := fun (w' : World) (h : Evo w0 w' []) => (hb0 w' h).atD (k) ω
  have hA7 := hA70 _ hV
  refine Zq (fun w' hC => run_ldN rfl ag_32 ty_32 η rfl (hA7.evo0 hC)) ?_
  refine Zq (fun w' hC => run_neqI _ _ rfl Tryz.eqGuardType32 ei_32 η η) ?_
  refine q_nil (fun w8 F9 => ?_)
  have Q8 := F9.size
  replace hV := Z0 hV F9
  replace ha := ha0 _ hV
  replace hb := hb0 _ hV
  refine r_cond η (fun hc10 => ?_) (fun hc10 => ?_)
  ·skip
   refine Zs ?_
   refine Zn asB ?_
   refine r_ret (res1 (v := .bool _) rfl η) ?_
   exact ⟨by rw [decide_eq_false (fun h => by subst h; exact hc10 rfl)], hV⟩
  refine r_skip ?_
  refine r_blk ?_
  refine r_region ?_
  refine Zo (run_add rfl η η ω ω) ?_
  refine Zn mvI ?_
  refine r_again (k + 1) ?_ ?_ ?_
  ·first | omega | (dsimp only; omega)
  ·refine ⟨σ, δ, (itake_bothI hpre ω ω (Classical.not_not.1 hc10)), δ, hV⟩
  exact ψ
 refine r_exit rfl ?_
 refine Zs ?_
 refine Zn asB ?_
 refine r_ret (res1 (v := .bool _) rfl η) ?_
 exact ⟨by rw [decide_eq_true (by rw [List.take_of_length_le ω, List.take_of_length_le ω] at hpre; exact hpre)], hV⟩
theorem isame_calls {aoa aob : Option Addr} {ba offa capa bb offb capb : Nat} {a b : List Vc.Item} {w0 : World} (ha : RowE w0 aoa ba offa capa a) (hb : RowE w0 aob bb offb capb b) :
    Calls Tryz.prog 61 #[.slice aoa a.length capa, .slice aob b.length capb] w0 fun e w' => e = .returned (.bool (decide (a = b))) ∧ Evo w0 w' [] := by
 refine calls_enter (n := 8) Tryz.func61 rfl Tryz.ntmps61 rfl ?_
 have hV : Evo w0 w0 [] := Evo.refl _ _
 have ha0 := keepE ha
 have hbd_ha := ha.bd
 have hb0 := keepE hb
 have hbd_hb := hb.bd
 refine Zs ?_
 refine Zn asB ?_
 refine Zs ?_
 refine Zo mvS ?_
 refine Zo mvS ?_
 refine Zr [.slice _ _ _, .slice _ _ _] rfl η Tryz.func103 (sleqt_calls ha hb) ?_
 rintro e w1 ⟨rfl, F1⟩
 refine ⟨_, rfl, ?_⟩
 have Q1 := F1.size
 replace hV := Z0 hV F1
 refine Zn asB ?_
 refine r_ret (res1 (v := .bool _) rfl η) ?_
 exact ⟨rfl, hV⟩
theorem pl_39 : placesP Tryz.prog 39 = some [(0, 1), (1, 1), (2, 1)] := ζ
theorem fo_28_1 : fieldP Tryz.prog 28 1 = some 13 := ζ
theorem fo_28_2 : fieldP Tryz.prog 28 2 = some 14 := ζ
theorem if1_len {p : Prop} [Decidable p] {x : Vc.Item} : (if p then [x] else []).length ≤ 1 := by split <;> simp
theorem hlo_bd {lo : Int} {n : Nat} (h : lo = 0 ∨ (100 ≤ lo ∧ lo ≤ 10000)) (hn : n ≤ 101000) : 0 ≤ lo * (n : Int) ∧ lo * (n : Int) ≤ 1010000000 := mul_bd ω ω ω ω
end Go.Proofs.YtlfjocbnbceceaaGreatDoor
namespace Go.Proofs.YtlfjocbnbceceaaGreatDoor
open Go Go.RowKit Go.Vc
theorem lev_at {l : List Int} {rest : List Value} {k : Nat} (hk : k < l.length) : (l.map (Value.int .i64) ++ rest)[k]? = some (.int .i64 (l.getD k default)) := by
  rw [List.getElem?_append_left (by simpa using hk), List.getElem?_map, List.getElem?_eq_getElem hk, List.getD_eq_getElem?_getD, List.getElem?_eq_getElem hk]; rfl
theorem chk_lev {c : Chk} {k : Nat} (hk : k < c.lev.length) (h : c.lev.getD k default < 0 ∨ 2 < c.lev.getD k default) : validK c = 1 := if_pos (.inl ⟨_, getD_in hk, h⟩)
theorem chk_num {c : Chk} (h : ((¬ c.lev.getD 0 default = 0 ∨ c.short < 0) ∨ 100 < c.short) ∨ (¬ c.long = 0 ∧ (c.long < 100 ∨ 10000 < c.long))) : validK c = 1 := if_pos (.inr h)
theorem lev_ok {c : Chk} {n : Nat} (hn : c.lev.length = n) (hno : ∀ j, j < n → ¬ (c.lev.getD j default < 0 ∨ 2 < c.lev.getD j default)) : ¬ ∃ x ∈ c.lev, x < 0 ∨ 2 < x := fun ⟨x, hx, h⟩ => by
  obtain ⟨j, hj, rfl⟩ := List.mem_iff_getElem.1 hx
  exact hno j ω (by rwa [List.getD_eq_getElem?_getD, List.getElem?_eq_getElem hj])
theorem chk_ok {c : Chk} {n : Nat} (hn : c.lev.length = n) (hno : ∀ j, j < n → ¬ (c.lev.getD j default < 0 ∨ 2 < c.lev.getD j default)) (h : ¬ (((¬ c.lev.getD 0 default = 0 ∨ c.short < 0) ∨ 100 < c.short) ∨ (¬ c.long = 0 ∧ (c.long < 100 ∨ 10000 < c.long)))) : validK c = validT c.ts c.cls :=
  if_neg (fun q => q.elim (lev_ok hn hno) h)
theorem valid_nums {c : Chk} (h : validK c = 0) : (0 ≤ c.short ∧ c.short ≤ 100) ∧ (c.long = 0 ∨ (100 ≤ c.long ∧ c.long ≤ 10000)) := by
  have h1 : ¬ chkBad c := fun q => by unfold validK at h; rw [if_pos q] at h; exact absurd h (by decide)
  unfold chkBad at h1; omega
theorem missT_req {tg : List Vc.Item} {x : TermL} (h : missT tg x = true) : 0 < x.req.length := by
  unfold missT at h
  rcases hx : x.req with _ | ⟨a, b⟩
  · rw [hx] at h; simp at h
  · simp
theorem missN_in {tg : List Vc.Item} {ts : List TermL} {n : Nat} {sp : List Spt} {k : Nat} (hk : k < (missN tg ts (foundN n sp)).length) : (missN tg ts (foundN n sp)).getD k default < n ∧ 0 < (ts.getD ((missN tg ts (foundN n sp)).getD k default) default).req.length := by
  have h1 := List.mem_filter.1 (getD_in hk)
  exact ⟨List.mem_range.1 (List.mem_filter.1 h1.1).1, missT_req h1.2⟩
theorem wrong_len {tg : List Vc.Item} {ts : List TermL} {sp : List Spt} (h : ∀ x ∈ ts, x.forb.length ≤ 1048576) (h2 : ts.length ≤ 40) : (wrongK tg ts [] (foundN ts.length sp)).length ≤ 41943040 := by
  have h1 := wrongK_len tg ts (B := 1048576) (fun k => by
    rcases Nat.lt_or_ge k ts.length with h3 | h3
    · exact h _ (getD_in h3)
    · rw [List.getD_eq_getElem?_getD, List.getElem?_eq_none h3]; exact Nat.zero_le _) (foundN ts.length sp) []
  have h3 := foundN_len ts.length sp
  rw [List.length_nil, Nat.zero_add] at h1
  exact Nat.le_trans h1 (Nat.le_trans (Nat.mul_le_mul_right _ (show (foundN ts.length sp).length ≤ 40 by omega)) (by decide))
theorem map_step {α β : Type} [Inhabited α] {l : List α} {k : Nat} (hk : k < l.length) (f : α → β) : (l.take (k + 1)).map f = (l.take k).map f ++ [f (l.getD k default)] := by rw [take_succD l k hk, List.map_append]; rfl
theorem filt_yes {α : Type} [Inhabited α] {l : List α} {p : α → Bool} {k : Nat} (hk : k < l.length) (h : p (l.getD k default) = true) : (l.take (k + 1)).filter p = (l.take k).filter p ++ [l.getD k default] := by
  rw [take_succD l k hk, List.filter_append, List.filter_cons_of_pos h]; rfl
theorem filt_no {α : Type} [Inhabited α] {l : List α} {p : α → Bool} {k : Nat} (hk : k < l.length) (h : ¬ p (l.getD k default) = true) : (l.take (k + 1)).filter p = (l.take k).filter p := by
  rw [take_succD l k hk, List.filter_append, List.filter_cons_of_neg h]; simp
theorem plainF_len (c : Chk) (s t : Str) : (plainF c s t).length ≤ 6 := by
  have h : ∀ {p : Prop} [Decidable p] {x : Vc.Item}, (if p then [x] else []).length ≤ 1 := by intro p _ x; split <;> simp
  unfold plainF edgeA edgeB dblF signF longF shortF
  simp only [List.length_append]
  have h1 := @h (¬ leadS s = leadS t) _ ⟨7, begW, 0⟩
  have h2 := @h (¬ trailS s = trailS t) _ ⟨7, endW, 0⟩
  have h3 := @h (0 < dblN t) _ ⟨8, [], (dblN t : Nat)⟩
  have h4 := @h (¬ signL s = signL t) _ ⟨9, signL t, 0⟩
  have h5 := @h (¬ c.long = 0 ∧ c.long * (s.length : Nat) < 100 * (t.length : Nat)) _ ⟨12, longW, 0⟩
  have h6 := @h (¬ c.short = 0 ∧ 100 * (t.length : Nat) < c.short * (s.length : Nat)) _ ⟨12, shortW, 0⟩
  omega
structure FLens (c : Chk) (f g : List Vc.Item) : Prop where
  same : (sameF f g).length ≤ 1
  slot : (slotF f g).length ≤ 2000
  tag : (tagF f g).length ≤ 2000
  shape : (shapeF f g).length ≤ 1
  num : (numF f g).length ≤ 202000
  plain : (plainF c (plainL f) (plainL g)).length ≤ 6
theorem fLens {c : Chk} {f g : List Vc.Item} (hf : Tiny f) (hg : Tiny g) : FLens c f g where
  same := by unfold sameF; split <;> simp
  slot := by
    have h := difS_len 3 (sortS (slotsL f)) (sortS (slotsL g))
    rw [sortS_len, sortS_len] at h
    have h1 := slotsL_len f; have h2 := slotsL_len g; have h3 := hf.1; have h4 := hg.1
    unfold slotF; omega
  tag := by
    have h : (difT (tagsL f) (tagsL g)).length ≤ (dist (tagsL f ++ tagsL g)).length := difs_len _ _ _ _
    have h0 := dist_len (tagsL f ++ tagsL g)
    rw [List.length_append] at h0
    have h1 := tagsL_len f; have h2 := tagsL_len g; have h3 := hf.1; have h4 := hg.1
    unfold tagF; omega
  shape := by unfold shapeF; split <;> simp
  num := by
    have h := difS_len 6 (numT (toks f)) (numT (toks g))
    have h1 := numT_len (toks f); have h2 := numT_len (toks g); have h3 := hf.tlen; have h4 := hg.tlen
    unfold numF; omega
  plain := plainF_len _ _ _
theorem findA_len {c : Chk} {f g : List Vc.Item} (hf : Tiny f) (hg : Tiny g) (hz : c.ts.length ≤ 40) (hj : ∀ x ∈ c.ts, x.forb.length ≤ 1048576) : (findA c f g).length ≤ 50000000 := by
  have h := fLens (c := c) hf hg
  have h1 := h.same; have h2 := h.slot; have h3 := h.tag; have h4 := h.shape; have h5 := h.num; have h6 := h.plain
  have h7 := wrong_len (tg := toks g) (sp := spotsF (toks f) (fsT c.cls c.ts) 0) hj hz
  have h8 := missN_len (toks g) c.ts (foundN c.ts.length (spotsF (toks f) (fsT c.cls c.ts) 0))
  have h9 := foundN_len c.ts.length (spotsF (toks f) (fsT c.cls c.ts) 0)
  unfold findA termF missF wrongF fndK
  simp only [List.length_append, List.length_map]
  omega
theorem findL_len {c : Chk} {f g : List Vc.Item} (hf : Tiny f) (hg : Tiny g) (hz : c.ts.length ≤ 40) (hj : ∀ x ∈ c.ts, x.forb.length ≤ 1048576) : (findL c f g).length ≤ 50000000 := by
  unfold findL; split
  · simp
  · exact findA_len hf hg hz hj
theorem runF_ok {c : Chk} {f g : List Vc.Item} (h : ¬ ¬ validK c = 0) : runF c f g = (sortF (findL c f g)).filter (levF c) := if_pos (Classical.not_not.1 h)
theorem runF_bad {c : Chk} {f g : List Vc.Item} (h : ¬ validK c = 0) : runF c f g = [] := if_neg h
theorem levF_yes {c : Chk} {x : Vc.Item} (h : ¬ c.lev.getD x.kind.toNat default = 0) : levF c x = true := decide_eq_true h
theorem levF_no {c : Chk} {x : Vc.Item} (h : ¬ ¬ c.lev.getD x.kind.toNat default = 0) : ¬ levF c x = true := fun q => h (of_decide_eq_true q)
theorem refL_yes {c : Chk} {l : List Vc.Item} {k : Nat} (hk : k < l.length) (h : ((1 ≤ (l.getD k default).kind ∧ (l.getD k default).kind ≤ 12) ∧ c.lev.getD (l.getD k default).kind.toNat default = 2)) : refL c l = true := List.any_eq_true.2 ⟨_, getD_in hk, decide_eq_true h⟩
theorem refL_no {c : Chk} {l : List Vc.Item} (h : ∀ j, j < l.length → ¬ ((1 ≤ (l.getD j default).kind ∧ (l.getD j default).kind ≤ 12) ∧ c.lev.getD (l.getD j default).kind.toNat default = 2)) : refL c l = false := by
  rw [Bool.eq_false_iff]; intro q
  obtain ⟨x, hx, h2⟩ := List.any_eq_true.1 q
  obtain ⟨i, hi, rfl⟩ := List.mem_iff_getElem.1 hx
  exact h i hi (by rw [List.getD_eq_getElem?_getD, List.getElem?_eq_getElem hi]; exact of_decide_eq_true h2)
theorem ag_24 : aggP Tryz.prog 24 = some true := ζ
theorem ag_25 : aggP Tryz.prog 25 = some false := ζ
theorem ag_26 : aggP Tryz.prog 26 = some false := ζ
theorem ag_28 : aggP Tryz.prog 28 = some true := ζ
theorem fo_28_0 : fieldP Tryz.prog 28 0 = some 0 := ζ
theorem fo_28_3 : fieldP Tryz.prog 28 3 = some 15 := ζ
theorem fo_28_4 : fieldP Tryz.prog 28 4 = some 16 := ζ
theorem ty_24 : tyP Tryz.prog 24 = some (13, 104, some (.agg #[(.int .i64 0), (.int .i64 0), (.int .i64 0), (.int .i64 0), (.int .i64 0), (.int .i64 0), (.int .i64 0), (.int .i64 0), (.int .i64 0), (.int .i64 0), (.int .i64 0), (.int .i64 0), (.int .i64 0)])) := ζ
theorem ty_28 : tyP Tryz.prog 28 = some (17, 168, some (.agg #[(.int .i64 0), (.int .i64 0), (.int .i64 0), (.int .i64 0), (.int .i64 0), (.int .i64 0), (.int .i64 0), (.int .i64 0), (.int .i64 0), (.int .i64 0), (.int .i64 0), (.int .i64 0), (.int .i64 0), (.int .i64 0), (.int .i64 0), (.slice none 0 0), (.slice none 0 0)])) := ζ
theorem ei_39 : ∀ (w : World) (x y : Vc.Item), (Op.equalIn 10000 39 (.agg (Enc.enc x).toArray) (.agg (Enc.enc y).toArray)).run Tryz.prog w = .ok (decide (x = y)) w := fun w x y => equalIn_item 9998 Tryz.underlying39 Tryz.stoodInHeld39 (by decide) (by decide) (by decide) rfl rfl rfl Tryz.underlying3 Tryz.underlying9 Tryz.underlying3 ag_3 ag_9 ag_3 x y
set_option maxHeartbeats 1000000 in
theorem kvalidate_calls {l0 l1 l2 l3 l4 l5 l6 l7 l8 l9 l10 l11 l12 sh lo : Int} {aot : Option Addr} {bt ot capt : Nat} {ts : List TermL} {aoc : Option Addr} {bc oc capc : Nat} {cl : List Clas} {w0 : World} (hts : RowR w0 aot bt ot capt ts) (hcl : RowR w0 aoc bc oc capc cl) :
    Calls Tryz.prog 12 #[.agg #[.int .i64 l0, .int .i64 l1, .int .i64 l2, .int .i64 l3, .int .i64 l4, .int .i64 l5, .int .i64 l6, .int .i64 l7, .int .i64 l8, .int .i64 l9, .int .i64 l10, .int .i64 l11, .int .i64 l12, .int .i64 sh, .int .i64 lo, .slice aot ts.length capt, .slice aoc cl.length capc]] w0 fun e w' => e = .returned (.int .i64 (validK (⟨[l0, l1, l2, l3, l4, l5, l6, l7, l8, l9, l10, l11, l12], sh, lo, ts, cl⟩ : Chk))) ∧ Evo w0 w' [] := by
 refine calls_enter (n := 51) Tryz.func12 rfl Tryz.ntmps12 rfl ?_
 have hV : Evo w0 w0 [] := Evo.refl _ _
 have hts0 := hts.keep
 have hbd_hts := hts.bd
 have hcl0 := hcl.keep
 have hbd_hcl := hcl.bd
 refine Zs ?_
 refine r_box (vs := [_, _, _, _, _, _, _, _, _, _, _, _, _, _, _, _, _]) η η rfl ?_
 intro b1 w2 J1 E2 B1 Y1
 have Q2 := E2.size
 replace hV := Z0 hV E2
 replace hts := hts0.now hV
 replace hcl := hcl0.now hV
 have hAb1 := B1.at
 refine Zn asI ?_
 refine r_seq ?_
 refine Zs ?_
 refine Zo (run_fa rfl η fo_28_0) ?_
 refine Zo (run_ldN rfl ag_24 ty_24 η rfl (hAb1.part 0 13 (ds := [_, _, _, _, _, _, _, _, _, _, _, _, _]) η)) ?_
 refine Zn mvI ?_
 refine r_block ?_
 refine r_loop (α := Nat) [2, 4, 7, 8, 9, 10, 11, 12, 13, 14, 15, 16] (fun k g w => g 7 = .int .i64 (k : Nat) ∧ Blk w b1 28 [.int .i64 l0, .int .i64 l1, .int .i64 l2, .int .i64 l3, .int .i64 l4, .int .i64 l5, .int .i64 l6, .int .i64 l7, .int .i64 l8, .int .i64 l9, .int .i64 l10, .int .i64 l11, .int .i64 l12, .int .i64 sh, .int .i64 lo, .slice aot ts.length capt, .slice aoc cl.length capc] ∧ At w b1 0 [.int .i64 l0, .int .i64 l1, .int .i64 l2, .int .i64 l3, .int .i64 l4, .int .i64 l5, .int .i64 l6, .int .i64 l7, .int .i64 l8, .int .i64 l9, .int .i64 l10, .int .i64 l11, .int .i64 l12, .int .i64 sh, .int .i64 lo, .slice aot ts.length capt, .slice aoc cl.length capc] ∧ k ≤ 13 ∧ (∀ j, j < k → ¬ (([l0, l1, l2, l3, l4, l5, l6, l7, l8, l9, l10, l11, l12] : List Int).getD j default < 0 ∨ 2 < ([l0, l1, l2, l3, l4, l5, l6, l7, l8, l9, l10, l11, l12] : List Int).getD j default)) ∧ w2.heap.size ≤ w.heap.size ∧ Evo w0 w []) (fun k => 13 - k) 0 ?_ ?_
 ·refine ⟨rfl, B1, B1.at, δ, (fun j h => by omega), δ, hV⟩
 rintro k g w4 ⟨hj5, B1, hAb1, hk, hno, hzl3, hV⟩
 have hs_w4hV := hV.size
 have hlt6 := B1.lt
 replace hts := hts0.now hV
 replace hcl := hcl0.now hV
 refine Zk 7 (v := .int .i64 (k : Nat)) (by exact hj5) ?_
 refine Zs ?_
 refine Zn (run_lss rfl η η) ?_
 refine r_seq ?_
 refine r_cond η (fun hc7 => ?_) (fun hc7 => ?_)
 ·skip
  refine r_skip ?_
  refine r_seq ?_
  refine r_block ?_
  refine Zs ?_
  refine Zo (run_ixA1 (v := .int .i64 (([l0, l1, l2, l3, l4, l5, l6, l7, l8, l9, l10, l11, l12] : List Int).getD k default)) (k) rfl Tryz.underlying24 ty_3 ag_3 η η (by first | exact rfl | omega) ω (by exact lev_at (l := ([l0, l1, l2, l3, l4, l5, l6, l7, l8, l9, l10, l11, l12] : List Int)) (rest := []) (show k < 13 by omega))) ?_
  refine Zn asI ?_
  refine Zs ?_
  refine Zo mvI ?_
  refine Zo (run_lss rfl η η) ?_
  refine Zo mvB ?_
  refine r_g rfl (wantF η) rfl (fun hg => mvI) ?_
  refine r_g rfl (wantF η) rfl (fun hg => run_gtr rfl (glv η (fun h => h) hg) η) ?_
  refine Zn (run_pick_or rfl η rfl (fun hq => glv η (fun h => h) hq)) ?_
  refine r_cond η (fun hc8 => ?_) (fun hc8 => ?_)
  ·skip
   refine Zs ?_
   refine Zn asI ?_
   refine r_ret (res1 (v := .int _ _) rfl η) ?_
   exact ⟨ret_int (chk_lev (c := (⟨[l0, l1, l2, l3, l4, l5, l6, l7, l8, l9, l10, l11, l12], sh, lo, ts, cl⟩ : Chk)) (k := k) (show k < 13 by omega) hc8).symm, hV⟩
  refine r_skip ?_
  refine r_blk ?_
  refine r_region ?_
  refine Zo (run_add rfl η η ω ω) ?_
  refine Zn mvI ?_
  refine r_again (k + 1) ?_ ?_ ?_
  ·first | omega | (dsimp only; omega)
  ·refine ⟨(congrArg (Value.int _) ω), B1, B1.at, δ, (upto0 hno hc8), δ, hV⟩
  exact ψ
 refine r_exit rfl ?_
 refine r_seq ?_
 refine Zs ?_
 refine Zo (run_fa rfl η fo_28_0) ?_
 refine Zo (run_ixP (0) rfl Tryz.underlying24 ty_3 η η η ω) ?_
 refine Zo (run_ld1 rfl ag_3 η (hAb1.cell 0 η)) ?_
 refine Zo (run_neq rfl η η) ?_
 refine Zo mvB ?_
 refine r_g rfl (wantF η) rfl (fun hg => run_fa rfl η fo_28_1) ?_
 refine r_g rfl (wantF η) rfl (fun hg => run_ld1 rfl ag_3 (glv η (fun h => h) hg) (hAb1.cell 13 η)) ?_
 refine r_g rfl (wantF η) rfl (fun hg => run_lss rfl (glv η (fun h => h) hg) η) ?_
 refine Zo (run_pick_or rfl η rfl (fun hq => glv η (fun h => h) hq)) ?_
 refine Zo mvB ?_
 refine r_g rfl (wantF η) rfl (fun hg => run_fa rfl η fo_28_1) ?_
 refine r_g rfl (wantF η) rfl (fun hg => run_ld1 rfl ag_3 (glv η (fun h => h) hg) (hAb1.cell 13 η)) ?_
 refine r_g rfl (wantF η) rfl (fun hg => run_gtr rfl (glv η (fun h => h) hg) η) ?_
 refine Zo (run_pick_or rfl η rfl (fun hq => glv η (fun h => h) hq)) ?_
 refine Zo mvB ?_
 refine r_g rfl (wantF η) rfl (fun hg => run_fa rfl η fo_28_2) ?_
 refine r_g rfl (wantF η) rfl (fun hg => run_ld1 rfl ag_3 (glv η (fun h => h) hg) (hAb1.cell 14 η)) ?_
 refine r_g rfl (wantF η) rfl (fun hg => run_neq rfl (glv η (fun h => h) hg) η) ?_
 refine r_g rfl (wantF η) rfl (fun hg => run_mv (v := .bool _) rfl (glv η (fun h => h) hg)) ?_
 refine r_g rfl (wantTg η) rfl (fun hg => run_fa rfl η fo_28_2) ?_
 refine r_g rfl (wantTg η) rfl (fun hg => run_ld1 rfl ag_3 (glv η (fun h => h) hg) (hAb1.cell 14 η)) ?_
 refine r_g rfl (wantTg η) rfl (fun hg => run_lss rfl (glv η (fun h => h) hg) η) ?_
 refine r_g rfl (wantTg η) rfl (fun hg => run_mv (v := .bool _) rfl (glv η (fun h => h) hg)) ?_
 refine r_g rfl (wantFg η) rfl (fun hg => run_fa rfl η fo_28_2) ?_
 refine r_g rfl (wantFg η) rfl (fun hg => run_ld1 rfl ag_3 (glv η (fun h => h) hg) (hAb1.cell 14 η)) ?_
 refine r_g rfl (wantFg η) rfl (fun hg => run_gtr rfl (glv η (fun h => h) hg) η) ?_
 refine r_g rfl (wantTg η) rfl (fun hg => run_pick_or rfl (glv η (fun h => h) hg) rfl (fun hq => glv η (fun h => h) (And.intro hg hq))) ?_
 refine r_g rfl (wantF η) rfl (fun hg => run_pick_and rfl (glv η (fun h => h) hg) (fun hq => glv η (fun h => h) (And.intro hg hq)) rfl) ?_
 refine Zn (run_pick_or rfl η rfl (fun hq => glv η (fun h => h) hq)) ?_
 refine r_cond η (fun hc9 => ?_) (fun hc9 => ?_)
 ·skip
  refine Zs ?_
  refine Zn asI ?_
  refine r_ret (res1 (v := .int _ _) rfl η) ?_
  exact ⟨ret_int (chk_num (c := (⟨[l0, l1, l2, l3, l4, l5, l6, l7, l8, l9, l10, l11, l12], sh, lo, ts, cl⟩ : Chk)) hc9).symm, hV⟩
 refine r_skip ?_
 refine Zs ?_
 refine Zo (run_fa rfl η fo_28_3) ?_
 refine Zo (run_ld1 rfl ag_25 η (hAb1.cell 15 η)) ?_
 refine Zo (run_fa rfl η fo_28_4) ?_
 refine Zo (run_ld1 rfl ag_26 η (hAb1.cell 16 η)) ?_
 refine Zr [.slice aot ts.length capt, .slice aoc cl.length capc] rfl η Tryz.func29 (tvalidate_calls hts hcl) ?_
 rintro e w10 ⟨rfl, F10⟩
 refine ⟨_, rfl, ?_⟩
 have Q10 := F10.size
 replace hV := Z0 hV F10
 refine Zn asI ?_
 refine r_ret (res1 (v := .int _ _) rfl η) ?_
 exact ⟨ret_int (chk_ok (c := (⟨[l0, l1, l2, l3, l4, l5, l6, l7, l8, l9, l10, l11, l12], sh, lo, ts, cl⟩ : Chk)) (n := 13) rfl (fun j hj => hno j ω) hc9).symm, hV⟩
theorem ksame_calls {aoa aob : Option Addr} {ba offa capa bb offb capb : Nat} {a b : List Vc.Item} {w0 : World} (ha : RowE w0 aoa ba offa capa a) (hb : RowE w0 aob bb offb capb b) :
    Calls Tryz.prog 16 #[.slice aoa a.length capa, .slice aob b.length capb] w0 fun e w' => e = .returned (.bool (decide (a = b))) ∧ Evo w0 w' [] := by
 refine calls_enter (n := 26) Tryz.func16 rfl Tryz.ntmps16 rfl ?_
 have hV : Evo w0 w0 [] := Evo.refl _ _
 have ha0 := keepE ha
 have hbd_ha := ha.bd
 have hb0 := keepE hb
 have hbd_hb := hb.bd
 refine Zs ?_
 refine Zn asB ?_
 refine r_seq ?_
 refine Zs ?_
 refine Zo mvS ?_
 refine Zo (run_lenSl rfl η Tryz.underlying34) ?_
 refine Zo mvS ?_
 refine Zo (run_lenSl rfl η Tryz.underlying34) ?_
 refine Zn (run_neq rfl η η) ?_
 refine r_cond η (fun hc1 => ?_) (fun hc1 => ?_)
 ·skip
  refine Zs ?_
  refine Zn asB ?_
  refine r_ret (res1 (v := .bool _) rfl η) ?_
  exact ⟨by rw [decide_eq_false (fun h => by subst h; omega)], hV⟩
 refine r_skip ?_
 refine r_seq ?_
 refine Zs ?_
 refine Zo mvS ?_
 refine Zo (run_lenSl rfl η Tryz.underlying34) ?_
 refine Zn mvI ?_
 refine r_block ?_
 refine r_loop (α := Nat) [4, 5, 13, 14, 15, 16, 17, 18, 19, 20, 21, 22, 23, 24, 25] (fun k g w => g 13 = .int .i64 (k : Nat) ∧ k ≤ a.length ∧ a.take k = b.take k ∧ w0.heap.size ≤ w.heap.size ∧ Evo w0 w []) (fun k => a.length - k) 0 ?_ ?_
 ·refine ⟨σ, δ, (by simp), δ, hV⟩
 rintro k g w3 ⟨hj4, hk_k, hpre, hzl2, hV⟩
 have hs_w3hV := hV.size
 replace ha := ha0 _ hV
 replace hb := hb0 _ hV
 refine Zk 13 (v := .int .i64 (k : Nat)) (by exact hj4) ?_
 refine Zs ?_
 refine Zn (run_lss rfl η η) ?_
 refine r_seq ?_
 refine r_cond η (fun hc5 => ?_) (fun hc5 => ?_)
 ·skip
  refine r_skip ?_
  refine r_seq ?_
  refine r_block ?_
  refine Zs ?_
  refine Zo mvI ?_
  refine Zn asI ?_
  refine r_seq ?_
  refine r_qregion ζ ζ ?_
  refine Zq (fun w' hC => mvS) ?_
  refine Zq (fun w' hC => mvI) ?_
  refine Zq (fun w' hC => run_ix (k) rfl Tryz.underlying34 ty_39 η η (by first | exact rfl | omega) ω (ha.addr (i := k) ω)) ?_
  have hA60 := fun (w' : World) (h : Evo w0 w' []) => (ha0 w' h).atD (k) ω
  have hA6 := hA60 _ hV
  refine Zq (fun w' hC => run_ldN rfl ag_39 ty_39 η rfl (hA6.evo0 hC)) ?_
  refine Zq (fun w' hC => mvS) ?_
  refine Zq (fun w' hC => mvI) ?_
  refine Zq (fun w' hC => run_ix (k) rfl Tryz.underlying34 ty_39 η η (by first | exact rfl | omega) ω (hb.addr (i := k) ω)) ?_
  have hA70 := fun (w' : World) (h : Evo w0 w' []) => (hb0 w' h).atD (k) ω
  have hA7 := hA70 _ hV
  refine Zq (fun w' hC => run_ldN rfl ag_39 ty_39 η rfl (hA7.evo0 hC)) ?_
  refine Zq (fun w' hC => run_neqI _ _ rfl Tryz.eqGuardType39 ei_39 η η) ?_
  refine q_nil (fun w8 F9 => ?_)
  have Q8 := F9.size
  replace hV := Z0 hV F9
  replace ha := ha0 _ hV
  replace hb := hb0 _ hV
  refine r_cond η (fun hc10 => ?_) (fun hc10 => ?_)
  ·skip
   refine Zs ?_
   refine Zn asB ?_
   refine r_ret (res1 (v := .bool _) rfl η) ?_
   exact ⟨by rw [decide_eq_false (fun h => by subst h; exact hc10 rfl)], hV⟩
  refine r_skip ?_
  refine r_blk ?_
  refine r_region ?_
  refine Zo (run_add rfl η η ω ω) ?_
  refine Zn mvI ?_
  refine r_again (k + 1) ?_ ?_ ?_
  ·first | omega | (dsimp only; omega)
  ·refine ⟨σ, δ, (take_bothI hpre ω ω (Classical.not_not.1 hc10)), δ, hV⟩
  exact ψ
 refine r_exit rfl ?_
 refine Zs ?_
 refine Zn asB ?_
 refine r_ret (res1 (v := .bool _) rfl η) ?_
 exact ⟨by rw [decide_eq_true (by rw [List.take_of_length_le ω, List.take_of_length_le ω] at hpre; exact hpre)], hV⟩
theorem cell_at {w : World} {b off j o : Nat} {cs : List Value} {v : Value} (h : At w b off cs) (hj : cs[j]? = some v) (ho : o = off + j) : w.cell? ⟨b, o, none⟩ = some v := by subst ho; exact h.cell j hj
set_option maxHeartbeats 1000000 in
theorem rrefused_calls {l0 l1 l2 l3 l4 l5 l6 l7 l8 l9 l10 l11 l12 sh lo : Int} {aot : Option Addr} {bt ot capt : Nat} {ts : List TermL} {aoc : Option Addr} {bc oc capc : Nat} {cl : List Clas} {ao : Option Addr} {b off cap : Nat} {l : List Vc.Item} {w0 : World} (hl : RowE w0 ao b off cap l) (hts : RowR w0 aot bt ot capt ts) (hcl : RowR w0 aoc bc oc capc cl) :
    Calls Tryz.prog 26 #[.agg #[.int .i64 l0, .int .i64 l1, .int .i64 l2, .int .i64 l3, .int .i64 l4, .int .i64 l5, .int .i64 l6, .int .i64 l7, .int .i64 l8, .int .i64 l9, .int .i64 l10, .int .i64 l11, .int .i64 l12, .int .i64 sh, .int .i64 lo, .slice aot ts.length capt, .slice aoc cl.length capc], .slice ao l.length cap] w0 fun e w' => e = .returned (.bool (refL (⟨[l0, l1, l2, l3, l4, l5, l6, l7, l8, l9, l10, l11, l12], sh, lo, ts, cl⟩ : Chk) l)) ∧ Evo w0 w' [] := by
 refine calls_enter (n := 30) Tryz.func26 rfl Tryz.ntmps26 rfl ?_
 have hV : Evo w0 w0 [] := Evo.refl _ _
 have hl0 := keepE hl
 have hbd_hl := hl.bd
 have hts0 := hts.keep
 have hbd_hts := hts.bd
 have hcl0 := hcl.keep
 have hbd_hcl := hcl.bd
 refine Zs ?_
 refine r_box (vs := [_, _, _, _, _, _, _, _, _, _, _, _, _, _, _, _, _]) η η rfl ?_
 intro b1 w2 J1 E2 B1 Y1
 have Q2 := E2.size
 replace hV := Z0 hV E2
 replace hl := hl0 _ hV
 replace hts := hts0.now hV
 replace hcl := hcl0.now hV
 have hAb1 := B1.at
 refine Zn asB ?_
 refine r_seq ?_
 refine Zs ?_
 refine Zo mvS ?_
 refine Zo (run_lenSl rfl η Tryz.underlying34) ?_
 refine Zn mvI ?_
 refine r_block ?_
 refine r_loop (α := Nat) [4, 6, 9, 10, 11, 12, 13, 14, 15, 16, 17, 18, 19, 20, 21, 22, 23, 24, 25, 26, 27, 28, 29] (fun k g w => g 9 = .int .i64 (k : Nat) ∧ k ≤ l.length ∧ Blk w b1 28 [.int .i64 l0, .int .i64 l1, .int .i64 l2, .int .i64 l3, .int .i64 l4, .int .i64 l5, .int .i64 l6, .int .i64 l7, .int .i64 l8, .int .i64 l9, .int .i64 l10, .int .i64 l11, .int .i64 l12, .int .i64 sh, .int .i64 lo, .slice aot ts.length capt, .slice aoc cl.length capc] ∧ At w b1 0 [.int .i64 l0, .int .i64 l1, .int .i64 l2, .int .i64 l3, .int .i64 l4, .int .i64 l5, .int .i64 l6, .int .i64 l7, .int .i64 l8, .int .i64 l9, .int .i64 l10, .int .i64 l11, .int .i64 l12, .int .i64 sh, .int .i64 lo, .slice aot ts.length capt, .slice aoc cl.length capc] ∧ (∀ j, j < k → ¬ ((1 ≤ (l.getD j default).kind ∧ (l.getD j default).kind ≤ 12) ∧ ([l0, l1, l2, l3, l4, l5, l6, l7, l8, l9, l10, l11, l12] : List Int).getD (l.getD j default).kind.toNat default = 2)) ∧ w2.heap.size ≤ w.heap.size ∧ Evo w0 w []) (fun k => l.length - k) 0 ?_ ?_
 ·refine ⟨σ, δ, B1, B1.at, (fun j h => by omega), δ, hV⟩
 rintro k g w4 ⟨hj5, hk_k, B1, hAb1, hno, hzl3, hV⟩
 have hs_w4hV := hV.size
 have hlt6 := B1.lt
 replace hl := hl0 _ hV
 refine Zk 9 (v := .int .i64 (k : Nat)) (by exact hj5) ?_
 refine Zs ?_
 refine Zn (run_lss rfl η η) ?_
 refine r_seq ?_
 refine r_cond η (fun hc7 => ?_) (fun hc7 => ?_)
 ·skip
  refine r_skip ?_
  refine r_seq ?_
  refine r_block ?_
  refine Zs ?_
  refine Zo (run_ix (k) rfl Tryz.underlying34 ty_39 η η (by first | exact rfl | omega) ω (hl.addr (i := k) ω)) ?_
  have hA80 := fun (w' : World) (h : Evo w0 w' []) => (hl0 w' h).atD (k) ω
  have hA8 := hA80 _ hV
  refine Zo (run_ldN rfl ag_39 ty_39 η rfl hA8) ?_
  refine r_var (zs := [_, _, _]) (vs := [_, _, _]) ty_39 η rfl η (fun _ => rfl) η rfl rfl η ?_
  intro b9 w10 J9 E10 B9 Y9
  have Q10 := E10.size
  replace hV := Z0 hV E10
  replace hl := hl0 _ hV
  replace hts := hts0.now hV
  replace hcl := hcl0.now hV
  replace B1 := B1.evo0 E10
  replace hAb1 := hAb1.evo0 E10
  refine r_nil ?_
  refine Zs ?_
  refine Zo (run_fa rfl η fo_39_0) ?_
  refine Zo (run_ld1 rfl ag_3 η (B9.at.cell 0 η)) ?_
  refine Zo (run_geq rfl η η) ?_
  refine Zo mvB ?_
  refine r_g rfl (wantT η) rfl (fun hg => run_fa rfl η fo_39_0) ?_
  refine r_g rfl (wantT η) rfl (fun hg => run_ld1 rfl ag_3 (glv η (fun h => h) hg) (B9.at.cell 0 η)) ?_
  refine r_g rfl (wantT η) rfl (fun hg => run_leq rfl (glv η (fun h => h) hg) η) ?_
  refine Zo (run_pick_and rfl η (fun hq => glv η (fun h => h) hq) rfl) ?_
  refine Zo mvB ?_
  refine r_g rfl (wantT η) rfl (fun hg => run_fa rfl η fo_39_0) ?_
  refine r_g rfl (wantT η) rfl (fun hg => run_ld1 rfl ag_3 (glv η (fun h => h) hg) (B9.at.cell 0 η)) ?_
  refine r_g rfl (wantT η) rfl (fun hg => run_fa rfl η fo_28_0) ?_
  refine r_g rfl (wantT η) rfl (fun hg => run_ixP (((l.getD k default).kind.toNat)) rfl Tryz.underlying24 ty_3 (glv η (fun h => h) hg) (glv η (fun h => h) hg) ω ω) ?_
  refine r_g rfl (wantT η) rfl (fun hg => run_ld1 rfl ag_3 (glv η (fun h => h) hg) (cell_at (j := ((l.getD k default).kind.toNat)) hAb1 (by exact lev_at (l := ([l0, l1, l2, l3, l4, l5, l6, l7, l8, l9, l10, l11, l12] : List Int)) (rest := [.int .i64 sh, .int .i64 lo, .slice aot ts.length capt, .slice aoc cl.length capc]) (show ((l.getD k default).kind.toNat) < 13 by omega)) ω)) ?_
  refine r_g rfl (wantT η) rfl (fun hg => run_eql rfl (glv η (fun h => h) hg) η) ?_
  refine Zn (run_pick_and rfl η (fun hq => glv η (fun h => h) hq) rfl) ?_
  refine r_cond η (fun hc11 => ?_) (fun hc11 => ?_)
  ·skip
   refine Zs ?_
   refine Zn asB ?_
   refine r_ret (res1 (v := .bool _) rfl η) ?_
   exact ⟨ret_bool (refL_yes (c := (⟨[l0, l1, l2, l3, l4, l5, l6, l7, l8, l9, l10, l11, l12], sh, lo, ts, cl⟩ : Chk)) (k := k) ω hc11).symm, hV⟩
  refine r_skip ?_
  refine r_blk ?_
  refine r_region ?_
  refine Zo (run_add rfl η η ω ω) ?_
  refine Zn mvI ?_
  refine r_again (k + 1) ?_ ?_ ?_
  ·first | omega | (dsimp only; omega)
  ·refine ⟨σ, δ, B1, B1.at, (upto0 hno hc11), δ, hV⟩
  exact ψ
 refine r_exit rfl ?_
 refine Zs ?_
 refine Zn asB ?_
 refine r_ret (res1 (v := .bool _) rfl η) ?_
 exact ⟨ret_bool (refL_no (c := (⟨[l0, l1, l2, l3, l4, l5, l6, l7, l8, l9, l10, l11, l12], sh, lo, ts, cl⟩ : Chk)) (fun j hj => hno j ω)).symm, hV⟩
end Go.Proofs.YtlfjocbnbceceaaGreatDoor
namespace Go.Vc
open Go Go.RowKit Go.IntWalk
theorem bump1 {α : Type} [DecidableEq α] {m : List (α × Int)} {a : α} {v d : Int} (hv : v = (getM m a).getD 0 + d) : Bump m (setM m a v) a d := fun x => by
  rw [getM_setM, hv]
  by_cases h : x = a
  · rw [if_pos h, if_pos h.symm]
  · rw [if_neg h, if_neg (Ne.symm h)]
theorem mdone {α β : Type} {dn l1 l2 m : List (α × β)} {p : α × β} (h : (dn ++ (l1 ++ p :: l2)).Perm m) : ((dn ++ [p]) ++ (l1 ++ l2)).Perm m := by
  refine List.Perm.trans ?_ h
  rw [List.append_assoc]
  refine List.Perm.append_left _ ?_
  show (p :: (l1 ++ l2)).Perm _
  exact (List.perm_middle (a := p) (l₁ := l1) (l₂ := l2)).symm
theorem own_anch {v v2 : Value} {n s : Nat} {X : List Nat} (h : v2.ownBlock = v.ownBlock ∨ ∃ g, v2.ownBlock = some g ∧ s ≤ g) (ha : ∀ g, v.ownBlock = some g → n ≤ g ∨ g ∈ X) (hs : n ≤ s) : ∀ g, v2.ownBlock = some g → n ≤ g ∨ g ∈ X := fun g hg =>
  h.elim (fun h => ha g (h ▸ hg)) (fun ⟨q, h, h2⟩ => .inl (by rw [h] at hg; injection hg with hg; omega))
theorem own_ne {v v2 : Value} {s b : Nat} (h : v2.ownBlock = v.ownBlock ∨ ∃ g, v2.ownBlock = some g ∧ s ≤ g) (ha : ∀ g, v.ownBlock = some g → g ≠ b) (hb : b < s) : ∀ g, v2.ownBlock = some g → g ≠ b := fun g hg =>
  h.elim (fun h => ha g (h ▸ hg)) (fun ⟨q, h, h2⟩ => by rw [h] at hg; injection hg with hg; omega)
theorem own_apart {v v2 : Value} {s r b : Nat} (h : v2.ownBlock = v.ownBlock ∨ ∃ g, v2.ownBlock = some g ∧ s ≤ g) (ha : ∀ g, v.ownBlock = some g → g ≠ r ∧ g ≠ b) (hr : r < s) (hb : b < s) : ∀ g, v2.ownBlock = some g → g ≠ r ∧ g ≠ b := fun g hg =>
  h.elim (fun h => ha g (h ▸ hg)) (fun ⟨q, h, h2⟩ => by rw [h] at hg; injection hg with hg; omega)
end Go.Vc
namespace Go.Proofs.YtlfjocbnbceceaaGreatDoor
open Go Go.RowKit Go.Vc
def mkP (k : Int) (p : Str × Int) : Vc.Item := mkS k p.1 p.2
def mkQ (p : Vc.Item × Int) : Vc.Item := mkT p.1 p.2
theorem app_map {α : Type} (l : List Vc.Item) (dn : List α) (f : α → Vc.Item) (p : α) : l ++ (dn ++ [p]).map f = l ++ dn.map f ++ [f p] := by rw [List.map_append, List.append_assoc]; rfl
theorem difS_perm {k : Int} {a b : List Str} {m dn : List (Str × Int)} (h : DifM a b m) (hp : (dn ++ []).Perm m) : (dn.map (mkP k)).Perm (difS k a b) := by
  rw [List.append_nil] at hp
  exact (hp.map _).trans (difs_perm h (uniS_nodup a b) (fun x hx => uniS_mem.2 hx.symm) (mkS k))
theorem difT_perm {a b : List Vc.Item} {m dn : List (Vc.Item × Int)} (h : DifM a b m) (hp : (dn ++ []).Perm m) : (dn.map mkQ).Perm (difT a b) := by
  rw [List.append_nil] at hp
  exact (hp.map _).trans (difs_perm h (dist_nodup _) (fun x hx => (dist_mem _ _).2 (List.mem_append.2 hx.symm)) mkT)
theorem difM_mem {α : Type} [DecidableEq α] {a b : List α} {m : List (α × Int)} (h : DifM a b m) {p : α × Int} (hp : p ∈ m) : p.1 ∈ a ∨ p.1 ∈ b := Classical.not_not.1 (fun q => ((h.2 p).1 hp).2 (dif_out (fun q2 => q q2.symm)))
end Go.Proofs.YtlfjocbnbceceaaGreatDoor
namespace Go.Vc
open Go Go.RowKit Go.IntWalk
open Go.ChangeMaps (setBlock)
theorem eraseIdx_map {α β : Type} (f : α → β) : ∀ (l : List α) (i : Nat), (l.eraseIdx i).map f = (l.map f).eraseIdx i
  | [], _ => by simp
  | a :: l, 0 => by simp
  | a :: l, i + 1 => by simp [eraseIdx_map f l i]
theorem filter_eraseIdx {α : Type} (p : α → Bool) : ∀ (l : List α) (i : Nat) (e : α), l[i]? = some e → p e = false → (l.eraseIdx i).filter p = l.filter p
  | [], i, e, h, _ => by simp at h
  | a :: l, 0, e, h, hp => by
    simp at h; subst h
    simp [List.filter_cons, hp]
  | a :: l, i + 1, e, h, hp => by
    have := filter_eraseIdx p l i e (by simpa using h) hp
    simp [List.filter_cons, this]
theorem nodup_idx {α β : Type} {m : List (α × β)} (hn : (m.map (·.1)).Nodup) {i j : Nat} {a : α} {u v : β} (h1 : m[i]? = some (a, u)) (h2 : m[j]? = some (a, v)) : i = j := by
  have hi : i < (m.map (·.1)).length := by
    rcases Nat.lt_or_ge i (m.map (·.1)).length with h | h
    · exact h
    · rw [List.getElem?_eq_none (by simpa using h)] at h1; cases h1
  exact (List.getElem?_inj hi hn (j := j)).1 (by simp [h1, h2])
theorem delM_miss {α β : Type} [DecidableEq α] {m : List (α × β)} {a : α} (h : getM m a = none) : delM m a = m := by
  unfold delM
  refine List.filter_eq_self.2 (fun p hp => ?_)
  unfold getM at h
  simp only [Option.map_eq_none_iff, List.find?_eq_none, decide_eq_true_eq] at h
  simp [h p hp]
theorem delM_hit {α β : Type} [DecidableEq α] : ∀ {m : List (α × β)} {a : α} {v : β} {i : Nat}, (m.map (·.1)).Nodup → m[i]? = some (a, v) → delM m a = m.eraseIdx i
  | [], _, _, _, _, h => by simp at h
  | p :: m, a, v, 0, hn, h => by
    simp at h; subst h
    simp only [List.map_cons, List.nodup_cons] at hn
    show ((a, v) :: m).filter _ = m
    rw [List.filter_cons, if_neg (by simp)]
    refine List.filter_eq_self.2 (fun q hq => ?_)
    have : q.1 ≠ a := fun e => hn.1 (List.mem_map.2 ⟨q, hq, e⟩)
    simp [this]
  | p :: m, a, v, i + 1, hn, h => by
    simp only [List.map_cons, List.nodup_cons] at hn
    have h' : m[i]? = some (a, v) := by simpa using h
    have hp : p.1 ≠ a := fun e => hn.1 (by rw [e]; exact List.mem_map.2 ⟨(a, v), List.mem_of_getElem? h', rfl⟩)
    have ih := delM_hit hn.2 h'
    show (p :: m).filter _ = p :: m.eraseIdx i
    rw [List.filter_cons, if_pos (by simp [hp])]
    exact congrArg _ ih
theorem delM_keys {α β : Type} [DecidableEq α] (m : List (α × β)) (a : α) (hn : (m.map (·.1)).Nodup) : ((delM m a).map (·.1)).Nodup := hn.sublist (List.Sublist.map _ List.filter_sublist)
section
variable {P : Program} {B : Exit → Act → World → Prop} {n : Nat} {k : List Kont} {f : Fr} {w : World} {ops : Array Oper} {rest : List Oper} {o : Oper}
variable {α β : Type} {ek : α → Value} {ev : β → Value} {b : Nat} {m : List (α × β)} {K E : TypeId}
theorem erase_list (es : Array MapEntry) (i : Nat) : (es.eraseIdxIfInBounds i).toList = es.toList.eraseIdx i := by
  unfold Array.eraseIdxIfInBounds
  split
  · simp
  · rw [List.eraseIdx_of_length_le (by simpa using Nat.le_of_not_lt ‹_›)]
theorem run_delM [DecidableEq α] (L : KeyLaw P K ek) {T ty : TypeId} (hu : P.underlying T = some (.map K E)) (a : α) {es : Array MapEntry} {c : Nat} (hb : w.heap[b]? = some (.map es c)) (h : MapIs w b ek ev m) :
    ∃ es', (Builtin.delete_ #[T, K] ty #[.map (some b), ek a]).run P w = .ok (.tuple #[]) (setBlock w b (.map es' c)) ∧ (es'.toList = es.toList ∧ delM m a = m ∨ ∃ i v, m[i]? = some (a, v) ∧ es'.toList = es.toList.eraseIdx i ∧ delM m a = m.eraseIdx i) := by
  obtain ⟨es2, c2, hb2, hf⟩ := h.find L a
  rw [hb] at hb2
  injection hb2 with hb2
  injection hb2 with e1 e2
  subst e1; subst e2
  have hnd := h.nodup
  rcases hf with ⟨hg, hf⟩ | ⟨i, u, hg, hi, hne, hf⟩
  · refine ⟨es, ?_, .inl ⟨rfl, delM_miss hg⟩⟩
    simp [Builtin.delete_, run_underlying hu, MapKept.run_getObj_map hb, L.check, hf, MapKept.run_setObj_map _ hb, Result.andThen, setBlock]
  · refine ⟨es.eraseIdxIfInBounds i, ?_, .inr ⟨i, u, hi, erase_list es i, delM_hit hnd hi⟩⟩
    simp [Builtin.delete_, run_underlying hu, MapKept.run_getObj_map hb, L.check, hf, MapKept.run_setObj_map _ hb, Result.andThen, setBlock]
theorem mem_erase {γ : Type} {l : List γ} {i : Nat} {x : γ} (h : x ∈ l.eraseIdx i) : x ∈ l := (List.eraseIdx_sublist l i).subset h
theorem r_delI [DecidableEq α] (L : KeyLaw P K ek) {T : TypeId} {t : TypeId} {pos : String} {aft : Array Edge} {x y : Operand} {r : Nat} {p : α × β} {left : List (α × β)} (hu : P.underlying T = some (.map K E)) (hx : opv f x = .map (some b)) (hy : opv f y = ek p.1)
    (h : IterIs w r b ek ev m left (some p)) (h2 : ∀ w', Evo w w' [b] → w'.heap.size = w.heap.size → IterIs w' r b ek ev (delM m p.1) left none → KL P B n ops k rest f w') :
    KL P B n ops k (⟨none, .call ⟨.builtin .delete, #[x, y], #[T, K]⟩, t, pos, aft, none⟩ :: rest) f w := by
  have hM := h.map
  have hne := h.ne
  obtain ⟨es, c, seen, hb, he, hbn, hlt, hnd, hr, hleft, hlast⟩ := h.ex
  obtain ⟨es', hrun, hc⟩ := run_delM (ty := t) L hu p.1 hb hM
  obtain ⟨e, hem, ⟨s, hs⟩, hk, hv⟩ := hlast p rfl
  refine r_opv0 (v := .tuple #[]) (w' := setBlock w b (.map es' c)) rfl rfl (run_builtin (s := Builtin.delete_ #[T, K] t #[.map (some b), ek p.1]) rfl (by simp [hx, hy]) (fun cs => rfl) hrun) (h2 _ (Evo.setB _ _ _) (by simp [setBlock]) ⟨es', c, seen, heap_setB hM.lt _, ?_, ?_, ?_, delM_keys m p.1 hnd, ?_, ?_, fun q hq => by cases hq⟩)
  · rcases hc with ⟨h1, h3⟩ | ⟨i, v, _, h1, h3⟩
    · rw [h1, h3]; exact he
    · rw [h1, h3, eraseIdx_map, he, ← eraseIdx_map]
  · rcases hc with ⟨h1, _⟩ | ⟨i, v, _, h1, _⟩
    · rw [h1]; exact hbn
    · rw [h1]; exact hbn.sublist ((List.eraseIdx_sublist _ _).map _)
  · intro e hm
    rcases hc with ⟨h1, _⟩ | ⟨i, v, _, h1, _⟩
    · rw [h1] at hm; exact hlt e hm
    · rw [h1] at hm; exact hlt e (mem_erase hm)
  · rw [heap_setB_ne _ hne]; exact hr
  · rcases hc with ⟨h1, _⟩ | ⟨i, v, hi, h1, _⟩
    · rw [h1]; exact hleft
    · obtain ⟨j, hj⟩ := List.getElem?_of_mem hem
      have hmj := entry_at he j
      rw [hj] at hmj
      cases hmj2 : m[j]? with
      | none => rw [hmj2] at hmj; simp at hmj
      | some q =>
        rw [hmj2] at hmj
        simp only [Option.map_some, Option.some.injEq, Prod.mk.injEq] at hmj
        have hq : q.1 = p.1 := L.inj _ _ (hmj.1.symm.trans hk)
        have hij : i = j := nodup_idx hnd hi (by rw [hmj2, ← hq])
        subst hij
        rw [h1, filter_eraseIdx _ _ _ _ hj (by rw [hs]; simp)]
        exact hleft
end
end Go.Vc
namespace Go.Proofs.YtlfjocbnbceceaaGreatDoor
open Go.RowKit Go.Vc
set_option maxHeartbeats 1000000 in
theorem differs_calls {aoa : Option Addr} {ba offa capa : Nat} {a : List Str} {aob : Option Addr} {bb offb capb : Nat} {b : List Str} {w0 : World} (ha : RowE w0 aoa ba offa capa a) (hb : RowE w0 aob bb offb capb b) (hsa : a.length ≤ 1000000) (hsb : b.length ≤ 1000000) :
    Calls Tryz.prog 105 #[.slice aoa a.length capa, .slice aob b.length capb] w0 fun e w' => ∃ bm m, e = .returned (.map (some bm)) ∧ Evo w0 w' [] ∧ w0.heap.size ≤ bm ∧ MapIs w' bm S (Value.int .i64) m ∧ DifM a b m := by
 refine calls_enter (n := 47) Tryz.func105 rfl Tryz.ntmps105 rfl ?_
 have hV : Evo w0 w0 [] := Evo.refl _ _
 have ha0 := keepE ha
 have hbd_ha := ha.bd
 have hb0 := keepE hb
 have hbd_hb := hb.bd
 refine Zs ?_
 refine Zn asM ?_
 refine Zs ?_
 refine r_makeMap (α := Str) (β := Int) S (Value.int .i64) rfl ?_
 intro b1 w2 J1 E2 hmb1 Y1
 have Q2 := E2.size
 replace hV := Z0 hV E2
 replace ha := ha0 _ hV
 replace hb := hb0 _ hV
 refine Zn asM ?_
 refine r_seq ?_
 refine Zs ?_
 refine Zo mvS ?_
 refine Zo (run_lenSl rfl η Tryz.underlying77) ?_
 refine Zn mvI ?_
 refine r_block ?_
 refine r_loop (α := Nat) [7, 15, 16, 17, 18, 19, 20, 21, 22, 23] (fun k g w => ∃ m : List (Str × Int), g 15 = .int .i64 (k : Nat) ∧ k ≤ b.length ∧ MapIs w b1 S (Value.int .i64) m ∧ CntG (b.take k) [] m ∧ w2.heap.size ≤ w.heap.size ∧ Evo w0 w []) (fun k => b.length - k) 0 ?_ ?_
 ·refine ⟨_, σ, δ, hmb1, (by rw [List.take_zero]; exact CntG.nil), δ, hV⟩
 rintro k g w4 ⟨m, hj5, hk_k, hmb1, hcg, hzl3, hV⟩
 have hs_w4hV := hV.size
 have hlt6 := hmb1.lt
 replace ha := ha0 _ hV
 replace hb := hb0 _ hV
 refine Zk 15 (v := .int .i64 (k : Nat)) (by exact hj5) ?_
 refine Zs ?_
 refine Zn (run_lss rfl η η) ?_
 refine r_seq ?_
 refine r_cond η (fun hc7 => ?_) (fun hc7 => ?_)
 ·skip
  refine r_skip ?_
  refine r_seq ?_
  refine r_block ?_
  refine Zs ?_
  refine Zo (run_ix (k) rfl Tryz.underlying77 ty_9 η η (by first | exact rfl | omega) ω (hb.addr (i := k) ω)) ?_
  have hA80 := fun (w' : World) (h : Evo w0 w' []) => (hb0 w' h).atD (k) ω
  have hA8 := hA80 _ hV
  refine Zo (run_ld1 rfl ag_9 η (hA8.cell 0 η)) ?_
  refine Zn asT ?_
  have hgv := hcg.get (b.getD k default); have hgb := dif_bd ([]) (b.take k) (b.getD k default); have hgk := List.length_take_le k a; have hgl := List.length_take_le k b; have hg0 : ([] : List Str).length = 0 := rfl
  refine r_region ?_
  refine Zo mvM ?_
  refine Zo mvT ?_
  refine Zo (run_lookup1 (a := (b.getD k default)) (z := 0) (v := .int _ _) (key_str Tryz.underlying9) rfl Tryz.underlying134 ty_3 η η hmb1 rfl) ?_
  refine Zo (run_add rfl η η ω ω) ?_
  refine r_mapset (a := _) (key_str Tryz.underlying9) Tryz.underlying134 η η η hmb1 ?_
  intro w9 E9 V9 hm_new
  have Q9 := E9.size
  replace hV := Z1 hV E9 ε
  replace ha := ha0 _ hV
  replace hb := hb0 _ hV
  replace hmb1 := hm_new
  clear hm_new
  refine r_nil ?_
  refine r_blk ?_
  refine r_region ?_
  refine Zo (run_add rfl η η ω ω) ?_
  refine Zn mvI ?_
  refine r_again (k + 1) ?_ ?_ ?_
  ·first | omega | (dsimp only; omega)
  ·refine ⟨_, σ, δ, hmb1, (by rw [take_succD _ k ω]; exact hcg.inc (bump1 rfl)), δ, hV⟩
  exact ψ
 refine r_exit rfl ?_
 refine r_seq ?_
 refine Zs ?_
 refine Zo mvS ?_
 refine Zo (run_lenSl rfl η Tryz.underlying77) ?_
 refine Zn mvI ?_
 refine r_block ?_
 have hcg1 := hcg; rw [List.take_of_length_le ω] at hcg1
 refine r_loop (α := Nat) [9, 26, 27, 28, 29, 30, 31, 32, 33, 34] (fun k g w => ∃ m : List (Str × Int), g 26 = .int .i64 (k : Nat) ∧ k ≤ a.length ∧ MapIs w b1 S (Value.int .i64) m ∧ CntG b (a.take k) m ∧ w4.heap.size ≤ w.heap.size ∧ Evo w0 w []) (fun k => a.length - k) 0 ?_ ?_
 ·refine ⟨_, σ, δ, hmb1, (by rw [List.take_zero]; exact hcg1), δ, hV⟩
 rintro k g w11 ⟨m, hj12, hk_k, hmb1, hcg, hzl10, hV⟩
 have hs_w11hV := hV.size
 have hlt13 := hmb1.lt
 replace ha := ha0 _ hV
 refine Zk 26 (v := .int .i64 (k : Nat)) (by exact hj12) ?_
 refine Zs ?_
 refine Zn (run_lss rfl η η) ?_
 refine r_seq ?_
 refine r_cond η (fun hc14 => ?_) (fun hc14 => ?_)
 ·skip
  refine r_skip ?_
  refine r_seq ?_
  refine r_block ?_
  refine Zs ?_
  refine Zo (run_ix (k) rfl Tryz.underlying77 ty_9 η η (by first | exact rfl | omega) ω (ha.addr (i := k) ω)) ?_
  have hA150 := fun (w' : World) (h : Evo w0 w' []) => (ha0 w' h).atD (k) ω
  have hA15 := hA150 _ hV
  refine Zo (run_ld1 rfl ag_9 η (hA15.cell 0 η)) ?_
  refine Zn asT ?_
  have hgv := hcg.get (a.getD k default); have hgb := dif_bd (a.take k) (b) (a.getD k default); have hgk := List.length_take_le k a; have hgl := List.length_take_le k b; have hg0 : ([] : List Str).length = 0 := rfl
  refine r_region ?_
  refine Zo mvM ?_
  refine Zo mvT ?_
  refine Zo (run_lookup1 (a := (a.getD k default)) (z := 0) (v := .int _ _) (key_str Tryz.underlying9) rfl Tryz.underlying134 ty_3 η η hmb1 rfl) ?_
  refine Zo (run_sub rfl η η ω ω) ?_
  refine r_mapset (a := _) (key_str Tryz.underlying9) Tryz.underlying134 η η η hmb1 ?_
  intro w16 E16 V16 hm_new
  have Q16 := E16.size
  replace hV := Z1 hV E16 ε
  replace ha := ha0 _ hV
  replace hb := hb0 _ hV
  replace hmb1 := hm_new
  clear hm_new
  refine r_nil ?_
  refine r_blk ?_
  refine r_region ?_
  refine Zo (run_add rfl η η ω ω) ?_
  refine Zn mvI ?_
  refine r_again (k + 1) ?_ ?_ ?_
  ·first | omega | (dsimp only; omega)
  ·refine ⟨_, σ, δ, hmb1, (by rw [take_succD _ k ω]; exact hcg.dec (bump1 rfl)), δ, hV⟩
  exact ψ
 refine r_exit rfl ?_
 refine r_seq ?_
 refine Zs ?_
 refine Zo mvM ?_
 refine r_range rfl Tryz.underlying134 η hmb1 ?_
 intro r17 w18 her17 E18 hir17 hzr17
 have Q18 := E18.size
 replace hV := Z0 hV E18
 replace ha := ha0 _ hV
 replace hb := hb0 _ hV
 replace hmb1 := hmb1.evo0 E18
 refine r_nil ?_
 refine r_block ?_
 have hcg2 := hcg; rw [List.take_of_length_le ω] at hcg2; have hnd := hmb1.nodup
 refine r_loop (α := List (Str × Int)) [10, 11, 37, 38, 39, 40, 41, 42, 43, 44, 45] (fun left g w => ∃ m9 : List (Str × Int), ∃ la : Option (Str × Int), IterIs w r17 b1 S (Value.int .i64) m9 left la ∧ DelI a b m9 left ∧ w18.heap.size ≤ w.heap.size ∧ Evo w0 w []) (fun left => left.length) m ?_ ?_
 ·refine ⟨_, _, hir17, (hcg2.mem hnd), δ, hV⟩
 rintro left g w20 ⟨m9, la, hir17, hdi, hzl19, hV⟩
 have hs_w20hV := hV.size
 refine Zs ?_
 refine r_next rfl η hir17 (fun hn21 => ?_) (fun l1_21 p21 l2_21 w21 hl21 F21 hz21 hi_new => ?_)
 ·skip
  subst hn21
  refine Zn (run_extract (v := .bool _) rfl η η) ?_
  refine r_seq ?_
  refine r_cond_no η ?_
  refine r_exit rfl ?_
  refine Zs ?_
  refine Zo mvM ?_
  refine Zn asM ?_
  refine r_ret (res1 (v := .map _) rfl η) ?_
  exact ⟨_, _, rfl, hV, by omega, hir17.map, hdi.done⟩
 have Q21 := F21.size
 replace hV := Z1 hV F21 ε
 replace ha := ha0 _ hV
 replace hb := hb0 _ hV
 replace hir17 := hi_new
 clear hi_new
 refine Zn (run_extract (v := .bool _) rfl η η) ?_
 refine r_seq ?_
 refine r_cond_yes η ?_
 refine r_skip ?_
 refine r_block ?_
 refine Zs ?_
 refine Zo (run_entryI rfl η hir17) ?_
 refine Zo (run_extract (v := S _) rfl η η) ?_
 refine Zo (run_extract (v := .int _ _) rfl η η) ?_
 refine Zo asT ?_
 refine Zn asI ?_
 refine Zs ?_
 refine Zo mvI ?_
 refine Zn (run_eql rfl η η) ?_
 refine r_cond η (fun hc22 => ?_) (fun hc22 => ?_)
 ·skip
  refine r_region ?_
  refine Zo mvM ?_
  refine Zo mvT ?_
  refine r_delI (p := p21) (key_str Tryz.underlying9) Tryz.underlying134 η η hir17 ?_
  intro w23 E23 V23 hi_new
  have Q23 := E23.size
  replace hV := Z1 hV E23 ε
  replace ha := ha0 _ hV
  replace hb := hb0 _ hV
  replace hir17 := hi_new
  clear hi_new
  refine r_nil ?_
  refine r_blk ?_
  refine r_again (l1_21 ++ l2_21) ?_ ?_ ?_
  ·rw [hl21]; simp
  ·refine ⟨_, _, hir17, (by first | exact (show DelI a b m9 (l1_21 ++ p21 :: l2_21) from hl21 ▸ hdi).strike hc22 | exact (show DelI a b m9 (l1_21 ++ p21 :: l2_21) from hl21 ▸ hdi).keep hc22), δ, hV⟩
  exact ψ
 refine r_skip ?_
 refine r_blk ?_
 refine r_again (l1_21 ++ l2_21) ?_ ?_ ?_
 ·rw [hl21]; simp
 ·refine ⟨_, _, hir17, (by first | exact (show DelI a b m9 (l1_21 ++ p21 :: l2_21) from hl21 ▸ hdi).strike hc22 | exact (show DelI a b m9 (l1_21 ++ p21 :: l2_21) from hl21 ▸ hdi).keep hc22), δ, hV⟩
 exact ψ
set_option maxHeartbeats 1000000 in
theorem differi_calls {aoa : Option Addr} {ba offa capa : Nat} {a : List Vc.Item} {aob : Option Addr} {bb offb capb : Nat} {b : List Vc.Item} {w0 : World} (ha : RowE w0 aoa ba offa capa a) (hb : RowE w0 aob bb offb capb b) (hsa : a.length ≤ 1000000) (hsb : b.length ≤ 1000000) :
    Calls Tryz.prog 106 #[.slice aoa a.length capa, .slice aob b.length capb] w0 fun e w' => ∃ bm m, e = .returned (.map (some bm)) ∧ Evo w0 w' [] ∧ w0.heap.size ≤ bm ∧ MapIs w' bm (fun x : Vc.Item => Value.agg (Enc.enc x).toArray) (Value.int .i64) m ∧ DifM a b m := by
 refine calls_enter (n := 51) Tryz.func106 rfl Tryz.ntmps106 rfl ?_
 have hV : Evo w0 w0 [] := Evo.refl _ _
 have ha0 := keepE ha
 have hbd_ha := ha.bd
 have hb0 := keepE hb
 have hbd_hb := hb.bd
 refine Zs ?_
 refine Zn asM ?_
 refine Zs ?_
 refine r_makeMap (α := Vc.Item) (β := Int) (fun x : Vc.Item => Value.agg (Enc.enc x).toArray) (Value.int .i64) rfl ?_
 intro b1 w2 J1 E2 hmb1 Y1
 have Q2 := E2.size
 replace hV := Z0 hV E2
 replace ha := ha0 _ hV
 replace hb := hb0 _ hV
 refine Zn asM ?_
 refine r_seq ?_
 refine Zs ?_
 refine Zo mvS ?_
 refine Zo (run_lenSl rfl η Tryz.underlying33) ?_
 refine Zn mvI ?_
 refine r_block ?_
 refine r_loop (α := Nat) [7, 15, 16, 17, 18, 19, 20, 21, 22, 23, 24, 25] (fun k g w => ∃ m : List (Vc.Item × Int), g 15 = .int .i64 (k : Nat) ∧ k ≤ b.length ∧ MapIs w b1 (fun x : Vc.Item => Value.agg (Enc.enc x).toArray) (Value.int .i64) m ∧ CntG (b.take k) [] m ∧ w2.heap.size ≤ w.heap.size ∧ Evo w0 w []) (fun k => b.length - k) 0 ?_ ?_
 ·refine ⟨_, σ, δ, hmb1, (by rw [List.take_zero]; exact CntG.nil), δ, hV⟩
 rintro k g w4 ⟨m, hj5, hk_k, hmb1, hcg, hzl3, hV⟩
 have hs_w4hV := hV.size
 have hlt6 := hmb1.lt
 replace ha := ha0 _ hV
 replace hb := hb0 _ hV
 refine Zk 15 (v := .int .i64 (k : Nat)) (by exact hj5) ?_
 refine Zs ?_
 refine Zn (run_lss rfl η η) ?_
 refine r_seq ?_
 refine r_cond η (fun hc7 => ?_) (fun hc7 => ?_)
 ·skip
  refine r_skip ?_
  refine r_seq ?_
  refine r_block ?_
  refine Zs ?_
  refine Zo (run_ix (k) rfl Tryz.underlying33 ty_32 η η (by first | exact rfl | omega) ω (hb.addr (i := k) ω)) ?_
  have hA80 := fun (w' : World) (h : Evo w0 w' []) => (hb0 w' h).atD (k) ω
  have hA8 := hA80 _ hV
  refine Zo (run_ldN rfl ag_32 ty_32 η rfl hA8) ?_
  refine r_var (zs := [_, _, _]) (vs := [_, _, _]) ty_32 η rfl η (fun _ => rfl) η rfl rfl η ?_
  intro b9 w10 J9 E10 B9 Y9
  have Q10 := E10.size
  replace hV := Z0 hV E10
  replace hmb1 := hmb1.evo0 E10
  refine r_nil ?_
  have hgv := hcg.get (b.getD k default); have hgb := dif_bd ([]) (b.take k) (b.getD k default); have hgk := List.length_take_le k a; have hgl := List.length_take_le k b; have hg0 : ([] : List Vc.Item).length = 0 := rfl
  have hB9 : (getM (setM m (b.getD k default) ((getM m (b.getD k default)).getD 0)) (b.getD k default)).getD 0 = (getM m (b.getD k default)).getD 0 := by rw [getM_setM, if_pos rfl]; rfl
  refine r_cut [19, 20, 21, 22, 23, 24] (fun g w => ∃ m2 : List (Vc.Item × Int), MapIs w b1 (fun x : Vc.Item => Value.agg (Enc.enc x).toArray) (Value.int .i64) m2 ∧ Bump m m2 (b.getD k default) 1 ∧ w10.heap.size ≤ w.heap.size ∧ Evo w0 w []) ?_ ?_
  ·skip
   have hmb1_q := hmb1
   have hbb9_q := B9
   have hAb9_q := B9.at
   have hV_q := hV
   refine h_region ([b1]) ζ ?_
   intro w12 F13 hC14
   have Q12 := F13.size
   replace hV := Z0 hV F13
   replace hmb1 := hmb1.evo0 F13
   replace B9 := B9.evo0 F13
   refine Zt (i := 0) η (fun w' hC => mvM) hC14 ?_
   refine Zt (i := 1) η (fun w' hC => run_ldN rfl ag_32 ty_32 η rfl (hAb9_q.evo hC θ)) hC14 ?_
   refine h_two (i := 2) (j := 4) ζ ?_ ?_
   ·skip
    refine h_do η ?_
    refine Zo (run_lookup1 (a := (b.getD k default)) (z := 0) (v := .int _ _) kitem rfl Tryz.underlying74 ty_3 η η hmb1 rfl) ?_
    refine h_next hC14 ?_
    refine Zt (i := 3) η (fun w' hC => run_add rfl η η ω ω) hC14 ?_
    refine Zh (i := 4) ?_
    refine r_mapEntry (a := (b.getD k default)) (z := 0) kitem rfl Tryz.underlying74 ty_3 η η hmb1 ?_
    intro s15 w15 F15 V15 hm_new hst15
    have Q15 := F15.size
    replace hV := Z1 hV F15 ε
    replace hC14 := Z1 hC14 F15 ε
    replace hmb1 := hm_new
    clear hm_new
    refine h_next hC14 ?_
    refine Zt (i := 5) η (fun w' hC => run_extract (v := .int _ _) rfl η η) hC14 ?_
    refine Zh (i := 6) ?_
    refine r_entryStore (a := (b.getD k default)) kitem η η η hmb1 hst15 ?_
    intro w16 F16 V16 hm_new
    have Q16 := F16.size
    replace hV := Z1 hV F16 ε
    replace ha := ha0 _ hV
    replace hb := hb0 _ hV
    replace hmb1 := hm_new
    clear hm_new
    refine h_last ζ ?_
    refine h_done ζ ?_
    refine r_cut_end ?_ ?_
    ·refine ⟨_, hmb1, (by first | exact bumpF 1 | exact bumpT 1), δ, hV⟩
    exact ψ
   refine h_do η ?_
   refine r_mapEntry (a := (b.getD k default)) (z := 0) kitem rfl Tryz.underlying74 ty_3 η η hmb1 ?_
   intro s17 w17 F17 V17 hm_new hst17
   have Q17 := F17.size
   replace hV := Z1 hV F17 ε
   replace hC14 := Z1 hC14 F17 ε
   replace B9 := B9.evo F17 θ
   replace hmb1 := hm_new
   clear hm_new
   refine h_next hC14 ?_
   refine Zt (i := 5) η (fun w' hC => run_extract (v := .int _ _) rfl η η) hC14 ?_
   refine Zh (i := 2) ?_
   refine Zo (run_lookup1 (a := (b.getD k default)) (z := 0) (v := .int _ _) kitem rfl Tryz.underlying74 ty_3 η η hmb1 rfl) ?_
   refine h_next hC14 ?_
   refine Zt (i := 3) η (fun w' hC => run_add rfl η η ω ω) hC14 ?_
   refine Zh (i := 6) ?_
   refine r_entryStore (a := (b.getD k default)) kitem η η η hmb1 hst17 ?_
   intro w18 F18 V18 hm_new
   have Q18 := F18.size
   replace hV := Z1 hV F18 ε
   replace ha := ha0 _ hV
   replace hb := hb0 _ hV
   replace hmb1 := hm_new
   clear hm_new
   refine h_last ζ ?_
   refine h_done ζ ?_
   refine r_cut_end ?_ ?_
   ·refine ⟨_, hmb1, (by first | exact bumpF 1 | exact bumpT 1), δ, hV⟩
   exact ψ
  rintro g w19 ⟨m2, hmb1, hm2, hzl11, hV⟩
  have hs_w19hV := hV.size
  have hlt20 := hmb1.lt
  replace ha := ha0 _ hV
  replace hb := hb0 _ hV
  replace hA8 := hA80 _ hV
  refine r_blk ?_
  refine r_region ?_
  refine Zo (run_add rfl η η ω ω) ?_
  refine Zn mvI ?_
  refine r_again (k + 1) ?_ ?_ ?_
  ·first | omega | (dsimp only; omega)
  ·refine ⟨_, σ, δ, hmb1, (by rw [take_succD _ k ω]; exact hcg.inc hm2), δ, hV⟩
  exact ψ
 refine r_exit rfl ?_
 refine r_seq ?_
 refine Zs ?_
 refine Zo mvS ?_
 refine Zo (run_lenSl rfl η Tryz.underlying33) ?_
 refine Zn mvI ?_
 refine r_block ?_
 have hcg1 := hcg; rw [List.take_of_length_le ω] at hcg1
 refine r_loop (α := Nat) [9, 28, 29, 30, 31, 32, 33, 34, 35, 36, 37, 38] (fun k g w => ∃ m : List (Vc.Item × Int), g 28 = .int .i64 (k : Nat) ∧ k ≤ a.length ∧ MapIs w b1 (fun x : Vc.Item => Value.agg (Enc.enc x).toArray) (Value.int .i64) m ∧ CntG b (a.take k) m ∧ w4.heap.size ≤ w.heap.size ∧ Evo w0 w []) (fun k => a.length - k) 0 ?_ ?_
 ·refine ⟨_, σ, δ, hmb1, (by rw [List.take_zero]; exact hcg1), δ, hV⟩
 rintro k g w22 ⟨m, hj23, hk_k, hmb1, hcg, hzl21, hV⟩
 have hs_w22hV := hV.size
 have hlt24 := hmb1.lt
 replace ha := ha0 _ hV
 refine Zk 28 (v := .int .i64 (k : Nat)) (by exact hj23) ?_
 refine Zs ?_
 refine Zn (run_lss rfl η η) ?_
 refine r_seq ?_
 refine r_cond η (fun hc25 => ?_) (fun hc25 => ?_)
 ·skip
  refine r_skip ?_
  refine r_seq ?_
  refine r_block ?_
  refine Zs ?_
  refine Zo (run_ix (k) rfl Tryz.underlying33 ty_32 η η (by first | exact rfl | omega) ω (ha.addr (i := k) ω)) ?_
  have hA260 := fun (w' : World) (h : Evo w0 w' []) => (ha0 w' h).atD (k) ω
  have hA26 := hA260 _ hV
  refine Zo (run_ldN rfl ag_32 ty_32 η rfl hA26) ?_
  refine r_var (zs := [_, _, _]) (vs := [_, _, _]) ty_32 η rfl η (fun _ => rfl) η rfl rfl η ?_
  intro b27 w28 J27 E28 B27 Y27
  have Q28 := E28.size
  replace hV := Z0 hV E28
  replace hmb1 := hmb1.evo0 E28
  refine r_nil ?_
  have hgv := hcg.get (a.getD k default); have hgb := dif_bd (a.take k) (b) (a.getD k default); have hgk := List.length_take_le k a; have hgl := List.length_take_le k b; have hg0 : ([] : List Vc.Item).length = 0 := rfl
  have hB9 : (getM (setM m (a.getD k default) ((getM m (a.getD k default)).getD 0)) (a.getD k default)).getD 0 = (getM m (a.getD k default)).getD 0 := by rw [getM_setM, if_pos rfl]; rfl
  refine r_cut [32, 33, 34, 35, 36, 37] (fun g w => ∃ m2 : List (Vc.Item × Int), MapIs w b1 (fun x : Vc.Item => Value.agg (Enc.enc x).toArray) (Value.int .i64) m2 ∧ Bump m m2 (a.getD k default) (-1) ∧ w28.heap.size ≤ w.heap.size ∧ Evo w0 w []) ?_ ?_
  ·skip
   have hmb1_q := hmb1
   have hbb27_q := B27
   have hAb27_q := B27.at
   have hV_q := hV
   refine h_region ([b1]) ζ ?_
   intro w30 F31 hC32
   have Q30 := F31.size
   replace hV := Z0 hV F31
   replace hmb1 := hmb1.evo0 F31
   replace B27 := B27.evo0 F31
   refine Zt (i := 0) η (fun w' hC => mvM) hC32 ?_
   refine Zt (i := 1) η (fun w' hC => run_ldN rfl ag_32 ty_32 η rfl (hAb27_q.evo hC θ)) hC32 ?_
   refine h_two (i := 2) (j := 4) ζ ?_ ?_
   ·skip
    refine h_do η ?_
    refine Zo (run_lookup1 (a := (a.getD k default)) (z := 0) (v := .int _ _) kitem rfl Tryz.underlying74 ty_3 η η hmb1 rfl) ?_
    refine h_next hC32 ?_
    refine Zt (i := 3) η (fun w' hC => run_sub rfl η η ω ω) hC32 ?_
    refine Zh (i := 4) ?_
    refine r_mapEntry (a := (a.getD k default)) (z := 0) kitem rfl Tryz.underlying74 ty_3 η η hmb1 ?_
    intro s33 w33 F33 V33 hm_new hst33
    have Q33 := F33.size
    replace hV := Z1 hV F33 ε
    replace hC32 := Z1 hC32 F33 ε
    replace hmb1 := hm_new
    clear hm_new
    refine h_next hC32 ?_
    refine Zt (i := 5) η (fun w' hC => run_extract (v := .int _ _) rfl η η) hC32 ?_
    refine Zh (i := 6) ?_
    refine r_entryStore (a := (a.getD k default)) kitem η η η hmb1 hst33 ?_
    intro w34 F34 V34 hm_new
    have Q34 := F34.size
    replace hV := Z1 hV F34 ε
    replace ha := ha0 _ hV
    replace hb := hb0 _ hV
    replace hmb1 := hm_new
    clear hm_new
    refine h_last ζ ?_
    refine h_done ζ ?_
    refine r_cut_end ?_ ?_
    ·refine ⟨_, hmb1, (by first | exact bumpF (-1) | exact bumpT (-1)), δ, hV⟩
    exact ψ
   refine h_do η ?_
   refine r_mapEntry (a := (a.getD k default)) (z := 0) kitem rfl Tryz.underlying74 ty_3 η η hmb1 ?_
   intro s35 w35 F35 V35 hm_new hst35
   have Q35 := F35.size
   replace hV := Z1 hV F35 ε
   replace hC32 := Z1 hC32 F35 ε
   replace B27 := B27.evo F35 θ
   replace hmb1 := hm_new
   clear hm_new
   refine h_next hC32 ?_
   refine Zt (i := 5) η (fun w' hC => run_extract (v := .int _ _) rfl η η) hC32 ?_
   refine Zh (i := 2) ?_
   refine Zo (run_lookup1 (a := (a.getD k default)) (z := 0) (v := .int _ _) kitem rfl Tryz.underlying74 ty_3 η η hmb1 rfl) ?_
   refine h_next hC32 ?_
   refine Zt (i := 3) η (fun w' hC => run_sub rfl η η ω ω) hC32 ?_
   refine Zh (i := 6) ?_
   refine r_entryStore (a := (a.getD k default)) kitem η η η hmb1 hst35 ?_
   intro w36 F36 V36 hm_new
   have Q36 := F36.size
   replace hV := Z1 hV F36 ε
   replace ha := ha0 _ hV
   replace hb := hb0 _ hV
   replace hmb1 := hm_new
   clear hm_new
   refine h_last ζ ?_
   refine h_done ζ ?_
   refine r_cut_end ?_ ?_
   ·refine ⟨_, hmb1, (by first | exact bumpF (-1) | exact bumpT (-1)), δ, hV⟩
   exact ψ
  rintro g w37 ⟨m2, hmb1, hm2, hzl29, hV⟩
  have hs_w37hV := hV.size
  have hlt38 := hmb1.lt
  replace ha := ha0 _ hV
  replace hb := hb0 _ hV
  replace hA26 := hA260 _ hV
  refine r_blk ?_
  refine r_region ?_
  refine Zo (run_add rfl η η ω ω) ?_
  refine Zn mvI ?_
  refine r_again (k + 1) ?_ ?_ ?_
  ·first | omega | (dsimp only; omega)
  ·refine ⟨_, σ, δ, hmb1, (by rw [take_succD _ k ω]; exact hcg.dec hm2), δ, hV⟩
  exact ψ
 refine r_exit rfl ?_
 refine r_seq ?_
 refine Zs ?_
 refine Zo mvM ?_
 refine r_range rfl Tryz.underlying74 η hmb1 ?_
 intro r39 w40 her39 E40 hir39 hzr39
 have Q40 := E40.size
 replace hV := Z0 hV E40
 replace ha := ha0 _ hV
 replace hb := hb0 _ hV
 replace hmb1 := hmb1.evo0 E40
 refine r_nil ?_
 refine r_block ?_
 have hcg2 := hcg; rw [List.take_of_length_le ω] at hcg2; have hnd := hmb1.nodup
 refine r_loop (α := List (Vc.Item × Int)) [10, 11, 41, 42, 43, 44, 45, 46, 47, 48, 49] (fun left g w => ∃ m9 : List (Vc.Item × Int), ∃ la : Option (Vc.Item × Int), IterIs w r39 b1 (fun x : Vc.Item => Value.agg (Enc.enc x).toArray) (Value.int .i64) m9 left la ∧ DelI a b m9 left ∧ w40.heap.size ≤ w.heap.size ∧ Evo w0 w []) (fun left => left.length) m ?_ ?_
 ·refine ⟨_, _, hir39, (hcg2.mem hnd), δ, hV⟩
 rintro left g w42 ⟨m9, la, hir39, hdi, hzl41, hV⟩
 have hs_w42hV := hV.size
 refine Zs ?_
 refine r_next rfl η hir39 (fun hn43 => ?_) (fun l1_43 p43 l2_43 w43 hl43 F43 hz43 hi_new => ?_)
 ·skip
  subst hn43
  refine Zn (run_extract (v := .bool _) rfl η η) ?_
  refine r_seq ?_
  refine r_cond_no η ?_
  refine r_exit rfl ?_
  refine Zs ?_
  refine Zo mvM ?_
  refine Zn asM ?_
  refine r_ret (res1 (v := .map _) rfl η) ?_
  exact ⟨_, _, rfl, hV, by omega, hir39.map, hdi.done⟩
 have Q43 := F43.size
 replace hV := Z1 hV F43 ε
 replace hir39 := hi_new
 clear hi_new
 refine Zn (run_extract (v := .bool _) rfl η η) ?_
 refine r_seq ?_
 refine r_cond_yes η ?_
 refine r_skip ?_
 refine r_block ?_
 refine Zs ?_
 refine Zo (run_entryI rfl η hir39) ?_
 refine Zo (run_extract (v := .agg _) rfl η η) ?_
 refine Zo (run_extract (v := .int _ _) rfl η η) ?_
 refine r_var (zs := [_, _, _]) (vs := [_, _, _]) ty_32 η rfl η (fun _ => rfl) η rfl rfl η ?_
 intro b44 w45 J44 E45 B44 Y44
 have Q45 := E45.size
 replace hV := Z0 hV E45
 replace ha := ha0 _ hV
 replace hb := hb0 _ hV
 replace hir39 := hir39.evo0 E45
 refine Zn asI ?_
 refine Zs ?_
 refine Zo mvI ?_
 refine Zn (run_eql rfl η η) ?_
 refine r_cond η (fun hc46 => ?_) (fun hc46 => ?_)
 ·skip
  refine r_region ?_
  refine Zo mvM ?_
  refine Zo (run_ldN rfl ag_32 ty_32 η rfl B44.at) ?_
  refine r_delI (p := p43) kitem Tryz.underlying74 η η hir39 ?_
  intro w47 E47 V47 hi_new
  have Q47 := E47.size
  replace hV := Z1 hV E47 ε
  replace ha := ha0 _ hV
  replace hb := hb0 _ hV
  replace hir39 := hi_new
  clear hi_new
  refine r_nil ?_
  refine r_blk ?_
  refine r_again (l1_43 ++ l2_43) ?_ ?_ ?_
  ·rw [hl43]; simp
  ·refine ⟨_, _, hir39, (by first | exact (show DelI a b m9 (l1_43 ++ p43 :: l2_43) from hl43 ▸ hdi).strike hc46 | exact (show DelI a b m9 (l1_43 ++ p43 :: l2_43) from hl43 ▸ hdi).keep hc46), δ, hV⟩
  exact ψ
 refine r_skip ?_
 refine r_blk ?_
 refine r_again (l1_43 ++ l2_43) ?_ ?_ ?_
 ·rw [hl43]; simp
 ·refine ⟨_, _, hir39, (by first | exact (show DelI a b m9 (l1_43 ++ p43 :: l2_43) from hl43 ▸ hdi).strike hc46 | exact (show DelI a b m9 (l1_43 ++ p43 :: l2_43) from hl43 ▸ hdi).keep hc46), δ, hV⟩
 exact ψ
set_option maxHeartbeats 2000000 in
theorem counted_calls {v : Value} {base : Nat} {l : List Vc.Item} {aof : Option Addr} {bf of9 capf : Nat} {f : List Vc.Item} {aog : Option Addr} {bg og capg : Nat} {gg : List Vc.Item} {w0 : World} (hol : OwnE w0 base 39 v l) (hbs : base ≤ w0.heap.size) (hf : ∀ w9, Evo w0 w9 v.ownBlock.toList → RowE w9 aof bf of9 capf f) (hg : ∀ w9, Evo w0 w9 v.ownBlock.toList → RowE w9 aog bg og capg gg) (htab : ∀ w9, Evo w0 w9 v.ownBlock.toList → Tab w9) (htf : Tiny f) (htg : Tiny gg) (hif : ∀ x ∈ tagsL f, InR x) (hig : ∀ x ∈ tagsL gg, InR x) (hsl : l.length ≤ 10000000) :
    Calls Tryz.prog 63 #[v, .slice aof f.length capf, .slice aog gg.length capg] w0 fun e w' => ∃ v', e = .returned v' ∧ Evo w0 w' v.ownBlock.toList ∧ (∃ p1 p2 p3, p1.Perm (slotF f gg) ∧ p2.Perm (tagF f gg) ∧ p3.Perm (numF f gg) ∧ OwnE w' base 39 v' (l ++ (p1 ++ (p2 ++ p3)))) ∧ (∀ g, v'.ownBlock = some g → w0.heap.size ≤ g ∨ g ∈ v.ownBlock.toList) := by
 refine calls_enter (n := 68) Tryz.func63 rfl Tryz.ntmps63 rfl ?_
 have hV : Evo w0 w0 v.ownBlock.toList := Evo.refl _ _
 have hf0 := hf
 replace hf := hf0 _ hV
 have hbd_hf := hf.bd
 have hg0 := hg
 replace hg := hg0 _ hV
 have hbd_hg := hg.bd
 have htab0 := htab
 refine Zs ?_
 refine Zn asS ?_
 refine r_seq ?_
 refine r_seq ?_
 have hobA := fun g hg => (hol.block (g := g) hg).2
 have hQ1 := slotsL_len f; have hQ2 := slotsL_len gg; have hQ3 := sortS_len (slotsL f); have hQ4 := sortS_len (slotsL gg); have hQ5 := htf.1; have hQ6 := htg.1; have hQ7 := numT_len (toks f); have hQ8 := numT_len (toks gg); have hQ9 := htf.tlen; have hQ10 := htg.tlen; have hT1 := tagsL_len f; have hT2 := tagsL_len gg
 refine r_region ?_
 refine Zo mvS ?_
 refine Zr [.slice _ _ _] rfl η Tryz.func48 (slots_calls hf htf.small) ?_
 rintro e w1 ⟨vn1, rfl, F1, hon1⟩
 refine ⟨_, rfl, ?_⟩
 have Q1 := F1.size
 replace hV := Z0 hV F1
 replace hol := hol.evo0 F1
 replace hg := hg0 _ hV
 refine Zo mvS ?_
 refine Zr [.slice _ _ _] rfl η Tryz.func48 (slots_calls hg htg.small) ?_
 rintro e w2 ⟨vn2, rfl, F2, hon2⟩
 refine ⟨_, rfl, ?_⟩
 have Q2 := F2.size
 replace hV := Z0 hV F2
 replace hol := hol.evo0 F2
 replace hon1 := hon1.evo0 F2
 obtain ⟨ao3, g3, cp3, hv3, hr3, hg3⟩ := hon1.rowOf
 subst hv3
 obtain ⟨ao4, g4, cp4, hv4, hr4, hg4⟩ := hon2.rowOf
 subst hv4
 refine Zr [.slice _ _ _, .slice _ _ _] rfl η Tryz.func105 (differs_calls hr3 hr4 ω ω) ?_
 rintro e w5 ⟨bm5, mm5, rfl, F5, hbm5, hmp5, hdm5⟩
 refine ⟨_, rfl, ?_⟩
 have Q5 := F5.size
 replace hV := Z0 hV F5
 replace hol := hol.evo0 F5
 replace hon1 := hon1.evo0 F5
 replace hon2 := hon2.evo0 F5
 replace hr3 := hr3.evo0 F5
 replace hr4 := hr4.evo0 F5
 have hmt5 := hmp5.lt
 refine r_range rfl Tryz.underlying134 η hmp5 ?_
 intro r6 w7 her6 E7 hir6 hzr6
 have Q7 := E7.size
 replace hV := Z0 hV E7
 replace hol := hol.evo0 E7
 replace hf := hf0 _ hV
 replace hg := hg0 _ hV
 replace htab := htab0 _ hV
 replace hon1 := hon1.evo0 E7
 replace hon2 := hon2.evo0 E7
 replace hr3 := hr3.evo0 E7
 replace hr4 := hr4.evo0 E7
 replace hmp5 := hmp5.evo0 E7
 refine r_nil ?_
 refine r_block ?_
 have hmlA := hdm5.len
 have hriA := hir6.lt; have hrmA := hir6.map.lt
 refine r_loop (α := List (Str × Int)) [0, 7, 8, 19, 20, 21, 22, 23, 24, 25, 26, 27, 28, 29] (fun left g w => ∃ la : Option (Str × Int), ∃ voA : Value, ∃ dnA : List (Str × Int), g 0 = voA ∧ IterIs w r6 bm5 S (Value.int .i64) mm5 left la ∧ OwnE w base 39 voA (l ++ dnA.map (mkP 3)) ∧ (∀ g, voA.ownBlock = some g → w0.heap.size ≤ g ∨ g ∈ v.ownBlock.toList) ∧ (∀ g, voA.ownBlock = some g → g ≠ r6 ∧ g ≠ bm5) ∧ (dnA ++ left).Perm mm5 ∧ (r6 < w.heap.size ∧ bm5 < w.heap.size) ∧ w7.heap.size ≤ w.heap.size ∧ Evo w0 w v.ownBlock.toList) (fun left => left.length) mm5 ?_ ?_
 ·refine ⟨_, _, [], rfl, hir6, (by rw [List.map_nil, List.append_nil]; exact hol), (fun g hg => .inr (Option.mem_toList.2 hg)), (fun g hg => by have h7 := hobA g hg; omega), (List.Perm.refl _), ⟨by omega, by omega⟩, δ, hV⟩
 rintro left g w9 ⟨la, voA, dnA, hj10, hir6, hoA, hanA, hdjA, hpmA, hzrA, hzl8, hV⟩
 have hs_w9hV := hV.size
 replace hf := hf0 _ hV
 replace hg := hg0 _ hV
 refine Zk 0 (v := voA) (by exact hj10) ?_
 have hplA := hpmA.length_eq
 rw [List.length_append] at hplA
 have hdlA : (dnA.map (mkP 3)).length = dnA.length := List.length_map _
 refine Zs ?_
 refine r_next rfl η hir6 (fun hn11 => ?_) (fun l1_11 p11 l2_11 w11 hl11 F11 hz11 hi_new => ?_)
 ·skip
  subst hn11
  refine Zn (run_extract (v := .bool _) rfl η η) ?_
  refine r_seq ?_
  refine r_cond_no η ?_
  refine r_exit rfl ?_
  refine r_seq ?_
  refine r_seq ?_
  have hp1 : (dnA.map (mkP 3)).Perm (slotF f gg) := difS_perm hdm5 hpmA
  have hobB := fun g hg => (hoA.block (g := g) hg).2
  have hplA9 := hpmA.length_eq; rw [List.length_append] at hplA9; have hlA : (dnA.map (mkP 3)).length = dnA.length := List.length_map _
  refine r_region ?_
  refine Zo mvS ?_
  refine Zr [.slice _ _ _] rfl η Tryz.func46 (tags_calls hf htf.small) ?_
  rintro e w12 ⟨vn12, rfl, F12, hon12⟩
  refine ⟨_, rfl, ?_⟩
  have Q12 := F12.size
  replace hV := Z0 hV F12
  replace hg := hg0 _ hV
  replace hir6 := hir6.evo0 F12
  replace hoA := hoA.evo0 F12
  refine Zo mvS ?_
  refine Zr [.slice _ _ _] rfl η Tryz.func46 (tags_calls hg htg.small) ?_
  rintro e w13 ⟨vn13, rfl, F13, hon13⟩
  refine ⟨_, rfl, ?_⟩
  have Q13 := F13.size
  replace hV := Z0 hV F13
  replace hir6 := hir6.evo0 F13
  replace hoA := hoA.evo0 F13
  replace hon12 := hon12.evo0 F13
  obtain ⟨ao14, g14, cp14, hv14, hr14, hg14⟩ := hon12.rowOf
  subst hv14
  obtain ⟨ao15, g15, cp15, hv15, hr15, hg15⟩ := hon13.rowOf
  subst hv15
  refine Zr [.slice _ _ _, .slice _ _ _] rfl η Tryz.func106 (differi_calls hr14 hr15 ω ω) ?_
  rintro e w16 ⟨bm16, mm16, rfl, F16, hbm16, hmp16, hdm16⟩
  refine ⟨_, rfl, ?_⟩
  have Q16 := F16.size
  replace hV := Z0 hV F16
  replace hir6 := hir6.evo0 F16
  replace hoA := hoA.evo0 F16
  replace hon12 := hon12.evo0 F16
  replace hon13 := hon13.evo0 F16
  replace hr14 := hr14.evo0 F16
  replace hr15 := hr15.evo0 F16
  have hmt16 := hmp16.lt
  refine r_range rfl Tryz.underlying74 η hmp16 ?_
  intro r17 w18 her17 E18 hir17 hzr17
  have Q18 := E18.size
  replace hV := Z0 hV E18
  replace hf := hf0 _ hV
  replace hg := hg0 _ hV
  replace htab := htab0 _ hV
  replace hir6 := hir6.evo0 E18
  replace hoA := hoA.evo0 E18
  replace hon12 := hon12.evo0 E18
  replace hon13 := hon13.evo0 E18
  replace hr14 := hr14.evo0 E18
  replace hr15 := hr15.evo0 E18
  replace hmp16 := hmp16.evo0 E18
  refine r_nil ?_
  refine r_block ?_
  have hmlB := hdm16.len
  have hriB := hir17.lt; have hrmB := hir17.map.lt
  refine r_loop (α := List (Vc.Item × Int)) [0, 9, 10, 36, 37, 38, 39, 40, 41, 42, 43, 44, 45, 46, 47] (fun left g w => ∃ la : Option (Vc.Item × Int), ∃ voB : Value, ∃ dnB : List (Vc.Item × Int), g 0 = voB ∧ IterIs w r17 bm16 (fun x : Vc.Item => Value.agg (Enc.enc x).toArray) (Value.int .i64) mm16 left la ∧ OwnE w base 39 voB ((l ++ dnA.map (mkP 3)) ++ dnB.map mkQ) ∧ (∀ g, voB.ownBlock = some g → w0.heap.size ≤ g ∨ g ∈ v.ownBlock.toList) ∧ (∀ g, voB.ownBlock = some g → g ≠ r17 ∧ g ≠ bm16) ∧ (dnB ++ left).Perm mm16 ∧ (r17 < w.heap.size ∧ bm16 < w.heap.size) ∧ w18.heap.size ≤ w.heap.size ∧ Evo w0 w v.ownBlock.toList) (fun left => left.length) mm16 ?_ ?_
  ·refine ⟨_, _, [], rfl, hir17, (by rw [List.map_nil, List.append_nil]; exact hoA), hanA, (fun g hg => by have h7 := hobB g hg; omega), (List.Perm.refl _), ⟨by omega, by omega⟩, δ, hV⟩
  rintro left g w20 ⟨la, voB, dnB, hj21, hir17, hoB, hanB, hdjB, hpmB, hzrB, hzl19, hV⟩
  have hs_w20hV := hV.size
  replace hf := hf0 _ hV
  replace hg := hg0 _ hV
  refine Zk 0 (v := voB) (by exact hj21) ?_
  have hplB := hpmB.length_eq
  rw [List.length_append] at hplB
  have hdlB : (dnB.map mkQ).length = dnB.length := List.length_map _
  refine Zs ?_
  refine r_next rfl η hir17 (fun hn22 => ?_) (fun l1_22 p22 l2_22 w22 hl22 F22 hz22 hi_new => ?_)
  ·skip
   subst hn22
   refine Zn (run_extract (v := .bool _) rfl η η) ?_
   refine r_seq ?_
   refine r_cond_no η ?_
   refine r_exit rfl ?_
   refine r_seq ?_
   refine r_seq ?_
   have hp2 : (dnB.map mkQ).Perm (tagF f gg) := difT_perm hdm16 hpmB
   have hobC := fun g hg => (hoB.block (g := g) hg).2
   have hplB9 := hpmB.length_eq; rw [List.length_append] at hplB9; have hlB : (dnB.map mkQ).length = dnB.length := List.length_map _; rw [List.length_nil] at hplA9 hplB9
   refine r_region ?_
   refine Zo mvS ?_
   refine Zr [.slice _ _ _] rfl η Tryz.func59 (tokens_calls hf htf.tk) ?_
   rintro e w23 ⟨vt23, rfl, F23, hot23⟩
   refine ⟨_, rfl, ?_⟩
   have Q23 := F23.size
   replace hV := Z0 hV F23
   replace hir17 := hir17.evo0 F23
   replace hoB := hoB.evo0 F23
   obtain ⟨ao24, g24, cp24, hv24, hr24, hg24⟩ := hot23.rowOf
   subst hv24
   refine Zr [.slice _ _ _] rfl η Tryz.func108 (numbers_calls hr24 ω) ?_
   rintro e w25 ⟨vn25, rfl, F25, hon25⟩
   refine ⟨_, rfl, ?_⟩
   have Q25 := F25.size
   replace hV := Z0 hV F25
   replace hg := hg0 _ hV
   replace hir17 := hir17.evo0 F25
   replace hoB := hoB.evo0 F25
   replace hot23 := hot23.evo0 F25
   replace hr24 := hr24.evo0 F25
   refine Zo mvS ?_
   refine Zr [.slice _ _ _] rfl η Tryz.func59 (tokens_calls hg htg.tk) ?_
   rintro e w26 ⟨vt26, rfl, F26, hot26⟩
   refine ⟨_, rfl, ?_⟩
   have Q26 := F26.size
   replace hV := Z0 hV F26
   replace hir17 := hir17.evo0 F26
   replace hoB := hoB.evo0 F26
   replace hot23 := hot23.evo0 F26
   replace hr24 := hr24.evo0 F26
   replace hon25 := hon25.evo0 F26
   obtain ⟨ao27, g27, cp27, hv27, hr27, hg27⟩ := hot26.rowOf
   subst hv27
   refine Zr [.slice _ _ _] rfl η Tryz.func108 (numbers_calls hr27 ω) ?_
   rintro e w28 ⟨vn28, rfl, F28, hon28⟩
   refine ⟨_, rfl, ?_⟩
   have Q28 := F28.size
   replace hV := Z0 hV F28
   replace hir17 := hir17.evo0 F28
   replace hoB := hoB.evo0 F28
   replace hot23 := hot23.evo0 F28
   replace hr24 := hr24.evo0 F28
   replace hon25 := hon25.evo0 F28
   replace hot26 := hot26.evo0 F28
   replace hr27 := hr27.evo0 F28
   obtain ⟨ao29, g29, cp29, hv29, hr29, hg29⟩ := hon25.rowOf
   subst hv29
   obtain ⟨ao30, g30, cp30, hv30, hr30, hg30⟩ := hon28.rowOf
   subst hv30
   refine Zr [.slice _ _ _, .slice _ _ _] rfl η Tryz.func105 (differs_calls hr29 hr30 ω ω) ?_
   rintro e w31 ⟨bm31, mm31, rfl, F31, hbm31, hmp31, hdm31⟩
   refine ⟨_, rfl, ?_⟩
   have Q31 := F31.size
   replace hV := Z0 hV F31
   replace hir17 := hir17.evo0 F31
   replace hoB := hoB.evo0 F31
   replace hot23 := hot23.evo0 F31
   replace hr24 := hr24.evo0 F31
   replace hon25 := hon25.evo0 F31
   replace hot26 := hot26.evo0 F31
   replace hr27 := hr27.evo0 F31
   replace hon28 := hon28.evo0 F31
   replace hr29 := hr29.evo0 F31
   replace hr30 := hr30.evo0 F31
   have hmt31 := hmp31.lt
   refine r_range rfl Tryz.underlying134 η hmp31 ?_
   intro r32 w33 her32 E33 hir32 hzr32
   have Q33 := E33.size
   replace hV := Z0 hV E33
   replace hf := hf0 _ hV
   replace hg := hg0 _ hV
   replace htab := htab0 _ hV
   replace hir17 := hir17.evo0 E33
   replace hoB := hoB.evo0 E33
   replace hot23 := hot23.evo0 E33
   replace hr24 := hr24.evo0 E33
   replace hon25 := hon25.evo0 E33
   replace hot26 := hot26.evo0 E33
   replace hr27 := hr27.evo0 E33
   replace hon28 := hon28.evo0 E33
   replace hr29 := hr29.evo0 E33
   replace hr30 := hr30.evo0 E33
   replace hmp31 := hmp31.evo0 E33
   refine r_nil ?_
   refine r_block ?_
   have hmlC := hdm31.len
   have hriC := hir32.lt; have hrmC := hir32.map.lt
   refine r_loop (α := List (Str × Int)) [0, 11, 12, 56, 57, 58, 59, 60, 61, 62, 63, 64, 65, 66] (fun left g w => ∃ la : Option (Str × Int), ∃ voC : Value, ∃ dnC : List (Str × Int), g 0 = voC ∧ IterIs w r32 bm31 S (Value.int .i64) mm31 left la ∧ OwnE w base 39 voC ((l ++ dnA.map (mkP 3) ++ dnB.map mkQ) ++ dnC.map (mkP 6)) ∧ (∀ g, voC.ownBlock = some g → w0.heap.size ≤ g ∨ g ∈ v.ownBlock.toList) ∧ (∀ g, voC.ownBlock = some g → g ≠ r32 ∧ g ≠ bm31) ∧ (dnC ++ left).Perm mm31 ∧ (r32 < w.heap.size ∧ bm31 < w.heap.size) ∧ w33.heap.size ≤ w.heap.size ∧ Evo w0 w v.ownBlock.toList) (fun left => left.length) mm31 ?_ ?_
   ·refine ⟨_, _, [], rfl, hir32, (by rw [List.map_nil, List.append_nil]; exact hoB), hanB, (fun g hg => by have h7 := hobC g hg; omega), (List.Perm.refl _), ⟨by omega, by omega⟩, δ, hV⟩
   rintro left g w35 ⟨la, voC, dnC, hj36, hir32, hoC, hanC, hdjC, hpmC, hzrC, hzl34, hV⟩
   have hs_w35hV := hV.size
   refine Zk 0 (v := voC) (by exact hj36) ?_
   have hplC := hpmC.length_eq
   rw [List.length_append] at hplC
   have hdlC : (dnC.map (mkP 6)).length = dnC.length := List.length_map _
   refine Zs ?_
   refine r_next rfl η hir32 (fun hn37 => ?_) (fun l1_37 p37 l2_37 w37 hl37 F37 hz37 hi_new => ?_)
   ·skip
    subst hn37
    refine Zn (run_extract (v := .bool _) rfl η η) ?_
    refine r_seq ?_
    refine r_cond_no η ?_
    refine r_exit rfl ?_
    refine Zs ?_
    refine Zo (run_mv (v := voC) rfl η) ?_
    refine Zn (run_asg (v := voC) rfl η) ?_
    refine r_ret (res1 (v := voC) rfl η) ?_
    exact ⟨_, rfl, hV, ⟨_, _, _, hp1, hp2, difS_perm hdm31 hpmC, by have h9 := hoC; rw [List.append_assoc, List.append_assoc] at h9; exact h9⟩, hanC⟩
   have Q37 := F37.size
   replace hV := Z1 hV F37 ε
   replace hg := hg0 _ hV
   replace hoC := hoC.evo F37 (by intro g hg hm; simp at hm; subst hm; first | exact (hdjC _ hg).1 rfl | exact (hdjC _ hg).2 rfl | (have := hoC.block hg; omega))
   replace hir32 := hi_new
   clear hi_new
   refine Zn (run_extract (v := .bool _) rfl η η) ?_
   refine r_seq ?_
   refine r_cond_yes η ?_
   refine r_skip ?_
   refine r_block ?_
   refine Zs ?_
   refine Zo (run_entryI rfl η hir32) ?_
   refine Zo (run_extract (v := S _) rfl η η) ?_
   refine Zo (run_extract (v := .int _ _) rfl η η) ?_
   refine Zo asT ?_
   refine Zn asI ?_
   refine r_region ?_
   refine Zo (run_mv (v := voC) rfl η) ?_
   refine Zo mvT ?_
   refine Zo mvI ?_
   refine Zo (run_bld (pv := [(0, .int _ _), (1, S _), (2, .int _ _)]) (zs := [_, _, _]) (cells := [_, _, _]) rfl ty_39 η pl_39 η η) ?_
   refine r_append1E (u := .agg _) (y := mkP 6 p37) rfl rfl Tryz.underlying34 ty_39 η hoC (fun _ => η) η (by first | exact rfl | (show _ = List.toArray [_, _, _]; first | (dsimp only; done) | exact rfl | (dsimp only; exact rfl))) ((by first | omega | (simp only [List.length_append]; omega))) ((by first | omega | (simp only [List.length_append]; omega))) ω ?_
   intro q_v38 v38 w39 E39 hov38 hlv38
   have Q39 := E39.size
   replace hV := evo_stepo hV E39 (fun g hg => hanC g hg)
   replace hf := hf0 _ hV
   replace hg := hg0 _ hV
   replace htab := htab0 _ hV
   replace hir32 := hir32.evo E39 (by intro hm; have hm2 := Option.mem_toList.1 hm; first | exact (hdjC _ hm2).1 rfl | exact (hdjC _ hm2).2 rfl) (by intro hm; have hm2 := Option.mem_toList.1 hm; first | exact (hdjC _ hm2).1 rfl | exact (hdjC _ hm2).2 rfl)
   replace hanC := own_anch hlv38 hanC ω
   replace hdjC := own_apart hlv38 hdjC ω ω
   have hoC := hov38
   refine Zn (run_asg (v := v38) rfl η) ?_
   refine r_blk ?_
   refine r_again (l1_37 ++ l2_37) ?_ ?_ ?_
   ·rw [hl37]; simp
   ·refine ⟨_, _, _, rfl, hir32, (by rw [app_map]; exact hoC), hanC, hdjC, (mdone (by rw [← hl37]; exact hpmC)), ⟨by omega, by omega⟩, δ, hV⟩
   exact ψ
  have Q22 := F22.size
  replace hV := Z1 hV F22 ε
  replace hg := hg0 _ hV
  replace hoB := hoB.evo F22 (by intro g hg hm; simp at hm; subst hm; first | exact (hdjB _ hg).1 rfl | exact (hdjB _ hg).2 rfl | (have := hoB.block hg; omega))
  replace hir17 := hi_new
  clear hi_new
  refine Zn (run_extract (v := .bool _) rfl η η) ?_
  refine r_seq ?_
  refine r_cond_yes η ?_
  refine r_skip ?_
  refine r_block ?_
  refine Zs ?_
  refine Zo (run_entryI rfl η hir17) ?_
  refine Zo (run_extract (v := .agg _) rfl η η) ?_
  refine Zo (run_extract (v := .int _ _) rfl η η) ?_
  have hob40 := fun g hg => (hoB.block (g := g) hg).2
  refine r_var (zs := [_, _, _]) (vs := [_, _, _]) ty_32 η rfl η (fun _ => rfl) η rfl rfl η ?_
  intro b41 w42 J41 E42 B41 Y41
  have Q42 := E42.size
  replace hV := Z0 hV E42
  replace htab := htab0 _ hV
  replace hoB := hoB.evo0 E42
  replace hir17 := hir17.evo0 E42
  refine Zn asI ?_
  have hpx := hpmB.mem_iff.1 (List.mem_append_right dnB (show p22 ∈ left by rw [hl22]; simp))
  have hpt : p22.1 ∈ f ∨ p22.1 ∈ gg := (difM_mem hdm16 hpx).imp (fun h => (List.mem_filter.1 h).1) (fun h => (List.mem_filter.1 h).1)
  have hxi : InR p22.1 := (difM_mem hdm16 hpx).elim (hif _) (hig _)
  have hxt : p22.1.text.length ≤ 100000 := hpt.elim htf.txt htg.txt
  refine r_region ?_
  refine Zo (run_mv (v := voB) rfl η) ?_
  refine Zo (run_ldN rfl ag_32 ty_32 η rfl B41.at) ?_
  refine Zr [.agg _] rfl η Tryz.func107 (tag_calls htab hxt hxi) ?_
  rintro e w43 ⟨rfl, F43⟩
  refine ⟨_, rfl, ?_⟩
  have Q43 := F43.size
  replace hV := Z0 hV F43
  replace hg := hg0 _ hV
  replace hoB := hoB.evo0 F43
  replace hir17 := hir17.evo0 F43
  refine Zo mvI ?_
  refine Zo (run_bld (pv := [(0, .int _ _), (1, S _), (2, .int _ _)]) (zs := [_, _, _]) (cells := [_, _, _]) rfl ty_39 η pl_39 η η) ?_
  refine r_append1E (u := .agg _) (y := mkQ p22) rfl rfl Tryz.underlying34 ty_39 η hoB (fun _ => η) η (by first | exact rfl | (show _ = List.toArray [_, _, _]; first | (dsimp only; done) | exact rfl | (dsimp only; exact rfl))) ((by first | omega | (simp only [List.length_append]; omega))) ((by first | omega | (simp only [List.length_append]; omega))) ω ?_
  intro q_v44 v44 w45 E45 hov44 hlv44
  have Q45 := E45.size
  replace hV := evo_stepo hV E45 (fun g hg => hanB g hg)
  replace hf := hf0 _ hV
  replace hg := hg0 _ hV
  replace htab := htab0 _ hV
  replace hir17 := hir17.evo E45 (by intro hm; have hm2 := Option.mem_toList.1 hm; first | exact (hdjB _ hm2).1 rfl | exact (hdjB _ hm2).2 rfl) (by intro hm; have hm2 := Option.mem_toList.1 hm; first | exact (hdjB _ hm2).1 rfl | exact (hdjB _ hm2).2 rfl)
  replace hanB := own_anch hlv44 hanB ω
  replace hdjB := own_apart hlv44 hdjB ω ω
  have hoB := hov44
  refine Zn (run_asg (v := v44) rfl η) ?_
  refine r_blk ?_
  refine r_again (l1_22 ++ l2_22) ?_ ?_ ?_
  ·rw [hl22]; simp
  ·refine ⟨_, _, _, rfl, hir17, (by rw [app_map]; exact hoB), hanB, hdjB, (mdone (by rw [← hl22]; exact hpmB)), ⟨by omega, by omega⟩, δ, hV⟩
  exact ψ
 have Q11 := F11.size
 replace hV := Z1 hV F11 ε
 replace hg := hg0 _ hV
 replace hoA := hoA.evo F11 (by intro g hg hm; simp at hm; subst hm; first | exact (hdjA _ hg).1 rfl | exact (hdjA _ hg).2 rfl | (have := hoA.block hg; omega))
 replace hir6 := hi_new
 clear hi_new
 refine Zn (run_extract (v := .bool _) rfl η η) ?_
 refine r_seq ?_
 refine r_cond_yes η ?_
 refine r_skip ?_
 refine r_block ?_
 refine Zs ?_
 refine Zo (run_entryI rfl η hir6) ?_
 refine Zo (run_extract (v := S _) rfl η η) ?_
 refine Zo (run_extract (v := .int _ _) rfl η η) ?_
 refine Zo asT ?_
 refine Zn asI ?_
 refine r_region ?_
 refine Zo (run_mv (v := voA) rfl η) ?_
 refine Zo mvT ?_
 refine Zo mvI ?_
 refine Zo (run_bld (pv := [(0, .int _ _), (1, S _), (2, .int _ _)]) (zs := [_, _, _]) (cells := [_, _, _]) rfl ty_39 η pl_39 η η) ?_
 refine r_append1E (u := .agg _) (y := mkP 3 p11) rfl rfl Tryz.underlying34 ty_39 η hoA (fun _ => η) η (by first | exact rfl | (show _ = List.toArray [_, _, _]; first | (dsimp only; done) | exact rfl | (dsimp only; exact rfl))) ((by first | omega | (simp only [List.length_append]; omega))) ((by first | omega | (simp only [List.length_append]; omega))) ω ?_
 intro q_v46 v46 w47 E47 hov46 hlv46
 have Q47 := E47.size
 replace hV := evo_stepo hV E47 (fun g hg => hanA g hg)
 replace hf := hf0 _ hV
 replace hg := hg0 _ hV
 replace htab := htab0 _ hV
 replace hir6 := hir6.evo E47 (by intro hm; have hm2 := Option.mem_toList.1 hm; first | exact (hdjA _ hm2).1 rfl | exact (hdjA _ hm2).2 rfl) (by intro hm; have hm2 := Option.mem_toList.1 hm; first | exact (hdjA _ hm2).1 rfl | exact (hdjA _ hm2).2 rfl)
 replace hanA := own_anch hlv46 hanA ω
 replace hdjA := own_apart hlv46 hdjA ω ω
 have hoA := hov46
 refine Zn (run_asg (v := v46) rfl η) ?_
 refine r_blk ?_
 refine r_again (l1_11 ++ l2_11) ?_ ?_ ?_
 ·rw [hl11]; simp
 ·refine ⟨_, _, _, rfl, hir6, (by rw [app_map]; exact hoA), hanA, hdjA, (mdone (by rw [← hl11]; exact hpmA)), ⟨by omega, by omega⟩, δ, hV⟩
 exact ψ
end Go.Proofs.YtlfjocbnbceceaaGreatDoor
