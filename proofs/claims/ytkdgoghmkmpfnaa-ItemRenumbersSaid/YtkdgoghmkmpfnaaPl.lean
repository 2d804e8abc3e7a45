/-
  Plain: what the functions of alignment compute, and laws of it.
-/
import Derived.Test.YtkdgoghmkmpfnaaMap
namespace Go.Vc
open Go Go.RowKit

theorem take_succD {α : Type} [Inhabited α] (l : List α) (k : Nat) (h : k < l.length) : l.take (k + 1) = l.take k ++ [l.getD k default] := by
  rw [List.take_succ_eq_append_getElem h]; simp [List.getD, h]

def baseL (a b : Int) : Int × Bool :=
  if a = 1 ∧ b = 1 then (0, true) else if a = 2 ∧ b = 1 ∨ a = 1 ∧ b = 2 then (150, true)
  else if a = 2 ∧ b = 2 then (300, true) else if a = 1 ∧ b = 0 ∨ a = 0 ∧ b = 1 then (400, true) else (0, false)
theorem baseL_small {a b : Int} (h : (baseL a b).2 = true) (_ha : 0 ≤ a) (_hb : 0 ≤ b) : a ≤ 2 ∧ b ≤ 2 := by
  unfold baseL at h
  repeat (split at h; · omega)
  cases h
theorem baseL_bd (a b : Int) : 0 ≤ (baseL a b).1 ∧ (baseL a b).1 ≤ 400 := by
  unfold baseL
  repeat (split; · simp)
  simp
def timesL (l : List Str) (x : Str) : Int := (l.count x : Nat)
theorem timesL_bd (l : List Str) (x : Str) : 0 ≤ timesL l x ∧ timesL l x ≤ l.length := ⟨by unfold timesL; omega, by unfold timesL; have := List.count_le_length (a := x) (l := l); omega⟩
theorem times_succ (l : List Str) (k : Nat) (x : Str) (h : k < l.length) : timesL (l.take (k + 1)) x = timesL (l.take k) x + if l.getD k default = x then 1 else 0 := by
  unfold timesL
  rw [take_succD l k h, List.count_append]
  simp only [List.count_cons, List.count_nil]
  by_cases hx : l.getD k default = x
  · rw [if_pos hx, if_pos (by simpa using hx)]; rfl
  · rw [if_neg hx, if_neg (by simpa using hx)]; rfl

def clampL (n : Int) : Int := max (min n 1024) 0
theorem clampL_bd (n : Int) : 0 ≤ clampL n ∧ clampL n ≤ 1024 := by unfold clampL; omega
def lenSum (l : List Side) : Int := (l.map (fun s => clampL s.len)).sum
theorem lenSum_nil : lenSum [] = 0 := rfl
theorem lenSum_succ (l : List Side) (k : Nat) (h : k < l.length) : lenSum (l.take (k + 1)) = lenSum (l.take k) + clampL (l.getD k default).len := by
  unfold lenSum; rw [take_succD l k h]; simp
theorem lenSum_bd : ∀ (l : List Side), 0 ≤ lenSum l ∧ lenSum l ≤ 1024 * l.length
  | [] => by simp [lenSum]
  | s :: l => by
    have h1 := lenSum_bd l
    have h2 := clampL_bd s.len
    have h3 : lenSum (s :: l) = clampL s.len + lenSum l := by simp [lenSum]
    simp only [List.length_cons]
    omega
def anch (l : List Side) : List Str := l.flatMap (fun s => s.anchors.take 512)
theorem anch_nil : anch [] = [] := rfl
theorem anch_succ (l : List Side) (k : Nat) (h : k < l.length) : anch (l.take (k + 1)) = anch (l.take k) ++ (l.getD k default).anchors.take 512 := by
  unfold anch; rw [take_succD l k h]; simp
theorem anch_bd : ∀ (l : List Side), (anch l).length ≤ 512 * l.length
  | [] => by simp [anch]
  | s :: l => by
    have h1 := anch_bd l
    have h3 : anch (s :: l) = s.anchors.take 512 ++ anch l := by simp [anch]
    rw [h3, List.length_append, List.length_take, List.length_cons]
    omega
def bump (by_ : Int) (m : List (Str × Int)) (a : Str) : List (Str × Int) := setM m a ((getM m a).getD 0 + by_)

theorem getM_cons {α β : Type} [DecidableEq α] (p : α × β) (m : List (α × β)) (y : α) : getM (p :: m) y = if p.1 = y then some p.2 else getM m y := by
  unfold getM
  rw [List.find?_cons]
  by_cases h : p.1 = y <;> simp [h]
theorem getM_mapset {α β : Type} [DecidableEq α] (x y : α) (v : β) : ∀ (m : List (α × β)), getM (m.map (fun p => if p.1 = x then (x, v) else p)) y = if x = y then (if m.any (·.1 = x) then some v else none) else getM m y
  | [] => by by_cases h : x = y <;> simp [getM, h]
  | p :: m => by
    have ih := getM_mapset x y v m
    rw [List.map_cons, getM_cons, getM_cons, ih]
    by_cases hp : p.1 = x
    · by_cases hxy : x = y
      · simp [hp, hxy]
      · have : ¬ p.1 = y := by rw [hp]; exact hxy
        simp [hp, hxy]
    · by_cases hxy : x = y
      · subst hxy
        simp only [if_true, List.any_cons, decide_eq_false hp, Bool.false_or, if_neg hp]
      · simp [hp, hxy]
theorem getM_app {α β : Type} [DecidableEq α] (y : α) (x : α) (v : β) : ∀ (m : List (α × β)), (∀ p ∈ m, p.1 ≠ x) → getM (m ++ [(x, v)]) y = if x = y then some v else getM m y
  | [], _ => by rw [List.nil_append, getM_cons]
  | p :: m, h => by
    have ih := getM_app y x v m (fun q hq => h q (by simp [hq]))
    rw [List.cons_append, getM_cons, getM_cons, ih]
    have hp := h p (by simp)
    by_cases hpy : p.1 = y
    · have : ¬ x = y := fun e => hp (by rw [hpy, e])
      simp [hpy, this]
    · simp [hpy]
theorem getM_setM {α β : Type} [DecidableEq α] (m : List (α × β)) (x y : α) (v : β) : getM (setM m x v) y = if x = y then some v else getM m y := by
  rcases find_idx x m with h | ⟨i, u, h, hne⟩
  · rw [setM_miss h, getM_app y x v m h]
  · have hany : (m.any (·.1 = x)) = true := by simp only [List.any_eq_true]; exact ⟨_, List.mem_of_getElem? h, by simp⟩
    unfold setM
    rw [if_pos hany, getM_mapset, hany]
    simp
/-- counting up (or down) each word of a list -/
def bumps (d : Int) (m : List (Str × Int)) (l : List Str) : List (Str × Int) := l.foldl (bump d) m
theorem bumps_append (d : Int) (m : List (Str × Int)) (l r : List Str) : bumps d m (l ++ r) = bumps d (bumps d m l) r := by unfold bumps; rw [List.foldl_append]
theorem getM_bumps (d : Int) (x : Str) : ∀ (l : List Str) (m : List (Str × Int)), (getM (bumps d m l) x).getD 0 = (getM m x).getD 0 + d * timesL l x
  | [], m => by simp [bumps, timesL]
  | a :: l, m => by
    have ih := getM_bumps d x l (bump d m a)
    show (getM (bumps d (bump d m a) l) x).getD 0 = _
    rw [ih]
    unfold bump
    rw [getM_setM]
    unfold timesL
    rw [List.count_cons]
    by_cases h : a = x
    · subst h
      simp [Int.mul_add]
      omega
    · have hb : (a == x) = false := by simpa using h
      simp [h, hb]
theorem bumps_at {m : List (Str × Int)} {c d : Int} (hc : ∀ x, -c ≤ (getM m x).getD 0 ∧ (getM m x).getD 0 ≤ c) (hd : -1 ≤ d ∧ d ≤ 1) (hc2 : c ≤ 1000000000) (l : List Str) (x : Str) (hl : l.length ≤ 1000000000) :
    -2000000000 ≤ (getM (bumps d m l) x).getD 0 ∧ (getM (bumps d m l) x).getD 0 ≤ 2000000000 := by
  rw [getM_bumps]
  have h1 := hc x
  have h2 := timesL_bd l x
  have h3 : d = -1 ∨ d = 0 ∨ d = 1 := by omega
  rcases h3 with rfl | rfl | rfl <;> omega
theorem keys_bumps (d : Int) : ∀ (l : List Str) (m : List (Str × Int)), (m.map (·.1)).Nodup → ((bumps d m l).map (·.1)).Nodup
  | [], _, h => h
  | a :: l, m, h => keys_bumps d l (bump d m a) (keys_setM _ _ _ h)
def missL (a b : List Str) : Int := ((List.range a.length).map (fun i => if timesL b (a.getD i default) < timesL (a.take (i + 1)) (a.getD i default) then (1 : Int) else 0)).sum
def missTo (a b : List Str) (k : Nat) : Int := ((List.range k).map (fun i => if timesL b (a.getD i default) < timesL (a.take (i + 1)) (a.getD i default) then (1 : Int) else 0)).sum
theorem missTo_succ (a b : List Str) (k : Nat) : missTo a b (k + 1) = missTo a b k + if timesL b (a.getD k default) < timesL (a.take (k + 1)) (a.getD k default) then 1 else 0 := by
  unfold missTo; rw [List.range_succ]; simp
theorem missTo_bd (a b : List Str) : ∀ k, 0 ≤ missTo a b k ∧ missTo a b k ≤ k
  | 0 => by simp [missTo]
  | k + 1 => by
    have := missTo_bd a b k
    rw [missTo_succ]
    split <;> omega
/-- the reference's price of a bead -/
def refCost (a b : List Side) : Int × Bool :=
  if (baseL a.length b.length).2 then ((baseL a.length b.length).1 + 10 * max (lenSum a - lenSum b) (-(lenSum a - lenSum b)) + 30 * (missL (anch a) (anch b) + missL (anch b) (anch a)), true) else (0, false)
def absSum (m : List (Str × Int)) : Int := (m.map (fun p => max p.2 (-p.2))).sum
/-- the program's -/
def ourCost (a b : List Side) : Int × Bool :=
  if (baseL a.length b.length).2 then ((baseL a.length b.length).1 + 30 * absSum (bumps (-1) (bumps 1 [] (anch a)) (anch b)) + 10 * max (lenSum a - lenSum b) (lenSum b - lenSum a), true) else (0, false)

/-! sums over keys -/
def keySum (f : Str → Int) (K : List Str) : Int := (K.map f).sum
theorem keySum_congr {f g : Str → Int} : ∀ (K : List Str), (∀ k ∈ K, f k = g k) → keySum f K = keySum g K
  | [], _ => rfl
  | k :: K, h => by
    have ih := keySum_congr (f := f) (g := g) K (fun x hx => h x (by simp [hx]))
    simp only [keySum, List.map_cons, List.sum_cons] at *
    rw [ih, h k (by simp)]
theorem keySum_add (f g : Str → Int) : ∀ (K : List Str), keySum (fun k => f k + g k) K = keySum f K + keySum g K
  | [] => rfl
  | k :: K => by
    have ih := keySum_add f g K
    simp only [keySum, List.map_cons, List.sum_cons] at *
    omega
theorem keySum_one (f : Str → Int) (a : Str) (d : Int) : ∀ (K : List Str), K.Nodup → a ∈ K → keySum (fun k => f k + if k = a then d else 0) K = keySum f K + d
  | [], _, h => by simp at h
  | k :: K, hn, h => by
    simp only [List.nodup_cons] at hn
    simp only [keySum, List.map_cons, List.sum_cons]
    by_cases hk : k = a
    · subst hk
      have hc : keySum (fun x => f x + if x = k then d else 0) K = keySum f K := keySum_congr K (fun x hx => by
        have : x ≠ k := fun e => hn.1 (e ▸ hx)
        simp [this])
      simp only [keySum] at hc
      rw [hc]
      simp
      omega
    · have ih := keySum_one f a d K hn.2 (by simpa [Ne.symm hk] using (List.mem_cons.1 h).resolve_left (Ne.symm hk))
      simp only [keySum] at ih
      rw [ih]
      simp [hk]
      omega
theorem timesL_snoc (x : List Str) (a k : Str) : timesL (x ++ [a]) k = timesL x k + if k = a then 1 else 0 := by
  unfold timesL
  rw [List.count_append, List.count_cons, List.count_nil]
  by_cases h : k = a
  · subst h; simp
  · have : (a == k) = false := by simpa using fun e => h e.symm
    simp [this, h]
theorem missTo_prefix (x y : List Str) (a : Str) (k : Nat) (hk : k ≤ x.length) : missTo (x ++ [a]) y k = missTo x y k := by
  induction k with
  | zero => rfl
  | succ k ih =>
    rw [missTo_succ, missTo_succ, ih (by omega)]
    have h1 : (x ++ [a]).getD k default = x.getD k default := by simp [List.getD, List.getElem?_append_left (by omega : k < x.length)]
    have h2 : (x ++ [a]).take (k + 1) = x.take (k + 1) := List.take_append_of_le_length hk
    rw [h1, h2]
theorem missL_snoc (x y : List Str) (a : Str) : missL (x ++ [a]) y = missL x y + if timesL y a < timesL (x ++ [a]) a then 1 else 0 := by
  have h0 : ∀ z : List Str, missL z y = missTo z y z.length := fun _ => rfl
  rw [h0, h0, List.length_append, List.length_cons, List.length_nil, Nat.zero_add, missTo_succ, missTo_prefix _ _ _ _ (Nat.le_refl _)]
  have h1 : (x ++ [a]).getD x.length default = a := by simp [List.getD]
  rw [h1, List.take_of_length_le (by simp)]
theorem missL_sum (y K : List Str) (hK : K.Nodup) : ∀ (x : List Str), (∀ a ∈ x, a ∈ K) → missL x y = keySum (fun k => max (timesL x k - timesL y k) 0) K := by
  intro x
  induction h : x.length generalizing x with
  | zero =>
    intro _
    have : x = [] := List.eq_nil_of_length_eq_zero h
    subst this
    have : keySum (fun k => max (timesL [] k - timesL y k) 0) K = keySum (fun _ => 0) K := keySum_congr K (fun k _ => by
      have := timesL_bd y k
      have : timesL [] k = 0 := rfl
      omega)
    rw [this]
    have hz : ∀ K : List Str, keySum (fun _ => 0) K = 0 := fun K => by
      induction K with
      | nil => rfl
      | cons k K ih => simp only [keySum, List.map_cons, List.sum_cons] at *; omega
    rw [hz]
    rfl
  | succ n ih =>
    intro hall
    obtain ⟨z, a, rfl⟩ : ∃ z a, x = z ++ [a] := ⟨x.dropLast, x.getLast (by intro e; simp [e] at h), (List.dropLast_concat_getLast _).symm⟩
    have hz := ih z (by simpa using h) (fun b hb => hall b (by simp [hb]))
    rw [missL_snoc, hz]
    have ha : a ∈ K := hall a (by simp)
    have key : keySum (fun k => max (timesL (z ++ [a]) k - timesL y k) 0) K = keySum (fun k => max (timesL z k - timesL y k) 0 + if k = a then (if timesL y a < timesL (z ++ [a]) a then 1 else 0) else 0) K := keySum_congr K (fun k _ => by
      have h1 := timesL_snoc z a k
      by_cases hk : k = a
      · subst hk
        have := timesL_snoc z k k
        simp only [if_true] at *
        split <;> omega
      · simp only [hk, if_false] at *
        omega)
    rw [key, keySum_one _ _ _ _ hK ha]
theorem absSum_keys (m : List (Str × Int)) (hn : (m.map (·.1)).Nodup) : absSum m = keySum (fun k => max ((getM m k).getD 0) (-((getM m k).getD 0))) (m.map (·.1)) := by
  induction m with
  | nil => rfl
  | cons p m ih =>
    simp only [List.map_cons, List.nodup_cons] at hn
    have hc : keySum (fun k => max ((getM (p :: m) k).getD 0) (-((getM (p :: m) k).getD 0))) (m.map (·.1)) = keySum (fun k => max ((getM m k).getD 0) (-((getM m k).getD 0))) (m.map (·.1)) := keySum_congr _ (fun k hk => by
      have : p.1 ≠ k := fun e => hn.1 (e ▸ hk)
      rw [getM_cons, if_neg this])
    have hi := ih hn.2
    simp only [absSum, keySum, List.map_cons, List.sum_cons] at *
    rw [hc, ← hi, getM_cons, if_pos rfl]
    rfl
theorem mem_keys_setM {α β : Type} [DecidableEq α] (m : List (α × β)) (x : α) (v : β) (y : α) : y ∈ (setM m x v).map (·.1) ↔ y = x ∨ y ∈ m.map (·.1) := by
  unfold setM
  split
  · rename_i h
    obtain ⟨p, hp, hpx⟩ := List.any_eq_true.1 h
    have hpx' : p.1 = x := by simpa using hpx
    have e : (m.map (fun p => if p.1 = x then (x, v) else p)).map (·.1) = m.map (·.1) := by
      rw [List.map_map]
      apply List.map_congr_left
      intro q _
      simp only [Function.comp]
      split
      · rename_i h; exact h.symm
      · rfl
    rw [e]
    constructor
    · exact .inr
    · rintro (rfl | h)
      · exact List.mem_map.2 ⟨p, hp, hpx'⟩
      · exact h
  · simp [or_comm]
theorem mem_keys_bumps (d : Int) (y : Str) : ∀ (l : List Str) (m : List (Str × Int)), y ∈ (bumps d m l).map (·.1) ↔ y ∈ l ∨ y ∈ m.map (·.1)
  | [], m => by simp [bumps]
  | a :: l, m => by
    have ih := mem_keys_bumps d y l (bump d m a)
    show y ∈ (bumps d (bump d m a) l).map (·.1) ↔ _
    rw [ih]
    unfold bump
    rw [mem_keys_setM, List.mem_cons]
    constructor
    · rintro (h | h | h)
      · exact .inl (.inr h)
      · exact .inl (.inl h)
      · exact .inr h
    · rintro ((h | h) | h)
      · exact .inr (.inl h)
      · exact .inl h
      · exact .inr (.inr h)
/-- **the program's sum of differences is the reference's** -/
theorem absSum_miss (x y : List Str) : absSum (bumps (-1) (bumps 1 [] x) y) = missL x y + missL y x := by
  have hn : ((bumps (-1) (bumps 1 [] x) y).map (·.1)).Nodup := keys_bumps _ _ _ (keys_bumps _ _ _ (by simp))
  have hx : ∀ a ∈ x, a ∈ (bumps (-1) (bumps 1 [] x) y).map (·.1) := fun a ha => (mem_keys_bumps _ _ _ _).2 (.inr ((mem_keys_bumps _ _ _ _).2 (.inl ha)))
  have hy : ∀ a ∈ y, a ∈ (bumps (-1) (bumps 1 [] x) y).map (·.1) := fun a ha => (mem_keys_bumps _ _ _ _).2 (.inl ha)
  rw [absSum_keys _ hn, missL_sum y _ hn x hx, missL_sum x _ hn y hy, ← keySum_add]
  refine keySum_congr _ (fun k _ => ?_)
  rw [getM_bumps, getM_bumps]
  have : (getM ([] : List (Str × Int)) k).getD 0 = 0 := rfl
  omega
theorem cost_same (a b : List Side) : ourCost a b = refCost a b := by
  unfold ourCost refCost
  split
  · rw [absSum_miss]
    congr 1
    omega
  · rfl
theorem missL_bd (x y : List Str) : 0 ≤ missL x y ∧ missL x y ≤ x.length := missTo_bd x y x.length
theorem absSum_nonneg (m : List (Str × Int)) : 0 ≤ absSum m := by
  induction m with
  | nil => simp [absSum]
  | cons p m ih => simp only [absSum, List.map_cons, List.sum_cons] at *; omega
theorem absSum_split (l1 : List (Str × Int)) (p : Str × Int) (l2 : List (Str × Int)) : absSum (l1 ++ p :: l2) = absSum (l1 ++ l2) + max p.2 (-p.2) := by
  simp only [absSum, List.map_append, List.map_cons, List.sum_append, List.sum_cons]
  omega
theorem refCost_bd (a b : List Side) : 0 ≤ (refCost a b).1 ∧ (refCost a b).1 ≤ 200000 := by
  unfold refCost
  split
  · rename_i h
    have h1 := baseL_small h (by omega) (by omega)
    have h2 := baseL_bd a.length b.length
    have h3 := lenSum_bd a
    have h4 := lenSum_bd b
    have h5 := missL_bd (anch a) (anch b)
    have h6 := missL_bd (anch b) (anch a)
    have h7 := anch_bd a
    have h8 := anch_bd b
    simp only
    omega
  · simp
end Go.Vc
