/-
  Plain: what the functions of alignment compute, and laws of it.
  Plain: names, contents of tags, fragments: what the functions of items compute. No program in sight.
  Plain: the numbers of tags, and what renaming makes of them. No program in sight.
  Plain: fragments that are made item by item: valid, and which tags are open. No program in sight.
  Plain: slices of valid fragments are valid, and join again. No program in sight.
  Plain: renumbering and pairing of fragments. No program in sight.
  Plain: pairing the numbers of fragments. No program in sight.
-/
import Derived.Test.YtomklacppmaljaaLa
import Derived.Lib.Bytealg
namespace Go.Vc
open Go Go.RowKit

theorem take_succD {α : Type} [Inhabited α] (l : List α) (k : Nat) (h : k < l.length) : l.take (k + 1) = l.take k ++ [l.getD k default] := by
  rw [List.take_succ_eq_append_getElem h]; simp [List.getD, h]

def baseL (a b : Int) : Int × Bool :=
  if a = 1 ∧ b = 1 then (0, true) else if a = 2 ∧ b = 1 ∨ a = 1 ∧ b = 2 then (150, true)
  else if a = 2 ∧ b = 2 then (300, true) else if a = 1 ∧ b = 0 ∨ a = 0 ∧ b = 1 then (400, true) else (0, false)
theorem baseL_small {a b : Int} (h : (baseL a b).2 = true) (_ha : 0 ≤ a) (_hb : 0 ≤ b) : a ≤ 2 ∧ b ≤ 2 := by
  unfold baseL at h
  repeat (split at h; · omega)
  cases h
theorem baseL_bd (a b : Int) : 0 ≤ (baseL a b).1 ∧ (baseL a b).1 ≤ 400 := by
  unfold baseL
  repeat (split; · simp)
  simp
def timesL (l : List Str) (x : Str) : Int := (l.count x : Nat)
theorem timesL_bd (l : List Str) (x : Str) : 0 ≤ timesL l x ∧ timesL l x ≤ l.length := ⟨by unfold timesL; omega, by unfold timesL; have := List.count_le_length (a := x) (l := l); omega⟩
theorem times_succ (l : List Str) (k : Nat) (x : Str) (h : k < l.length) : timesL (l.take (k + 1)) x = timesL (l.take k) x + if l.getD k default = x then 1 else 0 := by
  unfold timesL
  rw [take_succD l k h, List.count_append]
  simp only [List.count_cons, List.count_nil]
  by_cases hx : l.getD k default = x
  · rw [if_pos hx, if_pos (by simpa using hx)]; rfl
  · rw [if_neg hx, if_neg (by simpa using hx)]; rfl

def clampL (n : Int) : Int := max (min n 1024) 0
theorem clampL_bd (n : Int) : 0 ≤ clampL n ∧ clampL n ≤ 1024 := by unfold clampL; omega
def lenSum (l : List Side) : Int := (l.map (fun s => clampL s.len)).sum
theorem lenSum_nil : lenSum [] = 0 := rfl
theorem lenSum_succ (l : List Side) (k : Nat) (h : k < l.length) : lenSum (l.take (k + 1)) = lenSum (l.take k) + clampL (l.getD k default).len := by
  unfold lenSum; rw [take_succD l k h]; simp
theorem lenSum_bd : ∀ (l : List Side), 0 ≤ lenSum l ∧ lenSum l ≤ 1024 * l.length
  | [] => by simp [lenSum]
  | s :: l => by
    have h1 := lenSum_bd l
    have h2 := clampL_bd s.len
    have h3 : lenSum (s :: l) = clampL s.len + lenSum l := by simp [lenSum]
    simp only [List.length_cons]
    omega
def anch (l : List Side) : List Str := l.flatMap (fun s => s.anchors.take 512)
theorem anch_nil : anch [] = [] := rfl
theorem anch_succ (l : List Side) (k : Nat) (h : k < l.length) : anch (l.take (k + 1)) = anch (l.take k) ++ (l.getD k default).anchors.take 512 := by
  unfold anch; rw [take_succD l k h]; simp
theorem anch_bd : ∀ (l : List Side), (anch l).length ≤ 512 * l.length
  | [] => by simp [anch]
  | s :: l => by
    have h1 := anch_bd l
    have h3 : anch (s :: l) = s.anchors.take 512 ++ anch l := by simp [anch]
    rw [h3, List.length_append, List.length_take, List.length_cons]
    omega
def bump (by_ : Int) (m : List (Str × Int)) (a : Str) : List (Str × Int) := setM m a ((getM m a).getD 0 + by_)

theorem getM_cons {α β : Type} [DecidableEq α] (p : α × β) (m : List (α × β)) (y : α) : getM (p :: m) y = if p.1 = y then some p.2 else getM m y := by
  unfold getM
  rw [List.find?_cons]
  by_cases h : p.1 = y <;> simp [h]
theorem getM_mapset {α β : Type} [DecidableEq α] (x y : α) (v : β) : ∀ (m : List (α × β)), getM (m.map (fun p => if p.1 = x then (x, v) else p)) y = if x = y then (if m.any (·.1 = x) then some v else none) else getM m y
  | [] => by by_cases h : x = y <;> simp [getM, h]
  | p :: m => by
    have ih := getM_mapset x y v m
    rw [List.map_cons, getM_cons, getM_cons, ih]
    by_cases hp : p.1 = x
    · by_cases hxy : x = y
      · simp [hp, hxy]
      · have : ¬ p.1 = y := by rw [hp]; exact hxy
        simp [hp, hxy]
    · by_cases hxy : x = y
      · subst hxy
        simp only [if_true, List.any_cons, decide_eq_false hp, Bool.false_or, if_neg hp]
      · simp [hp, hxy]
theorem getM_app {α β : Type} [DecidableEq α] (y : α) (x : α) (v : β) : ∀ (m : List (α × β)), (∀ p ∈ m, p.1 ≠ x) → getM (m ++ [(x, v)]) y = if x = y then some v else getM m y
  | [], _ => by rw [List.nil_append, getM_cons]
  | p :: m, h => by
    have ih := getM_app y x v m (fun q hq => h q (by simp [hq]))
    rw [List.cons_append, getM_cons, getM_cons, ih]
    have hp := h p (by simp)
    by_cases hpy : p.1 = y
    · have : ¬ x = y := fun e => hp (by rw [hpy, e])
      simp [hpy, this]
    · simp [hpy]
theorem getM_setM {α β : Type} [DecidableEq α] (m : List (α × β)) (x y : α) (v : β) : getM (setM m x v) y = if x = y then some v else getM m y := by
  rcases find_idx x m with h | ⟨i, u, h, hne⟩
  · rw [setM_miss h, getM_app y x v m h]
  · have hany : (m.any (·.1 = x)) = true := by simp only [List.any_eq_true]; exact ⟨_, List.mem_of_getElem? h, by simp⟩
    unfold setM
    rw [if_pos hany, getM_mapset, hany]
    simp
/-- counting up (or down) each word of a list -/
def bumps (d : Int) (m : List (Str × Int)) (l : List Str) : List (Str × Int) := l.foldl (bump d) m
theorem bumps_append (d : Int) (m : List (Str × Int)) (l r : List Str) : bumps d m (l ++ r) = bumps d (bumps d m l) r := by unfold bumps; rw [List.foldl_append]
theorem getM_bumps (d : Int) (x : Str) : ∀ (l : List Str) (m : List (Str × Int)), (getM (bumps d m l) x).getD 0 = (getM m x).getD 0 + d * timesL l x
  | [], m => by simp [bumps, timesL]
  | a :: l, m => by
    have ih := getM_bumps d x l (bump d m a)
    show (getM (bumps d (bump d m a) l) x).getD 0 = _
    rw [ih]
    unfold bump
    rw [getM_setM]
    unfold timesL
    rw [List.count_cons]
    by_cases h : a = x
    · subst h
      simp [Int.mul_add]
      omega
    · have hb : (a == x) = false := by simpa using h
      simp [h, hb]
theorem bumps_at {m : List (Str × Int)} {c d : Int} (hc : ∀ x, -c ≤ (getM m x).getD 0 ∧ (getM m x).getD 0 ≤ c) (hd : -1 ≤ d ∧ d ≤ 1) (hc2 : c ≤ 1000000000) (l : List Str) (x : Str) (hl : l.length ≤ 1000000000) :
    -2000000000 ≤ (getM (bumps d m l) x).getD 0 ∧ (getM (bumps d m l) x).getD 0 ≤ 2000000000 := by
  rw [getM_bumps]
  have h1 := hc x
  have h2 := timesL_bd l x
  have h3 : d = -1 ∨ d = 0 ∨ d = 1 := by omega
  rcases h3 with rfl | rfl | rfl <;> omega
theorem keys_bumps (d : Int) : ∀ (l : List Str) (m : List (Str × Int)), (m.map (·.1)).Nodup → ((bumps d m l).map (·.1)).Nodup
  | [], _, h => h
  | a :: l, m, h => keys_bumps d l (bump d m a) (keys_setM _ _ _ h)
def missL (a b : List Str) : Int := ((List.range a.length).map (fun i => if timesL b (a.getD i default) < timesL (a.take (i + 1)) (a.getD i default) then (1 : Int) else 0)).sum
def missTo (a b : List Str) (k : Nat) : Int := ((List.range k).map (fun i => if timesL b (a.getD i default) < timesL (a.take (i + 1)) (a.getD i default) then (1 : Int) else 0)).sum
theorem missTo_succ (a b : List Str) (k : Nat) : missTo a b (k + 1) = missTo a b k + if timesL b (a.getD k default) < timesL (a.take (k + 1)) (a.getD k default) then 1 else 0 := by
  unfold missTo; rw [List.range_succ]; simp
theorem missTo_bd (a b : List Str) : ∀ k, 0 ≤ missTo a b k ∧ missTo a b k ≤ k
  | 0 => by simp [missTo]
  | k + 1 => by
    have := missTo_bd a b k
    rw [missTo_succ]
    split <;> omega
/-- the reference's price of a bead -/
def refCost (a b : List Side) : Int × Bool :=
  if (baseL a.length b.length).2 then ((baseL a.length b.length).1 + 10 * max (lenSum a - lenSum b) (-(lenSum a - lenSum b)) + 30 * (missL (anch a) (anch b) + missL (anch b) (anch a)), true) else (0, false)
def absSum (m : List (Str × Int)) : Int := (m.map (fun p => max p.2 (-p.2))).sum
/-- the program's -/
def ourCost (a b : List Side) : Int × Bool :=
  if (baseL a.length b.length).2 then ((baseL a.length b.length).1 + 30 * absSum (bumps (-1) (bumps 1 [] (anch a)) (anch b)) + 10 * max (lenSum a - lenSum b) (lenSum b - lenSum a), true) else (0, false)

/-! sums over keys -/
def keySum (f : Str → Int) (K : List Str) : Int := (K.map f).sum
theorem keySum_congr {f g : Str → Int} : ∀ (K : List Str), (∀ k ∈ K, f k = g k) → keySum f K = keySum g K
  | [], _ => rfl
  | k :: K, h => by
    have ih := keySum_congr (f := f) (g := g) K (fun x hx => h x (by simp [hx]))
    simp only [keySum, List.map_cons, List.sum_cons] at *
    rw [ih, h k (by simp)]
theorem keySum_add (f g : Str → Int) : ∀ (K : List Str), keySum (fun k => f k + g k) K = keySum f K + keySum g K
  | [] => rfl
  | k :: K => by
    have ih := keySum_add f g K
    simp only [keySum, List.map_cons, List.sum_cons] at *
    omega
theorem keySum_one (f : Str → Int) (a : Str) (d : Int) : ∀ (K : List Str), K.Nodup → a ∈ K → keySum (fun k => f k + if k = a then d else 0) K = keySum f K + d
  | [], _, h => by simp at h
  | k :: K, hn, h => by
    simp only [List.nodup_cons] at hn
    simp only [keySum, List.map_cons, List.sum_cons]
    by_cases hk : k = a
    · subst hk
      have hc : keySum (fun x => f x + if x = k then d else 0) K = keySum f K := keySum_congr K (fun x hx => by
        have : x ≠ k := fun e => hn.1 (e ▸ hx)
        simp [this])
      simp only [keySum] at hc
      rw [hc]
      simp
      omega
    · have ih := keySum_one f a d K hn.2 (by simpa [Ne.symm hk] using (List.mem_cons.1 h).resolve_left (Ne.symm hk))
      simp only [keySum] at ih
      rw [ih]
      simp [hk]
      omega
theorem timesL_snoc (x : List Str) (a k : Str) : timesL (x ++ [a]) k = timesL x k + if k = a then 1 else 0 := by
  unfold timesL
  rw [List.count_append, List.count_cons, List.count_nil]
  by_cases h : k = a
  · subst h; simp
  · have : (a == k) = false := by simpa using fun e => h e.symm
    simp [this, h]
theorem missTo_prefix (x y : List Str) (a : Str) (k : Nat) (hk : k ≤ x.length) : missTo (x ++ [a]) y k = missTo x y k := by
  induction k with
  | zero => rfl
  | succ k ih =>
    rw [missTo_succ, missTo_succ, ih (by omega)]
    have h1 : (x ++ [a]).getD k default = x.getD k default := by simp [List.getD, List.getElem?_append_left (by omega : k < x.length)]
    have h2 : (x ++ [a]).take (k + 1) = x.take (k + 1) := List.take_append_of_le_length hk
    rw [h1, h2]
theorem missL_snoc (x y : List Str) (a : Str) : missL (x ++ [a]) y = missL x y + if timesL y a < timesL (x ++ [a]) a then 1 else 0 := by
  have h0 : ∀ z : List Str, missL z y = missTo z y z.length := fun _ => rfl
  rw [h0, h0, List.length_append, List.length_cons, List.length_nil, Nat.zero_add, missTo_succ, missTo_prefix _ _ _ _ (Nat.le_refl _)]
  have h1 : (x ++ [a]).getD x.length default = a := by simp [List.getD]
  rw [h1, List.take_of_length_le (by simp)]
theorem missL_sum (y K : List Str) (hK : K.Nodup) : ∀ (x : List Str), (∀ a ∈ x, a ∈ K) → missL x y = keySum (fun k => max (timesL x k - timesL y k) 0) K := by
  intro x
  induction h : x.length generalizing x with
  | zero =>
    intro _
    have : x = [] := List.eq_nil_of_length_eq_zero h
    subst this
    have : keySum (fun k => max (timesL [] k - timesL y k) 0) K = keySum (fun _ => 0) K := keySum_congr K (fun k _ => by
      have := timesL_bd y k
      have : timesL [] k = 0 := rfl
      omega)
    rw [this]
    have hz : ∀ K : List Str, keySum (fun _ => 0) K = 0 := fun K => by
      induction K with
      | nil => rfl
      | cons k K ih => simp only [keySum, List.map_cons, List.sum_cons] at *; omega
    rw [hz]
    rfl
  | succ n ih =>
    intro hall
    obtain ⟨z, a, rfl⟩ : ∃ z a, x = z ++ [a] := ⟨x.dropLast, x.getLast (by intro e; simp [e] at h), (List.dropLast_concat_getLast _).symm⟩
    have hz := ih z (by simpa using h) (fun b hb => hall b (by simp [hb]))
    rw [missL_snoc, hz]
    have ha : a ∈ K := hall a (by simp)
    have key : keySum (fun k => max (timesL (z ++ [a]) k - timesL y k) 0) K = keySum (fun k => max (timesL z k - timesL y k) 0 + if k = a then (if timesL y a < timesL (z ++ [a]) a then 1 else 0) else 0) K := keySum_congr K (fun k _ => by
      have h1 := timesL_snoc z a k
      by_cases hk : k = a
      · subst hk
        have := timesL_snoc z k k
        simp only [if_true] at *
        split <;> omega
      · simp only [hk, if_false] at *
        omega)
    rw [key, keySum_one _ _ _ _ hK ha]
theorem absSum_keys (m : List (Str × Int)) (hn : (m.map (·.1)).Nodup) : absSum m = keySum (fun k => max ((getM m k).getD 0) (-((getM m k).getD 0))) (m.map (·.1)) := by
  induction m with
  | nil => rfl
  | cons p m ih =>
    simp only [List.map_cons, List.nodup_cons] at hn
    have hc : keySum (fun k => max ((getM (p :: m) k).getD 0) (-((getM (p :: m) k).getD 0))) (m.map (·.1)) = keySum (fun k => max ((getM m k).getD 0) (-((getM m k).getD 0))) (m.map (·.1)) := keySum_congr _ (fun k hk => by
      have : p.1 ≠ k := fun e => hn.1 (e ▸ hk)
      rw [getM_cons, if_neg this])
    have hi := ih hn.2
    simp only [absSum, keySum, List.map_cons, List.sum_cons] at *
    rw [hc, ← hi, getM_cons, if_pos rfl]
    rfl
theorem mem_keys_setM {α β : Type} [DecidableEq α] (m : List (α × β)) (x : α) (v : β) (y : α) : y ∈ (setM m x v).map (·.1) ↔ y = x ∨ y ∈ m.map (·.1) := by
  unfold setM
  split
  · rename_i h
    obtain ⟨p, hp, hpx⟩ := List.any_eq_true.1 h
    have hpx' : p.1 = x := by simpa using hpx
    have e : (m.map (fun p => if p.1 = x then (x, v) else p)).map (·.1) = m.map (·.1) := by
      rw [List.map_map]
      apply List.map_congr_left
      intro q _
      simp only [Function.comp]
      split
      · rename_i h; exact h.symm
      · rfl
    rw [e]
    constructor
    · exact .inr
    · rintro (rfl | h)
      · exact List.mem_map.2 ⟨p, hp, hpx'⟩
      · exact h
  · simp [or_comm]
theorem mem_keys_bumps (d : Int) (y : Str) : ∀ (l : List Str) (m : List (Str × Int)), y ∈ (bumps d m l).map (·.1) ↔ y ∈ l ∨ y ∈ m.map (·.1)
  | [], m => by simp [bumps]
  | a :: l, m => by
    have ih := mem_keys_bumps d y l (bump d m a)
    show y ∈ (bumps d (bump d m a) l).map (·.1) ↔ _
    rw [ih]
    unfold bump
    rw [mem_keys_setM, List.mem_cons]
    constructor
    · rintro (h | h | h)
      · exact .inl (.inr h)
      · exact .inl (.inl h)
      · exact .inr h
    · rintro ((h | h) | h)
      · exact .inr (.inl h)
      · exact .inl h
      · exact .inr (.inr h)
/-- **the program's sum of differences is the reference's** -/
theorem absSum_miss (x y : List Str) : absSum (bumps (-1) (bumps 1 [] x) y) = missL x y + missL y x := by
  have hn : ((bumps (-1) (bumps 1 [] x) y).map (·.1)).Nodup := keys_bumps _ _ _ (keys_bumps _ _ _ (by simp))
  have hx : ∀ a ∈ x, a ∈ (bumps (-1) (bumps 1 [] x) y).map (·.1) := fun a ha => (mem_keys_bumps _ _ _ _).2 (.inr ((mem_keys_bumps _ _ _ _).2 (.inl ha)))
  have hy : ∀ a ∈ y, a ∈ (bumps (-1) (bumps 1 [] x) y).map (·.1) := fun a ha => (mem_keys_bumps _ _ _ _).2 (.inl ha)
  rw [absSum_keys _ hn, missL_sum y _ hn x hx, missL_sum x _ hn y hy, ← keySum_add]
  refine keySum_congr _ (fun k _ => ?_)
  rw [getM_bumps, getM_bumps]
  have : (getM ([] : List (Str × Int)) k).getD 0 = 0 := rfl
  omega
theorem cost_same (a b : List Side) : ourCost a b = refCost a b := by
  unfold ourCost refCost
  split
  · rw [absSum_miss]
    congr 1
    omega
  · rfl
theorem missL_bd (x y : List Str) : 0 ≤ missL x y ∧ missL x y ≤ x.length := missTo_bd x y x.length
theorem absSum_nonneg (m : List (Str × Int)) : 0 ≤ absSum m := by
  induction m with
  | nil => simp [absSum]
  | cons p m ih => simp only [absSum, List.map_cons, List.sum_cons] at *; omega
theorem absSum_split (l1 : List (Str × Int)) (p : Str × Int) (l2 : List (Str × Int)) : absSum (l1 ++ p :: l2) = absSum (l1 ++ l2) + max p.2 (-p.2) := by
  simp only [absSum, List.map_append, List.map_cons, List.sum_append, List.sum_cons]
  omega
theorem refCost_bd (a b : List Side) : 0 ≤ (refCost a b).1 ∧ (refCost a b).1 ≤ 200000 := by
  unfold refCost
  split
  · rename_i h
    have h1 := baseL_small h (by omega) (by omega)
    have h2 := baseL_bd a.length b.length
    have h3 := lenSum_bd a
    have h4 := lenSum_bd b
    have h5 := missL_bd (anch a) (anch b)
    have h6 := missL_bd (anch b) (anch a)
    have h7 := anch_bd a
    have h8 := anch_bd b
    simp only
    omega
  · simp
end Go.Vc
namespace Go.Vc
open Go

/-! ### bytes and names -/
def lowB (c : UInt8) : Bool := decide (97 ≤ c.toNat) && decide (c.toNat ≤ 122)
def digB (c : UInt8) : Bool := decide (48 ≤ c.toNat) && decide (c.toNat ≤ 57)
def nameB (c : UInt8) : Bool := lowB c || digB c || decide (c.toNat = 45)
def isName (s : Str) : Bool := decide (1 ≤ s.length) && decide (s.length ≤ 24) && lowB (s.getD 0 0) && (s.drop 1).all nameB
theorem all_upto {α : Type} (p : α → Bool) (d : α) (l : List α) : l.all p = true ↔ ∀ j, j < l.length → p (l.getD j d) = true := by
  rw [List.all_eq_true]
  constructor
  · intro h j hj
    have e : l.getD j d = l[j] := by simp [List.getD, hj]
    rw [e]; exact h _ (List.getElem_mem hj)
  · intro h x hx
    obtain ⟨j, hj, rfl⟩ := List.getElem_of_mem hx
    have := h j hj
    have e : l.getD j d = l[j] := by simp [List.getD, hj]
    rw [e] at this; exact this
theorem lowB_iff (c : UInt8) : lowB c = true ↔ 97 ≤ c.toNat ∧ c.toNat ≤ 122 := by simp [lowB]
theorem digB_iff (c : UInt8) : digB c = true ↔ 48 ≤ c.toNat ∧ c.toNat ≤ 57 := by simp [digB]
theorem nameB_iff (c : UInt8) : nameB c = true ↔ (97 ≤ c.toNat ∧ c.toNat ≤ 122) ∨ (48 ≤ c.toNat ∧ c.toNat ≤ 57) ∨ c.toNat = 45 := by
  simp [nameB, lowB, digB, or_assoc]
theorem isName_iff (s : Str) : isName s = true ↔ 1 ≤ s.length ∧ s.length ≤ 24 ∧ (97 ≤ (s.getD 0 0).toNat ∧ (s.getD 0 0).toNat ≤ 122) ∧ ∀ j, 1 ≤ j → j < s.length → nameB (s.getD j 0) = true := by
  unfold isName
  simp only [Bool.and_eq_true, decide_eq_true_eq, lowB_iff, all_upto nameB 0]
  constructor
  · rintro ⟨⟨⟨h1, h2⟩, h3⟩, h4⟩
    refine ⟨h1, h2, h3, fun j hj hl => ?_⟩
    have := h4 (j - 1) (by simp; omega)
    have e : (s.drop 1).getD (j - 1) 0 = s.getD j 0 := by
      simp only [List.getD_eq_getElem?_getD, List.getElem?_drop]
      rw [show 1 + (j - 1) = j by omega]
    rwa [e] at this
  · rintro ⟨h1, h2, h3, h4⟩
    refine ⟨⟨⟨h1, h2⟩, h3⟩, fun j hj => ?_⟩
    have := h4 (j + 1) (by omega) (by simp at hj; omega)
    have e : (s.drop 1).getD j 0 = s.getD (j + 1) 0 := by
      simp only [List.getD_eq_getElem?_getD, List.getElem?_drop]
      rw [show 1 + j = j + 1 by omega]
    rwa [e]
theorem isName_no {s : Str} (j : Nat) (h1 : 1 ≤ j) (h2 : j < s.length) (h3 : nameB (s.getD j 0) = false) : isName s = false := by
  rw [← Bool.not_eq_true]
  intro h
  have := ((isName_iff s).1 h).2.2.2 j h1 h2
  rw [h3] at this; cases this
/-- the name at the beginning of a content -/
def nameL (s : Str) : Str := s.takeWhile (fun c => c != 32)
theorem takeWhile_len {α : Type} (p : α → Bool) (d : α) : ∀ (l : List α), (∀ j, j < (l.takeWhile p).length → p (l.getD j d) = true) ∧ ((l.takeWhile p).length < l.length → p (l.getD (l.takeWhile p).length d) = false) ∧ (l.takeWhile p).length ≤ l.length ∧ l.take (l.takeWhile p).length = l.takeWhile p
  | [] => by simp
  | c :: l => by
    have ih := takeWhile_len p d l
    cases hc : p c with
    | true =>
      rw [List.takeWhile_cons, if_pos hc]
      refine ⟨fun j hj => ?_, fun hj => ?_, by simp; exact ih.2.2.1, by simp; exact ih.2.2.2⟩
      · cases j with
        | zero => exact hc
        | succ j => exact ih.1 j (by simpa using hj)
      · simp only [List.length_cons] at hj ⊢
        exact ih.2.1 (by omega)
    | false =>
      rw [List.takeWhile_cons, if_neg (by simp [hc])]
      exact ⟨fun j hj => by simp at hj, fun _ => hc, by simp, rfl⟩
/-- where the name ends, by what a loop finds -/
theorem nameL_at {s : Str} {k : Nat} (h1 : ∀ j, j < k → (s.getD j 0).toNat ≠ 32) (h2 : k < s.length) (h3 : (s.getD k 0).toNat = 32) : nameL s = s.take k := by
  have ht := takeWhile_len (fun c : UInt8 => c != 32) 0 s
  have hk : (nameL s).length = k := by
    rcases Nat.lt_trichotomy (nameL s).length k with h | h | h
    · have h4 := ht.2.1 (by unfold nameL at h; omega)
      have h5 := h1 _ h
      exfalso
      apply h5
      have : s.getD (nameL s).length 0 = 32 := by simpa [nameL] using h4
      rw [this]; rfl
    · exact h
    · have h4 := ht.1 k h
      exfalso
      have h5 : s.getD k 0 = 32 := UInt8.toNat_inj.1 h3
      rw [h5] at h4; simp at h4
  rw [← hk]; exact ht.2.2.2.symm
theorem nameL_all {s : Str} (h1 : ∀ j, j < s.length → (s.getD j 0).toNat ≠ 32) : nameL s = s := by
  have ht := takeWhile_len (fun c : UInt8 => c != 32) 0 s
  have hk : (nameL s).length = s.length := by
    rcases Nat.lt_or_ge (nameL s).length s.length with h | h
    · have h4 := ht.2.1 h
      exfalso
      apply h1 _ h
      have : s.getD (nameL s).length 0 = 32 := by simpa [nameL] using h4
      rw [this]; rfl
    · have := ht.2.2.1; unfold nameL at *; omega
  have := ht.2.2.2
  unfold nameL at *
  rw [hk, List.take_of_length_le (Nat.le_refl _)] at this
  exact this.symm
/-- the library's search for a byte -/
theorem index_spec (c : UInt8) : ∀ (s : Str), (Lib.indexByte s c = -1 ∧ ∀ j, j < s.length → s.getD j 0 ≠ c) ∨ ∃ k : Nat, Lib.indexByte s c = (k : Int) ∧ k < s.length ∧ s.getD k 0 = c ∧ ∀ j, j < k → s.getD j 0 ≠ c
  | [] => .inl ⟨rfl, fun j hj => by simp at hj⟩
  | b :: s => by
    have ih := index_spec c s
    by_cases hb : b = c
    · refine .inr ⟨0, by simp [Lib.indexByte, hb], by simp, hb, fun j hj => by omega⟩
    · have hb2 : (b == c) = false := by simpa using hb
      rcases ih with ⟨h1, h2⟩ | ⟨k, h1, h2, h3, h4⟩
      · refine .inl ⟨by simp [Lib.indexByte, hb2, h1], fun j hj => ?_⟩
        cases j with
        | zero => exact hb
        | succ j => exact h2 j (by simpa using hj)
      · refine .inr ⟨k + 1, ?_, by simpa using h2, h3, fun j hj => ?_⟩
        · simp [Lib.indexByte, hb2, h1]
        · cases j with
          | zero => exact hb
          | succ j => exact h4 j (by omega)
/-- a byte of a content -/
def contB (c : UInt8) : Bool := decide (32 ≤ c.toNat) && decide (c.toNat ≤ 126) && !(decide (c.toNat = 60) || decide (c.toNat = 62) || decide (c.toNat = 123) || decide (c.toNat = 125))
theorem contB_iff (c : UInt8) : contB c = true ↔ 32 ≤ c.toNat ∧ c.toNat ≤ 126 ∧ c.toNat ≠ 60 ∧ c.toNat ≠ 62 ∧ c.toNat ≠ 123 ∧ c.toNat ≠ 125 := by
  simp [contB, and_assoc]
def isContent (s : Str) : Bool := decide (s.length ≤ 64) && s.all contB && isName (nameL s) && (decide ((nameL s).length = s.length) || decide ((nameL s).length + 1 < s.length)) && decide ((s.getD (s.length - 1) 0).toNat ≠ 47)
theorem isContent_iff (s : Str) : isContent s = true ↔ s.length ≤ 64 ∧ (∀ j, j < s.length → contB (s.getD j 0) = true) ∧ isName (nameL s) = true ∧ ((nameL s).length = s.length ∨ (nameL s).length + 1 < s.length) ∧ (s.getD (s.length - 1) 0).toNat ≠ 47 := by
  unfold isContent
  simp only [Bool.and_eq_true, Bool.or_eq_true, decide_eq_true_eq, all_upto contB 0, and_assoc]
theorem isContent_bad {s : Str} (j : Nat) (h2 : j < s.length) (h3 : ¬ contB (s.getD j 0) = true) : isContent s = false := by
  rw [← Bool.not_eq_true]
  intro h
  exact h3 (((isContent_iff s).1 h).2.1 j h2)
theorem isName_nil : isName [] = false := rfl
theorem isContent_nil : isContent [] = false := by decide

theorem isName_len {s : Str} (h : ¬ (1 ≤ s.length ∧ s.length ≤ 24 ∧ 97 ≤ (s.getD 0 0).toNat ∧ (s.getD 0 0).toNat ≤ 122)) : isName s = false := by
  rw [← Bool.not_eq_true]
  intro h2
  have h3 := (isName_iff s).1 h2
  exact h ⟨h3.1, h3.2.1, h3.2.2.1.1, h3.2.2.1.2⟩
theorem isName_bad {s : Str} {k : Nat} (hk : k < s.length) (h : ¬ ((97 ≤ (s.getD k 0).toNat ∧ (s.getD k 0).toNat ≤ 122) ∨ (1 ≤ k ∧ ((48 ≤ (s.getD k 0).toNat ∧ (s.getD k 0).toNat ≤ 57) ∨ (s.getD k 0).toNat = 45)))) : isName s = false := by
  rw [← Bool.not_eq_true]
  intro h2
  have h3 := (isName_iff s).1 h2
  by_cases h0 : k = 0
  · subst h0; exact h (.inl h3.2.2.1)
  · have h4 := (nameB_iff _).1 (h3.2.2.2 k (by omega) hk)
    apply h
    rcases h4 with h4 | h4 | h4
    · exact .inl h4
    · exact .inr ⟨by omega, .inl h4⟩
    · exact .inr ⟨by omega, .inr h4⟩
theorem upto0 {Q : Nat → Prop} {k : Nat} (h : ∀ j, j < k → Q j) (hk : Q k) : ∀ j, j < k + 1 → Q j := fun j hj => by
  rcases Nat.lt_or_ge j k with h1 | h1
  · exact h j h1
  · have : j = k := by omega
    subst this; exact hk
theorem upto1 {Q : Nat → Prop} {k : Nat} (h : ∀ j, 1 ≤ j → j < k → Q j) (hk : 1 ≤ k → Q k) : ∀ j, 1 ≤ j → j < k + 1 → Q j := fun j h0 hj => by
  rcases Nat.lt_or_ge j k with h1 | h1
  · exact h j h0 h1
  · have : j = k := by omega
    subst this; exact hk h0
/-- what strings.Cut answers at a separator of one byte -/
def cutL (s : Str) (c : UInt8) : Str × Str × Bool :=
  if (s.takeWhile (fun x => x != c)).length < s.length then (s.take (s.takeWhile (fun x => x != c)).length, s.drop ((s.takeWhile (fun x => x != c)).length + 1), true) else (s, [], false)
theorem index_tw (s : Str) (c : UInt8) : (Lib.indexByte s c = -1 ∧ (s.takeWhile (fun x => x != c)).length = s.length) ∨ (Lib.indexByte s c = ((s.takeWhile (fun x => x != c)).length : Nat) ∧ (s.takeWhile (fun x => x != c)).length < s.length) := by
  have ht := takeWhile_len (fun x : UInt8 => x != c) 0 s
  rcases index_spec c s with ⟨h1, h2⟩ | ⟨k, h1, h2, h3, h4⟩
  · refine .inl ⟨h1, ?_⟩
    rcases Nat.lt_or_ge (s.takeWhile (fun x => x != c)).length s.length with h | h
    · have h5 := ht.2.1 h
      have h6 := h2 _ h
      exact absurd (by simpa using h5) h6
    · have := ht.2.2.1; omega
  · have e : (s.takeWhile (fun x => x != c)).length = k := by
      rcases Nat.lt_trichotomy (s.takeWhile (fun x => x != c)).length k with h | h | h
      · have h5 := ht.2.1 (by omega)
        exact absurd (by simpa using h5) (h4 _ h)
      · exact h
      · have h5 := ht.1 k h
        rw [h3] at h5; simp at h5
    rw [e]
    exact .inr ⟨h1, h2⟩
theorem cut_name (s : Str) : (cutL s 32).1 = nameL s := by
  have ht := takeWhile_len (fun x : UInt8 => x != 32) 0 s
  unfold cutL nameL
  split
  · exact ht.2.2.2
  · have h := ht.2.2.2
    rw [List.take_of_length_le (by omega)] at h
    exact h
theorem ix4 (c : UInt8) : 0 ≤ Lib.indexByte [60, 62, 123, 125] c ↔ (c.toNat = 60 ∨ c.toNat = 62 ∨ c.toNat = 123 ∨ c.toNat = 125) := by
  have e : ∀ d : UInt8, d = c ↔ c.toNat = d.toNat := fun d => ⟨fun h => by rw [h], fun h => (UInt8.toNat_inj.1 h).symm⟩
  have h1 : c.toNat = 60 ↔ (60 : UInt8) = c := (e 60).symm
  have h2 : c.toNat = 62 ↔ (62 : UInt8) = c := (e 62).symm
  have h3 : c.toNat = 123 ↔ (123 : UInt8) = c := (e 123).symm
  have h4 : c.toNat = 125 ↔ (125 : UInt8) = c := (e 125).symm
  rw [h1, h2, h3, h4]
  by_cases a1 : (60 : UInt8) = c
  · subst a1; decide
  · by_cases a2 : (62 : UInt8) = c
    · subst a2; decide
    · by_cases a3 : (123 : UInt8) = c
      · subst a3; decide
      · by_cases a4 : (125 : UInt8) = c
        · subst a4; decide
        · have b1 : ((60 : UInt8) == c) = false := by simpa using a1
          have b2 : ((62 : UInt8) == c) = false := by simpa using a2
          have b3 : ((123 : UInt8) == c) = false := by simpa using a3
          have b4 : ((125 : UInt8) == c) = false := by simpa using a4
          simp [Lib.indexByte, b1, b2, b3, b4, a1, a2, a3, a4]
theorem nameL_len (s : Str) : (nameL s).length ≤ s.length := (takeWhile_len (fun x : UInt8 => x != 32) 0 s).2.2.1
theorem name_pos {s : Str} (h : isName (nameL s) = true) : 0 < s.length := by
  have h1 := ((isName_iff _).1 h).1
  have := nameL_len s
  omega
theorem content_end {s : Str} (h1 : s.length ≤ 64) (h47 : (s.getD (s.length - 1) 0).toNat ≠ 47) (hall : ∀ j, j < s.length → contB (s.getD j 0) = true) :
    decide (isName (cutL s 32).1 = true ∧ (¬ (cutL s 32).2.2 = true ∨ (0 : Int) < ((cutL s 32).2.1.length : Nat))) = isContent s := by
  rw [Bool.eq_iff_iff, decide_eq_true_iff, isContent_iff, cut_name]
  have hl := nameL_len s
  have h3 : (¬ (cutL s 32).2.2 = true ∨ (0 : Int) < ((cutL s 32).2.1.length : Nat)) ↔ ((nameL s).length = s.length ∨ (nameL s).length + 1 < s.length) := by
    unfold cutL
    unfold nameL at *
    split
    · simp only [not_true_eq_false, false_or, List.length_drop]
      omega
    · simp
      omega
  rw [h3]
  exact ⟨fun h => ⟨h1, hall, h.1, h.2, h47⟩, fun h => ⟨h.2.2.1, h.2.2.2.1⟩⟩
theorem content_end2 {s : Str} (h1 : s.length ≤ 64) (hall : ∀ j, j < s.length → contB (s.getD j 0) = true) :
    decide ((isName (nameL s) = true ∧ (((nameL s).length : Int) = (s.length : Nat) ∨ ((nameL s).length : Int) + 1 < (s.length : Nat))) ∧ ¬ ((s.getD (s.length - 1) 0).toNat : Int) = 47) = isContent s := by
  rw [Bool.eq_iff_iff, decide_eq_true_iff, isContent_iff]
  constructor
  · rintro ⟨⟨h2, h3⟩, h4⟩
    exact ⟨h1, hall, h2, by omega, by omega⟩
  · rintro ⟨_, _, h2, h3, h4⟩
    exact ⟨⟨h2, by omega⟩, by omega⟩
theorem isContent_no {s : Str} (h : ¬ (s.length ≤ 64 ∧ s.length ≠ 0 ∧ (s.getD (s.length - 1) 0).toNat ≠ 47)) : isContent s = false := by
  rw [← Bool.not_eq_true]
  intro h2
  have h3 := (isContent_iff s).1 h2
  exact h ⟨h3.1, by have := name_pos h3.2.2.1; omega, h3.2.2.2.2⟩

theorem ix_same {s : Str} {c : UInt8} (h : ((([c] : Str).length : Nat) : Int) = 0 ∨ [c] = s) : Lib.indexByte s c = 0 := by
  rcases h with h | h
  · simp at h
  · subst h; simp [Lib.indexByte]

/-! ### fragments -/
def widthL (x : Item) : Int := if x.kind = 1 then (x.text.length : Int) else 1
def lengthL (f : List Item) : Int := (f.map widthL).sum
theorem lengthL_succ (f : List Item) (k : Nat) (h : k < f.length) : lengthL (f.take (k + 1)) = lengthL (f.take k) + widthL (f.getD k default) := by
  unfold lengthL; rw [take_succD f k h]; simp
theorem lengthL_append (f g : List Item) : lengthL (f ++ g) = lengthL f + lengthL g := by simp [lengthL]
/-- the bytes of all texts -/
def sizeL (f : List Item) : Nat := (f.map (fun x => x.text.length)).sum
theorem sizeL_succ (f : List Item) (k : Nat) (h : k < f.length) : sizeL (f.take (k + 1)) = sizeL (f.take k) + (f.getD k default).text.length := by
  unfold sizeL; rw [take_succD f k h]; simp
theorem sizeL_take (f : List Item) (k : Nat) : sizeL (f.take k) ≤ sizeL f := by
  have h : sizeL f = sizeL (f.take k) + sizeL (f.drop k) := by
    conv => lhs; rw [← List.take_append_drop k f]
    unfold sizeL
    rw [List.map_append, List.sum_append]
  omega
theorem sizeL_mem {x : Item} : ∀ {f : List Item}, x ∈ f → x.text.length ≤ sizeL f
  | y :: f, h => by
    have h2 : sizeL (y :: f) = y.text.length + sizeL f := by simp [sizeL]
    rw [h2]
    rcases List.mem_cons.1 h with rfl | h
    · omega
    · have := sizeL_mem h; omega
theorem sizeL_at (f : List Item) (k : Nat) : (f.getD k default).text.length ≤ sizeL f := by
  rcases Nat.lt_or_ge k f.length with h | h
  · have e : f.getD k default = f[k] := by simp [List.getD, h]
    rw [e]; exact sizeL_mem (List.getElem_mem h)
  · have e : f.getD k default = default := by simp [List.getD, List.getElem?_eq_none h]
    rw [e]; exact Nat.zero_le _
theorem lengthL_le (f : List Item) : 0 ≤ lengthL f ∧ lengthL f ≤ sizeL f + f.length := by
  induction f with
  | nil => simp [lengthL, sizeL]
  | cons x f ih =>
    have h1 : lengthL (x :: f) = widthL x + lengthL f := by simp [lengthL]
    have h2 : sizeL (x :: f) = x.text.length + sizeL f := by simp [sizeL]
    rw [h1, h2, List.length_cons]
    unfold widthL
    split <;> omega
/-- a fragment of a size that fits -/
def Small (f : List Item) : Prop := f.length ≤ 100000 ∧ sizeL f ≤ 1000000
def isTag (x : Item) : Bool := decide (x.kind = 2) || decide (x.kind = 3) || decide (x.kind = 4)
theorem isTag_iff (x : Item) : isTag x = true ↔ (x.kind = 2 ∨ x.kind = 3) ∨ x.kind = 4 := by simp [isTag]
/-- a tag 'y' ahead of 'x' that does not fit it -/
def clash (x y : Item) : Bool := isTag y && decide (y.id = x.id) && (decide (x.kind ≠ 3) || decide (y.kind ≠ 2) || decide (nameL y.text ≠ x.text))
/-- an item's form, behind the items 'b' -/
def formed (b : List Item) (x : Item) : Bool :=
  if x.kind = 1 then decide (x.text ≠ []) && decide (x.id = 0) && (decide (b = []) || decide ((b.getD (b.length - 1) default).kind ≠ 1))
  else if x.kind = 5 then isName x.text && decide (x.id = 0)
  else if x.kind = 2 ∨ x.kind = 4 then isContent x.text && decide (1 ≤ x.id) && decide (x.id ≤ 999)
  else if x.kind = 3 then isName x.text && decide (1 ≤ x.id) && decide (x.id ≤ 999)
  else false
def checkL (b : List Item) (x : Item) : Int := if formed b x = true then (if isTag x && b.any (clash x) then 7 else 0) else 1
def valGo : List Item → List Item → Int
  | _, [] => 0
  | b, x :: r => if checkL b x = 0 then valGo (b ++ [x]) r else checkL b x
def validateL (f : List Item) : Int := if 512 < f.length ∨ 1024 < lengthL f then 3 else valGo [] f
/-- joining the texts -/
def normStep (out : List Item) (x : Item) : List Item :=
  if x.kind = 1 then
    if x.text = [] then out
    else if out ≠ [] ∧ (out.getD (out.length - 1) default).kind = 1 then out.set (out.length - 1) ⟨1, (out.getD (out.length - 1) default).text ++ x.text, 0⟩
    else out ++ [⟨1, x.text, 0⟩]
  else out ++ [x]
def normL (f : List Item) : List Item := f.foldl normStep []
def piece (x : Item) (at_ from_ to_ : Int) : List Item :=
  if max from_ at_ < min to_ (at_ + widthL x) then [if x.kind = 1 then ⟨x.kind, (x.text.drop (max from_ at_ - at_).toNat).take ((min to_ (at_ + widthL x) - at_).toNat - (max from_ at_ - at_).toNat), x.id⟩ else x] else []
def pieces : List Item → Int → Int → Int → List Item
  | [], _, _, _ => []
  | x :: r, at_, from_, to_ => piece x at_ from_ to_ ++ pieces r (at_ + widthL x) from_ to_
def sliceL (f : List Item) (from_ to_ : Int) : List Item × Bool := if from_ < 0 ∨ to_ < from_ ∨ lengthL f < to_ then ([], false) else (pieces f 0 from_ to_, true)
theorem width_bd (x : Item) : 0 ≤ widthL x ∧ widthL x ≤ (x.text.length : Int) + 1 := by unfold widthL; split <;> omega
theorem getD_take {α : Type} (f : List α) (d : α) (i j : Nat) (h : j < i) : (f.take i).getD j d = f.getD j d := by
  simp only [List.getD_eq_getElem?_getD, List.getElem?_take, if_pos h]
theorem take_nil_iff {α : Type} {f : List α} {i : Nat} (hi : i < f.length) : f.take i = [] ↔ i = 0 := by
  constructor
  · intro h
    have : (f.take i).length = 0 := by rw [h]; rfl
    rw [List.length_take] at this; omega
  · intro h; subst h; rfl
theorem formed_text {f : List Item} {i : Nat} (hi : i < f.length) (hk : (f.getD i default).kind = 1) :
    formed (f.take i) (f.getD i default) = true ↔ ((¬ (f.getD i default).text = [] ∧ (f.getD i default).id = 0) ∧ ((i : Int) = 0 ∨ ¬ (f.getD (i - 1) default).kind = 1)) := by
  unfold formed
  rw [if_pos hk]
  simp only [Bool.and_eq_true, Bool.or_eq_true, decide_eq_true_eq, ne_eq, take_nil_iff hi]
  have hl : (f.take i).length = i := by simp; omega
  rw [hl]
  by_cases h0 : i = 0
  · simp [h0]
  · rw [getD_take f default i (i - 1) (by omega)]
    have : ¬ ((i : Int) = 0) := by omega
    simp [h0]
theorem formed_slot {b : List Item} {x : Item} (hk : x.kind = 5) : formed b x = true ↔ (isName x.text = true ∧ x.id = 0) := by
  unfold formed
  rw [if_neg (by omega), if_pos hk]
  simp
theorem formed_open {b : List Item} {x : Item} (hk : x.kind = 2 ∨ x.kind = 4) : formed b x = true ↔ ((isContent x.text = true ∧ 1 ≤ x.id) ∧ x.id ≤ 999) := by
  unfold formed
  rw [if_neg (by omega), if_neg (by omega), if_pos hk]
  simp
theorem formed_close {b : List Item} {x : Item} (hk : x.kind = 3) : formed b x = true ↔ ((isName x.text = true ∧ 1 ≤ x.id) ∧ x.id ≤ 999) := by
  unfold formed
  rw [if_neg (by omega), if_neg (by omega), if_neg (by omega), if_pos hk]
  simp
theorem formed_other {b : List Item} {x : Item} (h1 : ¬ x.kind = 1) (h5 : ¬ x.kind = 5) (h2 : ¬ x.kind = 2) (h4 : ¬ x.kind = 4) (h3 : ¬ x.kind = 3) : formed b x = false := by
  unfold formed
  rw [if_neg h1, if_neg h5, if_neg (by omega), if_neg h3]
theorem clash_iff (x y : Item) : clash x y = true ↔ (isTag y = true ∧ y.id = x.id) ∧ ((¬ x.kind = 3 ∨ ¬ y.kind = 2) ∨ ¬ nameL y.text = x.text) := by
  unfold clash
  simp [or_assoc]
theorem clash_no1 {x y : Item} (h : (!isTag y) = true ∨ ¬ y.id = x.id) : clash x y = false := by
  rw [← Bool.not_eq_true, clash_iff]
  rintro ⟨⟨h1, h2⟩, _⟩
  rcases h with h | h
  · rw [h1] at h; cases h
  · exact h h2
theorem clash_no2 {x y : Item} (h : ¬ ((¬ x.kind = 3 ∨ ¬ y.kind = 2) ∨ ¬ nameL y.text = x.text)) : clash x y = false := by
  rw [← Bool.not_eq_true, clash_iff]
  rintro ⟨_, h1⟩
  exact h h1
theorem clash_yes {x y : Item} (h : ¬ ((!isTag y) = true ∨ ¬ y.id = x.id)) (h2 : (¬ x.kind = 3 ∨ ¬ y.kind = 2) ∨ ¬ nameL y.text = x.text) : clash x y = true := by
  rw [clash_iff]
  refine ⟨⟨?_, ?_⟩, h2⟩
  · exact Decidable.byContradiction fun h3 => h (.inl (by simpa using h3))
  · exact Decidable.byContradiction fun h3 => h (.inr h3)
theorem any_yes {α : Type} {p : α → Bool} {d : α} {l : List α} (k : Nat) (hk : k < l.length) (h : p (l.getD k d) = true) : l.any p = true := by
  rw [List.any_eq_true]
  have e : l.getD k d = l[k] := by simp [List.getD, hk]
  rw [e] at h
  exact ⟨_, List.getElem_mem hk, h⟩
theorem any_no {α : Type} {p : α → Bool} {d : α} {l : List α} (h : ∀ j, j < l.length → p (l.getD j d) = false) : l.any p = false := by
  rw [List.any_eq_false]
  intro x hx
  obtain ⟨j, hj, rfl⟩ := List.getElem_of_mem hx
  have h2 := h j hj
  have e : l.getD j d = l[j] := by simp [List.getD, hj]
  rw [e] at h2
  simp [h2]
theorem drop_getD' {α : Type} (d : α) (l : List α) (k : Nat) (h : k < l.length) : l.drop k = l.getD k d :: l.drop (k + 1) := by
  rw [List.drop_eq_getElem_cons h]; simp [List.getD, h]
theorem valGo_at (f : List Item) (k : Nat) (h : k < f.length) : valGo (f.take k) (f.drop k) = if checkL (f.take k) (f.getD k default) = 0 then valGo (f.take (k + 1)) (f.drop (k + 1)) else checkL (f.take k) (f.getD k default) := by
  rw [drop_getD' default f k h]
  conv => lhs; unfold valGo
  rw [take_succD f k h]
theorem val_ok {f : List Item} {k : Nat} (h : k < f.length) (hc : checkL (f.take k) (f.getD k default) = 0) : valGo (f.take k) (f.drop k) = valGo (f.take (k + 1)) (f.drop (k + 1)) := by rw [valGo_at f k h, if_pos hc]
theorem val_no {f : List Item} {k : Nat} (h : k < f.length) (hc : ¬ checkL (f.take k) (f.getD k default) = 0) : valGo (f.take k) (f.drop k) = checkL (f.take k) (f.getD k default) := by rw [valGo_at f k h, if_neg hc]
theorem val_end {f : List Item} {k : Nat} (h : f.length ≤ k) : valGo (f.take k) (f.drop k) = 0 := by rw [List.drop_eq_nil_of_le h]; unfold valGo; rfl
theorem val_start {f : List Item} (h : ¬ (512 < (f.length : Int) ∨ 1024 < lengthL f)) : validateL f = valGo [] f := by unfold validateL; rw [if_neg (by omega)]
theorem val_limit {f : List Item} (h : 512 < (f.length : Int) ∨ 1024 < lengthL f) : validateL f = 3 := by unfold validateL; rw [if_pos (by omega)]
theorem check_bad {b : List Item} {x : Item} (h : ¬ formed b x = true) : checkL b x = 1 := by unfold checkL; rw [if_neg h]
theorem check_tag {b : List Item} {x : Item} (h : formed b x = true) (h2 : isTag x = true) (h3 : b.any (clash x) = true) : checkL b x = 7 := by unfold checkL; rw [if_pos h, h2, h3]; rfl
theorem check_ok {b : List Item} {x : Item} (h : formed b x = true) (h2 : ¬ (isTag x = true ∧ b.any (clash x) = true)) : checkL b x = 0 := by
  unfold checkL; rw [if_pos h, if_neg (by simpa using h2)]
theorem notag_of {x : Item} (h : x.kind = 1 ∨ x.kind = 5) : ¬ isTag x = true := by rw [isTag_iff]; omega
theorem small_take {f : List Item} (h : Small f) (k : Nat) : Small (f.take k) := ⟨by have := h.1; rw [List.length_take]; omega, by have := sizeL_take f k; have := h.2; omega⟩
theorem formed_textb {b : List Item} {x : Item} (hk : x.kind = 1) : formed b x = true ↔ ((¬ x.text = [] ∧ x.id = 0) ∧ (b = [] ∨ ¬ (b.getD (b.length - 1) default).kind = 1)) := by
  unfold formed
  rw [if_pos hk]
  simp only [Bool.and_eq_true, Bool.or_eq_true, decide_eq_true_eq, ne_eq]
theorem chk_notag {b : List Item} {x : Item} (hk : x.kind = 1 ∨ x.kind = 5) (h : formed b x = true) : checkL b x = 0 := check_ok h (fun h2 => notag_of hk h2.1)
theorem chk_text_bad {b : List Item} {x : Item} (hk : x.kind = 1) (h : (x.text = [] ∨ ¬ x.id = 0) ∨ ((0 : Int) < (b.length : Nat) ∧ (b.getD (b.length - 1) default).kind = 1)) : checkL b x = 1 := check_bad (fun h2 => by
  have h3 := (formed_textb hk).1 h2
  rcases h with (h | h) | ⟨h4, h⟩
  · exact h3.1.1 h
  · exact h h3.1.2
  · rcases h3.2 with h5 | h5
    · subst h5; simp at h4
    · exact h5 h)
theorem chk_text_ok {b : List Item} {x : Item} (hk : x.kind = 1) (h : ¬ ((x.text = [] ∨ ¬ x.id = 0) ∨ ((0 : Int) < (b.length : Nat) ∧ (b.getD (b.length - 1) default).kind = 1))) : checkL b x = 0 := chk_notag (.inl hk) ((formed_textb hk).2 (by
  refine ⟨⟨fun h2 => h (.inl (.inl h2)), Decidable.byContradiction fun h2 => h (.inl (.inr h2))⟩, ?_⟩
  by_cases hb : b = []
  · exact .inl hb
  · refine .inr fun h2 => h (.inr ⟨?_, h2⟩)
    have := List.length_pos_iff.2 hb
    omega))
theorem chk_slot_bad {b : List Item} {x : Item} (hk : x.kind = 5) (h : (!isName x.text) = true ∨ ¬ x.id = 0) : checkL b x = 1 := check_bad (fun h2 => by
  have h3 := (formed_slot hk).1 h2
  rcases h with h | h
  · rw [h3.1] at h; cases h
  · exact h h3.2)
theorem chk_slot_ok {b : List Item} {x : Item} (hk : x.kind = 5) (h : ¬ ((!isName x.text) = true ∨ ¬ x.id = 0)) : checkL b x = 0 := chk_notag (.inr hk) ((formed_slot hk).2 ⟨by
  cases h2 : isName x.text
  · exact absurd (.inl (by rw [h2]; rfl)) h
  · rfl, Decidable.byContradiction fun h2 => h (.inr h2)⟩)
theorem chk_open_bad {b : List Item} {x : Item} (hk : x.kind = 2 ∨ x.kind = 4) (h : ((!isContent x.text) = true ∨ x.id < 1) ∨ 999 < x.id) : checkL b x = 1 := check_bad (fun h2 => by
  have h3 := (formed_open hk).1 h2
  rcases h with (h | h) | h
  · rw [h3.1.1] at h; cases h
  · omega
  · omega)
theorem form_open {b : List Item} {x : Item} (hk : x.kind = 2 ∨ x.kind = 4) (h : ¬ (((!isContent x.text) = true ∨ x.id < 1) ∨ 999 < x.id)) : formed b x = true ∧ isTag x = true := by
  refine ⟨(formed_open hk).2 ⟨⟨?_, by omega⟩, by omega⟩, by rw [isTag_iff]; omega⟩
  cases h2 : isContent x.text
  · exact absurd (.inl (.inl (by rw [h2]; rfl))) h
  · rfl
theorem chk_close_bad {b : List Item} {x : Item} (hk : x.kind = 3) (h : ((!isName x.text) = true ∨ x.id < 1) ∨ 999 < x.id) : checkL b x = 1 := check_bad (fun h2 => by
  have h3 := (formed_close hk).1 h2
  rcases h with (h | h) | h
  · rw [h3.1.1] at h; cases h
  · omega
  · omega)
theorem form_close {b : List Item} {x : Item} (hk : x.kind = 3) (h : ¬ (((!isName x.text) = true ∨ x.id < 1) ∨ 999 < x.id)) : formed b x = true ∧ isTag x = true := by
  refine ⟨(formed_close hk).2 ⟨⟨?_, by omega⟩, by omega⟩, by rw [isTag_iff]; omega⟩
  cases h2 : isName x.text
  · exact absurd (.inl (.inl (by rw [h2]; rfl))) h
  · rfl
theorem chk_other {b : List Item} {x : Item} (h1 : ¬ x.kind = 1) (h5 : ¬ x.kind = 5) (h2 : ¬ x.kind = 2) (h4 : ¬ x.kind = 4) (h3 : ¬ x.kind = 3) : checkL b x = 1 := check_bad (by rw [formed_other h1 h5 h2 h4 h3]; simp)
/-! slices -/
theorem pieces_append (fr to_ : Int) : ∀ (f g : List Item) (at_ : Int), pieces (f ++ g) at_ fr to_ = pieces f at_ fr to_ ++ pieces g (at_ + lengthL f) fr to_
  | [], g, at_ => by simp [pieces, lengthL]
  | x :: f, g, at_ => by
    have h : lengthL (x :: f) = widthL x + lengthL f := by simp [lengthL]
    rw [List.cons_append, pieces, pieces_append fr to_ f g, pieces, h, List.append_assoc, Int.add_assoc]
theorem pieces_succ (f : List Item) (k : Nat) (fr to_ : Int) (h : k < f.length) : pieces (f.take (k + 1)) 0 fr to_ = pieces (f.take k) 0 fr to_ ++ piece (f.getD k default) (lengthL (f.take k)) fr to_ := by
  rw [take_succD f k h, pieces_append, Int.zero_add]
  simp [pieces]
theorem piece_text {x : Item} {at_ fr to_ : Int} (h : max fr at_ < min to_ (at_ + widthL x)) (hk : x.kind = 1) :
    piece x at_ fr to_ = [⟨x.kind, (x.text.drop (max fr at_ - at_).toNat).take ((min to_ (at_ + widthL x) - at_).toNat - (max fr at_ - at_).toNat), x.id⟩] := by unfold piece; rw [if_pos h, if_pos hk]
theorem piece_other {x : Item} {at_ fr to_ : Int} (h : max fr at_ < min to_ (at_ + widthL x)) (hk : ¬ x.kind = 1) : piece x at_ fr to_ = [x] := by unfold piece; rw [if_pos h, if_neg hk]
theorem piece_none {x : Item} {at_ fr to_ : Int} (h : ¬ max fr at_ < min to_ (at_ + widthL x)) : piece x at_ fr to_ = [] := by unfold piece; rw [if_neg h]
theorem width_text {x : Item} (hk : x.kind = 1) : widthL x = (x.text.length : Int) := by unfold widthL; rw [if_pos hk]
theorem width_other {x : Item} (hk : ¬ x.kind = 1) : widthL x = 1 := by unfold widthL; rw [if_neg hk]
theorem piece_text2 {x : Item} {at_ fr to_ : Int} (hk : x.kind = 1) (h : max fr at_ - at_ < min to_ (at_ + (x.text.length : Nat)) - at_) :
    piece x at_ fr to_ = [⟨1, (x.text.drop (max fr at_ - at_).toNat).take ((min to_ (at_ + (x.text.length : Nat)) - at_).toNat - (max fr at_ - at_).toNat), x.id⟩] := by
  rw [← width_text hk] at h ⊢
  rw [piece_text (by omega) hk, hk]
theorem pieces_len (f : List Item) (k : Nat) (fr to_ : Int) : (pieces (f.take k) 0 fr to_).length ≤ k := by
  have h : ∀ (g : List Item) (at_ : Int), (pieces g at_ fr to_).length ≤ g.length := fun g => by
    induction g with
    | nil => intro at_; simp [pieces]
    | cons x g ih =>
      intro at_
      rw [pieces, List.length_append, List.length_cons]
      have := ih (at_ + widthL x)
      have hp : (piece x at_ fr to_).length ≤ 1 := by unfold piece; split <;> simp
      omega
  have := h (f.take k) 0
  rw [List.length_take] at this
  omega
/-! normal forms -/
theorem normL_snoc (l : List Item) (x : Item) : normL (l ++ [x]) = normStep (normL l) x := by unfold normL; rw [List.foldl_append]; rfl
theorem normL_succ (f : List Item) (k : Nat) (h : k < f.length) : normL (f.take (k + 1)) = normStep (normL (f.take k)) (f.getD k default) := by rw [take_succD f k h, normL_snoc]
theorem norm_other {o : List Item} {x : Item} (h : ¬ x.kind = 1) : normStep o x = o ++ [x] := by unfold normStep; rw [if_neg h]
theorem norm_empty {o : List Item} {x : Item} (h : x.kind = 1) (h2 : x.text = []) : normStep o x = o := by unfold normStep; rw [if_pos h, if_pos h2]
theorem norm_join {o : List Item} {x : Item} (h : x.kind = 1) (h2 : ¬ x.text = []) (h3 : (0 : Int) < (o.length : Nat) ∧ (o.getD (o.length - 1) default).kind = 1) :
    normStep o x = o.set (o.length - 1) ⟨1, (o.getD (o.length - 1) default).text ++ x.text, 0⟩ := by
  unfold normStep
  have : o ≠ [] := by intro e; subst e; simp at h3
  rw [if_pos h, if_neg h2, if_pos ⟨this, h3.2⟩]
theorem norm_add {o : List Item} {x : Item} (h : x.kind = 1) (h2 : ¬ x.text = []) (h3 : ¬ ((0 : Int) < (o.length : Nat) ∧ (o.getD (o.length - 1) default).kind = 1)) : normStep o x = o ++ [⟨1, x.text, 0⟩] := by
  unfold normStep
  rw [if_pos h, if_neg h2, if_neg (fun h4 => h3 ⟨by have := List.length_pos_iff.2 h4.1; omega, h4.2⟩)]
theorem getD_snoc {α : Type} (l : List α) (x d : α) : (l ++ [x]).getD l.length d = x := by simp [List.getD]
theorem set_snoc {α : Type} (l : List α) (x y : α) : (l ++ [x]).set l.length y = l ++ [y] := by simp
theorem norm_snoc_text {o : List Item} {y x : Item} (hy : y.kind = 1) (h : x.kind = 1) (h2 : ¬ x.text = []) : normStep (o ++ [y]) x = o ++ [⟨1, y.text ++ x.text, 0⟩] := by
  have hl : (o ++ [y]).length - 1 = o.length := by simp
  rw [norm_join h h2 (by rw [hl, getD_snoc]; exact ⟨by simp, hy⟩), hl, getD_snoc, set_snoc]
theorem norm_two (z : List Item) {y x : Item} (hy : y.kind = 1) (h : x.kind = 1) (j : Int) : normStep (normStep z y) x = normStep z ⟨1, y.text ++ x.text, j⟩ := by
  by_cases hx : x.text = []
  · rw [norm_empty h hx, hx, List.append_nil]
    unfold normStep
    rw [if_pos hy, if_pos rfl]
  · by_cases ht : y.text = []
    · rw [norm_empty hy ht, ht, List.nil_append]
      unfold normStep
      rw [if_pos h, if_pos rfl]
    · have hne : ¬ (y.text ++ x.text = []) := by simp [ht]
      by_cases h3 : (0 : Int) < (z.length : Nat) ∧ (z.getD (z.length - 1) default).kind = 1
      · have hz : z ≠ [] := by intro e; subst e; simp at h3
        obtain ⟨m, q, rfl⟩ : ∃ m q, z = m ++ [q] := ⟨z.dropLast, z.getLast hz, (List.dropLast_concat_getLast hz).symm⟩
        have hl : (m ++ [q]).length - 1 = m.length := by simp
        rw [hl, getD_snoc] at h3
        rw [norm_snoc_text h3.2 hy ht, norm_snoc_text rfl h hx, norm_snoc_text h3.2 (x := ⟨1, y.text ++ x.text, j⟩) rfl hne, List.append_assoc]
      · rw [norm_add hy ht h3, norm_snoc_text rfl h hx, norm_add (x := ⟨1, y.text ++ x.text, j⟩) rfl hne h3]
theorem norm_fold (o : List Item) (n : List Item) (x : Item) : (normStep n x).foldl normStep o = normStep (n.foldl normStep o) x := by
  by_cases hk : x.kind = 1
  · by_cases hx : x.text = []
    · rw [norm_empty hk hx, norm_empty hk hx]
    · by_cases h3 : (0 : Int) < (n.length : Nat) ∧ (n.getD (n.length - 1) default).kind = 1
      · have hz : n ≠ [] := by intro e; subst e; simp at h3
        obtain ⟨m, q, rfl⟩ : ∃ m q, n = m ++ [q] := ⟨n.dropLast, n.getLast hz, (List.dropLast_concat_getLast hz).symm⟩
        have hl : (m ++ [q]).length - 1 = m.length := by simp
        rw [hl, getD_snoc] at h3
        rw [norm_snoc_text h3.2 hk hx, List.foldl_append, List.foldl_append]
        exact (norm_two (m.foldl normStep o) h3.2 hk 0).symm
      · rw [norm_add hk hx h3, List.foldl_append, List.foldl_cons, List.foldl_nil]
        unfold normStep
        rw [if_pos rfl, if_pos hk]
  · rw [norm_other hk, List.foldl_append]; rfl
theorem snoc_cases {α : Type} {Q : List α → Prop} (h0 : Q []) (h1 : ∀ l x, Q l → Q (l ++ [x])) : ∀ (m : Nat) (l : List α), l.length = m → Q l
  | 0, l, h => by have := List.eq_nil_of_length_eq_zero h; subst this; exact h0
  | m + 1, l, h => by
    have hne : l ≠ [] := by intro e; subst e; simp at h
    rw [← List.dropLast_concat_getLast hne]
    exact h1 _ _ (snoc_cases h0 h1 m _ (by simp; omega))
theorem norm_absorb (o y : List Item) : (normL y).foldl normStep o = y.foldl normStep o := by
  refine snoc_cases (Q := fun y => (normL y).foldl normStep o = y.foldl normStep o) rfl (fun l x ih => ?_) _ y rfl
  rw [normL_snoc, norm_fold, ih, List.foldl_append]; rfl
theorem normL_left (x y : List Item) : normL (normL x ++ y) = normL (x ++ y) := by
  have h : normL (normL x) = normL x := norm_absorb [] x
  show (normL x ++ y).foldl normStep [] = (x ++ y).foldl normStep []
  rw [List.foldl_append, List.foldl_append]
  show y.foldl normStep (normL (normL x)) = _
  rw [h]; rfl
theorem normL_right (x y : List Item) : normL (x ++ normL y) = normL (x ++ y) := by
  show (x ++ normL y).foldl normStep [] = (x ++ y).foldl normStep []
  rw [List.foldl_append, List.foldl_append, norm_absorb]
theorem norm_assoc (f g h : List Item) : normL (normL (f ++ g) ++ h) = normL (f ++ normL (g ++ h)) := by rw [normL_left, normL_right, List.append_assoc]
theorem norm_ind {Q : List Item → List Item → Prop} (h0 : Q [] []) (h1 : ∀ l x, Q l (normL l) → Q (l ++ [x]) (normStep (normL l) x)) (f : List Item) : Q f (normL f) := by
  refine snoc_cases (Q := fun f => Q f (normL f)) h0 (fun l x ih => ?_) _ f rfl
  rw [normL_snoc]; exact h1 l x ih
/-- what a step of joining does -/
theorem norm_cases (o : List Item) (x : Item) : (x.kind = 1 ∧ x.text = [] ∧ normStep o x = o) ∨ (x.kind = 1 ∧ normStep o x = o ++ [⟨1, x.text, 0⟩]) ∨ (¬ x.kind = 1 ∧ normStep o x = o ++ [x]) ∨
    (x.kind = 1 ∧ ∃ m q, o = m ++ [q] ∧ q.kind = 1 ∧ normStep o x = m ++ [⟨1, q.text ++ x.text, 0⟩]) := by
  by_cases hk : x.kind = 1
  · by_cases hx : x.text = []
    · exact .inl ⟨hk, hx, norm_empty hk hx⟩
    · by_cases h3 : (0 : Int) < (o.length : Nat) ∧ (o.getD (o.length - 1) default).kind = 1
      · have hz : o ≠ [] := by intro e; subst e; simp at h3
        obtain ⟨m, q, rfl⟩ : ∃ m q, o = m ++ [q] := ⟨o.dropLast, o.getLast hz, (List.dropLast_concat_getLast hz).symm⟩
        have hl : (m ++ [q]).length - 1 = m.length := by simp
        rw [hl, getD_snoc] at h3
        exact .inr (.inr (.inr ⟨hk, m, q, rfl, h3.2, norm_snoc_text h3.2 hk hx⟩))
      · exact .inr (.inl ⟨hk, norm_add hk hx h3⟩)
  · exact .inr (.inr (.inl ⟨hk, norm_other hk⟩))
theorem sizeL_append (f g : List Item) : sizeL (f ++ g) = sizeL f + sizeL g := by simp [sizeL]
theorem sizeL_one (x : Item) : sizeL [x] = x.text.length := by simp [sizeL]
theorem lengthL_one (x : Item) : lengthL [x] = widthL x := by simp [lengthL]
theorem normL_len (f : List Item) : (normL f).length ≤ f.length := by
  refine norm_ind (Q := fun f n => n.length ≤ f.length) (by simp) (fun l x ih => ?_) f
  rcases norm_cases (normL l) x with ⟨_, _, e⟩ | ⟨_, e⟩ | ⟨_, e⟩ | ⟨_, m, q, e0, _, e⟩
  · rw [e]; simp; omega
  · rw [e]; simp; omega
  · rw [e]; simp; omega
  · rw [e]; rw [e0] at ih; simp at ih ⊢; omega
theorem normL_size (f : List Item) : sizeL (normL f) ≤ sizeL f := by
  refine norm_ind (Q := fun f n => sizeL n ≤ sizeL f) (by simp [sizeL]) (fun l x ih => ?_) f
  rw [sizeL_append, sizeL_one]
  rcases norm_cases (normL l) x with ⟨_, _, e⟩ | ⟨_, e⟩ | ⟨_, e⟩ | ⟨_, m, q, e0, _, e⟩
  · rw [e]; omega
  · rw [e, sizeL_append, sizeL_one]; dsimp only; omega
  · rw [e, sizeL_append, sizeL_one]; omega
  · rw [e, sizeL_append, sizeL_one]; rw [e0, sizeL_append, sizeL_one] at ih; dsimp only; rw [List.length_append]; omega
theorem normL_length (f : List Item) : lengthL (normL f) = lengthL f := by
  refine norm_ind (Q := fun f n => lengthL n = lengthL f) rfl (fun l x ih => ?_) f
  rw [lengthL_append, lengthL_one]
  rcases norm_cases (normL l) x with ⟨h1, h2, e⟩ | ⟨h1, e⟩ | ⟨h1, e⟩ | ⟨h1, m, q, e0, hq, e⟩
  · rw [e, width_text h1, h2, ih]; simp
  · rw [e, lengthL_append, lengthL_one, ih, width_text h1, width_text (x := ⟨1, x.text, 0⟩) rfl]
  · rw [e, lengthL_append, lengthL_one, ih]
  · rw [e, lengthL_append, lengthL_one]
    rw [e0, lengthL_append, lengthL_one, width_text hq] at ih
    rw [width_text h1, width_text (x := ⟨1, q.text ++ x.text, 0⟩) rfl, List.length_append]
    omega
def plainI (x : Item) : Str := if x.kind = 1 then x.text else if x.kind = 5 then [255] else []
def plainL (f : List Item) : Str := f.flatMap plainI
theorem plainL_append (f g : List Item) : plainL (f ++ g) = plainL f ++ plainL g := by simp [plainL]
theorem plainL_one (x : Item) : plainL [x] = plainI x := by simp [plainL]
theorem plainI_text {x : Item} (h : x.kind = 1) : plainI x = x.text := by unfold plainI; rw [if_pos h]
theorem plainI_slot {x : Item} (h : x.kind = 5) : plainI x = [255] := by unfold plainI; rw [if_neg (by omega), if_pos h]
theorem plainI_other {x : Item} (h : ¬ x.kind = 1) (h5 : ¬ x.kind = 5) : plainI x = [] := by unfold plainI; rw [if_neg h, if_neg h5]
theorem plainL_succ (f : List Item) (k : Nat) (h : k < f.length) : plainL (f.take (k + 1)) = plainL (f.take k) ++ plainI (f.getD k default) := by rw [take_succD f k h, plainL_append, plainL_one]
theorem plainI_len (x : Item) : (plainI x).length ≤ x.text.length + 1 := by
  by_cases h : x.kind = 1
  · rw [plainI_text h]; omega
  · by_cases h5 : x.kind = 5
    · rw [plainI_slot h5]; simp
    · rw [plainI_other h h5]; simp
theorem plainL_len (f : List Item) : (plainL f).length ≤ sizeL f + f.length := by
  induction f with
  | nil => simp [plainL]
  | cons x f ih =>
    have h1 : plainL (x :: f) = plainI x ++ plainL f := by simp [plainL]
    have h2 : sizeL (x :: f) = x.text.length + sizeL f := by simp [sizeL]
    have := plainI_len x
    rw [h1, h2, List.length_append, List.length_cons]
    omega
theorem normL_plain (f : List Item) : plainL (normL f) = plainL f := by
  refine norm_ind (Q := fun f n => plainL n = plainL f) rfl (fun l x ih => ?_) f
  rw [plainL_append, plainL_one]
  rcases norm_cases (normL l) x with ⟨h1, h2, e⟩ | ⟨h1, e⟩ | ⟨h1, e⟩ | ⟨h1, m, q, e0, hq, e⟩
  · rw [e, plainI_text h1, h2, ih]; simp
  · rw [e, plainL_append, plainL_one, ih, plainI_text h1, plainI_text (x := ⟨1, x.text, 0⟩) rfl]
  · rw [e, plainL_append, plainL_one, ih]
  · rw [e, plainL_append, plainL_one]
    rw [e0, plainL_append, plainL_one, plainI_text hq] at ih
    rw [plainI_text h1, plainI_text (x := ⟨1, q.text ++ x.text, 0⟩) rfl, ← ih, List.append_assoc]
/-- a run of texts -/
def joinT (o : List Item) (bs : Str) : List Item := if bs = [] then o else o ++ [⟨1, bs, 0⟩]
def lastNT (o : List Item) : Prop := ¬ ((0 : Int) < (o.length : Nat) ∧ (o.getD (o.length - 1) default).kind = 1)
theorem lastNT_snoc {o : List Item} {x : Item} (h : ¬ x.kind = 1) : lastNT (o ++ [x]) := by
  unfold lastNT
  have hl : (o ++ [x]).length - 1 = o.length := by simp
  rw [hl, getD_snoc]
  exact fun h2 => h h2.2
theorem lastNT_nil : lastNT [] := by unfold lastNT; simp
theorem join_step {o : List Item} {bs : Str} {x : Item} (ho : lastNT o) (hk : x.kind = 1) : normStep (joinT o bs) x = joinT o (bs ++ x.text) := by
  by_cases hx : x.text = []
  · rw [norm_empty hk hx, hx, List.append_nil]
  · by_cases hb : bs = []
    · subst hb
      unfold joinT
      rw [if_pos rfl, List.nil_append, if_neg hx, norm_add hk hx ho]
    · unfold joinT
      rw [if_neg hb, if_neg (by simp [hb]), norm_snoc_text rfl hk hx]
theorem joinT_nil (o : List Item) : joinT o [] = o := by unfold joinT; rw [if_pos rfl]
theorem joinT_no {o : List Item} {bs : Str} (h : ¬ (0 : Int) < (bs.length : Nat)) : joinT o bs = o := by
  have := List.eq_nil_of_length_eq_zero (show bs.length = 0 by omega)
  subst this; exact joinT_nil o
theorem joinT_yes {o : List Item} {bs : Str} (h : (0 : Int) < (bs.length : Nat)) : joinT o bs = o ++ [⟨1, bs, 0⟩] := by
  unfold joinT; rw [if_neg (by intro e; subst e; simp at h)]
theorem small_norm {f : List Item} (h : Small f) : Small (normL f) := ⟨by have := normL_len f; have := h.1; omega, by have := normL_size f; have := h.2; omega⟩
theorem few_small {f : List Item} (h : f.length ≤ 60 ∧ sizeL f ≤ 2000) : Small f := ⟨by omega, by omega⟩
end Go.Vc
namespace Go.Vc
open Go
def addL (o : List Int) (n : Int) : List Int := if n ∈ o then o else o ++ [n]
def numsStep (o : List Int) (x : Item) : List Int := if isTag x = true then addL o x.id else o
def numsL (f : List Item) : List Int := f.foldl numsStep []
theorem numsL_snoc (l : List Item) (x : Item) : numsL (l ++ [x]) = numsStep (numsL l) x := by unfold numsL; rw [List.foldl_append]; rfl
theorem numsL_succ (f : List Item) (k : Nat) (h : k < f.length) : numsL (f.take (k + 1)) = numsStep (numsL (f.take k)) (f.getD k default) := by rw [take_succD f k h, numsL_snoc]
theorem nums_new {o : List Int} {x : Item} (h : isTag x = true) (h2 : ¬ x.id ∈ o) : numsStep o x = o ++ [x.id] := by unfold numsStep addL; rw [if_pos h, if_neg h2]
theorem nums_old {o : List Int} {x : Item} (h : ¬ (isTag x = true ∧ ¬ x.id ∈ o)) : numsStep o x = o := by
  unfold numsStep addL
  by_cases h1 : isTag x = true
  · rw [if_pos h1, if_pos (Decidable.byContradiction fun h2 => h ⟨h1, h2⟩)]
  · rw [if_neg h1]
theorem addL_len (o : List Int) (n : Int) : (addL o n).length ≤ o.length + 1 := by unfold addL; split <;> simp
theorem numsStep_len (o : List Int) (x : Item) : (numsStep o x).length ≤ o.length + 1 := by
  unfold numsStep
  split
  · exact addL_len _ _
  · omega
theorem numsL_len (f : List Item) : (numsL f).length ≤ f.length := by
  refine snoc_cases (Q := fun f => (numsL f).length ≤ f.length) (by simp [numsL]) (fun l x ih => ?_) _ f rfl
  rw [numsL_snoc]
  have := numsStep_len (numsL l) x
  simp only [List.length_append, List.length_cons, List.length_nil]
  omega
theorem addL_old {o : List Int} {n : Int} (h : n ∈ o) : addL o n = o := by unfold addL; rw [if_pos h]
theorem addL_new {o : List Int} {n : Int} (h : ¬ n ∈ o) : addL o n = o ++ [n] := by unfold addL; rw [if_neg h]
theorem mem_addL {o : List Int} {n x : Int} : x ∈ addL o n ↔ x ∈ o ∨ x = n := by
  unfold addL
  split
  · rename_i h
    exact ⟨fun h1 => .inl h1, fun h1 => h1.elim id (fun h2 => h2 ▸ h)⟩
  · simp
theorem mem_fold : ∀ (m : List Int) (o : List Int) (x : Int), x ∈ m.foldl addL o ↔ x ∈ o ∨ x ∈ m
  | [], o, x => by simp
  | n :: m, o, x => by
    rw [List.foldl_cons, mem_fold m, mem_addL, List.mem_cons, or_assoc]
theorem fold_addL (o m : List Int) (n : Int) : (addL m n).foldl addL o = addL (m.foldl addL o) n := by
  by_cases h : n ∈ m
  · rw [addL_old h, addL_old ((mem_fold m o n).2 (.inr h))]
  · rw [addL_new h, List.foldl_append]; rfl
theorem nums_absorb (o : List Int) (t : List Item) : (numsL t).foldl addL o = t.foldl numsStep o := by
  refine snoc_cases (Q := fun t => (numsL t).foldl addL o = t.foldl numsStep o) rfl (fun l x ih => ?_) _ t rfl
  rw [numsL_snoc, List.foldl_append]
  unfold numsStep
  show _ = numsStep _ x
  unfold numsStep
  by_cases h : isTag x = true
  · rw [if_pos h, if_pos h, fold_addL, ih]; rfl
  · rw [if_neg h, if_neg h, ih]; rfl
theorem nums_both (s t : List Item) : (numsL t).foldl addL (numsL s) = numsL (s ++ t) := by
  rw [nums_absorb]
  unfold numsL
  rw [List.foldl_append]
/-- the number that a number becomes -/
def firstM (fr to_ : List Int) (n : Int) : Option Int := getM (fr.zip to_) n
theorem firstM_at {fr to_ : List Int} {k : Nat} (h1 : k < fr.length) (h2 : k < to_.length) (n : Int) : firstM (fr.drop k) (to_.drop k) n = if fr.getD k default = n then some (to_.getD k default) else firstM (fr.drop (k + 1)) (to_.drop (k + 1)) n := by
  unfold firstM
  rw [drop_getD' default fr k h1, drop_getD' default to_ k h2, List.zip_cons_cons, getM_cons]
theorem firstM_end {fr to_ : List Int} {k : Nat} (h : fr.length ≤ k ∨ to_.length ≤ k) (n : Int) : firstM (fr.drop k) (to_.drop k) n = none := by
  unfold firstM
  rcases h with h | h
  · rw [List.drop_eq_nil_of_le h, List.zip_nil_left]; rfl
  · rw [List.drop_eq_nil_of_le h, List.zip_nil_right]; rfl
def ren1 (fr to_ : List Int) (x : Item) : List Item := if isTag x = true then (match firstM fr to_ x.id with | some n => [⟨x.kind, x.text, n⟩] | none => []) else [x]
def renF (fr to_ : List Int) (f : List Item) : List Item := f.flatMap (ren1 fr to_)
def renL (fr to_ : List Int) (f : List Item) : List Item := normL (renF fr to_ f)
theorem renF_succ (fr to_ : List Int) (f : List Item) (k : Nat) (h : k < f.length) : renF fr to_ (f.take (k + 1)) = renF fr to_ (f.take k) ++ ren1 fr to_ (f.getD k default) := by
  unfold renF; rw [take_succD f k h]; simp
theorem ren_other {fr to_ : List Int} {x : Item} (h : ¬ isTag x = true) : ren1 fr to_ x = [x] := by unfold ren1; rw [if_neg h]
theorem ren_some {fr to_ : List Int} {x : Item} {n : Int} (h : isTag x = true) (h2 : firstM fr to_ x.id = some n) : ren1 fr to_ x = [⟨x.kind, x.text, n⟩] := by unfold ren1; rw [if_pos h, h2]
theorem ren_none {fr to_ : List Int} {x : Item} (h : isTag x = true) (h2 : firstM fr to_ x.id = none) : ren1 fr to_ x = [] := by unfold ren1; rw [if_pos h, h2]
theorem ren1_bd (fr to_ : List Int) (x : Item) : (ren1 fr to_ x).length ≤ 1 ∧ sizeL (ren1 fr to_ x) ≤ x.text.length := by
  unfold ren1
  split
  · split
    · simp [sizeL]
    · simp [sizeL]
  · simp [sizeL]
theorem renF_bd (fr to_ : List Int) : ∀ (f : List Item), (renF fr to_ f).length ≤ f.length ∧ sizeL (renF fr to_ f) ≤ sizeL f
  | [] => by simp [renF]
  | x :: f => by
    have ih := renF_bd fr to_ f
    have h1 : renF fr to_ (x :: f) = ren1 fr to_ x ++ renF fr to_ f := by simp [renF]
    have h2 : sizeL (x :: f) = x.text.length + sizeL f := by simp [sizeL]
    have h3 := ren1_bd fr to_ x
    rw [h1, h2, List.length_append, sizeL_append, List.length_cons]
    omega
theorem small_ren {fr to_ : List Int} {f : List Item} (h : Small f) : Small (renF fr to_ f) := ⟨by have := renF_bd fr to_ f; have := h.1; omega, by have := renF_bd fr to_ f; have := h.2; omega⟩
def upL (n : Nat) : List Int := (List.range n).map (fun i => ((i : Nat) : Int) + 1)
theorem upL_succ (n : Nat) : upL (n + 1) = upL n ++ [((n : Nat) : Int) + 1] := by unfold upL; rw [List.range_succ]; simp
theorem upL_len (n : Nat) : (upL n).length = n := by simp [upL]
theorem upL_at {n j : Nat} (h : j < n) : (upL n).getD j default = (j : Int) + 1 := by simp [upL, List.getD, h]
theorem foldl_succ {α β : Type} [Inhabited β] (f : α → β → α) (o : α) (l : List β) (k : Nat) (h : k < l.length) : (l.take (k + 1)).foldl f o = f ((l.take k).foldl f o) (l.getD k default) := by
  rw [take_succD l k h, List.foldl_append]; rfl
theorem fold_len (o : List Int) : ∀ (m : List Int), (m.foldl addL o).length ≤ o.length + m.length := fun m => by
  refine snoc_cases (Q := fun m => (m.foldl addL o).length ≤ o.length + m.length) (by simp) (fun l x ih => ?_) _ m rfl
  rw [List.foldl_append]
  have := addL_len (l.foldl addL o) x
  simp only [List.foldl_cons, List.foldl_nil, List.length_append, List.length_cons, List.length_nil]
  omega
end Go.Vc
namespace Go.Vc
open Go
theorem valGo_snoc : ∀ (f b : List Item) (x : Item), valGo b (f ++ [x]) = 0 ↔ valGo b f = 0 ∧ checkL (b ++ f) x = 0
  | [], b, x => by
    rw [List.nil_append, List.append_nil]
    have e : valGo b [x] = if checkL b x = 0 then valGo (b ++ [x]) [] else checkL b x := by
      conv => lhs; unfold valGo
    have e0 : ∀ c : List Item, valGo c [] = 0 := fun c => by rw [valGo]
    rw [e, e0, e0]
    by_cases h : checkL b x = 0
    · rw [if_pos h]; simp [h]
    · rw [if_neg h]; simp [h]
  | y :: f, b, x => by
    rw [List.cons_append, valGo, valGo]
    by_cases h : checkL b y = 0
    · rw [if_pos h, if_pos h, valGo_snoc f (b ++ [y]) x, List.append_assoc]; rfl
    · rw [if_neg h, if_neg h]
      exact ⟨fun h2 => absurd h2 h, fun h2 => absurd h2.1 h⟩
theorem val_snoc (f : List Item) (x : Item) : valGo [] (f ++ [x]) = 0 ↔ valGo [] f = 0 ∧ checkL f x = 0 := valGo_snoc f [] x
theorem checkL_form {b : List Item} {x : Item} (h : checkL b x = 0) : formed b x = true := by
  unfold checkL at h
  split at h
  · rename_i h1; exact h1
  · cases h
theorem lastNT_of {b : List Item} (h : b = [] ∨ ¬ (b.getD (b.length - 1) default).kind = 1) : lastNT b := by
  unfold lastNT
  rintro ⟨h1, h2⟩
  rcases h with h | h
  · subst h; simp at h1
  · exact h h2
theorem lastNT_to {b : List Item} (h : lastNT b) : b = [] ∨ ¬ (b.getD (b.length - 1) default).kind = 1 := by
  by_cases hb : b = []
  · exact .inl hb
  · refine .inr fun h2 => h ⟨?_, h2⟩
    have := List.length_pos_iff.2 hb
    omega
theorem chk_text {b : List Item} {t : Str} (h0 : ¬ t = []) (h : lastNT b) : checkL b ⟨1, t, 0⟩ = 0 := chk_notag (.inl rfl) ((formed_textb rfl).2 ⟨⟨h0, rfl⟩, lastNT_to h⟩)
theorem val_norm (f : List Item) : valGo [] f = 0 → normL f = f := by
  refine snoc_cases (Q := fun f => valGo [] f = 0 → normL f = f) (fun _ => rfl) (fun l x ih h => ?_) _ f rfl
  obtain ⟨h1, h2⟩ := (val_snoc l x).1 h
  rw [normL_snoc, ih h1]
  by_cases hk : x.kind = 1
  · have h3 := (formed_textb hk).1 (checkL_form h2)
    rw [norm_add hk h3.1.1 (lastNT_of h3.2)]
    obtain ⟨k, t, i⟩ := x
    obtain rfl : k = 1 := hk
    obtain rfl : i = 0 := h3.1.2
    rfl
  · rw [norm_other hk]
structure FI (f op : List Item) (id : Int) : Prop where
  pos : 0 ≤ id
  val : valGo [] f = 0
  ids : ∀ y ∈ f, isTag y = true → y.id ≤ (id : Int)
  opn : ∀ o ∈ op, o.kind = 2 ∧ isName (nameL o.text) = true ∧ 1 ≤ o.id ∧ o.id ≤ (id : Int) ∧ ∀ y ∈ f, isTag y = true → y.id = o.id → y.kind = 2 ∧ nameL y.text = nameL o.text
  dis : op.Pairwise (fun a b => a.id ≠ b.id)
theorem FI.nil : FI [] [] 0 := ⟨by decide, rfl, by simp, by simp, List.Pairwise.nil⟩
theorem FI.norm {f op : List Item} {id : Int} (h : FI f op id) (x : Item) : normL (f ++ [x]) = normStep f x := by rw [normL_snoc, val_norm f h.val]
/-- members that are tags are the same -/
theorem FI.same {f g op : List Item} {id : Int} (h : FI f op id) (hv : valGo [] g = 0) (hm : ∀ y ∈ g, isTag y = true → y ∈ f) : FI g op id :=
  ⟨h.pos, hv, fun y hy ht => h.ids y (hm y hy ht) ht, fun o ho => by
    obtain ⟨h1, h2, h3, h4, h5⟩ := h.opn o ho
    exact ⟨h1, h2, h3, h4, fun y hy ht => h5 y (hm y hy ht) ht⟩, h.dis⟩
theorem notag1 (t : Str) (i : Int) : ¬ isTag (⟨1, t, i⟩ : Item) = true := by rw [isTag_iff]; simp
theorem FI.text {f op : List Item} {id : Int} (h : FI f op id) (t : Str) : FI (normStep f ⟨1, t, 0⟩) op id := by
  by_cases ht : t = []
  · rw [norm_empty rfl ht]; exact h
  · by_cases h3 : lastNT f
    · rw [norm_add (x := ⟨1, t, 0⟩) rfl ht h3]
      refine h.same ((val_snoc _ _).2 ⟨h.val, chk_text ht h3⟩) (fun y hy hy2 => ?_)
      rcases List.mem_append.1 hy with h4 | h4
      · exact h4
      · simp at h4; subst h4; exact absurd hy2 (notag1 _ _)
    · have h3' : (0 : Int) < (f.length : Nat) ∧ (f.getD (f.length - 1) default).kind = 1 := Decidable.byContradiction h3
      have hz : f ≠ [] := by intro e; subst e; simp at h3'
      obtain ⟨m, q, rfl⟩ : ∃ m q, f = m ++ [q] := ⟨f.dropLast, f.getLast hz, (List.dropLast_concat_getLast hz).symm⟩
      have hl : (m ++ [q]).length - 1 = m.length := by simp
      rw [hl, getD_snoc] at h3'
      rw [norm_snoc_text (x := ⟨1, t, 0⟩) h3'.2 rfl ht]
      obtain ⟨h1, h2⟩ := (val_snoc m q).1 h.val
      have h5 := (formed_textb h3'.2).1 (checkL_form h2)
      refine h.same ((val_snoc _ _).2 ⟨h1, chk_text (by simp [ht]) (lastNT_of h5.2)⟩) (fun y hy hy2 => ?_)
      rcases List.mem_append.1 hy with h4 | h4
      · exact List.mem_append_left _ h4
      · simp at h4; subst h4; exact absurd hy2 (notag1 _ _)
theorem FI.slot {f op : List Item} {id : Int} (h : FI f op id) {t : Str} (ht : isName t = true) : FI (normStep f ⟨5, t, 0⟩) op id := by
  rw [norm_other (by simp)]
  refine h.same ((val_snoc _ _).2 ⟨h.val, chk_notag (.inr rfl) ((formed_slot rfl).2 ⟨ht, rfl⟩)⟩) (fun y hy hy2 => ?_)
  rcases List.mem_append.1 hy with h4 | h4
  · exact h4
  · simp at h4; subst h4; exact absurd hy2 (notag_of (.inr rfl))
/-- a tag with a new number -/
theorem FI.new {f op : List Item} {id : Int} (h : FI f op id) {x : Item} (hk : x.kind ≠ 1) (hid : x.id = (id : Int) + 1) (hf : formed f x = true) : FI (normStep f x) op (id + 1) := by
  rw [norm_other hk]
  have hnc : f.any (clash x) = false := by
    rw [List.any_eq_false]
    intro y hy hc
    have h1 := (clash_iff x y).1 hc
    have := h.ids y hy h1.1.1
    omega
  have hp := h.pos
  refine ⟨by omega, (val_snoc _ _).2 ⟨h.val, check_ok hf (fun h2 => by rw [hnc] at h2; simp at h2)⟩, fun y hy ht => ?_, fun o ho => ?_, h.dis⟩
  · rcases List.mem_append.1 hy with h4 | h4
    · have := h.ids y h4 ht; omega
    · simp at h4; subst h4; omega
  · obtain ⟨h1, h2, h3, h4, h5⟩ := h.opn o ho
    refine ⟨h1, h2, h3, by omega, fun y hy ht hyo => ?_⟩
    rcases List.mem_append.1 hy with h6 | h6
    · exact h5 y h6 ht hyo
    · simp at h6; subst h6; omega
theorem content_name {s : Str} (h : isContent s = true) : isName (nameL s) = true := ((isContent_iff s).1 h).2.2.1
theorem FI.empty {f op : List Item} {id : Int} (h : FI f op id) {t : Str} (ht : isContent t = true) (hid : id + 1 ≤ 999) : FI (normStep f ⟨4, t, (id : Int) + 1⟩) op (id + 1) :=
  h.new (by simp) rfl ((formed_open (.inr rfl)).2 ⟨⟨ht, by have := h.pos; simp; omega⟩, by simp; omega⟩)
theorem FI.open_ {f op : List Item} {id : Int} (h : FI f op id) {t : Str} (ht : isContent t = true) (hid : id + 1 ≤ 999) : FI (normStep f ⟨2, t, (id : Int) + 1⟩) (op ++ [⟨2, t, (id : Int) + 1⟩]) (id + 1) := by
  have h1 := h.new (x := ⟨2, t, (id : Int) + 1⟩) (by simp) rfl ((formed_open (.inl rfl)).2 ⟨⟨ht, by have := h.pos; simp; omega⟩, by simp; omega⟩)
  have hp := h.pos
  refine ⟨h1.pos, h1.val, h1.ids, fun o ho => ?_, List.pairwise_append.2 ⟨h.dis, List.pairwise_singleton _ _, fun a ha b hb => ?_⟩⟩
  · rcases List.mem_append.1 ho with h2 | h2
    · exact h1.opn o h2
    · simp at h2; subst h2
      refine ⟨rfl, content_name ht, (by first | (simp; done) | (simp; omega)), (by first | (simp; done) | (simp; omega)), fun y hy hyt hyo => ?_⟩
      rw [norm_other (by simp)] at hy
      rcases List.mem_append.1 hy with h6 | h6
      · have := h.ids y h6 hyt
        simp only at hyo
        omega
      · simp at h6; subst h6; exact ⟨rfl, rfl⟩
  · simp at hb; subst hb
    have := (h.opn a ha).2.2.2.1
    simp only
    omega
theorem FI.closeNew {f op : List Item} {id : Int} (h : FI f op id) {t : Str} (ht : isName t = true) (hid : id + 1 ≤ 999) : FI (normStep f ⟨3, t, (id : Int) + 1⟩) op (id + 1) :=
  h.new (by simp) rfl ((formed_close rfl).2 ⟨⟨ht, by have := h.pos; simp; omega⟩, by simp; omega⟩)
/-- closing an open tag -/
theorem FI.close {f op : List Item} {id : Int} (h : FI f op id) {k : Nat} (hk : k < op.length) (hid : id ≤ 999) : FI (normStep f ⟨3, nameL (op.getD k default).text, (op.getD k default).id⟩) (op.take k ++ op.drop (k + 1)) id := by
  have e : op.getD k default = op[k] := by simp [List.getD, hk]
  rw [e, norm_other (by simp)]
  have hm : op[k] ∈ op := List.getElem_mem hk
  obtain ⟨h1, h2, h3, h4, h5⟩ := h.opn _ hm
  have hsp : op = op.take k ++ op[k] :: op.drop (k + 1) := by rw [← List.drop_eq_getElem_cons hk, List.take_append_drop]
  have hd := h.dis
  rw [hsp, List.pairwise_append, List.pairwise_cons] at hd
  have hnc : f.any (clash ⟨3, nameL op[k].text, op[k].id⟩) = false := by
    rw [List.any_eq_false]
    intro y hy hc
    have h6 := (clash_iff _ y).1 hc
    have h7 := h5 y hy h6.1.1 h6.1.2
    rcases h6.2 with (h8 | h8) | h8
    · exact h8 rfl
    · exact h8 h7.1
    · exact h8 h7.2
  have hsub : ∀ o ∈ op.take k ++ op.drop (k + 1), o ∈ op ∧ o.id ≠ op[k].id := fun o ho => by
    rcases List.mem_append.1 ho with h6 | h6
    · exact ⟨List.mem_of_mem_take h6, hd.2.2 o h6 _ (List.mem_cons_self ..)⟩
    · exact ⟨List.mem_of_mem_drop h6, fun e2 => hd.2.1.1 o h6 e2.symm⟩
  refine ⟨h.pos, (val_snoc _ _).2 ⟨h.val, check_ok ((formed_close rfl).2 ⟨⟨h2, h3⟩, by simp only; omega⟩) (fun h6 => by rw [hnc] at h6; simp at h6)⟩, fun y hy ht => ?_, fun o ho => ?_, ?_⟩
  · rcases List.mem_append.1 hy with h6 | h6
    · exact h.ids y h6 ht
    · simp at h6; subst h6; exact h4
  · obtain ⟨ho1, ho2⟩ := hsub o ho
    obtain ⟨g1, g2, g3, g4, g5⟩ := h.opn o ho1
    refine ⟨g1, g2, g3, g4, fun y hy ht hyo => ?_⟩
    rcases List.mem_append.1 hy with h6 | h6
    · exact g5 y h6 ht hyo
    · simp at h6; subst h6; exact absurd hyo.symm ho2
  · rw [List.pairwise_append]
    exact ⟨hd.1, hd.2.1.2, fun a ha b hb => hd.2.2 a ha b (List.mem_cons_of_mem _ hb)⟩
/-! ### the words of tags -/
def slotW : List Str := [[110], [110, 97, 109, 101], [120, 49]]
def emptyW : List Str := [[98, 114], [105, 109, 103, 32, 97]]
def openW : List Str := [[98], [105], [97, 32, 104, 61, 49]]
theorem slotW_ok : ∀ j, j < 3 → isName (slotW.getD j default) = true ∧ (slotW.getD j default).length ≤ 5 := by decide
theorem emptyW_ok : ∀ j, j < 2 → isContent (emptyW.getD j default) = true ∧ (emptyW.getD j default).length ≤ 5 := by decide
theorem openW_ok : ∀ j, j < 3 → isContent (openW.getD j default) = true ∧ (openW.getD j default).length ≤ 5 := by decide
theorem text5 {op : List Item} (h : ∀ o ∈ op, o.text.length ≤ 5) (k : Nat) : (op.getD k default).text.length ≤ 5 := by
  rcases Nat.lt_or_ge k op.length with h1 | h1
  · have e : op.getD k default = op[k] := by simp [List.getD, h1]
    rw [e]; exact h _ (List.getElem_mem h1)
  · have e : op.getD k default = default := by simp [List.getD, List.getElem?_eq_none h1]
    rw [e]; exact Nat.zero_le _
theorem FI.closeLast {f op : List Item} {id : Int} {j : Nat} (h0 : 0 < j) (hj : j ≤ op.length) (h : FI f (op.take j) id) (hid : id ≤ 999) :
    FI (f ++ [⟨3, nameL (op.getD (j - 1) default).text, (op.getD (j - 1) default).id⟩]) (op.take (j - 1)) id := by
  have h1 := h.close (k := j - 1) (by rw [List.length_take]; omega) hid
  have e1 : (op.take j).getD (j - 1) default = op.getD (j - 1) default := getD_take op default j (j - 1) (by omega)
  have e2 : (op.take j).take (j - 1) = op.take (j - 1) := by rw [List.take_take]; congr 1; omega
  have e3 : (op.take j).drop (j - 1 + 1) = [] := List.drop_eq_nil_of_le (by rw [List.length_take]; omega)
  rw [e1, e2, e3, List.append_nil, norm_other (by simp)] at h1
  exact h1
/-! ### shapes -/
def shapeStep (o : Option (List Int × List Int)) (x : Item) : Option (List Int × List Int) :=
  match o with
  | none => none
  | some (c, s) =>
    if x.kind = 2 then some (c, s ++ [x.id])
    else if x.kind = 3 then (if s.length = 0 then some (c ++ [x.id], s) else if s.getD (s.length - 1) default = x.id then some (c, s.take (s.length - 1)) else none)
    else some (c, s)
def shapeL (f : List Item) : Option (List Int × List Int) := f.foldl shapeStep (some ([], []))
theorem shape_snoc (f : List Item) (x : Item) : shapeL (f ++ [x]) = shapeStep (shapeL f) x := by unfold shapeL; rw [List.foldl_append]; rfl
theorem shape_succ (f : List Item) (k : Nat) (h : k < f.length) : shapeL (f.take (k + 1)) = shapeStep (shapeL (f.take k)) (f.getD k default) := by rw [take_succD f k h, shape_snoc]
theorem shape_other {o : Option (List Int × List Int)} {x : Item} (h2 : ¬ x.kind = 2) (h3 : ¬ x.kind = 3) : shapeStep o x = o := by
  unfold shapeStep
  cases o with
  | none => rfl
  | some p => obtain ⟨c, s⟩ := p; simp only [if_neg h2, if_neg h3]
theorem shape_open {o : Option (List Int × List Int)} {c s : List Int} {x : Item} (ho : o = some (c, s)) (h : x.kind = 2) : shapeStep o x = some (c, s ++ [x.id]) := by
  subst ho; unfold shapeStep; simp only [if_pos h]
theorem shape_none {o : Option (List Int × List Int)} {x : Item} (ho : o = none) : shapeStep o x = none := by subst ho; rfl
theorem shape_free {o : Option (List Int × List Int)} {c s : List Int} {x : Item} (ho : o = some (c, s)) (h : x.kind = 3) (hs : s.length = 0) : shapeStep o x = some (c ++ [x.id], s) := by
  subst ho; unfold shapeStep; simp only [if_neg (show ¬ x.kind = 2 by omega), if_pos h, if_pos hs]
theorem shape_match {o : Option (List Int × List Int)} {c s : List Int} {x : Item} (ho : o = some (c, s)) (h : x.kind = 3) (hs : ¬ s.length = 0) (he : s.getD (s.length - 1) default = x.id) : shapeStep o x = some (c, s.take (s.length - 1)) := by
  subst ho; unfold shapeStep; simp only [if_neg (show ¬ x.kind = 2 by omega), if_pos h, if_neg hs, if_pos he]
theorem shape_cross {o : Option (List Int × List Int)} {c s : List Int} {x : Item} (ho : o = some (c, s)) (h : x.kind = 3) (hs : ¬ s.length = 0) (he : ¬ s.getD (s.length - 1) default = x.id) : shapeStep o x = none := by
  subst ho; unfold shapeStep; simp only [if_neg (show ¬ x.kind = 2 by omega), if_pos h, if_neg hs, if_neg he]
theorem shape_norm (f : List Item) : shapeL (normL f) = shapeL f := by
  refine norm_ind (Q := fun f n => shapeL n = shapeL f) rfl (fun l x ih => ?_) f
  rw [shape_snoc]
  rcases norm_cases (normL l) x with ⟨h1, h2, e⟩ | ⟨h1, e⟩ | ⟨h1, e⟩ | ⟨h1, m, q, e0, hq, e⟩
  · rw [e, ih, shape_other (by omega) (by omega)]
  · rw [e, shape_snoc, ih, shape_other (by simp) (by simp), shape_other (by omega) (by omega)]
  · rw [e, shape_snoc, ih]
  · rw [e, shape_snoc, shape_other (by simp) (by simp), shape_other (x := x) (by omega) (by omega), ← ih, e0, shape_snoc, shape_other (by omega) (by omega)]
theorem shape_normStep (f : List Item) (x : Item) : shapeL (normStep f x) = shapeStep (shapeL f) x := by
  rcases norm_cases f x with ⟨h1, h2, e⟩ | ⟨h1, e⟩ | ⟨h1, e⟩ | ⟨h1, m, q, e0, hq, e⟩
  · rw [e, shape_other (by omega) (by omega)]
  · rw [e, shape_snoc, shape_other (by simp) (by simp), shape_other (by omega) (by omega)]
  · rw [e, shape_snoc]
  · rw [e, shape_snoc, shape_other (by simp) (by simp), shape_other (x := x) (by omega) (by omega), e0, shape_snoc, shape_other (by omega) (by omega)]
/-- with 'nested' nothing is closed but the last open tag -/
def NS (nb : Bool) (f op : List Item) : Prop := nb = true → shapeL f = some ([], op.map (fun o => o.id))
theorem NS.nil (nb : Bool) : NS nb [] [] := fun _ => rfl
theorem NS.other {nb : Bool} {f op : List Item} (h : NS nb f op) {x : Item} (h2 : ¬ x.kind = 2) (h3 : ¬ x.kind = 3) : NS nb (normStep f x) op := fun hn => by rw [shape_normStep, shape_other h2 h3, h hn]
theorem NS.otherB {nb : Bool} {f op : List Item} (h : NS nb f op) {x : Item} (h2 : (x.kind == 2) = false) (h3 : (x.kind == 3) = false) : NS nb (normStep f x) op := h.other (by simpa using h2) (by simpa using h3)
theorem NS.open_ {nb : Bool} {f op : List Item} (h : NS nb f op) (t : Str) (i : Int) : NS nb (normStep f ⟨2, t, i⟩) (op ++ [⟨2, t, i⟩]) := fun hn => by
  rw [shape_normStep, shape_open (h hn) rfl]; simp
theorem NS.closeNew {nb : Bool} {f op : List Item} (hn : ¬ nb = true) : NS nb f op := fun h => absurd h hn
theorem NS.close {nb : Bool} {f op : List Item} (h : NS nb f op) {k : Nat} (hk : k < op.length) (hl : nb = true → k = op.length - 1) (t : Str) : NS nb (normStep f ⟨3, t, (op.getD k default).id⟩) (op.take k ++ op.drop (k + 1)) := fun hn => by
  have e := hl hn
  have e2 : (op.map (fun o => o.id)).getD ((op.map (fun o => o.id)).length - 1) default = (op.getD k default).id := by
    rw [List.length_map, ← e]; simp [List.getD, hk]
  rw [shape_normStep, shape_match (x := ⟨3, t, (op.getD k default).id⟩) (h hn) rfl (by simp; intro e3; subst e3; simp at hk) e2, List.drop_eq_nil_of_le (by omega), List.append_nil, List.length_map, ← e, List.map_take]
theorem NS.closeLast {nb : Bool} {f op : List Item} {j : Nat} (h0 : 0 < j) (hj : j ≤ op.length) (h : NS nb f (op.take j)) (t : Str) : NS nb (f ++ [⟨3, t, (op.getD (j - 1) default).id⟩]) (op.take (j - 1)) := by
  have h1 := h.close (k := j - 1) (by rw [List.length_take]; omega) (fun _ => by rw [List.length_take]; omega) t
  have e1 : (op.take j).getD (j - 1) default = op.getD (j - 1) default := getD_take op default j (j - 1) (by omega)
  have e2 : (op.take j).take (j - 1) = op.take (j - 1) := by rw [List.take_take]; congr 1; omega
  have e3 : (op.take j).drop (j - 1 + 1) = [] := List.drop_eq_nil_of_le (by rw [List.length_take]; omega)
  rw [e1, e2, e3, List.append_nil, norm_other (by simp)] at h1
  exact h1
theorem NS.done {nb : Bool} {f op : List Item} {j : Nat} (h : NS nb f (op.take j)) (h0 : ¬ ((0 : Int) ≤ (j : Int) - 1 ∧ nb = true)) (hn : nb = true) : shapeL f = some ([], []) := by
  have e : j = 0 := by
    rcases Nat.eq_zero_or_pos j with h1 | h1
    · exact h1
    · exact absurd ⟨by omega, hn⟩ h0
  subst e
  exact h hn
end Go.Vc
namespace Go.Vc
open Go
/-! ### what a valid fragment is -/
theorem formed_nil {b : List Item} {x : Item} : formed b x = true ↔ formed [] x = true ∧ (x.kind = 1 → lastNT b) := by
  by_cases hk : x.kind = 1
  · rw [formed_textb hk, formed_textb hk]
    constructor
    · rintro ⟨h1, h2⟩; exact ⟨⟨h1, .inl rfl⟩, fun _ => lastNT_of h2⟩
    · rintro ⟨⟨h1, _⟩, h2⟩; exact ⟨h1, lastNT_to (h2 hk)⟩
  · have e : formed b x = formed [] x := by unfold formed; rw [if_neg hk, if_neg hk]
    rw [e]
    exact ⟨fun h => ⟨h, fun h2 => absurd h2 hk⟩, fun h => h.1⟩
def hd1 : List Item → Prop
  | [] => False
  | y :: _ => y.kind = 1
/-- no two texts side by side -/
def NA : List Item → Prop
  | [] => True
  | x :: l => ¬ (x.kind = 1 ∧ hd1 l) ∧ NA l
theorem lastNT_cons (y z : Item) (r : List Item) : lastNT (y :: z :: r) ↔ lastNT (z :: r) := by
  unfold lastNT
  have e : (y :: z :: r).getD ((y :: z :: r).length - 1) default = (z :: r).getD ((z :: r).length - 1) default := by simp [List.getD]
  rw [e]
  simp only [List.length_cons]
  constructor
  · intro h h2; exact h ⟨by omega, h2.2⟩
  · intro h h2; exact h ⟨by omega, h2.2⟩
theorem NA_snoc : ∀ (f : List Item) (x : Item), NA (f ++ [x]) ↔ NA f ∧ (x.kind = 1 → lastNT f)
  | [], x => by simp [NA, hd1, lastNT_nil]
  | [y], x => by
    have h : lastNT [y] ↔ ¬ y.kind = 1 := by unfold lastNT; simp
    simp [NA, hd1, h]
    constructor
    · intro h1 h2 h3; exact h1 h3 h2
    · intro h1 h2 h3; exact h1 h3 h2
  | y :: z :: r, x => by
    have ih := NA_snoc (z :: r) x
    rw [lastNT_cons]
    simp only [List.cons_append] at ih ⊢
    show (¬ (y.kind = 1 ∧ z.kind = 1) ∧ NA (z :: (r ++ [x]))) ↔ (¬ (y.kind = 1 ∧ z.kind = 1) ∧ NA (z :: r)) ∧ _
    rw [ih, and_assoc]
def QQ (y x : Item) : Prop := isTag x = true → clash x y = false
theorem any_clash {f : List Item} {x : Item} : ¬ (isTag x = true ∧ f.any (clash x) = true) ↔ ∀ y ∈ f, QQ y x := by
  unfold QQ
  constructor
  · intro h y hy ht
    cases hc : clash x y with
    | false => rfl
    | true => exact absurd ⟨ht, List.any_eq_true.2 ⟨y, hy, hc⟩⟩ h
  · rintro h ⟨ht, ha⟩
    obtain ⟨y, hy, hc⟩ := List.any_eq_true.1 ha
    rw [h y hy ht] at hc; cases hc
theorem check_iff {b : List Item} {x : Item} : checkL b x = 0 ↔ formed b x = true ∧ ∀ y ∈ b, QQ y x := by
  constructor
  · intro h
    refine ⟨checkL_form h, any_clash.1 fun h2 => ?_⟩
    rw [check_tag (checkL_form h) h2.1 h2.2] at h; cases h
  · rintro ⟨h1, h2⟩
    exact check_ok h1 (any_clash.2 h2)
structure VF (f : List Item) : Prop where
  each : ∀ x ∈ f, formed [] x = true
  na : NA f
  qq : f.Pairwise QQ
theorem val_iff (f : List Item) : valGo [] f = 0 ↔ VF f := by
  refine snoc_cases (Q := fun f => valGo [] f = 0 ↔ VF f) ⟨fun _ => ⟨by simp, trivial, List.Pairwise.nil⟩, fun _ => rfl⟩ (fun l x ih => ?_) _ f rfl
  rw [val_snoc, ih, check_iff, formed_nil]
  constructor
  · rintro ⟨h1, ⟨h2, h3⟩, h4⟩
    refine ⟨fun y hy => ?_, (NA_snoc l x).2 ⟨h1.na, h3⟩, List.pairwise_append.2 ⟨h1.qq, List.pairwise_singleton _ _, fun a ha b hb => ?_⟩⟩
    · rcases List.mem_append.1 hy with h5 | h5
      · exact h1.each y h5
      · simp at h5; subst h5; exact h2
    · simp at hb; subst hb; exact h4 a ha
  · intro h
    have h1 := (NA_snoc l x).1 h.na
    have h2 := List.pairwise_append.1 h.qq
    exact ⟨⟨fun y hy => h.each y (List.mem_append_left _ hy), h1.1, h2.1⟩, ⟨h.each x (by simp), h1.2⟩, fun y hy => h2.2.2 y hy x (by simp)⟩
theorem notag_text {y x : Item} (h : y.kind = 1) : QQ y x := fun _ => by
  rw [← Bool.not_eq_true, clash_iff]
  rintro ⟨⟨h1, _⟩, _⟩
  exact notag_of (.inl h) h1
theorem notag_text2 {y x : Item} (h : x.kind = 1) : QQ y x := fun ht => absurd ht (notag_of (.inl h))
/-! ### pieces -/
theorem pieces_past (fr to_ : Int) : ∀ (f : List Item) (at_ : Int), to_ ≤ at_ → pieces f at_ fr to_ = []
  | [], _, _ => rfl
  | x :: f, at_, h => by
    have := width_bd x
    rw [pieces, piece_none (by omega), pieces_past fr to_ f _ (by omega)]; rfl
theorem piece_mem {x y : Item} {at_ fr to_ : Int} (h : y ∈ piece x at_ fr to_) : (y = x ∧ ¬ x.kind = 1) ∨ (y.kind = 1 ∧ x.kind = 1 ∧ y.id = x.id ∧ ¬ y.text = []) := by
  by_cases hl : max fr at_ < min to_ (at_ + widthL x)
  · by_cases hk : x.kind = 1
    · rw [piece_text hl hk] at h
      simp at h; subst h
      refine .inr ⟨hk, hk, rfl, fun e => ?_⟩
      have hw := width_text hk
      have this := congrArg List.length e
      dsimp only at this
      rw [List.length_take, List.length_drop, List.length_nil] at this
      omega
    · rw [piece_other hl hk] at h
      simp at h; exact .inl ⟨h, hk⟩
  · rw [piece_none hl] at h; cases h
theorem pieces_mem {y : Item} {fr to_ : Int} : ∀ {f : List Item} {at_ : Int}, y ∈ pieces f at_ fr to_ → (y ∈ f ∧ ¬ y.kind = 1) ∨ (y.kind = 1 ∧ ¬ y.text = [] ∧ ∃ x ∈ f, x.kind = 1 ∧ y.id = x.id)
  | x :: f, at_, h => by
    rw [pieces] at h
    rcases List.mem_append.1 h with h | h
    · rcases piece_mem h with ⟨rfl, h2⟩ | ⟨h1, h2, h3, h4⟩
      · exact .inl ⟨by simp, h2⟩
      · exact .inr ⟨h1, h4, x, by simp, h2, h3⟩
    · rcases pieces_mem h with ⟨h1, h2⟩ | ⟨h1, h2, x', h3, h4⟩
      · exact .inl ⟨by simp [h1], h2⟩
      · exact .inr ⟨h1, h2, x', by simp [h3], h4⟩
theorem pieces_hd {x : Item} {f : List Item} {at_ fr to_ : Int} (hx : x.kind = 1) (hn : NA (x :: f)) (hat : fr < at_) : ¬ hd1 (pieces f at_ fr to_) := by
  cases f with
  | nil => exact fun h => h
  | cons y f =>
    have hy : ¬ y.kind = 1 := fun h => hn.1 ⟨hx, h⟩
    have hw := width_other hy
    by_cases h : at_ < to_
    · rw [pieces, piece_other (by omega) hy]
      exact hy
    · rw [pieces_past _ _ _ _ (by omega)]; exact fun h => h
theorem NA_tail {x : Item} {l : List Item} (h : NA (x :: l)) : NA l := h.2
theorem pieces_NA (fr to_ : Int) : ∀ (f : List Item) (at_ : Int), (∀ x ∈ f, formed [] x = true) → NA f → NA (pieces f at_ fr to_)
  | [], _, _, _ => trivial
  | x :: f, at_, he, hn => by
    have ih := pieces_NA fr to_ f (at_ + widthL x) (fun y hy => he y (by simp [hy])) (NA_tail hn)
    rw [pieces]
    by_cases hl : max fr at_ < min to_ (at_ + widthL x)
    · by_cases hk : x.kind = 1
      · rw [piece_text hl hk]
        exact ⟨fun h => pieces_hd hk hn (by omega) h.2, ih⟩
      · rw [piece_other hl hk]
        exact ⟨fun h => hk h.1, ih⟩
    · rw [piece_none hl]; exact ih
theorem pieces_qq (fr to_ : Int) : ∀ (f : List Item) (at_ : Int), f.Pairwise QQ → (pieces f at_ fr to_).Pairwise QQ
  | [], _, _ => List.Pairwise.nil
  | x :: f, at_, h => by
    obtain ⟨h1, h2⟩ := List.pairwise_cons.1 h
    rw [pieces]
    refine List.pairwise_append.2 ⟨?_, pieces_qq fr to_ f _ h2, fun a ha b hb => ?_⟩
    · unfold piece; split
      · exact List.pairwise_singleton _ _
      · exact List.Pairwise.nil
    · rcases piece_mem ha with ⟨rfl, _⟩ | ⟨h3, _⟩
      · rcases pieces_mem hb with ⟨h4, _⟩ | ⟨h4, _⟩
        · exact h1 b h4
        · exact notag_text2 h4
      · exact notag_text h3
theorem VF.pieces {f : List Item} (h : VF f) (at_ fr to_ : Int) : VF (Vc.pieces f at_ fr to_) := by
  refine ⟨fun y hy => ?_, pieces_NA fr to_ f at_ h.each h.na, pieces_qq fr to_ f at_ h.qq⟩
  rcases pieces_mem hy with ⟨h1, _⟩ | ⟨h1, h2, x, h3, h4, h5⟩
  · exact h.each y h1
  · have h6 := (formed_textb h4).1 (h.each x h3)
    exact (formed_textb h1).2 ⟨⟨h2, h5.trans h6.1.2⟩, .inl rfl⟩
/-! ### units -/
def Eqv (A B : List Item) : Prop := ∀ o : List Item, A.foldl normStep o = B.foldl normStep o
theorem Eqv.refl (A : List Item) : Eqv A A := fun _ => rfl
theorem Eqv.symm {A B : List Item} (h : Eqv A B) : Eqv B A := fun o => (h o).symm
theorem Eqv.trans {A B C : List Item} (h : Eqv A B) (h2 : Eqv B C) : Eqv A C := fun o => (h o).trans (h2 o)
theorem Eqv.append {A B A' B' : List Item} (h : Eqv A A') (h2 : Eqv B B') : Eqv (A ++ B) (A' ++ B') := fun o => by rw [List.foldl_append, List.foldl_append, h, h2]
theorem Eqv.norm {A B : List Item} (h : Eqv A B) : normL A = normL B := h []
theorem eqv_norm (A : List Item) : Eqv (normL A) A := fun o => norm_absorb o A
def one (c : UInt8) : Item := ⟨1, [c], 0⟩
def unitsI (x : Item) : List Item := if x.kind = 1 then x.text.map one else [x]
def units (f : List Item) : List Item := f.flatMap unitsI
theorem eqv_text : ∀ (s : Str) (i : Int), Eqv [⟨1, s, i⟩] (s.map one)
  | [], i => fun o => by simp only [List.foldl_cons, List.foldl_nil, List.map_nil]; exact norm_empty rfl rfl
  | c :: s, i => fun o => by
    show normStep o ⟨1, c :: s, i⟩ = (s.map one).foldl normStep (normStep o (one c))
    rw [← eqv_text s 0]
    exact (norm_two o (y := one c) (x := ⟨1, s, 0⟩) rfl rfl i).symm
theorem eqv_item (x : Item) : Eqv [x] (unitsI x) := by
  unfold unitsI
  split
  · rename_i h
    obtain ⟨k, s, i⟩ := x
    obtain rfl : k = 1 := h
    exact eqv_text s i
  · exact Eqv.refl _
theorem eqv_units : ∀ f : List Item, Eqv f (units f)
  | [] => Eqv.refl _
  | x :: f => by
    have h : Eqv ([x] ++ f) (unitsI x ++ units f) := (eqv_item x).append (eqv_units f)
    simpa [units] using h
theorem unitsI_len (x : Item) : ((unitsI x).length : Int) = widthL x := by
  unfold unitsI widthL
  split <;> simp
theorem units_len : ∀ f : List Item, ((units f).length : Int) = lengthL f
  | [] => rfl
  | x :: f => by
    have h1 := unitsI_len x
    have h2 := units_len f
    have h3 : lengthL (x :: f) = widthL x + lengthL f := by simp [lengthL]
    have h4 : units (x :: f) = unitsI x ++ units f := by simp [units]
    rw [h3, h4, List.length_append]
    omega
theorem eqv_piece (x : Item) (at_ fr to_ : Int) : Eqv (piece x at_ fr to_) (((unitsI x).take (to_ - at_).toNat).drop (fr - at_).toNat) := by
  by_cases hk : x.kind = 1
  · have hw := width_text hk
    unfold unitsI
    rw [if_pos hk, ← List.map_take, ← List.map_drop]
    by_cases hl : max fr at_ < min to_ (at_ + widthL x)
    · rw [piece_text hl hk, hk]
      have e : (x.text.drop (max fr at_ - at_).toNat).take ((min to_ (at_ + widthL x) - at_).toNat - (max fr at_ - at_).toNat) = (x.text.take (to_ - at_).toNat).drop (fr - at_).toNat := by
        have e1 : (max fr at_ - at_).toNat = (fr - at_).toNat := by omega
        rw [e1, List.drop_take]
        rcases Int.le_total to_ (at_ + widthL x) with h | h
        · rw [show min to_ (at_ + widthL x) = to_ by omega]
        · rw [show min to_ (at_ + widthL x) = at_ + widthL x by omega, List.take_of_length_le (by rw [List.length_drop]; omega), List.take_of_length_le (by rw [List.length_drop]; omega)]
      rw [e]
      exact eqv_text _ _
    · rw [piece_none hl]
      have e : (x.text.take (to_ - at_).toNat).drop (fr - at_).toNat = [] := List.drop_eq_nil_of_le (by rw [List.length_take]; omega)
      rw [e]; exact Eqv.refl _
  · have hw := width_other hk
    unfold unitsI
    rw [if_neg hk]
    by_cases hl : max fr at_ < min to_ (at_ + widthL x)
    · rw [piece_other hl hk, List.take_of_length_le (by simp; omega), show (fr - at_).toNat = 0 by omega]
      exact Eqv.refl _
    · rw [piece_none hl]
      have e : ([x].take (to_ - at_).toNat).drop (fr - at_).toNat = [] := List.drop_eq_nil_of_le (by rw [List.length_take]; simp; omega)
      rw [e]; exact Eqv.refl _
theorem eqv_pieces (fr to_ : Int) : ∀ (f : List Item) (at_ : Int), Eqv (pieces f at_ fr to_) (((units f).take (to_ - at_).toNat).drop (fr - at_).toNat)
  | [], at_ => by simp [pieces, units]; exact Eqv.refl _
  | x :: f, at_ => by
    have h4 : units (x :: f) = unitsI x ++ units f := by simp [units]
    have hl := unitsI_len x
    have hw := width_bd x
    have h5 : ((units (x :: f)).take (to_ - at_).toNat).drop (fr - at_).toNat = (((unitsI x).take (to_ - at_).toNat).drop (fr - at_).toNat) ++ (((units f).take (to_ - (at_ + widthL x)).toNat).drop (fr - (at_ + widthL x)).toNat) := by
      rw [h4, List.take_append, List.drop_append, List.length_take]
      have e1 : (to_ - at_).toNat - (unitsI x).length = (to_ - (at_ + widthL x)).toNat := by omega
      rw [e1]
      congr 1
      rcases Nat.le_total (unitsI x).length (to_ - at_).toNat with h | h
      · rw [Nat.min_eq_right h]; congr 1; omega
      · rw [show (to_ - (at_ + widthL x)).toNat = 0 by omega]; simp
    rw [h5, pieces]
    exact (eqv_piece x at_ fr to_).append (eqv_pieces fr to_ f _)
theorem eqv_slice (f : List Item) (fr to_ : Int) : Eqv (pieces f 0 fr to_) (((units f).take to_.toNat).drop fr.toNat) := by
  have h := eqv_pieces fr to_ f 0
  rw [Int.sub_zero, Int.sub_zero] at h
  exact h
theorem cut_two {α : Type} (u : List α) {i k : Nat} (h : i ≤ k) : u.take k = u.take i ++ (u.take k).drop i := by
  have h1 := (List.take_append_drop i (u.take k)).symm
  rw [List.take_take, Nat.min_eq_left h] at h1
  exact h1
theorem slices_two (f : List Item) {k n : Int} (_ : 0 ≤ k) (h1 : k ≤ n) (hn : n = lengthL f) : Eqv (pieces f 0 0 k ++ pieces f 0 k n) f := by
  have hu := units_len f
  refine ((eqv_slice f 0 k).append (eqv_slice f k n)).trans ?_
  have e : ((units f).take k.toNat).drop (0 : Int).toNat ++ ((units f).take n.toNat).drop k.toNat = units f := by
    show (units f).take k.toNat ++ _ = _
    rw [← cut_two (units f) (show k.toNat ≤ n.toNat by omega), List.take_of_length_le (by omega)]
  rw [e]; exact (eqv_units f).symm
theorem slices_three (f : List Item) {i k n : Int} (_ : 0 ≤ i) (h1 : i ≤ k) (h2 : k ≤ n) (hn : n = lengthL f) : Eqv (pieces f 0 0 i ++ pieces f 0 i k ++ pieces f 0 k n) f := by
  have hu := units_len f
  refine (((eqv_slice f 0 i).append (eqv_slice f i k)).append (eqv_slice f k n)).trans ?_
  have e : ((units f).take i.toNat).drop (0 : Int).toNat ++ ((units f).take k.toNat).drop i.toNat ++ ((units f).take n.toNat).drop k.toNat = units f := by
    show (units f).take i.toNat ++ _ ++ _ = _
    rw [← cut_two (units f) (show i.toNat ≤ k.toNat by omega), ← cut_two (units f) (show k.toNat ≤ n.toNat by omega), List.take_of_length_le (by omega)]
  rw [e]; exact (eqv_units f).symm
theorem eqv_length {A B : List Item} (h : Eqv A B) : lengthL A = lengthL B := by rw [← normL_length A, ← normL_length B, h.norm]
theorem eqv_plain {A B : List Item} (h : Eqv A B) : plainL A = plainL B := by rw [← normL_plain A, ← normL_plain B, h.norm]
theorem units_width : ∀ (u : List Item), (∀ x ∈ u, widthL x = 1) → lengthL u = (u.length : Nat)
  | [], _ => rfl
  | x :: u, h => by
    have h1 := h x (by simp)
    have h2 := units_width u (fun y hy => h y (by simp [hy]))
    have h3 : lengthL (x :: u) = widthL x + lengthL u := by simp [lengthL]
    rw [h3, h1, h2, List.length_cons]; omega
theorem units_one {f : List Item} {x : Item} (h : x ∈ units f) : widthL x = 1 := by
  obtain ⟨y, _, hy⟩ := List.mem_flatMap.1 h
  unfold unitsI at hy
  split at hy
  · obtain ⟨c, _, rfl⟩ := List.mem_map.1 hy; rfl
  · rename_i hk
    simp at hy; subst hy; exact width_other hk
theorem slice_length (f : List Item) {i k : Int} (h0 : 0 ≤ i) (h1 : i ≤ k) (h2 : k ≤ lengthL f) : lengthL (pieces f 0 i k) = k - i := by
  have hu := units_len f
  rw [eqv_length (eqv_slice f i k), units_width _ (fun x hx => units_one (List.mem_of_mem_take (List.mem_of_mem_drop hx))), List.length_drop, List.length_take]
  omega
theorem sliceL_in {f : List Item} {i k : Int} (h0 : 0 ≤ i) (h1 : i ≤ k) (h2 : k ≤ lengthL f) : sliceL f i k = (pieces f 0 i k, true) := by unfold sliceL; rw [if_neg (by omega)]
theorem pieces_len2 (f : List Item) (fr to_ : Int) : (pieces f 0 fr to_).length ≤ f.length := by
  have := pieces_len f f.length fr to_
  rwa [List.take_of_length_le (Nat.le_refl _)] at this
theorem piece_size (x : Item) (at_ fr to_ : Int) : sizeL (piece x at_ fr to_) ≤ x.text.length := by
  by_cases hl : max fr at_ < min to_ (at_ + widthL x)
  · by_cases hk : x.kind = 1
    · rw [piece_text hl hk, sizeL_one]; dsimp only; rw [List.length_take, List.length_drop]; omega
    · rw [piece_other hl hk, sizeL_one]; exact Nat.le_refl _
  · rw [piece_none hl]; exact Nat.zero_le _
theorem pieces_size (fr to_ : Int) : ∀ (f : List Item) (at_ : Int), sizeL (pieces f at_ fr to_) ≤ sizeL f
  | [], _ => Nat.le_refl _
  | x :: f, at_ => by
    have h1 := piece_size x at_ fr to_
    have h2 := pieces_size fr to_ f (at_ + widthL x)
    have h3 : sizeL (x :: f) = x.text.length + sizeL f := by simp [sizeL]
    rw [pieces, sizeL_append, h3]; omega
theorem pieces_small {f : List Item} (h : Small f) (fr to_ : Int) : Small (pieces f 0 fr to_) := ⟨by have := pieces_len2 f fr to_; have := h.1; omega, by have := pieces_size fr to_ f 0; have := h.2; omega⟩
/-- a slice is valid -/
theorem slice_valid {f : List Item} (hv : valGo [] f = 0) (hl : f.length ≤ 512) {i k : Int} (h0 : 0 ≤ i) (h1 : i ≤ k) (h2 : k ≤ lengthL f) (h3 : lengthL f ≤ 1024) : validateL (pieces f 0 i k) = 0 := by
  have h4 := slice_length f h0 h1 h2
  have h5 := pieces_len2 f i k
  unfold validateL
  rw [if_neg (by omega)]
  exact (val_iff _).2 (((val_iff f).1 hv).pieces 0 i k)
end Go.Vc
namespace Go.Vc
open Go
theorem firstM_cons (a b : Int) (fr to_ : List Int) (n : Int) : firstM (a :: fr) (b :: to_) n = if a = n then some b else firstM fr to_ n := by
  unfold firstM; rw [List.zip_cons_cons, getM_cons]
theorem firstM_some {n i : Int} : ∀ {fr to_ : List Int}, firstM fr to_ n = some i → ∃ j, j < fr.length ∧ j < to_.length ∧ fr.getD j default = n ∧ to_.getD j default = i
  | [], _, h => by unfold firstM at h; rw [List.zip_nil_left] at h; cases h
  | _ :: _, [], h => by unfold firstM at h; rw [List.zip_nil_right] at h; cases h
  | a :: fr, b :: to_, h => by
    rw [firstM_cons] at h
    by_cases e : a = n
    · rw [if_pos e] at h
      exact ⟨0, by simp, by simp, e, by simpa using h⟩
    · rw [if_neg e] at h
      obtain ⟨j, h1, h2, h3, h4⟩ := firstM_some h
      exact ⟨j + 1, by simp; omega, by simp; omega, by simpa using h3, by simpa using h4⟩
theorem firstM_nodup : ∀ {fr to_ : List Int} {j : Nat}, fr.Nodup → j < fr.length → j < to_.length → firstM fr to_ (fr.getD j default) = some (to_.getD j default)
  | a :: fr, b :: to_, 0, _, _, _ => by rw [firstM_cons]; simp
  | a :: fr, b :: to_, j + 1, hn, h1, h2 => by
    rw [firstM_cons]
    obtain ⟨h3, h4⟩ := List.nodup_cons.1 hn
    have hj : j < fr.length := by simpa using h1
    have e : (a :: fr).getD (j + 1) default = fr.getD j default := by simp
    have e2 : (b :: to_).getD (j + 1) default = to_.getD j default := by simp
    rw [e, e2, if_neg, firstM_nodup h4 hj (by simpa using h2)]
    intro ha
    have : fr.getD j default ∈ fr := by
      have e3 : fr.getD j default = fr[j] := by simp [List.getD, hj]
      rw [e3]; exact List.getElem_mem hj
    rw [← ha] at this
    exact h3 this
/-! ### the numbers -/
theorem addL_nodup {o : List Int} (h : o.Nodup) (n : Int) : (addL o n).Nodup := by
  unfold addL
  split
  · exact h
  · rename_i h2
    exact List.nodup_append.2 ⟨h, by simp, fun a ha b hb e => by simp at hb; subst hb; subst e; exact h2 ha⟩
theorem numsStep_nodup {o : List Int} (h : o.Nodup) (x : Item) : (numsStep o x).Nodup := by
  unfold numsStep
  split
  · exact addL_nodup h _
  · exact h
theorem nums_nodup (f : List Item) : (numsL f).Nodup := by
  refine snoc_cases (Q := fun f => (numsL f).Nodup) List.nodup_nil (fun l x ih => ?_) _ f rfl
  rw [numsL_snoc]; exact numsStep_nodup ih x
theorem mem_numsStep {o : List Int} {x : Item} {n : Int} : n ∈ numsStep o x ↔ n ∈ o ∨ (isTag x = true ∧ x.id = n) := by
  unfold numsStep
  by_cases h : isTag x = true
  · rw [if_pos h, mem_addL]
    exact ⟨fun h1 => h1.imp id (fun h2 => ⟨h, h2.symm⟩), fun h1 => h1.imp id (fun h2 => h2.2.symm)⟩
  · rw [if_neg h]
    exact ⟨.inl, fun h1 => h1.elim id (fun h2 => absurd h2.1 h)⟩
theorem nums_mem {f : List Item} {n : Int} : n ∈ numsL f ↔ ∃ x ∈ f, isTag x = true ∧ x.id = n := by
  refine snoc_cases (Q := fun f => n ∈ numsL f ↔ ∃ x ∈ f, isTag x = true ∧ x.id = n) (by simp [numsL]) (fun l x ih => ?_) _ f rfl
  rw [numsL_snoc, mem_numsStep, ih]
  constructor
  · rintro (⟨y, h1, h2⟩ | h)
    · exact ⟨y, by simp [h1], h2⟩
    · exact ⟨x, by simp, h⟩
  · rintro ⟨y, h1, h2⟩
    rcases List.mem_append.1 h1 with h3 | h3
    · exact .inl ⟨y, h3, h2⟩
    · simp at h3; subst h3; exact .inr h2
/-! ### renaming as a map -/
def mapI (r : Int → Int) (x : Item) : Item := if isTag x = true then ⟨x.kind, x.text, r x.id⟩ else x
def mapT (r : Int → Int) (f : List Item) : List Item := f.map (mapI r)
theorem mapI_kind (r : Int → Int) (x : Item) : (mapI r x).kind = x.kind := by unfold mapI; split <;> rfl
theorem mapI_text (r : Int → Int) (x : Item) : (mapI r x).text = x.text := by unfold mapI; split <;> rfl
theorem mapI_tag (r : Int → Int) (x : Item) : isTag (mapI r x) = isTag x := by unfold isTag; rw [mapI_kind]
theorem mapI_id {r : Int → Int} {x : Item} (h : isTag x = true) : (mapI r x).id = r x.id := by unfold mapI; rw [if_pos h]
theorem mapI_other {r : Int → Int} {x : Item} (h : ¬ isTag x = true) : mapI r x = x := by unfold mapI; rw [if_neg h]
def renR (fr to_ : List Int) (n : Int) : Int := (firstM fr to_ n).getD 0
theorem renF_map {fr to_ : List Int} (hl : fr.length ≤ to_.length) (hn : fr.Nodup) : ∀ {f : List Item}, (∀ x ∈ f, isTag x = true → x.id ∈ fr) → renF fr to_ f = mapT (renR fr to_) f
  | [], _ => rfl
  | x :: f, h => by
    have ih := renF_map hl hn (f := f) (fun y hy => h y (by simp [hy]))
    have e : renF fr to_ (x :: f) = ren1 fr to_ x ++ renF fr to_ f := by simp [renF]
    rw [e, ih]
    show _ = mapI _ x :: mapT _ f
    by_cases ht : isTag x = true
    · obtain ⟨j, hj, ej⟩ := List.getElem_of_mem (h x (by simp) ht)
      have e2 : fr.getD j default = x.id := by simp [List.getD, hj, ej]
      have h3 := firstM_nodup (to_ := to_) hn hj (by omega)
      rw [e2] at h3
      rw [ren_some ht h3]
      unfold mapI renR
      rw [if_pos ht, h3]; rfl
    · rw [ren_other ht, mapI_other ht]; rfl
structure InjT (r : Int → Int) (f : List Item) : Prop where
  inj : ∀ x ∈ f, ∀ y ∈ f, isTag x = true → isTag y = true → r x.id = r y.id → x.id = y.id
theorem InjT.left {r : Int → Int} {f g : List Item} (h : InjT r (f ++ g)) : InjT r f := ⟨fun x hx y hy => h.inj x (by simp [hx]) y (by simp [hy])⟩
theorem mapT_append (r : Int → Int) (f g : List Item) : mapT r (f ++ g) = mapT r f ++ mapT r g := by simp [mapT]
theorem mapT_snoc (r : Int → Int) (f : List Item) (x : Item) : mapT r (f ++ [x]) = mapT r f ++ [mapI r x] := by simp [mapT]
theorem mapT_NA (r : Int → Int) : ∀ f : List Item, NA f → NA (mapT r f)
  | [], _ => trivial
  | [x], _ => ⟨fun h => h.2, trivial⟩
  | x :: y :: f, h => by
    refine ⟨fun h2 => h.1 ⟨?_, ?_⟩, mapT_NA r (y :: f) h.2⟩
    · rw [← mapI_kind r x]; exact h2.1
    · show y.kind = 1
      rw [← mapI_kind r y]; exact h2.2
theorem mapT_valid {r : Int → Int} {f : List Item} (h : VF f) (hi : InjT r f) (hb : ∀ x ∈ f, isTag x = true → 1 ≤ r x.id ∧ r x.id ≤ 999) : VF (mapT r f) := by
  refine ⟨fun y hy => ?_, mapT_NA r f h.na, ?_⟩
  · obtain ⟨x, hx, rfl⟩ := List.mem_map.1 hy
    have h1 := h.each x hx
    by_cases ht : isTag x = true
    · have h2 := hb x hx ht
      rcases (isTag_iff x).1 ht with (hk | hk) | hk
      · exact (formed_open (.inl (by rw [mapI_kind]; exact hk))).2 ⟨⟨by rw [mapI_text]; exact ((formed_open (.inl hk)).1 h1).1.1, by rw [mapI_id ht]; exact h2.1⟩, by rw [mapI_id ht]; exact h2.2⟩
      · exact (formed_close (by rw [mapI_kind]; exact hk)).2 ⟨⟨by rw [mapI_text]; exact ((formed_close hk).1 h1).1.1, by rw [mapI_id ht]; exact h2.1⟩, by rw [mapI_id ht]; exact h2.2⟩
      · exact (formed_open (.inr (by rw [mapI_kind]; exact hk))).2 ⟨⟨by rw [mapI_text]; exact ((formed_open (.inr hk)).1 h1).1.1, by rw [mapI_id ht]; exact h2.1⟩, by rw [mapI_id ht]; exact h2.2⟩
    · rw [mapI_other ht]; exact h1
  · unfold mapT
    rw [List.pairwise_map]
    refine h.qq.imp_of_mem (fun {a b} ha hb2 hq ht => ?_)
    rw [mapI_tag] at ht
    have h3 := hq ht
    rw [← Bool.not_eq_true, clash_iff] at h3 ⊢
    rw [mapI_tag, mapI_kind, mapI_kind, mapI_text, mapI_text, mapI_id ht]
    rintro ⟨⟨h4, h5⟩, h6⟩
    rw [mapI_id h4] at h5
    exact h3 ⟨⟨h4, hi.inj a ha b hb2 h4 ht h5⟩, h6⟩
theorem mapT_nums {r : Int → Int} (f : List Item) : InjT r f → numsL (mapT r f) = (numsL f).map r := by
  refine snoc_cases (Q := fun f => InjT r f → numsL (mapT r f) = (numsL f).map r) (fun _ => rfl) (fun l x ih hi => ?_) _ f rfl
  rw [mapT_snoc, numsL_snoc, numsL_snoc, ih hi.left]
  unfold numsStep
  rw [mapI_tag]
  by_cases ht : isTag x = true
  · rw [if_pos ht, if_pos ht, mapI_id ht]
    have e : (r x.id ∈ (numsL l).map r) ↔ x.id ∈ numsL l := by
      constructor
      · intro h
        obtain ⟨n, h1, h2⟩ := List.mem_map.1 h
        obtain ⟨y, hy, hyt, hyn⟩ := nums_mem.1 h1
        have : y.id = x.id := hi.inj y (by simp [hy]) x (by simp) hyt ht (by rw [hyn, h2])
        rw [← this, hyn]; exact h1
      · exact fun h => List.mem_map.2 ⟨_, h, rfl⟩
    by_cases hm : x.id ∈ numsL l
    · rw [addL_old hm, addL_old (e.2 hm)]
    · rw [addL_new hm, addL_new (fun h => hm (e.1 h))]; simp
  · rw [if_neg ht, if_neg ht]
def mapS (r : Int → Int) (o : Option (List Int × List Int)) : Option (List Int × List Int) := o.map (fun p => (p.1.map r, p.2.map r))
theorem shape_ids (f : List Item) : ∀ c s, shapeL f = some (c, s) → ∀ n ∈ s, ∃ x ∈ f, isTag x = true ∧ x.id = n := by
  refine snoc_cases (Q := fun f => ∀ c s, shapeL f = some (c, s) → ∀ n ∈ s, ∃ x ∈ f, isTag x = true ∧ x.id = n) (fun c s h n hn => ?_) (fun l x ih c s h n hn => ?_) _ f rfl
  · have h2 : some (([] : List Int), ([] : List Int)) = some (c, s) := h
    simp at h2; rw [h2.2] at hn; cases hn
  · rw [shape_snoc] at h
    have up : (∃ y ∈ l, isTag y = true ∧ y.id = n) → ∃ y ∈ l ++ [x], isTag y = true ∧ y.id = n := fun ⟨y, h1, h2⟩ => ⟨y, by simp [h1], h2⟩
    cases hs : shapeL l with
    | none => rw [hs] at h; cases h
    | some p =>
      obtain ⟨c0, s0⟩ := p
      have ih' := ih c0 s0 hs
      by_cases h2 : x.kind = 2
      · rw [shape_open hs h2] at h
        simp at h; rw [← h.2] at hn
        rcases List.mem_append.1 hn with h3 | h3
        · exact up (ih' n h3)
        · simp at h3; exact ⟨x, by simp, (isTag_iff x).2 (.inl (.inl h2)), h3.symm⟩
      · by_cases h3 : x.kind = 3
        · by_cases h4 : s0.length = 0
          · rw [shape_free hs h3 h4] at h
            simp at h; rw [← h.2] at hn; exact up (ih' n hn)
          · by_cases h5 : s0.getD (s0.length - 1) default = x.id
            · rw [shape_match hs h3 h4 h5] at h
              simp at h; rw [← h.2] at hn; exact up (ih' n (List.mem_of_mem_take hn))
            · rw [shape_cross hs h3 h4 h5] at h; cases h
        · rw [shape_other h2 h3, hs] at h
          simp at h; rw [← h.2] at hn; exact up (ih' n hn)
theorem mapT_shape {r : Int → Int} (f : List Item) : InjT r f → shapeL (mapT r f) = mapS r (shapeL f) := by
  refine snoc_cases (Q := fun f => InjT r f → shapeL (mapT r f) = mapS r (shapeL f)) (fun _ => rfl) (fun l x ih hi => ?_) _ f rfl
  have h0 := ih hi.left
  rw [mapT_snoc, shape_snoc, shape_snoc]
  cases hs : shapeL l with
  | none =>
    rw [hs] at h0
    have h1 : shapeL (mapT r l) = none := h0
    rw [shape_none h1, shape_none rfl]; rfl
  | some p =>
    obtain ⟨c0, s0⟩ := p
    rw [hs] at h0
    have h1 : shapeL (mapT r l) = some (c0.map r, s0.map r) := h0
    by_cases h2 : x.kind = 2
    · have ht := (isTag_iff x).2 (.inl (.inl h2))
      rw [shape_open h1 (by rw [mapI_kind]; exact h2), shape_open rfl h2, mapI_id ht]
      simp [mapS]
    · by_cases h3 : x.kind = 3
      · have ht := (isTag_iff x).2 (.inl (.inr h3))
        by_cases h4 : s0.length = 0
        · rw [shape_free h1 (by rw [mapI_kind]; exact h3) (by simpa using h4), shape_free rfl h3 h4, mapI_id ht]
          simp [mapS]
        · have hp : s0.length - 1 < s0.length := by omega
          have e : (s0.map r).getD ((s0.map r).length - 1) default = r (s0.getD (s0.length - 1) default) := by
            rw [List.length_map]
            simp [List.getD, List.getElem?_map, List.getElem?_eq_getElem hp]
          have hm : s0.getD (s0.length - 1) default ∈ s0 := by
            have e2 : s0.getD (s0.length - 1) default = s0[s0.length - 1] := by simp [List.getD, hp]
            rw [e2]; exact List.getElem_mem hp
          by_cases h5 : s0.getD (s0.length - 1) default = x.id
          · rw [shape_match h1 (by rw [mapI_kind]; exact h3) (by simpa using h4) (by rw [e, h5, mapI_id ht]), shape_match rfl h3 h4 h5]
            simp [mapS, List.map_take]
          · rw [shape_cross h1 (by rw [mapI_kind]; exact h3) (by simpa using h4) (by
              rw [e, mapI_id ht]
              intro h6
              obtain ⟨y, hy, hyt, hyn⟩ := shape_ids l c0 s0 hs _ hm
              rw [← hyn] at h6 h5
              exact h5 (hi.inj y (by simp [hy]) x (by simp) hyt ht h6)), shape_cross rfl h3 h4 h5]
            rfl
      · rw [shape_other (by rw [mapI_kind]; exact h2) (by rw [mapI_kind]; exact h3), shape_other h2 h3, h1]; rfl
theorem mapI_plain (r : Int → Int) (x : Item) : plainI (mapI r x) = plainI x := by unfold plainI; rw [mapI_kind, mapI_text]
theorem mapT_plain (r : Int → Int) (f : List Item) : plainL (mapT r f) = plainL f := by
  unfold plainL mapT
  rw [List.flatMap_map]
  congr 1
  funext x; exact mapI_plain r x
theorem mapT_length (r : Int → Int) (f : List Item) : lengthL (mapT r f) = lengthL f := by
  unfold lengthL mapT
  rw [List.map_map]
  congr 1
  refine List.map_congr_left (fun x _ => ?_)
  show widthL (mapI r x) = widthL x
  unfold widthL; rw [mapI_kind, mapI_text]
/-! ### renumbering -/
def renumR (f : List Item) : Int → Int := renR (numsL f) (upL (numsL f).length)
def renumL (f : List Item) : List Item := renL (numsL f) (upL (numsL f).length) f
theorem renumR_at {f : List Item} {j : Nat} (hj : j < (numsL f).length) : renumR f ((numsL f).getD j default) = (j : Int) + 1 := by
  unfold renumR renR
  rw [firstM_nodup (nums_nodup f) hj (by rw [upL_len]; exact hj), upL_at hj]; rfl
theorem nums_at {f : List Item} {x : Item} (hx : x ∈ f) (ht : isTag x = true) : ∃ j, j < (numsL f).length ∧ (numsL f).getD j default = x.id := by
  obtain ⟨j, hj, e⟩ := List.getElem_of_mem (nums_mem.2 ⟨x, hx, ht, rfl⟩)
  exact ⟨j, hj, by simp [List.getD, hj, e]⟩
theorem renumF (f : List Item) : renF (numsL f) (upL (numsL f).length) f = mapT (renumR f) f :=
  renF_map (by rw [upL_len]; exact Nat.le_refl _) (nums_nodup f) (fun x hx ht => nums_mem.2 ⟨x, hx, ht, rfl⟩)
theorem renum_inj (f : List Item) : InjT (renumR f) f := ⟨fun x hx y hy ht ht2 e => by
  obtain ⟨j, hj, ej⟩ := nums_at hx ht
  obtain ⟨k, hk, ek⟩ := nums_at hy ht2
  rw [← ej, ← ek, renumR_at hj, renumR_at hk] at e
  have : j = k := by omega
  subst this
  rw [← ej, ← ek]⟩
theorem renum_map {f : List Item} (h : VF f) (hl : (numsL f).length ≤ 999) : renumL f = mapT (renumR f) f ∧ VF (mapT (renumR f) f) := by
  have hv : VF (mapT (renumR f) f) := mapT_valid h (renum_inj f) (fun x hx ht => by
    obtain ⟨j, hj, ej⟩ := nums_at hx ht
    rw [← ej, renumR_at hj]; omega)
  refine ⟨?_, hv⟩
  unfold renumL renL
  rw [renumF]
  exact val_norm _ ((val_iff _).2 hv)
theorem renum_nums {f : List Item} : numsL (mapT (renumR f) f) = upL (numsL f).length := by
  rw [mapT_nums f (renum_inj f)]
  refine List.ext_getElem (by simp [upL_len]) (fun j h1 h2 => ?_)
  have hj : j < (numsL f).length := by simpa using h1
  have e := renumR_at hj
  have e2 : (numsL f).getD j default = (numsL f)[j] := by simp [List.getD, hj]
  rw [e2] at e
  rw [List.getElem_map, e]
  have e3 := upL_at hj
  simp [List.getD, h2] at e3
  exact e3.symm
theorem renum_again {g : List Item} {n : Nat} (h : VF g) (hn : numsL g = upL n) : renumL g = g := by
  have hl : (numsL g).length = n := by rw [hn, upL_len]
  have e : mapT (renumR g) g = g := by
    unfold mapT
    conv => rhs; rw [← List.map_id g]
    refine List.map_congr_left (fun x hx => ?_)
    by_cases ht : isTag x = true
    · obtain ⟨j, hj, ej⟩ := nums_at hx ht
      have h1 := renumR_at hj
      have h2 : (numsL g).getD j default = (j : Int) + 1 := by rw [hn]; exact upL_at (by omega)
      rw [ej] at h1 h2
      unfold mapI
      rw [if_pos ht, h1, ← h2]; rfl
    · exact mapI_other ht
  unfold renumL renL
  rw [renumF, e]
  exact val_norm _ ((val_iff _).2 h)
end Go.Vc
namespace Go.Vc
open Go
theorem find_at {α : Type} [Inhabited α] {q : α → Bool} : ∀ {l : List α} {k : Nat}, k < l.length → (∀ j, j < k → q (l.getD j default) = false) → q (l.getD k default) = true → l.find? q = some (l.getD k default)
  | x :: l, 0, _, _, h => by
    have h2 : q x = true := by simpa using h
    rw [List.find?_cons_of_pos h2]; simp
  | x :: l, k + 1, hk, h0, h => by
    have h1 : q x = false := by simpa using h0 0 (by omega)
    rw [List.find?_cons_of_neg (by rw [h1]; simp)]
    have e : (x :: l).getD (k + 1) default = l.getD k default := by simp
    rw [e] at h ⊢
    exact find_at (by simpa using hk) (fun j hj => by simpa using h0 (j + 1) (by omega)) h
theorem find_no {α : Type} [Inhabited α] {q : α → Bool} {l : List α} (h : ∀ j, j < l.length → q (l.getD j default) = false) : l.find? q = none := by
  rw [List.find?_eq_none]
  intro x hx
  obtain ⟨j, hj, e⟩ := List.getElem_of_mem hx
  have h1 := h j hj
  have e2 : l.getD j default = x := by simp [List.getD, hj, e]
  rw [e2] at h1; rw [h1]; simp
def firstT (f : List Item) (n : Int) : Item := (f.find? (fun x => isTag x && decide (x.id = n))).getD ⟨0, [], 0⟩
theorem firstT_at {f : List Item} {n : Int} (k : Nat) (hk : k < f.length) (h0 : ∀ j, j < k → ¬ (isTag (f.getD j default) = true ∧ (f.getD j default).id = n)) (h : isTag (f.getD k default) = true ∧ (f.getD k default).id = n) : firstT f n = f.getD k default := by
  unfold firstT
  rw [find_at hk (fun j hj => by
    have := h0 j hj
    rw [← Bool.not_eq_true]; simpa using this) (by simpa using h)]; rfl
theorem firstT_no {f : List Item} {n : Int} (h0 : ∀ j, j < f.length → ¬ (isTag (f.getD j default) = true ∧ (f.getD j default).id = n)) : firstT f n = ⟨0, [], 0⟩ := by
  unfold firstT
  rw [find_no (fun j hj => by
    have := h0 j hj
    rw [← Bool.not_eq_true]; simpa using this)]; rfl
theorem firstT_size (f : List Item) (n : Int) : (firstT f n).text.length ≤ sizeL f := by
  unfold firstT
  cases h : f.find? (fun x => isTag x && decide (x.id = n)) with
  | none => exact Nat.zero_le _
  | some x => exact sizeL_mem (List.mem_of_find?_eq_some h)
def pairQ (a b : List Item) (n m : Int) : Bool := decide ((firstT b m).kind = (firstT a n).kind) && decide ((firstT b m).text = (firstT a n).text)
def pairStep (a b : List Item) (p : List Int × List Int) (n : Int) : List Int × List Int :=
  match (numsL b).find? (fun m => decide (¬ m ∈ p.2) && pairQ a b n m) with
  | some m => (p.1 ++ [n], p.2 ++ [m])
  | none => p
def pairGo (a b : List Item) (l : List Int) : List Int × List Int := l.foldl (pairStep a b) ([], [])
def pairL (a b : List Item) : List Int × List Int := pairGo a b (numsL a)
theorem pairGo_succ (a b : List Item) (l : List Int) (k : Nat) (h : k < l.length) : pairGo a b (l.take (k + 1)) = pairStep a b (pairGo a b (l.take k)) (l.getD k default) := foldl_succ _ _ l k h
theorem pair_yes {a b : List Item} {p : List Int × List Int} {n m : Int} (h : (numsL b).find? (fun m => decide (¬ m ∈ p.2) && pairQ a b n m) = some m) : pairStep a b p n = (p.1 ++ [n], p.2 ++ [m]) := by unfold pairStep; rw [h]
theorem pair_no {a b : List Item} {p : List Int × List Int} {n : Int} (h : (numsL b).find? (fun m => decide (¬ m ∈ p.2) && pairQ a b n m) = none) : pairStep a b p n = p := by unfold pairStep; rw [h]
def leftL (b : List Item) (to_ : List Int) : List Int := (numsL b).filter (fun m => decide (¬ m ∈ to_))
theorem find_left (a b : List Item) (to_ : List Int) (n : Int) : (numsL b).find? (fun m => decide (¬ m ∈ to_) && pairQ a b n m) = (leftL b to_).find? (pairQ a b n) := by
  unfold leftL; rw [List.find?_filter]; congr 1; funext m; rw [Bool.eq_iff_iff]; simp
theorem leftL_nodup (b : List Item) (to_ : List Int) : (leftL b to_).Nodup := (nums_nodup b).filter _
theorem leftL_len (b : List Item) (to_ : List Int) : (leftL b to_).length ≤ b.length := Nat.le_trans (List.length_filter_le _ _) (numsL_len b)
theorem leftL_nil (b : List Item) : leftL b [] = numsL b := by unfold leftL; simp
theorem filter_ne : ∀ {l : List Int} {k : Nat}, l.Nodup → k < l.length → l.filter (fun x => decide (¬ x = l.getD k default)) = l.take k ++ l.drop (k + 1)
  | x :: l, 0, hn, _ => by
    obtain ⟨h1, h2⟩ := List.nodup_cons.1 hn
    have e : (x :: l).getD 0 default = x := by simp
    rw [e]
    have h3 : l.filter (fun y => decide (¬ y = x)) = l := List.filter_eq_self.2 (fun y hy => by
      have : ¬ y = x := fun e => h1 (e ▸ hy)
      simpa using this)
    simp only [List.filter_cons, h3]
    simp
  | x :: l, k + 1, hn, hk => by
    obtain ⟨h1, h2⟩ := List.nodup_cons.1 hn
    have e : (x :: l).getD (k + 1) default = l.getD k default := by simp
    have hk2 : k < l.length := by simpa using hk
    have hx : ¬ x = l.getD k default := fun e2 => h1 (by
      have e3 : l.getD k default = l[k] := by simp [List.getD, hk2]
      rw [e2, e3]; exact List.getElem_mem hk2)
    rw [e]
    have ih := filter_ne h2 hk2
    simp only [List.filter_cons, hx, not_false_eq_true, decide_true, if_true, ih, List.take_succ_cons, List.drop_succ_cons, List.cons_append]
theorem leftL_step {b : List Item} {to_ : List Int} {k : Nat} (hk : k < (leftL b to_).length) : leftL b (to_ ++ [(leftL b to_).getD k default]) = (leftL b to_).take k ++ (leftL b to_).drop (k + 1) := by
  rw [← filter_ne (leftL_nodup b to_) hk]
  generalize (leftL b to_).getD k default = m
  unfold leftL
  rw [List.filter_filter]
  congr 1
  funext x
  simp only [List.mem_append, List.mem_singleton, not_or, Bool.decide_and]
  exact Bool.and_comm _ _
structure PairOk (b : List Item) (p : List Int × List Int) (k : Nat) : Prop where
  len : p.1.length = p.2.length
  le : p.1.length ≤ k
  nd : p.2.Nodup
theorem pairGo_ok (a b : List Item) (l : List Int) : PairOk b (pairGo a b l) l.length := by
  refine snoc_cases (Q := fun l => PairOk b (pairGo a b l) l.length) ⟨rfl, Nat.le_refl _, List.nodup_nil⟩ (fun l x ih => ?_) _ l rfl
  have e : pairGo a b (l ++ [x]) = pairStep a b (pairGo a b l) x := by unfold pairGo; rw [List.foldl_append]; rfl
  rw [e]
  cases h : (numsL b).find? (fun m => decide (¬ m ∈ (pairGo a b l).2) && pairQ a b x m) with
  | none =>
    rw [pair_no h]
    exact ⟨ih.len, by have := ih.le; simp; omega, ih.nd⟩
  | some m =>
    rw [pair_yes h]
    have h2 := List.find?_some h
    simp only [Bool.and_eq_true, decide_eq_true_eq] at h2
    exact ⟨by simp [ih.len], by have := ih.le; simp; omega, List.nodup_append.2 ⟨ih.nd, by simp, fun u hu v hv e3 => by simp at hv; subst hv; subst e3; exact h2.1 hu⟩⟩
theorem pairL_ok (a b : List Item) : PairOk b (pairL a b) a.length := by
  have h := pairGo_ok a b (numsL a)
  exact ⟨h.len, Nat.le_trans h.le (numsL_len a), h.nd⟩
/-- a fragment and its renumbered form -/
theorem find_map (r : Int → Int) (f : List Item) (hi : InjT r f) (n : Int) : (∃ x ∈ f, isTag x = true ∧ x.id = n) → firstT (mapT r f) (r n) = mapI r (firstT f n) := by
  rintro ⟨x0, hx0, ht0, hn0⟩
  have key : ∀ g : List Item, (∀ y ∈ g, y ∈ f) → (mapT r g).find? (fun x => isTag x && decide (x.id = r n)) = (g.find? (fun x => isTag x && decide (x.id = n))).map (mapI r) := fun g => by
    induction g with
    | nil => intro _; rfl
    | cons y g ih =>
      intro hg
      show (mapI r y :: mapT r g).find? _ = _
      have e : (isTag (mapI r y) && decide ((mapI r y).id = r n)) = (isTag y && decide (y.id = n)) := by
        rw [mapI_tag]
        by_cases ht : isTag y = true
        · rw [mapI_id ht]
          congr 1
          rw [decide_eq_decide]
          constructor
          · intro h
            rw [← hn0]
            exact hi.inj y (hg y (by simp)) x0 hx0 ht ht0 (by rw [h, hn0])
          · intro h; rw [h]
        · rw [Bool.not_eq_true] at ht; rw [ht]; rfl
      rw [List.find?_cons, List.find?_cons, e, ih (fun z hz => hg z (by simp [hz]))]
      cases isTag y && decide (y.id = n) <;> rfl
  unfold firstT
  rw [key f (fun _ h => h)]
  have hs : (f.find? (fun x => isTag x && decide (x.id = n))).isSome = true := by
    rw [List.find?_isSome]
    exact ⟨x0, hx0, by simp [ht0, hn0]⟩
  cases h : f.find? (fun x => isTag x && decide (x.id = n)) with
  | none => rw [h] at hs; cases hs
  | some y => rfl
theorem pair_self (s : List Item) : pairL s (mapT (renumR s) s) = (numsL s, upL (numsL s).length) := by
  have key : ∀ k, k ≤ (numsL s).length → pairGo s (mapT (renumR s) s) ((numsL s).take k) = ((numsL s).take k, (upL (numsL s).length).take k) := fun k => by
    induction k with
    | zero => intro _; rfl
    | succ k ih =>
      intro hk
      have hu : k < (upL (numsL s).length).length := by rw [upL_len]; omega
      rw [pairGo_succ _ _ _ k (by omega), ih (by omega), take_succD (numsL s) k (by omega), take_succD (upL (numsL s).length) k hu]
      refine pair_yes ?_
      rw [renum_nums]
      refine find_at hu (fun j hj => ?_) ?_
      · have hm : (upL (numsL s).length).getD j default ∈ (upL (numsL s).length).take k := by
          have e : (upL (numsL s).length).getD j default = ((upL (numsL s).length).take k)[j]'(by rw [List.length_take]; omega) := by
            rw [List.getElem_take]; simp [List.getD, show j < (upL (numsL s).length).length by omega]
          rw [e]; exact List.getElem_mem _
        show (decide (¬ (upL (numsL s).length).getD j default ∈ (upL (numsL s).length).take k) && _) = false
        rw [decide_eq_false (not_not_intro hm)]; rfl
      · have h1 : ¬ (upL (numsL s).length).getD k default ∈ (upL (numsL s).length).take k := by
          rw [upL_at (by omega)]
          intro h
          obtain ⟨j, hj, e⟩ := List.getElem_of_mem h
          rw [List.length_take, upL_len] at hj
          rw [List.getElem_take] at e
          have e2 := upL_at (n := (numsL s).length) (j := j) (by omega)
          simp [List.getD, show j < (upL (numsL s).length).length by rw [upL_len]; omega] at e2
          rw [e2] at e
          omega
        have h2 := renumR_at (f := s) (j := k) (by omega)
        have hx : ∃ x ∈ s, isTag x = true ∧ x.id = (numsL s).getD k default := nums_mem.1 (by
          have e : (numsL s).getD k default = (numsL s)[k]'(by omega) := by simp [List.getD, show k < (numsL s).length by omega]
          rw [e]; exact List.getElem_mem _)
        have h3 := find_map (renumR s) s (renum_inj s) _ hx
        rw [h2] at h3
        rw [Bool.and_eq_true]
        refine ⟨by simpa using h1, ?_⟩
        unfold pairQ
        rw [upL_at (by omega), h3, mapI_kind, mapI_text]
        simp
  have h := key (numsL s).length (Nat.le_refl _)
  rw [List.take_of_length_le (Nat.le_refl _), List.take_of_length_le (by rw [upL_len]; exact Nat.le_refl _)] at h
  exact h
theorem has_prefix {l : List Int} {k : Nat} (h : l.Nodup) (hk : k < l.length) : ¬ l.getD k default ∈ l.take k := fun hm => by
  obtain ⟨j, hj, e⟩ := List.getElem_of_mem hm
  rw [List.length_take] at hj
  rw [List.getElem_take] at e
  have e2 : l.getD k default = l[k] := by simp [List.getD, hk]
  rw [e2] at e
  have := (List.getElem_inj h).1 e
  omega
end Go.Vc
