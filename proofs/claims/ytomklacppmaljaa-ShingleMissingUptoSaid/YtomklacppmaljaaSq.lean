/-
  Plain: what one list of grams has more than another. No program in sight.
-/
import Derived.Test.YtomklacppmaljaaPmp
namespace Go.Vc
open Go Go.RowKit Go.IntWalk
section
variable {α : Type} [DecidableEq α]
/-- the different ones, in the order of their coming -/
def dist (l : List α) : List α := l.foldl (fun acc x => if x ∈ acc then acc else acc ++ [x]) []
theorem dist_snoc (l : List α) (x : α) : dist (l ++ [x]) = if x ∈ dist l then dist l else dist l ++ [x] := by unfold dist; rw [List.foldl_append]; rfl
theorem dist_mem_nodup : ∀ (n : Nat) (l : List α), l.length = n → (∀ x, x ∈ dist l ↔ x ∈ l) ∧ (dist l).Nodup
  | 0, l, h => by
    have : l = [] := List.eq_nil_of_length_eq_zero h
    subst this; exact ⟨fun x => Iff.rfl, List.nodup_nil⟩
  | n + 1, l, h => by
    have hne : l ≠ [] := by intro e; subst e; simp at h
    obtain ⟨r, y, rfl⟩ : ∃ r y, l = r ++ [y] := ⟨l.dropLast, l.getLast hne, (List.dropLast_concat_getLast hne).symm⟩
    obtain ⟨h1, h2⟩ := dist_mem_nodup n r (by simpa using h)
    rw [dist_snoc]
    by_cases hy : y ∈ dist r
    · rw [if_pos hy]
      refine ⟨fun x => ?_, h2⟩
      rw [h1 x, List.mem_append]
      exact ⟨.inl, fun h => h.elim id (fun h => by have : x = y := by simpa using h
                                                   rw [this]; exact (h1 y).1 hy)⟩
    · rw [if_neg hy]
      refine ⟨fun x => by rw [List.mem_append, List.mem_append, h1 x], ?_⟩
      rw [List.nodup_append]
      exact ⟨h2, by simp, fun a ha b hb => by have : b = y := by simpa using hb
                                              rw [this]; intro e; exact hy (e ▸ ha)⟩
theorem dist_mem (l : List α) (x : α) : x ∈ dist l ↔ x ∈ l := (dist_mem_nodup _ l rfl).1 x
theorem dist_nodup (l : List α) : (dist l).Nodup := (dist_mem_nodup _ l rfl).2
theorem dist_take {l : List α} [Inhabited α] {k : Nat} (hk : k < l.length) : dist (l.take (k + 1)) = if l.getD k default ∈ l.take k then dist (l.take k) else dist (l.take k) ++ [l.getD k default] := by
  rw [take_succD l k hk, dist_snoc]
  by_cases h : l.getD k default ∈ l.take k
  · rw [if_pos h, if_pos ((dist_mem _ _).2 h)]
  · rw [if_neg h, if_neg (fun q => h ((dist_mem _ _).1 q))]
end
def sumZ (l : List Int) : Int := l.foldr (· + ·) 0
theorem sumZ_cons (a : Int) (l : List Int) : sumZ (a :: l) = a + sumZ l := rfl
theorem sumZ_append : ∀ l m : List Int, sumZ (l ++ m) = sumZ l + sumZ m
  | [], m => by simp [sumZ]
  | a :: l, m => by rw [List.cons_append, sumZ_cons, sumZ_cons, sumZ_append l m]; omega
theorem sumZ_perm {l m : List Int} (h : l.Perm m) : sumZ l = sumZ m := by
  induction h with
  | nil => rfl
  | cons x _ ih => rw [sumZ_cons, sumZ_cons, ih]
  | swap x y l => simp only [sumZ_cons]; omega
  | trans _ _ ih1 ih2 => rw [ih1, ih2]
theorem sumZ_nonneg : ∀ {l : List Int}, (∀ x ∈ l, 0 ≤ x) → 0 ≤ sumZ l
  | [], _ => Int.le_refl _
  | a :: l, h => by
    rw [sumZ_cons]
    have h1 := h a (by simp)
    have h2 := sumZ_nonneg (l := l) (fun x hx => h x (by simp [hx]))
    omega
theorem sumZ_le : ∀ {l : List Int} {n : Int}, 0 ≤ n → (∀ x ∈ l, x ≤ n) → sumZ l ≤ l.length * n
  | [], n, _, _ => by simp [sumZ]
  | a :: l, n, hn, h => by
    rw [sumZ_cons]
    have h1 := h a (by simp)
    have h2 := sumZ_le (l := l) hn (fun x hx => h x (by simp [hx]))
    have e : (((a :: l).length : Nat) : Int) * n = n + (l.length : Nat) * n := by rw [List.length_cons]; push_cast; rw [Int.add_mul]; omega
    rw [e]; omega
/-- a count that counts -/
def clampI (c : Int) : Int := max (min c 1073741824) 0
theorem clampI_le (c : Int) : 0 ≤ clampI c ∧ clampI c ≤ 1073741824 := by unfold clampI; omega
/-- how often a pair occurs -/
def occL (l : List Gram) (p : Str × Str) : Int := sumZ (l.map (fun x => if prG x = p then clampI x.count else 0))
theorem occ_snoc {l : List Gram} {k : Nat} (hk : k < l.length) (p : Str × Str) : occL (l.take (k + 1)) p = occL (l.take k) p + if prG (l.getD k default) = p then clampI (l.getD k default).count else 0 := by
  unfold occL; rw [take_succD l k hk, List.map_append, sumZ_append]; simp [sumZ]
theorem occ_bd (l : List Gram) (p : Str × Str) : 0 ≤ occL l p ∧ occL l p ≤ l.length * 1073741824 := by
  refine ⟨sumZ_nonneg fun x hx => ?_, ?_⟩
  · obtain ⟨y, _, rfl⟩ := List.mem_map.1 hx
    have := clampI_le y.count
    show 0 ≤ (if prG y = p then clampI y.count else 0); split <;> omega
  · have h := sumZ_le (l := l.map (fun x => if prG x = p then clampI x.count else 0)) (n := 1073741824) (by omega) (fun x hx => by
      obtain ⟨y, _, rfl⟩ := List.mem_map.1 hx
      have := clampI_le y.count
      show (if prG y = p then clampI y.count else 0) ≤ _; split <;> omega)
    rw [List.length_map] at h; exact h
def moreL (a b : List Gram) (p : Str × Str) : Int := max (occL a p - occL b p) 0
def lackL (a b : List Gram) : Int := min (sumZ ((dist (a.map prG)).map (moreL a b))) 1073741824
/-- the occurrences as a map tells them -/
def OccM (l : List Gram) (m : List ((Str × Str) × Int)) : Prop := ∀ p, getM m p = if p ∈ l.map prG then some (occL l p) else none
theorem OccM.nil : OccM [] [] := fun p => by simp [getM]
theorem OccM.get {l : List Gram} {m : List ((Str × Str) × Int)} (h : OccM l m) (p : Str × Str) : (getM m p).getD 0 = occL l p := by
  rw [h p]
  by_cases hp : p ∈ l.map prG
  · rw [if_pos hp]; rfl
  · rw [if_neg hp]
    have : ∀ x ∈ l.map (fun x => if prG x = p then clampI x.count else 0), x = 0 := fun x hx => by
      obtain ⟨y, hy, rfl⟩ := List.mem_map.1 hx
      exact if_neg (fun e => hp (by rw [← e]; exact List.mem_map_of_mem hy))
    have h2 : ∀ {l : List Int}, (∀ x ∈ l, x = 0) → sumZ l = 0 := fun {l} => by
      induction l with
      | nil => intro _; rfl
      | cons a l ih => intro h; rw [sumZ_cons, h a (by simp), ih (fun x hx => h x (by simp [hx]))]; rfl
    exact (h2 this).symm
theorem OccM.step {l : List Gram} {m m2 : List ((Str × Str) × Int)} {k : Nat} (hk : k < l.length) (h : OccM (l.take k) m) (hb : Bump m m2 (prG (l.getD k default)) (clampI (l.getD k default).count)) : OccM (l.take (k + 1)) m2 := fun p => by
  rw [hb p]
  have e : (l.take (k + 1)).map prG = (l.take k).map prG ++ [prG (l.getD k default)] := by rw [take_succD l k hk, List.map_append]; rfl
  rw [e, occ_snoc hk]
  by_cases hp : p = prG (l.getD k default)
  · rw [if_pos hp, if_pos (by simp [hp]), if_pos hp.symm, ← hp, h.get]
  · have e2 : (if prG (l.getD k default) = p then clampI (l.getD k default).count else 0) = 0 := if_neg (fun q => hp q.symm)
    rw [if_neg hp, h p, e2, Int.add_zero]
    by_cases h2 : p ∈ (l.take k).map prG
    · rw [if_pos h2, if_pos (List.mem_append_left _ h2)]
    · rw [if_neg h2, if_neg (fun q => (List.mem_append.1 q).elim h2 (fun q => hp (by simpa using q)))]
/-- the reference's way -/
theorem lack_skip {a b : List Gram} {k : Nat} (hk : k < a.length) (h : prG (a.getD k default) ∈ (a.take k).map prG) : dist ((a.take (k + 1)).map prG) = dist ((a.take k).map prG) := by
  rw [take_succD a k hk, List.map_append]
  show dist ((a.take k).map prG ++ [prG (a.getD k default)]) = _
  rw [dist_snoc, if_pos ((dist_mem _ _).2 h)]
theorem lack_new {a : List Gram} {k : Nat} (hk : k < a.length) (h : ¬ prG (a.getD k default) ∈ (a.take k).map prG) : dist ((a.take (k + 1)).map prG) = dist ((a.take k).map prG) ++ [prG (a.getD k default)] := by
  rw [take_succD a k hk, List.map_append]
  show dist ((a.take k).map prG ++ [prG (a.getD k default)]) = _
  rw [dist_snoc, if_neg (fun q => h ((dist_mem _ _).1 q))]
def lackK (a b : List Gram) (k : Nat) : Int := min (sumZ ((dist ((a.take k).map prG)).map (moreL a b))) 1073741824
theorem lackK_pos (a b : List Gram) (ks : List (Str × Str)) : 0 ≤ sumZ (ks.map (moreL a b)) := sumZ_nonneg fun x hx => by
  obtain ⟨y, _, rfl⟩ := List.mem_map.1 hx
  show 0 ≤ max _ 0; omega
theorem lackK_bd (a b : List Gram) (k : Nat) : 0 ≤ lackK a b k ∧ lackK a b k ≤ 1073741824 := by have := lackK_pos a b (dist ((a.take k).map prG)); unfold lackK; omega
theorem lackK_skip {a b : List Gram} {k : Nat} (hk : k < a.length) (h : prG (a.getD k default) ∈ (a.take k).map prG) : lackK a b k = lackK a b (k + 1) := by unfold lackK; rw [lack_skip (b := b) hk h]
theorem lackK_new {a b : List Gram} {k : Nat} (hk : k < a.length) (h : ¬ prG (a.getD k default) ∈ (a.take k).map prG) : min (lackK a b k + max 0 (occL a (prG (a.getD k default)) - occL b (prG (a.getD k default)))) 1073741824 = lackK a b (k + 1) := by
  have h1 := lackK_pos a b (dist ((a.take k).map prG))
  have e : sumZ ((dist ((a.take (k + 1)).map prG)).map (moreL a b)) = sumZ ((dist ((a.take k).map prG)).map (moreL a b)) + moreL a b (prG (a.getD k default)) := by
    rw [lack_new hk h, List.map_append, sumZ_append]; simp [sumZ]
  unfold lackK; rw [e]; unfold moreL at *; omega
theorem lackK_end {a b : List Gram} {k : Nat} (h : a.length ≤ k) : lackK a b k = lackL a b := by unfold lackK lackL; rw [List.take_of_length_le h]
/-- a sum that stops at the greatest -/
def satL (b : List Gram) (d : List ((Str × Str) × Int)) : Int := min (sumZ (d.map (fun q => max (q.2 - occL b q.1) 0))) 1073741824
theorem sat_pos (b : List Gram) (d : List ((Str × Str) × Int)) : 0 ≤ sumZ (d.map (fun q => max (q.2 - occL b q.1) 0)) := sumZ_nonneg fun x hx => by
  obtain ⟨y, _, rfl⟩ := List.mem_map.1 hx; show 0 ≤ max _ 0; omega
theorem sat_nil (b : List Gram) : satL b [] = 0 := rfl
theorem sat_snoc (b : List Gram) (d : List ((Str × Str) × Int)) (q : (Str × Str) × Int) : satL b (d ++ [q]) = min (satL b d + max (q.2 - occL b q.1) 0) 1073741824 := by
  have h := sat_pos b d
  have e : sumZ ((d ++ [q]).map (fun q => max (q.2 - occL b q.1) 0)) = sumZ (d.map (fun q => max (q.2 - occL b q.1) 0)) + max (q.2 - occL b q.1) 0 := by
    rw [List.map_append, sumZ_append]; simp [sumZ]
  unfold satL; rw [e]; omega
theorem sat_bd (b : List Gram) (d : List ((Str × Str) × Int)) : 0 ≤ satL b d ∧ satL b d ≤ 1073741824 := by have := sat_pos b d; unfold satL; omega
theorem nodup_perm {α : Type} [DecidableEq α] : ∀ {l m : List α}, l.Nodup → m.Nodup → (∀ x, x ∈ l ↔ x ∈ m) → l.Perm m := fun {l m} h1 h2 h => by
  rw [List.perm_iff_count]
  intro x
  rw [List.Nodup.count h1, List.Nodup.count h2]
  simp [h x]
theorem sat_done {a b : List Gram} {m d : List ((Str × Str) × Int)} (h : OccM a m) (hn : (m.map (·.1)).Nodup) (hp : d.Perm m) : satL b d = lackL a b := by
  unfold satL lackL
  congr 1
  rw [sumZ_perm (hp.map _)]
  have hkeys : (m.map (·.1)).Perm (dist (a.map prG)) := nodup_perm hn (dist_nodup _) fun x => by
    rw [dist_mem]
    constructor
    · intro hx
      obtain ⟨q, hq, rfl⟩ := List.mem_map.1 hx
      have h2 : getM m q.1 = some q.2 := getM_of_memZ hn hq
      rw [h q.1] at h2
      exact Classical.byContradiction fun hc => by rw [if_neg hc] at h2; cases h2
    · intro hx
      have h2 : getM m x = some (occL a x) := by rw [h x, if_pos hx]
      exact List.mem_map.2 ⟨_, getM_mem_of h2, rfl⟩
  rw [← sumZ_perm (hkeys.map (moreL a b)), List.map_map]
  congr 1
  refine List.map_congr_left fun q hq => ?_
  have h2 : getM m q.1 = some q.2 := getM_of_memZ hn hq
  have h3 := h.get q.1
  rw [h2] at h3
  show max (q.2 - occL b q.1) 0 = max (occL a q.1 - occL b q.1) 0
  rw [← h3]; rfl
/-! ### '==' between grams -/
theorem equalIn_gram {P : Program} {w : World} (d : Nat) {T : TypeId} {f0 f1 f2 : Field} (hu : P.underlying T = some (.struct #[f0, f1, f2])) (hp : P.stoodInHeld T = false) (n0 : f0.name ≠ "_") (n1 : f1.name ≠ "_") (n2 : f2.name ≠ "_")
    (o0 : f0.offset = 0) (o1 : f1.offset = 1) (o2 : f2.offset = 2) (u0 : P.underlying f0.type = some .string) (u1 : P.underlying f1.type = some .string) (u2 : P.underlying f2.type = some (.int .i64))
    (a0 : aggP P f0.type = some false) (a1 : aggP P f1.type = some false) (a2 : aggP P f2.type = some false) (x y : Gram) :
    (Op.equalIn (d + 2) T (.agg (Enc.enc x).toArray) (.agg (Enc.enc y).toArray)).run P w = .ok (decide (x = y)) w := by
  have hf : P.fieldsOf T = #[f0, f1, f2] := by simp [Program.fieldsOf, hu]
  rw [run_equalIn_struct (P := P) w (d + 1) T _ _ (by rw [hf]; exact hu) hp, hf]
  have p0 : ∀ (z : Gram), (part f0.type (Enc.enc z).toArray 0).run P w = .ok (S z.fst) w := fun z => run_part1 a0 rfl
  have p1 : ∀ (z : Gram), (part f1.type (Enc.enc z).toArray 1).run P w = .ok (S z.snd) w := fun z => run_part1 a1 rfl
  have p2 : ∀ (z : Gram), (part f2.type (Enc.enc z).toArray 2).run P w = .ok (.int .i64 z.count) w := fun z => run_part1 a2 rfl
  have e0 := equalIn_str (P := P) (w := w) d u0 x.fst y.fst
  have e1 := equalIn_str (P := P) (w := w) d u1 x.snd y.snd
  have e2 := run_equalIn_int (P := P) w d f2.type .i64 .i64 x.count y.count u2
  have key : (Op.eqFields (d + 1) (Enc.enc x).toArray (Enc.enc y).toArray [f0, f1, f2]).run P w = .ok ((x.fst == y.fst) && (x.snd == y.snd) && (x.count == y.count)) w := by
    simp only [Op.eqFields, n0, n1, n2, o0, o1, o2, ne_eq, not_false_eq_true, if_true, Sem.run_bind, p0, e0, Result.andThen_ok]
    cases (x.fst == y.fst) with
    | false => simp
    | true =>
      simp only [Bool.not_true, Bool.false_eq_true, if_false, Sem.run_bind, p1, e1, Result.andThen_ok, Bool.true_and]
      cases (x.snd == y.snd) with
      | false => simp
      | true =>
        simp only [Bool.not_true, Bool.false_eq_true, if_false, Sem.run_bind, p2, e2, Result.andThen_ok, Bool.true_and]
        cases (x.count == y.count) with
        | false => simp
        | true => simp
  have e3 : ((x.fst == y.fst) && (x.snd == y.snd) && (x.count == y.count)) = decide (x = y) := by
    obtain ⟨k1, t1, i1⟩ := x
    obtain ⟨k2, t2, i2⟩ := y
    rw [Bool.eq_iff_iff]
    simp [and_assoc]
  rw [← e3]
  exact key
end Go.Vc
