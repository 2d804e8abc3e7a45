/-
  Walks of functions that the statement reaches (joined by a program out of smaller texts).
-/
import Derived.Test.YtomklacppmaljaaQc
import Derived.Test.YtomklacppmaljaaPh
namespace Go.Proofs.Ytomklacppmaljaa
open Go.RowKit Go.Vc
section
variable {α : Type}
theorem sum_le {f f' : α → Int} : ∀ {ks : List α}, (∀ c ∈ ks, f' c ≤ f c) → sumZ (ks.map f') ≤ sumZ (ks.map f)
  | [], _ => Int.le_refl _
  | k :: ks, h => by
    rw [List.map_cons, List.map_cons, sumZ_cons, sumZ_cons]
    have h1 := h k (by simp)
    have h2 := sum_le (ks := ks) (fun c hc => h c (by simp [hc]))
    omega
theorem sum_filter {f : α → Int} {p : α → Bool} : ∀ {ks : List α}, (∀ c ∈ ks, p c = false → f c = 0) → sumZ (ks.map f) = sumZ ((ks.filter p).map f)
  | [], _ => rfl
  | k :: ks, h => by
    have h2 := sum_filter (ks := ks) (fun c hc => h c (by simp [hc]))
    rw [List.map_cons, sumZ_cons]
    cases e : p k with
    | true => rw [List.filter_cons_of_pos e, List.map_cons, sumZ_cons, h2]
    | false => rw [List.filter_cons_of_neg (by simp [e]), h k (by simp) e, h2]; omega
theorem sum_zero {f : α → Int} : ∀ {ks : List α}, (∀ c ∈ ks, f c = 0) → sumZ (ks.map f) = 0
  | [], _ => rfl
  | k :: ks, h => by rw [List.map_cons, sumZ_cons, h k (by simp), sum_zero (fun c hc => h c (by simp [hc]))]; rfl
end
section
variable {α : Type} [DecidableEq α]
theorem sum_le_at {f f' : α → Int} {x : α} {d : Int} (hd : 0 ≤ d) : ∀ {ks : List α}, ks.Nodup → (∀ c ∈ ks, f' c ≤ f c + if c = x then d else 0) → sumZ (ks.map f') ≤ sumZ (ks.map f) + d
  | [], _, _ => by simpa [sumZ] using hd
  | k :: ks, hn, h => by
    rw [List.nodup_cons] at hn
    rw [List.map_cons, List.map_cons, sumZ_cons, sumZ_cons]
    have h1 := h k (by simp)
    by_cases e : k = x
    · subst e
      rw [if_pos rfl] at h1
      have h2 : sumZ (ks.map f') ≤ sumZ (ks.map f) := sum_le (fun c hc => by
        have h3 := h c (by simp [hc])
        rw [if_neg (fun q : c = k => hn.1 (q ▸ hc))] at h3; omega)
      omega
    · rw [if_neg e] at h1
      have h2 := sum_le_at hd hn.2 (fun c hc => h c (by simp [hc]))
      omega
end
/-- the classes of a list -/
def clsL (l : List Vc.Item) : List Vc.Item := (l.filter (fun x => decide (clB x))).map clV
theorem cls_yes {l : List Vc.Item} {k : Nat} (hk : k < l.length) (h : clB (l.getD k default)) : clsL (l.take (k + 1)) = clsL (l.take k) ++ [clV (l.getD k default)] := by
  unfold clsL; rw [take_succD l k hk, List.filter_append, List.map_append, List.filter_cons_of_pos (p := fun x : Vc.Item => decide (clB x)) (decide_eq_true h)]; rfl
theorem cls_no {l : List Vc.Item} {k : Nat} (hk : k < l.length) (h : ¬ clB (l.getD k default)) : clsL (l.take (k + 1)) = clsL (l.take k) := by
  unfold clsL; rw [take_succD l k hk, List.filter_append, List.map_append, List.filter_cons_of_neg (p := fun x : Vc.Item => decide (clB x)) (by simpa using h)]; simp
theorem cls_len (l : List Vc.Item) : (clsL l).length ≤ l.length := by unfold clsL; rw [List.length_map]; exact List.length_filter_le _ _
theorem cls_cons (x : Vc.Item) (l : List Vc.Item) : clsL (x :: l) = if clB x then clV x :: clsL l else clsL l := by
  unfold clsL
  by_cases h : clB x
  · rw [if_pos h, List.filter_cons_of_pos (p := fun x : Vc.Item => decide (clB x)) (decide_eq_true h)]; rfl
  · rw [if_neg h, List.filter_cons_of_neg (p := fun x : Vc.Item => decide (clB x)) (by simpa using h)]
theorem clV_kind (x : Vc.Item) : (clV x).kind = x.kind := by unfold clV; split <;> rfl
theorem clV_tg {x : Vc.Item} : tgB (clV x) ↔ tgB x := by unfold tgB; rw [clV_kind]
/-- how often more -/
def dlt (a b : List Vc.Item) (c : Vc.Item) : Int := (((clsL a).count c : Nat) : Int) - (((clsL b).count c : Nat) : Int)
theorem dlt_swap (a b : List Vc.Item) (c : Vc.Item) : dlt b a c = -(dlt a b c) := by unfold dlt; omega
theorem dlt_bd (a b : List Vc.Item) (c : Vc.Item) : -(b.length : Int) ≤ dlt a b c ∧ dlt a b c ≤ (a.length : Int) := by
  have h1 := List.count_le_length (a := c) (l := clsL a)
  have h2 := List.count_le_length (a := c) (l := clsL b)
  have h3 := cls_len a
  have h4 := cls_len b
  unfold dlt; omega
def upF (n : Int) (c : Vc.Item) : Int := if tgB c then 0 else max n 0 * wK c.kind
def tgF (n : Int) (c : Vc.Item) : Int := if tgB c then max n (-n) else 0
def keysL (a b : List Vc.Item) : List Vc.Item := dist (clsL a ++ clsL b)
def upL (a b : List Vc.Item) : Int := sumZ ((keysL a b).map fun c => upF (dlt a b c) c)
def surL (a b : List Vc.Item) : Int := sumZ ((keysL a b).map fun c => tgF (dlt a b c) c)
def bagL (a b : List Vc.Item) : Int := max (upL a b) (upL b a) + 3 * surL a b
theorem keys_mem {a b : List Vc.Item} {c : Vc.Item} : c ∈ keysL a b ↔ c ∈ clsL a ∨ c ∈ clsL b := by unfold keysL; rw [dist_mem, List.mem_append]
theorem keys_nodup (a b : List Vc.Item) : (keysL a b).Nodup := dist_nodup _
theorem keys_swap (a b : List Vc.Item) : (keysL a b).Perm (keysL b a) := nodup_perm (keys_nodup a b) (keys_nodup b a) fun x => by rw [keys_mem, keys_mem]; exact Or.comm
theorem up_swap (a b : List Vc.Item) : upL b a = sumZ ((keysL a b).map fun c => upF (-(dlt a b c)) c) := by
  unfold upL
  rw [sumZ_perm ((keys_swap b a).map _)]
  congr 1
  exact List.map_congr_left fun c _ => by rw [dlt_swap a b c]
theorem upF_zero (c : Vc.Item) : upF 0 c = 0 := by unfold upF; split; rfl; show max (0 : Int) 0 * _ = 0; rw [Int.max_self, Int.zero_mul]
theorem tgF_zero (c : Vc.Item) : tgF 0 c = 0 := by unfold tgF; split <;> rfl
theorem wK_val (k : Int) : wK k = 0 ∨ wK k = 1 ∨ wK k = 2 ∨ wK k = 3 ∨ wK k = 4 := by have := wK_bd k; omega
theorem upF_bd (n : Int) (c : Vc.Item) : 0 ≤ upF n c ∧ upF n c ≤ 4 * max n 0 := by
  unfold upF
  split
  · omega
  · rcases wK_val c.kind with h | h | h | h | h <;> rw [h] <;> omega
theorem tgF_bd (n : Int) (c : Vc.Item) : 0 ≤ tgF n c ∧ tgF n c ≤ max n (-n) := by unfold tgF; split <;> omega
def CntM (ps qs : List Vc.Item) (m : List (Vc.Item × Int)) : Prop := ∀ x, getM m x = if x ∈ ps ∨ x ∈ qs then some (((ps.count x : Nat) : Int) - ((qs.count x : Nat) : Int)) else none
theorem CntM.nil : CntM [] [] [] := fun x => by simp [getM]
theorem CntM.get {ps qs : List Vc.Item} {m : List (Vc.Item × Int)} (h : CntM ps qs m) (x : Vc.Item) : (getM m x).getD 0 = ((ps.count x : Nat) : Int) - ((qs.count x : Nat) : Int) := by
  rw [h x]
  by_cases hx : x ∈ ps ∨ x ∈ qs
  · rw [if_pos hx]; rfl
  · rw [if_neg hx, List.count_eq_zero.2 (fun q => hx (.inl q)), List.count_eq_zero.2 (fun q => hx (.inr q))]; rfl
theorem CntM.inc {ps qs : List Vc.Item} {m m2 : List (Vc.Item × Int)} {a : Vc.Item} (h : CntM ps qs m) (hb : Bump m m2 a 1) : CntM (ps ++ [a]) qs m2 := fun x => by
  rw [hb x]
  by_cases e : x = a
  · subst e
    rw [if_pos rfl, if_pos (by simp), h.get, List.count_append]; simp; omega
  · rw [if_neg e, h x]
    have e2 : (ps ++ [a]).count x = ps.count x := by rw [List.count_append, List.count_singleton]; simp [Ne.symm e]
    rw [e2]
    by_cases hx : x ∈ ps ∨ x ∈ qs
    · rw [if_pos hx, if_pos (hx.imp_left (fun q => List.mem_append_left _ q))]
    · rw [if_neg hx, if_neg (fun q => hx (q.imp_left (fun q => (List.mem_append.1 q).resolve_right (by simpa using e))))]
theorem CntM.dec {ps qs : List Vc.Item} {m m2 : List (Vc.Item × Int)} {a : Vc.Item} (h : CntM ps qs m) (hb : Bump m m2 a (-1)) : CntM ps (qs ++ [a]) m2 := fun x => by
  rw [hb x]
  by_cases e : x = a
  · subst e
    rw [if_pos rfl, if_pos (by simp), h.get, List.count_append]; simp; omega
  · rw [if_neg e, h x]
    have e2 : (qs ++ [a]).count x = qs.count x := by rw [List.count_append, List.count_singleton]; simp [Ne.symm e]
    rw [e2]
    by_cases hx : x ∈ ps ∨ x ∈ qs
    · rw [if_pos hx, if_pos (hx.imp_right (fun q => List.mem_append_left _ q))]
    · rw [if_neg hx, if_neg (fun q => hx (q.imp_right (fun q => (List.mem_append.1 q).resolve_right (by simpa using e))))]
theorem CntM.keys {a b : List Vc.Item} {m : List (Vc.Item × Int)} (h : CntM (clsL a) (clsL b) m) (hn : (m.map (·.1)).Nodup) : (m.map (·.1)).Perm (keysL a b) := nodup_perm hn (keys_nodup a b) fun x => by
  rw [keys_mem]
  constructor
  · intro hx
    obtain ⟨q, hq, rfl⟩ := List.mem_map.1 hx
    have h2 : getM m q.1 = some q.2 := getM_of_memZ hn hq
    rw [h q.1] at h2
    exact Classical.byContradiction fun hc => by rw [if_neg hc] at h2; cases h2
  · intro hx
    have h2 := h x
    rw [if_pos hx] at h2
    exact List.mem_map.2 ⟨_, getM_mem_of h2, rfl⟩
theorem CntM.val {a b : List Vc.Item} {m : List (Vc.Item × Int)} (h : CntM (clsL a) (clsL b) m) (hn : (m.map (·.1)).Nodup) {q : Vc.Item × Int} (hq : q ∈ m) : q.2 = dlt a b q.1 := by
  have h2 : getM m q.1 = some q.2 := getM_of_memZ hn hq
  have h3 := h.get q.1
  rw [h2] at h3
  exact h3
theorem CntM.vbd {a b : List Vc.Item} {m : List (Vc.Item × Int)} (h : CntM (clsL a) (clsL b) m) (hn : (m.map (·.1)).Nodup) (ha : a.length ≤ 1000000) (hb : b.length ≤ 1000000) {q : Vc.Item × Int} (hq : q ∈ m) : -1000000 ≤ q.2 ∧ q.2 ≤ 1000000 := by
  rw [h.val hn hq]; have := dlt_bd a b q.1; omega
theorem mulw_bd {n k : Int} (h : -1000000 ≤ n ∧ n ≤ 1000000) : -4000000 ≤ n * wK k ∧ n * wK k ≤ 4000000 := by
  rcases wK_val k with e | e | e | e | e <;> rw [e] <;> omega
theorem CntM.len {a b : List Vc.Item} {m : List (Vc.Item × Int)} (h : CntM (clsL a) (clsL b) m) (hn : (m.map (·.1)).Nodup) : m.length ≤ a.length + b.length := by
  have h1 := (h.keys hn).length_eq
  have h2 := List.Nodup.length_le_of_subset (keys_nodup a b) (l₂ := clsL a ++ clsL b) (fun x hx => by rw [List.mem_append]; exact keys_mem.1 hx)
  rw [List.length_append] at h2
  have h3 := cls_len a
  have h4 := cls_len b
  rw [List.length_map] at h1
  omega
theorem CntM.sum {a b : List Vc.Item} {m d : List (Vc.Item × Int)} (h : CntM (clsL a) (clsL b) m) (hn : (m.map (·.1)).Nodup) (hp : d.Perm m) (F : Int → Vc.Item → Int) : sumZ (d.map fun q => F q.2 q.1) = sumZ ((keysL a b).map fun c => F (dlt a b c) c) := by
  rw [sumZ_perm (hp.map _), ← sumZ_perm ((h.keys hn).map _), List.map_map]
  congr 1
  exact List.map_congr_left fun q hq => by rw [h.val hn hq]; rfl
def upS (d : List (Vc.Item × Int)) : Int := sumZ (d.map fun q => upF q.2 q.1)
def dnS (d : List (Vc.Item × Int)) : Int := sumZ (d.map fun q => upF (-q.2) q.1)
def tgS (d : List (Vc.Item × Int)) : Int := 3 * sumZ (d.map fun q => tgF q.2 q.1)
theorem bag_done {a b : List Vc.Item} {m d : List (Vc.Item × Int)} (h : CntM (clsL a) (clsL b) m) (hn : (m.map (·.1)).Nodup) (hp : d.Perm m) : max (upS d) (dnS d) + tgS d = bagL a b := by
  unfold upS dnS tgS bagL
  rw [h.sum hn hp upF, h.sum hn hp tgF, h.sum hn hp (fun n c => upF (-n) c), up_swap a b]; rfl
theorem S_snoc (f : Vc.Item × Int → Int) (d : List (Vc.Item × Int)) (q : Vc.Item × Int) : sumZ ((d ++ [q]).map f) = sumZ (d.map f) + f q := by rw [List.map_append, sumZ_append]; simp [sumZ]
theorem bag_tag {d : List (Vc.Item × Int)} {q : Vc.Item × Int} (h : tgB q.1) : upS (d ++ [q]) = upS d ∧ dnS (d ++ [q]) = dnS d ∧ tgS (d ++ [q]) = tgS d + 3 * max q.2 (-q.2) := by
  unfold upS dnS tgS
  rw [S_snoc, S_snoc, S_snoc]
  unfold upF tgF
  rw [if_pos h, if_pos h, if_pos h]; omega
theorem bag_up {d : List (Vc.Item × Int)} {q : Vc.Item × Int} (h : ¬ tgB q.1) (h2 : 0 < q.2) : upS (d ++ [q]) = upS d + q.2 * wK q.1.kind ∧ dnS (d ++ [q]) = dnS d ∧ tgS (d ++ [q]) = tgS d := by
  unfold upS dnS tgS
  rw [S_snoc, S_snoc, S_snoc]
  unfold upF tgF
  rw [if_neg h, if_neg h, if_neg h, show max q.2 0 = q.2 by omega, show max (-q.2) 0 = 0 by omega, Int.zero_mul]; omega
theorem bag_dn {d : List (Vc.Item × Int)} {q : Vc.Item × Int} (h : ¬ tgB q.1) (h2 : ¬ 0 < q.2) : upS (d ++ [q]) = upS d ∧ dnS (d ++ [q]) = dnS d - q.2 * wK q.1.kind ∧ tgS (d ++ [q]) = tgS d := by
  unfold upS dnS tgS
  rw [S_snoc, S_snoc, S_snoc]
  unfold upF tgF
  rw [if_neg h, if_neg h, if_neg h, show max q.2 0 = 0 by omega, show max (-q.2) 0 = -q.2 by omega, Int.zero_mul, Int.neg_mul]; omega
theorem bag_bd {d m : List (Vc.Item × Int)} (hs : m.length ≤ 2000000) (hl : d.length ≤ m.length) (hv : ∀ q ∈ d, -1000000 ≤ q.2 ∧ q.2 ≤ 1000000) : 0 ≤ upS d ∧ upS d ≤ 8000000000000 ∧ 0 ≤ dnS d ∧ dnS d ≤ 8000000000000 ∧ 0 ≤ tgS d ∧ tgS d ≤ 24000000000000 := by
  have key : ∀ (f : Vc.Item × Int → Int), (∀ q ∈ d, 0 ≤ f q ∧ f q ≤ 4000000) → 0 ≤ sumZ (d.map f) ∧ sumZ (d.map f) ≤ 8000000000000 := fun f hf => by
    refine ⟨sumZ_nonneg fun x hx => ?_, ?_⟩
    · obtain ⟨q, hq, rfl⟩ := List.mem_map.1 hx; exact (hf q hq).1
    · have := sumZ_le (l := d.map f) (n := 4000000) (by omega) (fun x hx => by obtain ⟨q, hq, rfl⟩ := List.mem_map.1 hx; exact (hf q hq).2)
      rw [List.length_map] at this; omega
  have h1 := key (fun q => upF q.2 q.1) fun q hq => by have h := upF_bd q.2 q.1; have := hv q hq; omega
  have h2 := key (fun q => upF (-q.2) q.1) fun q hq => by have h := upF_bd (-q.2) q.1; have := hv q hq; omega
  have h3 := key (fun q => tgF q.2 q.1) fun q hq => by have h := tgF_bd q.2 q.1; have := hv q hq; omega
  unfold upS dnS tgS; omega
theorem up_bd (a b : List Vc.Item) (ha : a.length ≤ 1000000) (hb : b.length ≤ 1000000) : 0 ≤ upL a b ∧ upL a b ≤ 8000000000000 := by
  have hl : (keysL a b).length ≤ 2000000 := by
    have h2 := List.Nodup.length_le_of_subset (keys_nodup a b) (l₂ := clsL a ++ clsL b) (fun x hx => by rw [List.mem_append]; exact keys_mem.1 hx)
    have h3 := cls_len a
    have h4 := cls_len b
    rw [List.length_append] at h2; omega
  have hf : ∀ c, 0 ≤ upF (dlt a b c) c ∧ upF (dlt a b c) c ≤ 4000000 := fun c => by have h := upF_bd (dlt a b c) c; have := dlt_bd a b c; omega
  refine ⟨sumZ_nonneg fun x hx => ?_, ?_⟩
  · obtain ⟨q, hq, rfl⟩ := List.mem_map.1 hx; exact (hf q).1
  · have := sumZ_le (l := (keysL a b).map fun c => upF (dlt a b c) c) (n := 4000000) (by omega) (fun x hx => by obtain ⟨q, hq, rfl⟩ := List.mem_map.1 hx; exact (hf q).2)
    rw [List.length_map] at this; unfold upL; omega
theorem sur_bd (a b : List Vc.Item) (ha : a.length ≤ 1000000) (hb : b.length ≤ 1000000) : 0 ≤ surL a b ∧ surL a b ≤ 2000000000000 := by
  have hl : (keysL a b).length ≤ 2000000 := by
    have h2 := List.Nodup.length_le_of_subset (keys_nodup a b) (l₂ := clsL a ++ clsL b) (fun x hx => by rw [List.mem_append]; exact keys_mem.1 hx)
    have h3 := cls_len a
    have h4 := cls_len b
    rw [List.length_append] at h2; omega
  have hf : ∀ c, 0 ≤ tgF (dlt a b c) c ∧ tgF (dlt a b c) c ≤ 1000000 := fun c => by have h := tgF_bd (dlt a b c) c; have := dlt_bd a b c; omega
  refine ⟨sumZ_nonneg fun x hx => ?_, ?_⟩
  · obtain ⟨q, hq, rfl⟩ := List.mem_map.1 hx; exact (hf q).1
  · have := sumZ_le (l := (keysL a b).map fun c => tgF (dlt a b c) c) (n := 1000000) (by omega) (fun x hx => by obtain ⟨q, hq, rfl⟩ := List.mem_map.1 hx; exact (hf q).2)
    rw [List.length_map] at this; unfold surL; omega
theorem bag_nonneg (a b : List Vc.Item) (ha : a.length ≤ 1000000) (hb : b.length ≤ 1000000) : 0 ≤ bagL a b ∧ bagL a b ≤ 20000000000000 := by
  have h1 := up_bd a b ha hb
  have h2 := up_bd b a hb ha
  have h3 := sur_bd a b ha hb
  unfold bagL; omega
def likeB (x y : Vc.Item) : Prop := x.kind = y.kind ∧ 5 ≤ x.kind ∧ x.kind ≤ 9 ∧ keyT x = keyT y
instance (x y : Vc.Item) : Decidable (likeB x y) := by unfold likeB; infer_instance
def sameB (x y : Vc.Item) : Prop := x.kind = y.kind ∧ x.text = y.text
instance (x y : Vc.Item) : Decidable (sameB x y) := by unfold sameB; infer_instance
def timesC (l : List Vc.Item) (t : Vc.Item) : Int := ((l.countP (fun x => decide (sameB x t)) : Nat) : Int)
theorem timesC_yes {l : List Vc.Item} {t : Vc.Item} {k : Nat} (hk : k < l.length) (h : sameB (l.getD k default) t) : timesC (l.take k) t + 1 = timesC (l.take (k + 1)) t := by
  unfold timesC; rw [take_succD l k hk, List.countP_append, List.countP_singleton, decide_eq_true h]; rfl
theorem timesC_no {l : List Vc.Item} {t : Vc.Item} {k : Nat} (hk : k < l.length) (h : ¬ sameB (l.getD k default) t) : timesC (l.take k) t = timesC (l.take (k + 1)) t := by
  unfold timesC; rw [take_succD l k hk, List.countP_append, List.countP_singleton, decide_eq_false h]; rfl
theorem timesC_bd (l : List Vc.Item) (t : Vc.Item) : 0 ≤ timesC l t ∧ timesC l t ≤ (l.length : Int) := by have := List.countP_le_length (p := fun x => decide (sameB x t)) (l := l); unfold timesC; omega
theorem clV_same {x t : Vc.Item} (ht : tgB t) : sameB x t ↔ clB x ∧ clV x = clV t := by
  unfold tgB at ht
  constructor
  · rintro ⟨h1, h2⟩
    refine ⟨⟨by omega, by omega⟩, ?_⟩
    unfold clV
    rw [if_neg (by omega), if_neg (by omega), h1, h2]
  · rintro ⟨h1, h2⟩
    have h3 : x.kind = t.kind := by have := congrArg Vc.Item.kind h2; rwa [clV_kind, clV_kind] at this
    unfold clV at h2
    rw [if_neg (by omega), if_neg (by omega)] at h2
    simp only [Vc.Item.mk.injEq] at h2; exact ⟨h3, h2.2.1⟩
theorem cls_countP (l : List Vc.Item) (c : Vc.Item) : (clsL l).count c = l.countP (fun x => decide (clB x ∧ clV x = c)) := by
  unfold clsL
  rw [List.count_eq_countP, List.countP_map, List.countP_filter]
  congr 1
  funext x
  simp only [Function.comp]
  rw [Bool.eq_iff_iff]; simp [and_comm]
theorem timesC_eq {l : List Vc.Item} {t : Vc.Item} (ht : tgB t) : timesC l t = (((clsL l).count (clV t) : Nat) : Int) := by
  unfold timesC
  rw [cls_countP]
  congr 2
  funext x
  exact decide_eq_decide.2 (clV_same ht)
def clsT (l : List Vc.Item) : List Vc.Item := (l.filter (fun x => decide (tgB x))).map clV
theorem clsT_snoc (l : List Vc.Item) (x : Vc.Item) : clsT (l ++ [x]) = if tgB x then clsT l ++ [clV x] else clsT l := by
  unfold clsT
  by_cases h : tgB x
  · rw [if_pos h, List.filter_append, List.map_append, List.filter_cons_of_pos (p := fun x : Vc.Item => decide (tgB x)) (decide_eq_true h)]; rfl
  · rw [if_neg h, List.filter_append, List.map_append, List.filter_cons_of_neg (p := fun x : Vc.Item => decide (tgB x)) (by simpa using h)]; simp
theorem clsT_mem {l : List Vc.Item} {c : Vc.Item} : c ∈ clsT l ↔ c ∈ clsL l ∧ tgB c := by
  unfold clsT clsL
  constructor
  · intro h
    obtain ⟨x, hx, rfl⟩ := List.mem_map.1 h
    have h2 := List.mem_filter.1 hx
    have h3 : tgB x := by simpa using h2.2
    exact ⟨List.mem_map_of_mem (List.mem_filter.2 ⟨h2.1, decide_eq_true (by unfold tgB at h3; unfold clB; omega)⟩), clV_tg.2 h3⟩
  · rintro ⟨h, ht⟩
    obtain ⟨x, hx, rfl⟩ := List.mem_map.1 h
    have h2 := List.mem_filter.1 hx
    exact List.mem_map_of_mem (List.mem_filter.2 ⟨h2.1, decide_eq_true (clV_tg.1 ht)⟩)
/-- over the tags of a list -/
def suK (a b l : List Vc.Item) : Int := sumZ ((dist (clsT l)).map fun c => max (dlt a b c) (-(dlt a b c)))
theorem suK_nil (a b : List Vc.Item) : suK a b [] = 0 := rfl
theorem suK_end (a b : List Vc.Item) : suK a b (a ++ b) = surL a b := by
  have h1 : surL a b = sumZ ((keysL a b).filter (fun c => decide (tgB c)) |>.map fun c => tgF (dlt a b c) c) := sum_filter fun c _ e => by
    unfold tgF; exact if_neg (by simpa using e)
  rw [h1]
  have h2 : ((keysL a b).filter (fun c => decide (tgB c))).map (fun c => tgF (dlt a b c) c) = ((keysL a b).filter (fun c => decide (tgB c))).map (fun c => max (dlt a b c) (-(dlt a b c))) := List.map_congr_left fun c hc => by
    unfold tgF; exact if_pos (by simpa using (List.mem_filter.1 hc).2)
  rw [h2]
  refine sumZ_perm (List.Perm.map _ (nodup_perm (dist_nodup _) ((keys_nodup a b).filter _) fun x => ?_))
  rw [dist_mem, clsT_mem, List.mem_filter, keys_mem]
  have e : clsL (a ++ b) = clsL a ++ clsL b := by unfold clsL; rw [List.filter_append, List.map_append]
  rw [e, List.mem_append]; simp
theorem suK_skip {a b l : List Vc.Item} {x : Vc.Item} (h : ¬ tgB x ∨ (tgB x ∧ 0 < timesC l x)) : suK a b (l ++ [x]) = suK a b l := by
  unfold suK
  rw [clsT_snoc]
  rcases h with h | ⟨h, h2⟩
  · rw [if_neg h]
  · rw [if_pos h, dist_snoc, if_pos]
    rw [timesC_eq h] at h2
    rw [dist_mem, clsT_mem]
    exact ⟨List.count_pos_iff.1 (by omega), clV_tg.2 h⟩
theorem suK_new {a b l : List Vc.Item} {x : Vc.Item} (h : tgB x) (h2 : timesC l x = 0) : suK a b (l ++ [x]) = suK a b l + max (timesC a x - timesC b x) (-(timesC a x - timesC b x)) := by
  unfold suK
  rw [clsT_snoc, if_pos h, dist_snoc, if_neg]
  · rw [List.map_append, sumZ_append, timesC_eq h, timesC_eq h]; simp [sumZ, dlt]
  · rw [timesC_eq h] at h2
    rw [dist_mem, clsT_mem]
    rintro ⟨h3, _⟩
    have := List.count_pos_iff.2 h3
    omega
theorem suK_bd (a b l : List Vc.Item) (ha : a.length ≤ 1000000) (hb : b.length ≤ 1000000) (hl : l.length ≤ 2000000) : 0 ≤ suK a b l ∧ suK a b l ≤ 2000000000000 := by
  have h0 : (dist (clsT l)).length ≤ 2000000 := by
    have h2 := List.Nodup.length_le_of_subset (dist_nodup (clsT l)) (l₂ := clsT l) (fun x hx => (dist_mem _ _).1 hx)
    have h3 : (clsT l).length ≤ l.length := by unfold clsT; rw [List.length_map]; exact List.length_filter_le _ _
    omega
  have hf : ∀ c, 0 ≤ max (dlt a b c) (-(dlt a b c)) ∧ max (dlt a b c) (-(dlt a b c)) ≤ 1000000 := fun c => by have := dlt_bd a b c; omega
  refine ⟨sumZ_nonneg fun x hx => ?_, ?_⟩
  · obtain ⟨q, hq, rfl⟩ := List.mem_map.1 hx; exact (hf q).1
  · have := sumZ_le (l := (dist (clsT l)).map fun c => max (dlt a b c) (-(dlt a b c))) (n := 1000000) (by omega) (fun x hx => by obtain ⟨q, hq, rfl⟩ := List.mem_map.1 hx; exact (hf q).2)
    rw [List.length_map] at this; unfold suK; omega
theorem timesC_append (l m : List Vc.Item) (x : Vc.Item) : timesC (l ++ m) x = timesC l x + timesC m x := by unfold timesC; rw [List.countP_append]; omega
theorem suA_new {a b : List Vc.Item} {k : Nat} (hk : k < a.length) (h : tgB (a.getD k default) ∧ timesC (a.take k) (a.getD k default) = 0) : suK a b (a.take k) + max (timesC a (a.getD k default) - timesC b (a.getD k default)) (-(timesC a (a.getD k default) - timesC b (a.getD k default))) = suK a b (a.take (k + 1)) := by
  rw [take_succD a k hk]; exact (suK_new h.1 h.2).symm
theorem suA_skip {a b : List Vc.Item} {k : Nat} (hk : k < a.length) (h : ¬ (tgB (a.getD k default) ∧ timesC (a.take k) (a.getD k default) = 0)) : suK a b (a.take k) = suK a b (a.take (k + 1)) := by
  rw [take_succD a k hk]
  have h1 := timesC_bd (a.take k) (a.getD k default)
  refine (suK_skip ?_).symm
  by_cases ht : tgB (a.getD k default)
  · exact .inr ⟨ht, by have : ¬ timesC (a.take k) (a.getD k default) = 0 := fun q => h ⟨ht, q⟩
                       omega⟩
  · exact .inl ht
theorem suB_new {a b : List Vc.Item} {k : Nat} (hk : k < b.length) (h : (tgB (b.getD k default) ∧ timesC (b.take k) (b.getD k default) = 0) ∧ timesC a (b.getD k default) = 0) : suK a b (a ++ b.take k) + timesC b (b.getD k default) = suK a b (a ++ b.take (k + 1)) := by
  rw [take_succD b k hk, ← List.append_assoc, suK_new h.1.1 (by rw [timesC_append, h.1.2, h.2]; rfl), h.2]
  have h1 := timesC_bd b (b.getD k default)
  omega
theorem suB_skip {a b : List Vc.Item} {k : Nat} (hk : k < b.length) (h : ¬ ((tgB (b.getD k default) ∧ timesC (b.take k) (b.getD k default) = 0) ∧ timesC a (b.getD k default) = 0)) : suK a b (a ++ b.take k) = suK a b (a ++ b.take (k + 1)) := by
  rw [take_succD b k hk, ← List.append_assoc]
  have h1 := timesC_bd (b.take k) (b.getD k default)
  have h2 := timesC_bd a (b.getD k default)
  refine (suK_skip ?_).symm
  by_cases ht : tgB (b.getD k default)
  · refine .inr ⟨ht, ?_⟩
    rw [timesC_append]
    have : ¬ (timesC (b.take k) (b.getD k default) = 0 ∧ timesC a (b.getD k default) = 0) := fun q => h ⟨⟨ht, q.1⟩, q.2⟩
    omega
  · exact .inl ht
def mssL (a b : List Vc.Item) : Int := max (lackL (gramsL (wordsT a)) (gramsL (wordsT b))) (lackL (gramsL (wordsT b)) (gramsL (wordsT a)))
def boundL (a b : List Vc.Item) : Int := max (bagL a b) (4 * ((mssL a b + 1) / 2))
theorem lackL_bd (a b : List Gram) : 0 ≤ lackL a b ∧ lackL a b ≤ 1073741824 := by have := lackK_pos a b (dist (a.map prG)); unfold lackL; omega
theorem mssL_bd (a b : List Vc.Item) : 0 ≤ mssL a b ∧ mssL a b ≤ 1073741824 := by have h1 := lackL_bd (gramsL (wordsT a)) (gramsL (wordsT b)); have h2 := lackL_bd (gramsL (wordsT b)) (gramsL (wordsT a)); unfold mssL; omega
theorem bound_nonneg (a b : List Vc.Item) : 0 ≤ boundL a b := by have := mssL_bd a b; unfold boundL; omega
end Go.Proofs.Ytomklacppmaljaa

namespace Go.Proofs.Ytomklacppmaljaa
open Go.RowKit Go.Vc
theorem ei_81 : ∀ (w : World) (x y : Vc.Item), (Op.equalIn 10000 81 (.agg (Enc.enc x).toArray) (.agg (Enc.enc y).toArray)).run Try.prog w = .ok (decide (x = y)) w := fun w x y => equalIn_item 9998 Try.underlying81 Try.stoodInHeld81 (by decide) (by decide) (by decide) rfl rfl rfl Try.underlying3 Try.underlying9 Try.underlying3 ag_3 ag_9 ag_3 x y
theorem ktok : KeyLaw Try.prog 81 (fun x : Vc.Item => Value.agg (Enc.enc x).toArray) := key_item Try.underlying81 (by decide) (by decide) (by decide) rfl rfl rfl Try.underlying3 Try.underlying9 Try.underlying3 ag_3 ag_9 ag_3 ei_81

set_option maxHeartbeats 1000000 in
theorem bag_calls {aoa aob : Option Addr} {ba offa capa bb offb capb : Nat} {a b : List Vc.Item} {w0 : World} (ha : RowE w0 aoa ba offa capa a) (hb : RowE w0 aob bb offb capb b) (hqa : ∀ x ∈ a, x.text.length ≤ 140737488355328) (hqb : ∀ x ∈ b, x.text.length ≤ 140737488355328) (hsa : a.length ≤ 1000000) (hsb : b.length ≤ 1000000) :
    Calls Try.prog 54 #[.slice aoa a.length capa, .slice aob b.length capb] w0 fun e w' => e = .returned (.int .i64 (bagL a b)) ∧ Evo w0 w' [] := by
 refine calls_enter (n := 95) (args := [.slice aoa a.length capa, .slice aob b.length capb]) Try.func54 rfl Try.ntmps54 rfl ?_
 have hV : Evo w0 w0 [] := Evo.refl _ _
 have ha0 := keepE ha
 have hbd_ha := ha.bd
 have hb0 := keepE hb
 have hbd_hb := hb.bd
 refine r_seq ?_
 refine r_region ?_
 refine r_op rfl rfl rfl (run_asg (v := .int _ _) rfl (by exact rfl)) ?_
 refine r_nil ?_
 refine r_seq ?_
 refine r_region ?_
 refine r_makeMap (α := Vc.Item) (β := Int) (fun x : Vc.Item => Value.agg (Enc.enc x).toArray) (Value.int .i64) rfl ?_
 intro b1 w2 heb1 hEw2 hmb1 hzb1
 have hs_w2 := (hEw2).size
 replace hV := evo_step0 hV hEw2
 replace ha := ha0 _ hV
 replace hb := hb0 _ hV
 refine r_op rfl rfl rfl (run_asg (v := .map _) rfl (by exact rfl)) ?_
 refine r_nil ?_
 refine r_seq ?_
 refine r_seq ?_
 refine r_region ?_
 refine r_op rfl rfl rfl (run_mv (v := .slice _ _ _) rfl (by exact rfl)) ?_
 refine r_op rfl rfl rfl (run_lenSl rfl (by exact rfl) Try.underlying63) ?_
 refine r_op rfl rfl rfl (run_mv (v := .int _ _) rfl (by exact rfl)) ?_
 refine r_nil ?_
 refine r_block ?_
 refine r_loop (α := Nat) [7, 8, 9, 22, 23, 24, 25, 26, 27, 28, 29, 30, 31, 32, 33, 34, 35, 36, 37, 38] (fun k g w => ∃ m : List (Vc.Item × Int), g 22 = .int .i64 (k : Nat) ∧ k ≤ a.length ∧ MapIs w b1 (fun x : Vc.Item => Value.agg (Enc.enc x).toArray) (Value.int .i64) m ∧ CntM (clsL (a.take k)) (clsL []) m ∧ w2.heap.size ≤ w.heap.size ∧ Evo w0 w []) (fun k => a.length - k) 0 ?_ ?_
 ·refine ⟨_, (by first | exact rfl | exact congrArg (Value.int _) (by omega) | exact congrArg (Value.int _) (by dsimp only; omega) | exact congrArg (Value.int _) (by simp) | exact congrArg S (by simp)), (by first | assumption | omega | (dsimp only; omega) | (simp; done)), hmb1, CntM.nil, (by first | assumption | omega | (dsimp only; omega) | (simp; done)), hV⟩
 ·rintro k g w4 ⟨m, hj5, hk_k, hmb1, hmm, hzl3, hV⟩
  have hs_w4hV := hV.size
  have hlt6 := hmb1.lt
  replace ha := ha0 _ hV
  replace hb := hb0 _ hV
  refine r_know (i := 22) (v := .int .i64 (k : Nat)) (by exact hj5) ?_
  refine r_seq ?_
  refine r_region ?_
  refine r_op rfl rfl rfl (run_lss rfl (by exact rfl) (by exact rfl)) ?_
  refine r_nil ?_
  refine r_seq ?_
  refine r_cond (by exact rfl) (fun hc7 => ?_) (fun hc7 => ?_)
  ·skip
   refine r_skip ?_
   refine r_seq ?_
   refine r_block ?_
   refine r_seq ?_
   refine r_region ?_
   refine r_op rfl rfl rfl (run_ix (k) rfl Try.underlying63 ty_81 (by exact rfl) (by exact rfl) (by first | exact rfl | omega) (by omega) (ha.addr (i := k) (by omega))) ?_
   have hA80 := fun (w' : World) (h : Evo w0 w' []) => (ha0 w' h).atD (k) (by omega)
   have hA8 := hA80 _ hV
   refine r_op rfl rfl rfl (run_ldN rfl ag_81 ty_81 (by exact rfl) rfl hA8) ?_
   refine r_var (zs := [_, _, _]) (vs := [_, _, _]) ty_81 (by exact rfl) rfl (by exact rfl) (fun _ => rfl) (by exact rfl) rfl rfl (by exact rfl) ?_
   intro b9 w10 heb9 hEw10 hbb9 hzb9
   have hs_w10 := (hEw10).size
   replace hV := evo_step0 hV hEw10
   replace ha := ha0 _ hV
   replace hb := hb0 _ hV
   replace hmb1 := hmb1.evo0 hEw10
   have hAb9 := hbb9.at
   refine r_nil ?_
   refine r_seq ?_
   refine r_region ?_
   refine r_op rfl rfl rfl (run_ldN rfl ag_81 ty_81 (by exact rfl) rfl hAb9) ?_
   refine r_opcall rfl rfl rfl (run_callf (vs := [.agg _]) rfl (by exact rfl) Try.func97 rfl (by kernel_rfl)) (class2_calls ((hqa _ (getD_in (show k < a.length by omega))))) ?_
   rintro e w11 ⟨rfl, hE11⟩
   refine ⟨_, rfl, ?_⟩
   have hs_w11 := (hE11).size
   replace hV := evo_step0 hV hE11
   replace ha := ha0 _ hV
   replace hb := hb0 _ hV
   replace hmb1 := hmb1.evo0 hE11
   refine r_op rfl rfl rfl (run_mv (v := .tuple _) rfl (by exact rfl)) ?_
   refine r_op rfl rfl rfl (run_extract (v := .agg _) rfl (by exact rfl) (by exact rfl)) ?_
   refine r_op rfl rfl rfl (run_extract (v := .bool _) rfl (by exact rfl) (by exact rfl)) ?_
   refine r_var (zs := [_, _, _]) (vs := [_, _, _]) ty_81 (by exact rfl) rfl (by exact rfl) (fun _ => rfl) (by exact rfl) rfl rfl (by exact rfl) ?_
   intro b12 w13 heb12 hEw13 hbb12 hzb12
   have hs_w13 := (hEw13).size
   replace hV := evo_step0 hV hEw13
   replace ha := ha0 _ hV
   replace hb := hb0 _ hV
   replace hmb1 := hmb1.evo0 hEw13
   have hAb12 := hbb12.at
   refine r_op rfl rfl rfl (run_asg (v := .bool _) rfl (by exact rfl)) ?_
   refine r_nil ?_
   refine r_seq ?_
   refine r_region ?_
   refine r_op rfl rfl rfl (run_mv (v := .bool _) rfl (by exact rfl)) ?_
   refine r_nil ?_
   refine r_cond (by exact rfl) (fun hc14 => ?_) (fun hc14 => ?_)
   ·skip
    have hA9 := hmm.get (clV (a.getD k default)); have hB9 : (getM (setM m (clV (a.getD k default)) ((getM m (clV (a.getD k default))).getD 0)) (clV (a.getD k default))).getD 0 = (getM m (clV (a.getD k default))).getD 0 := by rw [getM_setM, if_pos rfl]; rfl
    have hl9 := List.count_le_length (a := (clV (a.getD k default))) (l := clsL (a.take k)); have hl8 := List.count_le_length (a := (clV (a.getD k default))) (l := clsL (([] : List Vc.Item))); have hk9 := cls_len (a.take k); have hk8 := cls_len (([] : List Vc.Item))
    have hz9 : (a.take k).length ≤ 1000000 := by first | omega | (simp; omega)
    have hz8 : (([] : List Vc.Item)).length ≤ 1000000 := by first | omega | (simp; omega) | simp
    refine r_cut [32, 33, 34, 35, 36, 37] (fun g w => ∃ m2 : List (Vc.Item × Int), MapIs w b1 (fun x : Vc.Item => Value.agg (Enc.enc x).toArray) (Value.int .i64) m2 ∧ Bump m m2 (clV (a.getD k default)) (1) ∧ w13.heap.size ≤ w.heap.size ∧ Evo w0 w []) ?_ ?_
    ·skip
     have hmb1_q := hmb1
     have hbb12_q := hbb12
     have hAb12_q := hAb12
     have hV_q := hV
     refine h_region ([b1]) (by kernel_rfl) ?_
     intro w16 hE17 hC18
     have hs_w16 := (hE17).size
     replace hV := evo_step0 hV hE17
     replace ha := ha0 _ hV
     replace hb := hb0 _ hV
     replace hmb1 := hmb1.evo0 hE17
     replace hbb12 := hbb12.evo0 hE17
     replace hAb12 := hAb12.evo0 hE17
     refine h_take (i := 0) (by exact rfl) rfl rfl rfl (by kernel_rfl) (fun w' hC => run_mv (v := .map _) rfl (by exact rfl)) hC18 ?_
     refine h_take (i := 1) (by exact rfl) rfl rfl rfl (by kernel_rfl) (fun w' hC => run_ldN rfl ag_81 ty_81 (by exact rfl) rfl (hAb12_q.evo hC (by simp; omega))) hC18 ?_
     refine h_two (i := 2) (j := 4) (by kernel_rfl) ?_ ?_
     ·skip
      refine h_do (by exact rfl) ?_
      refine r_op rfl rfl rfl (run_lookup1 (a := (clV (a.getD k default))) (z := 0) (v := .int _ _) ktok rfl Try.underlying140 ty_3 (by exact rfl) (by exact rfl) hmb1 rfl) ?_
      refine h_next hC18 ?_
      refine h_take (i := 3) (by exact rfl) rfl rfl rfl (by kernel_rfl) (fun w' hC => run_add rfl (by exact rfl) (by exact rfl) (by omega) (by omega)) hC18 ?_
      refine h_one (i := 4) (by kernel_rfl) ?_
      refine h_do (by exact rfl) ?_
      refine r_mapEntry (a := (clV (a.getD k default))) (z := 0) ktok rfl Try.underlying140 ty_3 (by exact rfl) (by exact rfl) hmb1 ?_
      intro s19 w19 hE19 hzw19 hm_new hst19
      have hs_w19 := (hE19).size
      replace hV := evo_step1 hV hE19 (by first | exact .inl (by omega) | exact .inr (by simp))
      replace hC18 := evo_step1 hC18 hE19 (by first | exact .inl (by omega) | exact .inr (by simp))
      replace ha := ha0 _ hV
      replace hb := hb0 _ hV
      replace hmb1 := hm_new
      clear hm_new
      refine h_next hC18 ?_
      refine h_take (i := 5) (by exact rfl) rfl rfl rfl (by kernel_rfl) (fun w' hC => run_extract (v := .int _ _) rfl (by exact rfl) (by exact rfl)) hC18 ?_
      refine h_one (i := 6) (by kernel_rfl) ?_
      refine h_do (by exact rfl) ?_
      refine r_entryStore (a := (clV (a.getD k default))) ktok (by exact rfl) (by exact rfl) (by exact rfl) hmb1 hst19 ?_
      intro w20 hE20 hzw20 hm_new
      have hs_w20 := (hE20).size
      replace hV := evo_step1 hV hE20 (by first | exact .inl (by omega) | exact .inr (by simp))
      replace ha := ha0 _ hV
      replace hb := hb0 _ hV
      replace hmb1 := hm_new
      clear hm_new
      refine h_last (by kernel_rfl) ?_
      refine h_done (by kernel_rfl) ?_
      refine r_cut_end ?_ ?_
      ·refine ⟨_, hmb1, (by first | exact bumpF (1) | exact bumpT (1)), (by first | assumption | omega | (dsimp only; omega) | (simp; done)), hV⟩
      ·repeat (first | (with_reducible exact Agree.merge _ _ _) | (with_reducible exact Agree.refl _ _) | (with_reducible refine Agree.upd ?_ _ _ rfl) | ((with_reducible refine Agree.inner ?_ ?_); (kernel_rfl)))
     ·skip
      refine h_do (by exact rfl) ?_
      refine r_mapEntry (a := (clV (a.getD k default))) (z := 0) ktok rfl Try.underlying140 ty_3 (by exact rfl) (by exact rfl) hmb1 ?_
      intro s21 w21 hE21 hzw21 hm_new hst21
      have hs_w21 := (hE21).size
      replace hV := evo_step1 hV hE21 (by first | exact .inl (by omega) | exact .inr (by simp))
      replace hC18 := evo_step1 hC18 hE21 (by first | exact .inl (by omega) | exact .inr (by simp))
      replace ha := ha0 _ hV
      replace hb := hb0 _ hV
      replace hbb12 := hbb12.evo hE21 (by simp; omega)
      replace hAb12 := hAb12.evo hE21 (by simp; omega)
      replace hmb1 := hm_new
      clear hm_new
      refine h_next hC18 ?_
      refine h_take (i := 5) (by exact rfl) rfl rfl rfl (by kernel_rfl) (fun w' hC => run_extract (v := .int _ _) rfl (by exact rfl) (by exact rfl)) hC18 ?_
      refine h_one (i := 2) (by kernel_rfl) ?_
      refine h_do (by exact rfl) ?_
      refine r_op rfl rfl rfl (run_lookup1 (a := (clV (a.getD k default))) (z := 0) (v := .int _ _) ktok rfl Try.underlying140 ty_3 (by exact rfl) (by exact rfl) hmb1 rfl) ?_
      refine h_next hC18 ?_
      refine h_take (i := 3) (by exact rfl) rfl rfl rfl (by kernel_rfl) (fun w' hC => run_add rfl (by exact rfl) (by exact rfl) (by omega) (by omega)) hC18 ?_
      refine h_one (i := 6) (by kernel_rfl) ?_
      refine h_do (by exact rfl) ?_
      refine r_entryStore (a := (clV (a.getD k default))) ktok (by exact rfl) (by exact rfl) (by exact rfl) hmb1 hst21 ?_
      intro w22 hE22 hzw22 hm_new
      have hs_w22 := (hE22).size
      replace hV := evo_step1 hV hE22 (by first | exact .inl (by omega) | exact .inr (by simp))
      replace ha := ha0 _ hV
      replace hb := hb0 _ hV
      replace hmb1 := hm_new
      clear hm_new
      refine h_last (by kernel_rfl) ?_
      refine h_done (by kernel_rfl) ?_
      refine r_cut_end ?_ ?_
      ·refine ⟨_, hmb1, (by first | exact bumpF (1) | exact bumpT (1)), (by first | assumption | omega | (dsimp only; omega) | (simp; done)), hV⟩
      ·repeat (first | (with_reducible exact Agree.merge _ _ _) | (with_reducible exact Agree.refl _ _) | (with_reducible refine Agree.upd ?_ _ _ rfl) | ((with_reducible refine Agree.inner ?_ ?_); (kernel_rfl)))
    ·rintro g w23 ⟨m2, hmb1, hm2, hzl15, hV⟩
     have hs_w23hV := hV.size
     have hlt24 := hmb1.lt
     replace ha := ha0 _ hV
     replace hb := hb0 _ hV
     replace hA8 := hA80 _ hV
     refine r_blk ?_
     refine r_region ?_
     refine r_op rfl rfl rfl (run_add rfl (by exact rfl) (by exact rfl) (by omega) (by omega)) ?_
     refine r_op rfl rfl rfl (run_mv (v := .int _ _) rfl (by exact rfl)) ?_
     refine r_nil ?_
     refine r_again (k + 1) ?_ ?_ ?_
     ·first | omega | (dsimp only; omega)
     ·refine ⟨_, (by first | exact rfl | exact congrArg (Value.int _) (by omega) | exact congrArg (Value.int _) (by dsimp only; omega) | exact congrArg (Value.int _) (by simp) | exact congrArg S (by simp)), (by first | assumption | omega | (dsimp only; omega) | (simp; done)), hmb1, (by first | (rw [cls_yes (by omega) hc14]; exact hmm.inc hm2) | (rw [cls_no (by omega) hc14]; exact hmm)), (by first | assumption | omega | (dsimp only; omega) | (simp; done)), hV⟩
     ·repeat (first | (with_reducible exact Agree.merge _ _ _) | (with_reducible exact Agree.refl _ _) | (with_reducible refine Agree.upd ?_ _ _ rfl) | ((with_reducible refine Agree.inner ?_ ?_); (kernel_rfl)))
   ·skip
    refine r_skip ?_
    refine r_blk ?_
    refine r_region ?_
    refine r_op rfl rfl rfl (run_add rfl (by exact rfl) (by exact rfl) (by omega) (by omega)) ?_
    refine r_op rfl rfl rfl (run_mv (v := .int _ _) rfl (by exact rfl)) ?_
    refine r_nil ?_
    refine r_again (k + 1) ?_ ?_ ?_
    ·first | omega | (dsimp only; omega)
    ·refine ⟨_, (by first | exact rfl | exact congrArg (Value.int _) (by omega) | exact congrArg (Value.int _) (by dsimp only; omega) | exact congrArg (Value.int _) (by simp) | exact congrArg S (by simp)), (by first | assumption | omega | (dsimp only; omega) | (simp; done)), hmb1, (by first | (rw [cls_yes (by omega) hc14]; exact hmm.inc hm2) | (rw [cls_no (by omega) hc14]; exact hmm)), (by first | assumption | omega | (dsimp only; omega) | (simp; done)), hV⟩
    ·repeat (first | (with_reducible exact Agree.merge _ _ _) | (with_reducible exact Agree.refl _ _) | (with_reducible refine Agree.upd ?_ _ _ rfl) | ((with_reducible refine Agree.inner ?_ ?_); (kernel_rfl)))
  ·skip
   refine r_exit rfl ?_
   refine r_seq ?_
   refine r_seq ?_
   refine r_region ?_
   refine r_op rfl rfl rfl (run_mv (v := .slice _ _ _) rfl (by exact rfl)) ?_
   refine r_op rfl rfl rfl (run_lenSl rfl (by exact rfl) Try.underlying63) ?_
   refine r_op rfl rfl rfl (run_mv (v := .int _ _) rfl (by exact rfl)) ?_
   refine r_nil ?_
   refine r_block ?_
   refine r_loop (α := Nat) [11, 12, 13, 41, 42, 43, 44, 45, 46, 47, 48, 49, 50, 51, 52, 53, 54, 55, 56, 57] (fun k g w => ∃ m : List (Vc.Item × Int), g 41 = .int .i64 (k : Nat) ∧ k ≤ b.length ∧ MapIs w b1 (fun x : Vc.Item => Value.agg (Enc.enc x).toArray) (Value.int .i64) m ∧ CntM (clsL a) (clsL (b.take k)) m ∧ w4.heap.size ≤ w.heap.size ∧ Evo w0 w []) (fun k => b.length - k) 0 ?_ ?_
   ·refine ⟨_, (by first | exact rfl | exact congrArg (Value.int _) (by omega) | exact congrArg (Value.int _) (by dsimp only; omega) | exact congrArg (Value.int _) (by simp) | exact congrArg S (by simp)), (by first | assumption | omega | (dsimp only; omega) | (simp; done)), hmb1, (by have h9 := hmm; rw [List.take_of_length_le (by omega)] at h9; exact h9), (by first | assumption | omega | (dsimp only; omega) | (simp; done)), hV⟩
   ·rintro k g w26 ⟨m, hj27, hk_k, hmb1, hmm, hzl25, hV⟩
    have hs_w26hV := hV.size
    have hlt28 := hmb1.lt
    replace ha := ha0 _ hV
    replace hb := hb0 _ hV
    refine r_know (i := 41) (v := .int .i64 (k : Nat)) (by exact hj27) ?_
    refine r_seq ?_
    refine r_region ?_
    refine r_op rfl rfl rfl (run_lss rfl (by exact rfl) (by exact rfl)) ?_
    refine r_nil ?_
    refine r_seq ?_
    refine r_cond (by exact rfl) (fun hc29 => ?_) (fun hc29 => ?_)
    ·skip
     refine r_skip ?_
     refine r_seq ?_
     refine r_block ?_
     refine r_seq ?_
     refine r_region ?_
     refine r_op rfl rfl rfl (run_ix (k) rfl Try.underlying63 ty_81 (by exact rfl) (by exact rfl) (by first | exact rfl | omega) (by omega) (hb.addr (i := k) (by omega))) ?_
     have hA300 := fun (w' : World) (h : Evo w0 w' []) => (hb0 w' h).atD (k) (by omega)
     have hA30 := hA300 _ hV
     refine r_op rfl rfl rfl (run_ldN rfl ag_81 ty_81 (by exact rfl) rfl hA30) ?_
     refine r_var (zs := [_, _, _]) (vs := [_, _, _]) ty_81 (by exact rfl) rfl (by exact rfl) (fun _ => rfl) (by exact rfl) rfl rfl (by exact rfl) ?_
     intro b31 w32 heb31 hEw32 hbb31 hzb31
     have hs_w32 := (hEw32).size
     replace hV := evo_step0 hV hEw32
     replace ha := ha0 _ hV
     replace hb := hb0 _ hV
     replace hmb1 := hmb1.evo0 hEw32
     have hAb31 := hbb31.at
     refine r_nil ?_
     refine r_seq ?_
     refine r_region ?_
     refine r_op rfl rfl rfl (run_ldN rfl ag_81 ty_81 (by exact rfl) rfl hAb31) ?_
     refine r_opcall rfl rfl rfl (run_callf (vs := [.agg _]) rfl (by exact rfl) Try.func97 rfl (by kernel_rfl)) (class2_calls ((hqb _ (getD_in (show k < b.length by omega))))) ?_
     rintro e w33 ⟨rfl, hE33⟩
     refine ⟨_, rfl, ?_⟩
     have hs_w33 := (hE33).size
     replace hV := evo_step0 hV hE33
     replace ha := ha0 _ hV
     replace hb := hb0 _ hV
     replace hmb1 := hmb1.evo0 hE33
     refine r_op rfl rfl rfl (run_mv (v := .tuple _) rfl (by exact rfl)) ?_
     refine r_op rfl rfl rfl (run_extract (v := .agg _) rfl (by exact rfl) (by exact rfl)) ?_
     refine r_op rfl rfl rfl (run_extract (v := .bool _) rfl (by exact rfl) (by exact rfl)) ?_
     refine r_var (zs := [_, _, _]) (vs := [_, _, _]) ty_81 (by exact rfl) rfl (by exact rfl) (fun _ => rfl) (by exact rfl) rfl rfl (by exact rfl) ?_
     intro b34 w35 heb34 hEw35 hbb34 hzb34
     have hs_w35 := (hEw35).size
     replace hV := evo_step0 hV hEw35
     replace ha := ha0 _ hV
     replace hb := hb0 _ hV
     replace hmb1 := hmb1.evo0 hEw35
     have hAb34 := hbb34.at
     refine r_op rfl rfl rfl (run_asg (v := .bool _) rfl (by exact rfl)) ?_
     refine r_nil ?_
     refine r_seq ?_
     refine r_region ?_
     refine r_op rfl rfl rfl (run_mv (v := .bool _) rfl (by exact rfl)) ?_
     refine r_nil ?_
     refine r_cond (by exact rfl) (fun hc36 => ?_) (fun hc36 => ?_)
     ·skip
      have hA9 := hmm.get (clV (b.getD k default)); have hB9 : (getM (setM m (clV (b.getD k default)) ((getM m (clV (b.getD k default))).getD 0)) (clV (b.getD k default))).getD 0 = (getM m (clV (b.getD k default))).getD 0 := by rw [getM_setM, if_pos rfl]; rfl
      have hl9 := List.count_le_length (a := (clV (b.getD k default))) (l := clsL (a)); have hl8 := List.count_le_length (a := (clV (b.getD k default))) (l := clsL (b.take k)); have hk9 := cls_len (a); have hk8 := cls_len (b.take k)
      have hz9 : (a).length ≤ 1000000 := by first | omega | (simp; omega)
      have hz8 : (b.take k).length ≤ 1000000 := by first | omega | (simp; omega) | simp
      refine r_cut [51, 52, 53, 54, 55, 56] (fun g w => ∃ m2 : List (Vc.Item × Int), MapIs w b1 (fun x : Vc.Item => Value.agg (Enc.enc x).toArray) (Value.int .i64) m2 ∧ Bump m m2 (clV (b.getD k default)) (-1) ∧ w35.heap.size ≤ w.heap.size ∧ Evo w0 w []) ?_ ?_
      ·skip
       have hmb1_q := hmb1
       have hbb34_q := hbb34
       have hAb34_q := hAb34
       have hV_q := hV
       refine h_region ([b1]) (by kernel_rfl) ?_
       intro w38 hE39 hC40
       have hs_w38 := (hE39).size
       replace hV := evo_step0 hV hE39
       replace ha := ha0 _ hV
       replace hb := hb0 _ hV
       replace hmb1 := hmb1.evo0 hE39
       replace hbb34 := hbb34.evo0 hE39
       replace hAb34 := hAb34.evo0 hE39
       refine h_take (i := 0) (by exact rfl) rfl rfl rfl (by kernel_rfl) (fun w' hC => run_mv (v := .map _) rfl (by exact rfl)) hC40 ?_
       refine h_take (i := 1) (by exact rfl) rfl rfl rfl (by kernel_rfl) (fun w' hC => run_ldN rfl ag_81 ty_81 (by exact rfl) rfl (hAb34_q.evo hC (by simp; omega))) hC40 ?_
       refine h_two (i := 2) (j := 4) (by kernel_rfl) ?_ ?_
       ·skip
        refine h_do (by exact rfl) ?_
        refine r_op rfl rfl rfl (run_lookup1 (a := (clV (b.getD k default))) (z := 0) (v := .int _ _) ktok rfl Try.underlying140 ty_3 (by exact rfl) (by exact rfl) hmb1 rfl) ?_
        refine h_next hC40 ?_
        refine h_take (i := 3) (by exact rfl) rfl rfl rfl (by kernel_rfl) (fun w' hC => run_sub rfl (by exact rfl) (by exact rfl) (by omega) (by omega)) hC40 ?_
        refine h_one (i := 4) (by kernel_rfl) ?_
        refine h_do (by exact rfl) ?_
        refine r_mapEntry (a := (clV (b.getD k default))) (z := 0) ktok rfl Try.underlying140 ty_3 (by exact rfl) (by exact rfl) hmb1 ?_
        intro s41 w41 hE41 hzw41 hm_new hst41
        have hs_w41 := (hE41).size
        replace hV := evo_step1 hV hE41 (by first | exact .inl (by omega) | exact .inr (by simp))
        replace hC40 := evo_step1 hC40 hE41 (by first | exact .inl (by omega) | exact .inr (by simp))
        replace ha := ha0 _ hV
        replace hb := hb0 _ hV
        replace hmb1 := hm_new
        clear hm_new
        refine h_next hC40 ?_
        refine h_take (i := 5) (by exact rfl) rfl rfl rfl (by kernel_rfl) (fun w' hC => run_extract (v := .int _ _) rfl (by exact rfl) (by exact rfl)) hC40 ?_
        refine h_one (i := 6) (by kernel_rfl) ?_
        refine h_do (by exact rfl) ?_
        refine r_entryStore (a := (clV (b.getD k default))) ktok (by exact rfl) (by exact rfl) (by exact rfl) hmb1 hst41 ?_
        intro w42 hE42 hzw42 hm_new
        have hs_w42 := (hE42).size
        replace hV := evo_step1 hV hE42 (by first | exact .inl (by omega) | exact .inr (by simp))
        replace ha := ha0 _ hV
        replace hb := hb0 _ hV
        replace hmb1 := hm_new
        clear hm_new
        refine h_last (by kernel_rfl) ?_
        refine h_done (by kernel_rfl) ?_
        refine r_cut_end ?_ ?_
        ·refine ⟨_, hmb1, (by first | exact bumpF (-1) | exact bumpT (-1)), (by first | assumption | omega | (dsimp only; omega) | (simp; done)), hV⟩
        ·repeat (first | (with_reducible exact Agree.merge _ _ _) | (with_reducible exact Agree.refl _ _) | (with_reducible refine Agree.upd ?_ _ _ rfl) | ((with_reducible refine Agree.inner ?_ ?_); (kernel_rfl)))
       ·skip
        refine h_do (by exact rfl) ?_
        refine r_mapEntry (a := (clV (b.getD k default))) (z := 0) ktok rfl Try.underlying140 ty_3 (by exact rfl) (by exact rfl) hmb1 ?_
        intro s43 w43 hE43 hzw43 hm_new hst43
        have hs_w43 := (hE43).size
        replace hV := evo_step1 hV hE43 (by first | exact .inl (by omega) | exact .inr (by simp))
        replace hC40 := evo_step1 hC40 hE43 (by first | exact .inl (by omega) | exact .inr (by simp))
        replace ha := ha0 _ hV
        replace hb := hb0 _ hV
        replace hbb34 := hbb34.evo hE43 (by simp; omega)
        replace hAb34 := hAb34.evo hE43 (by simp; omega)
        replace hmb1 := hm_new
        clear hm_new
        refine h_next hC40 ?_
        refine h_take (i := 5) (by exact rfl) rfl rfl rfl (by kernel_rfl) (fun w' hC => run_extract (v := .int _ _) rfl (by exact rfl) (by exact rfl)) hC40 ?_
        refine h_one (i := 2) (by kernel_rfl) ?_
        refine h_do (by exact rfl) ?_
        refine r_op rfl rfl rfl (run_lookup1 (a := (clV (b.getD k default))) (z := 0) (v := .int _ _) ktok rfl Try.underlying140 ty_3 (by exact rfl) (by exact rfl) hmb1 rfl) ?_
        refine h_next hC40 ?_
        refine h_take (i := 3) (by exact rfl) rfl rfl rfl (by kernel_rfl) (fun w' hC => run_sub rfl (by exact rfl) (by exact rfl) (by omega) (by omega)) hC40 ?_
        refine h_one (i := 6) (by kernel_rfl) ?_
        refine h_do (by exact rfl) ?_
        refine r_entryStore (a := (clV (b.getD k default))) ktok (by exact rfl) (by exact rfl) (by exact rfl) hmb1 hst43 ?_
        intro w44 hE44 hzw44 hm_new
        have hs_w44 := (hE44).size
        replace hV := evo_step1 hV hE44 (by first | exact .inl (by omega) | exact .inr (by simp))
        replace ha := ha0 _ hV
        replace hb := hb0 _ hV
        replace hmb1 := hm_new
        clear hm_new
        refine h_last (by kernel_rfl) ?_
        refine h_done (by kernel_rfl) ?_
        refine r_cut_end ?_ ?_
        ·refine ⟨_, hmb1, (by first | exact bumpF (-1) | exact bumpT (-1)), (by first | assumption | omega | (dsimp only; omega) | (simp; done)), hV⟩
        ·repeat (first | (with_reducible exact Agree.merge _ _ _) | (with_reducible exact Agree.refl _ _) | (with_reducible refine Agree.upd ?_ _ _ rfl) | ((with_reducible refine Agree.inner ?_ ?_); (kernel_rfl)))
      ·rintro g w45 ⟨m2, hmb1, hm2, hzl37, hV⟩
       have hs_w45hV := hV.size
       have hlt46 := hmb1.lt
       replace ha := ha0 _ hV
       replace hb := hb0 _ hV
       replace hA30 := hA300 _ hV
       refine r_blk ?_
       refine r_region ?_
       refine r_op rfl rfl rfl (run_add rfl (by exact rfl) (by exact rfl) (by omega) (by omega)) ?_
       refine r_op rfl rfl rfl (run_mv (v := .int _ _) rfl (by exact rfl)) ?_
       refine r_nil ?_
       refine r_again (k + 1) ?_ ?_ ?_
       ·first | omega | (dsimp only; omega)
       ·refine ⟨_, (by first | exact rfl | exact congrArg (Value.int _) (by omega) | exact congrArg (Value.int _) (by dsimp only; omega) | exact congrArg (Value.int _) (by simp) | exact congrArg S (by simp)), (by first | assumption | omega | (dsimp only; omega) | (simp; done)), hmb1, (by first | (rw [cls_yes (by omega) hc36]; exact hmm.dec hm2) | (rw [cls_no (by omega) hc36]; exact hmm)), (by first | assumption | omega | (dsimp only; omega) | (simp; done)), hV⟩
       ·repeat (first | (with_reducible exact Agree.merge _ _ _) | (with_reducible exact Agree.refl _ _) | (with_reducible refine Agree.upd ?_ _ _ rfl) | ((with_reducible refine Agree.inner ?_ ?_); (kernel_rfl)))
     ·skip
      refine r_skip ?_
      refine r_blk ?_
      refine r_region ?_
      refine r_op rfl rfl rfl (run_add rfl (by exact rfl) (by exact rfl) (by omega) (by omega)) ?_
      refine r_op rfl rfl rfl (run_mv (v := .int _ _) rfl (by exact rfl)) ?_
      refine r_nil ?_
      refine r_again (k + 1) ?_ ?_ ?_
      ·first | omega | (dsimp only; omega)
      ·refine ⟨_, (by first | exact rfl | exact congrArg (Value.int _) (by omega) | exact congrArg (Value.int _) (by dsimp only; omega) | exact congrArg (Value.int _) (by simp) | exact congrArg S (by simp)), (by first | assumption | omega | (dsimp only; omega) | (simp; done)), hmb1, (by first | (rw [cls_yes (by omega) hc36]; exact hmm.dec hm2) | (rw [cls_no (by omega) hc36]; exact hmm)), (by first | assumption | omega | (dsimp only; omega) | (simp; done)), hV⟩
      ·repeat (first | (with_reducible exact Agree.merge _ _ _) | (with_reducible exact Agree.refl _ _) | (with_reducible refine Agree.upd ?_ _ _ rfl) | ((with_reducible refine Agree.inner ?_ ?_); (kernel_rfl)))
    ·skip
     refine r_exit rfl ?_
     refine r_seq ?_
     refine r_region ?_
     refine r_op rfl rfl rfl (run_asg (v := .int _ _) rfl (by exact rfl)) ?_
     refine r_op rfl rfl rfl (run_asg (v := .int _ _) rfl (by exact rfl)) ?_
     refine r_op rfl rfl rfl (run_asg (v := .int _ _) rfl (by exact rfl)) ?_
     refine r_nil ?_
     refine r_seq ?_
     refine r_seq ?_
     refine r_region ?_
     refine r_op rfl rfl rfl (run_mv (v := .map _) rfl (by exact rfl)) ?_
     refine r_range rfl Try.underlying140 (by exact rfl) hmb1 ?_
     intro r47 w48 her47 hEw48 hir47 hzr47
     have hs_w48 := (hEw48).size
     replace hV := evo_step0 hV hEw48
     replace ha := ha0 _ hV
     replace hb := hb0 _ hV
     replace hmb1 := hmb1.evo0 hEw48
     refine r_nil ?_
     refine r_block ?_
     have hmf : CntM (clsL a) (clsL b) m := by have h9 := hmm; rw [List.take_of_length_le (by omega)] at h9; exact h9
     have hmn := hir47.map.nodup; have hilt := hir47.lt; have hmlen := hmf.len hmn
     refine r_loop (α := List (Vc.Item × Int)) [14, 15, 16, 17, 18, 60, 61, 62, 63, 64, 65, 66, 67, 68, 69, 70, 71, 72, 73, 74, 75, 76, 77, 78, 79, 80, 81, 82, 83, 84, 85, 86, 87, 88, 89] (fun left g w => ∃ la : Option (Vc.Item × Int), ∃ dn : List (Vc.Item × Int), g 14 = .int .i64 (upS dn) ∧ g 15 = .int .i64 (dnS dn) ∧ g 16 = .int .i64 (tgS dn) ∧ IterIs w r47 b1 (fun x : Vc.Item => Value.agg (Enc.enc x).toArray) (Value.int .i64) m left la ∧ (dn ++ left).Perm m ∧ w0.heap.size ≤ r47 ∧ w48.heap.size ≤ w.heap.size ∧ Evo w0 w []) (fun left => left.length) m ?_ ?_
     ·refine ⟨_, [], rfl, rfl, rfl, hir47, (by simp), (by first | assumption | omega | (dsimp only; omega) | (simp; done)), (by first | assumption | omega | (dsimp only; omega) | (simp; done)), hV⟩
     ·rintro left g w50 ⟨la, dn, hj51, hj52, hj53, hir47, hpm, hrl, hzl49, hV⟩
      have hs_w50hV := hV.size
      replace ha := ha0 _ hV
      replace hb := hb0 _ hV
      refine r_know (i := 14) (v := .int .i64 (upS dn)) (by exact hj51) ?_
      refine r_know (i := 15) (v := .int .i64 (dnS dn)) (by exact hj52) ?_
      refine r_know (i := 16) (v := .int .i64 (tgS dn)) (by exact hj53) ?_
      have hdl := hpm.length_eq
      rw [List.length_append] at hdl
      have hbb := bag_bd (d := dn) (m := m) (by omega) (by omega) (fun q hq => hmf.vbd hmn (by omega) (by omega) (hpm.mem_iff.1 (List.mem_append_left _ hq)))
      refine r_seq ?_
      refine r_region ?_
      refine r_next rfl (by exact rfl) hir47 (fun hn54 => ?_) (fun l1_54 p54 l2_54 w54 hl54 hE54 hz54 hi_new => ?_)
      ·skip
       subst hn54
       refine r_op rfl rfl rfl (run_extract (v := .bool _) rfl (by exact rfl) (by exact rfl)) ?_
       refine r_nil ?_
       refine r_seq ?_
       refine r_cond_no (by exact rfl) ?_
       refine r_exit rfl ?_
       refine r_seq ?_
       refine r_region ?_
       refine r_op rfl rfl rfl (run_mv (v := .int _ _) rfl (by exact rfl)) ?_
       refine r_op rfl rfl rfl (run_mv (v := .int _ _) rfl (by exact rfl)) ?_
       refine r_op rfl rfl rfl (run_max rfl (by exact rfl) (by exact rfl)) ?_
       refine r_op rfl rfl rfl (run_mv (v := .int _ _) rfl (by exact rfl)) ?_
       refine r_op rfl rfl rfl (run_add rfl (by exact rfl) (by exact rfl) (by omega) (by omega)) ?_
       refine r_op rfl rfl rfl (run_asg (v := .int _ _) rfl (by exact rfl)) ?_
       refine r_nil ?_
       refine r_ret (res1 (v := .int _ _) rfl (by exact rfl)) ?_
       exact ⟨ret_int (bag_done hmf hmn (by simpa using hpm)), hV⟩
      ·skip
       have hs_w54 := (hE54).size
       replace hV := evo_step1 hV hE54 (by first | exact .inl (by omega) | exact .inr (by simp))
       replace ha := ha0 _ hV
       replace hb := hb0 _ hV
       replace hir47 := hi_new
       clear hi_new
       refine r_op rfl rfl rfl (run_extract (v := .bool _) rfl (by exact rfl) (by exact rfl)) ?_
       refine r_nil ?_
       refine r_seq ?_
       refine r_cond_yes (by exact rfl) ?_
       refine r_skip ?_
       refine r_block ?_
       refine r_seq ?_
       refine r_region ?_
       refine r_op rfl rfl rfl (run_entryI rfl (by exact rfl) hir47) ?_
       refine r_op rfl rfl rfl (run_extract (v := .agg _) rfl (by exact rfl) (by exact rfl)) ?_
       refine r_op rfl rfl rfl (run_extract (v := .int _ _) rfl (by exact rfl) (by exact rfl)) ?_
       refine r_var (zs := [_, _, _]) (vs := [_, _, _]) ty_81 (by exact rfl) rfl (by exact rfl) (fun _ => rfl) (by exact rfl) rfl rfl (by exact rfl) ?_
       intro b55 w56 heb55 hEw56 hbb55 hzb55
       have hs_w56 := (hEw56).size
       replace hV := evo_step0 hV hEw56
       replace ha := ha0 _ hV
       replace hb := hb0 _ hV
       replace hir47 := hir47.evo0 hEw56
       have hAb55 := hbb55.at
       refine r_op rfl rfl rfl (run_asg (v := .int _ _) rfl (by exact rfl)) ?_
       refine r_nil ?_
       refine r_block ?_
       refine r_seq ?_
       have hpv := hmf.vbd hmn (by omega) (by omega) (q := p54) (hpm.mem_iff.1 (List.mem_append_right _ (by rw [hl54]; simp))); have hmw := mulw_bd (k := p54.1.kind) hpv
       refine r_region ?_
       refine r_op rfl rfl rfl (run_ldN rfl ag_81 ty_81 (by exact rfl) rfl hAb55) ?_
       refine r_opcall rfl rfl rfl (run_callf (vs := [.agg _]) rfl (by exact rfl) Try.func98 rfl (by kernel_rfl)) (sgtag_calls ) ?_
       rintro e w57 ⟨rfl, hE57⟩
       refine ⟨_, rfl, ?_⟩
       have hs_w57 := (hE57).size
       replace hV := evo_step0 hV hE57
       replace ha := ha0 _ hV
       replace hb := hb0 _ hV
       replace hir47 := hir47.evo0 hE57
       replace hbb55 := hbb55.evo0 hE57
       replace hAb55 := hAb55.evo0 hE57
       refine r_op rfl rfl rfl (run_asg (v := .bool _) rfl (by exact rfl)) ?_
       refine r_nil ?_
       refine r_cond (by exact rfl) (fun hc58 => ?_) (fun hc58 => ?_)
       ·skip
        refine r_region ?_
        refine r_op rfl rfl rfl (run_mv (v := .int _ _) rfl (by exact rfl)) ?_
        refine r_op rfl rfl rfl (run_mv (v := .int _ _) rfl (by exact rfl)) ?_
        refine r_op rfl rfl rfl (run_mv (v := .int _ _) rfl (by exact rfl)) ?_
        refine r_op rfl rfl rfl (run_neg rfl (by exact rfl) (by omega) (by omega)) ?_
        refine r_op rfl rfl rfl (run_max rfl (by exact rfl) (by exact rfl)) ?_
        refine r_op rfl rfl rfl (run_mul rfl (by exact rfl) (by exact rfl) (by omega) (by omega)) ?_
        refine r_op rfl rfl rfl (run_add rfl (by exact rfl) (by exact rfl) (by omega) (by omega)) ?_
        refine r_op rfl rfl rfl (run_asg (v := .int _ _) rfl (by exact rfl)) ?_
        refine r_nil ?_
        refine r_blk ?_
        refine r_blk ?_
        refine r_again (l1_54 ++ l2_54) ?_ ?_ ?_
        ·rw [hl54]; simp
        ·refine ⟨_, (dn ++ [p54]), (congrArg (Value.int _) (by first | exact (bag_tag (by assumption)).1.symm | exact (bag_up (by assumption) (by omega)).1.symm | exact (bag_dn (by assumption) (by omega)).1.symm)), (congrArg (Value.int _) (by first | exact (bag_tag (by assumption)).2.1.symm | exact (bag_up (by assumption) (by omega)).2.1.symm | exact (bag_dn (by assumption) (by omega)).2.1.symm)), (congrArg (Value.int _) (by first | exact (bag_tag (by assumption)).2.2.symm | exact (bag_up (by assumption) (by omega)).2.2.symm | exact (bag_dn (by assumption) (by omega)).2.2.symm)), hir47, (by rw [hl54] at hpm; have h9 := perm_step (f := id) (g := dn) (x := p54) (m := m) (by rw [List.map_id]; exact hpm) rfl; rw [List.map_id] at h9; exact h9), (by first | assumption | omega | (dsimp only; omega) | (simp; done)), (by first | assumption | omega | (dsimp only; omega) | (simp; done)), hV⟩
        ·repeat (first | (with_reducible exact Agree.merge _ _ _) | (with_reducible exact Agree.refl _ _) | (with_reducible refine Agree.upd ?_ _ _ rfl) | ((with_reducible refine Agree.inner ?_ ?_); (kernel_rfl)))
       ·skip
        refine r_seq ?_
        refine r_region ?_
        refine r_op rfl rfl rfl (run_mv (v := .int _ _) rfl (by exact rfl)) ?_
        refine r_op rfl rfl rfl (run_gtr rfl (by exact rfl) (by exact rfl)) ?_
        refine r_op rfl rfl rfl (run_asg (v := .bool _) rfl (by exact rfl)) ?_
        refine r_nil ?_
        refine r_cond (by exact rfl) (fun hc59 => ?_) (fun hc59 => ?_)
        ·skip
         refine r_region ?_
         refine r_op rfl rfl rfl (run_mv (v := .int _ _) rfl (by exact rfl)) ?_
         refine r_op rfl rfl rfl (run_mv (v := .int _ _) rfl (by exact rfl)) ?_
         refine r_op rfl rfl rfl (run_ldN rfl ag_81 ty_81 (by exact rfl) rfl hAb55) ?_
         refine r_opcall rfl rfl rfl (run_callf (vs := [.agg _]) rfl (by exact rfl) Try.func99 rfl (by kernel_rfl)) (weight_calls ) ?_
         rintro e w60 ⟨rfl, hE60⟩
         refine ⟨_, rfl, ?_⟩
         have hs_w60 := (hE60).size
         replace hV := evo_step0 hV hE60
         replace ha := ha0 _ hV
         replace hb := hb0 _ hV
         replace hir47 := hir47.evo0 hE60
         refine r_op rfl rfl rfl (run_mul rfl (by exact rfl) (by exact rfl) (by omega) (by omega)) ?_
         refine r_op rfl rfl rfl (run_add rfl (by exact rfl) (by exact rfl) (by omega) (by omega)) ?_
         refine r_op rfl rfl rfl (run_asg (v := .int _ _) rfl (by exact rfl)) ?_
         refine r_nil ?_
         refine r_blk ?_
         refine r_blk ?_
         refine r_again (l1_54 ++ l2_54) ?_ ?_ ?_
         ·rw [hl54]; simp
         ·refine ⟨_, (dn ++ [p54]), (congrArg (Value.int _) (by first | exact (bag_tag (by assumption)).1.symm | exact (bag_up (by assumption) (by omega)).1.symm | exact (bag_dn (by assumption) (by omega)).1.symm)), (congrArg (Value.int _) (by first | exact (bag_tag (by assumption)).2.1.symm | exact (bag_up (by assumption) (by omega)).2.1.symm | exact (bag_dn (by assumption) (by omega)).2.1.symm)), (congrArg (Value.int _) (by first | exact (bag_tag (by assumption)).2.2.symm | exact (bag_up (by assumption) (by omega)).2.2.symm | exact (bag_dn (by assumption) (by omega)).2.2.symm)), hir47, (by rw [hl54] at hpm; have h9 := perm_step (f := id) (g := dn) (x := p54) (m := m) (by rw [List.map_id]; exact hpm) rfl; rw [List.map_id] at h9; exact h9), (by first | assumption | omega | (dsimp only; omega) | (simp; done)), (by first | assumption | omega | (dsimp only; omega) | (simp; done)), hV⟩
         ·repeat (first | (with_reducible exact Agree.merge _ _ _) | (with_reducible exact Agree.refl _ _) | (with_reducible refine Agree.upd ?_ _ _ rfl) | ((with_reducible refine Agree.inner ?_ ?_); (kernel_rfl)))
        ·skip
         refine r_region ?_
         refine r_op rfl rfl rfl (run_mv (v := .int _ _) rfl (by exact rfl)) ?_
         refine r_op rfl rfl rfl (run_mv (v := .int _ _) rfl (by exact rfl)) ?_
         refine r_op rfl rfl rfl (run_ldN rfl ag_81 ty_81 (by exact rfl) rfl hAb55) ?_
         refine r_opcall rfl rfl rfl (run_callf (vs := [.agg _]) rfl (by exact rfl) Try.func99 rfl (by kernel_rfl)) (weight_calls ) ?_
         rintro e w61 ⟨rfl, hE61⟩
         refine ⟨_, rfl, ?_⟩
         have hs_w61 := (hE61).size
         replace hV := evo_step0 hV hE61
         replace ha := ha0 _ hV
         replace hb := hb0 _ hV
         replace hir47 := hir47.evo0 hE61
         refine r_op rfl rfl rfl (run_mul rfl (by exact rfl) (by exact rfl) (by omega) (by omega)) ?_
         refine r_op rfl rfl rfl (run_sub rfl (by exact rfl) (by exact rfl) (by omega) (by omega)) ?_
         refine r_op rfl rfl rfl (run_asg (v := .int _ _) rfl (by exact rfl)) ?_
         refine r_nil ?_
         refine r_blk ?_
         refine r_blk ?_
         refine r_again (l1_54 ++ l2_54) ?_ ?_ ?_
         ·rw [hl54]; simp
         ·refine ⟨_, (dn ++ [p54]), (congrArg (Value.int _) (by first | exact (bag_tag (by assumption)).1.symm | exact (bag_up (by assumption) (by omega)).1.symm | exact (bag_dn (by assumption) (by omega)).1.symm)), (congrArg (Value.int _) (by first | exact (bag_tag (by assumption)).2.1.symm | exact (bag_up (by assumption) (by omega)).2.1.symm | exact (bag_dn (by assumption) (by omega)).2.1.symm)), (congrArg (Value.int _) (by first | exact (bag_tag (by assumption)).2.2.symm | exact (bag_up (by assumption) (by omega)).2.2.symm | exact (bag_dn (by assumption) (by omega)).2.2.symm)), hir47, (by rw [hl54] at hpm; have h9 := perm_step (f := id) (g := dn) (x := p54) (m := m) (by rw [List.map_id]; exact hpm) rfl; rw [List.map_id] at h9; exact h9), (by first | assumption | omega | (dsimp only; omega) | (simp; done)), (by first | assumption | omega | (dsimp only; omega) | (simp; done)), hV⟩
         ·repeat (first | (with_reducible exact Agree.merge _ _ _) | (with_reducible exact Agree.refl _ _) | (with_reducible refine Agree.upd ?_ _ _ rfl) | ((with_reducible refine Agree.inner ?_ ?_); (kernel_rfl)))

end Go.Proofs.Ytomklacppmaljaa

namespace Go.Proofs.Ytomklacppmaljaa
open Go.RowKit Go.Vc
def aloneT (x : Vc.Item) : Int := if tgB x then 1 else wK x.kind
def costB (x y : Vc.Item) : Prop := sameB x y ∨ (x.kind = y.kind ∧ 5 ≤ x.kind ∧ x.kind ≤ 9)
instance (x y : Vc.Item) : Decidable (costB x y) := by unfold costB; infer_instance
def costC (x y : Vc.Item) : Int := if sameB x y then 0 else if ¬ (x.kind = y.kind ∧ 5 ≤ x.kind ∧ x.kind ≤ 9) then 0 else if x.kind = 6 ∧ keyT x = keyT y then 1 else wK x.kind
theorem alone_bd (x : Vc.Item) : 0 ≤ aloneT x ∧ aloneT x ≤ 4 := by have := wK_bd x.kind; unfold aloneT; split <;> omega
theorem cost_bd (x y : Vc.Item) : 0 ≤ costC x y ∧ costC x y ≤ 4 := by
  have := wK_bd x.kind
  unfold costC
  split
  · omega
  · split
    · omega
    · split <;> omega
def dtab : List Vc.Item → List Vc.Item → Int
  | [], [] => 0
  | x :: a, [] => aloneT x + dtab a []
  | [], y :: b => aloneT y + dtab [] b
  | x :: a, y :: b => if costB x y then min (min (costC x y + dtab a b) (aloneT x + dtab a (y :: b))) (aloneT y + dtab (x :: a) b) else min (aloneT x + dtab a (y :: b)) (aloneT y + dtab (x :: a) b)
termination_by a b => a.length + b.length
theorem dtab_rec {Q : List Vc.Item → List Vc.Item → Int → Prop} (h0 : Q [] [] 0) (hd : ∀ x a b t, Q a b t → Q (x :: a) b (aloneT x + t)) (hi : ∀ y a b t, Q a b t → Q a (y :: b) (aloneT y + t)) (hm : ∀ x y a b t, costB x y → Q a b t → Q (x :: a) (y :: b) (costC x y + t)) : ∀ a b, Q a b (dtab a b)
  | [], [] => by rw [dtab]; exact h0
  | x :: a, [] => by rw [dtab]; exact hd _ _ _ _ (dtab_rec h0 hd hi hm a [])
  | [], y :: b => by rw [dtab]; exact hi _ _ _ _ (dtab_rec h0 hd hi hm [] b)
  | x :: a, y :: b => by
    have i1 := hd x a (y :: b) _ (dtab_rec h0 hd hi hm a (y :: b))
    have i2 := hi y (x :: a) b _ (dtab_rec h0 hd hi hm (x :: a) b)
    have i3 := fun h => hm x y a b _ h (dtab_rec h0 hd hi hm a b)
    rw [dtab]
    by_cases hc : costB x y
    · rw [if_pos hc]
      have h3 : min (min (costC x y + dtab a b) (aloneT x + dtab a (y :: b))) (aloneT y + dtab (x :: a) b) = costC x y + dtab a b ∨ min (min (costC x y + dtab a b) (aloneT x + dtab a (y :: b))) (aloneT y + dtab (x :: a) b) = aloneT x + dtab a (y :: b) ∨ min (min (costC x y + dtab a b) (aloneT x + dtab a (y :: b))) (aloneT y + dtab (x :: a) b) = aloneT y + dtab (x :: a) b := by omega
      rcases h3 with e | e | e <;> rw [e]
      · exact i3 hc
      · exact i1
      · exact i2
    · rw [if_neg hc]
      have h3 : min (aloneT x + dtab a (y :: b)) (aloneT y + dtab (x :: a) b) = aloneT x + dtab a (y :: b) ∨ min (aloneT x + dtab a (y :: b)) (aloneT y + dtab (x :: a) b) = aloneT y + dtab (x :: a) b := by omega
      rcases h3 with e | e <;> rw [e]
      · exact i1
      · exact i2
termination_by a b => a.length + b.length
theorem dtab_bd : ∀ a b : List Vc.Item, 0 ≤ dtab a b ∧ dtab a b ≤ 4 * (a.length + b.length : Nat) := dtab_rec (Q := fun a b t => 0 ≤ t ∧ t ≤ 4 * (a.length + b.length : Nat))
  (by simp) (fun x a b t h => by have := alone_bd x; simp only [List.length_cons]; omega) (fun x a b t h => by have := alone_bd x; simp only [List.length_cons]; omega) (fun x y a b t _ h => by have := cost_bd x y; simp only [List.length_cons]; omega)
def phi (s : Bool) (n : Int) (c : Vc.Item) : Int := upF (if s then n else -n) c + tgF n c
theorem phi_inc (s : Bool) (n : Int) (c : Vc.Item) : phi s (n + 1) c ≤ phi s n c + aloneT c := by
  unfold phi upF tgF aloneT
  by_cases h : tgB c
  · simp only [if_pos h]; omega
  · simp only [if_neg h]
    cases s <;> rcases wK_val c.kind with e | e | e | e | e <;> rw [e] <;> simp <;> omega
theorem phi_dec (s : Bool) (n : Int) (c : Vc.Item) : phi s (n - 1) c ≤ phi s n c + aloneT c := by
  unfold phi upF tgF aloneT
  by_cases h : tgB c
  · simp only [if_pos h]; omega
  · simp only [if_neg h]
    cases s <;> rcases wK_val c.kind with e | e | e | e | e <;> rw [e] <;> simp <;> omega
theorem phi_incF (n : Int) {c : Vc.Item} (h : ¬ tgB c) : phi false (n + 1) c ≤ phi false n c := by
  unfold phi upF tgF
  simp only [if_neg h]
  rcases wK_val c.kind with e | e | e | e | e <;> rw [e] <;> simp <;> omega
theorem phi_decT (n : Int) {c : Vc.Item} (h : ¬ tgB c) : phi true (n - 1) c ≤ phi true n c := by
  unfold phi upF tgF
  simp only [if_neg h]
  rcases wK_val c.kind with e | e | e | e | e <;> rw [e] <;> simp <;> omega
theorem alone_cl (x : Vc.Item) : aloneT (clV x) = aloneT x := by
  unfold aloneT
  rw [clV_kind]
  by_cases h : tgB x
  · rw [if_pos h, if_pos (clV_tg.2 h)]
  · rw [if_neg h, if_neg (fun q => h (clV_tg.1 q))]
theorem dlt_consA (x : Vc.Item) (a b : List Vc.Item) (c : Vc.Item) : dlt (x :: a) b c = dlt a b c + if clB x ∧ clV x = c then 1 else 0 := by
  unfold dlt
  rw [cls_cons]
  by_cases h : clB x
  · rw [if_pos h, List.count_cons]
    by_cases e : clV x = c
    · simp [e, h]; omega
    · simp [e]
  · rw [if_neg h]; simp [h]
theorem dlt_consB (x : Vc.Item) (a b : List Vc.Item) (c : Vc.Item) : dlt a (x :: b) c = dlt a b c - if clB x ∧ clV x = c then 1 else 0 := by
  have h1 := dlt_consA x b a c
  rw [dlt_swap a b, dlt_swap a (x :: b)] at h1; omega
def phK (s : Bool) (ks a b : List Vc.Item) : Int := sumZ (ks.map fun c => phi s (dlt a b c) c)
theorem clV_same2 {x y : Vc.Item} (h : sameB x y) : clV x = clV y ∧ (clB x ↔ clB y) := by
  obtain ⟨h1, h2⟩ := h
  have hk : keyT x = keyT y := by unfold keyT; rw [h1, h2]
  refine ⟨?_, by unfold clB; rw [h1]⟩
  unfold clV; rw [h1, h2, hk]
theorem bag_below {s : Bool} {ks : List Vc.Item} (hn : ks.Nodup) : ∀ a b, phK s ks a b ≤ dtab a b := by
  refine dtab_rec (Q := fun a b t => phK s ks a b ≤ t) ?_ (fun x a b t h => ?_) (fun y a b t h => ?_) (fun x y a b t hc h => ?_)
  · refine Int.le_of_eq (sum_zero fun c _ => ?_)
    have e : dlt [] [] c = 0 := rfl
    rw [e]; unfold phi; rw [show (if s then (0 : Int) else -0) = 0 by cases s <;> rfl, upF_zero, tgF_zero]; rfl
  · have h2 : phK s ks (x :: a) b ≤ phK s ks a b + aloneT x := sum_le_at (x := clV x) (alone_bd x).1 hn fun c _ => by
      rw [dlt_consA]
      by_cases e : c = clV x
      · by_cases hb : clB x
        · rw [if_pos e, if_pos ⟨hb, e.symm⟩]
          have := phi_inc s (dlt a b c) c
          rw [e, alone_cl] at *; exact this
        · rw [if_neg (fun q => hb q.1), if_pos e, Int.add_zero]; have := (alone_bd x).1; omega
      · rw [if_neg (fun q => e q.2.symm), if_neg e, Int.add_zero, Int.add_zero]; exact Int.le_refl _
    omega
  · have h2 : phK s ks a (y :: b) ≤ phK s ks a b + aloneT y := sum_le_at (x := clV y) (alone_bd y).1 hn fun c _ => by
      rw [dlt_consB]
      by_cases e : c = clV y
      · by_cases hb : clB y
        · rw [if_pos e, if_pos ⟨hb, e.symm⟩]
          have := phi_dec s (dlt a b c) c
          rw [e, alone_cl] at *; exact this
        · rw [if_neg (fun q => hb q.1), if_pos e, Int.sub_zero]; have := (alone_bd y).1; omega
      · rw [if_neg (fun q => e q.2.symm), if_neg e, Int.sub_zero, Int.add_zero]; exact Int.le_refl _
    omega
  · have hcb := cost_bd x y
    by_cases he : clV x = clV y ∧ (clB x ↔ clB y)
    · have h2 : phK s ks (x :: a) (y :: b) = phK s ks a b := by
        unfold phK
        congr 1
        refine List.map_congr_left fun c _ => ?_
        rw [dlt_consA, dlt_consB, he.1]
        have : (if clB x ∧ clV y = c then (1 : Int) else 0) = if clB y ∧ clV y = c then 1 else 0 := by simp only [he.2]
        rw [this]; congr 1; omega
      omega
    · have hns : ¬ sameB x y := fun q => he (clV_same2 q)
      rcases hc with hc | ⟨h1, h3, h4⟩
      · exact absurd hc hns
      · have hbx : clB x := ⟨by omega, by omega⟩
        have hby : clB y := ⟨by omega, by omega⟩
        have hne : ¬ clV x = clV y := fun q => he ⟨q, by simp [hbx, hby]⟩
        have hkey : ¬ keyT x = keyT y := fun q => hne (by unfold clV; rw [if_pos ⟨h3, h4⟩, if_pos (by omega), h1, q])
        have ec : costC x y = wK x.kind := by
          unfold costC
          rw [if_neg hns, if_neg (fun q => q ⟨h1, h3, h4⟩), if_neg (fun q => hkey q.2)]
        have htx : ¬ tgB x := by unfold tgB; omega
        have hty : ¬ tgB y := by unfold tgB; omega
        have ea : aloneT x = wK x.kind := if_neg htx
        have eb : aloneT y = wK x.kind := by rw [h1]; exact if_neg hty
        have h2 : phK s ks (x :: a) (y :: b) ≤ phK s ks a b + wK x.kind := by
          cases s with
          | true =>
            refine sum_le_at (x := clV x) (wK_bd _).1 hn fun c _ => ?_
            rw [dlt_consA, dlt_consB]
            by_cases e : c = clV x
            · rw [if_pos e, if_pos (show clB x ∧ clV x = c from ⟨hbx, e.symm⟩), if_neg (show ¬ (clB y ∧ clV y = c) from fun q => hne (e.symm.trans q.2.symm))]
              have := phi_inc true (dlt a b c) c
              rw [Int.sub_zero]
              rw [e, alone_cl, ea] at *; exact this
            · rw [if_neg (show ¬ (clB x ∧ clV x = c) from fun q => e q.2.symm), if_neg e]
              by_cases e2 : clV y = c
              · rw [if_pos (show clB y ∧ clV y = c from ⟨hby, e2⟩), Int.add_zero, Int.add_zero]
                exact phi_decT _ (fun q => hty (clV_tg.1 (e2 ▸ q)))
              · rw [if_neg (show ¬ (clB y ∧ clV y = c) from fun q => e2 q.2), Int.sub_zero, Int.add_zero, Int.add_zero]; exact Int.le_refl _
          | false =>
            refine sum_le_at (x := clV y) (wK_bd _).1 hn fun c _ => ?_
            rw [dlt_consA, dlt_consB]
            by_cases e : c = clV y
            · rw [if_neg (show ¬ (clB x ∧ clV x = c) from fun q => hne (q.2.trans e)), if_pos e, if_pos (show clB y ∧ clV y = c from ⟨hby, e.symm⟩)]
              have := phi_dec false (dlt a b c) c
              rw [Int.add_zero]
              rw [e, alone_cl, eb] at *; exact this
            · rw [if_neg e, if_neg (show ¬ (clB y ∧ clV y = c) from fun q => e q.2.symm)]
              by_cases e2 : clV x = c
              · rw [if_pos (show clB x ∧ clV x = c from ⟨hbx, e2⟩), Int.sub_zero, Int.add_zero]
                exact phi_incF _ (fun q => htx (clV_tg.1 (e2 ▸ q)))
              · rw [if_neg (show ¬ (clB x ∧ clV x = c) from fun q => e2 q.2), Int.sub_zero, Int.add_zero, Int.add_zero]; exact Int.le_refl _
        omega
def distL (a b : List Vc.Item) : Int := dtab a b + 2 * surL a b
theorem phK_eq (a b : List Vc.Item) : phK true (keysL a b) a b = upL a b + surL a b ∧ phK false (keysL a b) a b = upL b a + surL a b := by
  have key : ∀ (f g : Vc.Item → Int) (ks : List Vc.Item), sumZ (ks.map fun c => f c + g c) = sumZ (ks.map f) + sumZ (ks.map g) := fun f g ks => by
    induction ks with
    | nil => rfl
    | cons k ks ih => simp only [List.map_cons, sumZ_cons, ih]; omega
  refine ⟨key _ _ _, ?_⟩
  rw [up_swap a b]
  exact key _ _ _
theorem bag_below2 (a b : List Vc.Item) : bagL a b ≤ distL a b := by
  have h1 := bag_below (s := true) (keys_nodup a b) a b
  have h2 := bag_below (s := false) (keys_nodup a b) a b
  rw [(phK_eq a b).1] at h1
  rw [(phK_eq a b).2] at h2
  unfold bagL distL; omega
def Dk (ks p q : List (Str × Str)) : Int := sumZ (ks.map fun c => max (((p.count c : Nat) : Int) - ((q.count c : Nat) : Int)) 0)
section
variable {ks p q : List (Str × Str)} {x y : Str × Str}
theorem Dk_left (hn : ks.Nodup) : Dk ks (x :: p) q ≤ Dk ks p q + 1 := sum_le_at (x := x) (by omega) hn fun c _ => by
  rw [List.count_cons]
  by_cases e : c = x
  · subst e; simp; omega
  · simp [e, Ne.symm e]
theorem Dk_right : Dk ks p (y :: q) ≤ Dk ks p q := sum_le fun c _ => by
  rw [List.count_cons]; split <;> omega
theorem Dk_both : Dk ks (x :: p) (x :: q) = Dk ks p q := by
  unfold Dk
  congr 1
  refine List.map_congr_left fun c _ => ?_
  rw [List.count_cons, List.count_cons]; split <;> omega
theorem Dk_two (hn : ks.Nodup) : Dk ks (x :: p) (y :: q) ≤ Dk ks p q + 1 := Int.le_trans Dk_right (Dk_left hn)
theorem Dk_self : Dk ks p p = 0 := sum_zero fun c _ => by omega
end
theorem words_cons (x : Vc.Item) (l : List Vc.Item) : wordsT (x :: l) = if x.kind = 6 then keyT x :: wordsT l else wordsT l := by
  unfold wordsT
  by_cases h : x.kind = 6
  · rw [if_pos h, List.filter_cons_of_pos (p := fun x : Vc.Item => decide (x.kind = 6)) (decide_eq_true h)]; rfl
  · rw [if_neg h, List.filter_cons_of_neg (p := fun x : Vc.Item => decide (x.kind = 6)) (by simpa using h)]
theorem grams_below {ks : List (Str × Str)} (hn : ks.Nodup) : ∀ a b, ∃ E : Int, 0 ≤ E ∧ 4 * E ≤ dtab a b ∧ ∀ l l', Dk ks (pairsL l (wordsT a)) (pairsL l' (wordsT b)) ≤ 2 * E + (if l = l' then 0 else 1) ∧ Dk ks (pairsL l' (wordsT b)) (pairsL l (wordsT a)) ≤ 2 * E + (if l = l' then 0 else 1) := by
  have hif : ∀ l l' : Str, 0 ≤ (if l = l' then (0 : Int) else 1) ∧ (if l = l' then (0 : Int) else 1) ≤ 1 := fun l l' => by split <;> omega
  refine dtab_rec (Q := fun a b t => ∃ E : Int, 0 ≤ E ∧ 4 * E ≤ t ∧ ∀ l l', Dk ks (pairsL l (wordsT a)) (pairsL l' (wordsT b)) ≤ 2 * E + (if l = l' then 0 else 1) ∧ Dk ks (pairsL l' (wordsT b)) (pairsL l (wordsT a)) ≤ 2 * E + (if l = l' then 0 else 1)) ?_ (fun x a b t h => ?_) (fun y a b t h => ?_) (fun x y a b t hc h => ?_)
  · refine ⟨0, by omega, by omega, fun l l' => ?_⟩
    show Dk ks [(l, [])] [(l', [])] ≤ _ ∧ Dk ks [(l', [])] [(l, [])] ≤ _
    by_cases e : l = l'
    · subst e; rw [if_pos rfl, Dk_self]; omega
    · rw [if_neg e]
      have h1 : Dk ks [(l, [])] [(l', [])] ≤ Dk ks [] [] + 1 := Dk_two hn
      have h2 : Dk ks [(l', [])] [(l, [])] ≤ Dk ks [] [] + 1 := Dk_two hn
      have h3 : Dk ks [] [] = 0 := Dk_self
      omega
  · obtain ⟨E, h0, h1, h2⟩ := h
    rw [words_cons]
    have ha := alone_bd x
    by_cases hk : x.kind = 6
    · have e4 : aloneT x = 4 := by
        unfold aloneT; rw [if_neg (by unfold tgB; omega)]; exact (wK4 (.inl hk)).symm
      refine ⟨E + 1, by omega, by omega, fun l l' => ?_⟩
      rw [if_pos hk]
      have h3 := h2 (keyT x) l'
      have h4 := hif (keyT x) l'
      have h5 := hif l l'
      have h6 : Dk ks ((l, keyT x) :: pairsL (keyT x) (wordsT a)) (pairsL l' (wordsT b)) ≤ _ := Dk_left hn
      have h7 : Dk ks (pairsL l' (wordsT b)) ((l, keyT x) :: pairsL (keyT x) (wordsT a)) ≤ _ := Dk_right
      show Dk ks ((l, keyT x) :: pairsL (keyT x) (wordsT a)) (pairsL l' (wordsT b)) ≤ _ ∧ Dk ks (pairsL l' (wordsT b)) ((l, keyT x) :: pairsL (keyT x) (wordsT a)) ≤ _
      omega
    · refine ⟨E, h0, by omega, fun l l' => ?_⟩
      rw [if_neg hk]; exact h2 l l'
  · obtain ⟨E, h0, h1, h2⟩ := h
    rw [words_cons]
    have ha := alone_bd y
    by_cases hk : y.kind = 6
    · have e4 : aloneT y = 4 := by
        unfold aloneT; rw [if_neg (by unfold tgB; omega)]; exact (wK4 (.inl hk)).symm
      refine ⟨E + 1, by omega, by omega, fun l l' => ?_⟩
      rw [if_pos hk]
      have h3 := h2 l (keyT y)
      have h4 := hif l (keyT y)
      have h5 := hif l l'
      have h6 : Dk ks ((l', keyT y) :: pairsL (keyT y) (wordsT b)) (pairsL l (wordsT a)) ≤ _ := Dk_left hn
      have h7 : Dk ks (pairsL l (wordsT a)) ((l', keyT y) :: pairsL (keyT y) (wordsT b)) ≤ _ := Dk_right
      show Dk ks (pairsL l (wordsT a)) ((l', keyT y) :: pairsL (keyT y) (wordsT b)) ≤ _ ∧ Dk ks ((l', keyT y) :: pairsL (keyT y) (wordsT b)) (pairsL l (wordsT a)) ≤ _
      omega
    · refine ⟨E, h0, by omega, fun l l' => ?_⟩
      rw [if_neg hk]; exact h2 l l'
  · obtain ⟨E, h0, h1, h2⟩ := h
    rw [words_cons, words_cons]
    have hcb := cost_bd x y
    have hkk : x.kind = y.kind := by rcases hc with hc | hc; exact hc.1; exact hc.1
    by_cases hk : x.kind = 6
    · rw [if_pos hk, if_pos (hkk ▸ hk)]
      by_cases hkey : keyT x = keyT y
      · refine ⟨E, h0, by omega, fun l l' => ?_⟩
        have h3 := h2 (keyT y) (keyT y)
        rw [if_pos rfl] at h3
        show Dk ks ((l, keyT x) :: pairsL (keyT x) (wordsT a)) ((l', keyT y) :: pairsL (keyT y) (wordsT b)) ≤ _ ∧ Dk ks ((l', keyT y) :: pairsL (keyT y) (wordsT b)) ((l, keyT x) :: pairsL (keyT x) (wordsT a)) ≤ _
        rw [hkey]
        by_cases e : l = l'
        · subst e; rw [if_pos rfl, Dk_both, Dk_both]; omega
        · rw [if_neg e]
          have h6 : Dk ks ((l, keyT y) :: pairsL (keyT y) (wordsT a)) ((l', keyT y) :: pairsL (keyT y) (wordsT b)) ≤ _ := Dk_two hn
          have h7 : Dk ks ((l', keyT y) :: pairsL (keyT y) (wordsT b)) ((l, keyT y) :: pairsL (keyT y) (wordsT a)) ≤ _ := Dk_two hn
          omega
      · have hns : ¬ sameB x y := fun q => hkey (by unfold keyT; rw [q.1, q.2])
        have ec : costC x y = 4 := by
          unfold costC
          rw [if_neg hns, if_neg (fun q => q ⟨hkk, by omega, by omega⟩), if_neg (fun q => hkey q.2)]; exact (wK4 (.inl hk)).symm
        refine ⟨E + 1, by omega, by omega, fun l l' => ?_⟩
        have h3 := h2 (keyT x) (keyT y)
        have h4 := hif (keyT x) (keyT y)
        have h5 := hif l l'
        have h6 : Dk ks ((l, keyT x) :: pairsL (keyT x) (wordsT a)) ((l', keyT y) :: pairsL (keyT y) (wordsT b)) ≤ _ := Dk_two hn
        have h7 : Dk ks ((l', keyT y) :: pairsL (keyT y) (wordsT b)) ((l, keyT x) :: pairsL (keyT x) (wordsT a)) ≤ _ := Dk_two hn
        show Dk ks ((l, keyT x) :: pairsL (keyT x) (wordsT a)) ((l', keyT y) :: pairsL (keyT y) (wordsT b)) ≤ _ ∧ Dk ks ((l', keyT y) :: pairsL (keyT y) (wordsT b)) ((l, keyT x) :: pairsL (keyT x) (wordsT a)) ≤ _
        omega
    · refine ⟨E, h0, by omega, fun l l' => ?_⟩
      rw [if_neg hk, if_neg (hkk ▸ hk)]; exact h2 l l'
theorem occ_of {ps : List (Str × Str)} (hps : ps.length ≤ 1073741824) : ∀ {g : List Gram}, (g.map prG).Nodup → (∀ x ∈ g, x.count = ((ps.count (prG x) : Nat) : Int)) → ∀ p, occL g p = if p ∈ g.map prG then ((ps.count p : Nat) : Int) else 0
  | [], _, _, p => by simp [occL, sumZ]
  | x :: r, hn, h, p => by
    rw [List.map_cons, List.nodup_cons] at hn
    have ih := occ_of hps hn.2 (fun y hy => h y (by simp [hy])) p
    have e : occL (x :: r) p = (if prG x = p then clampI x.count else 0) + occL r p := rfl
    rw [e, ih]
    have hb := List.count_le_length (a := prG x) (l := ps)
    have hx := h x (by simp)
    by_cases e2 : prG x = p
    · subst e2
      rw [if_pos rfl, if_neg hn.1, if_pos (by simp), hx]
      unfold clampI; omega
    · rw [if_neg e2, Int.zero_add]
      by_cases e3 : p ∈ r.map prG
      · rw [if_pos e3, if_pos (by simp at e3 ⊢; exact .inr e3)]
      · rw [if_neg e3, if_neg (by rw [List.map_cons, List.mem_cons]; rintro (q | q); exact e2 q.symm; exact e3 q)]
theorem occ_grams {ws : List Str} (hs : ws.length ≤ 1000000) (p : Str × Str) : occL (gramsL ws) p = (((pairsL [] ws).count p : Nat) : Int) := by
  have h := gramsOk_of (pairsL [] ws)
  have hn : ((gramsL ws).map prG).Nodup := List.pairwise_map.2 (h.1.imp fun {x y} (h : ltP (prG x) (prG y)) (e : prG x = prG y) => ltP_irrefl (prG y) (by rw [e] at h; exact h))
  rw [occ_of (ps := pairsL [] ws) (by rw [pairs_len]; omega) hn (fun x hx => (h.2.1 x hx).2)]
  by_cases hp : p ∈ (gramsL ws).map prG
  · rw [if_pos hp]
  · rw [if_neg hp, List.count_eq_zero.2]; rfl
    intro q
    obtain ⟨x, hx, e⟩ := h.2.2 p q
    exact hp (e ▸ List.mem_map_of_mem hx)
theorem lack_below {u v : List Str} (hu : u.length ≤ 1000000) (hv : v.length ≤ 1000000) : lackL (gramsL u) (gramsL v) ≤ Dk (dist ((gramsL u).map prG)) (pairsL [] u) (pairsL [] v) := by
  have e : sumZ ((dist ((gramsL u).map prG)).map (moreL (gramsL u) (gramsL v))) = Dk (dist ((gramsL u).map prG)) (pairsL [] u) (pairsL [] v) := by
    unfold Dk
    congr 1
    exact List.map_congr_left fun c _ => by unfold moreL; rw [occ_grams hu, occ_grams hv]
  unfold lackL; rw [e]; omega
theorem bound_below (a b : List Vc.Item) (ha : a.length ≤ 1000000) (hb : b.length ≤ 1000000) : boundL a b ≤ distL a b := by
  have h1 := bag_below2 a b
  have h2 := sur_bd a b ha hb
  have hwa := wordsT_len a
  have hwb := wordsT_len b
  obtain ⟨E, e0, e1, e2⟩ := grams_below (dist_nodup ((gramsL (wordsT a)).map prG)) a b
  obtain ⟨E', f0, f1, f2⟩ := grams_below (dist_nodup ((gramsL (wordsT b)).map prG)) a b
  have h3 := (e2 [] []).1
  have h4 := (f2 [] []).2
  rw [if_pos rfl] at h3 h4
  have h5 := lack_below (u := wordsT a) (v := wordsT b) (by omega) (by omega)
  have h6 := lack_below (u := wordsT b) (v := wordsT a) (by omega) (by omega)
  unfold boundL mssL distL at *
  omega
end Go.Proofs.Ytomklacppmaljaa

namespace Go.Proofs.Ytomklacppmaljaa
open Go.RowKit Go.Vc

theorem rsame_calls {x y : Vc.Item} {w0 : World}  :
    Calls Try.prog 174 #[.agg (Enc.enc x).toArray, .agg (Enc.enc y).toArray] w0 fun e w' => e = .returned (.bool (decide (sameB x y))) ∧ Evo w0 w' [] := by
 refine calls_enter (n := 17) (args := [.agg (Enc.enc x).toArray, .agg (Enc.enc y).toArray]) Try.func174 rfl Try.ntmps174 rfl ?_
 have hV : Evo w0 w0 [] := Evo.refl _ _
 refine r_seq ?_
 refine r_region ?_
 refine r_box (vs := [_, _, _]) (by exact rfl) (by exact rfl) rfl ?_
 intro b1 w2 heb1 hEw2 hbb1 hzb1
 have hs_w2 := (hEw2).size
 replace hV := evo_step0 hV hEw2
 have hAb1 := hbb1.at
 refine r_box (vs := [_, _, _]) (by exact rfl) (by exact rfl) rfl ?_
 intro b3 w4 heb3 hEw4 hbb3 hzb3
 have hs_w4 := (hEw4).size
 replace hV := evo_step0 hV hEw4
 replace hbb1 := hbb1.evo0 hEw4
 replace hAb1 := hAb1.evo0 hEw4
 have hAb3 := hbb3.at
 refine r_op rfl rfl rfl (run_asg (v := .bool _) rfl (by exact rfl)) ?_
 refine r_nil ?_
 refine r_seq ?_
 refine r_region ?_
 refine r_op rfl rfl rfl (run_fa rfl (by exact rfl) fo_81_0) ?_
 refine r_op rfl rfl rfl (run_ld1 rfl ag_3 (by exact rfl) (hAb1.cell 0 (by exact rfl))) ?_
 refine r_op rfl rfl rfl (run_fa rfl (by exact rfl) fo_81_0) ?_
 refine r_op rfl rfl rfl (run_ld1 rfl ag_3 (by exact rfl) (hAb3.cell 0 (by exact rfl))) ?_
 refine r_op rfl rfl rfl (run_eql rfl (by exact rfl) (by exact rfl)) ?_
 refine r_op rfl rfl rfl (run_mv (v := .bool _) rfl (by exact rfl)) ?_
 refine r_g rfl (wantT (by exact rfl)) rfl (fun hg => run_fa rfl (by exact rfl) fo_81_1) ?_
 refine r_g rfl (wantT (by exact rfl)) rfl (fun hg => run_ld1 rfl ag_9 (glv (by exact rfl) (fun h => h) hg) (hAb1.cell 1 (by exact rfl))) ?_
 refine r_g rfl (wantT (by exact rfl)) rfl (fun hg => run_fa rfl (by exact rfl) fo_81_1) ?_
 refine r_g rfl (wantT (by exact rfl)) rfl (fun hg => run_ld1 rfl ag_9 (glv (by exact rfl) (fun h => h) hg) (hAb3.cell 1 (by exact rfl))) ?_
 refine r_g rfl (wantT (by exact rfl)) rfl (fun hg => run_seql rfl (glv (by exact rfl) (fun h => h) hg) (glv (by exact rfl) (fun h => h) hg)) ?_
 refine r_op rfl rfl rfl (run_pick_and rfl (by exact rfl) (fun hq => glv (by exact rfl) (fun h => h) hq) rfl) ?_
 refine r_op rfl rfl rfl (run_asg (v := .bool _) rfl (by exact rfl)) ?_
 refine r_nil ?_
 refine r_ret (res1 (v := .bool _) rfl (by exact rfl)) ?_
 exact ⟨ret_bool (decide_eq_decide.2 (by unfold sameB; simp)), hV⟩

theorem sristag_calls {x : Vc.Item} {w0 : World}  :
    Calls Try.prog 133 #[.agg (Enc.enc x).toArray] w0 fun e w' => e = .returned (.bool (decide (tgB x))) ∧ Evo w0 w' [] := by
 refine calls_enter (n := 16) (args := [.agg (Enc.enc x).toArray]) Try.func133 rfl Try.ntmps133 rfl ?_
 have hV : Evo w0 w0 [] := Evo.refl _ _
 refine r_seq ?_
 refine r_region ?_
 refine r_box (vs := [_, _, _]) (by exact rfl) (by exact rfl) rfl ?_
 intro b1 w2 heb1 hEw2 hbb1 hzb1
 have hs_w2 := (hEw2).size
 replace hV := evo_step0 hV hEw2
 have hAb1 := hbb1.at
 refine r_op rfl rfl rfl (run_asg (v := .bool _) rfl (by exact rfl)) ?_
 refine r_nil ?_
 refine r_seq ?_
 refine r_region ?_
 refine r_op rfl rfl rfl (run_fa rfl (by exact rfl) fo_81_0) ?_
 refine r_op rfl rfl rfl (run_ld1 rfl ag_3 (by exact rfl) (hAb1.cell 0 (by exact rfl))) ?_
 refine r_op rfl rfl rfl (run_eql rfl (by exact rfl) (by exact rfl)) ?_
 refine r_op rfl rfl rfl (run_mv (v := .bool _) rfl (by exact rfl)) ?_
 refine r_g rfl (wantF (by exact rfl)) rfl (fun hg => run_fa rfl (by exact rfl) fo_81_0) ?_
 refine r_g rfl (wantF (by exact rfl)) rfl (fun hg => run_ld1 rfl ag_3 (glv (by exact rfl) (fun h => h) hg) (hAb1.cell 0 (by exact rfl))) ?_
 refine r_g rfl (wantF (by exact rfl)) rfl (fun hg => run_eql rfl (glv (by exact rfl) (fun h => h) hg) (by exact rfl)) ?_
 refine r_op rfl rfl rfl (run_pick_or rfl (by exact rfl) rfl (fun hq => glv (by exact rfl) (fun h => h) hq)) ?_
 refine r_op rfl rfl rfl (run_mv (v := .bool _) rfl (by exact rfl)) ?_
 refine r_g rfl (wantF (by exact rfl)) rfl (fun hg => run_fa rfl (by exact rfl) fo_81_0) ?_
 refine r_g rfl (wantF (by exact rfl)) rfl (fun hg => run_ld1 rfl ag_3 (glv (by exact rfl) (fun h => h) hg) (hAb1.cell 0 (by exact rfl))) ?_
 refine r_g rfl (wantF (by exact rfl)) rfl (fun hg => run_eql rfl (glv (by exact rfl) (fun h => h) hg) (by exact rfl)) ?_
 refine r_op rfl rfl rfl (run_pick_or rfl (by exact rfl) rfl (fun hq => glv (by exact rfl) (fun h => h) hq)) ?_
 refine r_op rfl rfl rfl (run_asg (v := .bool _) rfl (by exact rfl)) ?_
 refine r_nil ?_
 refine r_ret (res1 (v := .bool _) rfl (by exact rfl)) ?_
 exact ⟨ret_bool (decide_eq_decide.2 (by unfold tgB; omega)), hV⟩

theorem rtimes_calls {ao : Option Addr} {b off cap : Nat} {l : List Vc.Item} {x : Vc.Item} {w0 : World} (hl : RowE w0 ao b off cap l) (hs : l.length ≤ 1000000) :
    Calls Try.prog 134 #[.slice ao l.length cap, .agg (Enc.enc x).toArray] w0 fun e w' => e = .returned (.int .i64 (timesC l x)) ∧ Evo w0 w' [] := by
 refine calls_enter (n := 22) (args := [.slice ao l.length cap, .agg (Enc.enc x).toArray]) Try.func134 rfl Try.ntmps134 rfl ?_
 have hV : Evo w0 w0 [] := Evo.refl _ _
 have hl0 := keepE hl
 have hbd_hl := hl.bd
 refine r_seq ?_
 refine r_region ?_
 refine r_box (vs := [_, _, _]) (by exact rfl) (by exact rfl) rfl ?_
 intro b1 w2 heb1 hEw2 hbb1 hzb1
 have hs_w2 := (hEw2).size
 replace hV := evo_step0 hV hEw2
 replace hl := hl0 _ hV
 have hAb1 := hbb1.at
 refine r_op rfl rfl rfl (run_asg (v := .int _ _) rfl (by exact rfl)) ?_
 refine r_nil ?_
 refine r_seq ?_
 refine r_region ?_
 refine r_op rfl rfl rfl (run_asg (v := .int _ _) rfl (by exact rfl)) ?_
 refine r_nil ?_
 refine r_seq ?_
 refine r_seq ?_
 refine r_region ?_
 refine r_op rfl rfl rfl (run_mv (v := .slice _ _ _) rfl (by exact rfl)) ?_
 refine r_op rfl rfl rfl (run_lenSl rfl (by exact rfl) Try.underlying63) ?_
 refine r_op rfl rfl rfl (run_mv (v := .int _ _) rfl (by exact rfl)) ?_
 refine r_nil ?_
 refine r_block ?_
 refine r_loop (α := Nat) [5, 6, 9, 10, 11, 12, 13, 14, 15, 16, 17, 18, 19, 20] (fun k g w => g 9 = .int .i64 (k : Nat) ∧ g 5 = .int .i64 (timesC (l.take k) x) ∧ k ≤ l.length ∧ Blk w b1 81 (Enc.enc x) ∧ At w b1 0 (Enc.enc x) ∧ w2.heap.size ≤ w.heap.size ∧ Evo w0 w []) (fun k => l.length - k) 0 ?_ ?_
 ·refine ⟨(by first | exact rfl | exact congrArg (Value.int _) (by omega) | exact congrArg (Value.int _) (by dsimp only; omega) | exact congrArg (Value.int _) (by simp) | exact congrArg S (by simp)), rfl, (by first | assumption | omega | (dsimp only; omega) | (simp; done)), hbb1, hAb1, (by first | assumption | omega | (dsimp only; omega) | (simp; done)), hV⟩
 ·rintro k g w4 ⟨hj5, hj6, hk_k, hbb1, hAb1, hzl3, hV⟩
  have hs_w4hV := hV.size
  have hlt7 := hbb1.lt
  replace hl := hl0 _ hV
  refine r_know (i := 9) (v := .int .i64 (k : Nat)) (by exact hj5) ?_
  refine r_know (i := 5) (v := .int .i64 (timesC (l.take k) x)) (by exact hj6) ?_
  refine r_seq ?_
  refine r_region ?_
  refine r_op rfl rfl rfl (run_lss rfl (by exact rfl) (by exact rfl)) ?_
  refine r_nil ?_
  refine r_seq ?_
  refine r_cond (by exact rfl) (fun hc8 => ?_) (fun hc8 => ?_)
  ·skip
   refine r_skip ?_
   refine r_seq ?_
   refine r_block ?_
   refine r_seq ?_
   refine r_region ?_
   refine r_op rfl rfl rfl (run_mv (v := .int _ _) rfl (by exact rfl)) ?_
   refine r_op rfl rfl rfl (run_asg (v := .int _ _) rfl (by exact rfl)) ?_
   refine r_nil ?_
   refine r_seq ?_
   refine r_qregion (by kernel_rfl) (by kernel_rfl) ?_
   refine q_op rfl rfl rfl (fun w' hC => run_mv (v := .slice _ _ _) rfl (by exact rfl)) ?_
   refine q_op rfl rfl rfl (fun w' hC => run_mv (v := .int _ _) rfl (by exact rfl)) ?_
   refine q_op rfl rfl rfl (fun w' hC => run_ix (k) rfl Try.underlying63 ty_81 (by exact rfl) (by exact rfl) (by first | exact rfl | omega) (by omega) (hl.addr (i := k) (by omega))) ?_
   have hA90 := fun (w' : World) (h : Evo w0 w' []) => (hl0 w' h).atD (k) (by omega)
   have hA9 := hA90 _ hV
   refine q_op rfl rfl rfl (fun w' hC => run_ldN rfl ag_81 ty_81 (by exact rfl) rfl (hA9.evo0 hC)) ?_
   refine q_op rfl rfl rfl (fun w' hC => run_ldN rfl ag_81 ty_81 (by exact rfl) rfl (hAb1.evo0 hC)) ?_
   refine q_call rfl rfl rfl (fun w' hC => run_callf rfl (argcons (v := .agg _) (by exact rfl) (argcons (v := .agg _) (by exact rfl) (rfl))) Try.func174 rfl (by kernel_rfl)) (fun w' hC => (rsame_calls ).mono (fun e w'' h => ⟨h.1, evo_step0 hC h.2⟩)) ?_
   refine q_nil (fun w10 hE11 => ?_)
   have hs_w10 := (hE11).size
   replace hV := evo_step0 hV hE11
   replace hl := hl0 _ hV
   replace hbb1 := hbb1.evo0 hE11
   replace hAb1 := hAb1.evo0 hE11
   refine r_cond (by exact rfl) (fun hc12 => ?_) (fun hc12 => ?_)
   ·skip
    have htb := timesC_bd (l.take k) x; have htl := List.length_take_le k l
    refine r_region ?_
    refine r_op rfl rfl rfl (run_mv (v := .int _ _) rfl (by exact rfl)) ?_
    refine r_op rfl rfl rfl (run_add rfl (by exact rfl) (by exact rfl) (by omega) (by omega)) ?_
    refine r_op rfl rfl rfl (run_asg (v := .int _ _) rfl (by exact rfl)) ?_
    refine r_nil ?_
    refine r_blk ?_
    refine r_region ?_
    refine r_op rfl rfl rfl (run_add rfl (by exact rfl) (by exact rfl) (by omega) (by omega)) ?_
    refine r_op rfl rfl rfl (run_mv (v := .int _ _) rfl (by exact rfl)) ?_
    refine r_nil ?_
    refine r_again (k + 1) ?_ ?_ ?_
    ·first | omega | (dsimp only; omega)
    ·refine ⟨(by first | exact rfl | exact congrArg (Value.int _) (by omega) | exact congrArg (Value.int _) (by dsimp only; omega) | exact congrArg (Value.int _) (by simp) | exact congrArg S (by simp)), (congrArg (Value.int _) (by first | exact timesC_yes (by omega) hc12 | exact timesC_no (by omega) hc12)), (by first | assumption | omega | (dsimp only; omega) | (simp; done)), hbb1, hAb1, (by first | assumption | omega | (dsimp only; omega) | (simp; done)), hV⟩
    ·repeat (first | (with_reducible exact Agree.merge _ _ _) | (with_reducible exact Agree.refl _ _) | (with_reducible refine Agree.upd ?_ _ _ rfl) | ((with_reducible refine Agree.inner ?_ ?_); (kernel_rfl)))
   ·skip
    refine r_skip ?_
    refine r_blk ?_
    refine r_region ?_
    refine r_op rfl rfl rfl (run_add rfl (by exact rfl) (by exact rfl) (by omega) (by omega)) ?_
    refine r_op rfl rfl rfl (run_mv (v := .int _ _) rfl (by exact rfl)) ?_
    refine r_nil ?_
    refine r_again (k + 1) ?_ ?_ ?_
    ·first | omega | (dsimp only; omega)
    ·refine ⟨(by first | exact rfl | exact congrArg (Value.int _) (by omega) | exact congrArg (Value.int _) (by dsimp only; omega) | exact congrArg (Value.int _) (by simp) | exact congrArg S (by simp)), (congrArg (Value.int _) (by first | exact timesC_yes (by omega) hc12 | exact timesC_no (by omega) hc12)), (by first | assumption | omega | (dsimp only; omega) | (simp; done)), hbb1, hAb1, (by first | assumption | omega | (dsimp only; omega) | (simp; done)), hV⟩
    ·repeat (first | (with_reducible exact Agree.merge _ _ _) | (with_reducible exact Agree.refl _ _) | (with_reducible refine Agree.upd ?_ _ _ rfl) | ((with_reducible refine Agree.inner ?_ ?_); (kernel_rfl)))
  ·skip
   refine r_exit rfl ?_
   refine r_seq ?_
   refine r_region ?_
   refine r_op rfl rfl rfl (run_mv (v := .int _ _) rfl (by exact rfl)) ?_
   refine r_op rfl rfl rfl (run_asg (v := .int _ _) rfl (by exact rfl)) ?_
   refine r_nil ?_
   refine r_ret (res1 (v := .int _ _) rfl (by exact rfl)) ?_
   exact ⟨ret_int (by rw [List.take_of_length_le (by omega)]), hV⟩

set_option maxHeartbeats 1000000 in
theorem rsurplus_calls {aoa aob : Option Addr} {ba offa capa bb offb capb : Nat} {a b : List Vc.Item} {w0 : World} (ha : RowE w0 aoa ba offa capa a) (hb : RowE w0 aob bb offb capb b) (hza : a.length ≤ 1000000) (hzb : b.length ≤ 1000000) :
    Calls Try.prog 101 #[.slice aoa a.length capa, .slice aob b.length capb] w0 fun e w' => e = .returned (.int .i64 (surL a b)) ∧ Evo w0 w' [] := by
 refine calls_enter (n := 72) (args := [.slice aoa a.length capa, .slice aob b.length capb]) Try.func101 rfl Try.ntmps101 rfl ?_
 have hV : Evo w0 w0 [] := Evo.refl _ _
 have ha0 := keepE ha
 have hbd_ha := ha.bd
 have hb0 := keepE hb
 have hbd_hb := hb.bd
 refine r_seq ?_
 refine r_region ?_
 refine r_op rfl rfl rfl (run_asg (v := .int _ _) rfl (by exact rfl)) ?_
 refine r_nil ?_
 refine r_seq ?_
 refine r_region ?_
 refine r_op rfl rfl rfl (run_asg (v := .int _ _) rfl (by exact rfl)) ?_
 refine r_nil ?_
 refine r_seq ?_
 refine r_seq ?_
 refine r_region ?_
 refine r_op rfl rfl rfl (run_mv (v := .slice _ _ _) rfl (by exact rfl)) ?_
 refine r_op rfl rfl rfl (run_lenSl rfl (by exact rfl) Try.underlying63) ?_
 refine r_op rfl rfl rfl (run_mv (v := .int _ _) rfl (by exact rfl)) ?_
 refine r_nil ?_
 refine r_block ?_
 refine r_loop (α := Nat) [5, 6, 7, 8, 13, 14, 15, 16, 17, 18, 19, 20, 21, 22, 23, 24, 25, 26, 27, 28, 29, 30, 31, 32, 33, 34, 35, 36, 37, 38, 39, 40, 41] (fun i g w => g 13 = .int .i64 (i : Nat) ∧ g 5 = .int .i64 (suK a b (a.take i)) ∧ i ≤ a.length ∧ w0.heap.size ≤ w.heap.size ∧ Evo w0 w []) (fun i => a.length - i) 0 ?_ ?_
 ·refine ⟨(by first | exact rfl | exact congrArg (Value.int _) (by omega) | exact congrArg (Value.int _) (by dsimp only; omega) | exact congrArg (Value.int _) (by simp) | exact congrArg S (by simp)), (congrArg (Value.int _) (suK_nil a b).symm), (by first | assumption | omega | (dsimp only; omega) | (simp; done)), (by first | assumption | omega | (dsimp only; omega) | (simp; done)), hV⟩
 ·rintro i g w2 ⟨hj3, hj4, hk_i, hzl1, hV⟩
  have hs_w2hV := hV.size
  replace ha := ha0 _ hV
  replace hb := hb0 _ hV
  refine r_know (i := 13) (v := .int .i64 (i : Nat)) (by exact hj3) ?_
  refine r_know (i := 5) (v := .int .i64 (suK a b (a.take i))) (by exact hj4) ?_
  refine r_seq ?_
  refine r_region ?_
  refine r_op rfl rfl rfl (run_lss rfl (by exact rfl) (by exact rfl)) ?_
  refine r_nil ?_
  refine r_seq ?_
  refine r_cond (by exact rfl) (fun hc5 => ?_) (fun hc5 => ?_)
  ·skip
   refine r_skip ?_
   refine r_seq ?_
   refine r_block ?_
   refine r_seq ?_
   refine r_region ?_
   refine r_op rfl rfl rfl (run_mv (v := .int _ _) rfl (by exact rfl)) ?_
   refine r_op rfl rfl rfl (run_ix (i) rfl Try.underlying63 ty_81 (by exact rfl) (by exact rfl) (by first | exact rfl | omega) (by omega) (ha.addr (i := i) (by omega))) ?_
   have hA60 := fun (w' : World) (h : Evo w0 w' []) => (ha0 w' h).atD (i) (by omega)
   have hA6 := hA60 _ hV
   refine r_op rfl rfl rfl (run_ldN rfl ag_81 ty_81 (by exact rfl) rfl hA6) ?_
   refine r_alloc (zs := [_, _, _]) ty_81 (by exact rfl) rfl ?_
   intro b7 w8 heb7 hEw8 hbb7 hzb7
   have hs_w8 := (hEw8).size
   replace hV := evo_step0 hV hEw8
   replace ha := ha0 _ hV
   replace hb := hb0 _ hV
   replace hA6 := hA60 _ hV
   have hAb7 := hbb7.at
   refine r_op rfl rfl rfl (run_asg (v := .int _ _) rfl (by exact rfl)) ?_
   refine r_store (v := .agg _) (vs := [_, _, _]) (cs' := [_, _, _]) (by exact rfl) (by exact rfl) hbb7 ty_81 (by exact rfl) rfl (by exact rfl) rfl (by exact rfl) ?_
   intro w9 hEw9 hzw9 hb_new
   have hs_w9 := (hEw9).size
   replace hV := evo_step1 hV hEw9 (by first | exact .inl (by omega) | exact .inr (by simp))
   replace ha := ha0 _ hV
   replace hb := hb0 _ hV
   replace hbb7 := hb_new
   have hAb7 := hbb7.at
   clear hb_new
   refine r_nil ?_
   refine r_seq ?_
   have hki := List.length_take_of_le (show i ≤ a.length by omega); have hsb := suK_bd a b (a.take i) (by omega) (by omega) (by omega); have ht1 := timesC_bd a (a.getD i default); have ht2 := timesC_bd b (a.getD i default)
   refine r_qregion (by kernel_rfl) (by kernel_rfl) ?_
   refine q_op rfl rfl rfl (fun w' hC => run_ldN rfl ag_81 ty_81 (by exact rfl) rfl (hAb7.evo0 hC)) ?_
   refine q_call rfl rfl rfl (fun w' hC => run_callf rfl (argcons (v := .agg _) (by exact rfl) (rfl)) Try.func133 rfl (by kernel_rfl)) (fun w' hC => (sristag_calls (x := (a.getD i default))).mono (fun e w'' h => ⟨h.1, evo_step0 hC h.2⟩)) ?_
   refine q_op rfl rfl rfl (fun w' hC => run_mv (v := .bool _) rfl (by exact rfl)) ?_
   refine q_g rfl (wantT (by exact rfl)) rfl (fun hg w' hC => run_mv (v := .slice _ _ _) rfl (by exact rfl)) ?_
   refine q_g rfl (wantT (by exact rfl)) rfl (fun hg w' hC => run_mv (v := .int _ _) rfl (by exact rfl)) ?_
   refine q_g rfl (wantT (by exact rfl)) rfl (fun hg w' hC => run_slE (0) (i) rfl Try.underlying63 ty_81 (glv (by exact rfl) (fun h => h) hg) (ha.evo0 hC) lo0 (at1 (glv (by exact rfl) (fun h => h) hg) (by omega)) (by first | omega | (simp; omega)) (by first | omega | (simp; omega)) List.drop_zero) ?_
   have hS100 := fun (w' : World) (h : Evo w0 w' []) => (by have h9 := ((ha0 w' h).take (i)).drop (0); rw [List.drop_zero] at h9; exact h9)
   have hS10 := (by have h9 := (ha.take (i)).drop (0); rw [List.drop_zero] at h9; exact h9)
   have hbd_hS10 := hS10.bd
   refine q_g rfl (wantT (by exact rfl)) rfl (fun hg w' hC => run_ldN rfl ag_81 ty_81 (by exact rfl) rfl (hAb7.evo0 hC)) ?_
   refine q_gcall rfl (wantT (by exact rfl)) rfl (fun hg w' hC => run_callf rfl (argcons (v := .slice _ _ _) (glv (by exact rfl) (fun h => h) hg) (argcons (v := .agg _) (glv (by exact rfl) (fun h => h) hg) (rfl))) Try.func134 rfl (by kernel_rfl)) (fun hg w' hC => (rtimes_calls (x := (a.getD i default)) (hS10.evo0 hC) (by omega)).mono (fun e w'' h => ⟨h.1, evo_step0 hC h.2⟩)) ?_
   refine q_g rfl (wantT (by exact rfl)) rfl (fun hg w' hC => run_eql rfl (glv (by exact rfl) (fun h => h) hg) (by exact rfl)) ?_
   refine q_op rfl rfl rfl (fun w' hC => run_pick_and rfl (by exact rfl) (fun hq => glv (by exact rfl) (fun h => h) hq) rfl) ?_
   refine q_nil (fun w11 hE12 => ?_)
   have hs_w11 := (hE12).size
   replace hV := evo_step0 hV hE12
   replace ha := ha0 _ hV
   replace hb := hb0 _ hV
   replace hbb7 := hbb7.evo0 hE12
   replace hAb7 := hAb7.evo0 hE12
   refine r_cond (by exact rfl) (fun hc13 => ?_) (fun hc13 => ?_)
   ·skip
    refine r_seq ?_
    refine r_qregion (by kernel_rfl) (by kernel_rfl) ?_
    refine q_op rfl rfl rfl (fun w' hC => run_mv (v := .slice _ _ _) rfl (by exact rfl)) ?_
    refine q_op rfl rfl rfl (fun w' hC => run_ldN rfl ag_81 ty_81 (by exact rfl) rfl (hAb7.evo0 hC)) ?_
    refine q_call rfl rfl rfl (fun w' hC => run_callf rfl (argcons (v := .slice _ _ _) (by exact rfl) (argcons (v := .agg _) (by exact rfl) (rfl))) Try.func134 rfl (by kernel_rfl)) (fun w' hC => (rtimes_calls (x := (a.getD i default)) (ha.evo0 hC) (by omega)).mono (fun e w'' h => ⟨h.1, evo_step0 hC h.2⟩)) ?_
    refine q_op rfl rfl rfl (fun w' hC => run_mv (v := .slice _ _ _) rfl (by exact rfl)) ?_
    refine q_op rfl rfl rfl (fun w' hC => run_ldN rfl ag_81 ty_81 (by exact rfl) rfl (hAb7.evo0 hC)) ?_
    refine q_call rfl rfl rfl (fun w' hC => run_callf rfl (argcons (v := .slice _ _ _) (by exact rfl) (argcons (v := .agg _) (by exact rfl) (rfl))) Try.func134 rfl (by kernel_rfl)) (fun w' hC => (rtimes_calls (x := (a.getD i default)) (hb.evo0 hC) (by omega)).mono (fun e w'' h => ⟨h.1, evo_step0 hC h.2⟩)) ?_
    refine q_op rfl rfl rfl (fun w' hC => run_sub rfl (by exact rfl) (by exact rfl) (by omega) (by omega)) ?_
    refine q_op rfl rfl rfl (fun w' hC => run_asg (v := .int _ _) rfl (by exact rfl)) ?_
    refine q_nil (fun w14 hE15 => ?_)
    have hs_w14 := (hE15).size
    replace hV := evo_step0 hV hE15
    replace ha := ha0 _ hV
    replace hb := hb0 _ hV
    refine r_region ?_
    refine r_op rfl rfl rfl (run_mv (v := .int _ _) rfl (by exact rfl)) ?_
    refine r_op rfl rfl rfl (run_mv (v := .int _ _) rfl (by exact rfl)) ?_
    refine r_op rfl rfl rfl (run_mv (v := .int _ _) rfl (by exact rfl)) ?_
    refine r_op rfl rfl rfl (run_neg rfl (by exact rfl) (by omega) (by omega)) ?_
    refine r_op rfl rfl rfl (run_max rfl (by exact rfl) (by exact rfl)) ?_
    refine r_op rfl rfl rfl (run_add rfl (by exact rfl) (by exact rfl) (by omega) (by omega)) ?_
    refine r_op rfl rfl rfl (run_asg (v := .int _ _) rfl (by exact rfl)) ?_
    refine r_nil ?_
    refine r_blk ?_
    refine r_region ?_
    refine r_op rfl rfl rfl (run_add rfl (by exact rfl) (by exact rfl) (by omega) (by omega)) ?_
    refine r_op rfl rfl rfl (run_mv (v := .int _ _) rfl (by exact rfl)) ?_
    refine r_nil ?_
    refine r_again (i + 1) ?_ ?_ ?_
    ·first | omega | (dsimp only; omega)
    ·refine ⟨(by first | exact rfl | exact congrArg (Value.int _) (by omega) | exact congrArg (Value.int _) (by dsimp only; omega) | exact congrArg (Value.int _) (by simp) | exact congrArg S (by simp)), (congrArg (Value.int _) (by first | exact suA_new (by omega) hc13 | exact suA_skip (by omega) hc13)), (by first | assumption | omega | (dsimp only; omega) | (simp; done)), (by first | assumption | omega | (dsimp only; omega) | (simp; done)), hV⟩
    ·repeat (first | (with_reducible exact Agree.merge _ _ _) | (with_reducible exact Agree.refl _ _) | (with_reducible refine Agree.upd ?_ _ _ rfl) | ((with_reducible refine Agree.inner ?_ ?_); (kernel_rfl)))
   ·skip
    refine r_skip ?_
    refine r_blk ?_
    refine r_region ?_
    refine r_op rfl rfl rfl (run_add rfl (by exact rfl) (by exact rfl) (by omega) (by omega)) ?_
    refine r_op rfl rfl rfl (run_mv (v := .int _ _) rfl (by exact rfl)) ?_
    refine r_nil ?_
    refine r_again (i + 1) ?_ ?_ ?_
    ·first | omega | (dsimp only; omega)
    ·refine ⟨(by first | exact rfl | exact congrArg (Value.int _) (by omega) | exact congrArg (Value.int _) (by dsimp only; omega) | exact congrArg (Value.int _) (by simp) | exact congrArg S (by simp)), (congrArg (Value.int _) (by first | exact suA_new (by omega) hc13 | exact suA_skip (by omega) hc13)), (by first | assumption | omega | (dsimp only; omega) | (simp; done)), (by first | assumption | omega | (dsimp only; omega) | (simp; done)), hV⟩
    ·repeat (first | (with_reducible exact Agree.merge _ _ _) | (with_reducible exact Agree.refl _ _) | (with_reducible refine Agree.upd ?_ _ _ rfl) | ((with_reducible refine Agree.inner ?_ ?_); (kernel_rfl)))
  ·skip
   refine r_exit rfl ?_
   refine r_seq ?_
   refine r_seq ?_
   refine r_region ?_
   refine r_op rfl rfl rfl (run_mv (v := .slice _ _ _) rfl (by exact rfl)) ?_
   refine r_op rfl rfl rfl (run_lenSl rfl (by exact rfl) Try.underlying63) ?_
   refine r_op rfl rfl rfl (run_mv (v := .int _ _) rfl (by exact rfl)) ?_
   refine r_nil ?_
   refine r_block ?_
   refine r_loop (α := Nat) [5, 9, 10, 44, 45, 46, 47, 48, 49, 50, 51, 52, 53, 54, 55, 56, 57, 58, 59, 60, 61, 62, 63, 64, 65, 66, 67, 68, 69, 70] (fun q g w => g 44 = .int .i64 (q : Nat) ∧ g 5 = .int .i64 (suK a b (a ++ b.take q)) ∧ q ≤ b.length ∧ w2.heap.size ≤ w.heap.size ∧ Evo w0 w []) (fun q => b.length - q) 0 ?_ ?_
   ·refine ⟨(by first | exact rfl | exact congrArg (Value.int _) (by omega) | exact congrArg (Value.int _) (by dsimp only; omega) | exact congrArg (Value.int _) (by simp) | exact congrArg S (by simp)), (congrArg (Value.int _) (by rw [List.take_of_length_le (by omega), List.take_zero, List.append_nil])), (by first | assumption | omega | (dsimp only; omega) | (simp; done)), (by first | assumption | omega | (dsimp only; omega) | (simp; done)), hV⟩
   ·rintro q g w17 ⟨hj18, hj19, hk_q, hzl16, hV⟩
    have hs_w17hV := hV.size
    replace ha := ha0 _ hV
    replace hb := hb0 _ hV
    refine r_know (i := 44) (v := .int .i64 (q : Nat)) (by exact hj18) ?_
    refine r_know (i := 5) (v := .int .i64 (suK a b (a ++ b.take q))) (by exact hj19) ?_
    refine r_seq ?_
    refine r_region ?_
    refine r_op rfl rfl rfl (run_lss rfl (by exact rfl) (by exact rfl)) ?_
    refine r_nil ?_
    refine r_seq ?_
    refine r_cond (by exact rfl) (fun hc20 => ?_) (fun hc20 => ?_)
    ·skip
     refine r_skip ?_
     refine r_seq ?_
     refine r_block ?_
     refine r_seq ?_
     refine r_region ?_
     refine r_op rfl rfl rfl (run_mv (v := .int _ _) rfl (by exact rfl)) ?_
     refine r_op rfl rfl rfl (run_ix (q) rfl Try.underlying63 ty_81 (by exact rfl) (by exact rfl) (by first | exact rfl | omega) (by omega) (hb.addr (i := q) (by omega))) ?_
     have hA210 := fun (w' : World) (h : Evo w0 w' []) => (hb0 w' h).atD (q) (by omega)
     have hA21 := hA210 _ hV
     refine r_op rfl rfl rfl (run_ldN rfl ag_81 ty_81 (by exact rfl) rfl hA21) ?_
     refine r_alloc (zs := [_, _, _]) ty_81 (by exact rfl) rfl ?_
     intro b22 w23 heb22 hEw23 hbb22 hzb22
     have hs_w23 := (hEw23).size
     replace hV := evo_step0 hV hEw23
     replace ha := ha0 _ hV
     replace hb := hb0 _ hV
     replace hA21 := hA210 _ hV
     have hAb22 := hbb22.at
     refine r_op rfl rfl rfl (run_asg (v := .int _ _) rfl (by exact rfl)) ?_
     refine r_store (v := .agg _) (vs := [_, _, _]) (cs' := [_, _, _]) (by exact rfl) (by exact rfl) hbb22 ty_81 (by exact rfl) rfl (by exact rfl) rfl (by exact rfl) ?_
     intro w24 hEw24 hzw24 hb_new
     have hs_w24 := (hEw24).size
     replace hV := evo_step1 hV hEw24 (by first | exact .inl (by omega) | exact .inr (by simp))
     replace ha := ha0 _ hV
     replace hb := hb0 _ hV
     replace hbb22 := hb_new
     have hAb22 := hbb22.at
     clear hb_new
     refine r_nil ?_
     refine r_seq ?_
     have hki := List.length_take_of_le (show q ≤ b.length by omega); have hsb := suK_bd a b (a ++ b.take q) (by omega) (by omega) (by rw [List.length_append]; omega); have ht1 := timesC_bd a (b.getD q default); have ht2 := timesC_bd b (b.getD q default)
     refine r_qregion (by kernel_rfl) (by kernel_rfl) ?_
     refine q_op rfl rfl rfl (fun w' hC => run_ldN rfl ag_81 ty_81 (by exact rfl) rfl (hAb22.evo0 hC)) ?_
     refine q_call rfl rfl rfl (fun w' hC => run_callf rfl (argcons (v := .agg _) (by exact rfl) (rfl)) Try.func133 rfl (by kernel_rfl)) (fun w' hC => (sristag_calls (x := (b.getD q default))).mono (fun e w'' h => ⟨h.1, evo_step0 hC h.2⟩)) ?_
     refine q_op rfl rfl rfl (fun w' hC => run_mv (v := .bool _) rfl (by exact rfl)) ?_
     refine q_g rfl (wantT (by exact rfl)) rfl (fun hg w' hC => run_mv (v := .slice _ _ _) rfl (by exact rfl)) ?_
     refine q_g rfl (wantT (by exact rfl)) rfl (fun hg w' hC => run_mv (v := .int _ _) rfl (by exact rfl)) ?_
     refine q_g rfl (wantT (by exact rfl)) rfl (fun hg w' hC => run_slE (0) (q) rfl Try.underlying63 ty_81 (glv (by exact rfl) (fun h => h) hg) (hb.evo0 hC) lo0 (at1 (glv (by exact rfl) (fun h => h) hg) (by omega)) (by first | omega | (simp; omega)) (by first | omega | (simp; omega)) List.drop_zero) ?_
     have hS250 := fun (w' : World) (h : Evo w0 w' []) => (by have h9 := ((hb0 w' h).take (q)).drop (0); rw [List.drop_zero] at h9; exact h9)
     have hS25 := (by have h9 := (hb.take (q)).drop (0); rw [List.drop_zero] at h9; exact h9)
     have hbd_hS25 := hS25.bd
     refine q_g rfl (wantT (by exact rfl)) rfl (fun hg w' hC => run_ldN rfl ag_81 ty_81 (by exact rfl) rfl (hAb22.evo0 hC)) ?_
     refine q_gcall rfl (wantT (by exact rfl)) rfl (fun hg w' hC => run_callf rfl (argcons (v := .slice _ _ _) (glv (by exact rfl) (fun h => h) hg) (argcons (v := .agg _) (glv (by exact rfl) (fun h => h) hg) (rfl))) Try.func134 rfl (by kernel_rfl)) (fun hg w' hC => (rtimes_calls (x := (b.getD q default)) (hS25.evo0 hC) (by omega)).mono (fun e w'' h => ⟨h.1, evo_step0 hC h.2⟩)) ?_
     refine q_g rfl (wantT (by exact rfl)) rfl (fun hg w' hC => run_eql rfl (glv (by exact rfl) (fun h => h) hg) (by exact rfl)) ?_
     refine q_op rfl rfl rfl (fun w' hC => run_pick_and rfl (by exact rfl) (fun hq => glv (by exact rfl) (fun h => h) hq) rfl) ?_
     refine q_op rfl rfl rfl (fun w' hC => run_mv (v := .bool _) rfl (by exact rfl)) ?_
     refine q_g rfl (wantT (by exact rfl)) rfl (fun hg w' hC => run_mv (v := .slice _ _ _) rfl (by exact rfl)) ?_
     refine q_g rfl (wantT (by exact rfl)) rfl (fun hg w' hC => run_ldN rfl ag_81 ty_81 (by exact rfl) rfl (hAb22.evo0 hC)) ?_
     refine q_gcall rfl (wantT (by exact rfl)) rfl (fun hg w' hC => run_callf rfl (argcons (v := .slice _ _ _) (glv (by exact rfl) (fun h => h) hg) (argcons (v := .agg _) (glv (by exact rfl) (fun h => h) hg) (rfl))) Try.func134 rfl (by kernel_rfl)) (fun hg w' hC => (rtimes_calls (x := (b.getD q default)) (ha.evo0 hC) (by omega)).mono (fun e w'' h => ⟨h.1, evo_step0 hC h.2⟩)) ?_
     refine q_g rfl (wantT (by exact rfl)) rfl (fun hg w' hC => run_eql rfl (glv (by exact rfl) (fun h => h) hg) (by exact rfl)) ?_
     refine q_op rfl rfl rfl (fun w' hC => run_pick_and rfl (by exact rfl) (fun hq => glv (by exact rfl) (fun h => h) hq) rfl) ?_
     refine q_nil (fun w26 hE27 => ?_)
     have hs_w26 := (hE27).size
     replace hV := evo_step0 hV hE27
     replace ha := ha0 _ hV
     replace hb := hb0 _ hV
     replace hbb22 := hbb22.evo0 hE27
     replace hAb22 := hAb22.evo0 hE27
     refine r_cond (by exact rfl) (fun hc28 => ?_) (fun hc28 => ?_)
     ·skip
      refine r_region ?_
      refine r_op rfl rfl rfl (run_mv (v := .int _ _) rfl (by exact rfl)) ?_
      refine r_op rfl rfl rfl (run_mv (v := .slice _ _ _) rfl (by exact rfl)) ?_
      refine r_op rfl rfl rfl (run_ldN rfl ag_81 ty_81 (by exact rfl) rfl hAb22) ?_
      refine r_opcall rfl rfl rfl (run_callf (vs := [.slice _ _ _, .agg _]) rfl (by exact rfl) Try.func134 rfl (by kernel_rfl)) (rtimes_calls (x := (b.getD q default)) hb (by omega)) ?_
      rintro e w29 ⟨rfl, hE29⟩
      refine ⟨_, rfl, ?_⟩
      have hs_w29 := (hE29).size
      replace hV := evo_step0 hV hE29
      replace ha := ha0 _ hV
      replace hb := hb0 _ hV
      refine r_op rfl rfl rfl (run_add rfl (by exact rfl) (by exact rfl) (by omega) (by omega)) ?_
      refine r_op rfl rfl rfl (run_asg (v := .int _ _) rfl (by exact rfl)) ?_
      refine r_nil ?_
      refine r_blk ?_
      refine r_region ?_
      refine r_op rfl rfl rfl (run_add rfl (by exact rfl) (by exact rfl) (by omega) (by omega)) ?_
      refine r_op rfl rfl rfl (run_mv (v := .int _ _) rfl (by exact rfl)) ?_
      refine r_nil ?_
      refine r_again (q + 1) ?_ ?_ ?_
      ·first | omega | (dsimp only; omega)
      ·refine ⟨(by first | exact rfl | exact congrArg (Value.int _) (by omega) | exact congrArg (Value.int _) (by dsimp only; omega) | exact congrArg (Value.int _) (by simp) | exact congrArg S (by simp)), (congrArg (Value.int _) (by first | exact suB_new (by omega) hc28 | exact suB_skip (by omega) hc28)), (by first | assumption | omega | (dsimp only; omega) | (simp; done)), (by first | assumption | omega | (dsimp only; omega) | (simp; done)), hV⟩
      ·repeat (first | (with_reducible exact Agree.merge _ _ _) | (with_reducible exact Agree.refl _ _) | (with_reducible refine Agree.upd ?_ _ _ rfl) | ((with_reducible refine Agree.inner ?_ ?_); (kernel_rfl)))
     ·skip
      refine r_skip ?_
      refine r_blk ?_
      refine r_region ?_
      refine r_op rfl rfl rfl (run_add rfl (by exact rfl) (by exact rfl) (by omega) (by omega)) ?_
      refine r_op rfl rfl rfl (run_mv (v := .int _ _) rfl (by exact rfl)) ?_
      refine r_nil ?_
      refine r_again (q + 1) ?_ ?_ ?_
      ·first | omega | (dsimp only; omega)
      ·refine ⟨(by first | exact rfl | exact congrArg (Value.int _) (by omega) | exact congrArg (Value.int _) (by dsimp only; omega) | exact congrArg (Value.int _) (by simp) | exact congrArg S (by simp)), (congrArg (Value.int _) (by first | exact suB_new (by omega) hc28 | exact suB_skip (by omega) hc28)), (by first | assumption | omega | (dsimp only; omega) | (simp; done)), (by first | assumption | omega | (dsimp only; omega) | (simp; done)), hV⟩
      ·repeat (first | (with_reducible exact Agree.merge _ _ _) | (with_reducible exact Agree.refl _ _) | (with_reducible refine Agree.upd ?_ _ _ rfl) | ((with_reducible refine Agree.inner ?_ ?_); (kernel_rfl)))
    ·skip
     refine r_exit rfl ?_
     refine r_seq ?_
     refine r_region ?_
     refine r_op rfl rfl rfl (run_mv (v := .int _ _) rfl (by exact rfl)) ?_
     refine r_op rfl rfl rfl (run_asg (v := .int _ _) rfl (by exact rfl)) ?_
     refine r_nil ?_
     refine r_ret (res1 (v := .int _ _) rfl (by exact rfl)) ?_
     exact ⟨ret_int (by rw [List.take_of_length_le (by omega)]; exact suK_end a b), hV⟩

set_option maxHeartbeats 1000000 in
theorem bound_calls {aoa aob : Option Addr} {ba offa capa bb offb capb : Nat} {a b : List Vc.Item} {w0 : World} (ha : RowE w0 aoa ba offa capa a) (hb : RowE w0 aob bb offb capb b) (hqa : ∀ x ∈ a, x.text.length ≤ 140737488355328) (hqb : ∀ x ∈ b, x.text.length ≤ 140737488355328) (hsa : a.length ≤ 900000) (hsb : b.length ≤ 900000) :
    Calls Try.prog 56 #[.slice aoa a.length capa, .slice aob b.length capb] w0 fun e w' => e = .returned (.int .i64 (boundL a b)) ∧ Evo w0 w' [] := by
 refine calls_enter (n := 27) (args := [.slice aoa a.length capa, .slice aob b.length capb]) Try.func56 rfl Try.ntmps56 rfl ?_
 have hV : Evo w0 w0 [] := Evo.refl _ _
 have ha0 := keepE ha
 have hbd_ha := ha.bd
 have hb0 := keepE hb
 have hbd_hb := hb.bd
 refine r_seq ?_
 refine r_region ?_
 refine r_op rfl rfl rfl (run_asg (v := .int _ _) rfl (by exact rfl)) ?_
 refine r_nil ?_
 refine r_seq ?_
 have hwa := wordsT_len a; have hwb := wordsT_len b; have hga := gramsL_len (wordsT a); have hgb := gramsL_len (wordsT b); have hmb := mssL_bd a b; have hbb := bag_nonneg a b (by omega) (by omega); have hm1 := lackL_bd (gramsL (wordsT a)) (gramsL (wordsT b)); have hm2 := lackL_bd (gramsL (wordsT b)) (gramsL (wordsT a)); have htd := Int.tdiv_eq_ediv_of_nonneg (a := max (lackL (gramsL (wordsT a)) (gramsL (wordsT b))) (lackL (gramsL (wordsT b)) (gramsL (wordsT a))) + 1) (b := 2) (by omega)
 refine r_region ?_
 refine r_op rfl rfl rfl (run_mv (v := .slice _ _ _) rfl (by exact rfl)) ?_
 refine r_opcall rfl rfl rfl (run_callf (vs := [.slice _ _ _]) rfl (by exact rfl) Try.func44 rfl (by kernel_rfl)) (words_calls ha hqa (by omega)) ?_
 rintro e w1 ⟨vw1, rfl, hE1, how1⟩
 refine ⟨_, rfl, ?_⟩
 have hs_w1 := (hE1).size
 replace hV := evo_step0 hV hE1
 replace ha := ha0 _ hV
 replace hb := hb0 _ hV
 obtain ⟨ao2, g2, cp2, hv2, hr2, hg2⟩ := how1.rowOf
 subst hv2
 refine r_opcall rfl rfl rfl (run_callf (vs := [.slice _ _ _]) rfl (by exact rfl) Try.func47 rfl (by kernel_rfl)) (grams_calls hr2 (by omega)) ?_
 rintro e w3 ⟨vg3, rfl, hE3, hog3⟩
 refine ⟨_, rfl, ?_⟩
 have hs_w3 := (hE3).size
 replace hV := evo_step0 hV hE3
 replace ha := ha0 _ hV
 replace hb := hb0 _ hV
 replace how1 := how1.evo0 hE3
 replace hr2 := hr2.evo0 hE3
 refine r_op rfl rfl rfl (run_mv (v := .slice _ _ _) rfl (by exact rfl)) ?_
 refine r_opcall rfl rfl rfl (run_callf (vs := [.slice _ _ _]) rfl (by exact rfl) Try.func44 rfl (by kernel_rfl)) (words_calls hb hqb (by omega)) ?_
 rintro e w4 ⟨vw4, rfl, hE4, how4⟩
 refine ⟨_, rfl, ?_⟩
 have hs_w4 := (hE4).size
 replace hV := evo_step0 hV hE4
 replace ha := ha0 _ hV
 replace hb := hb0 _ hV
 replace how1 := how1.evo0 hE4
 replace hr2 := hr2.evo0 hE4
 replace hog3 := hog3.evo0 hE4
 obtain ⟨ao5, g5, cp5, hv5, hr5, hg5⟩ := how4.rowOf
 subst hv5
 refine r_opcall rfl rfl rfl (run_callf (vs := [.slice _ _ _]) rfl (by exact rfl) Try.func47 rfl (by kernel_rfl)) (grams_calls hr5 (by omega)) ?_
 rintro e w6 ⟨vg6, rfl, hE6, hog6⟩
 refine ⟨_, rfl, ?_⟩
 have hs_w6 := (hE6).size
 replace hV := evo_step0 hV hE6
 replace ha := ha0 _ hV
 replace hb := hb0 _ hV
 replace how1 := how1.evo0 hE6
 replace hr2 := hr2.evo0 hE6
 replace hog3 := hog3.evo0 hE6
 replace how4 := how4.evo0 hE6
 replace hr5 := hr5.evo0 hE6
 refine r_op rfl rfl rfl (run_asg (v := vg3) rfl (by exact rfl)) ?_
 refine r_op rfl rfl rfl (run_asg (v := vg6) rfl (by exact rfl)) ?_
 refine r_nil ?_
 refine r_seq ?_
 refine r_region ?_
 refine r_op rfl rfl rfl (run_mv (v := .slice _ _ _) rfl (by exact rfl)) ?_
 refine r_op rfl rfl rfl (run_mv (v := .slice _ _ _) rfl (by exact rfl)) ?_
 refine r_opcall rfl rfl rfl (run_callf (vs := [.slice _ _ _, .slice _ _ _]) rfl (by exact rfl) Try.func54 rfl (by kernel_rfl)) (bag_calls ha hb hqa hqb (by omega) (by omega)) ?_
 rintro e w7 ⟨rfl, hE7⟩
 refine ⟨_, rfl, ?_⟩
 have hs_w7 := (hE7).size
 replace hV := evo_step0 hV hE7
 replace ha := ha0 _ hV
 replace hb := hb0 _ hV
 replace how1 := how1.evo0 hE7
 replace hr2 := hr2.evo0 hE7
 replace hog3 := hog3.evo0 hE7
 replace how4 := how4.evo0 hE7
 replace hr5 := hr5.evo0 hE7
 replace hog6 := hog6.evo0 hE7
 refine r_op rfl rfl rfl (run_mv (v := vg3) rfl (by exact rfl)) ?_
 refine r_op rfl rfl rfl (run_mv (v := vg6) rfl (by exact rfl)) ?_
 obtain ⟨ao8, g8, cp8, hv8, hr8, hg8⟩ := hog3.rowOf
 subst hv8
 obtain ⟨ao9, g9, cp9, hv9, hr9, hg9⟩ := hog6.rowOf
 subst hv9
 refine r_opcall rfl rfl rfl (run_callf (vs := [.slice _ _ _, .slice _ _ _]) rfl (by exact rfl) Try.func50 rfl (by kernel_rfl)) (missing_calls hr8 hr9 (by omega) (by omega)) ?_
 rintro e w10 ⟨rfl, hE10⟩
 refine ⟨_, rfl, ?_⟩
 have hs_w10 := (hE10).size
 replace hV := evo_step0 hV hE10
 replace ha := ha0 _ hV
 replace hb := hb0 _ hV
 replace how1 := how1.evo0 hE10
 replace hr2 := hr2.evo0 hE10
 replace hog3 := hog3.evo0 hE10
 replace how4 := how4.evo0 hE10
 replace hr5 := hr5.evo0 hE10
 replace hog6 := hog6.evo0 hE10
 replace hr8 := hr8.evo0 hE10
 replace hr9 := hr9.evo0 hE10
 refine r_op rfl rfl rfl (run_mv (v := .slice _ _ _) rfl (by exact rfl)) ?_
 refine r_op rfl rfl rfl (run_mv (v := .slice _ _ _) rfl (by exact rfl)) ?_
 refine r_opcall rfl rfl rfl (run_callf (vs := [.slice _ _ _, .slice _ _ _]) rfl (by exact rfl) Try.func50 rfl (by kernel_rfl)) (missing_calls hr9 hr8 (by omega) (by omega)) ?_
 rintro e w11 ⟨rfl, hE11⟩
 refine ⟨_, rfl, ?_⟩
 have hs_w11 := (hE11).size
 replace hV := evo_step0 hV hE11
 replace ha := ha0 _ hV
 replace hb := hb0 _ hV
 replace how1 := how1.evo0 hE11
 replace hr2 := hr2.evo0 hE11
 replace hog3 := hog3.evo0 hE11
 replace how4 := how4.evo0 hE11
 replace hr5 := hr5.evo0 hE11
 replace hog6 := hog6.evo0 hE11
 replace hr8 := hr8.evo0 hE11
 replace hr9 := hr9.evo0 hE11
 refine r_op rfl rfl rfl (run_max rfl (by exact rfl) (by exact rfl)) ?_
 refine r_op rfl rfl rfl (run_add rfl (by exact rfl) (by exact rfl) (by omega) (by omega)) ?_
 refine r_op rfl rfl rfl (run_quo rfl (by exact rfl) (by exact rfl) (by omega) (by omega) (by omega)) ?_
 refine r_op rfl rfl rfl (run_mul rfl (by exact rfl) (by exact rfl) (by omega) (by omega)) ?_
 refine r_op rfl rfl rfl (run_max rfl (by exact rfl) (by exact rfl)) ?_
 refine r_op rfl rfl rfl (run_asg (v := .int _ _) rfl (by exact rfl)) ?_
 refine r_nil ?_
 refine r_ret (res1 (v := .int _ _) rfl (by exact rfl)) ?_
 exact ⟨ret_int (by unfold boundL mssL; first | (rw [htd]; done) | rfl | (simp only [Int.tdiv_eq_ediv_of_nonneg (show (0 : Int) ≤ max (lackL (gramsL (wordsT a)) (gramsL (wordsT b))) (lackL (gramsL (wordsT b)) (gramsL (wordsT a))) + 1 by omega)]; done)), hV⟩

end Go.Proofs.Ytomklacppmaljaa

namespace Go.Proofs.Ytomklacppmaljaa
open Go.RowKit Go.Vc
def KW : List Str := [[97], [98], [97]]
def KRa : List Vc.Item := [⟨1, [114, 101, 100, 32, 99, 97, 114], 0⟩]
def KRb : List Vc.Item := [⟨1, [82, 101, 100, 32, 99, 97, 114, 115], 0⟩]
def KTa : List Vc.Item := [⟨6, [114, 101, 100], 0⟩, ⟨8, [32], 0⟩, ⟨6, [99, 97, 114], 0⟩]
def KTb : List Vc.Item := [⟨6, [82, 101, 100], 0⟩, ⟨8, [32], 0⟩, ⟨6, [99, 97, 114, 115], 0⟩]
theorem cutT_at {s r : Str} {k : Int} {n : Nat} (h : s ≠ []) (e : tokN s = (k, n)) (er : s.drop n = r) : cutT s = ⟨k, s.take n, 0⟩ :: cutT r := by
  rw [cutT_cons h, e, er]
theorem ktok_a : toks KRa = KTa := by
  show cutT [114, 101, 100, 32, 99, 97, 114] ++ [] = _
  rw [cutT_at (k := 6) (n := 3) (r := [32, 99, 97, 114]) (by decide) (by decide +kernel) rfl, cutT_at (k := 8) (n := 1) (r := [99, 97, 114]) (by decide) (by decide +kernel) rfl, cutT_at (k := 6) (n := 3) (r := []) (by decide) (by decide +kernel) rfl, cutT_nil]
  rfl
theorem ktok_b : toks KRb = KTb := by
  show cutT [82, 101, 100, 32, 99, 97, 114, 115] ++ [] = _
  rw [cutT_at (k := 6) (n := 3) (r := [32, 99, 97, 114, 115]) (by decide) (by decide +kernel) rfl, cutT_at (k := 8) (n := 1) (r := [99, 97, 114, 115]) (by decide) (by decide +kernel) rfl, cutT_at (k := 6) (n := 4) (r := []) (by decide) (by decide +kernel) rfl, cutT_nil]
  rfl
theorem known_bound : boundL KTa KTb = 4 := by decide +kernel
theorem known_len : (gramsL KW).length = 4 := by decide +kernel
theorem known_first : (gramsL KW).getD 0 default = ⟨[], [97], 1⟩ := by decide +kernel
end Go.Proofs.Ytomklacppmaljaa

