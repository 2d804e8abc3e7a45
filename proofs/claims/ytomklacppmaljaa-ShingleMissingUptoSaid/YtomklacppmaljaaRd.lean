/-
  Walks of functions that the statement reaches (joined by a program out of smaller texts).
-/
import Derived.Test.YtomklacppmaljaaRc
import Derived.Test.YtomklacppmaljaaPh
import Derived.Test.YtomklacppmaljaaOwz
import Derived.Test.YtomklacppmaljaaLb
import Derived.Test.YtomklacppmaljaaUpb
namespace Go.Proofs.Ytomklacppmaljaa
open Go.RowKit Go.Vc
section
variable {α : Type}
theorem sum_zero {f : α → Int} : ∀ {ks : List α}, (∀ c ∈ ks, f c = 0) → sumZ (ks.map f) = 0
  | [], _ => rfl
  | k :: ks, h => by rw [List.map_cons, sumZ_cons, h k (by simp), sum_zero (fun c hc => h c (by simp [hc]))]; rfl
end
section
variable {α : Type} [DecidableEq α]
end
/-- the classes of a list -/
def clsL (l : List Vc.Item) : List Vc.Item := (l.filter (fun x => decide (clB x))).map clV
theorem cls_yes {l : List Vc.Item} {k : Nat} (hk : k < l.length) (h : clB (l.getD k default)) : clsL (l.take (k + 1)) = clsL (l.take k) ++ [clV (l.getD k default)] := by
  unfold clsL; rw [take_succD l k hk, List.filter_append, List.map_append, List.filter_cons_of_pos (p := fun x : Vc.Item => decide (clB x)) (decide_eq_true h)]; rfl
theorem cls_no {l : List Vc.Item} {k : Nat} (hk : k < l.length) (h : ¬ clB (l.getD k default)) : clsL (l.take (k + 1)) = clsL (l.take k) := by
  unfold clsL; rw [take_succD l k hk, List.filter_append, List.map_append, List.filter_cons_of_neg (p := fun x : Vc.Item => decide (clB x)) (by simpa using h)]; simp
theorem cls_len (l : List Vc.Item) : (clsL l).length ≤ l.length := by unfold clsL; rw [List.length_map]; exact List.length_filter_le _ _
/-- how often more -/
def dlt (a b : List Vc.Item) (c : Vc.Item) : Int := (((clsL a).count c : Nat) : Int) - (((clsL b).count c : Nat) : Int)
theorem dlt_swap (a b : List Vc.Item) (c : Vc.Item) : dlt b a c = -(dlt a b c) := by unfold dlt; omega
theorem dlt_bd (a b : List Vc.Item) (c : Vc.Item) : -(b.length : Int) ≤ dlt a b c ∧ dlt a b c ≤ (a.length : Int) := by
  have h1 := List.count_le_length (a := c) (l := clsL a)
  have h2 := List.count_le_length (a := c) (l := clsL b)
  have h3 := cls_len a
  have h4 := cls_len b
  unfold dlt; omega
def upF (n : Int) (c : Vc.Item) : Int := if tgB c then 0 else max n 0 * wK c.kind
def tgF (n : Int) (c : Vc.Item) : Int := if tgB c then max n (-n) else 0
def keysL (a b : List Vc.Item) : List Vc.Item := dist (clsL a ++ clsL b)
def upL (a b : List Vc.Item) : Int := sumZ ((keysL a b).map fun c => upF (dlt a b c) c)
def surL (a b : List Vc.Item) : Int := sumZ ((keysL a b).map fun c => tgF (dlt a b c) c)
def bagL (a b : List Vc.Item) : Int := max (upL a b) (upL b a) + 3 * surL a b
theorem keys_mem {a b : List Vc.Item} {c : Vc.Item} : c ∈ keysL a b ↔ c ∈ clsL a ∨ c ∈ clsL b := by unfold keysL; rw [dist_mem, List.mem_append]
theorem keys_nodup (a b : List Vc.Item) : (keysL a b).Nodup := dist_nodup _
theorem keys_swap (a b : List Vc.Item) : (keysL a b).Perm (keysL b a) := nodup_perm (keys_nodup a b) (keys_nodup b a) fun x => by rw [keys_mem, keys_mem]; exact Or.comm
theorem up_swap (a b : List Vc.Item) : upL b a = sumZ ((keysL a b).map fun c => upF (-(dlt a b c)) c) := by
  unfold upL
  rw [sumZ_perm ((keys_swap b a).map _)]
  congr 1
  exact List.map_congr_left fun c _ => by rw [dlt_swap a b c]
theorem wK_val (k : Int) : wK k = 0 ∨ wK k = 1 ∨ wK k = 2 ∨ wK k = 3 ∨ wK k = 4 := by have := wK_bd k; omega
theorem upF_bd (n : Int) (c : Vc.Item) : 0 ≤ upF n c ∧ upF n c ≤ 4 * max n 0 := by
  unfold upF
  split
  · omega
  · rcases wK_val c.kind with h | h | h | h | h <;> rw [h] <;> omega
theorem tgF_bd (n : Int) (c : Vc.Item) : 0 ≤ tgF n c ∧ tgF n c ≤ max n (-n) := by unfold tgF; split <;> omega
def CntM (ps qs : List Vc.Item) (m : List (Vc.Item × Int)) : Prop := ∀ x, getM m x = if x ∈ ps ∨ x ∈ qs then some (((ps.count x : Nat) : Int) - ((qs.count x : Nat) : Int)) else none
theorem CntM.nil : CntM [] [] [] := fun x => by simp [getM]
theorem CntM.get {ps qs : List Vc.Item} {m : List (Vc.Item × Int)} (h : CntM ps qs m) (x : Vc.Item) : (getM m x).getD 0 = ((ps.count x : Nat) : Int) - ((qs.count x : Nat) : Int) := by
  rw [h x]
  by_cases hx : x ∈ ps ∨ x ∈ qs
  · rw [if_pos hx]; rfl
  · rw [if_neg hx, List.count_eq_zero.2 (fun q => hx (.inl q)), List.count_eq_zero.2 (fun q => hx (.inr q))]; rfl
theorem CntM.inc {ps qs : List Vc.Item} {m m2 : List (Vc.Item × Int)} {a : Vc.Item} (h : CntM ps qs m) (hb : Bump m m2 a 1) : CntM (ps ++ [a]) qs m2 := fun x => by
  rw [hb x]
  by_cases e : x = a
  · subst e
    rw [if_pos rfl, if_pos (by simp), h.get, List.count_append]; simp; omega
  · rw [if_neg e, h x]
    have e2 : (ps ++ [a]).count x = ps.count x := by rw [List.count_append, List.count_singleton]; simp [Ne.symm e]
    rw [e2]
    by_cases hx : x ∈ ps ∨ x ∈ qs
    · rw [if_pos hx, if_pos (hx.imp_left (fun q => List.mem_append_left _ q))]
    · rw [if_neg hx, if_neg (fun q => hx (q.imp_left (fun q => (List.mem_append.1 q).resolve_right (by simpa using e))))]
theorem CntM.dec {ps qs : List Vc.Item} {m m2 : List (Vc.Item × Int)} {a : Vc.Item} (h : CntM ps qs m) (hb : Bump m m2 a (-1)) : CntM ps (qs ++ [a]) m2 := fun x => by
  rw [hb x]
  by_cases e : x = a
  · subst e
    rw [if_pos rfl, if_pos (by simp), h.get, List.count_append]; simp; omega
  · rw [if_neg e, h x]
    have e2 : (qs ++ [a]).count x = qs.count x := by rw [List.count_append, List.count_singleton]; simp [Ne.symm e]
    rw [e2]
    by_cases hx : x ∈ ps ∨ x ∈ qs
    · rw [if_pos hx, if_pos (hx.imp_right (fun q => List.mem_append_left _ q))]
    · rw [if_neg hx, if_neg (fun q => hx (q.imp_right (fun q => (List.mem_append.1 q).resolve_right (by simpa using e))))]
theorem CntM.keys {a b : List Vc.Item} {m : List (Vc.Item × Int)} (h : CntM (clsL a) (clsL b) m) (hn : (m.map (·.1)).Nodup) : (m.map (·.1)).Perm (keysL a b) := nodup_perm hn (keys_nodup a b) fun x => by
  rw [keys_mem]
  constructor
  · intro hx
    obtain ⟨q, hq, rfl⟩ := List.mem_map.1 hx
    have h2 : getM m q.1 = some q.2 := getM_of_memZ hn hq
    rw [h q.1] at h2
    exact Classical.byContradiction fun hc => by rw [if_neg hc] at h2; cases h2
  · intro hx
    have h2 := h x
    rw [if_pos hx] at h2
    exact List.mem_map.2 ⟨_, getM_mem_of h2, rfl⟩
theorem CntM.val {a b : List Vc.Item} {m : List (Vc.Item × Int)} (h : CntM (clsL a) (clsL b) m) (hn : (m.map (·.1)).Nodup) {q : Vc.Item × Int} (hq : q ∈ m) : q.2 = dlt a b q.1 := by
  have h2 : getM m q.1 = some q.2 := getM_of_memZ hn hq
  have h3 := h.get q.1
  rw [h2] at h3
  exact h3
theorem CntM.vbd {a b : List Vc.Item} {m : List (Vc.Item × Int)} (h : CntM (clsL a) (clsL b) m) (hn : (m.map (·.1)).Nodup) (ha : a.length ≤ 1000000) (hb : b.length ≤ 1000000) {q : Vc.Item × Int} (hq : q ∈ m) : -1000000 ≤ q.2 ∧ q.2 ≤ 1000000 := by
  rw [h.val hn hq]; have := dlt_bd a b q.1; omega
theorem mulw_bd {n k : Int} (h : -1000000 ≤ n ∧ n ≤ 1000000) : -4000000 ≤ n * wK k ∧ n * wK k ≤ 4000000 := by
  rcases wK_val k with e | e | e | e | e <;> rw [e] <;> omega
theorem CntM.len {a b : List Vc.Item} {m : List (Vc.Item × Int)} (h : CntM (clsL a) (clsL b) m) (hn : (m.map (·.1)).Nodup) : m.length ≤ a.length + b.length := by
  have h1 := (h.keys hn).length_eq
  have h2 := List.Nodup.length_le_of_subset (keys_nodup a b) (l₂ := clsL a ++ clsL b) (fun x hx => by rw [List.mem_append]; exact keys_mem.1 hx)
  rw [List.length_append] at h2
  have h3 := cls_len a
  have h4 := cls_len b
  rw [List.length_map] at h1
  omega
theorem CntM.sum {a b : List Vc.Item} {m d : List (Vc.Item × Int)} (h : CntM (clsL a) (clsL b) m) (hn : (m.map (·.1)).Nodup) (hp : d.Perm m) (F : Int → Vc.Item → Int) : sumZ (d.map fun q => F q.2 q.1) = sumZ ((keysL a b).map fun c => F (dlt a b c) c) := by
  rw [sumZ_perm (hp.map _), ← sumZ_perm ((h.keys hn).map _), List.map_map]
  congr 1
  exact List.map_congr_left fun q hq => by rw [h.val hn hq]; rfl
def upS (d : List (Vc.Item × Int)) : Int := sumZ (d.map fun q => upF q.2 q.1)
def dnS (d : List (Vc.Item × Int)) : Int := sumZ (d.map fun q => upF (-q.2) q.1)
def tgS (d : List (Vc.Item × Int)) : Int := 3 * sumZ (d.map fun q => tgF q.2 q.1)
theorem bag_done {a b : List Vc.Item} {m d : List (Vc.Item × Int)} (h : CntM (clsL a) (clsL b) m) (hn : (m.map (·.1)).Nodup) (hp : d.Perm m) : max (upS d) (dnS d) + tgS d = bagL a b := by
  unfold upS dnS tgS bagL
  rw [h.sum hn hp upF, h.sum hn hp tgF, h.sum hn hp (fun n c => upF (-n) c), up_swap a b]; rfl
theorem S_snoc (f : Vc.Item × Int → Int) (d : List (Vc.Item × Int)) (q : Vc.Item × Int) : sumZ ((d ++ [q]).map f) = sumZ (d.map f) + f q := by rw [List.map_append, sumZ_append]; simp [sumZ]
theorem bag_tag {d : List (Vc.Item × Int)} {q : Vc.Item × Int} (h : tgB q.1) : upS (d ++ [q]) = upS d ∧ dnS (d ++ [q]) = dnS d ∧ tgS (d ++ [q]) = tgS d + 3 * max q.2 (-q.2) := by
  unfold upS dnS tgS
  rw [S_snoc, S_snoc, S_snoc]
  unfold upF tgF
  rw [if_pos h, if_pos h, if_pos h]; omega
theorem bag_up {d : List (Vc.Item × Int)} {q : Vc.Item × Int} (h : ¬ tgB q.1) (h2 : 0 < q.2) : upS (d ++ [q]) = upS d + q.2 * wK q.1.kind ∧ dnS (d ++ [q]) = dnS d ∧ tgS (d ++ [q]) = tgS d := by
  unfold upS dnS tgS
  rw [S_snoc, S_snoc, S_snoc]
  unfold upF tgF
  rw [if_neg h, if_neg h, if_neg h, show max q.2 0 = q.2 by omega, show max (-q.2) 0 = 0 by omega, Int.zero_mul]; omega
theorem bag_dn {d : List (Vc.Item × Int)} {q : Vc.Item × Int} (h : ¬ tgB q.1) (h2 : ¬ 0 < q.2) : upS (d ++ [q]) = upS d ∧ dnS (d ++ [q]) = dnS d - q.2 * wK q.1.kind ∧ tgS (d ++ [q]) = tgS d := by
  unfold upS dnS tgS
  rw [S_snoc, S_snoc, S_snoc]
  unfold upF tgF
  rw [if_neg h, if_neg h, if_neg h, show max q.2 0 = 0 by omega, show max (-q.2) 0 = -q.2 by omega, Int.zero_mul, Int.neg_mul]; omega
theorem bag_bd {d m : List (Vc.Item × Int)} (hs : m.length ≤ 2000000) (hl : d.length ≤ m.length) (hv : ∀ q ∈ d, -1000000 ≤ q.2 ∧ q.2 ≤ 1000000) : 0 ≤ upS d ∧ upS d ≤ 8000000000000 ∧ 0 ≤ dnS d ∧ dnS d ≤ 8000000000000 ∧ 0 ≤ tgS d ∧ tgS d ≤ 24000000000000 := by
  have key : ∀ (f : Vc.Item × Int → Int), (∀ q ∈ d, 0 ≤ f q ∧ f q ≤ 4000000) → 0 ≤ sumZ (d.map f) ∧ sumZ (d.map f) ≤ 8000000000000 := fun f hf => by
    refine ⟨sumZ_nonneg fun x hx => ?_, ?_⟩
    · obtain ⟨q, hq, rfl⟩ := List.mem_map.1 hx; exact (hf q hq).1
    · have := sumZ_le (l := d.map f) (n := 4000000) (by omega) (fun x hx => by obtain ⟨q, hq, rfl⟩ := List.mem_map.1 hx; exact (hf q hq).2)
      rw [List.length_map] at this; omega
  have h1 := key (fun q => upF q.2 q.1) fun q hq => by have h := upF_bd q.2 q.1; have := hv q hq; omega
  have h2 := key (fun q => upF (-q.2) q.1) fun q hq => by have h := upF_bd (-q.2) q.1; have := hv q hq; omega
  have h3 := key (fun q => tgF q.2 q.1) fun q hq => by have h := tgF_bd q.2 q.1; have := hv q hq; omega
  unfold upS dnS tgS; omega
theorem up_bd (a b : List Vc.Item) (ha : a.length ≤ 1000000) (hb : b.length ≤ 1000000) : 0 ≤ upL a b ∧ upL a b ≤ 8000000000000 := by
  have hl : (keysL a b).length ≤ 2000000 := by
    have h2 := List.Nodup.length_le_of_subset (keys_nodup a b) (l₂ := clsL a ++ clsL b) (fun x hx => by rw [List.mem_append]; exact keys_mem.1 hx)
    have h3 := cls_len a
    have h4 := cls_len b
    rw [List.length_append] at h2; omega
  have hf : ∀ c, 0 ≤ upF (dlt a b c) c ∧ upF (dlt a b c) c ≤ 4000000 := fun c => by have h := upF_bd (dlt a b c) c; have := dlt_bd a b c; omega
  refine ⟨sumZ_nonneg fun x hx => ?_, ?_⟩
  · obtain ⟨q, hq, rfl⟩ := List.mem_map.1 hx; exact (hf q).1
  · have := sumZ_le (l := (keysL a b).map fun c => upF (dlt a b c) c) (n := 4000000) (by omega) (fun x hx => by obtain ⟨q, hq, rfl⟩ := List.mem_map.1 hx; exact (hf q).2)
    rw [List.length_map] at this; unfold upL; omega
theorem sur_bd (a b : List Vc.Item) (ha : a.length ≤ 1000000) (hb : b.length ≤ 1000000) : 0 ≤ surL a b ∧ surL a b ≤ 2000000000000 := by
  have hl : (keysL a b).length ≤ 2000000 := by
    have h2 := List.Nodup.length_le_of_subset (keys_nodup a b) (l₂ := clsL a ++ clsL b) (fun x hx => by rw [List.mem_append]; exact keys_mem.1 hx)
    have h3 := cls_len a
    have h4 := cls_len b
    rw [List.length_append] at h2; omega
  have hf : ∀ c, 0 ≤ tgF (dlt a b c) c ∧ tgF (dlt a b c) c ≤ 1000000 := fun c => by have h := tgF_bd (dlt a b c) c; have := dlt_bd a b c; omega
  refine ⟨sumZ_nonneg fun x hx => ?_, ?_⟩
  · obtain ⟨q, hq, rfl⟩ := List.mem_map.1 hx; exact (hf q).1
  · have := sumZ_le (l := (keysL a b).map fun c => tgF (dlt a b c) c) (n := 1000000) (by omega) (fun x hx => by obtain ⟨q, hq, rfl⟩ := List.mem_map.1 hx; exact (hf q).2)
    rw [List.length_map] at this; unfold surL; omega
theorem bag_nonneg (a b : List Vc.Item) (ha : a.length ≤ 1000000) (hb : b.length ≤ 1000000) : 0 ≤ bagL a b ∧ bagL a b ≤ 20000000000000 := by
  have h1 := up_bd a b ha hb
  have h2 := up_bd b a hb ha
  have h3 := sur_bd a b ha hb
  unfold bagL; omega
def likeB (x y : Vc.Item) : Prop := x.kind = y.kind ∧ 5 ≤ x.kind ∧ x.kind ≤ 9 ∧ keyT x = keyT y
instance (x y : Vc.Item) : Decidable (likeB x y) := by unfold likeB; infer_instance
def sameB (x y : Vc.Item) : Prop := x.kind = y.kind ∧ x.text = y.text
instance (x y : Vc.Item) : Decidable (sameB x y) := by unfold sameB; infer_instance
def mssL (a b : List Vc.Item) : Int := max (lackL (gramsL (wordsT a)) (gramsL (wordsT b))) (lackL (gramsL (wordsT b)) (gramsL (wordsT a)))
def boundL (a b : List Vc.Item) : Int := max (bagL a b) (4 * ((mssL a b + 1) / 2))
theorem lackL_bd (a b : List Gram) : 0 ≤ lackL a b ∧ lackL a b ≤ 1073741824 := by have := lackK_pos a b (dist (a.map prG)); unfold lackL; omega
theorem mssL_bd (a b : List Vc.Item) : 0 ≤ mssL a b ∧ mssL a b ≤ 1073741824 := by have h1 := lackL_bd (gramsL (wordsT a)) (gramsL (wordsT b)); have h2 := lackL_bd (gramsL (wordsT b)) (gramsL (wordsT a)); unfold mssL; omega
theorem lack_self (g : List Gram) : lackL g g = 0 := by
  unfold lackL
  rw [sum_zero fun c _ => by unfold moreL; omega]; rfl
end Go.Proofs.Ytomklacppmaljaa

namespace Go.Proofs.Ytomklacppmaljaa
open Go.RowKit Go.Vc
theorem ei_81 : ∀ (w : World) (x y : Vc.Item), (Op.equalIn 10000 81 (.agg (Enc.enc x).toArray) (.agg (Enc.enc y).toArray)).run Try.prog w = .ok (decide (x = y)) w := fun w x y => equalIn_item 9998 Try.underlying81 Try.stoodInHeld81 (by decide) (by decide) (by decide) rfl rfl rfl Try.underlying3 Try.underlying9 Try.underlying3 ag_3 ag_9 ag_3 x y
theorem ktok : KeyLaw Try.prog 81 (fun x : Vc.Item => Value.agg (Enc.enc x).toArray) := key_item Try.underlying81 (by decide) (by decide) (by decide) rfl rfl rfl Try.underlying3 Try.underlying9 Try.underlying3 ag_3 ag_9 ag_3 ei_81

set_option maxHeartbeats 1000000 in
theorem bag_calls {aoa aob : Option Addr} {ba offa capa bb offb capb : Nat} {a b : List Vc.Item} {w0 : World} (ha : RowE w0 aoa ba offa capa a) (hb : RowE w0 aob bb offb capb b) (hqa : ∀ x ∈ a, x.text.length ≤ 140737488355328) (hqb : ∀ x ∈ b, x.text.length ≤ 140737488355328) (hsa : a.length ≤ 1000000) (hsb : b.length ≤ 1000000) :
    Calls Try.prog 54 #[.slice aoa a.length capa, .slice aob b.length capb] w0 fun e w' => e = .returned (.int .i64 (bagL a b)) ∧ Evo w0 w' [] := by
 refine calls_enter (n := 95) (args := [.slice aoa a.length capa, .slice aob b.length capb]) Try.func54 rfl Try.ntmps54 rfl ?_
 have hV : Evo w0 w0 [] := Evo.refl _ _
 have ha0 := keepE ha
 have hbd_ha := ha.bd
 have hb0 := keepE hb
 have hbd_hb := hb.bd
 refine r_seq ?_
 refine r_region ?_
 refine r_op rfl rfl rfl (run_asg (v := .int _ _) rfl (by exact rfl)) ?_
 refine r_nil ?_
 refine r_seq ?_
 refine r_region ?_
 refine r_makeMap (α := Vc.Item) (β := Int) (fun x : Vc.Item => Value.agg (Enc.enc x).toArray) (Value.int .i64) rfl ?_
 intro b1 w2 heb1 hEw2 hmb1 hzb1
 have hs_w2 := (hEw2).size
 replace hV := evo_step0 hV hEw2
 replace ha := ha0 _ hV
 replace hb := hb0 _ hV
 refine r_op rfl rfl rfl (run_asg (v := .map _) rfl (by exact rfl)) ?_
 refine r_nil ?_
 refine r_seq ?_
 refine r_seq ?_
 refine r_region ?_
 refine r_op rfl rfl rfl (run_mv (v := .slice _ _ _) rfl (by exact rfl)) ?_
 refine r_op rfl rfl rfl (run_lenSl rfl (by exact rfl) Try.underlying63) ?_
 refine r_op rfl rfl rfl (run_mv (v := .int _ _) rfl (by exact rfl)) ?_
 refine r_nil ?_
 refine r_block ?_
 refine r_loop (α := Nat) [7, 8, 9, 22, 23, 24, 25, 26, 27, 28, 29, 30, 31, 32, 33, 34, 35, 36, 37, 38] (fun k g w => ∃ m : List (Vc.Item × Int), g 22 = .int .i64 (k : Nat) ∧ k ≤ a.length ∧ MapIs w b1 (fun x : Vc.Item => Value.agg (Enc.enc x).toArray) (Value.int .i64) m ∧ CntM (clsL (a.take k)) (clsL []) m ∧ w2.heap.size ≤ w.heap.size ∧ Evo w0 w []) (fun k => a.length - k) 0 ?_ ?_
 ·refine ⟨_, (by first | exact rfl | exact congrArg (Value.int _) (by omega) | exact congrArg (Value.int _) (by dsimp only; omega) | exact congrArg (Value.int _) (by simp) | exact congrArg S (by simp)), (by first | assumption | omega | (dsimp only; omega) | (simp; done)), hmb1, CntM.nil, (by first | assumption | omega | (dsimp only; omega) | (simp; done)), hV⟩
 ·rintro k g w4 ⟨m, hj5, hk_k, hmb1, hmm, hzl3, hV⟩
  have hs_w4hV := hV.size
  have hlt6 := hmb1.lt
  replace ha := ha0 _ hV
  replace hb := hb0 _ hV
  refine r_know (i := 22) (v := .int .i64 (k : Nat)) (by exact hj5) ?_
  refine r_seq ?_
  refine r_region ?_
  refine r_op rfl rfl rfl (run_lss rfl (by exact rfl) (by exact rfl)) ?_
  refine r_nil ?_
  refine r_seq ?_
  refine r_cond (by exact rfl) (fun hc7 => ?_) (fun hc7 => ?_)
  ·skip
   refine r_skip ?_
   refine r_seq ?_
   refine r_block ?_
   refine r_seq ?_
   refine r_region ?_
   refine r_op rfl rfl rfl (run_ix (k) rfl Try.underlying63 ty_81 (by exact rfl) (by exact rfl) (by first | exact rfl | omega) (by omega) (ha.addr (i := k) (by omega))) ?_
   have hA80 := fun (w' : World) (h : Evo w0 w' []) => (ha0 w' h).atD (k) (by omega)
   have hA8 := hA80 _ hV
   refine r_op rfl rfl rfl (run_ldN rfl ag_81 ty_81 (by exact rfl) rfl hA8) ?_
   refine r_var (zs := [_, _, _]) (vs := [_, _, _]) ty_81 (by exact rfl) rfl (by exact rfl) (fun _ => rfl) (by exact rfl) rfl rfl (by exact rfl) ?_
   intro b9 w10 heb9 hEw10 hbb9 hzb9
   have hs_w10 := (hEw10).size
   replace hV := evo_step0 hV hEw10
   replace ha := ha0 _ hV
   replace hb := hb0 _ hV
   replace hmb1 := hmb1.evo0 hEw10
   have hAb9 := hbb9.at
   refine r_nil ?_
   refine r_seq ?_
   refine r_region ?_
   refine r_op rfl rfl rfl (run_ldN rfl ag_81 ty_81 (by exact rfl) rfl hAb9) ?_
   refine r_opcall rfl rfl rfl (run_callf (vs := [.agg _]) rfl (by exact rfl) Try.func97 rfl (by kernel_rfl)) (class2_calls ((hqa _ (getD_in (show k < a.length by omega))))) ?_
   rintro e w11 ⟨rfl, hE11⟩
   refine ⟨_, rfl, ?_⟩
   have hs_w11 := (hE11).size
   replace hV := evo_step0 hV hE11
   replace ha := ha0 _ hV
   replace hb := hb0 _ hV
   replace hmb1 := hmb1.evo0 hE11
   refine r_op rfl rfl rfl (run_mv (v := .tuple _) rfl (by exact rfl)) ?_
   refine r_op rfl rfl rfl (run_extract (v := .agg _) rfl (by exact rfl) (by exact rfl)) ?_
   refine r_op rfl rfl rfl (run_extract (v := .bool _) rfl (by exact rfl) (by exact rfl)) ?_
   refine r_var (zs := [_, _, _]) (vs := [_, _, _]) ty_81 (by exact rfl) rfl (by exact rfl) (fun _ => rfl) (by exact rfl) rfl rfl (by exact rfl) ?_
   intro b12 w13 heb12 hEw13 hbb12 hzb12
   have hs_w13 := (hEw13).size
   replace hV := evo_step0 hV hEw13
   replace ha := ha0 _ hV
   replace hb := hb0 _ hV
   replace hmb1 := hmb1.evo0 hEw13
   have hAb12 := hbb12.at
   refine r_op rfl rfl rfl (run_asg (v := .bool _) rfl (by exact rfl)) ?_
   refine r_nil ?_
   refine r_seq ?_
   refine r_region ?_
   refine r_op rfl rfl rfl (run_mv (v := .bool _) rfl (by exact rfl)) ?_
   refine r_nil ?_
   refine r_cond (by exact rfl) (fun hc14 => ?_) (fun hc14 => ?_)
   ·skip
    have hA9 := hmm.get (clV (a.getD k default)); have hB9 : (getM (setM m (clV (a.getD k default)) ((getM m (clV (a.getD k default))).getD 0)) (clV (a.getD k default))).getD 0 = (getM m (clV (a.getD k default))).getD 0 := by rw [getM_setM, if_pos rfl]; rfl
    have hl9 := List.count_le_length (a := (clV (a.getD k default))) (l := clsL (a.take k)); have hl8 := List.count_le_length (a := (clV (a.getD k default))) (l := clsL (([] : List Vc.Item))); have hk9 := cls_len (a.take k); have hk8 := cls_len (([] : List Vc.Item))
    have hz9 : (a.take k).length ≤ 1000000 := by first | omega | (simp; omega)
    have hz8 : (([] : List Vc.Item)).length ≤ 1000000 := by first | omega | (simp; omega) | simp
    refine r_cut [32, 33, 34, 35, 36, 37] (fun g w => ∃ m2 : List (Vc.Item × Int), MapIs w b1 (fun x : Vc.Item => Value.agg (Enc.enc x).toArray) (Value.int .i64) m2 ∧ Bump m m2 (clV (a.getD k default)) (1) ∧ w13.heap.size ≤ w.heap.size ∧ Evo w0 w []) ?_ ?_
    ·skip
     have hmb1_q := hmb1
     have hbb12_q := hbb12
     have hAb12_q := hAb12
     have hV_q := hV
     refine h_region ([b1]) (by kernel_rfl) ?_
     intro w16 hE17 hC18
     have hs_w16 := (hE17).size
     replace hV := evo_step0 hV hE17
     replace ha := ha0 _ hV
     replace hb := hb0 _ hV
     replace hmb1 := hmb1.evo0 hE17
     replace hbb12 := hbb12.evo0 hE17
     replace hAb12 := hAb12.evo0 hE17
     refine h_take (i := 0) (by exact rfl) rfl rfl rfl (by kernel_rfl) (fun w' hC => run_mv (v := .map _) rfl (by exact rfl)) hC18 ?_
     refine h_take (i := 1) (by exact rfl) rfl rfl rfl (by kernel_rfl) (fun w' hC => run_ldN rfl ag_81 ty_81 (by exact rfl) rfl (hAb12_q.evo hC (by simp; omega))) hC18 ?_
     refine h_two (i := 2) (j := 4) (by kernel_rfl) ?_ ?_
     ·skip
      refine h_do (by exact rfl) ?_
      refine r_op rfl rfl rfl (run_lookup1 (a := (clV (a.getD k default))) (z := 0) (v := .int _ _) ktok rfl Try.underlying140 ty_3 (by exact rfl) (by exact rfl) hmb1 rfl) ?_
      refine h_next hC18 ?_
      refine h_take (i := 3) (by exact rfl) rfl rfl rfl (by kernel_rfl) (fun w' hC => run_add rfl (by exact rfl) (by exact rfl) (by omega) (by omega)) hC18 ?_
      refine h_one (i := 4) (by kernel_rfl) ?_
      refine h_do (by exact rfl) ?_
      refine r_mapEntry (a := (clV (a.getD k default))) (z := 0) ktok rfl Try.underlying140 ty_3 (by exact rfl) (by exact rfl) hmb1 ?_
      intro s19 w19 hE19 hzw19 hm_new hst19
      have hs_w19 := (hE19).size
      replace hV := evo_step1 hV hE19 (by first | exact .inl (by omega) | exact .inr (by simp))
      replace hC18 := evo_step1 hC18 hE19 (by first | exact .inl (by omega) | exact .inr (by simp))
      replace ha := ha0 _ hV
      replace hb := hb0 _ hV
      replace hmb1 := hm_new
      clear hm_new
      refine h_next hC18 ?_
      refine h_take (i := 5) (by exact rfl) rfl rfl rfl (by kernel_rfl) (fun w' hC => run_extract (v := .int _ _) rfl (by exact rfl) (by exact rfl)) hC18 ?_
      refine h_one (i := 6) (by kernel_rfl) ?_
      refine h_do (by exact rfl) ?_
      refine r_entryStore (a := (clV (a.getD k default))) ktok (by exact rfl) (by exact rfl) (by exact rfl) hmb1 hst19 ?_
      intro w20 hE20 hzw20 hm_new
      have hs_w20 := (hE20).size
      replace hV := evo_step1 hV hE20 (by first | exact .inl (by omega) | exact .inr (by simp))
      replace ha := ha0 _ hV
      replace hb := hb0 _ hV
      replace hmb1 := hm_new
      clear hm_new
      refine h_last (by kernel_rfl) ?_
      refine h_done (by kernel_rfl) ?_
      refine r_cut_end ?_ ?_
      ·refine ⟨_, hmb1, (by first | exact bumpF (1) | exact bumpT (1)), (by first | assumption | omega | (dsimp only; omega) | (simp; done)), hV⟩
      ·repeat (first | (with_reducible exact Agree.merge _ _ _) | (with_reducible exact Agree.refl _ _) | (with_reducible refine Agree.upd ?_ _ _ rfl) | ((with_reducible refine Agree.inner ?_ ?_); (kernel_rfl)))
     ·skip
      refine h_do (by exact rfl) ?_
      refine r_mapEntry (a := (clV (a.getD k default))) (z := 0) ktok rfl Try.underlying140 ty_3 (by exact rfl) (by exact rfl) hmb1 ?_
      intro s21 w21 hE21 hzw21 hm_new hst21
      have hs_w21 := (hE21).size
      replace hV := evo_step1 hV hE21 (by first | exact .inl (by omega) | exact .inr (by simp))
      replace hC18 := evo_step1 hC18 hE21 (by first | exact .inl (by omega) | exact .inr (by simp))
      replace ha := ha0 _ hV
      replace hb := hb0 _ hV
      replace hbb12 := hbb12.evo hE21 (by simp; omega)
      replace hAb12 := hAb12.evo hE21 (by simp; omega)
      replace hmb1 := hm_new
      clear hm_new
      refine h_next hC18 ?_
      refine h_take (i := 5) (by exact rfl) rfl rfl rfl (by kernel_rfl) (fun w' hC => run_extract (v := .int _ _) rfl (by exact rfl) (by exact rfl)) hC18 ?_
      refine h_one (i := 2) (by kernel_rfl) ?_
      refine h_do (by exact rfl) ?_
      refine r_op rfl rfl rfl (run_lookup1 (a := (clV (a.getD k default))) (z := 0) (v := .int _ _) ktok rfl Try.underlying140 ty_3 (by exact rfl) (by exact rfl) hmb1 rfl) ?_
      refine h_next hC18 ?_
      refine h_take (i := 3) (by exact rfl) rfl rfl rfl (by kernel_rfl) (fun w' hC => run_add rfl (by exact rfl) (by exact rfl) (by omega) (by omega)) hC18 ?_
      refine h_one (i := 6) (by kernel_rfl) ?_
      refine h_do (by exact rfl) ?_
      refine r_entryStore (a := (clV (a.getD k default))) ktok (by exact rfl) (by exact rfl) (by exact rfl) hmb1 hst21 ?_
      intro w22 hE22 hzw22 hm_new
      have hs_w22 := (hE22).size
      replace hV := evo_step1 hV hE22 (by first | exact .inl (by omega) | exact .inr (by simp))
      replace ha := ha0 _ hV
      replace hb := hb0 _ hV
      replace hmb1 := hm_new
      clear hm_new
      refine h_last (by kernel_rfl) ?_
      refine h_done (by kernel_rfl) ?_
      refine r_cut_end ?_ ?_
      ·refine ⟨_, hmb1, (by first | exact bumpF (1) | exact bumpT (1)), (by first | assumption | omega | (dsimp only; omega) | (simp; done)), hV⟩
      ·repeat (first | (with_reducible exact Agree.merge _ _ _) | (with_reducible exact Agree.refl _ _) | (with_reducible refine Agree.upd ?_ _ _ rfl) | ((with_reducible refine Agree.inner ?_ ?_); (kernel_rfl)))
    ·rintro g w23 ⟨m2, hmb1, hm2, hzl15, hV⟩
     have hs_w23hV := hV.size
     have hlt24 := hmb1.lt
     replace ha := ha0 _ hV
     replace hb := hb0 _ hV
     replace hA8 := hA80 _ hV
     refine r_blk ?_
     refine r_region ?_
     refine r_op rfl rfl rfl (run_add rfl (by exact rfl) (by exact rfl) (by omega) (by omega)) ?_
     refine r_op rfl rfl rfl (run_mv (v := .int _ _) rfl (by exact rfl)) ?_
     refine r_nil ?_
     refine r_again (k + 1) ?_ ?_ ?_
     ·first | omega | (dsimp only; omega)
     ·refine ⟨_, (by first | exact rfl | exact congrArg (Value.int _) (by omega) | exact congrArg (Value.int _) (by dsimp only; omega) | exact congrArg (Value.int _) (by simp) | exact congrArg S (by simp)), (by first | assumption | omega | (dsimp only; omega) | (simp; done)), hmb1, (by first | (rw [cls_yes (by omega) hc14]; exact hmm.inc hm2) | (rw [cls_no (by omega) hc14]; exact hmm)), (by first | assumption | omega | (dsimp only; omega) | (simp; done)), hV⟩
     ·repeat (first | (with_reducible exact Agree.merge _ _ _) | (with_reducible exact Agree.refl _ _) | (with_reducible refine Agree.upd ?_ _ _ rfl) | ((with_reducible refine Agree.inner ?_ ?_); (kernel_rfl)))
   ·skip
    refine r_skip ?_
    refine r_blk ?_
    refine r_region ?_
    refine r_op rfl rfl rfl (run_add rfl (by exact rfl) (by exact rfl) (by omega) (by omega)) ?_
    refine r_op rfl rfl rfl (run_mv (v := .int _ _) rfl (by exact rfl)) ?_
    refine r_nil ?_
    refine r_again (k + 1) ?_ ?_ ?_
    ·first | omega | (dsimp only; omega)
    ·refine ⟨_, (by first | exact rfl | exact congrArg (Value.int _) (by omega) | exact congrArg (Value.int _) (by dsimp only; omega) | exact congrArg (Value.int _) (by simp) | exact congrArg S (by simp)), (by first | assumption | omega | (dsimp only; omega) | (simp; done)), hmb1, (by first | (rw [cls_yes (by omega) hc14]; exact hmm.inc hm2) | (rw [cls_no (by omega) hc14]; exact hmm)), (by first | assumption | omega | (dsimp only; omega) | (simp; done)), hV⟩
    ·repeat (first | (with_reducible exact Agree.merge _ _ _) | (with_reducible exact Agree.refl _ _) | (with_reducible refine Agree.upd ?_ _ _ rfl) | ((with_reducible refine Agree.inner ?_ ?_); (kernel_rfl)))
  ·skip
   refine r_exit rfl ?_
   refine r_seq ?_
   refine r_seq ?_
   refine r_region ?_
   refine r_op rfl rfl rfl (run_mv (v := .slice _ _ _) rfl (by exact rfl)) ?_
   refine r_op rfl rfl rfl (run_lenSl rfl (by exact rfl) Try.underlying63) ?_
   refine r_op rfl rfl rfl (run_mv (v := .int _ _) rfl (by exact rfl)) ?_
   refine r_nil ?_
   refine r_block ?_
   refine r_loop (α := Nat) [11, 12, 13, 41, 42, 43, 44, 45, 46, 47, 48, 49, 50, 51, 52, 53, 54, 55, 56, 57] (fun k g w => ∃ m : List (Vc.Item × Int), g 41 = .int .i64 (k : Nat) ∧ k ≤ b.length ∧ MapIs w b1 (fun x : Vc.Item => Value.agg (Enc.enc x).toArray) (Value.int .i64) m ∧ CntM (clsL a) (clsL (b.take k)) m ∧ w4.heap.size ≤ w.heap.size ∧ Evo w0 w []) (fun k => b.length - k) 0 ?_ ?_
   ·refine ⟨_, (by first | exact rfl | exact congrArg (Value.int _) (by omega) | exact congrArg (Value.int _) (by dsimp only; omega) | exact congrArg (Value.int _) (by simp) | exact congrArg S (by simp)), (by first | assumption | omega | (dsimp only; omega) | (simp; done)), hmb1, (by have h9 := hmm; rw [List.take_of_length_le (by omega)] at h9; exact h9), (by first | assumption | omega | (dsimp only; omega) | (simp; done)), hV⟩
   ·rintro k g w26 ⟨m, hj27, hk_k, hmb1, hmm, hzl25, hV⟩
    have hs_w26hV := hV.size
    have hlt28 := hmb1.lt
    replace ha := ha0 _ hV
    replace hb := hb0 _ hV
    refine r_know (i := 41) (v := .int .i64 (k : Nat)) (by exact hj27) ?_
    refine r_seq ?_
    refine r_region ?_
    refine r_op rfl rfl rfl (run_lss rfl (by exact rfl) (by exact rfl)) ?_
    refine r_nil ?_
    refine r_seq ?_
    refine r_cond (by exact rfl) (fun hc29 => ?_) (fun hc29 => ?_)
    ·skip
     refine r_skip ?_
     refine r_seq ?_
     refine r_block ?_
     refine r_seq ?_
     refine r_region ?_
     refine r_op rfl rfl rfl (run_ix (k) rfl Try.underlying63 ty_81 (by exact rfl) (by exact rfl) (by first | exact rfl | omega) (by omega) (hb.addr (i := k) (by omega))) ?_
     have hA300 := fun (w' : World) (h : Evo w0 w' []) => (hb0 w' h).atD (k) (by omega)
     have hA30 := hA300 _ hV
     refine r_op rfl rfl rfl (run_ldN rfl ag_81 ty_81 (by exact rfl) rfl hA30) ?_
     refine r_var (zs := [_, _, _]) (vs := [_, _, _]) ty_81 (by exact rfl) rfl (by exact rfl) (fun _ => rfl) (by exact rfl) rfl rfl (by exact rfl) ?_
     intro b31 w32 heb31 hEw32 hbb31 hzb31
     have hs_w32 := (hEw32).size
     replace hV := evo_step0 hV hEw32
     replace ha := ha0 _ hV
     replace hb := hb0 _ hV
     replace hmb1 := hmb1.evo0 hEw32
     have hAb31 := hbb31.at
     refine r_nil ?_
     refine r_seq ?_
     refine r_region ?_
     refine r_op rfl rfl rfl (run_ldN rfl ag_81 ty_81 (by exact rfl) rfl hAb31) ?_
     refine r_opcall rfl rfl rfl (run_callf (vs := [.agg _]) rfl (by exact rfl) Try.func97 rfl (by kernel_rfl)) (class2_calls ((hqb _ (getD_in (show k < b.length by omega))))) ?_
     rintro e w33 ⟨rfl, hE33⟩
     refine ⟨_, rfl, ?_⟩
     have hs_w33 := (hE33).size
     replace hV := evo_step0 hV hE33
     replace ha := ha0 _ hV
     replace hb := hb0 _ hV
     replace hmb1 := hmb1.evo0 hE33
     refine r_op rfl rfl rfl (run_mv (v := .tuple _) rfl (by exact rfl)) ?_
     refine r_op rfl rfl rfl (run_extract (v := .agg _) rfl (by exact rfl) (by exact rfl)) ?_
     refine r_op rfl rfl rfl (run_extract (v := .bool _) rfl (by exact rfl) (by exact rfl)) ?_
     refine r_var (zs := [_, _, _]) (vs := [_, _, _]) ty_81 (by exact rfl) rfl (by exact rfl) (fun _ => rfl) (by exact rfl) rfl rfl (by exact rfl) ?_
     intro b34 w35 heb34 hEw35 hbb34 hzb34
     have hs_w35 := (hEw35).size
     replace hV := evo_step0 hV hEw35
     replace ha := ha0 _ hV
     replace hb := hb0 _ hV
     replace hmb1 := hmb1.evo0 hEw35
     have hAb34 := hbb34.at
     refine r_op rfl rfl rfl (run_asg (v := .bool _) rfl (by exact rfl)) ?_
     refine r_nil ?_
     refine r_seq ?_
     refine r_region ?_
     refine r_op rfl rfl rfl (run_mv (v := .bool _) rfl (by exact rfl)) ?_
     refine r_nil ?_
     refine r_cond (by exact rfl) (fun hc36 => ?_) (fun hc36 => ?_)
     ·skip
      have hA9 := hmm.get (clV (b.getD k default)); have hB9 : (getM (setM m (clV (b.getD k default)) ((getM m (clV (b.getD k default))).getD 0)) (clV (b.getD k default))).getD 0 = (getM m (clV (b.getD k default))).getD 0 := by rw [getM_setM, if_pos rfl]; rfl
      have hl9 := List.count_le_length (a := (clV (b.getD k default))) (l := clsL (a)); have hl8 := List.count_le_length (a := (clV (b.getD k default))) (l := clsL (b.take k)); have hk9 := cls_len (a); have hk8 := cls_len (b.take k)
      have hz9 : (a).length ≤ 1000000 := by first | omega | (simp; omega)
      have hz8 : (b.take k).length ≤ 1000000 := by first | omega | (simp; omega) | simp
      refine r_cut [51, 52, 53, 54, 55, 56] (fun g w => ∃ m2 : List (Vc.Item × Int), MapIs w b1 (fun x : Vc.Item => Value.agg (Enc.enc x).toArray) (Value.int .i64) m2 ∧ Bump m m2 (clV (b.getD k default)) (-1) ∧ w35.heap.size ≤ w.heap.size ∧ Evo w0 w []) ?_ ?_
      ·skip
       have hmb1_q := hmb1
       have hbb34_q := hbb34
       have hAb34_q := hAb34
       have hV_q := hV
       refine h_region ([b1]) (by kernel_rfl) ?_
       intro w38 hE39 hC40
       have hs_w38 := (hE39).size
       replace hV := evo_step0 hV hE39
       replace ha := ha0 _ hV
       replace hb := hb0 _ hV
       replace hmb1 := hmb1.evo0 hE39
       replace hbb34 := hbb34.evo0 hE39
       replace hAb34 := hAb34.evo0 hE39
       refine h_take (i := 0) (by exact rfl) rfl rfl rfl (by kernel_rfl) (fun w' hC => run_mv (v := .map _) rfl (by exact rfl)) hC40 ?_
       refine h_take (i := 1) (by exact rfl) rfl rfl rfl (by kernel_rfl) (fun w' hC => run_ldN rfl ag_81 ty_81 (by exact rfl) rfl (hAb34_q.evo hC (by simp; omega))) hC40 ?_
       refine h_two (i := 2) (j := 4) (by kernel_rfl) ?_ ?_
       ·skip
        refine h_do (by exact rfl) ?_
        refine r_op rfl rfl rfl (run_lookup1 (a := (clV (b.getD k default))) (z := 0) (v := .int _ _) ktok rfl Try.underlying140 ty_3 (by exact rfl) (by exact rfl) hmb1 rfl) ?_
        refine h_next hC40 ?_
        refine h_take (i := 3) (by exact rfl) rfl rfl rfl (by kernel_rfl) (fun w' hC => run_sub rfl (by exact rfl) (by exact rfl) (by omega) (by omega)) hC40 ?_
        refine h_one (i := 4) (by kernel_rfl) ?_
        refine h_do (by exact rfl) ?_
        refine r_mapEntry (a := (clV (b.getD k default))) (z := 0) ktok rfl Try.underlying140 ty_3 (by exact rfl) (by exact rfl) hmb1 ?_
        intro s41 w41 hE41 hzw41 hm_new hst41
        have hs_w41 := (hE41).size
        replace hV := evo_step1 hV hE41 (by first | exact .inl (by omega) | exact .inr (by simp))
        replace hC40 := evo_step1 hC40 hE41 (by first | exact .inl (by omega) | exact .inr (by simp))
        replace ha := ha0 _ hV
        replace hb := hb0 _ hV
        replace hmb1 := hm_new
        clear hm_new
        refine h_next hC40 ?_
        refine h_take (i := 5) (by exact rfl) rfl rfl rfl (by kernel_rfl) (fun w' hC => run_extract (v := .int _ _) rfl (by exact rfl) (by exact rfl)) hC40 ?_
        refine h_one (i := 6) (by kernel_rfl) ?_
        refine h_do (by exact rfl) ?_
        refine r_entryStore (a := (clV (b.getD k default))) ktok (by exact rfl) (by exact rfl) (by exact rfl) hmb1 hst41 ?_
        intro w42 hE42 hzw42 hm_new
        have hs_w42 := (hE42).size
        replace hV := evo_step1 hV hE42 (by first | exact .inl (by omega) | exact .inr (by simp))
        replace ha := ha0 _ hV
        replace hb := hb0 _ hV
        replace hmb1 := hm_new
        clear hm_new
        refine h_last (by kernel_rfl) ?_
        refine h_done (by kernel_rfl) ?_
        refine r_cut_end ?_ ?_
        ·refine ⟨_, hmb1, (by first | exact bumpF (-1) | exact bumpT (-1)), (by first | assumption | omega | (dsimp only; omega) | (simp; done)), hV⟩
        ·repeat (first | (with_reducible exact Agree.merge _ _ _) | (with_reducible exact Agree.refl _ _) | (with_reducible refine Agree.upd ?_ _ _ rfl) | ((with_reducible refine Agree.inner ?_ ?_); (kernel_rfl)))
       ·skip
        refine h_do (by exact rfl) ?_
        refine r_mapEntry (a := (clV (b.getD k default))) (z := 0) ktok rfl Try.underlying140 ty_3 (by exact rfl) (by exact rfl) hmb1 ?_
        intro s43 w43 hE43 hzw43 hm_new hst43
        have hs_w43 := (hE43).size
        replace hV := evo_step1 hV hE43 (by first | exact .inl (by omega) | exact .inr (by simp))
        replace hC40 := evo_step1 hC40 hE43 (by first | exact .inl (by omega) | exact .inr (by simp))
        replace ha := ha0 _ hV
        replace hb := hb0 _ hV
        replace hbb34 := hbb34.evo hE43 (by simp; omega)
        replace hAb34 := hAb34.evo hE43 (by simp; omega)
        replace hmb1 := hm_new
        clear hm_new
        refine h_next hC40 ?_
        refine h_take (i := 5) (by exact rfl) rfl rfl rfl (by kernel_rfl) (fun w' hC => run_extract (v := .int _ _) rfl (by exact rfl) (by exact rfl)) hC40 ?_
        refine h_one (i := 2) (by kernel_rfl) ?_
        refine h_do (by exact rfl) ?_
        refine r_op rfl rfl rfl (run_lookup1 (a := (clV (b.getD k default))) (z := 0) (v := .int _ _) ktok rfl Try.underlying140 ty_3 (by exact rfl) (by exact rfl) hmb1 rfl) ?_
        refine h_next hC40 ?_
        refine h_take (i := 3) (by exact rfl) rfl rfl rfl (by kernel_rfl) (fun w' hC => run_sub rfl (by exact rfl) (by exact rfl) (by omega) (by omega)) hC40 ?_
        refine h_one (i := 6) (by kernel_rfl) ?_
        refine h_do (by exact rfl) ?_
        refine r_entryStore (a := (clV (b.getD k default))) ktok (by exact rfl) (by exact rfl) (by exact rfl) hmb1 hst43 ?_
        intro w44 hE44 hzw44 hm_new
        have hs_w44 := (hE44).size
        replace hV := evo_step1 hV hE44 (by first | exact .inl (by omega) | exact .inr (by simp))
        replace ha := ha0 _ hV
        replace hb := hb0 _ hV
        replace hmb1 := hm_new
        clear hm_new
        refine h_last (by kernel_rfl) ?_
        refine h_done (by kernel_rfl) ?_
        refine r_cut_end ?_ ?_
        ·refine ⟨_, hmb1, (by first | exact bumpF (-1) | exact bumpT (-1)), (by first | assumption | omega | (dsimp only; omega) | (simp; done)), hV⟩
        ·repeat (first | (with_reducible exact Agree.merge _ _ _) | (with_reducible exact Agree.refl _ _) | (with_reducible refine Agree.upd ?_ _ _ rfl) | ((with_reducible refine Agree.inner ?_ ?_); (kernel_rfl)))
      ·rintro g w45 ⟨m2, hmb1, hm2, hzl37, hV⟩
       have hs_w45hV := hV.size
       have hlt46 := hmb1.lt
       replace ha := ha0 _ hV
       replace hb := hb0 _ hV
       replace hA30 := hA300 _ hV
       refine r_blk ?_
       refine r_region ?_
       refine r_op rfl rfl rfl (run_add rfl (by exact rfl) (by exact rfl) (by omega) (by omega)) ?_
       refine r_op rfl rfl rfl (run_mv (v := .int _ _) rfl (by exact rfl)) ?_
       refine r_nil ?_
       refine r_again (k + 1) ?_ ?_ ?_
       ·first | omega | (dsimp only; omega)
       ·refine ⟨_, (by first | exact rfl | exact congrArg (Value.int _) (by omega) | exact congrArg (Value.int _) (by dsimp only; omega) | exact congrArg (Value.int _) (by simp) | exact congrArg S (by simp)), (by first | assumption | omega | (dsimp only; omega) | (simp; done)), hmb1, (by first | (rw [cls_yes (by omega) hc36]; exact hmm.dec hm2) | (rw [cls_no (by omega) hc36]; exact hmm)), (by first | assumption | omega | (dsimp only; omega) | (simp; done)), hV⟩
       ·repeat (first | (with_reducible exact Agree.merge _ _ _) | (with_reducible exact Agree.refl _ _) | (with_reducible refine Agree.upd ?_ _ _ rfl) | ((with_reducible refine Agree.inner ?_ ?_); (kernel_rfl)))
     ·skip
      refine r_skip ?_
      refine r_blk ?_
      refine r_region ?_
      refine r_op rfl rfl rfl (run_add rfl (by exact rfl) (by exact rfl) (by omega) (by omega)) ?_
      refine r_op rfl rfl rfl (run_mv (v := .int _ _) rfl (by exact rfl)) ?_
      refine r_nil ?_
      refine r_again (k + 1) ?_ ?_ ?_
      ·first | omega | (dsimp only; omega)
      ·refine ⟨_, (by first | exact rfl | exact congrArg (Value.int _) (by omega) | exact congrArg (Value.int _) (by dsimp only; omega) | exact congrArg (Value.int _) (by simp) | exact congrArg S (by simp)), (by first | assumption | omega | (dsimp only; omega) | (simp; done)), hmb1, (by first | (rw [cls_yes (by omega) hc36]; exact hmm.dec hm2) | (rw [cls_no (by omega) hc36]; exact hmm)), (by first | assumption | omega | (dsimp only; omega) | (simp; done)), hV⟩
      ·repeat (first | (with_reducible exact Agree.merge _ _ _) | (with_reducible exact Agree.refl _ _) | (with_reducible refine Agree.upd ?_ _ _ rfl) | ((with_reducible refine Agree.inner ?_ ?_); (kernel_rfl)))
    ·skip
     refine r_exit rfl ?_
     refine r_seq ?_
     refine r_region ?_
     refine r_op rfl rfl rfl (run_asg (v := .int _ _) rfl (by exact rfl)) ?_
     refine r_op rfl rfl rfl (run_asg (v := .int _ _) rfl (by exact rfl)) ?_
     refine r_op rfl rfl rfl (run_asg (v := .int _ _) rfl (by exact rfl)) ?_
     refine r_nil ?_
     refine r_seq ?_
     refine r_seq ?_
     refine r_region ?_
     refine r_op rfl rfl rfl (run_mv (v := .map _) rfl (by exact rfl)) ?_
     refine r_range rfl Try.underlying140 (by exact rfl) hmb1 ?_
     intro r47 w48 her47 hEw48 hir47 hzr47
     have hs_w48 := (hEw48).size
     replace hV := evo_step0 hV hEw48
     replace ha := ha0 _ hV
     replace hb := hb0 _ hV
     replace hmb1 := hmb1.evo0 hEw48
     refine r_nil ?_
     refine r_block ?_
     have hmf : CntM (clsL a) (clsL b) m := by have h9 := hmm; rw [List.take_of_length_le (by omega)] at h9; exact h9
     have hmn := hir47.map.nodup; have hilt := hir47.lt; have hmlen := hmf.len hmn
     refine r_loop (α := List (Vc.Item × Int)) [14, 15, 16, 17, 18, 60, 61, 62, 63, 64, 65, 66, 67, 68, 69, 70, 71, 72, 73, 74, 75, 76, 77, 78, 79, 80, 81, 82, 83, 84, 85, 86, 87, 88, 89] (fun left g w => ∃ la : Option (Vc.Item × Int), ∃ dn : List (Vc.Item × Int), g 14 = .int .i64 (upS dn) ∧ g 15 = .int .i64 (dnS dn) ∧ g 16 = .int .i64 (tgS dn) ∧ IterIs w r47 b1 (fun x : Vc.Item => Value.agg (Enc.enc x).toArray) (Value.int .i64) m left la ∧ (dn ++ left).Perm m ∧ w0.heap.size ≤ r47 ∧ w48.heap.size ≤ w.heap.size ∧ Evo w0 w []) (fun left => left.length) m ?_ ?_
     ·refine ⟨_, [], rfl, rfl, rfl, hir47, (by simp), (by first | assumption | omega | (dsimp only; omega) | (simp; done)), (by first | assumption | omega | (dsimp only; omega) | (simp; done)), hV⟩
     ·rintro left g w50 ⟨la, dn, hj51, hj52, hj53, hir47, hpm, hrl, hzl49, hV⟩
      have hs_w50hV := hV.size
      replace ha := ha0 _ hV
      replace hb := hb0 _ hV
      refine r_know (i := 14) (v := .int .i64 (upS dn)) (by exact hj51) ?_
      refine r_know (i := 15) (v := .int .i64 (dnS dn)) (by exact hj52) ?_
      refine r_know (i := 16) (v := .int .i64 (tgS dn)) (by exact hj53) ?_
      have hdl := hpm.length_eq
      rw [List.length_append] at hdl
      have hbb := bag_bd (d := dn) (m := m) (by omega) (by omega) (fun q hq => hmf.vbd hmn (by omega) (by omega) (hpm.mem_iff.1 (List.mem_append_left _ hq)))
      refine r_seq ?_
      refine r_region ?_
      refine r_next rfl (by exact rfl) hir47 (fun hn54 => ?_) (fun l1_54 p54 l2_54 w54 hl54 hE54 hz54 hi_new => ?_)
      ·skip
       subst hn54
       refine r_op rfl rfl rfl (run_extract (v := .bool _) rfl (by exact rfl) (by exact rfl)) ?_
       refine r_nil ?_
       refine r_seq ?_
       refine r_cond_no (by exact rfl) ?_
       refine r_exit rfl ?_
       refine r_seq ?_
       refine r_region ?_
       refine r_op rfl rfl rfl (run_mv (v := .int _ _) rfl (by exact rfl)) ?_
       refine r_op rfl rfl rfl (run_mv (v := .int _ _) rfl (by exact rfl)) ?_
       refine r_op rfl rfl rfl (run_max rfl (by exact rfl) (by exact rfl)) ?_
       refine r_op rfl rfl rfl (run_mv (v := .int _ _) rfl (by exact rfl)) ?_
       refine r_op rfl rfl rfl (run_add rfl (by exact rfl) (by exact rfl) (by omega) (by omega)) ?_
       refine r_op rfl rfl rfl (run_asg (v := .int _ _) rfl (by exact rfl)) ?_
       refine r_nil ?_
       refine r_ret (res1 (v := .int _ _) rfl (by exact rfl)) ?_
       exact ⟨ret_int (bag_done hmf hmn (by simpa using hpm)), hV⟩
      ·skip
       have hs_w54 := (hE54).size
       replace hV := evo_step1 hV hE54 (by first | exact .inl (by omega) | exact .inr (by simp))
       replace ha := ha0 _ hV
       replace hb := hb0 _ hV
       replace hir47 := hi_new
       clear hi_new
       refine r_op rfl rfl rfl (run_extract (v := .bool _) rfl (by exact rfl) (by exact rfl)) ?_
       refine r_nil ?_
       refine r_seq ?_
       refine r_cond_yes (by exact rfl) ?_
       refine r_skip ?_
       refine r_block ?_
       refine r_seq ?_
       refine r_region ?_
       refine r_op rfl rfl rfl (run_entryI rfl (by exact rfl) hir47) ?_
       refine r_op rfl rfl rfl (run_extract (v := .agg _) rfl (by exact rfl) (by exact rfl)) ?_
       refine r_op rfl rfl rfl (run_extract (v := .int _ _) rfl (by exact rfl) (by exact rfl)) ?_
       refine r_var (zs := [_, _, _]) (vs := [_, _, _]) ty_81 (by exact rfl) rfl (by exact rfl) (fun _ => rfl) (by exact rfl) rfl rfl (by exact rfl) ?_
       intro b55 w56 heb55 hEw56 hbb55 hzb55
       have hs_w56 := (hEw56).size
       replace hV := evo_step0 hV hEw56
       replace ha := ha0 _ hV
       replace hb := hb0 _ hV
       replace hir47 := hir47.evo0 hEw56
       have hAb55 := hbb55.at
       refine r_op rfl rfl rfl (run_asg (v := .int _ _) rfl (by exact rfl)) ?_
       refine r_nil ?_
       refine r_block ?_
       refine r_seq ?_
       have hpv := hmf.vbd hmn (by omega) (by omega) (q := p54) (hpm.mem_iff.1 (List.mem_append_right _ (by rw [hl54]; simp))); have hmw := mulw_bd (k := p54.1.kind) hpv
       refine r_region ?_
       refine r_op rfl rfl rfl (run_ldN rfl ag_81 ty_81 (by exact rfl) rfl hAb55) ?_
       refine r_opcall rfl rfl rfl (run_callf (vs := [.agg _]) rfl (by exact rfl) Try.func98 rfl (by kernel_rfl)) (sgtag_calls ) ?_
       rintro e w57 ⟨rfl, hE57⟩
       refine ⟨_, rfl, ?_⟩
       have hs_w57 := (hE57).size
       replace hV := evo_step0 hV hE57
       replace ha := ha0 _ hV
       replace hb := hb0 _ hV
       replace hir47 := hir47.evo0 hE57
       replace hbb55 := hbb55.evo0 hE57
       replace hAb55 := hAb55.evo0 hE57
       refine r_op rfl rfl rfl (run_asg (v := .bool _) rfl (by exact rfl)) ?_
       refine r_nil ?_
       refine r_cond (by exact rfl) (fun hc58 => ?_) (fun hc58 => ?_)
       ·skip
        refine r_region ?_
        refine r_op rfl rfl rfl (run_mv (v := .int _ _) rfl (by exact rfl)) ?_
        refine r_op rfl rfl rfl (run_mv (v := .int _ _) rfl (by exact rfl)) ?_
        refine r_op rfl rfl rfl (run_mv (v := .int _ _) rfl (by exact rfl)) ?_
        refine r_op rfl rfl rfl (run_neg rfl (by exact rfl) (by omega) (by omega)) ?_
        refine r_op rfl rfl rfl (run_max rfl (by exact rfl) (by exact rfl)) ?_
        refine r_op rfl rfl rfl (run_mul rfl (by exact rfl) (by exact rfl) (by omega) (by omega)) ?_
        refine r_op rfl rfl rfl (run_add rfl (by exact rfl) (by exact rfl) (by omega) (by omega)) ?_
        refine r_op rfl rfl rfl (run_asg (v := .int _ _) rfl (by exact rfl)) ?_
        refine r_nil ?_
        refine r_blk ?_
        refine r_blk ?_
        refine r_again (l1_54 ++ l2_54) ?_ ?_ ?_
        ·rw [hl54]; simp
        ·refine ⟨_, (dn ++ [p54]), (congrArg (Value.int _) (by first | exact (bag_tag (by assumption)).1.symm | exact (bag_up (by assumption) (by omega)).1.symm | exact (bag_dn (by assumption) (by omega)).1.symm)), (congrArg (Value.int _) (by first | exact (bag_tag (by assumption)).2.1.symm | exact (bag_up (by assumption) (by omega)).2.1.symm | exact (bag_dn (by assumption) (by omega)).2.1.symm)), (congrArg (Value.int _) (by first | exact (bag_tag (by assumption)).2.2.symm | exact (bag_up (by assumption) (by omega)).2.2.symm | exact (bag_dn (by assumption) (by omega)).2.2.symm)), hir47, (by rw [hl54] at hpm; have h9 := perm_step (f := id) (g := dn) (x := p54) (m := m) (by rw [List.map_id]; exact hpm) rfl; rw [List.map_id] at h9; exact h9), (by first | assumption | omega | (dsimp only; omega) | (simp; done)), (by first | assumption | omega | (dsimp only; omega) | (simp; done)), hV⟩
        ·repeat (first | (with_reducible exact Agree.merge _ _ _) | (with_reducible exact Agree.refl _ _) | (with_reducible refine Agree.upd ?_ _ _ rfl) | ((with_reducible refine Agree.inner ?_ ?_); (kernel_rfl)))
       ·skip
        refine r_seq ?_
        refine r_region ?_
        refine r_op rfl rfl rfl (run_mv (v := .int _ _) rfl (by exact rfl)) ?_
        refine r_op rfl rfl rfl (run_gtr rfl (by exact rfl) (by exact rfl)) ?_
        refine r_op rfl rfl rfl (run_asg (v := .bool _) rfl (by exact rfl)) ?_
        refine r_nil ?_
        refine r_cond (by exact rfl) (fun hc59 => ?_) (fun hc59 => ?_)
        ·skip
         refine r_region ?_
         refine r_op rfl rfl rfl (run_mv (v := .int _ _) rfl (by exact rfl)) ?_
         refine r_op rfl rfl rfl (run_mv (v := .int _ _) rfl (by exact rfl)) ?_
         refine r_op rfl rfl rfl (run_ldN rfl ag_81 ty_81 (by exact rfl) rfl hAb55) ?_
         refine r_opcall rfl rfl rfl (run_callf (vs := [.agg _]) rfl (by exact rfl) Try.func99 rfl (by kernel_rfl)) (weight_calls ) ?_
         rintro e w60 ⟨rfl, hE60⟩
         refine ⟨_, rfl, ?_⟩
         have hs_w60 := (hE60).size
         replace hV := evo_step0 hV hE60
         replace ha := ha0 _ hV
         replace hb := hb0 _ hV
         replace hir47 := hir47.evo0 hE60
         refine r_op rfl rfl rfl (run_mul rfl (by exact rfl) (by exact rfl) (by omega) (by omega)) ?_
         refine r_op rfl rfl rfl (run_add rfl (by exact rfl) (by exact rfl) (by omega) (by omega)) ?_
         refine r_op rfl rfl rfl (run_asg (v := .int _ _) rfl (by exact rfl)) ?_
         refine r_nil ?_
         refine r_blk ?_
         refine r_blk ?_
         refine r_again (l1_54 ++ l2_54) ?_ ?_ ?_
         ·rw [hl54]; simp
         ·refine ⟨_, (dn ++ [p54]), (congrArg (Value.int _) (by first | exact (bag_tag (by assumption)).1.symm | exact (bag_up (by assumption) (by omega)).1.symm | exact (bag_dn (by assumption) (by omega)).1.symm)), (congrArg (Value.int _) (by first | exact (bag_tag (by assumption)).2.1.symm | exact (bag_up (by assumption) (by omega)).2.1.symm | exact (bag_dn (by assumption) (by omega)).2.1.symm)), (congrArg (Value.int _) (by first | exact (bag_tag (by assumption)).2.2.symm | exact (bag_up (by assumption) (by omega)).2.2.symm | exact (bag_dn (by assumption) (by omega)).2.2.symm)), hir47, (by rw [hl54] at hpm; have h9 := perm_step (f := id) (g := dn) (x := p54) (m := m) (by rw [List.map_id]; exact hpm) rfl; rw [List.map_id] at h9; exact h9), (by first | assumption | omega | (dsimp only; omega) | (simp; done)), (by first | assumption | omega | (dsimp only; omega) | (simp; done)), hV⟩
         ·repeat (first | (with_reducible exact Agree.merge _ _ _) | (with_reducible exact Agree.refl _ _) | (with_reducible refine Agree.upd ?_ _ _ rfl) | ((with_reducible refine Agree.inner ?_ ?_); (kernel_rfl)))
        ·skip
         refine r_region ?_
         refine r_op rfl rfl rfl (run_mv (v := .int _ _) rfl (by exact rfl)) ?_
         refine r_op rfl rfl rfl (run_mv (v := .int _ _) rfl (by exact rfl)) ?_
         refine r_op rfl rfl rfl (run_ldN rfl ag_81 ty_81 (by exact rfl) rfl hAb55) ?_
         refine r_opcall rfl rfl rfl (run_callf (vs := [.agg _]) rfl (by exact rfl) Try.func99 rfl (by kernel_rfl)) (weight_calls ) ?_
         rintro e w61 ⟨rfl, hE61⟩
         refine ⟨_, rfl, ?_⟩
         have hs_w61 := (hE61).size
         replace hV := evo_step0 hV hE61
         replace ha := ha0 _ hV
         replace hb := hb0 _ hV
         replace hir47 := hir47.evo0 hE61
         refine r_op rfl rfl rfl (run_mul rfl (by exact rfl) (by exact rfl) (by omega) (by omega)) ?_
         refine r_op rfl rfl rfl (run_sub rfl (by exact rfl) (by exact rfl) (by omega) (by omega)) ?_
         refine r_op rfl rfl rfl (run_asg (v := .int _ _) rfl (by exact rfl)) ?_
         refine r_nil ?_
         refine r_blk ?_
         refine r_blk ?_
         refine r_again (l1_54 ++ l2_54) ?_ ?_ ?_
         ·rw [hl54]; simp
         ·refine ⟨_, (dn ++ [p54]), (congrArg (Value.int _) (by first | exact (bag_tag (by assumption)).1.symm | exact (bag_up (by assumption) (by omega)).1.symm | exact (bag_dn (by assumption) (by omega)).1.symm)), (congrArg (Value.int _) (by first | exact (bag_tag (by assumption)).2.1.symm | exact (bag_up (by assumption) (by omega)).2.1.symm | exact (bag_dn (by assumption) (by omega)).2.1.symm)), (congrArg (Value.int _) (by first | exact (bag_tag (by assumption)).2.2.symm | exact (bag_up (by assumption) (by omega)).2.2.symm | exact (bag_dn (by assumption) (by omega)).2.2.symm)), hir47, (by rw [hl54] at hpm; have h9 := perm_step (f := id) (g := dn) (x := p54) (m := m) (by rw [List.map_id]; exact hpm) rfl; rw [List.map_id] at h9; exact h9), (by first | assumption | omega | (dsimp only; omega) | (simp; done)), (by first | assumption | omega | (dsimp only; omega) | (simp; done)), hV⟩
         ·repeat (first | (with_reducible exact Agree.merge _ _ _) | (with_reducible exact Agree.refl _ _) | (with_reducible refine Agree.upd ?_ _ _ rfl) | ((with_reducible refine Agree.inner ?_ ?_); (kernel_rfl)))

end Go.Proofs.Ytomklacppmaljaa

namespace Go.Proofs.Ytomklacppmaljaa
open Go.RowKit Go.Vc
def costB (x y : Vc.Item) : Prop := sameB x y ∨ (x.kind = y.kind ∧ 5 ≤ x.kind ∧ x.kind ≤ 9)
instance (x y : Vc.Item) : Decidable (costB x y) := by unfold costB; infer_instance
section
variable {ks p q : List (Str × Str)} {x y : Str × Str}
end
end Go.Proofs.Ytomklacppmaljaa

namespace Go.Proofs.Ytomklacppmaljaa
open Go.RowKit Go.Vc

set_option maxHeartbeats 1000000 in
theorem bound_calls {aoa aob : Option Addr} {ba offa capa bb offb capb : Nat} {a b : List Vc.Item} {w0 : World} (ha : RowE w0 aoa ba offa capa a) (hb : RowE w0 aob bb offb capb b) (hqa : ∀ x ∈ a, x.text.length ≤ 140737488355328) (hqb : ∀ x ∈ b, x.text.length ≤ 140737488355328) (hsa : a.length ≤ 900000) (hsb : b.length ≤ 900000) :
    Calls Try.prog 56 #[.slice aoa a.length capa, .slice aob b.length capb] w0 fun e w' => e = .returned (.int .i64 (boundL a b)) ∧ Evo w0 w' [] := by
 refine calls_enter (n := 27) (args := [.slice aoa a.length capa, .slice aob b.length capb]) Try.func56 rfl Try.ntmps56 rfl ?_
 have hV : Evo w0 w0 [] := Evo.refl _ _
 have ha0 := keepE ha
 have hbd_ha := ha.bd
 have hb0 := keepE hb
 have hbd_hb := hb.bd
 refine r_seq ?_
 refine r_region ?_
 refine r_op rfl rfl rfl (run_asg (v := .int _ _) rfl (by exact rfl)) ?_
 refine r_nil ?_
 refine r_seq ?_
 have hwa := wordsT_len a; have hwb := wordsT_len b; have hga := gramsL_len (wordsT a); have hgb := gramsL_len (wordsT b); have hmb := mssL_bd a b; have hbb := bag_nonneg a b (by omega) (by omega); have hm1 := lackL_bd (gramsL (wordsT a)) (gramsL (wordsT b)); have hm2 := lackL_bd (gramsL (wordsT b)) (gramsL (wordsT a)); have htd := Int.tdiv_eq_ediv_of_nonneg (a := max (lackL (gramsL (wordsT a)) (gramsL (wordsT b))) (lackL (gramsL (wordsT b)) (gramsL (wordsT a))) + 1) (b := 2) (by omega)
 refine r_region ?_
 refine r_op rfl rfl rfl (run_mv (v := .slice _ _ _) rfl (by exact rfl)) ?_
 refine r_opcall rfl rfl rfl (run_callf (vs := [.slice _ _ _]) rfl (by exact rfl) Try.func44 rfl (by kernel_rfl)) (words_calls ha hqa (by omega)) ?_
 rintro e w1 ⟨vw1, rfl, hE1, how1⟩
 refine ⟨_, rfl, ?_⟩
 have hs_w1 := (hE1).size
 replace hV := evo_step0 hV hE1
 replace ha := ha0 _ hV
 replace hb := hb0 _ hV
 obtain ⟨ao2, g2, cp2, hv2, hr2, hg2⟩ := how1.rowOf
 subst hv2
 refine r_opcall rfl rfl rfl (run_callf (vs := [.slice _ _ _]) rfl (by exact rfl) Try.func47 rfl (by kernel_rfl)) (grams_calls hr2 (by omega)) ?_
 rintro e w3 ⟨vg3, rfl, hE3, hog3⟩
 refine ⟨_, rfl, ?_⟩
 have hs_w3 := (hE3).size
 replace hV := evo_step0 hV hE3
 replace ha := ha0 _ hV
 replace hb := hb0 _ hV
 replace how1 := how1.evo0 hE3
 replace hr2 := hr2.evo0 hE3
 refine r_op rfl rfl rfl (run_mv (v := .slice _ _ _) rfl (by exact rfl)) ?_
 refine r_opcall rfl rfl rfl (run_callf (vs := [.slice _ _ _]) rfl (by exact rfl) Try.func44 rfl (by kernel_rfl)) (words_calls hb hqb (by omega)) ?_
 rintro e w4 ⟨vw4, rfl, hE4, how4⟩
 refine ⟨_, rfl, ?_⟩
 have hs_w4 := (hE4).size
 replace hV := evo_step0 hV hE4
 replace ha := ha0 _ hV
 replace hb := hb0 _ hV
 replace how1 := how1.evo0 hE4
 replace hr2 := hr2.evo0 hE4
 replace hog3 := hog3.evo0 hE4
 obtain ⟨ao5, g5, cp5, hv5, hr5, hg5⟩ := how4.rowOf
 subst hv5
 refine r_opcall rfl rfl rfl (run_callf (vs := [.slice _ _ _]) rfl (by exact rfl) Try.func47 rfl (by kernel_rfl)) (grams_calls hr5 (by omega)) ?_
 rintro e w6 ⟨vg6, rfl, hE6, hog6⟩
 refine ⟨_, rfl, ?_⟩
 have hs_w6 := (hE6).size
 replace hV := evo_step0 hV hE6
 replace ha := ha0 _ hV
 replace hb := hb0 _ hV
 replace how1 := how1.evo0 hE6
 replace hr2 := hr2.evo0 hE6
 replace hog3 := hog3.evo0 hE6
 replace how4 := how4.evo0 hE6
 replace hr5 := hr5.evo0 hE6
 refine r_op rfl rfl rfl (run_asg (v := vg3) rfl (by exact rfl)) ?_
 refine r_op rfl rfl rfl (run_asg (v := vg6) rfl (by exact rfl)) ?_
 refine r_nil ?_
 refine r_seq ?_
 refine r_region ?_
 refine r_op rfl rfl rfl (run_mv (v := .slice _ _ _) rfl (by exact rfl)) ?_
 refine r_op rfl rfl rfl (run_mv (v := .slice _ _ _) rfl (by exact rfl)) ?_
 refine r_opcall rfl rfl rfl (run_callf (vs := [.slice _ _ _, .slice _ _ _]) rfl (by exact rfl) Try.func54 rfl (by kernel_rfl)) (bag_calls ha hb hqa hqb (by omega) (by omega)) ?_
 rintro e w7 ⟨rfl, hE7⟩
 refine ⟨_, rfl, ?_⟩
 have hs_w7 := (hE7).size
 replace hV := evo_step0 hV hE7
 replace ha := ha0 _ hV
 replace hb := hb0 _ hV
 replace how1 := how1.evo0 hE7
 replace hr2 := hr2.evo0 hE7
 replace hog3 := hog3.evo0 hE7
 replace how4 := how4.evo0 hE7
 replace hr5 := hr5.evo0 hE7
 replace hog6 := hog6.evo0 hE7
 refine r_op rfl rfl rfl (run_mv (v := vg3) rfl (by exact rfl)) ?_
 refine r_op rfl rfl rfl (run_mv (v := vg6) rfl (by exact rfl)) ?_
 obtain ⟨ao8, g8, cp8, hv8, hr8, hg8⟩ := hog3.rowOf
 subst hv8
 obtain ⟨ao9, g9, cp9, hv9, hr9, hg9⟩ := hog6.rowOf
 subst hv9
 refine r_opcall rfl rfl rfl (run_callf (vs := [.slice _ _ _, .slice _ _ _]) rfl (by exact rfl) Try.func50 rfl (by kernel_rfl)) (missing_calls hr8 hr9 (by omega) (by omega)) ?_
 rintro e w10 ⟨rfl, hE10⟩
 refine ⟨_, rfl, ?_⟩
 have hs_w10 := (hE10).size
 replace hV := evo_step0 hV hE10
 replace ha := ha0 _ hV
 replace hb := hb0 _ hV
 replace how1 := how1.evo0 hE10
 replace hr2 := hr2.evo0 hE10
 replace hog3 := hog3.evo0 hE10
 replace how4 := how4.evo0 hE10
 replace hr5 := hr5.evo0 hE10
 replace hog6 := hog6.evo0 hE10
 replace hr8 := hr8.evo0 hE10
 replace hr9 := hr9.evo0 hE10
 refine r_op rfl rfl rfl (run_mv (v := .slice _ _ _) rfl (by exact rfl)) ?_
 refine r_op rfl rfl rfl (run_mv (v := .slice _ _ _) rfl (by exact rfl)) ?_
 refine r_opcall rfl rfl rfl (run_callf (vs := [.slice _ _ _, .slice _ _ _]) rfl (by exact rfl) Try.func50 rfl (by kernel_rfl)) (missing_calls hr9 hr8 (by omega) (by omega)) ?_
 rintro e w11 ⟨rfl, hE11⟩
 refine ⟨_, rfl, ?_⟩
 have hs_w11 := (hE11).size
 replace hV := evo_step0 hV hE11
 replace ha := ha0 _ hV
 replace hb := hb0 _ hV
 replace how1 := how1.evo0 hE11
 replace hr2 := hr2.evo0 hE11
 replace hog3 := hog3.evo0 hE11
 replace how4 := how4.evo0 hE11
 replace hr5 := hr5.evo0 hE11
 replace hog6 := hog6.evo0 hE11
 replace hr8 := hr8.evo0 hE11
 replace hr9 := hr9.evo0 hE11
 refine r_op rfl rfl rfl (run_max rfl (by exact rfl) (by exact rfl)) ?_
 refine r_op rfl rfl rfl (run_add rfl (by exact rfl) (by exact rfl) (by omega) (by omega)) ?_
 refine r_op rfl rfl rfl (run_quo rfl (by exact rfl) (by exact rfl) (by omega) (by omega) (by omega)) ?_
 refine r_op rfl rfl rfl (run_mul rfl (by exact rfl) (by exact rfl) (by omega) (by omega)) ?_
 refine r_op rfl rfl rfl (run_max rfl (by exact rfl) (by exact rfl)) ?_
 refine r_op rfl rfl rfl (run_asg (v := .int _ _) rfl (by exact rfl)) ?_
 refine r_nil ?_
 refine r_ret (res1 (v := .int _ _) rfl (by exact rfl)) ?_
 exact ⟨ret_int (by unfold boundL mssL; first | (rw [htd]; done) | rfl | (simp only [Int.tdiv_eq_ediv_of_nonneg (show (0 : Int) ≤ max (lackL (gramsL (wordsT a)) (gramsL (wordsT b))) (lackL (gramsL (wordsT b)) (gramsL (wordsT a))) + 1 by omega)]; done)), hV⟩

end Go.Proofs.Ytomklacppmaljaa

namespace Go.Proofs.Ytomklacppmaljaa
open Go.RowKit Go.Vc
def KW : List Str := [[97], [98], [97]]
def KRa : List Vc.Item := [⟨1, [114, 101, 100, 32, 99, 97, 114], 0⟩]
def KRb : List Vc.Item := [⟨1, [82, 101, 100, 32, 99, 97, 114, 115], 0⟩]
def KTa : List Vc.Item := [⟨6, [114, 101, 100], 0⟩, ⟨8, [32], 0⟩, ⟨6, [99, 97, 114], 0⟩]
def KTb : List Vc.Item := [⟨6, [82, 101, 100], 0⟩, ⟨8, [32], 0⟩, ⟨6, [99, 97, 114, 115], 0⟩]
theorem cutT_at {s r : Str} {k : Int} {n : Nat} (h : s ≠ []) (e : tokN s = (k, n)) (er : s.drop n = r) : cutT s = ⟨k, s.take n, 0⟩ :: cutT r := by
  rw [cutT_cons h, e, er]
theorem ktok_a : toks KRa = KTa := by
  show cutT [114, 101, 100, 32, 99, 97, 114] ++ [] = _
  rw [cutT_at (k := 6) (n := 3) (r := [32, 99, 97, 114]) (by decide) (by decide +kernel) rfl, cutT_at (k := 8) (n := 1) (r := [99, 97, 114]) (by decide) (by decide +kernel) rfl, cutT_at (k := 6) (n := 3) (r := []) (by decide) (by decide +kernel) rfl, cutT_nil]
  rfl
theorem ktok_b : toks KRb = KTb := by
  show cutT [82, 101, 100, 32, 99, 97, 114, 115] ++ [] = _
  rw [cutT_at (k := 6) (n := 3) (r := [32, 99, 97, 114, 115]) (by decide) (by decide +kernel) rfl, cutT_at (k := 8) (n := 1) (r := [99, 97, 114, 115]) (by decide) (by decide +kernel) rfl, cutT_at (k := 6) (n := 4) (r := []) (by decide) (by decide +kernel) rfl, cutT_nil]
  rfl
theorem known_bound : boundL KTa KTb = 4 := by decide +kernel
theorem known_len : (gramsL KW).length = 4 := by decide +kernel
theorem known_first : (gramsL KW).getD 0 default = ⟨[], [97], 1⟩ := by decide +kernel
end Go.Proofs.Ytomklacppmaljaa

namespace Go.Proofs.Ytomklacppmaljaa
open Go.RowKit Go.Vc

theorem fLen_mem {l : List Vc.Item} {x : Vc.Item} (h : x ∈ l) : x.text.length ≤ fLen l := by
  induction l with
  | nil => cases h
  | cons y l ih =>
    have e : fLen (y :: l) = y.text.length + fLen l := by simp [fLen]
    rcases List.mem_cons.1 h with rfl | h
    · omega
    · have := ih h; omega
theorem cutT_text : ∀ (n : Nat) (s : Str), s.length = n → ∀ x ∈ cutT s, x.text.length ≤ s.length := by
  intro n
  induction n using Nat.strongRecOn with
  | ind n ih =>
    intro s hs x hx
    by_cases h : s = []
    · subst h; rw [cutT_nil] at hx; cases hx
    · have h1 := tokN_pos s
      have h2 : 0 < s.length := List.length_pos_iff.2 h
      rw [cutT_cons h] at hx
      rcases List.mem_cons.1 hx with rfl | hx
      · show (s.take _).length ≤ _; rw [List.length_take]; omega
      · have h3 := ih _ (by rw [← hs]; show (s.drop (tokN s).2).length < s.length; rw [List.length_drop]; omega) (s.drop (tokN s).2) rfl x hx
        rw [List.length_drop] at h3; omega
theorem toks_text {f : List Vc.Item} {x : Vc.Item} (h : x ∈ toks f) : x.text.length ≤ fLen f := by
  unfold toks at h
  obtain ⟨y, hy, hx⟩ := List.mem_flatMap.1 h
  have h1 := fLen_mem hy
  unfold tokI at hx
  split at hx
  · have := cutT_text _ y.text rfl x hx; omega
  · split at hx
    · have : x = y := by simpa using hx
      rw [this]; exact h1
    · cases hx
/-- what a list that differs in a few tokens is like -/
def NR (B k : Nat) (lo : List Vc.Item) : Prop := lo.length ≤ 2 * k ∧ ∀ x ∈ lo, x.text.length ≤ B + 4
theorem NR.nil (B : Nat) : NR B 0 [] := ⟨Nat.le_refl _, by simp⟩
theorem NR.skip {B k : Nat} {lo : List Vc.Item} (h : NR B k lo) : NR B (k + 1) lo := ⟨by have := h.1; omega, h.2⟩
theorem NR.one {B k : Nat} {lo : List Vc.Item} {x : Vc.Item} (h : NR B k lo) (hx : x.text.length ≤ B + 4) : NR B (k + 1) (lo ++ [x]) :=
  ⟨by rw [List.length_append]; have := h.1; simp; omega, fun y hy => (List.mem_append.1 hy).elim (h.2 y) (fun q => by have e : y = x := (by simpa using q); rw [e]; exact hx)⟩
end Go.Proofs.Ytomklacppmaljaa

namespace Go.Proofs.Ytomklacppmaljaa
open Go.RowKit Go.Vc

theorem kqa : ∀ x ∈ toks KRa, x.text.length ≤ 140737488355328 := fun x hx => by have := toks_text hx; have e : fLen KRa = 7 := rfl; omega
theorem kqb : ∀ x ∈ toks KRb, x.text.length ≤ 140737488355328 := fun x hx => by have := toks_text hx; have e : fLen KRb = 8 := rfl; omega
theorem kla : (toks KRa).length ≤ 900000 := by rw [ktok_a]; decide
theorem klb : (toks KRb).length ≤ 900000 := by rw [ktok_b]; decide
theorem kbound : boundL (toks KRa) (toks KRb) = 4 := by rw [ktok_a, ktok_b]; exact known_bound
theorem klen : (((gramsL KW).length : Nat) : Int) = 4 := by rw [known_len]; rfl

theorem known14_calls  {w0 : World}  :
    Calls Try.prog 43 #[] w0 fun e w' => e = .returned (.bool true) ∧ Evo w0 w' [] := by
 have hkw : KW.length = 3 := rfl
 refine calls_enter (n := 28) (args := []) Try.func43 rfl Try.ntmps43 rfl ?_
 have hV : Evo w0 w0 [] := Evo.refl _ _
 refine r_seq ?_
 refine r_region ?_
 refine r_op rfl rfl rfl (run_asg (v := .bool _) rfl (by exact rfl)) ?_
 refine r_nil ?_
 refine r_seq ?_
 refine r_region ?_
 refine r_bslice (pv := [(0, S _), (1, S _), (2, S _)]) (zs := [_]) (cs := [_, _, _]) Try.underlying34 ty_9 (by exact rfl) rfl (by exact rfl) rfl (by exact rfl) ?_
 intro b1 w2 heb1 hEw2 hbb1 hzb1
 have hs_w2 := (hEw2).size
 replace hV := evo_step0 hV hEw2
 have hAb1 := hbb1.at
 have hrb1 : RowE w2 (some ⟨b1, 0, none⟩) b1 0 3 KW := rowLit KW hbb1 rfl rfl
 refine r_opcall rfl rfl rfl (run_callf (vs := [.slice (some ⟨b1, 0, none⟩) _ _]) rfl (by exact rfl) Try.func47 rfl (by kernel_rfl)) (grams_calls hrb1 (by omega)) ?_
 rintro e w3 ⟨vg3, rfl, hE3, hog3⟩
 refine ⟨_, rfl, ?_⟩
 have hs_w3 := (hE3).size
 replace hV := evo_step0 hV hE3
 replace hrb1 := hrb1.evo0 hE3
 refine r_op rfl rfl rfl (run_asg (v := vg3) rfl (by exact rfl)) ?_
 refine r_nil ?_
 refine r_seq ?_
 refine r_region ?_
 refine r_op rfl rfl rfl (run_bld (pv := [(0, .int _ _), (1, S _)]) (zs := [_, _, _]) (cells := [_, _, _]) rfl ty_129 (by exact rfl) pl_129 (by exact rfl) (by exact rfl)) ?_
 refine r_bslice (pv := [(0, .agg _)]) (zs := [_, _, _]) (cs := [_, _, _]) Try.underlying85 ty_129 (by exact rfl) rfl (by exact rfl) rfl (by exact rfl) ?_
 intro b4 w5 heb4 hEw5 hbb4 hzb4
 have hs_w5 := (hEw5).size
 replace hV := evo_step0 hV hEw5
 replace hrb1 := hrb1.evo0 hEw5
 replace hog3 := hog3.evo0 hEw5
 have hAb4 := hbb4.at
 have hrb4 : RowE w5 (some ⟨b4, 0, none⟩) b4 0 1 KRa := rowLit KRa hbb4 rfl rfl
 refine r_opcall rfl rfl rfl (run_callf (vs := [.slice (some ⟨b4, 0, none⟩) _ _]) rfl (by exact rfl) Try.func88 rfl (by kernel_rfl)) (rtokens_calls hrb4 (by decide)) ?_
 rintro e w6 ⟨vt6, rfl, hE6, hot6⟩
 refine ⟨_, rfl, ?_⟩
 have hs_w6 := (hE6).size
 replace hV := evo_step0 hV hE6
 replace hrb1 := hrb1.evo0 hE6
 replace hog3 := hog3.evo0 hE6
 replace hrb4 := hrb4.evo0 hE6
 refine r_op rfl rfl rfl (run_asg (v := vt6) rfl (by exact rfl)) ?_
 refine r_nil ?_
 refine r_seq ?_
 refine r_region ?_
 refine r_op rfl rfl rfl (run_bld (pv := [(0, .int _ _), (1, S _)]) (zs := [_, _, _]) (cells := [_, _, _]) rfl ty_129 (by exact rfl) pl_129 (by exact rfl) (by exact rfl)) ?_
 refine r_bslice (pv := [(0, .agg _)]) (zs := [_, _, _]) (cs := [_, _, _]) Try.underlying85 ty_129 (by exact rfl) rfl (by exact rfl) rfl (by exact rfl) ?_
 intro b7 w8 heb7 hEw8 hbb7 hzb7
 have hs_w8 := (hEw8).size
 replace hV := evo_step0 hV hEw8
 replace hrb1 := hrb1.evo0 hEw8
 replace hog3 := hog3.evo0 hEw8
 replace hrb4 := hrb4.evo0 hEw8
 replace hot6 := hot6.evo0 hEw8
 have hAb7 := hbb7.at
 have hrb7 : RowE w8 (some ⟨b7, 0, none⟩) b7 0 1 KRb := rowLit KRb hbb7 rfl rfl
 refine r_opcall rfl rfl rfl (run_callf (vs := [.slice (some ⟨b7, 0, none⟩) _ _]) rfl (by exact rfl) Try.func88 rfl (by kernel_rfl)) (rtokens_calls hrb7 (by decide)) ?_
 rintro e w9 ⟨vt9, rfl, hE9, hot9⟩
 refine ⟨_, rfl, ?_⟩
 have hs_w9 := (hE9).size
 replace hV := evo_step0 hV hE9
 replace hrb1 := hrb1.evo0 hE9
 replace hog3 := hog3.evo0 hE9
 replace hrb4 := hrb4.evo0 hE9
 replace hot6 := hot6.evo0 hE9
 replace hrb7 := hrb7.evo0 hE9
 refine r_op rfl rfl rfl (run_asg (v := vt9) rfl (by exact rfl)) ?_
 refine r_nil ?_
 refine r_seq ?_
 obtain ⟨ao10, g10, cp10, hv10, hr10, hg10⟩ := hog3.rowOf
 subst hv10
 refine r_region ?_
 refine r_op rfl rfl rfl (run_mv (v := .slice _ _ _) rfl (by exact rfl)) ?_
 refine r_op rfl rfl rfl (run_lenSl rfl (by exact rfl) Try.underlying67) ?_
 refine r_op rfl rfl rfl (run_eql rfl (by exact rfl) (by exact rfl)) ?_
 refine r_op rfl rfl rfl (run_mv (v := .bool _) rfl (by exact rfl)) ?_
 refine r_gyes rfl (wantT (by exact rfl)) (by exact klen) ?_
 refine r_op rfl rfl rfl (run_mv (v := .slice _ _ _) rfl (by exact rfl)) ?_
 refine r_gyes rfl (wantT (by exact rfl)) (by exact klen) ?_
 refine r_op rfl rfl rfl (run_ix (0) rfl Try.underlying67 ty_72 (by exact rfl) (by exact rfl) (by first | exact rfl | omega) (by rw [known_len]; decide) (hr10.addr (i := 0) (by rw [known_len]; decide))) ?_
 have hA11 := hr10.atD (0) (by rw [known_len]; decide)
 refine r_gyes rfl (wantT (by exact rfl)) (by exact klen) ?_
 refine r_op rfl rfl rfl (run_ldN rfl ag_72 ty_72 (by exact rfl) rfl hA11) ?_
 refine r_gyes rfl (wantT (by exact rfl)) (by exact klen) ?_
 refine r_op rfl rfl rfl (run_bld (pv := [(0, S _), (1, S _), (2, .int _ _)]) (zs := [_, _, _]) (cells := [_, _, _]) rfl ty_72 (by exact rfl) pl_72 (by exact rfl) (by exact rfl)) ?_
 refine r_gyes rfl (wantT (by exact rfl)) (by exact klen) ?_
 refine r_op rfl rfl rfl (run_eqlG (α := Gram) ((gramsL KW).getD 0 default) (⟨[], [97], 1⟩ : Gram) rfl Try.eqGuardType72 gee (by exact rfl) (by exact rfl)) ?_
 refine r_op rfl rfl rfl (run_pick_and rfl (by exact rfl) (fun _ => (by exact rfl)) rfl) ?_
 refine r_op rfl rfl rfl (run_mv (v := .bool _) rfl (by exact rfl)) ?_
 refine r_gyes rfl (wantT (by exact rfl)) (by exact ⟨klen, known_first⟩) ?_
 refine r_op rfl rfl rfl (run_mv (v := vt6) rfl (by exact rfl)) ?_
 refine r_gyes rfl (wantT (by exact rfl)) (by exact ⟨klen, known_first⟩) ?_
 refine r_op rfl rfl rfl (run_mv (v := vt9) rfl (by exact rfl)) ?_
 refine r_gyes rfl (wantT (by exact rfl)) (by exact ⟨klen, known_first⟩) ?_
 obtain ⟨ao12, g12, cp12, hv12, hr12, hg12⟩ := hot6.rowOf
 subst hv12
 obtain ⟨ao13, g13, cp13, hv13, hr13, hg13⟩ := hot9.rowOf
 subst hv13
 refine r_opcall rfl rfl rfl (run_callf (vs := [.slice _ _ _, .slice _ _ _]) rfl (by exact rfl) Try.func56 rfl (by kernel_rfl)) (bound_calls hr12 hr13 kqa kqb kla klb) ?_
 rintro e w14 ⟨rfl, hE14⟩
 refine ⟨_, rfl, ?_⟩
 have hs_w14 := (hE14).size
 replace hV := evo_step0 hV hE14
 replace hrb1 := hrb1.evo0 hE14
 replace hog3 := hog3.evo0 hE14
 replace hrb4 := hrb4.evo0 hE14
 replace hot6 := hot6.evo0 hE14
 replace hrb7 := hrb7.evo0 hE14
 replace hot9 := hot9.evo0 hE14
 replace hr10 := hr10.evo0 hE14
 replace hr12 := hr12.evo0 hE14
 replace hr13 := hr13.evo0 hE14
 refine r_gyes rfl (wantT (by exact rfl)) (by exact ⟨klen, known_first⟩) ?_
 refine r_op rfl rfl rfl (run_eql rfl (by exact rfl) (by exact rfl)) ?_
 refine r_op rfl rfl rfl (run_pick_and rfl (by exact rfl) (fun _ => (by exact rfl)) rfl) ?_
 refine r_op rfl rfl rfl (run_asg (v := .bool _) rfl (by exact rfl)) ?_
 refine r_nil ?_
 refine r_ret (res1 (v := .bool _) rfl (by exact rfl)) ?_
 exact ⟨ret_bool (decide_eq_true ⟨⟨klen, known_first⟩, kbound⟩), hV⟩

end Go.Proofs.Ytomklacppmaljaa

namespace Go.Proofs.Ytomklacppmaljaa
open Go.RowKit Go.Vc

set_option maxHeartbeats 1000000 in
theorem smissing_law {aoa : Option Addr} {ba offa capa : Nat} {a : List Gram} {aob : Option Addr} {bb offb capb : Nat} {b : List Gram} {aol : Option Addr} {bl offl capl : Nat} {l : List Int} {aom : Option Addr} {bm offm capm : Nat} {m : List Int} {w0 : World} (ha : RowE w0 aoa ba offa capa a) (hga : gsz a ≤ 1048576) (hb : RowE w0 aob bb offb capb b) (hgb : gsz b ≤ 1048576) (hl : RowE w0 aol bl offl capl l) (hm : RowE w0 aom bm offm capm m) :
    Calls Try.prog 14 #[.slice aoa a.length capa, .slice aob b.length capb, .slice aol l.length capl, .slice aom m.length capm] w0 fun e w' => e = .returned (.bool true) ∧ Evo w0 w' [] := by
 have hna := gsz_len a; have hnb := gsz_len b
 refine calls_enter (n := 68) (args := [.slice aoa a.length capa, .slice aob b.length capb, .slice aol l.length capl, .slice aom m.length capm]) Try.func14 rfl Try.ntmps14 rfl ?_
 have hV : Evo w0 w0 [] := Evo.refl _ _
 have ha0 := keepE ha
 have hbd_ha := ha.bd
 have hb0 := keepE hb
 have hbd_hb := hb.bd
 have hl0 := keepE hl
 have hbd_hl := hl.bd
 have hm0 := keepE hm
 have hbd_hm := hm.bd
 refine r_seq ?_
 refine r_region ?_
 refine r_op rfl rfl rfl (run_asg (v := .bool _) rfl (by exact rfl)) ?_
 refine r_nil ?_
 refine r_seq ?_
 refine r_region ?_
 refine r_op rfl rfl rfl (run_asg (v := .int _ _) rfl (by exact rfl)) ?_
 refine r_nil ?_
 refine r_seq ?_
 refine r_seq ?_
 refine r_region ?_
 refine r_op rfl rfl rfl (run_mv (v := .slice _ _ _) rfl (by exact rfl)) ?_
 refine r_appendE rfl Try.underlying67 ty_72 (by exact rfl) (OwnE.nil (α := Gram) _ w0.heap.size _) (by exact rfl) (by exact rfl) ha rfl (by simp; omega) (by simp; omega) (by omega) ?_
 intro v1 w2 hEw2 hov1 hlv1
 have hs_w2 := (hEw2).size
 replace hV := evo_step0 hV hEw2
 replace ha := ha0 _ hV
 replace hb := hb0 _ hV
 replace hl := hl0 _ hV
 replace hm := hm0 _ hV
 refine r_op rfl rfl rfl (run_mv (v := .slice _ _ _) rfl (by exact rfl)) ?_
 refine r_appendE rfl Try.underlying67 ty_72 (by exact rfl) hov1 (by exact rfl) (by exact rfl) hb rfl ((by first | omega | (simp; omega))) ((by first | omega | (simp; omega))) (by omega) ?_
 intro v3 w4 hEw4 hov3 hlv3
 have hs_w4 := (hEw4).size
 replace hV := evo_stepo hV hEw4 (fun g hg => .inl (by first | exact (hov1.block hg).1 | (have := hov1.block hg; omega)))
 replace ha := ha0 _ hV
 replace hb := hb0 _ hV
 replace hl := hl0 _ hV
 replace hm := hm0 _ hV
 refine r_op rfl rfl rfl (run_lenOE rfl (by exact rfl) Try.underlying67 hov3) ?_
 refine r_op rfl rfl rfl (run_mv (v := .int _ _) rfl (by exact rfl)) ?_
 refine r_nil ?_
 refine r_block ?_
 have hI5 : Evo w4 w4 [] := Evo.refl _ _
 obtain ⟨ao6, g6, cp6, hv6, hr6, hg6⟩ := hov3.rowOf
 subst hv6
 have hr60 := keepE hr6
 refine r_loop (α := Nat) [9, 11, 19, 20, 21, 22, 23, 24, 25, 26, 27, 28, 29, 30, 31, 32, 33] (fun k g w => g 19 = .int .i64 (k : Nat) ∧ g 9 = .int .i64 ((gsz (([] ++ a ++ b).take k) : Nat) : Int) ∧ k ≤ ([] ++ a ++ b).length ∧ w4.heap.size ≤ w.heap.size ∧ Evo w0 w [] ∧ Evo w4 w []) (fun k => ([] ++ a ++ b).length - k) 0 ?_ ?_
 ·refine ⟨(by first | exact rfl | exact congrArg (Value.int _) (by omega) | exact congrArg (Value.int _) (by dsimp only; omega) | exact congrArg (Value.int _) (by simp) | exact congrArg S (by simp)), rfl, (by first | assumption | omega | (dsimp only; omega) | (simp; done)), (by first | assumption | omega | (dsimp only; omega) | (simp; done)), hV, hI5⟩
 ·rintro k g w8 ⟨hj9, hj10, hk_k, hzl7, hV, hI5⟩
  have hs_w8hV := hV.size
  have hs_w8hI5 := hI5.size
  replace ha := ha0 _ hV
  replace hb := hb0 _ hV
  replace hl := hl0 _ hV
  replace hm := hm0 _ hV
  replace hr6 := hr60 _ hI5
  refine r_know (i := 19) (v := .int .i64 (k : Nat)) (by exact hj9) ?_
  refine r_know (i := 9) (v := .int .i64 ((gsz (([] ++ a ++ b).take k) : Nat) : Int)) (by exact hj10) ?_
  refine r_seq ?_
  refine r_region ?_
  refine r_op rfl rfl rfl (run_lss rfl (by exact rfl) (by exact rfl)) ?_
  refine r_nil ?_
  refine r_seq ?_
  refine r_cond (by exact rfl) (fun hc11 => ?_) (fun hc11 => ?_)
  ·skip
   refine r_skip ?_
   refine r_seq ?_
   refine r_block ?_
   refine r_seq ?_
   have hll : ([] ++ a ++ b).length = a.length + b.length := by rw [List.nil_append, List.length_append]
   have hgs := gsz_succ (l := ([] ++ a ++ b)) (k := k) (by omega); have hgt := gsz_take ([] ++ a ++ b) k; have hga : gsz ([] ++ a ++ b) = gsz a + gsz b := gsz_append a b; have hgz : gz (([] ++ a ++ b).getD k default) = 1 + ((([] ++ a ++ b).getD k default).fst.length + (([] ++ a ++ b).getD k default).snd.length) := rfl; have hgt2 := gsz_take ([] ++ a ++ b) (k + 1)
   refine r_region ?_
   refine r_op rfl rfl rfl (run_ix (k) rfl Try.underlying67 ty_72 (by exact rfl) (by exact rfl) (by first | exact rfl | omega) (by omega) (hr6.addr (i := k) (by omega))) ?_
   have hA120 := fun (w' : World) (h : Evo w4 w' []) => (hr60 w' h).atD (k) (by omega)
   have hA12 := hA120 _ hI5
   refine r_op rfl rfl rfl (run_ldN rfl ag_72 ty_72 (by exact rfl) rfl hA12) ?_
   refine r_var (zs := [_, _, _]) (vs := [_, _, _]) ty_72 (by exact rfl) rfl (by exact rfl) (fun _ => rfl) (by exact rfl) rfl rfl (by exact rfl) ?_
   intro b13 w14 heb13 hEw14 hbb13 hzb13
   have hs_w14 := (hEw14).size
   replace hV := evo_step0 hV hEw14
   replace hI5 := evo_step0 hI5 hEw14
   replace ha := ha0 _ hV
   replace hb := hb0 _ hV
   replace hl := hl0 _ hV
   replace hm := hm0 _ hV
   replace hr6 := hr60 _ hI5
   have hAb13 := hbb13.at
   refine r_nil ?_
   refine r_region ?_
   refine r_op rfl rfl rfl (run_mv (v := .int _ _) rfl (by exact rfl)) ?_
   refine r_op rfl rfl rfl (run_fa rfl (by exact rfl) fo_72_0) ?_
   refine r_op rfl rfl rfl (run_ld1 rfl ag_9 (by exact rfl) (hAb13.cell 0 (by exact rfl))) ?_
   refine r_op rfl rfl rfl (run_lenS rfl (by exact rfl) Try.underlying9) ?_
   refine r_op rfl rfl rfl (run_add rfl (by exact rfl) (by exact rfl) (by omega) (by omega)) ?_
   refine r_op rfl rfl rfl (run_fa rfl (by exact rfl) fo_72_1) ?_
   refine r_op rfl rfl rfl (run_ld1 rfl ag_9 (by exact rfl) (hAb13.cell 1 (by exact rfl))) ?_
   refine r_op rfl rfl rfl (run_lenS rfl (by exact rfl) Try.underlying9) ?_
   refine r_op rfl rfl rfl (run_add rfl (by exact rfl) (by exact rfl) (by omega) (by omega)) ?_
   refine r_op rfl rfl rfl (run_add rfl (by exact rfl) (by exact rfl) (by omega) (by omega)) ?_
   refine r_op rfl rfl rfl (run_asg (v := .int _ _) rfl (by exact rfl)) ?_
   refine r_nil ?_
   refine r_blk ?_
   refine r_region ?_
   refine r_op rfl rfl rfl (run_add rfl (by exact rfl) (by exact rfl) (by omega) (by omega)) ?_
   refine r_op rfl rfl rfl (run_mv (v := .int _ _) rfl (by exact rfl)) ?_
   refine r_nil ?_
   refine r_again (k + 1) ?_ ?_ ?_
   ·first | omega | (dsimp only; omega)
   ·refine ⟨(by first | exact rfl | exact congrArg (Value.int _) (by omega) | exact congrArg (Value.int _) (by dsimp only; omega) | exact congrArg (Value.int _) (by simp) | exact congrArg S (by simp)), (congrArg (Value.int _) (by rw [hgs, hgz]; push_cast; omega)), (by first | assumption | omega | (dsimp only; omega) | (simp; done)), (by first | assumption | omega | (dsimp only; omega) | (simp; done)), hV, hI5⟩
   ·repeat (first | (with_reducible exact Agree.merge _ _ _) | (with_reducible exact Agree.refl _ _) | (with_reducible refine Agree.upd ?_ _ _ rfl) | ((with_reducible refine Agree.inner ?_ ?_); (kernel_rfl)))
  ·skip
   refine r_exit rfl ?_
   refine r_seq ?_
   refine r_seq ?_
   have htk : ([] ++ a ++ b).take k = [] ++ a ++ b := List.take_of_length_le (by omega)
   have hgk : gsz (([] ++ a ++ b).take k) = gsz ([] ++ a ++ b) := by rw [htk]
   have hk9 : k = ([] ++ a ++ b).length := by omega
   have hga : gsz ([] ++ a ++ b) = gsz a + gsz b := gsz_append a b; have hla := gsz_len a; have hlb := gsz_len b; have hwl := wordsM_len l; have hwm := wordsM_len m; have hgl := gramsL_len (wordsM l); have hgm := gramsL_len (wordsM m)
   refine r_region ?_
   refine r_op rfl rfl rfl (run_mv (v := .int _ _) rfl (by exact rfl)) ?_
   refine r_op rfl rfl rfl (run_gtr rfl (by exact rfl) (by exact rfl)) ?_
   refine r_nil ?_
   refine r_cond (by exact rfl) (fun hc15 => ?_) (fun hc15 => ?_)
   ·skip
    refine r_seq ?_
    refine r_region ?_
    refine r_opcall rfl rfl rfl (run_callf (vs := []) rfl (by exact rfl) Try.func43 rfl (by kernel_rfl)) known14_calls ?_
    rintro e w16 ⟨rfl, hE16⟩
    refine ⟨_, rfl, ?_⟩
    have hs_w16 := (hE16).size
    replace hV := evo_step0 hV hE16
    replace hI5 := evo_step0 hI5 hE16
    replace ha := ha0 _ hV
    replace hb := hb0 _ hV
    replace hl := hl0 _ hV
    replace hm := hm0 _ hV
    replace hr6 := hr60 _ hI5
    refine r_op rfl rfl rfl (run_asg (v := .bool _) rfl (by exact rfl)) ?_
    refine r_nil ?_
    refine r_ret (res1 (v := .bool _) rfl (by exact rfl)) ?_
    first | exact ⟨rfl, hV⟩ | exact ⟨ret_bool (decide_eq_true ⟨⟨⟨rfl, rfl⟩, lack_self a⟩, rfl⟩), hV⟩ | exact absurd hc15 (by simp)
   ·skip
    refine r_skip ?_
    refine r_seq ?_
    refine r_region ?_
    refine r_op rfl rfl rfl (run_mv (v := .slice _ _ _) rfl (by exact rfl)) ?_
    refine r_opcall rfl rfl rfl (run_callf (vs := [.slice _ _ _]) rfl (by exact rfl) Try.func49 rfl (by kernel_rfl)) (wordsm_calls hl) ?_
    rintro e w17 ⟨vw17, rfl, hE17, how17⟩
    refine ⟨_, rfl, ?_⟩
    have hs_w17 := (hE17).size
    replace hV := evo_step0 hV hE17
    replace hI5 := evo_step0 hI5 hE17
    replace ha := ha0 _ hV
    replace hb := hb0 _ hV
    replace hl := hl0 _ hV
    replace hm := hm0 _ hV
    replace hr6 := hr60 _ hI5
    obtain ⟨ao18, g18, cp18, hv18, hr18, hg18⟩ := how17.rowOf
    subst hv18
    refine r_opcall rfl rfl rfl (run_callf (vs := [.slice _ _ _]) rfl (by exact rfl) Try.func48 rfl (by kernel_rfl)) (rgrams_calls hr18 (by omega)) ?_
    rintro e w19 ⟨vg19, rfl, hE19, hog19⟩
    refine ⟨_, rfl, ?_⟩
    have hs_w19 := (hE19).size
    replace hV := evo_step0 hV hE19
    replace hI5 := evo_step0 hI5 hE19
    replace ha := ha0 _ hV
    replace hb := hb0 _ hV
    replace hl := hl0 _ hV
    replace hm := hm0 _ hV
    replace hr6 := hr60 _ hI5
    replace how17 := how17.evo0 hE19
    replace hr18 := hr18.evo0 hE19
    refine r_op rfl rfl rfl (run_mv (v := .slice _ _ _) rfl (by exact rfl)) ?_
    refine r_opcall rfl rfl rfl (run_callf (vs := [.slice _ _ _]) rfl (by exact rfl) Try.func49 rfl (by kernel_rfl)) (wordsm_calls hm) ?_
    rintro e w20 ⟨vw20, rfl, hE20, how20⟩
    refine ⟨_, rfl, ?_⟩
    have hs_w20 := (hE20).size
    replace hV := evo_step0 hV hE20
    replace hI5 := evo_step0 hI5 hE20
    replace ha := ha0 _ hV
    replace hb := hb0 _ hV
    replace hl := hl0 _ hV
    replace hm := hm0 _ hV
    replace hr6 := hr60 _ hI5
    replace how17 := how17.evo0 hE20
    replace hr18 := hr18.evo0 hE20
    replace hog19 := hog19.evo0 hE20
    obtain ⟨ao21, g21, cp21, hv21, hr21, hg21⟩ := how20.rowOf
    subst hv21
    refine r_opcall rfl rfl rfl (run_callf (vs := [.slice _ _ _]) rfl (by exact rfl) Try.func48 rfl (by kernel_rfl)) (rgrams_calls hr21 (by omega)) ?_
    rintro e w22 ⟨vg22, rfl, hE22, hog22⟩
    refine ⟨_, rfl, ?_⟩
    have hs_w22 := (hE22).size
    replace hV := evo_step0 hV hE22
    replace hI5 := evo_step0 hI5 hE22
    replace ha := ha0 _ hV
    replace hb := hb0 _ hV
    replace hl := hl0 _ hV
    replace hm := hm0 _ hV
    replace hr6 := hr60 _ hI5
    replace how17 := how17.evo0 hE22
    replace hr18 := hr18.evo0 hE22
    replace hog19 := hog19.evo0 hE22
    replace how20 := how20.evo0 hE22
    replace hr21 := hr21.evo0 hE22
    refine r_op rfl rfl rfl (run_asg (v := vg19) rfl (by exact rfl)) ?_
    refine r_op rfl rfl rfl (run_asg (v := vg22) rfl (by exact rfl)) ?_
    refine r_nil ?_
    refine r_seq ?_
    refine r_region ?_
    refine r_op rfl rfl rfl (run_mv (v := .slice _ _ _) rfl (by exact rfl)) ?_
    refine r_op rfl rfl rfl (run_mv (v := .slice _ _ _) rfl (by exact rfl)) ?_
    refine r_opcall rfl rfl rfl (run_callf (vs := [.slice _ _ _, .slice _ _ _]) rfl (by exact rfl) Try.func50 rfl (by kernel_rfl)) (missing_calls ha hb (by omega) (by omega)) ?_
    rintro e w23 ⟨rfl, hE23⟩
    refine ⟨_, rfl, ?_⟩
    have hs_w23 := (hE23).size
    replace hV := evo_step0 hV hE23
    replace hI5 := evo_step0 hI5 hE23
    replace ha := ha0 _ hV
    replace hb := hb0 _ hV
    replace hl := hl0 _ hV
    replace hm := hm0 _ hV
    replace hr6 := hr60 _ hI5
    replace how17 := how17.evo0 hE23
    replace hr18 := hr18.evo0 hE23
    replace hog19 := hog19.evo0 hE23
    replace how20 := how20.evo0 hE23
    replace hr21 := hr21.evo0 hE23
    replace hog22 := hog22.evo0 hE23
    refine r_op rfl rfl rfl (run_mv (v := .slice _ _ _) rfl (by exact rfl)) ?_
    refine r_op rfl rfl rfl (run_mv (v := .slice _ _ _) rfl (by exact rfl)) ?_
    refine r_opcall rfl rfl rfl (run_callf (vs := [.slice _ _ _, .slice _ _ _]) rfl (by exact rfl) Try.func51 rfl (by kernel_rfl)) (rmissing_calls ha hb (by omega) (by omega)) ?_
    rintro e w24 ⟨rfl, hE24⟩
    refine ⟨_, rfl, ?_⟩
    have hs_w24 := (hE24).size
    replace hV := evo_step0 hV hE24
    replace hI5 := evo_step0 hI5 hE24
    replace ha := ha0 _ hV
    replace hb := hb0 _ hV
    replace hl := hl0 _ hV
    replace hm := hm0 _ hV
    replace hr6 := hr60 _ hI5
    replace how17 := how17.evo0 hE24
    replace hr18 := hr18.evo0 hE24
    replace hog19 := hog19.evo0 hE24
    replace how20 := how20.evo0 hE24
    replace hr21 := hr21.evo0 hE24
    replace hog22 := hog22.evo0 hE24
    refine r_op rfl rfl rfl (run_eql rfl (by exact rfl) (by exact rfl)) ?_
    refine r_op rfl rfl rfl (run_mv (v := .bool _) rfl (by exact rfl)) ?_
    refine r_gyes rfl (wantT (by exact rfl)) (by exact (by first | rfl | exact ⟨rfl, rfl⟩ | exact ⟨⟨rfl, rfl⟩, lack_self a⟩)) ?_
    refine r_op rfl rfl rfl (run_mv (v := vg19) rfl (by exact rfl)) ?_
    refine r_gyes rfl (wantT (by exact rfl)) (by exact (by first | rfl | exact ⟨rfl, rfl⟩ | exact ⟨⟨rfl, rfl⟩, lack_self a⟩)) ?_
    refine r_op rfl rfl rfl (run_mv (v := vg22) rfl (by exact rfl)) ?_
    refine r_gyes rfl (wantT (by exact rfl)) (by exact (by first | rfl | exact ⟨rfl, rfl⟩ | exact ⟨⟨rfl, rfl⟩, lack_self a⟩)) ?_
    obtain ⟨ao25, g25, cp25, hv25, hr25, hg25⟩ := hog19.rowOf
    subst hv25
    obtain ⟨ao26, g26, cp26, hv26, hr26, hg26⟩ := hog22.rowOf
    subst hv26
    refine r_opcall rfl rfl rfl (run_callf (vs := [.slice _ _ _, .slice _ _ _]) rfl (by exact rfl) Try.func50 rfl (by kernel_rfl)) (missing_calls hr25 hr26 (by omega) (by omega)) ?_
    rintro e w27 ⟨rfl, hE27⟩
    refine ⟨_, rfl, ?_⟩
    have hs_w27 := (hE27).size
    replace hV := evo_step0 hV hE27
    replace hI5 := evo_step0 hI5 hE27
    replace ha := ha0 _ hV
    replace hb := hb0 _ hV
    replace hl := hl0 _ hV
    replace hm := hm0 _ hV
    replace hr6 := hr60 _ hI5
    replace how17 := how17.evo0 hE27
    replace hr18 := hr18.evo0 hE27
    replace hog19 := hog19.evo0 hE27
    replace how20 := how20.evo0 hE27
    replace hr21 := hr21.evo0 hE27
    replace hog22 := hog22.evo0 hE27
    replace hr25 := hr25.evo0 hE27
    replace hr26 := hr26.evo0 hE27
    refine r_gyes rfl (wantT (by exact rfl)) (by exact (by first | rfl | exact ⟨rfl, rfl⟩ | exact ⟨⟨rfl, rfl⟩, lack_self a⟩)) ?_
    refine r_op rfl rfl rfl (run_mv (v := .slice _ _ _) rfl (by exact rfl)) ?_
    refine r_gyes rfl (wantT (by exact rfl)) (by exact (by first | rfl | exact ⟨rfl, rfl⟩ | exact ⟨⟨rfl, rfl⟩, lack_self a⟩)) ?_
    refine r_op rfl rfl rfl (run_mv (v := .slice _ _ _) rfl (by exact rfl)) ?_
    refine r_gyes rfl (wantT (by exact rfl)) (by exact (by first | rfl | exact ⟨rfl, rfl⟩ | exact ⟨⟨rfl, rfl⟩, lack_self a⟩)) ?_
    refine r_opcall rfl rfl rfl (run_callf (vs := [.slice _ _ _, .slice _ _ _]) rfl (by exact rfl) Try.func51 rfl (by kernel_rfl)) (rmissing_calls hr25 hr26 (by omega) (by omega)) ?_
    rintro e w28 ⟨rfl, hE28⟩
    refine ⟨_, rfl, ?_⟩
    have hs_w28 := (hE28).size
    replace hV := evo_step0 hV hE28
    replace hI5 := evo_step0 hI5 hE28
    replace ha := ha0 _ hV
    replace hb := hb0 _ hV
    replace hl := hl0 _ hV
    replace hm := hm0 _ hV
    replace hr6 := hr60 _ hI5
    replace how17 := how17.evo0 hE28
    replace hr18 := hr18.evo0 hE28
    replace hog19 := hog19.evo0 hE28
    replace how20 := how20.evo0 hE28
    replace hr21 := hr21.evo0 hE28
    replace hog22 := hog22.evo0 hE28
    replace hr25 := hr25.evo0 hE28
    replace hr26 := hr26.evo0 hE28
    refine r_gyes rfl (wantT (by exact rfl)) (by exact (by first | rfl | exact ⟨rfl, rfl⟩ | exact ⟨⟨rfl, rfl⟩, lack_self a⟩)) ?_
    refine r_op rfl rfl rfl (run_eql rfl (by exact rfl) (by exact rfl)) ?_
    refine r_op rfl rfl rfl (run_pick_and rfl (by exact rfl) (fun _ => (by exact rfl)) rfl) ?_
    refine r_op rfl rfl rfl (run_mv (v := .bool _) rfl (by exact rfl)) ?_
    refine r_gyes rfl (wantT (by exact rfl)) (by exact (by first | rfl | exact ⟨rfl, rfl⟩ | exact ⟨⟨rfl, rfl⟩, lack_self a⟩)) ?_
    refine r_op rfl rfl rfl (run_mv (v := .slice _ _ _) rfl (by exact rfl)) ?_
    refine r_gyes rfl (wantT (by exact rfl)) (by exact (by first | rfl | exact ⟨rfl, rfl⟩ | exact ⟨⟨rfl, rfl⟩, lack_self a⟩)) ?_
    refine r_op rfl rfl rfl (run_mv (v := .slice _ _ _) rfl (by exact rfl)) ?_
    refine r_gyes rfl (wantT (by exact rfl)) (by exact (by first | rfl | exact ⟨rfl, rfl⟩ | exact ⟨⟨rfl, rfl⟩, lack_self a⟩)) ?_
    refine r_opcall rfl rfl rfl (run_callf (vs := [.slice _ _ _, .slice _ _ _]) rfl (by exact rfl) Try.func50 rfl (by kernel_rfl)) (missing_calls ha ha (by omega) (by omega)) ?_
    rintro e w29 ⟨rfl, hE29⟩
    refine ⟨_, rfl, ?_⟩
    have hs_w29 := (hE29).size
    replace hV := evo_step0 hV hE29
    replace hI5 := evo_step0 hI5 hE29
    replace ha := ha0 _ hV
    replace hb := hb0 _ hV
    replace hl := hl0 _ hV
    replace hm := hm0 _ hV
    replace hr6 := hr60 _ hI5
    replace how17 := how17.evo0 hE29
    replace hr18 := hr18.evo0 hE29
    replace hog19 := hog19.evo0 hE29
    replace how20 := how20.evo0 hE29
    replace hr21 := hr21.evo0 hE29
    replace hog22 := hog22.evo0 hE29
    replace hr25 := hr25.evo0 hE29
    replace hr26 := hr26.evo0 hE29
    refine r_gyes rfl (wantT (by exact rfl)) (by exact (by first | rfl | exact ⟨rfl, rfl⟩ | exact ⟨⟨rfl, rfl⟩, lack_self a⟩)) ?_
    refine r_op rfl rfl rfl (run_eql rfl (by exact rfl) (by exact rfl)) ?_
    refine r_op rfl rfl rfl (run_pick_and rfl (by exact rfl) (fun _ => (by exact rfl)) rfl) ?_
    refine r_op rfl rfl rfl (run_mv (v := .bool _) rfl (by exact rfl)) ?_
    refine r_gyes rfl (wantT (by exact rfl)) (by exact (by first | rfl | exact ⟨rfl, rfl⟩ | exact ⟨⟨rfl, rfl⟩, lack_self a⟩)) ?_
    refine r_opcall rfl rfl rfl (run_callf (vs := []) rfl (by exact rfl) Try.func43 rfl (by kernel_rfl)) known14_calls ?_
    rintro e w30 ⟨rfl, hE30⟩
    refine ⟨_, rfl, ?_⟩
    have hs_w30 := (hE30).size
    replace hV := evo_step0 hV hE30
    replace hI5 := evo_step0 hI5 hE30
    replace ha := ha0 _ hV
    replace hb := hb0 _ hV
    replace hl := hl0 _ hV
    replace hm := hm0 _ hV
    replace hr6 := hr60 _ hI5
    replace how17 := how17.evo0 hE30
    replace hr18 := hr18.evo0 hE30
    replace hog19 := hog19.evo0 hE30
    replace how20 := how20.evo0 hE30
    replace hr21 := hr21.evo0 hE30
    replace hog22 := hog22.evo0 hE30
    replace hr25 := hr25.evo0 hE30
    replace hr26 := hr26.evo0 hE30
    refine r_op rfl rfl rfl (run_pick_andB rfl (by exact rfl) (fun _ => (by exact rfl)) rfl) ?_
    refine r_op rfl rfl rfl (run_asg (v := .bool _) rfl (by exact rfl)) ?_
    refine r_nil ?_
    refine r_ret (res1 (v := .bool _) rfl (by exact rfl)) ?_
    first | exact ⟨rfl, hV⟩ | exact ⟨ret_bool (decide_eq_true ⟨⟨⟨rfl, rfl⟩, lack_self a⟩, rfl⟩), hV⟩ | exact absurd hc15 (by simp)

end Go.Proofs.Ytomklacppmaljaa

