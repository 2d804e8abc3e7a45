/-
  Library, plain laws and walks that the statements reach (joined by a program out of smaller texts).
-/
import Derived.Test.YthbcklajlmcifaaGreatQc
import Derived.Test.YthbcklajlmcifaaGreatQa
import Derived.MapKept
set_option linter.unusedVariables false
set_option linter.unusedSimpArgs false
namespace Go.Vc
open Go Go.RowKit Go.IntWalk
section
variable {α : Type} [DecidableEq α]
def dist (l : List α) : List α := l.foldl (fun acc x => if x ∈ acc then acc else acc ++ [x]) []
theorem dist_snoc (l : List α) (x : α) : dist (l ++ [x]) = if x ∈ dist l then dist l else dist l ++ [x] := by unfold dist; rw [List.foldl_append]; rfl
theorem dist_mem_nodup : ∀ (n : Nat) (l : List α), l.length = n → (∀ x, x ∈ dist l ↔ x ∈ l) ∧ (dist l).Nodup
  | 0, l, h => by
    have : l = [] := List.eq_nil_of_length_eq_zero h
    subst this; exact ⟨fun x => Iff.rfl, List.nodup_nil⟩
  | n + 1, l, h => by
    have hne : l ≠ [] := by intro e; subst e; simp at h
    obtain ⟨r, y, rfl⟩ : ∃ r y, l = r ++ [y] := ⟨l.dropLast, l.getLast hne, (List.dropLast_concat_getLast hne).symm⟩
    obtain ⟨h1, h2⟩ := dist_mem_nodup n r (by simpa using h)
    rw [dist_snoc]
    by_cases hy : y ∈ dist r
    · rw [if_pos hy]
      refine ⟨fun x => ?_, h2⟩
      rw [h1 x, List.mem_append]
      exact ⟨.inl, fun h => h.elim id (fun h => by have : x = y := by simpa using h
                                                   rw [this]; exact (h1 y).1 hy)⟩
    · rw [if_neg hy]
      refine ⟨fun x => by rw [List.mem_append, List.mem_append, h1 x], ?_⟩
      rw [List.nodup_append]
      exact ⟨h2, by simp, fun a ha b hb => by have : b = y := by simpa using hb
                                              rw [this]; intro e; exact hy (e ▸ ha)⟩
theorem dist_mem (l : List α) (x : α) : x ∈ dist l ↔ x ∈ l := (dist_mem_nodup _ l rfl).1 x
theorem dist_nodup (l : List α) : (dist l).Nodup := (dist_mem_nodup _ l rfl).2
end
def sumZ (l : List Int) : Int := l.foldr (· + ·) 0
theorem sumZ_cons (a : Int) (l : List Int) : sumZ (a :: l) = a + sumZ l := rfl
theorem sumZ_append : ∀ l m : List Int, sumZ (l ++ m) = sumZ l + sumZ m
  | [], m => by simp [sumZ]
  | a :: l, m => by rw [List.cons_append, sumZ_cons, sumZ_cons, sumZ_append l m]; omega
theorem sumZ_perm {l m : List Int} (h : l.Perm m) : sumZ l = sumZ m := by
  induction h with
  | nil => rfl
  | cons x _ ih => rw [sumZ_cons, sumZ_cons, ih]
  | swap x y l => simp only [sumZ_cons]; omega
  | trans _ _ ih1 ih2 => rw [ih1, ih2]
theorem sumZ_nonneg : ∀ {l : List Int}, (∀ x ∈ l, 0 ≤ x) → 0 ≤ sumZ l
  | [], _ => Int.le_refl _
  | a :: l, h => by
    rw [sumZ_cons]
    have h1 := h a (by simp)
    have h2 := sumZ_nonneg (l := l) (fun x hx => h x (by simp [hx]))
    omega
theorem sumZ_le : ∀ {l : List Int} {n : Int}, 0 ≤ n → (∀ x ∈ l, x ≤ n) → sumZ l ≤ l.length * n
  | [], n, _, _ => by simp [sumZ]
  | a :: l, n, hn, h => by
    rw [sumZ_cons]
    have h1 := h a (by simp)
    have h2 := sumZ_le (l := l) hn (fun x hx => h x (by simp [hx]))
    have e : (((a :: l).length : Nat) : Int) * n = n + (l.length : Nat) * n := by rw [List.length_cons]; push_cast; rw [Int.add_mul]; omega
    rw [e]; omega
def clampI (c : Int) : Int := max (min c 1073741824) 0
theorem clampI_le (c : Int) : 0 ≤ clampI c ∧ clampI c ≤ 1073741824 := by unfold clampI; omega
def occL (l : List Gram) (p : Str × Str) : Int := sumZ (l.map (fun x => if prG x = p then clampI x.count else 0))
theorem occ_snoc {l : List Gram} {k : Nat} (hk : k < l.length) (p : Str × Str) : occL (l.take (k + 1)) p = occL (l.take k) p + if prG (l.getD k default) = p then clampI (l.getD k default).count else 0 := by
  unfold occL; rw [take_succD l k hk, List.map_append, sumZ_append]; simp [sumZ]
theorem occ_bd (l : List Gram) (p : Str × Str) : 0 ≤ occL l p ∧ occL l p ≤ l.length * 1073741824 := by
  refine ⟨sumZ_nonneg fun x hx => ?_, ?_⟩
  · obtain ⟨y, _, rfl⟩ := List.mem_map.1 hx
    have := clampI_le y.count
    show 0 ≤ (if prG y = p then clampI y.count else 0); split <;> omega
  · have h := sumZ_le (l := l.map (fun x => if prG x = p then clampI x.count else 0)) (n := 1073741824) (by omega) (fun x hx => by
      obtain ⟨y, _, rfl⟩ := List.mem_map.1 hx
      have := clampI_le y.count
      show (if prG y = p then clampI y.count else 0) ≤ _; split <;> omega)
    rw [List.length_map] at h; exact h
def moreL (a b : List Gram) (p : Str × Str) : Int := max (occL a p - occL b p) 0
def lackL (a b : List Gram) : Int := min (sumZ ((dist (a.map prG)).map (moreL a b))) 1073741824
def OccM (l : List Gram) (m : List ((Str × Str) × Int)) : Prop := ∀ p, getM m p = if p ∈ l.map prG then some (occL l p) else none
theorem OccM.nil : OccM [] [] := fun p => by simp [getM]
theorem OccM.get {l : List Gram} {m : List ((Str × Str) × Int)} (h : OccM l m) (p : Str × Str) : (getM m p).getD 0 = occL l p := by
  rw [h p]
  by_cases hp : p ∈ l.map prG
  · rw [if_pos hp]; rfl
  · rw [if_neg hp]
    have : ∀ x ∈ l.map (fun x => if prG x = p then clampI x.count else 0), x = 0 := fun x hx => by
      obtain ⟨y, hy, rfl⟩ := List.mem_map.1 hx
      exact if_neg (fun e => hp (by rw [← e]; exact List.mem_map_of_mem hy))
    have h2 : ∀ {l : List Int}, (∀ x ∈ l, x = 0) → sumZ l = 0 := fun {l} => by
      induction l with
      | nil => intro _; rfl
      | cons a l ih => intro h; rw [sumZ_cons, h a (by simp), ih (fun x hx => h x (by simp [hx]))]; rfl
    exact (h2 this).symm
theorem OccM.step {l : List Gram} {m m2 : List ((Str × Str) × Int)} {k : Nat} (hk : k < l.length) (h : OccM (l.take k) m) (hb : Bump m m2 (prG (l.getD k default)) (clampI (l.getD k default).count)) : OccM (l.take (k + 1)) m2 := fun p => by
  rw [hb p]
  have e : (l.take (k + 1)).map prG = (l.take k).map prG ++ [prG (l.getD k default)] := by rw [take_succD l k hk, List.map_append]; rfl
  rw [e, occ_snoc hk]
  by_cases hp : p = prG (l.getD k default)
  · rw [if_pos hp, if_pos (by simp [hp]), if_pos hp.symm, ← hp, h.get]
  · have e2 : (if prG (l.getD k default) = p then clampI (l.getD k default).count else 0) = 0 := if_neg (fun q => hp q.symm)
    rw [if_neg hp, h p, e2, Int.add_zero]
    by_cases h2 : p ∈ (l.take k).map prG
    · rw [if_pos h2, if_pos (List.mem_append_left _ h2)]
    · rw [if_neg h2, if_neg (fun q => (List.mem_append.1 q).elim h2 (fun q => hp (by simpa using q)))]
theorem lack_skip {a b : List Gram} {k : Nat} (hk : k < a.length) (h : prG (a.getD k default) ∈ (a.take k).map prG) : dist ((a.take (k + 1)).map prG) = dist ((a.take k).map prG) := by
  rw [take_succD a k hk, List.map_append]
  show dist ((a.take k).map prG ++ [prG (a.getD k default)]) = _
  rw [dist_snoc, if_pos ((dist_mem _ _).2 h)]
theorem lack_new {a : List Gram} {k : Nat} (hk : k < a.length) (h : ¬ prG (a.getD k default) ∈ (a.take k).map prG) : dist ((a.take (k + 1)).map prG) = dist ((a.take k).map prG) ++ [prG (a.getD k default)] := by
  rw [take_succD a k hk, List.map_append]
  show dist ((a.take k).map prG ++ [prG (a.getD k default)]) = _
  rw [dist_snoc, if_neg (fun q => h ((dist_mem _ _).1 q))]
def lackK (a b : List Gram) (k : Nat) : Int := min (sumZ ((dist ((a.take k).map prG)).map (moreL a b))) 1073741824
theorem lackK_pos (a b : List Gram) (ks : List (Str × Str)) : 0 ≤ sumZ (ks.map (moreL a b)) := sumZ_nonneg fun x hx => by
  obtain ⟨y, _, rfl⟩ := List.mem_map.1 hx
  show 0 ≤ max _ 0; omega
theorem lackK_bd (a b : List Gram) (k : Nat) : 0 ≤ lackK a b k ∧ lackK a b k ≤ 1073741824 := by have := lackK_pos a b (dist ((a.take k).map prG)); unfold lackK; omega
theorem lackK_skip {a b : List Gram} {k : Nat} (hk : k < a.length) (h : prG (a.getD k default) ∈ (a.take k).map prG) : lackK a b k = lackK a b (k + 1) := by unfold lackK; rw [lack_skip (b := b) hk h]
theorem lackK_new {a b : List Gram} {k : Nat} (hk : k < a.length) (h : ¬ prG (a.getD k default) ∈ (a.take k).map prG) : min (lackK a b k + max 0 (occL a (prG (a.getD k default)) - occL b (prG (a.getD k default)))) 1073741824 = lackK a b (k + 1) := by
  have h1 := lackK_pos a b (dist ((a.take k).map prG))
  have e : sumZ ((dist ((a.take (k + 1)).map prG)).map (moreL a b)) = sumZ ((dist ((a.take k).map prG)).map (moreL a b)) + moreL a b (prG (a.getD k default)) := by
    rw [lack_new hk h, List.map_append, sumZ_append]; simp [sumZ]
  unfold lackK; rw [e]; unfold moreL at *; omega
theorem lackK_end {a b : List Gram} {k : Nat} (h : a.length ≤ k) : lackK a b k = lackL a b := by unfold lackK lackL; rw [List.take_of_length_le h]
theorem nodup_perm {α : Type} [DecidableEq α] : ∀ {l m : List α}, l.Nodup → m.Nodup → (∀ x, x ∈ l ↔ x ∈ m) → l.Perm m := fun {l m} h1 h2 h => by
  rw [List.perm_iff_count]
  intro x
  rw [List.Nodup.count h1, List.Nodup.count h2]
  simp [h x]
end Go.Vc
namespace Go.Proofs.YthbcklajlmcifaaGreat
open Go.RowKit Go.Vc
theorem pr_and {x y : Gram} : (x.fst = y.fst ∧ x.snd = y.snd) ↔ prG x = prG y := by unfold prG; rw [Prod.mk.injEq]
theorem pr_or {x y : Gram} : (¬ x.fst = y.fst ∨ ¬ x.snd = y.snd) ↔ ¬ prG x = prG y := by rw [← pr_and, Classical.not_and_iff_not_or_not]
theorem clamp_alt (c : Int) : max 0 (min c 1073741824) = clampI c := by unfold clampI; omega
theorem occ_yes {l : List Gram} {k : Nat} {p : Str × Str} (hk : k < l.length) (h : prG (l.getD k default) = p) : occL (l.take k) p + max 0 (min (l.getD k default).count 1073741824) = occL (l.take (k + 1)) p := by rw [occ_snoc hk, if_pos h, clamp_alt]
theorem occ_no {l : List Gram} {k : Nat} {p : Str × Str} (hk : k < l.length) (h : ¬ prG (l.getD k default) = p) : occL (l.take k) p = occL (l.take (k + 1)) p := by rw [occ_snoc hk, if_neg h, Int.add_zero]
theorem first_step {a : List Gram} {k : Nat} {p : Str × Str} (hk : k < a.length) : (¬ p ∈ (a.take k).map prG ∧ ¬ prG (a.getD k default) = p) ↔ ¬ p ∈ (a.take (k + 1)).map prG := by
  rw [take_succD a k hk, List.map_append, List.mem_append]
  constructor
  · rintro ⟨h1, h2⟩ h
    rcases h with h | h
    · exact h1 h
    · have e : p = prG (a.getD k default) := by simpa using h
      exact h2 e.symm
  · intro h
    refine ⟨fun h1 => h (.inl h1), fun h2 => h (.inr ?_)⟩
    rw [← h2]; simp
theorem roccs_calls {ao : Option Addr} {b off cap : Nat} {l : List Gram} {x : Gram} {w0 : World} (hl : RowE w0 ao b off cap l) (hs : l.length ≤ 1000000) :
    Calls Tryz.prog 72 #[.slice ao l.length cap, .agg (Enc.enc x).toArray] w0 fun e w' => e = .returned (.int .i64 (occL l (prG x))) ∧ Evo w0 w' [] := by
 refine calls_enter (n := 34) (args := [.slice ao l.length cap, .agg (Enc.enc x).toArray]) Tryz.func72 rfl Tryz.ntmps72 rfl ?_
 have hV : Evo w0 w0 [] := Evo.refl _ _
 have hl0 := keepE hl
 have hbd_hl := hl.bd
 refine r_seq ?_
 refine r_region ?_
 refine r_box (vs := [_, _, _]) (by exact rfl) (by exact rfl) rfl ?_
 intro b1 w2 heb1 hEw2 hbb1 hzb1
 have hs_w2 := (hEw2).size
 replace hV := evo_step0 hV hEw2
 replace hl := hl0 _ hV
 have hAb1 := hbb1.at
 refine r_op rfl rfl rfl (run_asg (v := .int _ _) rfl (by exact rfl)) ?_
 refine r_nil ?_
 refine r_seq ?_
 refine r_region ?_
 refine r_op rfl rfl rfl (run_asg (v := .int _ _) rfl (by exact rfl)) ?_
 refine r_nil ?_
 refine r_seq ?_
 refine r_seq ?_
 refine r_region ?_
 refine r_op rfl rfl rfl (run_mv (v := .slice _ _ _) rfl (by exact rfl)) ?_
 refine r_op rfl rfl rfl (run_lenSl rfl (by exact rfl) Tryz.underlying59) ?_
 refine r_op rfl rfl rfl (run_mv (v := .int _ _) rfl (by exact rfl)) ?_
 refine r_nil ?_
 refine r_block ?_
 refine r_loop (α := Nat) [5, 7, 10, 11, 12, 13, 14, 15, 16, 17, 18, 19, 20, 21, 22, 23, 24, 25, 26, 27, 28, 29, 30, 31, 32] (fun k g w => g 10 = .int .i64 (k : Nat) ∧ g 5 = .int .i64 (occL (l.take k) (prG x)) ∧ k ≤ l.length ∧ Blk w b1 74 (Enc.enc x) ∧ At w b1 0 (Enc.enc x) ∧ w2.heap.size ≤ w.heap.size ∧ Evo w0 w []) (fun k => l.length - k) 0 ?_ ?_
 ·refine ⟨(by first | exact rfl | exact congrArg (Value.int _) (by omega) | exact congrArg (Value.int _) (by dsimp only; omega) | exact congrArg (Value.int _) (by simp) | exact congrArg S (by simp)), rfl, (by first | assumption | omega | (dsimp only; omega) | (simp; done)), hbb1, hAb1, (by first | assumption | omega | (dsimp only; omega) | (simp; done)), hV⟩
 ·rintro k g w4 ⟨hj5, hj6, hk_k, hbb1, hAb1, hzl3, hV⟩
  have hs_w4hV := hV.size
  have hlt7 := hbb1.lt
  replace hl := hl0 _ hV
  refine r_know (i := 10) (v := .int .i64 (k : Nat)) (by exact hj5) ?_
  refine r_know (i := 5) (v := .int .i64 (occL (l.take k) (prG x))) (by exact hj6) ?_
  refine r_seq ?_
  refine r_region ?_
  refine r_op rfl rfl rfl (run_lss rfl (by exact rfl) (by exact rfl)) ?_
  refine r_nil ?_
  refine r_seq ?_
  refine r_cond (by exact rfl) (fun hc8 => ?_) (fun hc8 => ?_)
  ·skip
   refine r_skip ?_
   refine r_seq ?_
   refine r_block ?_
   refine r_seq ?_
   refine r_region ?_
   refine r_op rfl rfl rfl (run_ix (k) rfl Tryz.underlying59 ty_74 (by exact rfl) (by exact rfl) (by first | exact rfl | omega) (by omega) (hl.addr (i := k) (by omega))) ?_
   have hA90 := fun (w' : World) (h : Evo w0 w' []) => (hl0 w' h).atD (k) (by omega)
   have hA9 := hA90 _ hV
   refine r_op rfl rfl rfl (run_ldN rfl ag_74 ty_74 (by exact rfl) rfl hA9) ?_
   refine r_var (zs := [_, _, _]) (vs := [_, _, _]) ty_74 (by exact rfl) rfl (by exact rfl) (fun _ => rfl) (by exact rfl) rfl rfl (by exact rfl) ?_
   intro b10 w11 heb10 hEw11 hbb10 hzb10
   have hs_w11 := (hEw11).size
   replace hV := evo_step0 hV hEw11
   replace hl := hl0 _ hV
   replace hbb1 := hbb1.evo0 hEw11
   replace hAb1 := hAb1.evo0 hEw11
   have hAb10 := hbb10.at
   refine r_nil ?_
   refine r_seq ?_
   refine r_region ?_
   refine r_op rfl rfl rfl (run_fa rfl (by exact rfl) fo_74_0) ?_
   refine r_op rfl rfl rfl (run_ld1 rfl ag_9 (by exact rfl) (hAb10.cell 0 (by exact rfl))) ?_
   refine r_op rfl rfl rfl (run_fa rfl (by exact rfl) fo_74_0) ?_
   refine r_op rfl rfl rfl (run_ld1 rfl ag_9 (by exact rfl) (hAb1.cell 0 (by exact rfl))) ?_
   refine r_op rfl rfl rfl (run_seql rfl (by exact rfl) (by exact rfl)) ?_
   refine r_op rfl rfl rfl (run_mv (v := .bool _) rfl (by exact rfl)) ?_
   refine r_g rfl (wantT (by exact rfl)) rfl (fun hg => run_fa rfl (by exact rfl) fo_74_1) ?_
   refine r_g rfl (wantT (by exact rfl)) rfl (fun hg => run_ld1 rfl ag_9 (glv (by exact rfl) (fun h => h) hg) (hAb10.cell 1 (by exact rfl))) ?_
   refine r_g rfl (wantT (by exact rfl)) rfl (fun hg => run_fa rfl (by exact rfl) fo_74_1) ?_
   refine r_g rfl (wantT (by exact rfl)) rfl (fun hg => run_ld1 rfl ag_9 (glv (by exact rfl) (fun h => h) hg) (hAb1.cell 1 (by exact rfl))) ?_
   refine r_g rfl (wantT (by exact rfl)) rfl (fun hg => run_seql rfl (glv (by exact rfl) (fun h => h) hg) (glv (by exact rfl) (fun h => h) hg)) ?_
   refine r_op rfl rfl rfl (run_pick_and rfl (by exact rfl) (fun hq => glv (by exact rfl) (fun h => h) hq) rfl) ?_
   refine r_nil ?_
   refine r_cond (by exact rfl) (fun hc12 => ?_) (fun hc12 => ?_)
   ·skip
    have hob := occ_bd (l.take k) (prG x); have hlt := List.length_take_le k l; have hcl := clampI_le (l.getD k default).count; have hce := clamp_alt (l.getD k default).count
    refine r_region ?_
    refine r_op rfl rfl rfl (run_mv (v := .int _ _) rfl (by exact rfl)) ?_
    refine r_op rfl rfl rfl (run_fa rfl (by exact rfl) fo_74_2) ?_
    refine r_op rfl rfl rfl (run_ld1 rfl ag_3 (by exact rfl) (hAb10.cell 2 (by exact rfl))) ?_
    refine r_op rfl rfl rfl (run_min rfl (by exact rfl) (by exact rfl)) ?_
    refine r_op rfl rfl rfl (run_max rfl (by exact rfl) (by exact rfl)) ?_
    refine r_op rfl rfl rfl (run_add rfl (by exact rfl) (by exact rfl) (by omega) (by omega)) ?_
    refine r_op rfl rfl rfl (run_asg (v := .int _ _) rfl (by exact rfl)) ?_
    refine r_nil ?_
    refine r_blk ?_
    refine r_region ?_
    refine r_op rfl rfl rfl (run_add rfl (by exact rfl) (by exact rfl) (by omega) (by omega)) ?_
    refine r_op rfl rfl rfl (run_mv (v := .int _ _) rfl (by exact rfl)) ?_
    refine r_nil ?_
    refine r_again (k + 1) ?_ ?_ ?_
    ·first | omega | (dsimp only; omega)
    ·refine ⟨(by first | exact rfl | exact congrArg (Value.int _) (by omega) | exact congrArg (Value.int _) (by dsimp only; omega) | exact congrArg (Value.int _) (by simp) | exact congrArg S (by simp)), (congrArg (Value.int _) (by first | exact occ_yes (by omega) (pr_and.1 hc12) | exact occ_no (by omega) (fun q => hc12 (pr_and.2 q)))), (by first | assumption | omega | (dsimp only; omega) | (simp; done)), hbb1, hAb1, (by first | assumption | omega | (dsimp only; omega) | (simp; done)), hV⟩
    ·repeat (first | (with_reducible exact Agree.merge _ _ _) | (with_reducible exact Agree.refl _ _) | (with_reducible refine Agree.upd ?_ _ _ rfl) | ((with_reducible refine Agree.inner ?_ ?_); (kernel_rfl)))
   ·skip
    refine r_skip ?_
    refine r_blk ?_
    refine r_region ?_
    refine r_op rfl rfl rfl (run_add rfl (by exact rfl) (by exact rfl) (by omega) (by omega)) ?_
    refine r_op rfl rfl rfl (run_mv (v := .int _ _) rfl (by exact rfl)) ?_
    refine r_nil ?_
    refine r_again (k + 1) ?_ ?_ ?_
    ·first | omega | (dsimp only; omega)
    ·refine ⟨(by first | exact rfl | exact congrArg (Value.int _) (by omega) | exact congrArg (Value.int _) (by dsimp only; omega) | exact congrArg (Value.int _) (by simp) | exact congrArg S (by simp)), (congrArg (Value.int _) (by first | exact occ_yes (by omega) (pr_and.1 hc12) | exact occ_no (by omega) (fun q => hc12 (pr_and.2 q)))), (by first | assumption | omega | (dsimp only; omega) | (simp; done)), hbb1, hAb1, (by first | assumption | omega | (dsimp only; omega) | (simp; done)), hV⟩
    ·repeat (first | (with_reducible exact Agree.merge _ _ _) | (with_reducible exact Agree.refl _ _) | (with_reducible refine Agree.upd ?_ _ _ rfl) | ((with_reducible refine Agree.inner ?_ ?_); (kernel_rfl)))
  ·skip
   refine r_exit rfl ?_
   refine r_seq ?_
   refine r_region ?_
   refine r_op rfl rfl rfl (run_mv (v := .int _ _) rfl (by exact rfl)) ?_
   refine r_op rfl rfl rfl (run_asg (v := .int _ _) rfl (by exact rfl)) ?_
   refine r_nil ?_
   refine r_ret (res1 (v := .int _ _) rfl (by exact rfl)) ?_
   exact ⟨ret_int (by rw [List.take_of_length_le (by omega)]), hV⟩
theorem getD_takeL {a : List Gram} {i k : Nat} (h : k < i) : (a.take i).getD k default = a.getD k default := by simp [List.getD, List.getElem?_take, h]
theorem first_step2 {a : List Gram} {i k : Nat} (hi : k < i) (hk : k < a.length) {y : Gram} : ((¬ prG y ∈ (a.take k).map prG) ∧ (¬ ((a.take i).getD k default).fst = y.fst ∨ ¬ ((a.take i).getD k default).snd = y.snd)) ↔ ¬ prG y ∈ (a.take (k + 1)).map prG := by
  rw [getD_takeL hi, pr_or]; exact first_step hk
set_option maxHeartbeats 1000000 in
theorem rmissing_calls {aoa aob : Option Addr} {ba offa capa bb offb capb : Nat} {a b : List Gram} {w0 : World} (ha : RowE w0 aoa ba offa capa a) (hb : RowE w0 aob bb offb capb b) (hsa : a.length ≤ 1000000) (hsb : b.length ≤ 1000000) :
    Calls Tryz.prog 43 #[.slice aoa a.length capa, .slice aob b.length capb] w0 fun e w' => e = .returned (.int .i64 (lackL a b)) ∧ Evo w0 w' [] := by
 refine calls_enter (n := 56) (args := [.slice aoa a.length capa, .slice aob b.length capb]) Tryz.func43 rfl Tryz.ntmps43 rfl ?_
 have hV : Evo w0 w0 [] := Evo.refl _ _
 have ha0 := keepE ha
 have hbd_ha := ha.bd
 have hb0 := keepE hb
 have hbd_hb := hb.bd
 refine r_seq ?_
 refine r_region ?_
 refine r_op rfl rfl rfl (run_asg (v := .int _ _) rfl (by exact rfl)) ?_
 refine r_nil ?_
 refine r_seq ?_
 refine r_region ?_
 refine r_op rfl rfl rfl (run_asg (v := .int _ _) rfl (by exact rfl)) ?_
 refine r_nil ?_
 refine r_seq ?_
 refine r_seq ?_
 refine r_region ?_
 refine r_op rfl rfl rfl (run_mv (v := .slice _ _ _) rfl (by exact rfl)) ?_
 refine r_op rfl rfl rfl (run_lenSl rfl (by exact rfl) Tryz.underlying59) ?_
 refine r_op rfl rfl rfl (run_mv (v := .int _ _) rfl (by exact rfl)) ?_
 refine r_nil ?_
 refine r_block ?_
 refine r_loop (α := Nat) [5, 6, 7, 8, 10, 13, 14, 15, 16, 17, 18, 19, 20, 21, 22, 23, 24, 25, 26, 27, 28, 29, 30, 31, 32, 33, 34, 35, 36, 37, 38, 39, 40, 41, 42, 43, 44, 45, 46, 47, 48, 49, 50, 51, 52, 53, 54] (fun i g w => g 13 = .int .i64 (i : Nat) ∧ g 5 = .int .i64 (lackK a b i) ∧ i ≤ a.length ∧ w0.heap.size ≤ w.heap.size ∧ Evo w0 w []) (fun i => a.length - i) 0 ?_ ?_
 ·refine ⟨(by first | exact rfl | exact congrArg (Value.int _) (by omega) | exact congrArg (Value.int _) (by dsimp only; omega) | exact congrArg (Value.int _) (by simp) | exact congrArg S (by simp)), rfl, (by first | assumption | omega | (dsimp only; omega) | (simp; done)), (by first | assumption | omega | (dsimp only; omega) | (simp; done)), hV⟩
 ·rintro i g w2 ⟨hj3, hj4, hk_i, hzl1, hV⟩
  have hs_w2hV := hV.size
  replace ha := ha0 _ hV
  replace hb := hb0 _ hV
  refine r_know (i := 13) (v := .int .i64 (i : Nat)) (by exact hj3) ?_
  refine r_know (i := 5) (v := .int .i64 (lackK a b i)) (by exact hj4) ?_
  refine r_seq ?_
  refine r_region ?_
  refine r_op rfl rfl rfl (run_lss rfl (by exact rfl) (by exact rfl)) ?_
  refine r_nil ?_
  refine r_seq ?_
  refine r_cond (by exact rfl) (fun hc5 => ?_) (fun hc5 => ?_)
  ·skip
   refine r_skip ?_
   refine r_seq ?_
   refine r_block ?_
   refine r_seq ?_
   refine r_region ?_
   refine r_op rfl rfl rfl (run_mv (v := .int _ _) rfl (by exact rfl)) ?_
   refine r_op rfl rfl rfl (run_ix (i) rfl Tryz.underlying59 ty_74 (by exact rfl) (by exact rfl) (by first | exact rfl | omega) (by omega) (ha.addr (i := i) (by omega))) ?_
   have hA60 := fun (w' : World) (h : Evo w0 w' []) => (ha0 w' h).atD (i) (by omega)
   have hA6 := hA60 _ hV
   refine r_op rfl rfl rfl (run_ldN rfl ag_74 ty_74 (by exact rfl) rfl hA6) ?_
   refine r_alloc (zs := [_, _, _]) ty_74 (by exact rfl) rfl ?_
   intro b7 w8 heb7 hEw8 hbb7 hzb7
   have hs_w8 := (hEw8).size
   replace hV := evo_step0 hV hEw8
   replace ha := ha0 _ hV
   replace hb := hb0 _ hV
   replace hA6 := hA60 _ hV
   have hAb7 := hbb7.at
   refine r_op rfl rfl rfl (run_asg (v := .int _ _) rfl (by exact rfl)) ?_
   refine r_store (v := .agg _) (vs := [_, _, _]) (cs' := [_, _, _]) (by exact rfl) (by exact rfl) hbb7 ty_74 (by exact rfl) rfl (by exact rfl) rfl (by exact rfl) ?_
   intro w9 hEw9 hzw9 hb_new
   have hs_w9 := (hEw9).size
   replace hV := evo_step1 hV hEw9 (by first | exact .inl (by omega) | exact .inr (by simp))
   replace ha := ha0 _ hV
   replace hb := hb0 _ hV
   replace hbb7 := hb_new
   have hAb7 := hbb7.at
   clear hb_new
   refine r_nil ?_
   refine r_seq ?_
   refine r_region ?_
   refine r_op rfl rfl rfl (run_asg (v := .bool _) rfl (by exact rfl)) ?_
   refine r_nil ?_
   refine r_seq ?_
   refine r_seq ?_
   have hki := List.length_take_of_le (show i ≤ a.length by omega)
   refine r_region ?_
   refine r_op rfl rfl rfl (run_mv (v := .slice _ _ _) rfl (by exact rfl)) ?_
   refine r_op rfl rfl rfl (run_mv (v := .int _ _) rfl (by exact rfl)) ?_
   refine r_op rfl rfl rfl (by exact run_slE (0) (i) rfl Tryz.underlying59 ty_74 (by exact rfl) ha lo0 (at1 (by exact rfl) (by omega)) (by first | omega | (simp; omega)) (by first | omega | (simp; omega)) List.drop_zero) ?_
   have hS100 := fun (w' : World) (h : Evo w0 w' []) => (by have h9 := ((ha0 w' h).take (i)).drop (0); rw [List.drop_zero] at h9; exact h9)
   have hS10 := (by have h9 := (ha.take (i)).drop (0); rw [List.drop_zero] at h9; exact h9)
   have hbd_hS10 := hS10.bd
   refine r_op rfl rfl rfl (run_lenSl rfl (by exact rfl) Tryz.underlying59) ?_
   refine r_op rfl rfl rfl (run_mv (v := .int _ _) rfl (by exact rfl)) ?_
   refine r_nil ?_
   refine r_block ?_
   refine r_loop (α := Nat) [8, 10, 22, 23, 24, 25, 26, 27, 28, 29, 30, 31, 32, 33, 34, 35, 36, 37, 38, 39, 40, 41] (fun k g w => g 22 = .int .i64 (k : Nat) ∧ g 8 = .bool (decide (¬ prG (a.getD i default) ∈ (a.take k).map prG)) ∧ k ≤ i ∧ Blk w b7 74 (Enc.enc (a.getD i default)) ∧ At w b7 0 (Enc.enc (a.getD i default)) ∧ w9.heap.size ≤ w.heap.size ∧ Evo w0 w []) (fun k => i - k) 0 ?_ ?_
   ·refine ⟨(by first | exact rfl | exact congrArg (Value.int _) (by omega) | exact congrArg (Value.int _) (by dsimp only; omega) | exact congrArg (Value.int _) (by simp) | exact congrArg S (by simp)), (by exact congrArg Value.bool (by simp)), (by first | assumption | omega | (dsimp only; omega) | (simp; done)), hbb7, hAb7, (by first | assumption | omega | (dsimp only; omega) | (simp; done)), hV⟩
   ·rintro k g w12 ⟨hj13, hj14, hk_k, hbb7, hAb7, hzl11, hV⟩
    have hs_w12hV := hV.size
    have hlt15 := hbb7.lt
    replace ha := ha0 _ hV
    replace hb := hb0 _ hV
    replace hA6 := hA60 _ hV
    replace hS10 := hS100 _ hV
    refine r_know (i := 22) (v := .int .i64 (k : Nat)) (by exact hj13) ?_
    refine r_know (i := 8) (v := .bool (decide (¬ prG (a.getD i default) ∈ (a.take k).map prG))) (by exact hj14) ?_
    refine r_seq ?_
    refine r_region ?_
    refine r_op rfl rfl rfl (run_lss rfl (by exact rfl) (by exact rfl)) ?_
    refine r_nil ?_
    refine r_seq ?_
    refine r_cond (by exact rfl) (fun hc16 => ?_) (fun hc16 => ?_)
    ·skip
     refine r_skip ?_
     refine r_seq ?_
     refine r_block ?_
     refine r_seq ?_
     refine r_region ?_
     refine r_op rfl rfl rfl (run_ix (k) rfl Tryz.underlying59 ty_74 (by exact rfl) (by exact rfl) (by first | exact rfl | omega) (by omega) (hS10.addr (i := k) (by omega))) ?_
     have hA170 := fun (w' : World) (h : Evo w0 w' []) => (hS100 w' h).atD (k) (by omega)
     have hA17 := hA170 _ hV
     refine r_op rfl rfl rfl (run_ldN rfl ag_74 ty_74 (by exact rfl) rfl hA17) ?_
     refine r_var (zs := [_, _, _]) (vs := [_, _, _]) ty_74 (by exact rfl) rfl (by exact rfl) (fun _ => rfl) (by exact rfl) rfl rfl (by exact rfl) ?_
     intro b18 w19 heb18 hEw19 hbb18 hzb18
     have hs_w19 := (hEw19).size
     replace hV := evo_step0 hV hEw19
     replace ha := ha0 _ hV
     replace hb := hb0 _ hV
     replace hbb7 := hbb7.evo0 hEw19
     replace hAb7 := hAb7.evo0 hEw19
     have hAb18 := hbb18.at
     refine r_nil ?_
     refine r_region ?_
     refine r_op rfl rfl rfl (run_mv (v := .bool _) rfl (by exact rfl)) ?_
     refine r_op rfl rfl rfl (run_mv (v := .bool _) rfl (by exact rfl)) ?_
     refine r_g rfl (wantT (by exact rfl)) rfl (fun hg => run_fa rfl (by exact rfl) fo_74_0) ?_
     refine r_g rfl (wantT (by exact rfl)) rfl (fun hg => run_ld1 rfl ag_9 (glv (by exact rfl) (fun h => h) hg) (hAb18.cell 0 (by exact rfl))) ?_
     refine r_g rfl (wantT (by exact rfl)) rfl (fun hg => run_fa rfl (by exact rfl) fo_74_0) ?_
     refine r_g rfl (wantT (by exact rfl)) rfl (fun hg => run_ld1 rfl ag_9 (glv (by exact rfl) (fun h => h) hg) (hAb7.cell 0 (by exact rfl))) ?_
     refine r_g rfl (wantT (by exact rfl)) rfl (fun hg => run_sneq rfl (glv (by exact rfl) (fun h => h) hg) (glv (by exact rfl) (fun h => h) hg)) ?_
     refine r_g rfl (wantT (by exact rfl)) rfl (fun hg => run_mv (v := .bool _) rfl (glv (by exact rfl) (fun h => h) hg)) ?_
     refine r_g rfl (wantFg (by exact rfl)) rfl (fun hg => run_fa rfl (by exact rfl) fo_74_1) ?_
     refine r_g rfl (wantFg (by exact rfl)) rfl (fun hg => run_ld1 rfl ag_9 (glv (by exact rfl) (fun h => h) hg) (hAb18.cell 1 (by exact rfl))) ?_
     refine r_g rfl (wantFg (by exact rfl)) rfl (fun hg => run_fa rfl (by exact rfl) fo_74_1) ?_
     refine r_g rfl (wantFg (by exact rfl)) rfl (fun hg => run_ld1 rfl ag_9 (glv (by exact rfl) (fun h => h) hg) (hAb7.cell 1 (by exact rfl))) ?_
     refine r_g rfl (wantFg (by exact rfl)) rfl (fun hg => run_sneq rfl (glv (by exact rfl) (fun h => h) hg) (glv (by exact rfl) (fun h => h) hg)) ?_
     refine r_g rfl (wantT (by exact rfl)) rfl (fun hg => run_pick_or rfl (glv (by exact rfl) (fun h => h) hg) rfl (fun hq => glv (by exact rfl) (fun h => h) (And.intro hg hq))) ?_
     refine r_op rfl rfl rfl (run_pick_and rfl (by exact rfl) (fun hq => glv (by exact rfl) (fun h => h) hq) rfl) ?_
     refine r_op rfl rfl rfl (run_asg (v := .bool _) rfl (by exact rfl)) ?_
     refine r_nil ?_
     refine r_blk ?_
     refine r_region ?_
     refine r_op rfl rfl rfl (run_add rfl (by exact rfl) (by exact rfl) (by omega) (by omega)) ?_
     refine r_op rfl rfl rfl (run_mv (v := .int _ _) rfl (by exact rfl)) ?_
     refine r_nil ?_
     refine r_again (k + 1) ?_ ?_ ?_
     ·first | omega | (dsimp only; omega)
     ·refine ⟨(by first | exact rfl | exact congrArg (Value.int _) (by omega) | exact congrArg (Value.int _) (by dsimp only; omega) | exact congrArg (Value.int _) (by simp) | exact congrArg S (by simp)), (congrArg Value.bool (decide_eq_decide.2 (first_step2 (by omega) (by omega)))), (by first | assumption | omega | (dsimp only; omega) | (simp; done)), hbb7, hAb7, (by first | assumption | omega | (dsimp only; omega) | (simp; done)), hV⟩
     ·repeat (first | (with_reducible exact Agree.merge _ _ _) | (with_reducible exact Agree.refl _ _) | (with_reducible refine Agree.upd ?_ _ _ rfl) | ((with_reducible refine Agree.inner ?_ ?_); (kernel_rfl)))
    ·skip
     refine r_exit rfl ?_
     refine r_seq ?_
     have hk9 : k = i := by omega
     refine r_region ?_
     refine r_op rfl rfl rfl (run_mv (v := .bool _) rfl (by exact rfl)) ?_
     refine r_nil ?_
     refine r_cond (by exact rfl) (fun hc20 => ?_) (fun hc20 => ?_)
     ·skip
      have ho1 := occ_bd a (prG (a.getD i default)); have ho2 := occ_bd b (prG (a.getD i default)); have hlk := lackK_bd a b i
      refine r_qregion (by kernel_rfl) (by kernel_rfl) ?_
      refine q_op rfl rfl rfl (fun w' hC => run_mv (v := .int _ _) rfl (by exact rfl)) ?_
      refine q_op rfl rfl rfl (fun w' hC => run_mv (v := .slice _ _ _) rfl (by exact rfl)) ?_
      refine q_op rfl rfl rfl (fun w' hC => run_ldN rfl ag_74 ty_74 (by exact rfl) rfl (hAb7.evo0 hC)) ?_
      refine q_call rfl rfl rfl (fun w' hC => run_callf rfl (argcons (v := .slice _ _ _) (by exact rfl) (argcons (v := .agg _) (by exact rfl) (rfl))) Tryz.func72 rfl (by kernel_rfl)) (fun w' hC => (roccs_calls (x := (a.getD i default)) (ha.evo0 hC) (by omega)).mono (fun e w'' h => ⟨h.1, evo_step0 hC h.2⟩)) ?_
      refine q_op rfl rfl rfl (fun w' hC => run_mv (v := .slice _ _ _) rfl (by exact rfl)) ?_
      refine q_op rfl rfl rfl (fun w' hC => run_ldN rfl ag_74 ty_74 (by exact rfl) rfl (hAb7.evo0 hC)) ?_
      refine q_call rfl rfl rfl (fun w' hC => run_callf rfl (argcons (v := .slice _ _ _) (by exact rfl) (argcons (v := .agg _) (by exact rfl) (rfl))) Tryz.func72 rfl (by kernel_rfl)) (fun w' hC => (roccs_calls (x := (a.getD i default)) (hb.evo0 hC) (by omega)).mono (fun e w'' h => ⟨h.1, evo_step0 hC h.2⟩)) ?_
      refine q_op rfl rfl rfl (fun w' hC => run_sub rfl (by exact rfl) (by exact rfl) (by omega) (by omega)) ?_
      refine q_op rfl rfl rfl (fun w' hC => run_max rfl (by exact rfl) (by exact rfl)) ?_
      refine q_op rfl rfl rfl (fun w' hC => run_add rfl (by exact rfl) (by exact rfl) (by omega) (by omega)) ?_
      refine q_op rfl rfl rfl (fun w' hC => run_min rfl (by exact rfl) (by exact rfl)) ?_
      refine q_op rfl rfl rfl (fun w' hC => run_asg (v := .int _ _) rfl (by exact rfl)) ?_
      refine q_nil (fun w21 hE22 => ?_)
      have hs_w21 := (hE22).size
      replace hV := evo_step0 hV hE22
      replace ha := ha0 _ hV
      replace hb := hb0 _ hV
      refine r_blk ?_
      refine r_region ?_
      refine r_op rfl rfl rfl (run_add rfl (by exact rfl) (by exact rfl) (by omega) (by omega)) ?_
      refine r_op rfl rfl rfl (run_mv (v := .int _ _) rfl (by exact rfl)) ?_
      refine r_nil ?_
      refine r_again (i + 1) ?_ ?_ ?_
      ·first | omega | (dsimp only; omega)
      ·refine ⟨(by first | exact rfl | exact congrArg (Value.int _) (by omega) | exact congrArg (Value.int _) (by dsimp only; omega) | exact congrArg (Value.int _) (by simp) | exact congrArg S (by simp)), (congrArg (Value.int _) (by first | exact lackK_new (by omega) (by simpa [hk9] using hc20) | exact lackK_skip (by omega) (by simpa [hk9] using hc20))), (by first | assumption | omega | (dsimp only; omega) | (simp; done)), (by first | assumption | omega | (dsimp only; omega) | (simp; done)), hV⟩
      ·repeat (first | (with_reducible exact Agree.merge _ _ _) | (with_reducible exact Agree.refl _ _) | (with_reducible refine Agree.upd ?_ _ _ rfl) | ((with_reducible refine Agree.inner ?_ ?_); (kernel_rfl)))
     ·skip
      refine r_skip ?_
      refine r_blk ?_
      refine r_region ?_
      refine r_op rfl rfl rfl (run_add rfl (by exact rfl) (by exact rfl) (by omega) (by omega)) ?_
      refine r_op rfl rfl rfl (run_mv (v := .int _ _) rfl (by exact rfl)) ?_
      refine r_nil ?_
      refine r_again (i + 1) ?_ ?_ ?_
      ·first | omega | (dsimp only; omega)
      ·refine ⟨(by first | exact rfl | exact congrArg (Value.int _) (by omega) | exact congrArg (Value.int _) (by dsimp only; omega) | exact congrArg (Value.int _) (by simp) | exact congrArg S (by simp)), (congrArg (Value.int _) (by first | exact lackK_new (by omega) (by simpa [hk9] using hc20) | exact lackK_skip (by omega) (by simpa [hk9] using hc20))), (by first | assumption | omega | (dsimp only; omega) | (simp; done)), (by first | assumption | omega | (dsimp only; omega) | (simp; done)), hV⟩
      ·repeat (first | (with_reducible exact Agree.merge _ _ _) | (with_reducible exact Agree.refl _ _) | (with_reducible refine Agree.upd ?_ _ _ rfl) | ((with_reducible refine Agree.inner ?_ ?_); (kernel_rfl)))
  ·skip
   refine r_exit rfl ?_
   refine r_seq ?_
   refine r_region ?_
   refine r_op rfl rfl rfl (run_mv (v := .int _ _) rfl (by exact rfl)) ?_
   refine r_op rfl rfl rfl (run_asg (v := .int _ _) rfl (by exact rfl)) ?_
   refine r_nil ?_
   refine r_ret (res1 (v := .int _ _) rfl (by exact rfl)) ?_
   exact ⟨ret_int (lackK_end (by omega)), hV⟩
end Go.Proofs.YthbcklajlmcifaaGreat
namespace Go.Proofs.YthbcklajlmcifaaGreat
open Go.RowKit Go.Vc
def clB (x : Vc.Item) : Prop := 2 ≤ x.kind ∧ x.kind ≤ 9
instance (x : Vc.Item) : Decidable (clB x) := by unfold clB; infer_instance
def tgB (x : Vc.Item) : Prop := 2 ≤ x.kind ∧ x.kind ≤ 4
instance (x : Vc.Item) : Decidable (tgB x) := by unfold tgB; infer_instance
def clV (x : Vc.Item) : Vc.Item := if 5 ≤ x.kind ∧ x.kind ≤ 9 then ⟨x.kind, keyT x, 0⟩ else ⟨x.kind, x.text, 0⟩
theorem clV_in {x : Vc.Item} (h : 5 ≤ x.kind ∧ x.kind ≤ 9) : (⟨x.kind, keyT x, 0⟩ : Vc.Item) = clV x := (if_pos h).symm
theorem clV_out {x : Vc.Item} (h : ¬ (5 ≤ x.kind ∧ x.kind ≤ 9)) : (⟨x.kind, x.text, 0⟩ : Vc.Item) = clV x := (if_neg h).symm
theorem ret_cl {a b : Vc.Item} {p q : Bool} (h : a = b) (h2 : p = q) : Ending.returned (.tuple #[.agg (Enc.enc a).toArray, .bool p]) = .returned (.tuple #[.agg (Enc.enc b).toArray, .bool q]) := by rw [h, h2]
def wK (k : Int) : Int := if k = 6 ∨ k = 5 then 4 else if k = 7 ∨ (2 ≤ k ∧ k ≤ 4) then 3 else if k = 9 then 2 else if k = 8 then 1 else 0
theorem wK4 {k : Int} (h : k = 6 ∨ k = 5) : (4 : Int) = wK k := by unfold wK; rw [if_pos h]
theorem wK3 {k : Int} (h : k = 7 ∨ (2 ≤ k ∧ k ≤ 4)) : (3 : Int) = wK k := by unfold wK; rw [if_neg (by omega), if_pos h]
theorem wK2 {k : Int} (h : k = 9) : (2 : Int) = wK k := by unfold wK; rw [if_neg (by omega), if_neg (by omega), if_pos h]
theorem wK1 {k : Int} (h : k = 8) : (1 : Int) = wK k := by unfold wK; rw [if_neg (by omega), if_neg (by omega), if_neg (by omega), if_pos h]
theorem wK0 {k : Int} (h : ¬ (2 ≤ k ∧ k ≤ 9)) : (0 : Int) = wK k := by unfold wK; rw [if_neg (by omega), if_neg (by omega), if_neg (by omega), if_neg (by omega)]
theorem wK_bd (k : Int) : 0 ≤ wK k ∧ wK k ≤ 4 := by unfold wK; split; omega; split; omega; split; omega; split <;> omega
theorem sgtag_calls {x : Vc.Item} {w0 : World}  :
    Calls Tryz.prog 58 #[.agg (Enc.enc x).toArray] w0 fun e w' => e = .returned (.bool (decide (tgB x))) ∧ Evo w0 w' [] := by
 refine calls_enter (n := 16) (args := [.agg (Enc.enc x).toArray]) Tryz.func58 rfl Tryz.ntmps58 rfl ?_
 have hV : Evo w0 w0 [] := Evo.refl _ _
 refine r_seq ?_
 refine r_region ?_
 refine r_box (vs := [_, _, _]) (by exact rfl) (by exact rfl) rfl ?_
 intro b1 w2 heb1 hEw2 hbb1 hzb1
 have hs_w2 := (hEw2).size
 replace hV := evo_step0 hV hEw2
 have hAb1 := hbb1.at
 refine r_op rfl rfl rfl (run_asg (v := .bool _) rfl (by exact rfl)) ?_
 refine r_nil ?_
 refine r_seq ?_
 refine r_region ?_
 refine r_op rfl rfl rfl (run_fa rfl (by exact rfl) fo_43_0) ?_
 refine r_op rfl rfl rfl (run_ld1 rfl ag_3 (by exact rfl) (hAb1.cell 0 (by exact rfl))) ?_
 refine r_op rfl rfl rfl (run_eql rfl (by exact rfl) (by exact rfl)) ?_
 refine r_op rfl rfl rfl (run_mv (v := .bool _) rfl (by exact rfl)) ?_
 refine r_g rfl (wantF (by exact rfl)) rfl (fun hg => run_fa rfl (by exact rfl) fo_43_0) ?_
 refine r_g rfl (wantF (by exact rfl)) rfl (fun hg => run_ld1 rfl ag_3 (glv (by exact rfl) (fun h => h) hg) (hAb1.cell 0 (by exact rfl))) ?_
 refine r_g rfl (wantF (by exact rfl)) rfl (fun hg => run_eql rfl (glv (by exact rfl) (fun h => h) hg) (by exact rfl)) ?_
 refine r_op rfl rfl rfl (run_pick_or rfl (by exact rfl) rfl (fun hq => glv (by exact rfl) (fun h => h) hq)) ?_
 refine r_op rfl rfl rfl (run_mv (v := .bool _) rfl (by exact rfl)) ?_
 refine r_g rfl (wantF (by exact rfl)) rfl (fun hg => run_fa rfl (by exact rfl) fo_43_0) ?_
 refine r_g rfl (wantF (by exact rfl)) rfl (fun hg => run_ld1 rfl ag_3 (glv (by exact rfl) (fun h => h) hg) (hAb1.cell 0 (by exact rfl))) ?_
 refine r_g rfl (wantF (by exact rfl)) rfl (fun hg => run_eql rfl (glv (by exact rfl) (fun h => h) hg) (by exact rfl)) ?_
 refine r_op rfl rfl rfl (run_pick_or rfl (by exact rfl) rfl (fun hq => glv (by exact rfl) (fun h => h) hq)) ?_
 refine r_op rfl rfl rfl (run_asg (v := .bool _) rfl (by exact rfl)) ?_
 refine r_nil ?_
 refine r_ret (res1 (v := .bool _) rfl (by exact rfl)) ?_
 exact ⟨ret_bool (decide_eq_decide.2 (by unfold tgB; omega)), hV⟩
theorem weight_calls {x : Vc.Item} {w0 : World}  :
    Calls Tryz.prog 38 #[.agg (Enc.enc x).toArray] w0 fun e w' => e = .returned (.int .i64 (wK x.kind)) ∧ Evo w0 w' [] := by
 refine calls_enter (n := 17) (args := [.agg (Enc.enc x).toArray]) Tryz.func38 rfl Tryz.ntmps38 rfl ?_
 have hV : Evo w0 w0 [] := Evo.refl _ _
 refine r_seq ?_
 refine r_region ?_
 refine r_box (vs := [_, _, _]) (by exact rfl) (by exact rfl) rfl ?_
 intro b1 w2 heb1 hEw2 hbb1 hzb1
 have hs_w2 := (hEw2).size
 replace hV := evo_step0 hV hEw2
 have hAb1 := hbb1.at
 refine r_op rfl rfl rfl (run_asg (v := .int _ _) rfl (by exact rfl)) ?_
 refine r_nil ?_
 refine r_seq ?_
 refine r_seq ?_
 refine r_region ?_
 refine r_op rfl rfl rfl (run_fa rfl (by exact rfl) fo_43_0) ?_
 refine r_op rfl rfl rfl (run_ld1 rfl ag_3 (by exact rfl) (hAb1.cell 0 (by exact rfl))) ?_
 refine r_nil ?_
 refine r_block ?_
 refine r_seq ?_
 refine r_seq ?_
 refine r_region ?_
 refine r_op rfl rfl rfl (run_eql rfl (by exact rfl) (by exact rfl)) ?_
 refine r_op rfl rfl rfl (run_asg (v := .bool _) rfl (by exact rfl)) ?_
 refine r_nil ?_
 refine r_cond (by exact rfl) (fun hc3 => ?_) (fun hc3 => ?_)
 ·skip
  refine r_skip ?_
  refine r_condT (by exact rfl) hc3 ?_
  refine r_seq ?_
  refine r_region ?_
  refine r_op rfl rfl rfl (run_asg (v := .int _ _) rfl (by exact rfl)) ?_
  refine r_nil ?_
  refine r_ret (res1 (v := .int _ _) rfl (by exact rfl)) ?_
  exact ⟨ret_int (by first | exact wK4 (by omega) | exact wK3 (by omega) | exact wK2 (by omega) | exact wK1 (by omega) | exact wK0 (by omega)), hV⟩
 ·skip
  refine r_region ?_
  refine r_op rfl rfl rfl (run_eql rfl (by exact rfl) (by exact rfl)) ?_
  refine r_op rfl rfl rfl (run_asg (v := .bool _) rfl (by exact rfl)) ?_
  refine r_nil ?_
  refine r_cond (by exact rfl) (fun hc4 => ?_) (fun hc4 => ?_)
  ·skip
   refine r_seq ?_
   refine r_region ?_
   refine r_op rfl rfl rfl (run_asg (v := .int _ _) rfl (by exact rfl)) ?_
   refine r_nil ?_
   refine r_ret (res1 (v := .int _ _) rfl (by exact rfl)) ?_
   exact ⟨ret_int (by first | exact wK4 (by omega) | exact wK3 (by omega) | exact wK2 (by omega) | exact wK1 (by omega) | exact wK0 (by omega)), hV⟩
  ·skip
   refine r_seq ?_
   refine r_seq ?_
   refine r_region ?_
   refine r_op rfl rfl rfl (run_eql rfl (by exact rfl) (by exact rfl)) ?_
   refine r_op rfl rfl rfl (run_asg (v := .bool _) rfl (by exact rfl)) ?_
   refine r_nil ?_
   refine r_cond (by exact rfl) (fun hc5 => ?_) (fun hc5 => ?_)
   ·skip
    refine r_skip ?_
    refine r_condT (by exact rfl) hc5 ?_
    refine r_seq ?_
    refine r_region ?_
    refine r_op rfl rfl rfl (run_asg (v := .int _ _) rfl (by exact rfl)) ?_
    refine r_nil ?_
    refine r_ret (res1 (v := .int _ _) rfl (by exact rfl)) ?_
    exact ⟨ret_int (by first | exact wK4 (by omega) | exact wK3 (by omega) | exact wK2 (by omega) | exact wK1 (by omega) | exact wK0 (by omega)), hV⟩
   ·skip
    refine r_seq ?_
    refine r_region ?_
    refine r_op rfl rfl rfl (run_eql rfl (by exact rfl) (by exact rfl)) ?_
    refine r_op rfl rfl rfl (run_asg (v := .bool _) rfl (by exact rfl)) ?_
    refine r_nil ?_
    refine r_cond (by exact rfl) (fun hc6 => ?_) (fun hc6 => ?_)
    ·skip
     refine r_skip ?_
     refine r_condT (by exact rfl) hc6 ?_
     refine r_seq ?_
     refine r_region ?_
     refine r_op rfl rfl rfl (run_asg (v := .int _ _) rfl (by exact rfl)) ?_
     refine r_nil ?_
     refine r_ret (res1 (v := .int _ _) rfl (by exact rfl)) ?_
     exact ⟨ret_int (by first | exact wK4 (by omega) | exact wK3 (by omega) | exact wK2 (by omega) | exact wK1 (by omega) | exact wK0 (by omega)), hV⟩
    ·skip
     refine r_seq ?_
     refine r_region ?_
     refine r_op rfl rfl rfl (run_eql rfl (by exact rfl) (by exact rfl)) ?_
     refine r_op rfl rfl rfl (run_asg (v := .bool _) rfl (by exact rfl)) ?_
     refine r_nil ?_
     refine r_cond (by exact rfl) (fun hc7 => ?_) (fun hc7 => ?_)
     ·skip
      refine r_skip ?_
      refine r_condT (by exact rfl) hc7 ?_
      refine r_seq ?_
      refine r_region ?_
      refine r_op rfl rfl rfl (run_asg (v := .int _ _) rfl (by exact rfl)) ?_
      refine r_nil ?_
      refine r_ret (res1 (v := .int _ _) rfl (by exact rfl)) ?_
      exact ⟨ret_int (by first | exact wK4 (by omega) | exact wK3 (by omega) | exact wK2 (by omega) | exact wK1 (by omega) | exact wK0 (by omega)), hV⟩
     ·skip
      refine r_region ?_
      refine r_op rfl rfl rfl (run_eql rfl (by exact rfl) (by exact rfl)) ?_
      refine r_op rfl rfl rfl (run_asg (v := .bool _) rfl (by exact rfl)) ?_
      refine r_nil ?_
      refine r_cond (by exact rfl) (fun hc8 => ?_) (fun hc8 => ?_)
      ·skip
       refine r_seq ?_
       refine r_region ?_
       refine r_op rfl rfl rfl (run_asg (v := .int _ _) rfl (by exact rfl)) ?_
       refine r_nil ?_
       refine r_ret (res1 (v := .int _ _) rfl (by exact rfl)) ?_
       exact ⟨ret_int (by first | exact wK4 (by omega) | exact wK3 (by omega) | exact wK2 (by omega) | exact wK1 (by omega) | exact wK0 (by omega)), hV⟩
      ·skip
       refine r_seq ?_
       refine r_region ?_
       refine r_op rfl rfl rfl (run_eql rfl (by exact rfl) (by exact rfl)) ?_
       refine r_op rfl rfl rfl (run_asg (v := .bool _) rfl (by exact rfl)) ?_
       refine r_nil ?_
       refine r_cond (by exact rfl) (fun hc9 => ?_) (fun hc9 => ?_)
       ·skip
        refine r_seq ?_
        refine r_region ?_
        refine r_op rfl rfl rfl (run_asg (v := .int _ _) rfl (by exact rfl)) ?_
        refine r_nil ?_
        refine r_ret (res1 (v := .int _ _) rfl (by exact rfl)) ?_
        exact ⟨ret_int (by first | exact wK4 (by omega) | exact wK3 (by omega) | exact wK2 (by omega) | exact wK1 (by omega) | exact wK0 (by omega)), hV⟩
       ·skip
        refine r_seq ?_
        refine r_region ?_
        refine r_op rfl rfl rfl (run_eql rfl (by exact rfl) (by exact rfl)) ?_
        refine r_op rfl rfl rfl (run_asg (v := .bool _) rfl (by exact rfl)) ?_
        refine r_nil ?_
        refine r_cond (by exact rfl) (fun hc10 => ?_) (fun hc10 => ?_)
        ·skip
         refine r_seq ?_
         refine r_region ?_
         refine r_op rfl rfl rfl (run_asg (v := .int _ _) rfl (by exact rfl)) ?_
         refine r_nil ?_
         refine r_ret (res1 (v := .int _ _) rfl (by exact rfl)) ?_
         exact ⟨ret_int (by first | exact wK4 (by omega) | exact wK3 (by omega) | exact wK2 (by omega) | exact wK1 (by omega) | exact wK0 (by omega)), hV⟩
        ·skip
         refine r_skip ?_
         refine r_blk ?_
         refine r_seq ?_
         refine r_region ?_
         refine r_op rfl rfl rfl (run_asg (v := .int _ _) rfl (by exact rfl)) ?_
         refine r_nil ?_
         refine r_ret (res1 (v := .int _ _) rfl (by exact rfl)) ?_
         exact ⟨ret_int (by first | exact wK4 (by omega) | exact wK3 (by omega) | exact wK2 (by omega) | exact wK1 (by omega) | exact wK0 (by omega)), hV⟩
theorem rweight_calls {x : Vc.Item} {w0 : World}  :
    Calls Tryz.prog 75 #[.agg (Enc.enc x).toArray] w0 fun e w' => e = .returned (.int .i64 (wK x.kind)) ∧ Evo w0 w' [] := by
 refine calls_enter (n := 17) (args := [.agg (Enc.enc x).toArray]) Tryz.func75 rfl Tryz.ntmps75 rfl ?_
 have hV : Evo w0 w0 [] := Evo.refl _ _
 refine r_seq ?_
 refine r_region ?_
 refine r_box (vs := [_, _, _]) (by exact rfl) (by exact rfl) rfl ?_
 intro b1 w2 heb1 hEw2 hbb1 hzb1
 have hs_w2 := (hEw2).size
 replace hV := evo_step0 hV hEw2
 have hAb1 := hbb1.at
 refine r_op rfl rfl rfl (run_asg (v := .int _ _) rfl (by exact rfl)) ?_
 refine r_nil ?_
 refine r_seq ?_
 refine r_seq ?_
 refine r_region ?_
 refine r_op rfl rfl rfl (run_fa rfl (by exact rfl) fo_43_0) ?_
 refine r_op rfl rfl rfl (run_ld1 rfl ag_3 (by exact rfl) (hAb1.cell 0 (by exact rfl))) ?_
 refine r_nil ?_
 refine r_block ?_
 refine r_seq ?_
 refine r_seq ?_
 refine r_region ?_
 refine r_op rfl rfl rfl (run_eql rfl (by exact rfl) (by exact rfl)) ?_
 refine r_op rfl rfl rfl (run_asg (v := .bool _) rfl (by exact rfl)) ?_
 refine r_nil ?_
 refine r_cond (by exact rfl) (fun hc3 => ?_) (fun hc3 => ?_)
 ·skip
  refine r_skip ?_
  refine r_condT (by exact rfl) hc3 ?_
  refine r_seq ?_
  refine r_region ?_
  refine r_op rfl rfl rfl (run_asg (v := .int _ _) rfl (by exact rfl)) ?_
  refine r_nil ?_
  refine r_ret (res1 (v := .int _ _) rfl (by exact rfl)) ?_
  exact ⟨ret_int (by first | exact wK4 (by omega) | exact wK3 (by omega) | exact wK2 (by omega) | exact wK1 (by omega) | exact wK0 (by omega)), hV⟩
 ·skip
  refine r_region ?_
  refine r_op rfl rfl rfl (run_eql rfl (by exact rfl) (by exact rfl)) ?_
  refine r_op rfl rfl rfl (run_asg (v := .bool _) rfl (by exact rfl)) ?_
  refine r_nil ?_
  refine r_cond (by exact rfl) (fun hc4 => ?_) (fun hc4 => ?_)
  ·skip
   refine r_seq ?_
   refine r_region ?_
   refine r_op rfl rfl rfl (run_asg (v := .int _ _) rfl (by exact rfl)) ?_
   refine r_nil ?_
   refine r_ret (res1 (v := .int _ _) rfl (by exact rfl)) ?_
   exact ⟨ret_int (by first | exact wK4 (by omega) | exact wK3 (by omega) | exact wK2 (by omega) | exact wK1 (by omega) | exact wK0 (by omega)), hV⟩
  ·skip
   refine r_seq ?_
   refine r_seq ?_
   refine r_region ?_
   refine r_op rfl rfl rfl (run_eql rfl (by exact rfl) (by exact rfl)) ?_
   refine r_op rfl rfl rfl (run_asg (v := .bool _) rfl (by exact rfl)) ?_
   refine r_nil ?_
   refine r_cond (by exact rfl) (fun hc5 => ?_) (fun hc5 => ?_)
   ·skip
    refine r_skip ?_
    refine r_condT (by exact rfl) hc5 ?_
    refine r_seq ?_
    refine r_region ?_
    refine r_op rfl rfl rfl (run_asg (v := .int _ _) rfl (by exact rfl)) ?_
    refine r_nil ?_
    refine r_ret (res1 (v := .int _ _) rfl (by exact rfl)) ?_
    exact ⟨ret_int (by first | exact wK4 (by omega) | exact wK3 (by omega) | exact wK2 (by omega) | exact wK1 (by omega) | exact wK0 (by omega)), hV⟩
   ·skip
    refine r_seq ?_
    refine r_region ?_
    refine r_op rfl rfl rfl (run_eql rfl (by exact rfl) (by exact rfl)) ?_
    refine r_op rfl rfl rfl (run_asg (v := .bool _) rfl (by exact rfl)) ?_
    refine r_nil ?_
    refine r_cond (by exact rfl) (fun hc6 => ?_) (fun hc6 => ?_)
    ·skip
     refine r_skip ?_
     refine r_condT (by exact rfl) hc6 ?_
     refine r_seq ?_
     refine r_region ?_
     refine r_op rfl rfl rfl (run_asg (v := .int _ _) rfl (by exact rfl)) ?_
     refine r_nil ?_
     refine r_ret (res1 (v := .int _ _) rfl (by exact rfl)) ?_
     exact ⟨ret_int (by first | exact wK4 (by omega) | exact wK3 (by omega) | exact wK2 (by omega) | exact wK1 (by omega) | exact wK0 (by omega)), hV⟩
    ·skip
     refine r_seq ?_
     refine r_region ?_
     refine r_op rfl rfl rfl (run_eql rfl (by exact rfl) (by exact rfl)) ?_
     refine r_op rfl rfl rfl (run_asg (v := .bool _) rfl (by exact rfl)) ?_
     refine r_nil ?_
     refine r_cond (by exact rfl) (fun hc7 => ?_) (fun hc7 => ?_)
     ·skip
      refine r_skip ?_
      refine r_condT (by exact rfl) hc7 ?_
      refine r_seq ?_
      refine r_region ?_
      refine r_op rfl rfl rfl (run_asg (v := .int _ _) rfl (by exact rfl)) ?_
      refine r_nil ?_
      refine r_ret (res1 (v := .int _ _) rfl (by exact rfl)) ?_
      exact ⟨ret_int (by first | exact wK4 (by omega) | exact wK3 (by omega) | exact wK2 (by omega) | exact wK1 (by omega) | exact wK0 (by omega)), hV⟩
     ·skip
      refine r_region ?_
      refine r_op rfl rfl rfl (run_eql rfl (by exact rfl) (by exact rfl)) ?_
      refine r_op rfl rfl rfl (run_asg (v := .bool _) rfl (by exact rfl)) ?_
      refine r_nil ?_
      refine r_cond (by exact rfl) (fun hc8 => ?_) (fun hc8 => ?_)
      ·skip
       refine r_seq ?_
       refine r_region ?_
       refine r_op rfl rfl rfl (run_asg (v := .int _ _) rfl (by exact rfl)) ?_
       refine r_nil ?_
       refine r_ret (res1 (v := .int _ _) rfl (by exact rfl)) ?_
       exact ⟨ret_int (by first | exact wK4 (by omega) | exact wK3 (by omega) | exact wK2 (by omega) | exact wK1 (by omega) | exact wK0 (by omega)), hV⟩
      ·skip
       refine r_seq ?_
       refine r_region ?_
       refine r_op rfl rfl rfl (run_eql rfl (by exact rfl) (by exact rfl)) ?_
       refine r_op rfl rfl rfl (run_asg (v := .bool _) rfl (by exact rfl)) ?_
       refine r_nil ?_
       refine r_cond (by exact rfl) (fun hc9 => ?_) (fun hc9 => ?_)
       ·skip
        refine r_seq ?_
        refine r_region ?_
        refine r_op rfl rfl rfl (run_asg (v := .int _ _) rfl (by exact rfl)) ?_
        refine r_nil ?_
        refine r_ret (res1 (v := .int _ _) rfl (by exact rfl)) ?_
        exact ⟨ret_int (by first | exact wK4 (by omega) | exact wK3 (by omega) | exact wK2 (by omega) | exact wK1 (by omega) | exact wK0 (by omega)), hV⟩
       ·skip
        refine r_seq ?_
        refine r_region ?_
        refine r_op rfl rfl rfl (run_eql rfl (by exact rfl) (by exact rfl)) ?_
        refine r_op rfl rfl rfl (run_asg (v := .bool _) rfl (by exact rfl)) ?_
        refine r_nil ?_
        refine r_cond (by exact rfl) (fun hc10 => ?_) (fun hc10 => ?_)
        ·skip
         refine r_seq ?_
         refine r_region ?_
         refine r_op rfl rfl rfl (run_asg (v := .int _ _) rfl (by exact rfl)) ?_
         refine r_nil ?_
         refine r_ret (res1 (v := .int _ _) rfl (by exact rfl)) ?_
         exact ⟨ret_int (by first | exact wK4 (by omega) | exact wK3 (by omega) | exact wK2 (by omega) | exact wK1 (by omega) | exact wK0 (by omega)), hV⟩
        ·skip
         refine r_skip ?_
         refine r_blk ?_
         refine r_seq ?_
         refine r_region ?_
         refine r_op rfl rfl rfl (run_asg (v := .int _ _) rfl (by exact rfl)) ?_
         refine r_nil ?_
         refine r_ret (res1 (v := .int _ _) rfl (by exact rfl)) ?_
         exact ⟨ret_int (by first | exact wK4 (by omega) | exact wK3 (by omega) | exact wK2 (by omega) | exact wK1 (by omega) | exact wK0 (by omega)), hV⟩
set_option maxHeartbeats 1000000 in
theorem class2_calls {x : Vc.Item} {w0 : World} (hx : x.text.length ≤ 140737488355328) :
    Calls Tryz.prog 36 #[.agg (Enc.enc x).toArray] w0 fun e w' => e = .returned (.tuple #[.agg (Enc.enc (clV x)).toArray, .bool (decide (clB x))]) ∧ Evo w0 w' [] := by
 refine calls_enter (n := 24) (args := [.agg (Enc.enc x).toArray]) Tryz.func36 rfl Tryz.ntmps36 rfl ?_
 have hV : Evo w0 w0 [] := Evo.refl _ _
 refine r_seq ?_
 refine r_region ?_
 refine r_box (vs := [_, _, _]) (by exact rfl) (by exact rfl) rfl ?_
 intro b1 w2 heb1 hEw2 hbb1 hzb1
 have hs_w2 := (hEw2).size
 replace hV := evo_step0 hV hEw2
 have hAb1 := hbb1.at
 refine r_alloc (zs := [_, _, _]) ty_43 (by exact rfl) rfl ?_
 intro b3 w4 heb3 hEw4 hbb3 hzb3
 have hs_w4 := (hEw4).size
 replace hV := evo_step0 hV hEw4
 replace hbb1 := hbb1.evo0 hEw4
 replace hAb1 := hAb1.evo0 hEw4
 have hAb3 := hbb3.at
 refine r_op rfl rfl rfl (run_asg (v := .bool _) rfl (by exact rfl)) ?_
 refine r_nil ?_
 refine r_seq ?_
 refine r_seq ?_
 refine r_region ?_
 refine r_op rfl rfl rfl (run_fa rfl (by exact rfl) fo_43_0) ?_
 refine r_op rfl rfl rfl (run_ld1 rfl ag_3 (by exact rfl) (hAb1.cell 0 (by exact rfl))) ?_
 refine r_nil ?_
 refine r_block ?_
 refine r_seq ?_
 refine r_seq ?_
 refine r_region ?_
 refine r_op rfl rfl rfl (run_eql rfl (by exact rfl) (by exact rfl)) ?_
 refine r_op rfl rfl rfl (run_asg (v := .bool _) rfl (by exact rfl)) ?_
 refine r_nil ?_
 refine r_cond (by exact rfl) (fun hc5 => ?_) (fun hc5 => ?_)
 ·skip
  refine r_skip ?_
  refine r_condT (by exact rfl) hc5 ?_
  refine r_seq ?_
  have hbb1_q := hbb1
  have hAb1_q := hAb1
  have hbb3_q := hbb3
  have hAb3_q := hAb3
  have hV_q := hV
  refine h_region ([b3]) (by kernel_rfl) ?_
  intro w6 hE7 hC8
  have hs_w6 := (hE7).size
  replace hV := evo_step0 hV hE7
  replace hbb1 := hbb1.evo0 hE7
  replace hAb1 := hAb1.evo0 hE7
  replace hbb3 := hbb3.evo0 hE7
  replace hAb3 := hAb3.evo0 hE7
  refine h_take (i := 0) (by exact rfl) rfl rfl rfl (by kernel_rfl) (fun w' hC => run_fa rfl (by exact rfl) fo_43_0) hC8 ?_
  refine h_take (i := 1) (by exact rfl) rfl rfl rfl (by kernel_rfl) (fun w' hC => run_ld1 rfl ag_3 (by exact rfl) ((hAb1_q.evo hC (by simp; omega)).cell 0 (by exact rfl))) hC8 ?_
  refine h_take (i := 2) (by exact rfl) rfl rfl rfl (by kernel_rfl) (fun w' hC => run_ldN rfl ag_43 ty_43 (by exact rfl) rfl (hAb1_q.evo hC (by simp; omega))) hC8 ?_
  refine h_one (i := 3) (by kernel_rfl) ?_
  refine h_do (by exact rfl) ?_
  refine r_opcall rfl rfl rfl (run_callf (vs := [.agg _]) rfl (by exact rfl) Tryz.func57 rfl (by kernel_rfl)) (tkey_calls (x := x) hx) ?_
  rintro e w9 ⟨rfl, hE9⟩
  refine ⟨_, rfl, ?_⟩
  have hs_w9 := (hE9).size
  replace hV := evo_step0 hV hE9
  replace hC8 := evo_step0 hC8 hE9
  replace hbb1 := hbb1.evo0 hE9
  replace hAb1 := hAb1.evo0 hE9
  replace hbb3 := hbb3.evo0 hE9
  replace hAb3 := hAb3.evo0 hE9
  refine h_next hC8 ?_
  refine h_take (i := 4) (by exact rfl) rfl rfl rfl (by kernel_rfl) (fun w' hC => run_bld (pv := [(0, .int _ _), (1, S _)]) (zs := [_, _, _]) (cells := [_, _, _]) rfl ty_43 (by exact rfl) pl_43 (by exact rfl) (by exact rfl)) hC8 ?_
  refine h_one (i := 5) (by kernel_rfl) ?_
  refine h_do (by exact rfl) ?_
  refine r_store (v := .agg _) (vs := [_, _, _]) (cs' := [_, _, _]) (by exact rfl) (by exact rfl) hbb3 ty_43 (by exact rfl) rfl (by exact rfl) rfl (by exact rfl) ?_
  intro w10 hEw10 hzw10 hb_new
  have hs_w10 := (hEw10).size
  replace hV := evo_step1 hV hEw10 (by first | exact .inl (by omega) | exact .inr (by simp))
  replace hbb1 := hbb1.evo hEw10 (by simp; omega)
  replace hAb1 := hAb1.evo hEw10 (by simp; omega)
  replace hbb3 := hb_new
  have hAb3 := hbb3.at
  clear hb_new
  refine h_last (by kernel_rfl) ?_
  refine h_one (i := 6) (by kernel_rfl) ?_
  refine h_do (by exact rfl) ?_
  refine r_op rfl rfl rfl (run_asg (v := .bool _) rfl (by exact rfl)) ?_
  refine h_last (by kernel_rfl) ?_
  refine h_done (by kernel_rfl) ?_
  refine r_ret (resC2 (cs := [_, _, _]) (u := .bool _) rfl ag_43 ty_43 (by exact rfl) rfl hAb3 (by exact rfl)) ?_
  first | exact ⟨ret_cl (a := ⟨x.kind, keyT x, 0⟩) (clV_in (by omega)) (decide_eq_true (by unfold clB; omega)).symm, hV⟩ | exact ⟨ret_cl (a := ⟨x.kind, x.text, 0⟩) (clV_out (by omega)) (decide_eq_decide.2 (by unfold tgB clB; omega)), hV⟩
 ·skip
  refine r_seq ?_
  refine r_region ?_
  refine r_op rfl rfl rfl (run_eql rfl (by exact rfl) (by exact rfl)) ?_
  refine r_op rfl rfl rfl (run_asg (v := .bool _) rfl (by exact rfl)) ?_
  refine r_nil ?_
  refine r_cond (by exact rfl) (fun hc11 => ?_) (fun hc11 => ?_)
  ·skip
   refine r_skip ?_
   refine r_condT (by exact rfl) hc11 ?_
   refine r_seq ?_
   have hbb1_q := hbb1
   have hAb1_q := hAb1
   have hbb3_q := hbb3
   have hAb3_q := hAb3
   have hV_q := hV
   refine h_region ([b3]) (by kernel_rfl) ?_
   intro w12 hE13 hC14
   have hs_w12 := (hE13).size
   replace hV := evo_step0 hV hE13
   replace hbb1 := hbb1.evo0 hE13
   replace hAb1 := hAb1.evo0 hE13
   replace hbb3 := hbb3.evo0 hE13
   replace hAb3 := hAb3.evo0 hE13
   refine h_take (i := 0) (by exact rfl) rfl rfl rfl (by kernel_rfl) (fun w' hC => run_fa rfl (by exact rfl) fo_43_0) hC14 ?_
   refine h_take (i := 1) (by exact rfl) rfl rfl rfl (by kernel_rfl) (fun w' hC => run_ld1 rfl ag_3 (by exact rfl) ((hAb1_q.evo hC (by simp; omega)).cell 0 (by exact rfl))) hC14 ?_
   refine h_take (i := 2) (by exact rfl) rfl rfl rfl (by kernel_rfl) (fun w' hC => run_ldN rfl ag_43 ty_43 (by exact rfl) rfl (hAb1_q.evo hC (by simp; omega))) hC14 ?_
   refine h_one (i := 3) (by kernel_rfl) ?_
   refine h_do (by exact rfl) ?_
   refine r_opcall rfl rfl rfl (run_callf (vs := [.agg _]) rfl (by exact rfl) Tryz.func57 rfl (by kernel_rfl)) (tkey_calls (x := x) hx) ?_
   rintro e w15 ⟨rfl, hE15⟩
   refine ⟨_, rfl, ?_⟩
   have hs_w15 := (hE15).size
   replace hV := evo_step0 hV hE15
   replace hC14 := evo_step0 hC14 hE15
   replace hbb1 := hbb1.evo0 hE15
   replace hAb1 := hAb1.evo0 hE15
   replace hbb3 := hbb3.evo0 hE15
   replace hAb3 := hAb3.evo0 hE15
   refine h_next hC14 ?_
   refine h_take (i := 4) (by exact rfl) rfl rfl rfl (by kernel_rfl) (fun w' hC => run_bld (pv := [(0, .int _ _), (1, S _)]) (zs := [_, _, _]) (cells := [_, _, _]) rfl ty_43 (by exact rfl) pl_43 (by exact rfl) (by exact rfl)) hC14 ?_
   refine h_one (i := 5) (by kernel_rfl) ?_
   refine h_do (by exact rfl) ?_
   refine r_store (v := .agg _) (vs := [_, _, _]) (cs' := [_, _, _]) (by exact rfl) (by exact rfl) hbb3 ty_43 (by exact rfl) rfl (by exact rfl) rfl (by exact rfl) ?_
   intro w16 hEw16 hzw16 hb_new
   have hs_w16 := (hEw16).size
   replace hV := evo_step1 hV hEw16 (by first | exact .inl (by omega) | exact .inr (by simp))
   replace hbb1 := hbb1.evo hEw16 (by simp; omega)
   replace hAb1 := hAb1.evo hEw16 (by simp; omega)
   replace hbb3 := hb_new
   have hAb3 := hbb3.at
   clear hb_new
   refine h_last (by kernel_rfl) ?_
   refine h_one (i := 6) (by kernel_rfl) ?_
   refine h_do (by exact rfl) ?_
   refine r_op rfl rfl rfl (run_asg (v := .bool _) rfl (by exact rfl)) ?_
   refine h_last (by kernel_rfl) ?_
   refine h_done (by kernel_rfl) ?_
   refine r_ret (resC2 (cs := [_, _, _]) (u := .bool _) rfl ag_43 ty_43 (by exact rfl) rfl hAb3 (by exact rfl)) ?_
   first | exact ⟨ret_cl (a := ⟨x.kind, keyT x, 0⟩) (clV_in (by omega)) (decide_eq_true (by unfold clB; omega)).symm, hV⟩ | exact ⟨ret_cl (a := ⟨x.kind, x.text, 0⟩) (clV_out (by omega)) (decide_eq_decide.2 (by unfold tgB clB; omega)), hV⟩
  ·skip
   refine r_seq ?_
   refine r_region ?_
   refine r_op rfl rfl rfl (run_eql rfl (by exact rfl) (by exact rfl)) ?_
   refine r_op rfl rfl rfl (run_asg (v := .bool _) rfl (by exact rfl)) ?_
   refine r_nil ?_
   refine r_cond (by exact rfl) (fun hc17 => ?_) (fun hc17 => ?_)
   ·skip
    refine r_skip ?_
    refine r_condT (by exact rfl) hc17 ?_
    refine r_seq ?_
    have hbb1_q := hbb1
    have hAb1_q := hAb1
    have hbb3_q := hbb3
    have hAb3_q := hAb3
    have hV_q := hV
    refine h_region ([b3]) (by kernel_rfl) ?_
    intro w18 hE19 hC20
    have hs_w18 := (hE19).size
    replace hV := evo_step0 hV hE19
    replace hbb1 := hbb1.evo0 hE19
    replace hAb1 := hAb1.evo0 hE19
    replace hbb3 := hbb3.evo0 hE19
    replace hAb3 := hAb3.evo0 hE19
    refine h_take (i := 0) (by exact rfl) rfl rfl rfl (by kernel_rfl) (fun w' hC => run_fa rfl (by exact rfl) fo_43_0) hC20 ?_
    refine h_take (i := 1) (by exact rfl) rfl rfl rfl (by kernel_rfl) (fun w' hC => run_ld1 rfl ag_3 (by exact rfl) ((hAb1_q.evo hC (by simp; omega)).cell 0 (by exact rfl))) hC20 ?_
    refine h_take (i := 2) (by exact rfl) rfl rfl rfl (by kernel_rfl) (fun w' hC => run_ldN rfl ag_43 ty_43 (by exact rfl) rfl (hAb1_q.evo hC (by simp; omega))) hC20 ?_
    refine h_one (i := 3) (by kernel_rfl) ?_
    refine h_do (by exact rfl) ?_
    refine r_opcall rfl rfl rfl (run_callf (vs := [.agg _]) rfl (by exact rfl) Tryz.func57 rfl (by kernel_rfl)) (tkey_calls (x := x) hx) ?_
    rintro e w21 ⟨rfl, hE21⟩
    refine ⟨_, rfl, ?_⟩
    have hs_w21 := (hE21).size
    replace hV := evo_step0 hV hE21
    replace hC20 := evo_step0 hC20 hE21
    replace hbb1 := hbb1.evo0 hE21
    replace hAb1 := hAb1.evo0 hE21
    replace hbb3 := hbb3.evo0 hE21
    replace hAb3 := hAb3.evo0 hE21
    refine h_next hC20 ?_
    refine h_take (i := 4) (by exact rfl) rfl rfl rfl (by kernel_rfl) (fun w' hC => run_bld (pv := [(0, .int _ _), (1, S _)]) (zs := [_, _, _]) (cells := [_, _, _]) rfl ty_43 (by exact rfl) pl_43 (by exact rfl) (by exact rfl)) hC20 ?_
    refine h_one (i := 5) (by kernel_rfl) ?_
    refine h_do (by exact rfl) ?_
    refine r_store (v := .agg _) (vs := [_, _, _]) (cs' := [_, _, _]) (by exact rfl) (by exact rfl) hbb3 ty_43 (by exact rfl) rfl (by exact rfl) rfl (by exact rfl) ?_
    intro w22 hEw22 hzw22 hb_new
    have hs_w22 := (hEw22).size
    replace hV := evo_step1 hV hEw22 (by first | exact .inl (by omega) | exact .inr (by simp))
    replace hbb1 := hbb1.evo hEw22 (by simp; omega)
    replace hAb1 := hAb1.evo hEw22 (by simp; omega)
    replace hbb3 := hb_new
    have hAb3 := hbb3.at
    clear hb_new
    refine h_last (by kernel_rfl) ?_
    refine h_one (i := 6) (by kernel_rfl) ?_
    refine h_do (by exact rfl) ?_
    refine r_op rfl rfl rfl (run_asg (v := .bool _) rfl (by exact rfl)) ?_
    refine h_last (by kernel_rfl) ?_
    refine h_done (by kernel_rfl) ?_
    refine r_ret (resC2 (cs := [_, _, _]) (u := .bool _) rfl ag_43 ty_43 (by exact rfl) rfl hAb3 (by exact rfl)) ?_
    first | exact ⟨ret_cl (a := ⟨x.kind, keyT x, 0⟩) (clV_in (by omega)) (decide_eq_true (by unfold clB; omega)).symm, hV⟩ | exact ⟨ret_cl (a := ⟨x.kind, x.text, 0⟩) (clV_out (by omega)) (decide_eq_decide.2 (by unfold tgB clB; omega)), hV⟩
   ·skip
    refine r_seq ?_
    refine r_region ?_
    refine r_op rfl rfl rfl (run_eql rfl (by exact rfl) (by exact rfl)) ?_
    refine r_op rfl rfl rfl (run_asg (v := .bool _) rfl (by exact rfl)) ?_
    refine r_nil ?_
    refine r_cond (by exact rfl) (fun hc23 => ?_) (fun hc23 => ?_)
    ·skip
     refine r_skip ?_
     refine r_condT (by exact rfl) hc23 ?_
     refine r_seq ?_
     have hbb1_q := hbb1
     have hAb1_q := hAb1
     have hbb3_q := hbb3
     have hAb3_q := hAb3
     have hV_q := hV
     refine h_region ([b3]) (by kernel_rfl) ?_
     intro w24 hE25 hC26
     have hs_w24 := (hE25).size
     replace hV := evo_step0 hV hE25
     replace hbb1 := hbb1.evo0 hE25
     replace hAb1 := hAb1.evo0 hE25
     replace hbb3 := hbb3.evo0 hE25
     replace hAb3 := hAb3.evo0 hE25
     refine h_take (i := 0) (by exact rfl) rfl rfl rfl (by kernel_rfl) (fun w' hC => run_fa rfl (by exact rfl) fo_43_0) hC26 ?_
     refine h_take (i := 1) (by exact rfl) rfl rfl rfl (by kernel_rfl) (fun w' hC => run_ld1 rfl ag_3 (by exact rfl) ((hAb1_q.evo hC (by simp; omega)).cell 0 (by exact rfl))) hC26 ?_
     refine h_take (i := 2) (by exact rfl) rfl rfl rfl (by kernel_rfl) (fun w' hC => run_ldN rfl ag_43 ty_43 (by exact rfl) rfl (hAb1_q.evo hC (by simp; omega))) hC26 ?_
     refine h_one (i := 3) (by kernel_rfl) ?_
     refine h_do (by exact rfl) ?_
     refine r_opcall rfl rfl rfl (run_callf (vs := [.agg _]) rfl (by exact rfl) Tryz.func57 rfl (by kernel_rfl)) (tkey_calls (x := x) hx) ?_
     rintro e w27 ⟨rfl, hE27⟩
     refine ⟨_, rfl, ?_⟩
     have hs_w27 := (hE27).size
     replace hV := evo_step0 hV hE27
     replace hC26 := evo_step0 hC26 hE27
     replace hbb1 := hbb1.evo0 hE27
     replace hAb1 := hAb1.evo0 hE27
     replace hbb3 := hbb3.evo0 hE27
     replace hAb3 := hAb3.evo0 hE27
     refine h_next hC26 ?_
     refine h_take (i := 4) (by exact rfl) rfl rfl rfl (by kernel_rfl) (fun w' hC => run_bld (pv := [(0, .int _ _), (1, S _)]) (zs := [_, _, _]) (cells := [_, _, _]) rfl ty_43 (by exact rfl) pl_43 (by exact rfl) (by exact rfl)) hC26 ?_
     refine h_one (i := 5) (by kernel_rfl) ?_
     refine h_do (by exact rfl) ?_
     refine r_store (v := .agg _) (vs := [_, _, _]) (cs' := [_, _, _]) (by exact rfl) (by exact rfl) hbb3 ty_43 (by exact rfl) rfl (by exact rfl) rfl (by exact rfl) ?_
     intro w28 hEw28 hzw28 hb_new
     have hs_w28 := (hEw28).size
     replace hV := evo_step1 hV hEw28 (by first | exact .inl (by omega) | exact .inr (by simp))
     replace hbb1 := hbb1.evo hEw28 (by simp; omega)
     replace hAb1 := hAb1.evo hEw28 (by simp; omega)
     replace hbb3 := hb_new
     have hAb3 := hbb3.at
     clear hb_new
     refine h_last (by kernel_rfl) ?_
     refine h_one (i := 6) (by kernel_rfl) ?_
     refine h_do (by exact rfl) ?_
     refine r_op rfl rfl rfl (run_asg (v := .bool _) rfl (by exact rfl)) ?_
     refine h_last (by kernel_rfl) ?_
     refine h_done (by kernel_rfl) ?_
     refine r_ret (resC2 (cs := [_, _, _]) (u := .bool _) rfl ag_43 ty_43 (by exact rfl) rfl hAb3 (by exact rfl)) ?_
     first | exact ⟨ret_cl (a := ⟨x.kind, keyT x, 0⟩) (clV_in (by omega)) (decide_eq_true (by unfold clB; omega)).symm, hV⟩ | exact ⟨ret_cl (a := ⟨x.kind, x.text, 0⟩) (clV_out (by omega)) (decide_eq_decide.2 (by unfold tgB clB; omega)), hV⟩
    ·skip
     refine r_region ?_
     refine r_op rfl rfl rfl (run_eql rfl (by exact rfl) (by exact rfl)) ?_
     refine r_op rfl rfl rfl (run_asg (v := .bool _) rfl (by exact rfl)) ?_
     refine r_nil ?_
     refine r_cond (by exact rfl) (fun hc29 => ?_) (fun hc29 => ?_)
     ·skip
      refine r_seq ?_
      have hbb1_q := hbb1
      have hAb1_q := hAb1
      have hbb3_q := hbb3
      have hAb3_q := hAb3
      have hV_q := hV
      refine h_region ([b3]) (by kernel_rfl) ?_
      intro w30 hE31 hC32
      have hs_w30 := (hE31).size
      replace hV := evo_step0 hV hE31
      replace hbb1 := hbb1.evo0 hE31
      replace hAb1 := hAb1.evo0 hE31
      replace hbb3 := hbb3.evo0 hE31
      replace hAb3 := hAb3.evo0 hE31
      refine h_take (i := 0) (by exact rfl) rfl rfl rfl (by kernel_rfl) (fun w' hC => run_fa rfl (by exact rfl) fo_43_0) hC32 ?_
      refine h_take (i := 1) (by exact rfl) rfl rfl rfl (by kernel_rfl) (fun w' hC => run_ld1 rfl ag_3 (by exact rfl) ((hAb1_q.evo hC (by simp; omega)).cell 0 (by exact rfl))) hC32 ?_
      refine h_take (i := 2) (by exact rfl) rfl rfl rfl (by kernel_rfl) (fun w' hC => run_ldN rfl ag_43 ty_43 (by exact rfl) rfl (hAb1_q.evo hC (by simp; omega))) hC32 ?_
      refine h_one (i := 3) (by kernel_rfl) ?_
      refine h_do (by exact rfl) ?_
      refine r_opcall rfl rfl rfl (run_callf (vs := [.agg _]) rfl (by exact rfl) Tryz.func57 rfl (by kernel_rfl)) (tkey_calls (x := x) hx) ?_
      rintro e w33 ⟨rfl, hE33⟩
      refine ⟨_, rfl, ?_⟩
      have hs_w33 := (hE33).size
      replace hV := evo_step0 hV hE33
      replace hC32 := evo_step0 hC32 hE33
      replace hbb1 := hbb1.evo0 hE33
      replace hAb1 := hAb1.evo0 hE33
      replace hbb3 := hbb3.evo0 hE33
      replace hAb3 := hAb3.evo0 hE33
      refine h_next hC32 ?_
      refine h_take (i := 4) (by exact rfl) rfl rfl rfl (by kernel_rfl) (fun w' hC => run_bld (pv := [(0, .int _ _), (1, S _)]) (zs := [_, _, _]) (cells := [_, _, _]) rfl ty_43 (by exact rfl) pl_43 (by exact rfl) (by exact rfl)) hC32 ?_
      refine h_one (i := 5) (by kernel_rfl) ?_
      refine h_do (by exact rfl) ?_
      refine r_store (v := .agg _) (vs := [_, _, _]) (cs' := [_, _, _]) (by exact rfl) (by exact rfl) hbb3 ty_43 (by exact rfl) rfl (by exact rfl) rfl (by exact rfl) ?_
      intro w34 hEw34 hzw34 hb_new
      have hs_w34 := (hEw34).size
      replace hV := evo_step1 hV hEw34 (by first | exact .inl (by omega) | exact .inr (by simp))
      replace hbb1 := hbb1.evo hEw34 (by simp; omega)
      replace hAb1 := hAb1.evo hEw34 (by simp; omega)
      replace hbb3 := hb_new
      have hAb3 := hbb3.at
      clear hb_new
      refine h_last (by kernel_rfl) ?_
      refine h_one (i := 6) (by kernel_rfl) ?_
      refine h_do (by exact rfl) ?_
      refine r_op rfl rfl rfl (run_asg (v := .bool _) rfl (by exact rfl)) ?_
      refine h_last (by kernel_rfl) ?_
      refine h_done (by kernel_rfl) ?_
      refine r_ret (resC2 (cs := [_, _, _]) (u := .bool _) rfl ag_43 ty_43 (by exact rfl) rfl hAb3 (by exact rfl)) ?_
      first | exact ⟨ret_cl (a := ⟨x.kind, keyT x, 0⟩) (clV_in (by omega)) (decide_eq_true (by unfold clB; omega)).symm, hV⟩ | exact ⟨ret_cl (a := ⟨x.kind, x.text, 0⟩) (clV_out (by omega)) (decide_eq_decide.2 (by unfold tgB clB; omega)), hV⟩
     ·skip
      refine r_skip ?_
      refine r_blk ?_
      refine r_seq ?_
      have hbb1_q := hbb1
      have hAb1_q := hAb1
      have hbb3_q := hbb3
      have hAb3_q := hAb3
      have hV_q := hV
      refine h_region ([b3]) (by kernel_rfl) ?_
      intro w35 hE36 hC37
      have hs_w35 := (hE36).size
      replace hV := evo_step0 hV hE36
      replace hbb1 := hbb1.evo0 hE36
      replace hAb1 := hAb1.evo0 hE36
      replace hbb3 := hbb3.evo0 hE36
      replace hAb3 := hAb3.evo0 hE36
      refine h_take (i := 0) (by exact rfl) rfl rfl rfl (by kernel_rfl) (fun w' hC => run_fa rfl (by exact rfl) fo_43_0) hC37 ?_
      refine h_take (i := 1) (by exact rfl) rfl rfl rfl (by kernel_rfl) (fun w' hC => run_ld1 rfl ag_3 (by exact rfl) ((hAb1_q.evo hC (by simp; omega)).cell 0 (by exact rfl))) hC37 ?_
      refine h_take (i := 2) (by exact rfl) rfl rfl rfl (by kernel_rfl) (fun w' hC => run_fa rfl (by exact rfl) fo_43_1) hC37 ?_
      refine h_take (i := 3) (by exact rfl) rfl rfl rfl (by kernel_rfl) (fun w' hC => run_ld1 rfl ag_9 (by exact rfl) ((hAb1_q.evo hC (by simp; omega)).cell 1 (by exact rfl))) hC37 ?_
      refine h_take (i := 4) (by exact rfl) rfl rfl rfl (by kernel_rfl) (fun w' hC => run_bld (pv := [(0, .int _ _), (1, S _)]) (zs := [_, _, _]) (cells := [_, _, _]) rfl ty_43 (by exact rfl) pl_43 (by exact rfl) (by exact rfl)) hC37 ?_
      refine h_take (i := 5) (by exact rfl) rfl rfl rfl (by kernel_rfl) (fun w' hC => run_ldN rfl ag_43 ty_43 (by exact rfl) rfl (hAb1_q.evo hC (by simp; omega))) hC37 ?_
      refine h_one (i := 6) (by kernel_rfl) ?_
      refine h_do (by exact rfl) ?_
      refine r_opcall rfl rfl rfl (run_callf (vs := [.agg _]) rfl (by exact rfl) Tryz.func58 rfl (by kernel_rfl)) (sgtag_calls (x := x)) ?_
      rintro e w38 ⟨rfl, hE38⟩
      refine ⟨_, rfl, ?_⟩
      have hs_w38 := (hE38).size
      replace hV := evo_step0 hV hE38
      replace hC37 := evo_step0 hC37 hE38
      replace hbb3 := hbb3.evo0 hE38
      replace hAb3 := hAb3.evo0 hE38
      refine h_next hC37 ?_
      refine h_one (i := 7) (by kernel_rfl) ?_
      refine h_do (by exact rfl) ?_
      refine r_store (v := .agg _) (vs := [_, _, _]) (cs' := [_, _, _]) (by exact rfl) (by exact rfl) hbb3 ty_43 (by exact rfl) rfl (by exact rfl) rfl (by exact rfl) ?_
      intro w39 hEw39 hzw39 hb_new
      have hs_w39 := (hEw39).size
      replace hV := evo_step1 hV hEw39 (by first | exact .inl (by omega) | exact .inr (by simp))
      replace hbb3 := hb_new
      have hAb3 := hbb3.at
      clear hb_new
      refine h_last (by kernel_rfl) ?_
      refine h_one (i := 8) (by kernel_rfl) ?_
      refine h_do (by exact rfl) ?_
      refine r_op rfl rfl rfl (run_asg (v := .bool _) rfl (by exact rfl)) ?_
      refine h_last (by kernel_rfl) ?_
      refine h_done (by kernel_rfl) ?_
      refine r_ret (resC2 (cs := [_, _, _]) (u := .bool _) rfl ag_43 ty_43 (by exact rfl) rfl hAb3 (by exact rfl)) ?_
      first | exact ⟨ret_cl (a := ⟨x.kind, keyT x, 0⟩) (clV_in (by omega)) (decide_eq_true (by unfold clB; omega)).symm, hV⟩ | exact ⟨ret_cl (a := ⟨x.kind, x.text, 0⟩) (clV_out (by omega)) (decide_eq_decide.2 (by unfold tgB clB; omega)), hV⟩
end Go.Proofs.YthbcklajlmcifaaGreat
namespace Go.Proofs.YthbcklajlmcifaaGreat
open Go.RowKit Go.Vc
section
variable {α : Type}
theorem sum_le {f f' : α → Int} : ∀ {ks : List α}, (∀ c ∈ ks, f' c ≤ f c) → sumZ (ks.map f') ≤ sumZ (ks.map f)
  | [], _ => Int.le_refl _
  | k :: ks, h => by
    rw [List.map_cons, List.map_cons, sumZ_cons, sumZ_cons]
    have h1 := h k (by simp)
    have h2 := sum_le (ks := ks) (fun c hc => h c (by simp [hc]))
    omega
theorem sum_filter {f : α → Int} {p : α → Bool} : ∀ {ks : List α}, (∀ c ∈ ks, p c = false → f c = 0) → sumZ (ks.map f) = sumZ ((ks.filter p).map f)
  | [], _ => rfl
  | k :: ks, h => by
    have h2 := sum_filter (ks := ks) (fun c hc => h c (by simp [hc]))
    rw [List.map_cons, sumZ_cons]
    cases e : p k with
    | true => rw [List.filter_cons_of_pos e, List.map_cons, sumZ_cons, h2]
    | false => rw [List.filter_cons_of_neg (by simp [e]), h k (by simp) e, h2]; omega
theorem sum_zero {f : α → Int} : ∀ {ks : List α}, (∀ c ∈ ks, f c = 0) → sumZ (ks.map f) = 0
  | [], _ => rfl
  | k :: ks, h => by rw [List.map_cons, sumZ_cons, h k (by simp), sum_zero (fun c hc => h c (by simp [hc]))]; rfl
end
section
variable {α : Type} [DecidableEq α]
theorem sum_bump {f f' : α → Int} {x : α} {d : Int} : ∀ {ks : List α}, ks.Nodup → x ∈ ks → f' x = f x + d → (∀ c ∈ ks, c ≠ x → f' c = f c) → sumZ (ks.map f') = sumZ (ks.map f) + d
  | [], _, h, _, _ => by cases h
  | k :: ks, hn, hx, h1, h2 => by
    rw [List.nodup_cons] at hn
    rw [List.map_cons, List.map_cons, sumZ_cons, sumZ_cons]
    by_cases e : k = x
    · subst e
      have h3 : ks.map f' = ks.map f := List.map_congr_left fun c hc => h2 c (by simp [hc]) (fun q => hn.1 (q ▸ hc))
      rw [h3, h1]; omega
    · have h3 : x ∈ ks := (List.mem_cons.1 hx).resolve_left (fun q => e q.symm)
      have h4 := sum_bump hn.2 h3 h1 (fun c hc => h2 c (by simp [hc]))
      rw [h2 k (by simp) e, h4]; omega
theorem sum_keys {f : α → Int} {ks ks' : List α} (hn : ks.Nodup) (hn' : ks'.Nodup) (h : ∀ x ∈ ks, x ∉ ks' → f x = 0) (h' : ∀ x ∈ ks', x ∉ ks → f x = 0) : sumZ (ks.map f) = sumZ (ks'.map f) := by
  rw [sum_filter (p := fun c => decide (c ∈ ks')) (ks := ks) (fun c hc e => h c hc (by simpa using e)), sum_filter (p := fun c => decide (c ∈ ks)) (ks := ks') (fun c hc e => h' c hc (by simpa using e))]
  refine sumZ_perm (List.Perm.map _ (nodup_perm (hn.filter _) (hn'.filter _) fun x => ?_))
  simp only [List.mem_filter, decide_eq_true_eq]
  exact ⟨fun h => ⟨h.2, h.1⟩, fun h => ⟨h.2, h.1⟩⟩
end
def clsL (l : List Vc.Item) : List Vc.Item := (l.filter (fun x => decide (clB x))).map clV
theorem cls_yes {l : List Vc.Item} {k : Nat} (hk : k < l.length) (h : clB (l.getD k default)) : clsL (l.take (k + 1)) = clsL (l.take k) ++ [clV (l.getD k default)] := by
  unfold clsL; rw [take_succD l k hk, List.filter_append, List.map_append, List.filter_cons_of_pos (p := fun x : Vc.Item => decide (clB x)) (decide_eq_true h)]; rfl
theorem cls_no {l : List Vc.Item} {k : Nat} (hk : k < l.length) (h : ¬ clB (l.getD k default)) : clsL (l.take (k + 1)) = clsL (l.take k) := by
  unfold clsL; rw [take_succD l k hk, List.filter_append, List.map_append, List.filter_cons_of_neg (p := fun x : Vc.Item => decide (clB x)) (by simpa using h)]; simp
theorem cls_len (l : List Vc.Item) : (clsL l).length ≤ l.length := by unfold clsL; rw [List.length_map]; exact List.length_filter_le _ _
theorem clV_kind (x : Vc.Item) : (clV x).kind = x.kind := by unfold clV; split <;> rfl
theorem clV_tg {x : Vc.Item} : tgB (clV x) ↔ tgB x := by unfold tgB; rw [clV_kind]
def dlt (a b : List Vc.Item) (c : Vc.Item) : Int := (((clsL a).count c : Nat) : Int) - (((clsL b).count c : Nat) : Int)
theorem dlt_bd (a b : List Vc.Item) (c : Vc.Item) : -(b.length : Int) ≤ dlt a b c ∧ dlt a b c ≤ (a.length : Int) := by
  have h1 := List.count_le_length (a := c) (l := clsL a)
  have h2 := List.count_le_length (a := c) (l := clsL b)
  have h3 := cls_len a
  have h4 := cls_len b
  unfold dlt; omega
def upF (n : Int) (c : Vc.Item) : Int := if tgB c then 0 else max n 0 * wK c.kind
def tgF (n : Int) (c : Vc.Item) : Int := if tgB c then max n (-n) else 0
def keysL (a b : List Vc.Item) : List Vc.Item := dist (clsL a ++ clsL b)
def upL (a b : List Vc.Item) : Int := sumZ ((keysL a b).map fun c => upF (dlt a b c) c)
def surL (a b : List Vc.Item) : Int := sumZ ((keysL a b).map fun c => tgF (dlt a b c) c)
def bagL (a b : List Vc.Item) : Int := max (upL a b) (upL b a) + 3 * surL a b
theorem keys_mem {a b : List Vc.Item} {c : Vc.Item} : c ∈ keysL a b ↔ c ∈ clsL a ∨ c ∈ clsL b := by unfold keysL; rw [dist_mem, List.mem_append]
theorem keys_nodup (a b : List Vc.Item) : (keysL a b).Nodup := dist_nodup _
theorem wK_val (k : Int) : wK k = 0 ∨ wK k = 1 ∨ wK k = 2 ∨ wK k = 3 ∨ wK k = 4 := by have := wK_bd k; omega
theorem upF_bd (n : Int) (c : Vc.Item) : 0 ≤ upF n c ∧ upF n c ≤ 4 * max n 0 := by
  unfold upF
  split
  · omega
  · rcases wK_val c.kind with h | h | h | h | h <;> rw [h] <;> omega
theorem tgF_bd (n : Int) (c : Vc.Item) : 0 ≤ tgF n c ∧ tgF n c ≤ max n (-n) := by unfold tgF; split <;> omega
def CntM (ps qs : List Vc.Item) (m : List (Vc.Item × Int)) : Prop := ∀ x, getM m x = if x ∈ ps ∨ x ∈ qs then some (((ps.count x : Nat) : Int) - ((qs.count x : Nat) : Int)) else none
theorem CntM.nil : CntM [] [] [] := fun x => by simp [getM]
theorem CntM.get {ps qs : List Vc.Item} {m : List (Vc.Item × Int)} (h : CntM ps qs m) (x : Vc.Item) : (getM m x).getD 0 = ((ps.count x : Nat) : Int) - ((qs.count x : Nat) : Int) := by
  rw [h x]
  by_cases hx : x ∈ ps ∨ x ∈ qs
  · rw [if_pos hx]; rfl
  · rw [if_neg hx, List.count_eq_zero.2 (fun q => hx (.inl q)), List.count_eq_zero.2 (fun q => hx (.inr q))]; rfl
theorem CntM.keys {a b : List Vc.Item} {m : List (Vc.Item × Int)} (h : CntM (clsL a) (clsL b) m) (hn : (m.map (·.1)).Nodup) : (m.map (·.1)).Perm (keysL a b) := nodup_perm hn (keys_nodup a b) fun x => by
  rw [keys_mem]
  constructor
  · intro hx
    obtain ⟨q, hq, rfl⟩ := List.mem_map.1 hx
    have h2 : getM m q.1 = some q.2 := getM_of_memZ hn hq
    rw [h q.1] at h2
    exact Classical.byContradiction fun hc => by rw [if_neg hc] at h2; cases h2
  · intro hx
    have h2 := h x
    rw [if_pos hx] at h2
    exact List.mem_map.2 ⟨_, getM_mem_of h2, rfl⟩
theorem CntM.val {a b : List Vc.Item} {m : List (Vc.Item × Int)} (h : CntM (clsL a) (clsL b) m) (hn : (m.map (·.1)).Nodup) {q : Vc.Item × Int} (hq : q ∈ m) : q.2 = dlt a b q.1 := by
  have h2 : getM m q.1 = some q.2 := getM_of_memZ hn hq
  have h3 := h.get q.1
  rw [h2] at h3
  exact h3
theorem CntM.len {a b : List Vc.Item} {m : List (Vc.Item × Int)} (h : CntM (clsL a) (clsL b) m) (hn : (m.map (·.1)).Nodup) : m.length ≤ a.length + b.length := by
  have h1 := (h.keys hn).length_eq
  have h2 := List.Nodup.length_le_of_subset (keys_nodup a b) (l₂ := clsL a ++ clsL b) (fun x hx => by rw [List.mem_append]; exact keys_mem.1 hx)
  rw [List.length_append] at h2
  have h3 := cls_len a
  have h4 := cls_len b
  rw [List.length_map] at h1
  omega
theorem CntM.sum {a b : List Vc.Item} {m d : List (Vc.Item × Int)} (h : CntM (clsL a) (clsL b) m) (hn : (m.map (·.1)).Nodup) (hp : d.Perm m) (F : Int → Vc.Item → Int) : sumZ (d.map fun q => F q.2 q.1) = sumZ ((keysL a b).map fun c => F (dlt a b c) c) := by
  rw [sumZ_perm (hp.map _), ← sumZ_perm ((h.keys hn).map _), List.map_map]
  congr 1
  exact List.map_congr_left fun q hq => by rw [h.val hn hq]; rfl
theorem up_bd (a b : List Vc.Item) (ha : a.length ≤ 1000000) (hb : b.length ≤ 1000000) : 0 ≤ upL a b ∧ upL a b ≤ 8000000000000 := by
  have hl : (keysL a b).length ≤ 2000000 := by
    have h2 := List.Nodup.length_le_of_subset (keys_nodup a b) (l₂ := clsL a ++ clsL b) (fun x hx => by rw [List.mem_append]; exact keys_mem.1 hx)
    have h3 := cls_len a
    have h4 := cls_len b
    rw [List.length_append] at h2; omega
  have hf : ∀ c, 0 ≤ upF (dlt a b c) c ∧ upF (dlt a b c) c ≤ 4000000 := fun c => by have h := upF_bd (dlt a b c) c; have := dlt_bd a b c; omega
  refine ⟨sumZ_nonneg fun x hx => ?_, ?_⟩
  · obtain ⟨q, hq, rfl⟩ := List.mem_map.1 hx; exact (hf q).1
  · have := sumZ_le (l := (keysL a b).map fun c => upF (dlt a b c) c) (n := 4000000) (by omega) (fun x hx => by obtain ⟨q, hq, rfl⟩ := List.mem_map.1 hx; exact (hf q).2)
    rw [List.length_map] at this; unfold upL; omega
theorem sur_bd (a b : List Vc.Item) (ha : a.length ≤ 1000000) (hb : b.length ≤ 1000000) : 0 ≤ surL a b ∧ surL a b ≤ 2000000000000 := by
  have hl : (keysL a b).length ≤ 2000000 := by
    have h2 := List.Nodup.length_le_of_subset (keys_nodup a b) (l₂ := clsL a ++ clsL b) (fun x hx => by rw [List.mem_append]; exact keys_mem.1 hx)
    have h3 := cls_len a
    have h4 := cls_len b
    rw [List.length_append] at h2; omega
  have hf : ∀ c, 0 ≤ tgF (dlt a b c) c ∧ tgF (dlt a b c) c ≤ 1000000 := fun c => by have h := tgF_bd (dlt a b c) c; have := dlt_bd a b c; omega
  refine ⟨sumZ_nonneg fun x hx => ?_, ?_⟩
  · obtain ⟨q, hq, rfl⟩ := List.mem_map.1 hx; exact (hf q).1
  · have := sumZ_le (l := (keysL a b).map fun c => tgF (dlt a b c) c) (n := 1000000) (by omega) (fun x hx => by obtain ⟨q, hq, rfl⟩ := List.mem_map.1 hx; exact (hf q).2)
    rw [List.length_map] at this; unfold surL; omega
theorem bag_nonneg (a b : List Vc.Item) (ha : a.length ≤ 1000000) (hb : b.length ≤ 1000000) : 0 ≤ bagL a b ∧ bagL a b ≤ 20000000000000 := by
  have h1 := up_bd a b ha hb
  have h2 := up_bd b a hb ha
  have h3 := sur_bd a b ha hb
  unfold bagL; omega
def likeB (x y : Vc.Item) : Prop := x.kind = y.kind ∧ 5 ≤ x.kind ∧ x.kind ≤ 9 ∧ keyT x = keyT y
instance (x y : Vc.Item) : Decidable (likeB x y) := by unfold likeB; infer_instance
def sameB (x y : Vc.Item) : Prop := x.kind = y.kind ∧ x.text = y.text
instance (x y : Vc.Item) : Decidable (sameB x y) := by unfold sameB; infer_instance
def likeC (l : List Vc.Item) (t : Vc.Item) : Int := ((l.countP (fun x => decide (likeB x t)) : Nat) : Int)
def timesC (l : List Vc.Item) (t : Vc.Item) : Int := ((l.countP (fun x => decide (sameB x t)) : Nat) : Int)
theorem likeC_yes {l : List Vc.Item} {t : Vc.Item} {k : Nat} (hk : k < l.length) (h : likeB (l.getD k default) t) : likeC (l.take k) t + 1 = likeC (l.take (k + 1)) t := by
  unfold likeC; rw [take_succD l k hk, List.countP_append, List.countP_singleton, decide_eq_true h]; rfl
theorem likeC_no {l : List Vc.Item} {t : Vc.Item} {k : Nat} (hk : k < l.length) (h : ¬ likeB (l.getD k default) t) : likeC (l.take k) t = likeC (l.take (k + 1)) t := by
  unfold likeC; rw [take_succD l k hk, List.countP_append, List.countP_singleton, decide_eq_false h]; rfl
theorem timesC_yes {l : List Vc.Item} {t : Vc.Item} {k : Nat} (hk : k < l.length) (h : sameB (l.getD k default) t) : timesC (l.take k) t + 1 = timesC (l.take (k + 1)) t := by
  unfold timesC; rw [take_succD l k hk, List.countP_append, List.countP_singleton, decide_eq_true h]; rfl
theorem timesC_no {l : List Vc.Item} {t : Vc.Item} {k : Nat} (hk : k < l.length) (h : ¬ sameB (l.getD k default) t) : timesC (l.take k) t = timesC (l.take (k + 1)) t := by
  unfold timesC; rw [take_succD l k hk, List.countP_append, List.countP_singleton, decide_eq_false h]; rfl
theorem likeC_bd (l : List Vc.Item) (t : Vc.Item) : 0 ≤ likeC l t ∧ likeC l t ≤ (l.length : Int) := by have := List.countP_le_length (p := fun x => decide (likeB x t)) (l := l); unfold likeC; omega
theorem timesC_bd (l : List Vc.Item) (t : Vc.Item) : 0 ≤ timesC l t ∧ timesC l t ≤ (l.length : Int) := by have := List.countP_le_length (p := fun x => decide (sameB x t)) (l := l); unfold timesC; omega
theorem clV_like {x t : Vc.Item} (ht : 5 ≤ t.kind ∧ t.kind ≤ 9) : likeB x t ↔ clB x ∧ clV x = clV t := by
  constructor
  · rintro ⟨h1, h2, h3, h4⟩
    refine ⟨⟨by omega, h3⟩, ?_⟩
    unfold clV
    rw [if_pos ⟨h2, h3⟩, if_pos ht, h1, h4]
  · rintro ⟨h1, h2⟩
    have h3 : x.kind = t.kind := by have := congrArg Vc.Item.kind h2; rwa [clV_kind, clV_kind] at this
    unfold clV at h2
    rw [if_pos (by omega), if_pos ht] at h2
    simp only [Vc.Item.mk.injEq] at h2; exact ⟨h3, by omega, by omega, h2.2.1⟩
theorem clV_same {x t : Vc.Item} (ht : tgB t) : sameB x t ↔ clB x ∧ clV x = clV t := by
  unfold tgB at ht
  constructor
  · rintro ⟨h1, h2⟩
    refine ⟨⟨by omega, by omega⟩, ?_⟩
    unfold clV
    rw [if_neg (by omega), if_neg (by omega), h1, h2]
  · rintro ⟨h1, h2⟩
    have h3 : x.kind = t.kind := by have := congrArg Vc.Item.kind h2; rwa [clV_kind, clV_kind] at this
    unfold clV at h2
    rw [if_neg (by omega), if_neg (by omega)] at h2
    simp only [Vc.Item.mk.injEq] at h2; exact ⟨h3, h2.2.1⟩
theorem cls_countP (l : List Vc.Item) (c : Vc.Item) : (clsL l).count c = l.countP (fun x => decide (clB x ∧ clV x = c)) := by
  unfold clsL
  rw [List.count_eq_countP, List.countP_map, List.countP_filter]
  congr 1
  funext x
  simp only [Function.comp]
  rw [Bool.eq_iff_iff]; simp [and_comm]
theorem likeC_eq {l : List Vc.Item} {t : Vc.Item} (ht : 5 ≤ t.kind ∧ t.kind ≤ 9) : likeC l t = (((clsL l).count (clV t) : Nat) : Int) := by
  unfold likeC
  rw [cls_countP]
  congr 2
  funext x
  exact decide_eq_decide.2 (clV_like ht)
theorem timesC_eq {l : List Vc.Item} {t : Vc.Item} (ht : tgB t) : timesC l t = (((clsL l).count (clV t) : Nat) : Int) := by
  unfold timesC
  rw [cls_countP]
  congr 2
  funext x
  exact decide_eq_decide.2 (clV_same ht)
theorem likeC_zero {l : List Vc.Item} {t : Vc.Item} (ht : ¬ (5 ≤ t.kind ∧ t.kind ≤ 9)) : likeC l t = 0 := by
  unfold likeC
  rw [List.countP_eq_zero.2 (fun x _ => by simp only [decide_eq_true_eq]; rintro ⟨h1, h2, h3, _⟩; exact ht ⟨by omega, by omega⟩)]; rfl
def exK (a b : List Vc.Item) (i : Nat) : Int := sumZ ((keysL a b).map fun c => upF (dlt (a.take i) b c) c)
theorem exK_end {a b : List Vc.Item} {i : Nat} (h : a.length ≤ i) : exK a b i = upL a b := by unfold exK upL; rw [List.take_of_length_le h]
theorem exK_zero (a b : List Vc.Item) : exK a b 0 = 0 := sum_zero fun c _ => by
  have h := dlt_bd (a.take 0) b c
  have h2 := upF_bd (dlt (a.take 0) b c) c
  rw [show ((a.take 0).length : Int) = 0 by simp] at h
  omega
theorem exK_bd (a b : List Vc.Item) (i : Nat) (ha : a.length ≤ 1000000) (hb : b.length ≤ 1000000) : 0 ≤ exK a b i ∧ exK a b i ≤ 8000000000000 := by
  have h1 := up_bd a b ha hb
  refine ⟨sumZ_nonneg fun x hx => ?_, ?_⟩
  · obtain ⟨q, hq, rfl⟩ := List.mem_map.1 hx; exact (upF_bd _ _).1
  · refine Int.le_trans (sum_le fun c _ => ?_) h1.2
    have h3 : ((clsL (a.take i)).count c : Nat) ≤ (clsL a).count c := by
      rw [cls_countP, cls_countP]; exact List.Sublist.countP_le (List.take_sublist _ _)
    have h4 : dlt (a.take i) b c ≤ dlt a b c := by unfold dlt; omega
    unfold upF
    split
    · omega
    · rcases wK_val c.kind with h | h | h | h | h <;> rw [h] <;> omega
theorem dlt_snoc {a b : List Vc.Item} {k : Nat} (hk : k < a.length) (h : clB (a.getD k default)) (c : Vc.Item) : dlt (a.take (k + 1)) b c = dlt (a.take k) b c + if c = clV (a.getD k default) then 1 else 0 := by
  unfold dlt
  rw [cls_yes hk h, List.count_append, List.count_singleton]
  by_cases e : c = clV (a.getD k default)
  · rw [if_pos e, if_pos (by rw [e]; exact beq_self_eq_true _)]; omega
  · rw [if_neg e, if_neg (by intro q; exact e (beq_iff_eq.1 q).symm)]; omega
theorem dlt_snoc_no {a b : List Vc.Item} {k : Nat} (hk : k < a.length) (h : ¬ clB (a.getD k default)) (c : Vc.Item) : dlt (a.take (k + 1)) b c = dlt (a.take k) b c := by
  unfold dlt; rw [cls_no hk h]
theorem getD_cls {a : List Vc.Item} {k : Nat} (hk : k < a.length) (h : clB (a.getD k default)) : clV (a.getD k default) ∈ clsL a := by
  unfold clsL
  exact List.mem_map_of_mem (List.mem_filter.2 ⟨getD_in hk, decide_eq_true h⟩)
theorem exK_yes {a b : List Vc.Item} {k : Nat} (hk : k < a.length) (h : likeC b (a.getD k default) < likeC (a.take (k + 1)) (a.getD k default)) : exK a b k + wK (a.getD k default).kind = exK a b (k + 1) := by
  by_cases ht : 5 ≤ (a.getD k default).kind ∧ (a.getD k default).kind ≤ 9
  · rw [likeC_eq ht, likeC_eq ht] at h
    have hc : clB (a.getD k default) := ⟨by omega, ht.2⟩
    refine (sum_bump (keys_nodup a b) (keys_mem.2 (.inl (getD_cls hk hc))) ?_ (fun c _ hne => ?_)).symm
    · have e := dlt_snoc (b := b) hk hc (clV (a.getD k default))
      rw [if_pos rfl] at e
      have e2 : dlt (a.take (k + 1)) b (clV (a.getD k default)) = (((clsL (a.take (k + 1))).count (clV (a.getD k default)) : Nat) : Int) - (((clsL b).count (clV (a.getD k default)) : Nat) : Int) := rfl
      have htg : ¬ tgB (clV (a.getD k default)) := fun q => by have := clV_tg.1 q; unfold tgB at this; omega
      show upF _ _ = upF _ _ + _
      unfold upF
      rw [if_neg htg, if_neg htg, clV_kind, e]
      have h5 : max (dlt (a.take k) b (clV (a.getD k default)) + 1) 0 = max (dlt (a.take k) b (clV (a.getD k default))) 0 + 1 := by omega
      rw [h5, Int.add_mul, Int.one_mul]
    · show upF _ _ = upF _ _
      rw [dlt_snoc hk hc c, if_neg hne, Int.add_zero]
  · rw [likeC_zero ht, likeC_zero ht] at h; omega
theorem exK_no {a b : List Vc.Item} {k : Nat} (hk : k < a.length) (h : ¬ likeC b (a.getD k default) < likeC (a.take (k + 1)) (a.getD k default)) : exK a b k = exK a b (k + 1) := by
  unfold exK
  congr 1
  refine List.map_congr_left fun c hc => ?_
  by_cases hb : clB (a.getD k default)
  · rw [dlt_snoc hk hb c]
    by_cases e : c = clV (a.getD k default)
    · rw [if_pos e]
      unfold upF
      by_cases htg : tgB c
      · rw [if_pos htg, if_pos htg]
      · rw [if_neg htg, if_neg htg]
        have ht : 5 ≤ (a.getD k default).kind ∧ (a.getD k default).kind ≤ 9 := by
          rw [e] at htg
          have h1 : ¬ tgB (a.getD k default) := fun q => htg (clV_tg.2 q)
          unfold tgB at h1; unfold clB at hb; omega
        rw [likeC_eq ht, likeC_eq ht] at h
        have e3 := dlt_snoc (b := b) hk hb c
        rw [if_pos e] at e3
        have e2 : dlt (a.take (k + 1)) b c = (((clsL (a.take (k + 1))).count (clV (a.getD k default)) : Nat) : Int) - (((clsL b).count (clV (a.getD k default)) : Nat) : Int) := by rw [← e]; rfl
        have h5 : max (dlt (a.take k) b c + 1) 0 = 0 := by omega
        have h6 : max (dlt (a.take k) b c) 0 = 0 := by omega
        rw [h5, h6]
    · rw [if_neg e, Int.add_zero]
  · rw [dlt_snoc_no hk hb]
def clsT (l : List Vc.Item) : List Vc.Item := (l.filter (fun x => decide (tgB x))).map clV
theorem clsT_snoc (l : List Vc.Item) (x : Vc.Item) : clsT (l ++ [x]) = if tgB x then clsT l ++ [clV x] else clsT l := by
  unfold clsT
  by_cases h : tgB x
  · rw [if_pos h, List.filter_append, List.map_append, List.filter_cons_of_pos (p := fun x : Vc.Item => decide (tgB x)) (decide_eq_true h)]; rfl
  · rw [if_neg h, List.filter_append, List.map_append, List.filter_cons_of_neg (p := fun x : Vc.Item => decide (tgB x)) (by simpa using h)]; simp
theorem clsT_mem {l : List Vc.Item} {c : Vc.Item} : c ∈ clsT l ↔ c ∈ clsL l ∧ tgB c := by
  unfold clsT clsL
  constructor
  · intro h
    obtain ⟨x, hx, rfl⟩ := List.mem_map.1 h
    have h2 := List.mem_filter.1 hx
    have h3 : tgB x := by simpa using h2.2
    exact ⟨List.mem_map_of_mem (List.mem_filter.2 ⟨h2.1, decide_eq_true (by unfold tgB at h3; unfold clB; omega)⟩), clV_tg.2 h3⟩
  · rintro ⟨h, ht⟩
    obtain ⟨x, hx, rfl⟩ := List.mem_map.1 h
    have h2 := List.mem_filter.1 hx
    exact List.mem_map_of_mem (List.mem_filter.2 ⟨h2.1, decide_eq_true (clV_tg.1 ht)⟩)
def suK (a b l : List Vc.Item) : Int := sumZ ((dist (clsT l)).map fun c => max (dlt a b c) (-(dlt a b c)))
theorem suK_nil (a b : List Vc.Item) : suK a b [] = 0 := rfl
theorem suK_end (a b : List Vc.Item) : suK a b (a ++ b) = surL a b := by
  have h1 : surL a b = sumZ ((keysL a b).filter (fun c => decide (tgB c)) |>.map fun c => tgF (dlt a b c) c) := sum_filter fun c _ e => by
    unfold tgF; exact if_neg (by simpa using e)
  rw [h1]
  have h2 : ((keysL a b).filter (fun c => decide (tgB c))).map (fun c => tgF (dlt a b c) c) = ((keysL a b).filter (fun c => decide (tgB c))).map (fun c => max (dlt a b c) (-(dlt a b c))) := List.map_congr_left fun c hc => by
    unfold tgF; exact if_pos (by simpa using (List.mem_filter.1 hc).2)
  rw [h2]
  refine sumZ_perm (List.Perm.map _ (nodup_perm (dist_nodup _) ((keys_nodup a b).filter _) fun x => ?_))
  rw [dist_mem, clsT_mem, List.mem_filter, keys_mem]
  have e : clsL (a ++ b) = clsL a ++ clsL b := by unfold clsL; rw [List.filter_append, List.map_append]
  rw [e, List.mem_append]; simp
theorem suK_skip {a b l : List Vc.Item} {x : Vc.Item} (h : ¬ tgB x ∨ (tgB x ∧ 0 < timesC l x)) : suK a b (l ++ [x]) = suK a b l := by
  unfold suK
  rw [clsT_snoc]
  rcases h with h | ⟨h, h2⟩
  · rw [if_neg h]
  · rw [if_pos h, dist_snoc, if_pos]
    rw [timesC_eq h] at h2
    rw [dist_mem, clsT_mem]
    exact ⟨List.count_pos_iff.1 (by omega), clV_tg.2 h⟩
theorem suK_new {a b l : List Vc.Item} {x : Vc.Item} (h : tgB x) (h2 : timesC l x = 0) : suK a b (l ++ [x]) = suK a b l + max (timesC a x - timesC b x) (-(timesC a x - timesC b x)) := by
  unfold suK
  rw [clsT_snoc, if_pos h, dist_snoc, if_neg]
  · rw [List.map_append, sumZ_append, timesC_eq h, timesC_eq h]; simp [sumZ, dlt]
  · rw [timesC_eq h] at h2
    rw [dist_mem, clsT_mem]
    rintro ⟨h3, _⟩
    have := List.count_pos_iff.2 h3
    omega
theorem suK_bd (a b l : List Vc.Item) (ha : a.length ≤ 1000000) (hb : b.length ≤ 1000000) (hl : l.length ≤ 2000000) : 0 ≤ suK a b l ∧ suK a b l ≤ 2000000000000 := by
  have h0 : (dist (clsT l)).length ≤ 2000000 := by
    have h2 := List.Nodup.length_le_of_subset (dist_nodup (clsT l)) (l₂ := clsT l) (fun x hx => (dist_mem _ _).1 hx)
    have h3 : (clsT l).length ≤ l.length := by unfold clsT; rw [List.length_map]; exact List.length_filter_le _ _
    omega
  have hf : ∀ c, 0 ≤ max (dlt a b c) (-(dlt a b c)) ∧ max (dlt a b c) (-(dlt a b c)) ≤ 1000000 := fun c => by have := dlt_bd a b c; omega
  refine ⟨sumZ_nonneg fun x hx => ?_, ?_⟩
  · obtain ⟨q, hq, rfl⟩ := List.mem_map.1 hx; exact (hf q).1
  · have := sumZ_le (l := (dist (clsT l)).map fun c => max (dlt a b c) (-(dlt a b c))) (n := 1000000) (by omega) (fun x hx => by obtain ⟨q, hq, rfl⟩ := List.mem_map.1 hx; exact (hf q).2)
    rw [List.length_map] at this; unfold suK; omega
theorem timesC_append (l m : List Vc.Item) (x : Vc.Item) : timesC (l ++ m) x = timesC l x + timesC m x := by unfold timesC; rw [List.countP_append]; omega
theorem suA_new {a b : List Vc.Item} {k : Nat} (hk : k < a.length) (h : tgB (a.getD k default) ∧ timesC (a.take k) (a.getD k default) = 0) : suK a b (a.take k) + max (timesC a (a.getD k default) - timesC b (a.getD k default)) (-(timesC a (a.getD k default) - timesC b (a.getD k default))) = suK a b (a.take (k + 1)) := by
  rw [take_succD a k hk]; exact (suK_new h.1 h.2).symm
theorem suA_skip {a b : List Vc.Item} {k : Nat} (hk : k < a.length) (h : ¬ (tgB (a.getD k default) ∧ timesC (a.take k) (a.getD k default) = 0)) : suK a b (a.take k) = suK a b (a.take (k + 1)) := by
  rw [take_succD a k hk]
  have h1 := timesC_bd (a.take k) (a.getD k default)
  refine (suK_skip ?_).symm
  by_cases ht : tgB (a.getD k default)
  · exact .inr ⟨ht, by have : ¬ timesC (a.take k) (a.getD k default) = 0 := fun q => h ⟨ht, q⟩
                       omega⟩
  · exact .inl ht
theorem suB_new {a b : List Vc.Item} {k : Nat} (hk : k < b.length) (h : (tgB (b.getD k default) ∧ timesC (b.take k) (b.getD k default) = 0) ∧ timesC a (b.getD k default) = 0) : suK a b (a ++ b.take k) + timesC b (b.getD k default) = suK a b (a ++ b.take (k + 1)) := by
  rw [take_succD b k hk, ← List.append_assoc, suK_new h.1.1 (by rw [timesC_append, h.1.2, h.2]; rfl), h.2]
  have h1 := timesC_bd b (b.getD k default)
  omega
theorem suB_skip {a b : List Vc.Item} {k : Nat} (hk : k < b.length) (h : ¬ ((tgB (b.getD k default) ∧ timesC (b.take k) (b.getD k default) = 0) ∧ timesC a (b.getD k default) = 0)) : suK a b (a ++ b.take k) = suK a b (a ++ b.take (k + 1)) := by
  rw [take_succD b k hk, ← List.append_assoc]
  have h1 := timesC_bd (b.take k) (b.getD k default)
  have h2 := timesC_bd a (b.getD k default)
  refine (suK_skip ?_).symm
  by_cases ht : tgB (b.getD k default)
  · refine .inr ⟨ht, ?_⟩
    rw [timesC_append]
    have : ¬ (timesC (b.take k) (b.getD k default) = 0 ∧ timesC a (b.getD k default) = 0) := fun q => h ⟨⟨ht, q.1⟩, q.2⟩
    omega
  · exact .inl ht
def mssL (a b : List Vc.Item) : Int := max (lackL (gramsL (wordsT a)) (gramsL (wordsT b))) (lackL (gramsL (wordsT b)) (gramsL (wordsT a)))
def boundL (a b : List Vc.Item) : Int := max (bagL a b) (4 * ((mssL a b + 1) / 2))
theorem lackL_bd (a b : List Gram) : 0 ≤ lackL a b ∧ lackL a b ≤ 1073741824 := by have := lackK_pos a b (dist (a.map prG)); unfold lackL; omega
theorem mssL_bd (a b : List Vc.Item) : 0 ≤ mssL a b ∧ mssL a b ≤ 1073741824 := by have h1 := lackL_bd (gramsL (wordsT a)) (gramsL (wordsT b)); have h2 := lackL_bd (gramsL (wordsT b)) (gramsL (wordsT a)); unfold mssL; omega
end Go.Proofs.YthbcklajlmcifaaGreat
namespace Go.Proofs.YthbcklajlmcifaaGreat
open Go.RowKit Go.Vc
theorem ei_43 : ∀ (w : World) (x y : Vc.Item), (Op.equalIn 10000 43 (.agg (Enc.enc x).toArray) (.agg (Enc.enc y).toArray)).run Tryz.prog w = .ok (decide (x = y)) w := fun w x y => equalIn_item 9998 Tryz.underlying43 Tryz.stoodInHeld43 (by decide) (by decide) (by decide) rfl rfl rfl Tryz.underlying3 Tryz.underlying9 Tryz.underlying3 ag_3 ag_9 ag_3 x y
end Go.Proofs.YthbcklajlmcifaaGreat
namespace Go.Proofs.YthbcklajlmcifaaGreat
open Go.RowKit Go.Vc
theorem rsame_calls {x y : Vc.Item} {w0 : World}  :
    Calls Tryz.prog 100 #[.agg (Enc.enc x).toArray, .agg (Enc.enc y).toArray] w0 fun e w' => e = .returned (.bool (decide (sameB x y))) ∧ Evo w0 w' [] := by
 refine calls_enter (n := 17) (args := [.agg (Enc.enc x).toArray, .agg (Enc.enc y).toArray]) Tryz.func100 rfl Tryz.ntmps100 rfl ?_
 have hV : Evo w0 w0 [] := Evo.refl _ _
 refine r_seq ?_
 refine r_region ?_
 refine r_box (vs := [_, _, _]) (by exact rfl) (by exact rfl) rfl ?_
 intro b1 w2 heb1 hEw2 hbb1 hzb1
 have hs_w2 := (hEw2).size
 replace hV := evo_step0 hV hEw2
 have hAb1 := hbb1.at
 refine r_box (vs := [_, _, _]) (by exact rfl) (by exact rfl) rfl ?_
 intro b3 w4 heb3 hEw4 hbb3 hzb3
 have hs_w4 := (hEw4).size
 replace hV := evo_step0 hV hEw4
 replace hbb1 := hbb1.evo0 hEw4
 replace hAb1 := hAb1.evo0 hEw4
 have hAb3 := hbb3.at
 refine r_op rfl rfl rfl (run_asg (v := .bool _) rfl (by exact rfl)) ?_
 refine r_nil ?_
 refine r_seq ?_
 refine r_region ?_
 refine r_op rfl rfl rfl (run_fa rfl (by exact rfl) fo_43_0) ?_
 refine r_op rfl rfl rfl (run_ld1 rfl ag_3 (by exact rfl) (hAb1.cell 0 (by exact rfl))) ?_
 refine r_op rfl rfl rfl (run_fa rfl (by exact rfl) fo_43_0) ?_
 refine r_op rfl rfl rfl (run_ld1 rfl ag_3 (by exact rfl) (hAb3.cell 0 (by exact rfl))) ?_
 refine r_op rfl rfl rfl (run_eql rfl (by exact rfl) (by exact rfl)) ?_
 refine r_op rfl rfl rfl (run_mv (v := .bool _) rfl (by exact rfl)) ?_
 refine r_g rfl (wantT (by exact rfl)) rfl (fun hg => run_fa rfl (by exact rfl) fo_43_1) ?_
 refine r_g rfl (wantT (by exact rfl)) rfl (fun hg => run_ld1 rfl ag_9 (glv (by exact rfl) (fun h => h) hg) (hAb1.cell 1 (by exact rfl))) ?_
 refine r_g rfl (wantT (by exact rfl)) rfl (fun hg => run_fa rfl (by exact rfl) fo_43_1) ?_
 refine r_g rfl (wantT (by exact rfl)) rfl (fun hg => run_ld1 rfl ag_9 (glv (by exact rfl) (fun h => h) hg) (hAb3.cell 1 (by exact rfl))) ?_
 refine r_g rfl (wantT (by exact rfl)) rfl (fun hg => run_seql rfl (glv (by exact rfl) (fun h => h) hg) (glv (by exact rfl) (fun h => h) hg)) ?_
 refine r_op rfl rfl rfl (run_pick_and rfl (by exact rfl) (fun hq => glv (by exact rfl) (fun h => h) hq) rfl) ?_
 refine r_op rfl rfl rfl (run_asg (v := .bool _) rfl (by exact rfl)) ?_
 refine r_nil ?_
 refine r_ret (res1 (v := .bool _) rfl (by exact rfl)) ?_
 exact ⟨ret_bool (decide_eq_decide.2 (by unfold sameB; simp)), hV⟩
theorem sristag_calls {x : Vc.Item} {w0 : World}  :
    Calls Tryz.prog 89 #[.agg (Enc.enc x).toArray] w0 fun e w' => e = .returned (.bool (decide (tgB x))) ∧ Evo w0 w' [] := by
 refine calls_enter (n := 16) (args := [.agg (Enc.enc x).toArray]) Tryz.func89 rfl Tryz.ntmps89 rfl ?_
 have hV : Evo w0 w0 [] := Evo.refl _ _
 refine r_seq ?_
 refine r_region ?_
 refine r_box (vs := [_, _, _]) (by exact rfl) (by exact rfl) rfl ?_
 intro b1 w2 heb1 hEw2 hbb1 hzb1
 have hs_w2 := (hEw2).size
 replace hV := evo_step0 hV hEw2
 have hAb1 := hbb1.at
 refine r_op rfl rfl rfl (run_asg (v := .bool _) rfl (by exact rfl)) ?_
 refine r_nil ?_
 refine r_seq ?_
 refine r_region ?_
 refine r_op rfl rfl rfl (run_fa rfl (by exact rfl) fo_43_0) ?_
 refine r_op rfl rfl rfl (run_ld1 rfl ag_3 (by exact rfl) (hAb1.cell 0 (by exact rfl))) ?_
 refine r_op rfl rfl rfl (run_eql rfl (by exact rfl) (by exact rfl)) ?_
 refine r_op rfl rfl rfl (run_mv (v := .bool _) rfl (by exact rfl)) ?_
 refine r_g rfl (wantF (by exact rfl)) rfl (fun hg => run_fa rfl (by exact rfl) fo_43_0) ?_
 refine r_g rfl (wantF (by exact rfl)) rfl (fun hg => run_ld1 rfl ag_3 (glv (by exact rfl) (fun h => h) hg) (hAb1.cell 0 (by exact rfl))) ?_
 refine r_g rfl (wantF (by exact rfl)) rfl (fun hg => run_eql rfl (glv (by exact rfl) (fun h => h) hg) (by exact rfl)) ?_
 refine r_op rfl rfl rfl (run_pick_or rfl (by exact rfl) rfl (fun hq => glv (by exact rfl) (fun h => h) hq)) ?_
 refine r_op rfl rfl rfl (run_mv (v := .bool _) rfl (by exact rfl)) ?_
 refine r_g rfl (wantF (by exact rfl)) rfl (fun hg => run_fa rfl (by exact rfl) fo_43_0) ?_
 refine r_g rfl (wantF (by exact rfl)) rfl (fun hg => run_ld1 rfl ag_3 (glv (by exact rfl) (fun h => h) hg) (hAb1.cell 0 (by exact rfl))) ?_
 refine r_g rfl (wantF (by exact rfl)) rfl (fun hg => run_eql rfl (glv (by exact rfl) (fun h => h) hg) (by exact rfl)) ?_
 refine r_op rfl rfl rfl (run_pick_or rfl (by exact rfl) rfl (fun hq => glv (by exact rfl) (fun h => h) hq)) ?_
 refine r_op rfl rfl rfl (run_asg (v := .bool _) rfl (by exact rfl)) ?_
 refine r_nil ?_
 refine r_ret (res1 (v := .bool _) rfl (by exact rfl)) ?_
 exact ⟨ret_bool (decide_eq_decide.2 (by unfold tgB; omega)), hV⟩
theorem rlike_calls {x y : Vc.Item} {w0 : World} (hx : x.text.length ≤ 140737488355328) (hy : y.text.length ≤ 140737488355328) :
    Calls Tryz.prog 88 #[.agg (Enc.enc x).toArray, .agg (Enc.enc y).toArray] w0 fun e w' => e = .returned (.bool (decide (likeB x y))) ∧ Evo w0 w' [] := by
 refine calls_enter (n := 27) (args := [.agg (Enc.enc x).toArray, .agg (Enc.enc y).toArray]) Tryz.func88 rfl Tryz.ntmps88 rfl ?_
 have hV : Evo w0 w0 [] := Evo.refl _ _
 refine r_seq ?_
 refine r_region ?_
 refine r_box (vs := [_, _, _]) (by exact rfl) (by exact rfl) rfl ?_
 intro b1 w2 heb1 hEw2 hbb1 hzb1
 have hs_w2 := (hEw2).size
 replace hV := evo_step0 hV hEw2
 have hAb1 := hbb1.at
 refine r_box (vs := [_, _, _]) (by exact rfl) (by exact rfl) rfl ?_
 intro b3 w4 heb3 hEw4 hbb3 hzb3
 have hs_w4 := (hEw4).size
 replace hV := evo_step0 hV hEw4
 replace hbb1 := hbb1.evo0 hEw4
 replace hAb1 := hAb1.evo0 hEw4
 have hAb3 := hbb3.at
 refine r_op rfl rfl rfl (run_asg (v := .bool _) rfl (by exact rfl)) ?_
 refine r_nil ?_
 refine r_seq ?_
 refine r_qregion (by kernel_rfl) (by kernel_rfl) ?_
 refine q_op rfl rfl rfl (fun w' hC => run_fa rfl (by exact rfl) fo_43_0) ?_
 refine q_op rfl rfl rfl (fun w' hC => run_ld1 rfl ag_3 (by exact rfl) ((hAb1.evo0 hC).cell 0 (by exact rfl))) ?_
 refine q_op rfl rfl rfl (fun w' hC => run_fa rfl (by exact rfl) fo_43_0) ?_
 refine q_op rfl rfl rfl (fun w' hC => run_ld1 rfl ag_3 (by exact rfl) ((hAb3.evo0 hC).cell 0 (by exact rfl))) ?_
 refine q_op rfl rfl rfl (fun w' hC => run_eql rfl (by exact rfl) (by exact rfl)) ?_
 refine q_op rfl rfl rfl (fun w' hC => run_mv (v := .bool _) rfl (by exact rfl)) ?_
 refine q_g rfl (wantT (by exact rfl)) rfl (fun hg w' hC => run_fa rfl (by exact rfl) fo_43_0) ?_
 refine q_g rfl (wantT (by exact rfl)) rfl (fun hg w' hC => run_ld1 rfl ag_3 (glv (by exact rfl) (fun h => h) hg) ((hAb1.evo0 hC).cell 0 (by exact rfl))) ?_
 refine q_g rfl (wantT (by exact rfl)) rfl (fun hg w' hC => run_geq rfl (glv (by exact rfl) (fun h => h) hg) (by exact rfl)) ?_
 refine q_op rfl rfl rfl (fun w' hC => run_pick_and rfl (by exact rfl) (fun hq => glv (by exact rfl) (fun h => h) hq) rfl) ?_
 refine q_op rfl rfl rfl (fun w' hC => run_mv (v := .bool _) rfl (by exact rfl)) ?_
 refine q_g rfl (wantT (by exact rfl)) rfl (fun hg w' hC => run_fa rfl (by exact rfl) fo_43_0) ?_
 refine q_g rfl (wantT (by exact rfl)) rfl (fun hg w' hC => run_ld1 rfl ag_3 (glv (by exact rfl) (fun h => h) hg) ((hAb1.evo0 hC).cell 0 (by exact rfl))) ?_
 refine q_g rfl (wantT (by exact rfl)) rfl (fun hg w' hC => run_leq rfl (glv (by exact rfl) (fun h => h) hg) (by exact rfl)) ?_
 refine q_op rfl rfl rfl (fun w' hC => run_pick_and rfl (by exact rfl) (fun hq => glv (by exact rfl) (fun h => h) hq) rfl) ?_
 refine q_op rfl rfl rfl (fun w' hC => run_mv (v := .bool _) rfl (by exact rfl)) ?_
 refine q_g rfl (wantT (by exact rfl)) rfl (fun hg w' hC => run_ldN rfl ag_43 ty_43 (by exact rfl) rfl (hAb1.evo0 hC)) ?_
 refine q_gcall rfl (wantT (by exact rfl)) rfl (fun hg w' hC => run_callf rfl (argcons (v := .agg _) (glv (by exact rfl) (fun h => h) hg) (rfl)) Tryz.func71 rfl (by kernel_rfl)) (fun hg w' hC => (rkey_calls (x := x) hx).mono (fun e w'' h => ⟨h.1, evo_step0 hC h.2⟩)) ?_
 refine q_g rfl (wantT (by exact rfl)) rfl (fun hg w' hC => run_ldN rfl ag_43 ty_43 (by exact rfl) rfl (hAb3.evo0 hC)) ?_
 refine q_gcall rfl (wantT (by exact rfl)) rfl (fun hg w' hC => run_callf rfl (argcons (v := .agg _) (glv (by exact rfl) (fun h => h) hg) (rfl)) Tryz.func71 rfl (by kernel_rfl)) (fun hg w' hC => (rkey_calls (x := y) hy).mono (fun e w'' h => ⟨h.1, evo_step0 hC h.2⟩)) ?_
 refine q_g rfl (wantT (by exact rfl)) rfl (fun hg w' hC => run_seql rfl (glv (by exact rfl) (fun h => h) hg) (glv (by exact rfl) (fun h => h) hg)) ?_
 refine q_op rfl rfl rfl (fun w' hC => run_pick_and rfl (by exact rfl) (fun hq => glv (by exact rfl) (fun h => h) hq) rfl) ?_
 refine q_op rfl rfl rfl (fun w' hC => run_asg (v := .bool _) rfl (by exact rfl)) ?_
 refine q_nil (fun w5 hE6 => ?_)
 have hs_w5 := (hE6).size
 replace hV := evo_step0 hV hE6
 refine r_ret (res1 (v := .bool _) rfl (by exact rfl)) ?_
 exact ⟨ret_bool (decide_eq_decide.2 (by unfold likeB; simp [and_assoc])), hV⟩
theorem rtimes_calls {ao : Option Addr} {b off cap : Nat} {l : List Vc.Item} {x : Vc.Item} {w0 : World} (hl : RowE w0 ao b off cap l) (hs : l.length ≤ 1000000) :
    Calls Tryz.prog 90 #[.slice ao l.length cap, .agg (Enc.enc x).toArray] w0 fun e w' => e = .returned (.int .i64 (timesC l x)) ∧ Evo w0 w' [] := by
 refine calls_enter (n := 22) (args := [.slice ao l.length cap, .agg (Enc.enc x).toArray]) Tryz.func90 rfl Tryz.ntmps90 rfl ?_
 have hV : Evo w0 w0 [] := Evo.refl _ _
 have hl0 := keepE hl
 have hbd_hl := hl.bd
 refine r_seq ?_
 refine r_region ?_
 refine r_box (vs := [_, _, _]) (by exact rfl) (by exact rfl) rfl ?_
 intro b1 w2 heb1 hEw2 hbb1 hzb1
 have hs_w2 := (hEw2).size
 replace hV := evo_step0 hV hEw2
 replace hl := hl0 _ hV
 have hAb1 := hbb1.at
 refine r_op rfl rfl rfl (run_asg (v := .int _ _) rfl (by exact rfl)) ?_
 refine r_nil ?_
 refine r_seq ?_
 refine r_region ?_
 refine r_op rfl rfl rfl (run_asg (v := .int _ _) rfl (by exact rfl)) ?_
 refine r_nil ?_
 refine r_seq ?_
 refine r_seq ?_
 refine r_region ?_
 refine r_op rfl rfl rfl (run_mv (v := .slice _ _ _) rfl (by exact rfl)) ?_
 refine r_op rfl rfl rfl (run_lenSl rfl (by exact rfl) Tryz.underlying23) ?_
 refine r_op rfl rfl rfl (run_mv (v := .int _ _) rfl (by exact rfl)) ?_
 refine r_nil ?_
 refine r_block ?_
 refine r_loop (α := Nat) [5, 6, 9, 10, 11, 12, 13, 14, 15, 16, 17, 18, 19, 20] (fun k g w => g 9 = .int .i64 (k : Nat) ∧ g 5 = .int .i64 (timesC (l.take k) x) ∧ k ≤ l.length ∧ Blk w b1 43 (Enc.enc x) ∧ At w b1 0 (Enc.enc x) ∧ w2.heap.size ≤ w.heap.size ∧ Evo w0 w []) (fun k => l.length - k) 0 ?_ ?_
 ·refine ⟨(by first | exact rfl | exact congrArg (Value.int _) (by omega) | exact congrArg (Value.int _) (by dsimp only; omega) | exact congrArg (Value.int _) (by simp) | exact congrArg S (by simp)), rfl, (by first | assumption | omega | (dsimp only; omega) | (simp; done)), hbb1, hAb1, (by first | assumption | omega | (dsimp only; omega) | (simp; done)), hV⟩
 ·rintro k g w4 ⟨hj5, hj6, hk_k, hbb1, hAb1, hzl3, hV⟩
  have hs_w4hV := hV.size
  have hlt7 := hbb1.lt
  replace hl := hl0 _ hV
  refine r_know (i := 9) (v := .int .i64 (k : Nat)) (by exact hj5) ?_
  refine r_know (i := 5) (v := .int .i64 (timesC (l.take k) x)) (by exact hj6) ?_
  refine r_seq ?_
  refine r_region ?_
  refine r_op rfl rfl rfl (run_lss rfl (by exact rfl) (by exact rfl)) ?_
  refine r_nil ?_
  refine r_seq ?_
  refine r_cond (by exact rfl) (fun hc8 => ?_) (fun hc8 => ?_)
  ·skip
   refine r_skip ?_
   refine r_seq ?_
   refine r_block ?_
   refine r_seq ?_
   refine r_region ?_
   refine r_op rfl rfl rfl (run_mv (v := .int _ _) rfl (by exact rfl)) ?_
   refine r_op rfl rfl rfl (run_asg (v := .int _ _) rfl (by exact rfl)) ?_
   refine r_nil ?_
   refine r_seq ?_
   refine r_qregion (by kernel_rfl) (by kernel_rfl) ?_
   refine q_op rfl rfl rfl (fun w' hC => run_mv (v := .slice _ _ _) rfl (by exact rfl)) ?_
   refine q_op rfl rfl rfl (fun w' hC => run_mv (v := .int _ _) rfl (by exact rfl)) ?_
   refine q_op rfl rfl rfl (fun w' hC => run_ix (k) rfl Tryz.underlying23 ty_43 (by exact rfl) (by exact rfl) (by first | exact rfl | omega) (by omega) (hl.addr (i := k) (by omega))) ?_
   have hA90 := fun (w' : World) (h : Evo w0 w' []) => (hl0 w' h).atD (k) (by omega)
   have hA9 := hA90 _ hV
   refine q_op rfl rfl rfl (fun w' hC => run_ldN rfl ag_43 ty_43 (by exact rfl) rfl (hA9.evo0 hC)) ?_
   refine q_op rfl rfl rfl (fun w' hC => run_ldN rfl ag_43 ty_43 (by exact rfl) rfl (hAb1.evo0 hC)) ?_
   refine q_call rfl rfl rfl (fun w' hC => run_callf rfl (argcons (v := .agg _) (by exact rfl) (argcons (v := .agg _) (by exact rfl) (rfl))) Tryz.func100 rfl (by kernel_rfl)) (fun w' hC => (rsame_calls ).mono (fun e w'' h => ⟨h.1, evo_step0 hC h.2⟩)) ?_
   refine q_nil (fun w10 hE11 => ?_)
   have hs_w10 := (hE11).size
   replace hV := evo_step0 hV hE11
   replace hl := hl0 _ hV
   replace hbb1 := hbb1.evo0 hE11
   replace hAb1 := hAb1.evo0 hE11
   refine r_cond (by exact rfl) (fun hc12 => ?_) (fun hc12 => ?_)
   ·skip
    have htb := timesC_bd (l.take k) x; have htl := List.length_take_le k l
    refine r_region ?_
    refine r_op rfl rfl rfl (run_mv (v := .int _ _) rfl (by exact rfl)) ?_
    refine r_op rfl rfl rfl (run_add rfl (by exact rfl) (by exact rfl) (by omega) (by omega)) ?_
    refine r_op rfl rfl rfl (run_asg (v := .int _ _) rfl (by exact rfl)) ?_
    refine r_nil ?_
    refine r_blk ?_
    refine r_region ?_
    refine r_op rfl rfl rfl (run_add rfl (by exact rfl) (by exact rfl) (by omega) (by omega)) ?_
    refine r_op rfl rfl rfl (run_mv (v := .int _ _) rfl (by exact rfl)) ?_
    refine r_nil ?_
    refine r_again (k + 1) ?_ ?_ ?_
    ·first | omega | (dsimp only; omega)
    ·refine ⟨(by first | exact rfl | exact congrArg (Value.int _) (by omega) | exact congrArg (Value.int _) (by dsimp only; omega) | exact congrArg (Value.int _) (by simp) | exact congrArg S (by simp)), (congrArg (Value.int _) (by first | exact timesC_yes (by omega) hc12 | exact timesC_no (by omega) hc12)), (by first | assumption | omega | (dsimp only; omega) | (simp; done)), hbb1, hAb1, (by first | assumption | omega | (dsimp only; omega) | (simp; done)), hV⟩
    ·repeat (first | (with_reducible exact Agree.merge _ _ _) | (with_reducible exact Agree.refl _ _) | (with_reducible refine Agree.upd ?_ _ _ rfl) | ((with_reducible refine Agree.inner ?_ ?_); (kernel_rfl)))
   ·skip
    refine r_skip ?_
    refine r_blk ?_
    refine r_region ?_
    refine r_op rfl rfl rfl (run_add rfl (by exact rfl) (by exact rfl) (by omega) (by omega)) ?_
    refine r_op rfl rfl rfl (run_mv (v := .int _ _) rfl (by exact rfl)) ?_
    refine r_nil ?_
    refine r_again (k + 1) ?_ ?_ ?_
    ·first | omega | (dsimp only; omega)
    ·refine ⟨(by first | exact rfl | exact congrArg (Value.int _) (by omega) | exact congrArg (Value.int _) (by dsimp only; omega) | exact congrArg (Value.int _) (by simp) | exact congrArg S (by simp)), (congrArg (Value.int _) (by first | exact timesC_yes (by omega) hc12 | exact timesC_no (by omega) hc12)), (by first | assumption | omega | (dsimp only; omega) | (simp; done)), hbb1, hAb1, (by first | assumption | omega | (dsimp only; omega) | (simp; done)), hV⟩
    ·repeat (first | (with_reducible exact Agree.merge _ _ _) | (with_reducible exact Agree.refl _ _) | (with_reducible refine Agree.upd ?_ _ _ rfl) | ((with_reducible refine Agree.inner ?_ ?_); (kernel_rfl)))
  ·skip
   refine r_exit rfl ?_
   refine r_seq ?_
   refine r_region ?_
   refine r_op rfl rfl rfl (run_mv (v := .int _ _) rfl (by exact rfl)) ?_
   refine r_op rfl rfl rfl (run_asg (v := .int _ _) rfl (by exact rfl)) ?_
   refine r_nil ?_
   refine r_ret (res1 (v := .int _ _) rfl (by exact rfl)) ?_
   exact ⟨ret_int (by rw [List.take_of_length_le (by omega)]), hV⟩
set_option maxHeartbeats 1000000 in
theorem rextra_calls {aoa aob : Option Addr} {ba offa capa bb offb capb : Nat} {a b : List Vc.Item} {w0 : World} (ha : RowE w0 aoa ba offa capa a) (hb : RowE w0 aob bb offb capb b) (hqa : ∀ x ∈ a, x.text.length ≤ 140737488355328) (hqb : ∀ x ∈ b, x.text.length ≤ 140737488355328) (hsa : a.length ≤ 1000000) (hsb : b.length ≤ 1000000) :
    Calls Tryz.prog 73 #[.slice aoa a.length capa, .slice aob b.length capb] w0 fun e w' => e = .returned (.int .i64 (upL a b)) ∧ Evo w0 w' [] := by
 refine calls_enter (n := 55) (args := [.slice aoa a.length capa, .slice aob b.length capb]) Tryz.func73 rfl Tryz.ntmps73 rfl ?_
 have hV : Evo w0 w0 [] := Evo.refl _ _
 have ha0 := keepE ha
 have hbd_ha := ha.bd
 have hb0 := keepE hb
 have hbd_hb := hb.bd
 refine r_seq ?_
 refine r_region ?_
 refine r_op rfl rfl rfl (run_asg (v := .int _ _) rfl (by exact rfl)) ?_
 refine r_nil ?_
 refine r_seq ?_
 refine r_region ?_
 refine r_op rfl rfl rfl (run_asg (v := .int _ _) rfl (by exact rfl)) ?_
 refine r_nil ?_
 refine r_seq ?_
 refine r_seq ?_
 refine r_region ?_
 refine r_op rfl rfl rfl (run_mv (v := .slice _ _ _) rfl (by exact rfl)) ?_
 refine r_op rfl rfl rfl (run_lenSl rfl (by exact rfl) Tryz.underlying23) ?_
 refine r_op rfl rfl rfl (run_mv (v := .int _ _) rfl (by exact rfl)) ?_
 refine r_nil ?_
 refine r_block ?_
 refine r_loop (α := Nat) [5, 6, 7, 8, 9, 10, 11, 14, 15, 16, 17, 18, 19, 20, 21, 22, 23, 24, 25, 26, 27, 28, 29, 30, 31, 32, 33, 34, 35, 36, 37, 38, 39, 40, 41, 42, 43, 44, 45, 46, 47, 48, 49, 50, 51, 52, 53] (fun i g w => g 14 = .int .i64 (i : Nat) ∧ g 5 = .int .i64 (exK a b i) ∧ i ≤ a.length ∧ w0.heap.size ≤ w.heap.size ∧ Evo w0 w []) (fun i => a.length - i) 0 ?_ ?_
 ·refine ⟨(by first | exact rfl | exact congrArg (Value.int _) (by omega) | exact congrArg (Value.int _) (by dsimp only; omega) | exact congrArg (Value.int _) (by simp) | exact congrArg S (by simp)), (congrArg (Value.int _) (exK_zero a b).symm), (by first | assumption | omega | (dsimp only; omega) | (simp; done)), (by first | assumption | omega | (dsimp only; omega) | (simp; done)), hV⟩
 ·rintro i g w2 ⟨hj3, hj4, hk_i, hzl1, hV⟩
  have hs_w2hV := hV.size
  replace ha := ha0 _ hV
  replace hb := hb0 _ hV
  refine r_know (i := 14) (v := .int .i64 (i : Nat)) (by exact hj3) ?_
  refine r_know (i := 5) (v := .int .i64 (exK a b i)) (by exact hj4) ?_
  refine r_seq ?_
  refine r_region ?_
  refine r_op rfl rfl rfl (run_lss rfl (by exact rfl) (by exact rfl)) ?_
  refine r_nil ?_
  refine r_seq ?_
  refine r_cond (by exact rfl) (fun hc5 => ?_) (fun hc5 => ?_)
  ·skip
   refine r_skip ?_
   refine r_seq ?_
   refine r_block ?_
   refine r_seq ?_
   refine r_region ?_
   refine r_op rfl rfl rfl (run_mv (v := .int _ _) rfl (by exact rfl)) ?_
   refine r_op rfl rfl rfl (run_ix (i) rfl Tryz.underlying23 ty_43 (by exact rfl) (by exact rfl) (by first | exact rfl | omega) (by omega) (ha.addr (i := i) (by omega))) ?_
   have hA60 := fun (w' : World) (h : Evo w0 w' []) => (ha0 w' h).atD (i) (by omega)
   have hA6 := hA60 _ hV
   refine r_op rfl rfl rfl (run_ldN rfl ag_43 ty_43 (by exact rfl) rfl hA6) ?_
   refine r_alloc (zs := [_, _, _]) ty_43 (by exact rfl) rfl ?_
   intro b7 w8 heb7 hEw8 hbb7 hzb7
   have hs_w8 := (hEw8).size
   replace hV := evo_step0 hV hEw8
   replace ha := ha0 _ hV
   replace hb := hb0 _ hV
   replace hA6 := hA60 _ hV
   have hAb7 := hbb7.at
   refine r_op rfl rfl rfl (run_asg (v := .int _ _) rfl (by exact rfl)) ?_
   refine r_store (v := .agg _) (vs := [_, _, _]) (cs' := [_, _, _]) (by exact rfl) (by exact rfl) hbb7 ty_43 (by exact rfl) rfl (by exact rfl) rfl (by exact rfl) ?_
   intro w9 hEw9 hzw9 hb_new
   have hs_w9 := (hEw9).size
   replace hV := evo_step1 hV hEw9 (by first | exact .inl (by omega) | exact .inr (by simp))
   replace ha := ha0 _ hV
   replace hb := hb0 _ hV
   replace hbb7 := hb_new
   have hAb7 := hbb7.at
   clear hb_new
   refine r_nil ?_
   refine r_seq ?_
   refine r_region ?_
   refine r_op rfl rfl rfl (run_asg (v := .int _ _) rfl (by exact rfl)) ?_
   refine r_op rfl rfl rfl (run_asg (v := .int _ _) rfl (by exact rfl)) ?_
   refine r_nil ?_
   refine r_seq ?_
   refine r_seq ?_
   refine r_region ?_
   refine r_op rfl rfl rfl (run_asg (v := .int _ _) rfl (by exact rfl)) ?_
   refine r_nil ?_
   refine r_block ?_
   refine r_loop (α := Nat) [8, 10, 19, 20, 21, 22, 23, 24, 25, 26, 27, 28, 29, 30, 31] (fun k g w => g 10 = .int .i64 (k : Nat) ∧ g 8 = .int .i64 (likeC (a.take k) (a.getD i default)) ∧ Blk w b7 43 (Enc.enc (a.getD i default)) ∧ At w b7 0 (Enc.enc (a.getD i default)) ∧ k ≤ i + 1 ∧ w9.heap.size ≤ w.heap.size ∧ Evo w0 w []) (fun k => i + 1 - k) 0 ?_ ?_
   ·refine ⟨rfl, rfl, hbb7, hAb7, (by first | assumption | omega | (dsimp only; omega) | (simp; done)), (by first | assumption | omega | (dsimp only; omega) | (simp; done)), hV⟩
   ·rintro k g w11 ⟨hj12, hj13, hbb7, hAb7, hk, hzl10, hV⟩
    have hs_w11hV := hV.size
    have hlt14 := hbb7.lt
    replace ha := ha0 _ hV
    replace hb := hb0 _ hV
    replace hA6 := hA60 _ hV
    refine r_know (i := 10) (v := .int .i64 (k : Nat)) (by exact hj12) ?_
    refine r_know (i := 8) (v := .int .i64 (likeC (a.take k) (a.getD i default))) (by exact hj13) ?_
    refine r_seq ?_
    refine r_seq ?_
    refine r_region ?_
    refine r_op rfl rfl rfl (run_mv (v := .int _ _) rfl (by exact rfl)) ?_
    refine r_op rfl rfl rfl (run_mv (v := .int _ _) rfl (by exact rfl)) ?_
    refine r_op rfl rfl rfl (run_leq rfl (by exact rfl) (by exact rfl)) ?_
    refine r_nil ?_
    refine r_cond (by exact rfl) (fun hc15 => ?_) (fun hc15 => ?_)
    ·skip
     refine r_skip ?_
     refine r_seq ?_
     refine r_block ?_
     refine r_seq ?_
     refine r_qregion (by kernel_rfl) (by kernel_rfl) ?_
     refine q_op rfl rfl rfl (fun w' hC => run_mv (v := .slice _ _ _) rfl (by exact rfl)) ?_
     refine q_op rfl rfl rfl (fun w' hC => run_mv (v := .int _ _) rfl (by exact rfl)) ?_
     refine q_op rfl rfl rfl (fun w' hC => run_ix (k) rfl Tryz.underlying23 ty_43 (by exact rfl) (by exact rfl) (by first | exact rfl | omega) (by omega) (ha.addr (i := k) (by omega))) ?_
     have hA160 := fun (w' : World) (h : Evo w0 w' []) => (ha0 w' h).atD (k) (by omega)
     have hA16 := hA160 _ hV
     refine q_op rfl rfl rfl (fun w' hC => run_ldN rfl ag_43 ty_43 (by exact rfl) rfl (hA16.evo0 hC)) ?_
     refine q_op rfl rfl rfl (fun w' hC => run_ldN rfl ag_43 ty_43 (by exact rfl) rfl (hAb7.evo0 hC)) ?_
     refine q_call rfl rfl rfl (fun w' hC => run_callf rfl (argcons (v := .agg _) (by exact rfl) (argcons (v := .agg _) (by exact rfl) (rfl))) Tryz.func88 rfl (by kernel_rfl)) (fun w' hC => (rlike_calls (x := (a.getD k default)) (y := (a.getD i default)) (hqa _ (getD_in (show k < a.length by omega))) (hqa _ (getD_in (show i < a.length by omega)))).mono (fun e w'' h => ⟨h.1, evo_step0 hC h.2⟩)) ?_
     refine q_nil (fun w17 hE18 => ?_)
     have hs_w17 := (hE18).size
     replace hV := evo_step0 hV hE18
     replace ha := ha0 _ hV
     replace hb := hb0 _ hV
     replace hbb7 := hbb7.evo0 hE18
     replace hAb7 := hAb7.evo0 hE18
     refine r_cond (by exact rfl) (fun hc19 => ?_) (fun hc19 => ?_)
     ·skip
      have hlb := likeC_bd (a.take k) (a.getD i default); have hlt := List.length_take_le k a
      refine r_region ?_
      refine r_op rfl rfl rfl (run_mv (v := .int _ _) rfl (by exact rfl)) ?_
      refine r_op rfl rfl rfl (run_add rfl (by exact rfl) (by exact rfl) (by omega) (by omega)) ?_
      refine r_op rfl rfl rfl (run_asg (v := .int _ _) rfl (by exact rfl)) ?_
      refine r_nil ?_
      refine r_blk ?_
      refine r_region ?_
      refine r_op rfl rfl rfl (run_mv (v := .int _ _) rfl (by exact rfl)) ?_
      refine r_op rfl rfl rfl (run_add rfl (by exact rfl) (by exact rfl) (by omega) (by omega)) ?_
      refine r_op rfl rfl rfl (run_asg (v := .int _ _) rfl (by exact rfl)) ?_
      refine r_nil ?_
      refine r_again (k + 1) ?_ ?_ ?_
      ·first | omega | (dsimp only; omega)
      ·refine ⟨(congrArg (Value.int _) (by omega)), (congrArg (Value.int _) (by first | exact likeC_yes (by omega) hc19 | exact likeC_no (by omega) hc19)), hbb7, hAb7, (by first | assumption | omega | (dsimp only; omega) | (simp; done)), (by first | assumption | omega | (dsimp only; omega) | (simp; done)), hV⟩
      ·repeat (first | (with_reducible exact Agree.merge _ _ _) | (with_reducible exact Agree.refl _ _) | (with_reducible refine Agree.upd ?_ _ _ rfl) | ((with_reducible refine Agree.inner ?_ ?_); (kernel_rfl)))
     ·skip
      refine r_skip ?_
      refine r_blk ?_
      refine r_region ?_
      refine r_op rfl rfl rfl (run_mv (v := .int _ _) rfl (by exact rfl)) ?_
      refine r_op rfl rfl rfl (run_add rfl (by exact rfl) (by exact rfl) (by omega) (by omega)) ?_
      refine r_op rfl rfl rfl (run_asg (v := .int _ _) rfl (by exact rfl)) ?_
      refine r_nil ?_
      refine r_again (k + 1) ?_ ?_ ?_
      ·first | omega | (dsimp only; omega)
      ·refine ⟨(congrArg (Value.int _) (by omega)), (congrArg (Value.int _) (by first | exact likeC_yes (by omega) hc19 | exact likeC_no (by omega) hc19)), hbb7, hAb7, (by first | assumption | omega | (dsimp only; omega) | (simp; done)), (by first | assumption | omega | (dsimp only; omega) | (simp; done)), hV⟩
      ·repeat (first | (with_reducible exact Agree.merge _ _ _) | (with_reducible exact Agree.refl _ _) | (with_reducible refine Agree.upd ?_ _ _ rfl) | ((with_reducible refine Agree.inner ?_ ?_); (kernel_rfl)))
    ·skip
     refine r_exit rfl ?_
     refine r_seq ?_
     refine r_seq ?_
     refine r_region ?_
     refine r_op rfl rfl rfl (run_mv (v := .slice _ _ _) rfl (by exact rfl)) ?_
     refine r_op rfl rfl rfl (run_lenSl rfl (by exact rfl) Tryz.underlying23) ?_
     refine r_op rfl rfl rfl (run_mv (v := .int _ _) rfl (by exact rfl)) ?_
     refine r_nil ?_
     refine r_block ?_
     refine r_loop (α := Nat) [9, 11, 34, 35, 36, 37, 38, 39, 40, 41, 42, 43, 44, 45] (fun q g w => g 34 = .int .i64 (q : Nat) ∧ g 9 = .int .i64 (likeC (b.take q) (a.getD i default)) ∧ q ≤ b.length ∧ Blk w b7 43 (Enc.enc (a.getD i default)) ∧ At w b7 0 (Enc.enc (a.getD i default)) ∧ w11.heap.size ≤ w.heap.size ∧ Evo w0 w []) (fun q => b.length - q) 0 ?_ ?_
     ·refine ⟨(by first | exact rfl | exact congrArg (Value.int _) (by omega) | exact congrArg (Value.int _) (by dsimp only; omega) | exact congrArg (Value.int _) (by simp) | exact congrArg S (by simp)), rfl, (by first | assumption | omega | (dsimp only; omega) | (simp; done)), hbb7, hAb7, (by first | assumption | omega | (dsimp only; omega) | (simp; done)), hV⟩
     ·rintro q g w21 ⟨hj22, hj23, hk_q, hbb7, hAb7, hzl20, hV⟩
      have hs_w21hV := hV.size
      have hlt24 := hbb7.lt
      replace ha := ha0 _ hV
      replace hb := hb0 _ hV
      replace hA6 := hA60 _ hV
      refine r_know (i := 34) (v := .int .i64 (q : Nat)) (by exact hj22) ?_
      refine r_know (i := 9) (v := .int .i64 (likeC (b.take q) (a.getD i default))) (by exact hj23) ?_
      refine r_seq ?_
      refine r_region ?_
      refine r_op rfl rfl rfl (run_lss rfl (by exact rfl) (by exact rfl)) ?_
      refine r_nil ?_
      refine r_seq ?_
      refine r_cond (by exact rfl) (fun hc25 => ?_) (fun hc25 => ?_)
      ·skip
       refine r_skip ?_
       refine r_seq ?_
       refine r_block ?_
       refine r_seq ?_
       refine r_region ?_
       refine r_op rfl rfl rfl (run_mv (v := .int _ _) rfl (by exact rfl)) ?_
       refine r_op rfl rfl rfl (run_asg (v := .int _ _) rfl (by exact rfl)) ?_
       refine r_nil ?_
       refine r_seq ?_
       refine r_qregion (by kernel_rfl) (by kernel_rfl) ?_
       refine q_op rfl rfl rfl (fun w' hC => run_mv (v := .slice _ _ _) rfl (by exact rfl)) ?_
       refine q_op rfl rfl rfl (fun w' hC => run_mv (v := .int _ _) rfl (by exact rfl)) ?_
       refine q_op rfl rfl rfl (fun w' hC => run_ix (q) rfl Tryz.underlying23 ty_43 (by exact rfl) (by exact rfl) (by first | exact rfl | omega) (by omega) (hb.addr (i := q) (by omega))) ?_
       have hA260 := fun (w' : World) (h : Evo w0 w' []) => (hb0 w' h).atD (q) (by omega)
       have hA26 := hA260 _ hV
       refine q_op rfl rfl rfl (fun w' hC => run_ldN rfl ag_43 ty_43 (by exact rfl) rfl (hA26.evo0 hC)) ?_
       refine q_op rfl rfl rfl (fun w' hC => run_ldN rfl ag_43 ty_43 (by exact rfl) rfl (hAb7.evo0 hC)) ?_
       refine q_call rfl rfl rfl (fun w' hC => run_callf rfl (argcons (v := .agg _) (by exact rfl) (argcons (v := .agg _) (by exact rfl) (rfl))) Tryz.func88 rfl (by kernel_rfl)) (fun w' hC => (rlike_calls (x := (b.getD q default)) (y := (a.getD i default)) (hqb _ (getD_in (show q < b.length by omega))) (hqa _ (getD_in (show i < a.length by omega)))).mono (fun e w'' h => ⟨h.1, evo_step0 hC h.2⟩)) ?_
       refine q_nil (fun w27 hE28 => ?_)
       have hs_w27 := (hE28).size
       replace hV := evo_step0 hV hE28
       replace ha := ha0 _ hV
       replace hb := hb0 _ hV
       replace hbb7 := hbb7.evo0 hE28
       replace hAb7 := hAb7.evo0 hE28
       refine r_cond (by exact rfl) (fun hc29 => ?_) (fun hc29 => ?_)
       ·skip
        have hlb := likeC_bd (b.take q) (a.getD i default); have hlt := List.length_take_le q b
        refine r_region ?_
        refine r_op rfl rfl rfl (run_mv (v := .int _ _) rfl (by exact rfl)) ?_
        refine r_op rfl rfl rfl (run_add rfl (by exact rfl) (by exact rfl) (by omega) (by omega)) ?_
        refine r_op rfl rfl rfl (run_asg (v := .int _ _) rfl (by exact rfl)) ?_
        refine r_nil ?_
        refine r_blk ?_
        refine r_region ?_
        refine r_op rfl rfl rfl (run_add rfl (by exact rfl) (by exact rfl) (by omega) (by omega)) ?_
        refine r_op rfl rfl rfl (run_mv (v := .int _ _) rfl (by exact rfl)) ?_
        refine r_nil ?_
        refine r_again (q + 1) ?_ ?_ ?_
        ·first | omega | (dsimp only; omega)
        ·refine ⟨(by first | exact rfl | exact congrArg (Value.int _) (by omega) | exact congrArg (Value.int _) (by dsimp only; omega) | exact congrArg (Value.int _) (by simp) | exact congrArg S (by simp)), (congrArg (Value.int _) (by first | exact likeC_yes (by omega) hc29 | exact likeC_no (by omega) hc29)), (by first | assumption | omega | (dsimp only; omega) | (simp; done)), hbb7, hAb7, (by first | assumption | omega | (dsimp only; omega) | (simp; done)), hV⟩
        ·repeat (first | (with_reducible exact Agree.merge _ _ _) | (with_reducible exact Agree.refl _ _) | (with_reducible refine Agree.upd ?_ _ _ rfl) | ((with_reducible refine Agree.inner ?_ ?_); (kernel_rfl)))
       ·skip
        refine r_skip ?_
        refine r_blk ?_
        refine r_region ?_
        refine r_op rfl rfl rfl (run_add rfl (by exact rfl) (by exact rfl) (by omega) (by omega)) ?_
        refine r_op rfl rfl rfl (run_mv (v := .int _ _) rfl (by exact rfl)) ?_
        refine r_nil ?_
        refine r_again (q + 1) ?_ ?_ ?_
        ·first | omega | (dsimp only; omega)
        ·refine ⟨(by first | exact rfl | exact congrArg (Value.int _) (by omega) | exact congrArg (Value.int _) (by dsimp only; omega) | exact congrArg (Value.int _) (by simp) | exact congrArg S (by simp)), (congrArg (Value.int _) (by first | exact likeC_yes (by omega) hc29 | exact likeC_no (by omega) hc29)), (by first | assumption | omega | (dsimp only; omega) | (simp; done)), hbb7, hAb7, (by first | assumption | omega | (dsimp only; omega) | (simp; done)), hV⟩
        ·repeat (first | (with_reducible exact Agree.merge _ _ _) | (with_reducible exact Agree.refl _ _) | (with_reducible refine Agree.upd ?_ _ _ rfl) | ((with_reducible refine Agree.inner ?_ ?_); (kernel_rfl)))
      ·skip
       refine r_exit rfl ?_
       refine r_seq ?_
       obtain rfl : k = i + 1 := by omega
       have hxb := exK_bd a b i (by omega) (by omega)
       have hwk := wK_bd (a.getD i default).kind
       obtain rfl : q = b.length := by omega
       have hbt : b.take b.length = b := List.take_of_length_le (Nat.le_refl _)
       refine r_region ?_
       refine r_op rfl rfl rfl (run_mv (v := .int _ _) rfl (by exact rfl)) ?_
       refine r_op rfl rfl rfl (run_mv (v := .int _ _) rfl (by exact rfl)) ?_
       refine r_op rfl rfl rfl (run_gtr rfl (by exact rfl) (by exact rfl)) ?_
       refine r_nil ?_
       refine r_cond (by exact rfl) (fun hc30 => ?_) (fun hc30 => ?_)
       ·skip
        have hcx := hc30
        refine r_region ?_
        refine r_op rfl rfl rfl (run_mv (v := .int _ _) rfl (by exact rfl)) ?_
        refine r_op rfl rfl rfl (run_ldN rfl ag_43 ty_43 (by exact rfl) rfl hAb7) ?_
        refine r_opcall rfl rfl rfl (run_callf (vs := [.agg _]) rfl (by exact rfl) Tryz.func75 rfl (by kernel_rfl)) (rweight_calls (x := (a.getD i default))) ?_
        rintro e w31 ⟨rfl, hE31⟩
        refine ⟨_, rfl, ?_⟩
        have hs_w31 := (hE31).size
        replace hV := evo_step0 hV hE31
        replace ha := ha0 _ hV
        replace hb := hb0 _ hV
        refine r_op rfl rfl rfl (run_add rfl (by exact rfl) (by exact rfl) (by omega) (by omega)) ?_
        refine r_op rfl rfl rfl (run_asg (v := .int _ _) rfl (by exact rfl)) ?_
        refine r_nil ?_
        refine r_blk ?_
        refine r_region ?_
        refine r_op rfl rfl rfl (run_add rfl (by exact rfl) (by exact rfl) (by omega) (by omega)) ?_
        refine r_op rfl rfl rfl (run_mv (v := .int _ _) rfl (by exact rfl)) ?_
        refine r_nil ?_
        refine r_again (i + 1) ?_ ?_ ?_
        ·first | omega | (dsimp only; omega)
        ·refine ⟨(by first | exact rfl | exact congrArg (Value.int _) (by omega) | exact congrArg (Value.int _) (by dsimp only; omega) | exact congrArg (Value.int _) (by simp) | exact congrArg S (by simp)), (congrArg (Value.int _) (by rw [hbt] at hcx; first | exact exK_yes (by omega) hcx | exact exK_no (by omega) hcx)), (by first | assumption | omega | (dsimp only; omega) | (simp; done)), (by first | assumption | omega | (dsimp only; omega) | (simp; done)), hV⟩
        ·repeat (first | (with_reducible exact Agree.merge _ _ _) | (with_reducible exact Agree.refl _ _) | (with_reducible refine Agree.upd ?_ _ _ rfl) | ((with_reducible refine Agree.inner ?_ ?_); (kernel_rfl)))
       ·skip
        have hcx := hc30
        refine r_skip ?_
        refine r_blk ?_
        refine r_region ?_
        refine r_op rfl rfl rfl (run_add rfl (by exact rfl) (by exact rfl) (by omega) (by omega)) ?_
        refine r_op rfl rfl rfl (run_mv (v := .int _ _) rfl (by exact rfl)) ?_
        refine r_nil ?_
        refine r_again (i + 1) ?_ ?_ ?_
        ·first | omega | (dsimp only; omega)
        ·refine ⟨(by first | exact rfl | exact congrArg (Value.int _) (by omega) | exact congrArg (Value.int _) (by dsimp only; omega) | exact congrArg (Value.int _) (by simp) | exact congrArg S (by simp)), (congrArg (Value.int _) (by rw [hbt] at hcx; first | exact exK_yes (by omega) hcx | exact exK_no (by omega) hcx)), (by first | assumption | omega | (dsimp only; omega) | (simp; done)), (by first | assumption | omega | (dsimp only; omega) | (simp; done)), hV⟩
        ·repeat (first | (with_reducible exact Agree.merge _ _ _) | (with_reducible exact Agree.refl _ _) | (with_reducible refine Agree.upd ?_ _ _ rfl) | ((with_reducible refine Agree.inner ?_ ?_); (kernel_rfl)))
  ·skip
   refine r_exit rfl ?_
   refine r_seq ?_
   refine r_region ?_
   refine r_op rfl rfl rfl (run_mv (v := .int _ _) rfl (by exact rfl)) ?_
   refine r_op rfl rfl rfl (run_asg (v := .int _ _) rfl (by exact rfl)) ?_
   refine r_nil ?_
   refine r_ret (res1 (v := .int _ _) rfl (by exact rfl)) ?_
   exact ⟨ret_int (exK_end (by omega)), hV⟩
set_option maxHeartbeats 1000000 in
theorem rsurplus_calls {aoa aob : Option Addr} {ba offa capa bb offb capb : Nat} {a b : List Vc.Item} {w0 : World} (ha : RowE w0 aoa ba offa capa a) (hb : RowE w0 aob bb offb capb b) (hza : a.length ≤ 1000000) (hzb : b.length ≤ 1000000) :
    Calls Tryz.prog 74 #[.slice aoa a.length capa, .slice aob b.length capb] w0 fun e w' => e = .returned (.int .i64 (surL a b)) ∧ Evo w0 w' [] := by
 refine calls_enter (n := 72) (args := [.slice aoa a.length capa, .slice aob b.length capb]) Tryz.func74 rfl Tryz.ntmps74 rfl ?_
 have hV : Evo w0 w0 [] := Evo.refl _ _
 have ha0 := keepE ha
 have hbd_ha := ha.bd
 have hb0 := keepE hb
 have hbd_hb := hb.bd
 refine r_seq ?_
 refine r_region ?_
 refine r_op rfl rfl rfl (run_asg (v := .int _ _) rfl (by exact rfl)) ?_
 refine r_nil ?_
 refine r_seq ?_
 refine r_region ?_
 refine r_op rfl rfl rfl (run_asg (v := .int _ _) rfl (by exact rfl)) ?_
 refine r_nil ?_
 refine r_seq ?_
 refine r_seq ?_
 refine r_region ?_
 refine r_op rfl rfl rfl (run_mv (v := .slice _ _ _) rfl (by exact rfl)) ?_
 refine r_op rfl rfl rfl (run_lenSl rfl (by exact rfl) Tryz.underlying23) ?_
 refine r_op rfl rfl rfl (run_mv (v := .int _ _) rfl (by exact rfl)) ?_
 refine r_nil ?_
 refine r_block ?_
 refine r_loop (α := Nat) [5, 6, 7, 8, 13, 14, 15, 16, 17, 18, 19, 20, 21, 22, 23, 24, 25, 26, 27, 28, 29, 30, 31, 32, 33, 34, 35, 36, 37, 38, 39, 40, 41] (fun i g w => g 13 = .int .i64 (i : Nat) ∧ g 5 = .int .i64 (suK a b (a.take i)) ∧ i ≤ a.length ∧ w0.heap.size ≤ w.heap.size ∧ Evo w0 w []) (fun i => a.length - i) 0 ?_ ?_
 ·refine ⟨(by first | exact rfl | exact congrArg (Value.int _) (by omega) | exact congrArg (Value.int _) (by dsimp only; omega) | exact congrArg (Value.int _) (by simp) | exact congrArg S (by simp)), (congrArg (Value.int _) (suK_nil a b).symm), (by first | assumption | omega | (dsimp only; omega) | (simp; done)), (by first | assumption | omega | (dsimp only; omega) | (simp; done)), hV⟩
 ·rintro i g w2 ⟨hj3, hj4, hk_i, hzl1, hV⟩
  have hs_w2hV := hV.size
  replace ha := ha0 _ hV
  replace hb := hb0 _ hV
  refine r_know (i := 13) (v := .int .i64 (i : Nat)) (by exact hj3) ?_
  refine r_know (i := 5) (v := .int .i64 (suK a b (a.take i))) (by exact hj4) ?_
  refine r_seq ?_
  refine r_region ?_
  refine r_op rfl rfl rfl (run_lss rfl (by exact rfl) (by exact rfl)) ?_
  refine r_nil ?_
  refine r_seq ?_
  refine r_cond (by exact rfl) (fun hc5 => ?_) (fun hc5 => ?_)
  ·skip
   refine r_skip ?_
   refine r_seq ?_
   refine r_block ?_
   refine r_seq ?_
   refine r_region ?_
   refine r_op rfl rfl rfl (run_mv (v := .int _ _) rfl (by exact rfl)) ?_
   refine r_op rfl rfl rfl (run_ix (i) rfl Tryz.underlying23 ty_43 (by exact rfl) (by exact rfl) (by first | exact rfl | omega) (by omega) (ha.addr (i := i) (by omega))) ?_
   have hA60 := fun (w' : World) (h : Evo w0 w' []) => (ha0 w' h).atD (i) (by omega)
   have hA6 := hA60 _ hV
   refine r_op rfl rfl rfl (run_ldN rfl ag_43 ty_43 (by exact rfl) rfl hA6) ?_
   refine r_alloc (zs := [_, _, _]) ty_43 (by exact rfl) rfl ?_
   intro b7 w8 heb7 hEw8 hbb7 hzb7
   have hs_w8 := (hEw8).size
   replace hV := evo_step0 hV hEw8
   replace ha := ha0 _ hV
   replace hb := hb0 _ hV
   replace hA6 := hA60 _ hV
   have hAb7 := hbb7.at
   refine r_op rfl rfl rfl (run_asg (v := .int _ _) rfl (by exact rfl)) ?_
   refine r_store (v := .agg _) (vs := [_, _, _]) (cs' := [_, _, _]) (by exact rfl) (by exact rfl) hbb7 ty_43 (by exact rfl) rfl (by exact rfl) rfl (by exact rfl) ?_
   intro w9 hEw9 hzw9 hb_new
   have hs_w9 := (hEw9).size
   replace hV := evo_step1 hV hEw9 (by first | exact .inl (by omega) | exact .inr (by simp))
   replace ha := ha0 _ hV
   replace hb := hb0 _ hV
   replace hbb7 := hb_new
   have hAb7 := hbb7.at
   clear hb_new
   refine r_nil ?_
   refine r_seq ?_
   have hki := List.length_take_of_le (show i ≤ a.length by omega); have hsb := suK_bd a b (a.take i) (by omega) (by omega) (by omega); have ht1 := timesC_bd a (a.getD i default); have ht2 := timesC_bd b (a.getD i default)
   refine r_qregion (by kernel_rfl) (by kernel_rfl) ?_
   refine q_op rfl rfl rfl (fun w' hC => run_ldN rfl ag_43 ty_43 (by exact rfl) rfl (hAb7.evo0 hC)) ?_
   refine q_call rfl rfl rfl (fun w' hC => run_callf rfl (argcons (v := .agg _) (by exact rfl) (rfl)) Tryz.func89 rfl (by kernel_rfl)) (fun w' hC => (sristag_calls (x := (a.getD i default))).mono (fun e w'' h => ⟨h.1, evo_step0 hC h.2⟩)) ?_
   refine q_op rfl rfl rfl (fun w' hC => run_mv (v := .bool _) rfl (by exact rfl)) ?_
   refine q_g rfl (wantT (by exact rfl)) rfl (fun hg w' hC => run_mv (v := .slice _ _ _) rfl (by exact rfl)) ?_
   refine q_g rfl (wantT (by exact rfl)) rfl (fun hg w' hC => run_mv (v := .int _ _) rfl (by exact rfl)) ?_
   refine q_g rfl (wantT (by exact rfl)) rfl (fun hg w' hC => run_slE (0) (i) rfl Tryz.underlying23 ty_43 (glv (by exact rfl) (fun h => h) hg) (ha.evo0 hC) lo0 (at1 (glv (by exact rfl) (fun h => h) hg) (by omega)) (by first | omega | (simp; omega)) (by first | omega | (simp; omega)) List.drop_zero) ?_
   have hS100 := fun (w' : World) (h : Evo w0 w' []) => (by have h9 := ((ha0 w' h).take (i)).drop (0); rw [List.drop_zero] at h9; exact h9)
   have hS10 := (by have h9 := (ha.take (i)).drop (0); rw [List.drop_zero] at h9; exact h9)
   have hbd_hS10 := hS10.bd
   refine q_g rfl (wantT (by exact rfl)) rfl (fun hg w' hC => run_ldN rfl ag_43 ty_43 (by exact rfl) rfl (hAb7.evo0 hC)) ?_
   refine q_gcall rfl (wantT (by exact rfl)) rfl (fun hg w' hC => run_callf rfl (argcons (v := .slice _ _ _) (glv (by exact rfl) (fun h => h) hg) (argcons (v := .agg _) (glv (by exact rfl) (fun h => h) hg) (rfl))) Tryz.func90 rfl (by kernel_rfl)) (fun hg w' hC => (rtimes_calls (x := (a.getD i default)) (hS10.evo0 hC) (by omega)).mono (fun e w'' h => ⟨h.1, evo_step0 hC h.2⟩)) ?_
   refine q_g rfl (wantT (by exact rfl)) rfl (fun hg w' hC => run_eql rfl (glv (by exact rfl) (fun h => h) hg) (by exact rfl)) ?_
   refine q_op rfl rfl rfl (fun w' hC => run_pick_and rfl (by exact rfl) (fun hq => glv (by exact rfl) (fun h => h) hq) rfl) ?_
   refine q_nil (fun w11 hE12 => ?_)
   have hs_w11 := (hE12).size
   replace hV := evo_step0 hV hE12
   replace ha := ha0 _ hV
   replace hb := hb0 _ hV
   replace hbb7 := hbb7.evo0 hE12
   replace hAb7 := hAb7.evo0 hE12
   refine r_cond (by exact rfl) (fun hc13 => ?_) (fun hc13 => ?_)
   ·skip
    refine r_seq ?_
    refine r_qregion (by kernel_rfl) (by kernel_rfl) ?_
    refine q_op rfl rfl rfl (fun w' hC => run_mv (v := .slice _ _ _) rfl (by exact rfl)) ?_
    refine q_op rfl rfl rfl (fun w' hC => run_ldN rfl ag_43 ty_43 (by exact rfl) rfl (hAb7.evo0 hC)) ?_
    refine q_call rfl rfl rfl (fun w' hC => run_callf rfl (argcons (v := .slice _ _ _) (by exact rfl) (argcons (v := .agg _) (by exact rfl) (rfl))) Tryz.func90 rfl (by kernel_rfl)) (fun w' hC => (rtimes_calls (x := (a.getD i default)) (ha.evo0 hC) (by omega)).mono (fun e w'' h => ⟨h.1, evo_step0 hC h.2⟩)) ?_
    refine q_op rfl rfl rfl (fun w' hC => run_mv (v := .slice _ _ _) rfl (by exact rfl)) ?_
    refine q_op rfl rfl rfl (fun w' hC => run_ldN rfl ag_43 ty_43 (by exact rfl) rfl (hAb7.evo0 hC)) ?_
    refine q_call rfl rfl rfl (fun w' hC => run_callf rfl (argcons (v := .slice _ _ _) (by exact rfl) (argcons (v := .agg _) (by exact rfl) (rfl))) Tryz.func90 rfl (by kernel_rfl)) (fun w' hC => (rtimes_calls (x := (a.getD i default)) (hb.evo0 hC) (by omega)).mono (fun e w'' h => ⟨h.1, evo_step0 hC h.2⟩)) ?_
    refine q_op rfl rfl rfl (fun w' hC => run_sub rfl (by exact rfl) (by exact rfl) (by omega) (by omega)) ?_
    refine q_op rfl rfl rfl (fun w' hC => run_asg (v := .int _ _) rfl (by exact rfl)) ?_
    refine q_nil (fun w14 hE15 => ?_)
    have hs_w14 := (hE15).size
    replace hV := evo_step0 hV hE15
    replace ha := ha0 _ hV
    replace hb := hb0 _ hV
    refine r_region ?_
    refine r_op rfl rfl rfl (run_mv (v := .int _ _) rfl (by exact rfl)) ?_
    refine r_op rfl rfl rfl (run_mv (v := .int _ _) rfl (by exact rfl)) ?_
    refine r_op rfl rfl rfl (run_mv (v := .int _ _) rfl (by exact rfl)) ?_
    refine r_op rfl rfl rfl (run_neg rfl (by exact rfl) (by omega) (by omega)) ?_
    refine r_op rfl rfl rfl (run_max rfl (by exact rfl) (by exact rfl)) ?_
    refine r_op rfl rfl rfl (run_add rfl (by exact rfl) (by exact rfl) (by omega) (by omega)) ?_
    refine r_op rfl rfl rfl (run_asg (v := .int _ _) rfl (by exact rfl)) ?_
    refine r_nil ?_
    refine r_blk ?_
    refine r_region ?_
    refine r_op rfl rfl rfl (run_add rfl (by exact rfl) (by exact rfl) (by omega) (by omega)) ?_
    refine r_op rfl rfl rfl (run_mv (v := .int _ _) rfl (by exact rfl)) ?_
    refine r_nil ?_
    refine r_again (i + 1) ?_ ?_ ?_
    ·first | omega | (dsimp only; omega)
    ·refine ⟨(by first | exact rfl | exact congrArg (Value.int _) (by omega) | exact congrArg (Value.int _) (by dsimp only; omega) | exact congrArg (Value.int _) (by simp) | exact congrArg S (by simp)), (congrArg (Value.int _) (by first | exact suA_new (by omega) hc13 | exact suA_skip (by omega) hc13)), (by first | assumption | omega | (dsimp only; omega) | (simp; done)), (by first | assumption | omega | (dsimp only; omega) | (simp; done)), hV⟩
    ·repeat (first | (with_reducible exact Agree.merge _ _ _) | (with_reducible exact Agree.refl _ _) | (with_reducible refine Agree.upd ?_ _ _ rfl) | ((with_reducible refine Agree.inner ?_ ?_); (kernel_rfl)))
   ·skip
    refine r_skip ?_
    refine r_blk ?_
    refine r_region ?_
    refine r_op rfl rfl rfl (run_add rfl (by exact rfl) (by exact rfl) (by omega) (by omega)) ?_
    refine r_op rfl rfl rfl (run_mv (v := .int _ _) rfl (by exact rfl)) ?_
    refine r_nil ?_
    refine r_again (i + 1) ?_ ?_ ?_
    ·first | omega | (dsimp only; omega)
    ·refine ⟨(by first | exact rfl | exact congrArg (Value.int _) (by omega) | exact congrArg (Value.int _) (by dsimp only; omega) | exact congrArg (Value.int _) (by simp) | exact congrArg S (by simp)), (congrArg (Value.int _) (by first | exact suA_new (by omega) hc13 | exact suA_skip (by omega) hc13)), (by first | assumption | omega | (dsimp only; omega) | (simp; done)), (by first | assumption | omega | (dsimp only; omega) | (simp; done)), hV⟩
    ·repeat (first | (with_reducible exact Agree.merge _ _ _) | (with_reducible exact Agree.refl _ _) | (with_reducible refine Agree.upd ?_ _ _ rfl) | ((with_reducible refine Agree.inner ?_ ?_); (kernel_rfl)))
  ·skip
   refine r_exit rfl ?_
   refine r_seq ?_
   refine r_seq ?_
   refine r_region ?_
   refine r_op rfl rfl rfl (run_mv (v := .slice _ _ _) rfl (by exact rfl)) ?_
   refine r_op rfl rfl rfl (run_lenSl rfl (by exact rfl) Tryz.underlying23) ?_
   refine r_op rfl rfl rfl (run_mv (v := .int _ _) rfl (by exact rfl)) ?_
   refine r_nil ?_
   refine r_block ?_
   refine r_loop (α := Nat) [5, 9, 10, 44, 45, 46, 47, 48, 49, 50, 51, 52, 53, 54, 55, 56, 57, 58, 59, 60, 61, 62, 63, 64, 65, 66, 67, 68, 69, 70] (fun q g w => g 44 = .int .i64 (q : Nat) ∧ g 5 = .int .i64 (suK a b (a ++ b.take q)) ∧ q ≤ b.length ∧ w2.heap.size ≤ w.heap.size ∧ Evo w0 w []) (fun q => b.length - q) 0 ?_ ?_
   ·refine ⟨(by first | exact rfl | exact congrArg (Value.int _) (by omega) | exact congrArg (Value.int _) (by dsimp only; omega) | exact congrArg (Value.int _) (by simp) | exact congrArg S (by simp)), (congrArg (Value.int _) (by rw [List.take_of_length_le (by omega), List.take_zero, List.append_nil])), (by first | assumption | omega | (dsimp only; omega) | (simp; done)), (by first | assumption | omega | (dsimp only; omega) | (simp; done)), hV⟩
   ·rintro q g w17 ⟨hj18, hj19, hk_q, hzl16, hV⟩
    have hs_w17hV := hV.size
    replace ha := ha0 _ hV
    replace hb := hb0 _ hV
    refine r_know (i := 44) (v := .int .i64 (q : Nat)) (by exact hj18) ?_
    refine r_know (i := 5) (v := .int .i64 (suK a b (a ++ b.take q))) (by exact hj19) ?_
    refine r_seq ?_
    refine r_region ?_
    refine r_op rfl rfl rfl (run_lss rfl (by exact rfl) (by exact rfl)) ?_
    refine r_nil ?_
    refine r_seq ?_
    refine r_cond (by exact rfl) (fun hc20 => ?_) (fun hc20 => ?_)
    ·skip
     refine r_skip ?_
     refine r_seq ?_
     refine r_block ?_
     refine r_seq ?_
     refine r_region ?_
     refine r_op rfl rfl rfl (run_mv (v := .int _ _) rfl (by exact rfl)) ?_
     refine r_op rfl rfl rfl (run_ix (q) rfl Tryz.underlying23 ty_43 (by exact rfl) (by exact rfl) (by first | exact rfl | omega) (by omega) (hb.addr (i := q) (by omega))) ?_
     have hA210 := fun (w' : World) (h : Evo w0 w' []) => (hb0 w' h).atD (q) (by omega)
     have hA21 := hA210 _ hV
     refine r_op rfl rfl rfl (run_ldN rfl ag_43 ty_43 (by exact rfl) rfl hA21) ?_
     refine r_alloc (zs := [_, _, _]) ty_43 (by exact rfl) rfl ?_
     intro b22 w23 heb22 hEw23 hbb22 hzb22
     have hs_w23 := (hEw23).size
     replace hV := evo_step0 hV hEw23
     replace ha := ha0 _ hV
     replace hb := hb0 _ hV
     replace hA21 := hA210 _ hV
     have hAb22 := hbb22.at
     refine r_op rfl rfl rfl (run_asg (v := .int _ _) rfl (by exact rfl)) ?_
     refine r_store (v := .agg _) (vs := [_, _, _]) (cs' := [_, _, _]) (by exact rfl) (by exact rfl) hbb22 ty_43 (by exact rfl) rfl (by exact rfl) rfl (by exact rfl) ?_
     intro w24 hEw24 hzw24 hb_new
     have hs_w24 := (hEw24).size
     replace hV := evo_step1 hV hEw24 (by first | exact .inl (by omega) | exact .inr (by simp))
     replace ha := ha0 _ hV
     replace hb := hb0 _ hV
     replace hbb22 := hb_new
     have hAb22 := hbb22.at
     clear hb_new
     refine r_nil ?_
     refine r_seq ?_
     have hki := List.length_take_of_le (show q ≤ b.length by omega); have hsb := suK_bd a b (a ++ b.take q) (by omega) (by omega) (by rw [List.length_append]; omega); have ht1 := timesC_bd a (b.getD q default); have ht2 := timesC_bd b (b.getD q default)
     refine r_qregion (by kernel_rfl) (by kernel_rfl) ?_
     refine q_op rfl rfl rfl (fun w' hC => run_ldN rfl ag_43 ty_43 (by exact rfl) rfl (hAb22.evo0 hC)) ?_
     refine q_call rfl rfl rfl (fun w' hC => run_callf rfl (argcons (v := .agg _) (by exact rfl) (rfl)) Tryz.func89 rfl (by kernel_rfl)) (fun w' hC => (sristag_calls (x := (b.getD q default))).mono (fun e w'' h => ⟨h.1, evo_step0 hC h.2⟩)) ?_
     refine q_op rfl rfl rfl (fun w' hC => run_mv (v := .bool _) rfl (by exact rfl)) ?_
     refine q_g rfl (wantT (by exact rfl)) rfl (fun hg w' hC => run_mv (v := .slice _ _ _) rfl (by exact rfl)) ?_
     refine q_g rfl (wantT (by exact rfl)) rfl (fun hg w' hC => run_mv (v := .int _ _) rfl (by exact rfl)) ?_
     refine q_g rfl (wantT (by exact rfl)) rfl (fun hg w' hC => run_slE (0) (q) rfl Tryz.underlying23 ty_43 (glv (by exact rfl) (fun h => h) hg) (hb.evo0 hC) lo0 (at1 (glv (by exact rfl) (fun h => h) hg) (by omega)) (by first | omega | (simp; omega)) (by first | omega | (simp; omega)) List.drop_zero) ?_
     have hS250 := fun (w' : World) (h : Evo w0 w' []) => (by have h9 := ((hb0 w' h).take (q)).drop (0); rw [List.drop_zero] at h9; exact h9)
     have hS25 := (by have h9 := (hb.take (q)).drop (0); rw [List.drop_zero] at h9; exact h9)
     have hbd_hS25 := hS25.bd
     refine q_g rfl (wantT (by exact rfl)) rfl (fun hg w' hC => run_ldN rfl ag_43 ty_43 (by exact rfl) rfl (hAb22.evo0 hC)) ?_
     refine q_gcall rfl (wantT (by exact rfl)) rfl (fun hg w' hC => run_callf rfl (argcons (v := .slice _ _ _) (glv (by exact rfl) (fun h => h) hg) (argcons (v := .agg _) (glv (by exact rfl) (fun h => h) hg) (rfl))) Tryz.func90 rfl (by kernel_rfl)) (fun hg w' hC => (rtimes_calls (x := (b.getD q default)) (hS25.evo0 hC) (by omega)).mono (fun e w'' h => ⟨h.1, evo_step0 hC h.2⟩)) ?_
     refine q_g rfl (wantT (by exact rfl)) rfl (fun hg w' hC => run_eql rfl (glv (by exact rfl) (fun h => h) hg) (by exact rfl)) ?_
     refine q_op rfl rfl rfl (fun w' hC => run_pick_and rfl (by exact rfl) (fun hq => glv (by exact rfl) (fun h => h) hq) rfl) ?_
     refine q_op rfl rfl rfl (fun w' hC => run_mv (v := .bool _) rfl (by exact rfl)) ?_
     refine q_g rfl (wantT (by exact rfl)) rfl (fun hg w' hC => run_mv (v := .slice _ _ _) rfl (by exact rfl)) ?_
     refine q_g rfl (wantT (by exact rfl)) rfl (fun hg w' hC => run_ldN rfl ag_43 ty_43 (by exact rfl) rfl (hAb22.evo0 hC)) ?_
     refine q_gcall rfl (wantT (by exact rfl)) rfl (fun hg w' hC => run_callf rfl (argcons (v := .slice _ _ _) (glv (by exact rfl) (fun h => h) hg) (argcons (v := .agg _) (glv (by exact rfl) (fun h => h) hg) (rfl))) Tryz.func90 rfl (by kernel_rfl)) (fun hg w' hC => (rtimes_calls (x := (b.getD q default)) (ha.evo0 hC) (by omega)).mono (fun e w'' h => ⟨h.1, evo_step0 hC h.2⟩)) ?_
     refine q_g rfl (wantT (by exact rfl)) rfl (fun hg w' hC => run_eql rfl (glv (by exact rfl) (fun h => h) hg) (by exact rfl)) ?_
     refine q_op rfl rfl rfl (fun w' hC => run_pick_and rfl (by exact rfl) (fun hq => glv (by exact rfl) (fun h => h) hq) rfl) ?_
     refine q_nil (fun w26 hE27 => ?_)
     have hs_w26 := (hE27).size
     replace hV := evo_step0 hV hE27
     replace ha := ha0 _ hV
     replace hb := hb0 _ hV
     replace hbb22 := hbb22.evo0 hE27
     replace hAb22 := hAb22.evo0 hE27
     refine r_cond (by exact rfl) (fun hc28 => ?_) (fun hc28 => ?_)
     ·skip
      refine r_region ?_
      refine r_op rfl rfl rfl (run_mv (v := .int _ _) rfl (by exact rfl)) ?_
      refine r_op rfl rfl rfl (run_mv (v := .slice _ _ _) rfl (by exact rfl)) ?_
      refine r_op rfl rfl rfl (run_ldN rfl ag_43 ty_43 (by exact rfl) rfl hAb22) ?_
      refine r_opcall rfl rfl rfl (run_callf (vs := [.slice _ _ _, .agg _]) rfl (by exact rfl) Tryz.func90 rfl (by kernel_rfl)) (rtimes_calls (x := (b.getD q default)) hb (by omega)) ?_
      rintro e w29 ⟨rfl, hE29⟩
      refine ⟨_, rfl, ?_⟩
      have hs_w29 := (hE29).size
      replace hV := evo_step0 hV hE29
      replace ha := ha0 _ hV
      replace hb := hb0 _ hV
      refine r_op rfl rfl rfl (run_add rfl (by exact rfl) (by exact rfl) (by omega) (by omega)) ?_
      refine r_op rfl rfl rfl (run_asg (v := .int _ _) rfl (by exact rfl)) ?_
      refine r_nil ?_
      refine r_blk ?_
      refine r_region ?_
      refine r_op rfl rfl rfl (run_add rfl (by exact rfl) (by exact rfl) (by omega) (by omega)) ?_
      refine r_op rfl rfl rfl (run_mv (v := .int _ _) rfl (by exact rfl)) ?_
      refine r_nil ?_
      refine r_again (q + 1) ?_ ?_ ?_
      ·first | omega | (dsimp only; omega)
      ·refine ⟨(by first | exact rfl | exact congrArg (Value.int _) (by omega) | exact congrArg (Value.int _) (by dsimp only; omega) | exact congrArg (Value.int _) (by simp) | exact congrArg S (by simp)), (congrArg (Value.int _) (by first | exact suB_new (by omega) hc28 | exact suB_skip (by omega) hc28)), (by first | assumption | omega | (dsimp only; omega) | (simp; done)), (by first | assumption | omega | (dsimp only; omega) | (simp; done)), hV⟩
      ·repeat (first | (with_reducible exact Agree.merge _ _ _) | (with_reducible exact Agree.refl _ _) | (with_reducible refine Agree.upd ?_ _ _ rfl) | ((with_reducible refine Agree.inner ?_ ?_); (kernel_rfl)))
     ·skip
      refine r_skip ?_
      refine r_blk ?_
      refine r_region ?_
      refine r_op rfl rfl rfl (run_add rfl (by exact rfl) (by exact rfl) (by omega) (by omega)) ?_
      refine r_op rfl rfl rfl (run_mv (v := .int _ _) rfl (by exact rfl)) ?_
      refine r_nil ?_
      refine r_again (q + 1) ?_ ?_ ?_
      ·first | omega | (dsimp only; omega)
      ·refine ⟨(by first | exact rfl | exact congrArg (Value.int _) (by omega) | exact congrArg (Value.int _) (by dsimp only; omega) | exact congrArg (Value.int _) (by simp) | exact congrArg S (by simp)), (congrArg (Value.int _) (by first | exact suB_new (by omega) hc28 | exact suB_skip (by omega) hc28)), (by first | assumption | omega | (dsimp only; omega) | (simp; done)), (by first | assumption | omega | (dsimp only; omega) | (simp; done)), hV⟩
      ·repeat (first | (with_reducible exact Agree.merge _ _ _) | (with_reducible exact Agree.refl _ _) | (with_reducible refine Agree.upd ?_ _ _ rfl) | ((with_reducible refine Agree.inner ?_ ?_); (kernel_rfl)))
    ·skip
     refine r_exit rfl ?_
     refine r_seq ?_
     refine r_region ?_
     refine r_op rfl rfl rfl (run_mv (v := .int _ _) rfl (by exact rfl)) ?_
     refine r_op rfl rfl rfl (run_asg (v := .int _ _) rfl (by exact rfl)) ?_
     refine r_nil ?_
     refine r_ret (res1 (v := .int _ _) rfl (by exact rfl)) ?_
     exact ⟨ret_int (by rw [List.take_of_length_le (by omega)]; exact suK_end a b), hV⟩
theorem rbag_calls {aoa aob : Option Addr} {ba offa capa bb offb capb : Nat} {a b : List Vc.Item} {w0 : World} (ha : RowE w0 aoa ba offa capa a) (hb : RowE w0 aob bb offb capb b) (hqa : ∀ x ∈ a, x.text.length ≤ 140737488355328) (hqb : ∀ x ∈ b, x.text.length ≤ 140737488355328) (hsa : a.length ≤ 1000000) (hsb : b.length ≤ 1000000) :
    Calls Tryz.prog 44 #[.slice aoa a.length capa, .slice aob b.length capb] w0 fun e w' => e = .returned (.int .i64 (bagL a b)) ∧ Evo w0 w' [] := by
 refine calls_enter (n := 17) (args := [.slice aoa a.length capa, .slice aob b.length capb]) Tryz.func44 rfl Tryz.ntmps44 rfl ?_
 have hV : Evo w0 w0 [] := Evo.refl _ _
 have ha0 := keepE ha
 have hbd_ha := ha.bd
 have hb0 := keepE hb
 have hbd_hb := hb.bd
 refine r_seq ?_
 refine r_region ?_
 refine r_op rfl rfl rfl (run_asg (v := .int _ _) rfl (by exact rfl)) ?_
 refine r_nil ?_
 refine r_seq ?_
 have hu1 := up_bd a b (by omega) (by omega); have hu2 := up_bd b a (by omega) (by omega); have hu3 := sur_bd a b (by omega) (by omega)
 refine r_region ?_
 refine r_op rfl rfl rfl (run_mv (v := .slice _ _ _) rfl (by exact rfl)) ?_
 refine r_op rfl rfl rfl (run_mv (v := .slice _ _ _) rfl (by exact rfl)) ?_
 refine r_opcall rfl rfl rfl (run_callf (vs := [.slice _ _ _, .slice _ _ _]) rfl (by exact rfl) Tryz.func73 rfl (by kernel_rfl)) (rextra_calls ha hb hqa hqb (by omega) (by omega)) ?_
 rintro e w1 ⟨rfl, hE1⟩
 refine ⟨_, rfl, ?_⟩
 have hs_w1 := (hE1).size
 replace hV := evo_step0 hV hE1
 replace ha := ha0 _ hV
 replace hb := hb0 _ hV
 refine r_op rfl rfl rfl (run_mv (v := .slice _ _ _) rfl (by exact rfl)) ?_
 refine r_op rfl rfl rfl (run_mv (v := .slice _ _ _) rfl (by exact rfl)) ?_
 refine r_opcall rfl rfl rfl (run_callf (vs := [.slice _ _ _, .slice _ _ _]) rfl (by exact rfl) Tryz.func73 rfl (by kernel_rfl)) (rextra_calls hb ha hqb hqa (by omega) (by omega)) ?_
 rintro e w2 ⟨rfl, hE2⟩
 refine ⟨_, rfl, ?_⟩
 have hs_w2 := (hE2).size
 replace hV := evo_step0 hV hE2
 replace ha := ha0 _ hV
 replace hb := hb0 _ hV
 refine r_op rfl rfl rfl (run_max rfl (by exact rfl) (by exact rfl)) ?_
 refine r_op rfl rfl rfl (run_mv (v := .slice _ _ _) rfl (by exact rfl)) ?_
 refine r_op rfl rfl rfl (run_mv (v := .slice _ _ _) rfl (by exact rfl)) ?_
 refine r_opcall rfl rfl rfl (run_callf (vs := [.slice _ _ _, .slice _ _ _]) rfl (by exact rfl) Tryz.func74 rfl (by kernel_rfl)) (rsurplus_calls ha hb (by omega) (by omega)) ?_
 rintro e w3 ⟨rfl, hE3⟩
 refine ⟨_, rfl, ?_⟩
 have hs_w3 := (hE3).size
 replace hV := evo_step0 hV hE3
 replace ha := ha0 _ hV
 replace hb := hb0 _ hV
 refine r_op rfl rfl rfl (run_mul rfl (by exact rfl) (by exact rfl) (by omega) (by omega)) ?_
 refine r_op rfl rfl rfl (run_add rfl (by exact rfl) (by exact rfl) (by omega) (by omega)) ?_
 refine r_op rfl rfl rfl (run_asg (v := .int _ _) rfl (by exact rfl)) ?_
 refine r_nil ?_
 refine r_ret (res1 (v := .int _ _) rfl (by exact rfl)) ?_
 exact ⟨ret_int rfl, hV⟩
set_option maxHeartbeats 1000000 in
theorem rbound_calls {aoa aob : Option Addr} {ba offa capa bb offb capb : Nat} {a b : List Vc.Item} {w0 : World} (ha : RowE w0 aoa ba offa capa a) (hb : RowE w0 aob bb offb capb b) (hqa : ∀ x ∈ a, x.text.length ≤ 140737488355328) (hqb : ∀ x ∈ b, x.text.length ≤ 140737488355328) (hsa : a.length ≤ 900000) (hsb : b.length ≤ 900000) :
    Calls Tryz.prog 25 #[.slice aoa a.length capa, .slice aob b.length capb] w0 fun e w' => e = .returned (.int .i64 (boundL a b)) ∧ Evo w0 w' [] := by
 refine calls_enter (n := 29) (args := [.slice aoa a.length capa, .slice aob b.length capb]) Tryz.func25 rfl Tryz.ntmps25 rfl ?_
 have hV : Evo w0 w0 [] := Evo.refl _ _
 have ha0 := keepE ha
 have hbd_ha := ha.bd
 have hb0 := keepE hb
 have hbd_hb := hb.bd
 refine r_seq ?_
 refine r_region ?_
 refine r_op rfl rfl rfl (run_asg (v := .int _ _) rfl (by exact rfl)) ?_
 refine r_nil ?_
 refine r_seq ?_
 have hwa := wordsT_len a; have hwb := wordsT_len b; have hga := gramsL_len (wordsT a); have hgb := gramsL_len (wordsT b); have hmb := mssL_bd a b; have hbb := bag_nonneg a b (by omega) (by omega); have hm1 := lackL_bd (gramsL (wordsT a)) (gramsL (wordsT b)); have hm2 := lackL_bd (gramsL (wordsT b)) (gramsL (wordsT a)); have htd := Int.tdiv_eq_ediv_of_nonneg (a := max (lackL (gramsL (wordsT a)) (gramsL (wordsT b))) (lackL (gramsL (wordsT b)) (gramsL (wordsT a))) + 1) (b := 2) (by omega)
 refine r_region ?_
 refine r_op rfl rfl rfl (run_mv (v := .slice _ _ _) rfl (by exact rfl)) ?_
 refine r_opcall rfl rfl rfl (run_callf (vs := [.slice _ _ _]) rfl (by exact rfl) Tryz.func42 rfl (by kernel_rfl)) (rwords_calls ha hqa (by omega)) ?_
 rintro e w1 ⟨vw1, rfl, hE1, how1⟩
 refine ⟨_, rfl, ?_⟩
 have hs_w1 := (hE1).size
 replace hV := evo_step0 hV hE1
 replace ha := ha0 _ hV
 replace hb := hb0 _ hV
 obtain ⟨ao2, g2, cp2, hv2, hr2, hg2⟩ := how1.rowOf
 subst hv2
 refine r_opcall rfl rfl rfl (run_callf (vs := [.slice _ _ _]) rfl (by exact rfl) Tryz.func41 rfl (by kernel_rfl)) (rgrams_calls hr2 (by omega)) ?_
 rintro e w3 ⟨vg3, rfl, hE3, hog3⟩
 refine ⟨_, rfl, ?_⟩
 have hs_w3 := (hE3).size
 replace hV := evo_step0 hV hE3
 replace ha := ha0 _ hV
 replace hb := hb0 _ hV
 replace how1 := how1.evo0 hE3
 replace hr2 := hr2.evo0 hE3
 refine r_op rfl rfl rfl (run_mv (v := .slice _ _ _) rfl (by exact rfl)) ?_
 refine r_opcall rfl rfl rfl (run_callf (vs := [.slice _ _ _]) rfl (by exact rfl) Tryz.func42 rfl (by kernel_rfl)) (rwords_calls hb hqb (by omega)) ?_
 rintro e w4 ⟨vw4, rfl, hE4, how4⟩
 refine ⟨_, rfl, ?_⟩
 have hs_w4 := (hE4).size
 replace hV := evo_step0 hV hE4
 replace ha := ha0 _ hV
 replace hb := hb0 _ hV
 replace how1 := how1.evo0 hE4
 replace hr2 := hr2.evo0 hE4
 replace hog3 := hog3.evo0 hE4
 obtain ⟨ao5, g5, cp5, hv5, hr5, hg5⟩ := how4.rowOf
 subst hv5
 refine r_opcall rfl rfl rfl (run_callf (vs := [.slice _ _ _]) rfl (by exact rfl) Tryz.func41 rfl (by kernel_rfl)) (rgrams_calls hr5 (by omega)) ?_
 rintro e w6 ⟨vg6, rfl, hE6, hog6⟩
 refine ⟨_, rfl, ?_⟩
 have hs_w6 := (hE6).size
 replace hV := evo_step0 hV hE6
 replace ha := ha0 _ hV
 replace hb := hb0 _ hV
 replace how1 := how1.evo0 hE6
 replace hr2 := hr2.evo0 hE6
 replace hog3 := hog3.evo0 hE6
 replace how4 := how4.evo0 hE6
 replace hr5 := hr5.evo0 hE6
 refine r_op rfl rfl rfl (run_asg (v := vg3) rfl (by exact rfl)) ?_
 refine r_op rfl rfl rfl (run_asg (v := vg6) rfl (by exact rfl)) ?_
 refine r_nil ?_
 refine r_seq ?_
 refine r_region ?_
 refine r_op rfl rfl rfl (run_mv (v := vg3) rfl (by exact rfl)) ?_
 refine r_op rfl rfl rfl (run_mv (v := vg6) rfl (by exact rfl)) ?_
 obtain ⟨ao7, g7, cp7, hv7, hr7, hg7⟩ := hog3.rowOf
 subst hv7
 obtain ⟨ao8, g8, cp8, hv8, hr8, hg8⟩ := hog6.rowOf
 subst hv8
 refine r_opcall rfl rfl rfl (run_callf (vs := [.slice _ _ _, .slice _ _ _]) rfl (by exact rfl) Tryz.func43 rfl (by kernel_rfl)) (rmissing_calls hr7 hr8 (by omega) (by omega)) ?_
 rintro e w9 ⟨rfl, hE9⟩
 refine ⟨_, rfl, ?_⟩
 have hs_w9 := (hE9).size
 replace hV := evo_step0 hV hE9
 replace ha := ha0 _ hV
 replace hb := hb0 _ hV
 replace how1 := how1.evo0 hE9
 replace hr2 := hr2.evo0 hE9
 replace hog3 := hog3.evo0 hE9
 replace how4 := how4.evo0 hE9
 replace hr5 := hr5.evo0 hE9
 replace hog6 := hog6.evo0 hE9
 replace hr7 := hr7.evo0 hE9
 replace hr8 := hr8.evo0 hE9
 refine r_op rfl rfl rfl (run_mv (v := .slice _ _ _) rfl (by exact rfl)) ?_
 refine r_op rfl rfl rfl (run_mv (v := .slice _ _ _) rfl (by exact rfl)) ?_
 refine r_opcall rfl rfl rfl (run_callf (vs := [.slice _ _ _, .slice _ _ _]) rfl (by exact rfl) Tryz.func43 rfl (by kernel_rfl)) (rmissing_calls hr8 hr7 (by omega) (by omega)) ?_
 rintro e w10 ⟨rfl, hE10⟩
 refine ⟨_, rfl, ?_⟩
 have hs_w10 := (hE10).size
 replace hV := evo_step0 hV hE10
 replace ha := ha0 _ hV
 replace hb := hb0 _ hV
 replace how1 := how1.evo0 hE10
 replace hr2 := hr2.evo0 hE10
 replace hog3 := hog3.evo0 hE10
 replace how4 := how4.evo0 hE10
 replace hr5 := hr5.evo0 hE10
 replace hog6 := hog6.evo0 hE10
 replace hr7 := hr7.evo0 hE10
 replace hr8 := hr8.evo0 hE10
 refine r_op rfl rfl rfl (run_max rfl (by exact rfl) (by exact rfl)) ?_
 refine r_op rfl rfl rfl (run_asg (v := .int _ _) rfl (by exact rfl)) ?_
 refine r_nil ?_
 refine r_seq ?_
 refine r_region ?_
 refine r_op rfl rfl rfl (run_mv (v := .slice _ _ _) rfl (by exact rfl)) ?_
 refine r_op rfl rfl rfl (run_mv (v := .slice _ _ _) rfl (by exact rfl)) ?_
 refine r_opcall rfl rfl rfl (run_callf (vs := [.slice _ _ _, .slice _ _ _]) rfl (by exact rfl) Tryz.func44 rfl (by kernel_rfl)) (rbag_calls ha hb hqa hqb (by omega) (by omega)) ?_
 rintro e w11 ⟨rfl, hE11⟩
 refine ⟨_, rfl, ?_⟩
 have hs_w11 := (hE11).size
 replace hV := evo_step0 hV hE11
 replace ha := ha0 _ hV
 replace hb := hb0 _ hV
 replace how1 := how1.evo0 hE11
 replace hr2 := hr2.evo0 hE11
 replace hog3 := hog3.evo0 hE11
 replace how4 := how4.evo0 hE11
 replace hr5 := hr5.evo0 hE11
 replace hog6 := hog6.evo0 hE11
 replace hr7 := hr7.evo0 hE11
 replace hr8 := hr8.evo0 hE11
 refine r_op rfl rfl rfl (run_mv (v := .int _ _) rfl (by exact rfl)) ?_
 refine r_op rfl rfl rfl (run_add rfl (by exact rfl) (by exact rfl) (by omega) (by omega)) ?_
 refine r_op rfl rfl rfl (run_quo rfl (by exact rfl) (by exact rfl) (by omega) (by omega) (by omega)) ?_
 refine r_op rfl rfl rfl (run_mul rfl (by exact rfl) (by exact rfl) (by omega) (by omega)) ?_
 refine r_op rfl rfl rfl (run_max rfl (by exact rfl) (by exact rfl)) ?_
 refine r_op rfl rfl rfl (run_asg (v := .int _ _) rfl (by exact rfl)) ?_
 refine r_nil ?_
 refine r_ret (res1 (v := .int _ _) rfl (by exact rfl)) ?_
 exact ⟨ret_int (by unfold boundL mssL; first | (rw [htd]; done) | rfl | (simp only [Int.tdiv_eq_ediv_of_nonneg (show (0 : Int) ≤ max (lackL (gramsL (wordsT a)) (gramsL (wordsT b))) (lackL (gramsL (wordsT b)) (gramsL (wordsT a))) + 1 by omega)]; done)), hV⟩
end Go.Proofs.YthbcklajlmcifaaGreat
namespace Go.Vc
open Go Go.RowKit Go.IntWalk
theorem r_cutOwn0 {α : Type} [Enc α] {w : World} {base : Nat} {E : TypeId} {v : Value} {l : List α} {P : Program} {B : Exit → Act → World → Prop} {n : Nat} {k : List Kont} {f : Fr} {ops : Array Oper} {rest : List Oper} {T d m bb : Nat} {z : Option Value} {t : TypeId} {pos : String} {aft : Array Edge} {x hi : Operand} (j : Nat)
    (hd : Nat.blt d n = true) (hu : P.underlying T = some (.slice E)) (ht : tyP P E = some (m, bb, z)) (hown : OwnE w base E v l) (hx : opv f x = v) (hhi : ∃ κ, opv f hi = .int κ (j : Int)) (hj : j ≤ l.length)
    (h : ∀ v', OwnE w base E v' (l.take j) → v'.ownBlock = v.ownBlock → KL P B n ops k rest (upd f d v') w) :
    KL P B n ops k (⟨some d, .slice T x none (some hi) none, t, pos, aft, none⟩ :: rest) f w := by
  rcases Nat.eq_zero_or_pos l.length with hz | hp
  · have hl : l = [] := List.eq_nil_of_length_eq_zero hz
    subst hl
    rcases hown.form with ⟨hv, _⟩ | ⟨g, cap, rfl, h3, h4, h5, h6⟩
    · obtain ⟨κ, hκ⟩ := hhi
      have hj0 : j = 0 := by simpa using hj
      subst hj0
      subst hv
      have hrun : ∀ o : Oper, o.op = .slice T x none (some hi) none → (execOp (opv f) o).run P w = .ok (.value (.slice none 0 0)) w := fun o ho => by
        rw [run_sl (w := w) 0 0 ho hu ht hx (.inl ⟨rfl, rfl⟩) (.inr ⟨κ, by simp [hκ]⟩) (by omega) (by omega)]; rfl
      exact r_op rfl rfl hd (hrun _ rfl) (h _ hown rfl)
    · obtain ⟨κ, hκ⟩ := hhi
      have hj0 : j = 0 := by simpa using hj
      subst hj0
      have hrun : ∀ o : Oper, o.op = .slice T x none (some hi) none → (execOp (opv f) o).run P w = .ok (.value (.slice (some ⟨g, 0, none⟩) 0 cap)) w := fun o ho => by
        rw [run_sl (w := w) 0 0 ho hu ht hx (.inl ⟨rfl, rfl⟩) (.inr ⟨κ, by simp [hκ]⟩) (by omega) (by omega)]
        by_cases hc : cap = 0
        · simp [hc]
        · have hc' : ¬ (0 : Nat) = cap := fun e => hc e.symm
          simp [hc, Addr.add]
      exact r_op rfl rfl hd (hrun _ rfl) (h _ hown rfl)
  · exact r_cutOwn j hd hu ht hown hx hhi hj hp h
end Go.Vc
namespace Go.Proofs.YthbcklajlmcifaaGreat
open Go.RowKit Go.Vc
theorem fLen_takeS {l : List Vc.Item} {k : Nat} (h : k < l.length) : fLen (l.take (k + 1)) = fLen (l.take k) + (l.getD k default).text.length := by unfold fLen; rw [take_succD l k h]; simp
theorem fLen_mem {l : List Vc.Item} {x : Vc.Item} (h : x ∈ l) : x.text.length ≤ fLen l := by
  induction l with
  | nil => cases h
  | cons y l ih =>
    have e : fLen (y :: l) = y.text.length + fLen l := by simp [fLen]
    rcases List.mem_cons.1 h with rfl | h
    · omega
    · have := ih h; omega
theorem getD_text {l : List Vc.Item} {B : Nat} (h : ∀ x ∈ l, x.text.length ≤ B) (k : Nat) : (l.getD k default).text.length ≤ B := by
  rcases Nat.lt_or_ge k l.length with h1 | h1
  · exact h _ (getD_in h1)
  · have e : l.getD k default = default := by simp [List.getD, List.getElem?_eq_none h1]
    rw [e]; exact Nat.zero_le _
theorem cutT_text : ∀ (n : Nat) (s : Str), s.length = n → ∀ x ∈ cutT s, x.text.length ≤ s.length := by
  intro n
  induction n using Nat.strongRecOn with
  | ind n ih =>
    intro s hs x hx
    by_cases h : s = []
    · subst h; rw [cutT_nil] at hx; cases hx
    · have h1 := tokN_pos s
      have h2 : 0 < s.length := List.length_pos_iff.2 h
      rw [cutT_cons h] at hx
      rcases List.mem_cons.1 hx with rfl | hx
      · show (s.take _).length ≤ _; rw [List.length_take]; omega
      · have h3 := ih _ (by rw [← hs]; show (s.drop (tokN s).2).length < s.length; rw [List.length_drop]; omega) (s.drop (tokN s).2) rfl x hx
        rw [List.length_drop] at h3; omega
theorem toks_text {f : List Vc.Item} {x : Vc.Item} (h : x ∈ toks f) : x.text.length ≤ fLen f := by
  unfold toks at h
  obtain ⟨y, hy, hx⟩ := List.mem_flatMap.1 h
  have h1 := fLen_mem hy
  unfold tokI at hx
  split at hx
  · have := cutT_text _ y.text rfl x hx; omega
  · split at hx
    · have : x = y := by simpa using hx
      rw [this]; exact h1
    · cases hx
theorem fLen_size (f : List Vc.Item) : fLen f = sizeL f := rfl
def NR (B k : Nat) (lo : List Vc.Item) : Prop := lo.length ≤ 2 * k ∧ ∀ x ∈ lo, x.text.length ≤ B + 4
theorem app1_le {B : Nat} {s t : Str} (h : s.length ≤ B) (ht : t.length = 1) : (s ++ t).length ≤ B + 4 := by rw [List.length_append]; omega
theorem NR.nil (B : Nat) : NR B 0 [] := ⟨Nat.le_refl _, by simp⟩
theorem NR.skip {B k : Nat} {lo : List Vc.Item} (h : NR B k lo) : NR B (k + 1) lo := ⟨by have := h.1; omega, h.2⟩
theorem NR.one {B k : Nat} {lo : List Vc.Item} {x : Vc.Item} (h : NR B k lo) (hx : x.text.length ≤ B + 4) : NR B (k + 1) (lo ++ [x]) :=
  ⟨by rw [List.length_append]; have := h.1; simp; omega, fun y hy => (List.mem_append.1 hy).elim (h.2 y) (fun q => by have e : y = x := (by simpa using q); rw [e]; exact hx)⟩
theorem NR.two {B k : Nat} {lo : List Vc.Item} {x z : Vc.Item} (h : NR B k lo) (hx : x.text.length ≤ B + 4) (hz : z.text.length ≤ B + 4) : NR B (k + 1) (lo ++ [x] ++ [z]) :=
  ⟨by rw [List.length_append, List.length_append]; have := h.1; simp; omega, fun y hy => by
    simp only [List.append_assoc, List.mem_append, List.mem_singleton] at hy
    rcases hy with hy | rfl | rfl
    · exact h.2 y hy
    · exact hx
    · exact hz⟩
end Go.Proofs.YthbcklajlmcifaaGreat
namespace Go.Proofs.YthbcklajlmcifaaGreat
open Go.RowKit Go.Vc
def costB (x y : Vc.Item) : Prop := sameB x y ∨ (x.kind = y.kind ∧ 5 ≤ x.kind ∧ x.kind ≤ 9)
instance (x y : Vc.Item) : Decidable (costB x y) := by unfold costB; infer_instance
section
variable {ks p q : List (Str × Str)} {x y : Str × Str}
end
theorem occ_of {ps : List (Str × Str)} (hps : ps.length ≤ 1073741824) : ∀ {g : List Gram}, (g.map prG).Nodup → (∀ x ∈ g, x.count = ((ps.count (prG x) : Nat) : Int)) → ∀ p, occL g p = if p ∈ g.map prG then ((ps.count p : Nat) : Int) else 0
  | [], _, _, p => by simp [occL, sumZ]
  | x :: r, hn, h, p => by
    rw [List.map_cons, List.nodup_cons] at hn
    have ih := occ_of hps hn.2 (fun y hy => h y (by simp [hy])) p
    have e : occL (x :: r) p = (if prG x = p then clampI x.count else 0) + occL r p := rfl
    rw [e, ih]
    have hb := List.count_le_length (a := prG x) (l := ps)
    have hx := h x (by simp)
    by_cases e2 : prG x = p
    · subst e2
      rw [if_pos rfl, if_neg hn.1, if_pos (by simp), hx]
      unfold clampI; omega
    · rw [if_neg e2, Int.zero_add]
      by_cases e3 : p ∈ r.map prG
      · rw [if_pos e3, if_pos (by simp at e3 ⊢; exact .inr e3)]
      · rw [if_neg e3, if_neg (by rw [List.map_cons, List.mem_cons]; rintro (q | q); exact e2 q.symm; exact e3 q)]
theorem occ_grams {ws : List Str} (hs : ws.length ≤ 1000000) (p : Str × Str) : occL (gramsL ws) p = (((pairsL [] ws).count p : Nat) : Int) := by
  have h := gramsOk_of (pairsL [] ws)
  have hn : ((gramsL ws).map prG).Nodup := List.pairwise_map.2 (h.1.imp fun {x y} (h : ltP (prG x) (prG y)) (e : prG x = prG y) => ltP_irrefl (prG y) (by rw [e] at h; exact h))
  rw [occ_of (ps := pairsL [] ws) (by rw [pairs_len]; omega) hn (fun x hx => (h.2.1 x hx).2)]
  by_cases hp : p ∈ (gramsL ws).map prG
  · rw [if_pos hp]
  · rw [if_neg hp, List.count_eq_zero.2]; rfl
    intro q
    obtain ⟨x, hx, e⟩ := h.2.2 p q
    exact hp (e ▸ List.mem_map_of_mem hx)
end Go.Proofs.YthbcklajlmcifaaGreat
namespace Go.Proofs.YthbcklajlmcifaaGreat
open Go.RowKit Go.Vc
def KRa : List Vc.Item := [⟨1, [114, 101, 100, 32, 99, 97, 114], 0⟩]
def KRb : List Vc.Item := [⟨1, [82, 101, 100, 32, 99, 97, 114, 115], 0⟩]
def KTa : List Vc.Item := [⟨6, [114, 101, 100], 0⟩, ⟨8, [32], 0⟩, ⟨6, [99, 97, 114], 0⟩]
def KTb : List Vc.Item := [⟨6, [82, 101, 100], 0⟩, ⟨8, [32], 0⟩, ⟨6, [99, 97, 114, 115], 0⟩]
theorem cutT_at {s r : Str} {k : Int} {n : Nat} (h : s ≠ []) (e : tokN s = (k, n)) (er : s.drop n = r) : cutT s = ⟨k, s.take n, 0⟩ :: cutT r := by
  rw [cutT_cons h, e, er]
theorem ktok_a : toks KRa = KTa := by
  show cutT [114, 101, 100, 32, 99, 97, 114] ++ [] = _
  rw [cutT_at (k := 6) (n := 3) (r := [32, 99, 97, 114]) (by decide) (by decide +kernel) rfl, cutT_at (k := 8) (n := 1) (r := [99, 97, 114]) (by decide) (by decide +kernel) rfl, cutT_at (k := 6) (n := 3) (r := []) (by decide) (by decide +kernel) rfl, cutT_nil]
  rfl
theorem ktok_b : toks KRb = KTb := by
  show cutT [82, 101, 100, 32, 99, 97, 114, 115] ++ [] = _
  rw [cutT_at (k := 6) (n := 3) (r := [32, 99, 97, 114, 115]) (by decide) (by decide +kernel) rfl, cutT_at (k := 8) (n := 1) (r := [99, 97, 114, 115]) (by decide) (by decide +kernel) rfl, cutT_at (k := 6) (n := 4) (r := []) (by decide) (by decide +kernel) rfl, cutT_nil]
  rfl
def sumC (g : List Gram) : Int := sumZ (g.map (·.count))
theorem sumC_ins : ∀ (g : List Gram) (p : Str × Str), sumC (insG g p) = sumC g + 1
  | [], p => rfl
  | x :: r, p => by
    have ih := sumC_ins r p
    unfold sumC at *
    unfold insG
    split
    · rw [List.map_cons, List.map_cons, sumZ_cons, sumZ_cons, ih]; omega
    · split
      · rw [List.map_cons, List.map_cons, sumZ_cons, sumZ_cons]
        show x.count + 1 + _ = _; omega
      · rw [List.map_cons, List.map_cons, sumZ_cons, sumZ_cons]
        show 1 + (x.count + _) = _; omega
theorem sumC_fold : ∀ (ps : List (Str × Str)) (g : List Gram), sumC (ps.foldl insG g) = sumC g + ps.length
  | [], g => by simp
  | p :: ps, g => by
    rw [List.foldl_cons, sumC_fold ps, sumC_ins, List.length_cons]; push_cast; omega
theorem sumC_grams (ws : List Str) : sumC (gramsL ws) = (ws.length : Int) + 1 := by
  unfold gramsL gramsOf
  rw [sumC_fold, pairs_len]; show (0 : Int) + _ = _; push_cast; omega
theorem sumC_succ {g : List Gram} {k : Nat} (h : k < g.length) : sumC (g.take (k + 1)) = sumC (g.take k) + (g.getD k default).count := by
  unfold sumC; rw [take_succD g k h, List.map_append, sumZ_append]; simp [sumZ]
end Go.Proofs.YthbcklajlmcifaaGreat
namespace Go.Proofs.YthbcklajlmcifaaGreat
open Go.RowKit Go.Vc
theorem kqa : ∀ x ∈ toks KRa, x.text.length ≤ 140737488355328 := fun x hx => by have := toks_text hx; have e : fLen KRa = 7 := rfl; omega
theorem kqb : ∀ x ∈ toks KRb, x.text.length ≤ 140737488355328 := fun x hx => by have := toks_text hx; have e : fLen KRb = 8 := rfl; omega
theorem kla : (toks KRa).length ≤ 900000 := by rw [ktok_a]; decide
theorem klb : (toks KRb).length ≤ 900000 := by rw [ktok_b]; decide
end Go.Proofs.YthbcklajlmcifaaGreat
namespace Go.Proofs.YthbcklajlmcifaaGreat
open Go Go.RowKit Go.Vc
section
variable {α : Type}
theorem ix_add {f g : α → Int} : ∀ ks : List α, sumZ (ks.map fun c => f c + g c) = sumZ (ks.map f) + sumZ (ks.map g)
  | [] => rfl
  | c :: ks => by rw [List.map_cons, List.map_cons, List.map_cons, sumZ_cons, sumZ_cons, sumZ_cons, ix_add ks]; omega
theorem ix_sub {f g : α → Int} : ∀ ks : List α, sumZ (ks.map fun c => f c - g c) = sumZ (ks.map f) - sumZ (ks.map g)
  | [] => rfl
  | c :: ks => by rw [List.map_cons, List.map_cons, List.map_cons, sumZ_cons, sumZ_cons, sumZ_cons, ix_sub ks]; omega
theorem ix_congr {f g : α → Int} : ∀ {ks : List α}, (∀ c ∈ ks, f c = g c) → sumZ (ks.map f) = sumZ (ks.map g)
  | [], _ => rfl
  | c :: ks, h => by rw [List.map_cons, List.map_cons, sumZ_cons, sumZ_cons, h c (by simp), ix_congr (fun x hx => h x (by simp [hx]))]
theorem ix_count [DecidableEq α] {f : α → Int} {ks : List α} (hn : ks.Nodup) : ∀ {l : List α}, (∀ x ∈ l, x ∈ ks) → sumZ (ks.map fun c => ((l.count c : Nat) : Int) * f c) = sumZ (l.map f)
  | [], _ => by rw [show ([] : List α).map f = [] from rfl]; exact sum_zero (fun c _ => by simp)
  | x :: l, h => by
    rw [List.map_cons, sumZ_cons, ← ix_count hn (l := l) (fun y hy => h y (by simp [hy])), Int.add_comm]
    refine sum_bump (x := x) hn (h x (by simp)) ?_ (fun c _ hc => ?_)
    · rw [List.count_cons_self]; show ((l.count x + 1 : Nat) : Int) * f x = _
      rw [Int.natCast_add, Int.add_mul]; simp
    · rw [List.count_cons_of_ne (Ne.symm hc)]
end
def wC (c : Vc.Item) : Int := if tgB c then 0 else wK c.kind
def tC (c : Vc.Item) : Int := if tgB c then 1 else 0
def wN (l : List Vc.Item) : Int := sumZ ((clsL l).map wC)
def tN (l : List Vc.Item) : Int := sumZ ((clsL l).map tC)
def mnC (a b : List Vc.Item) (c : Vc.Item) : Int := min (((clsL a).count c : Nat) : Int) (((clsL b).count c : Nat) : Int)
def cwN (a b : List Vc.Item) : Int := sumZ ((dist (clsL a)).map fun c => mnC a b c * wC c)
def ctN (a b : List Vc.Item) : Int := sumZ ((dist (clsL a)).map fun c => mnC a b c * tC c)
theorem mnC_zero {a b : List Vc.Item} {c : Vc.Item} (h : c ∉ clsL a) : mnC a b c = 0 := by unfold mnC; rw [List.count_eq_zero.2 h]; omega
theorem keys_sum {a b : List Vc.Item} {f : Vc.Item → Int} (h : ∀ c, c ∉ clsL a → f c = 0) : sumZ ((dist (clsL a)).map f) = sumZ ((keysL a b).map f) :=
  sum_keys (dist_nodup _) (keys_nodup a b) (fun x hx hx2 => absurd (keys_mem.2 (.inl ((dist_mem _ _).1 hx))) hx2) (fun x _ hx2 => h x (fun q => hx2 ((dist_mem _ _).2 q)))
theorem up_sums (a b : List Vc.Item) : upL a b = wN a - cwN a b := by
  unfold wN cwN
  rw [← ix_count (keys_nodup a b) (fun x hx => keys_mem.2 (.inl hx)), keys_sum (b := b) (fun c hc => by rw [mnC_zero hc, Int.zero_mul]), ← ix_sub]
  unfold upL
  refine ix_congr (fun c _ => ?_)
  unfold upF wC
  split
  · simp
  · rw [← Int.sub_mul]
    congr 1
    unfold dlt mnC; omega
theorem sur_sums (a b : List Vc.Item) : surL a b = tN a + tN b - 2 * ctN a b := by
  have e : (2 : Int) * ctN a b = ctN a b + ctN a b := by omega
  rw [e]
  unfold tN ctN
  rw [← ix_count (keys_nodup a b) (fun x hx => keys_mem.2 (.inl hx)), ← ix_count (keys_nodup a b) (l := clsL b) (fun x hx => keys_mem.2 (.inr hx)), keys_sum (b := b) (fun c hc => by rw [mnC_zero hc, Int.zero_mul]), ← ix_add, ← ix_add, ← ix_sub]
  unfold surL
  refine ix_congr (fun c _ => ?_)
  unfold tgF tC
  split
  · simp only [Int.mul_one]
    unfold dlt mnC; omega
  · simp
theorem cw_swap (a b : List Vc.Item) : cwN a b = cwN b a := by
  have h : ∀ c, mnC a b c = mnC b a c := fun c => by unfold mnC; omega
  unfold cwN
  rw [keys_sum (b := b) (fun c hc => by rw [mnC_zero hc, Int.zero_mul]), keys_sum (a := b) (b := a) (f := fun c => mnC b a c * wC c) (fun c hc => by rw [mnC_zero hc, Int.zero_mul])]
  rw [ix_congr (g := fun c => mnC b a c * wC c) (fun c _ => by rw [h c])]
  exact sum_keys (keys_nodup a b) (keys_nodup b a) (fun x hx hx2 => absurd (keys_mem.2 (keys_mem.1 hx).symm) hx2) (fun x hx hx2 => absurd (keys_mem.2 (keys_mem.1 hx).symm) hx2)
theorem bag_sums (a b : List Vc.Item) : bagL a b = max (wN a) (wN b) - cwN a b + 3 * (tN a + tN b - 2 * ctN a b) := by
  unfold bagL
  rw [up_sums, up_sums, sur_sums, ← cw_swap a b]
  omega
end Go.Proofs.YthbcklajlmcifaaGreat
namespace Go.Vc
open Go Go.RowKit Go.IntWalk
open Go.ChangeMaps (setBlock)
theorem eraseIdx_map {α β : Type} (f : α → β) : ∀ (l : List α) (i : Nat), (l.eraseIdx i).map f = (l.map f).eraseIdx i
  | [], _ => by simp
  | a :: l, 0 => by simp
  | a :: l, i + 1 => by simp [eraseIdx_map f l i]
theorem delM_miss {α β : Type} [DecidableEq α] {m : List (α × β)} {a : α} (h : getM m a = none) : delM m a = m := by
  unfold delM
  refine List.filter_eq_self.2 (fun p hp => ?_)
  unfold getM at h
  simp only [Option.map_eq_none_iff, List.find?_eq_none, decide_eq_true_eq] at h
  simp [h p hp]
theorem delM_hit {α β : Type} [DecidableEq α] : ∀ {m : List (α × β)} {a : α} {v : β} {i : Nat}, (m.map (·.1)).Nodup → m[i]? = some (a, v) → delM m a = m.eraseIdx i
  | [], _, _, _, _, h => by simp at h
  | p :: m, a, v, 0, hn, h => by
    simp at h; subst h
    simp only [List.map_cons, List.nodup_cons] at hn
    show ((a, v) :: m).filter _ = m
    rw [List.filter_cons, if_neg (by simp)]
    refine List.filter_eq_self.2 (fun q hq => ?_)
    have : q.1 ≠ a := fun e => hn.1 (List.mem_map.2 ⟨q, hq, e⟩)
    simp [this]
  | p :: m, a, v, i + 1, hn, h => by
    simp only [List.map_cons, List.nodup_cons] at hn
    have h' : m[i]? = some (a, v) := by simpa using h
    have hp : p.1 ≠ a := fun e => hn.1 (by rw [e]; exact List.mem_map.2 ⟨(a, v), List.mem_of_getElem? h', rfl⟩)
    have ih := delM_hit hn.2 h'
    show (p :: m).filter _ = p :: m.eraseIdx i
    rw [List.filter_cons, if_pos (by simp [hp])]
    exact congrArg _ ih
theorem delM_keys {α β : Type} [DecidableEq α] (m : List (α × β)) (a : α) (hn : (m.map (·.1)).Nodup) : ((delM m a).map (·.1)).Nodup := hn.sublist (List.Sublist.map _ List.filter_sublist)
section
variable {P : Program} {B : Exit → Act → World → Prop} {n : Nat} {k : List Kont} {f : Fr} {w : World} {ops : Array Oper} {rest : List Oper} {o : Oper}
variable {α β : Type} {ek : α → Value} {ev : β → Value} {b : Nat} {m : List (α × β)} {K E : TypeId}
theorem erase_list (es : Array MapEntry) (i : Nat) : (es.eraseIdxIfInBounds i).toList = es.toList.eraseIdx i := by
  unfold Array.eraseIdxIfInBounds
  split
  · simp
  · rw [List.eraseIdx_of_length_le (by simpa using Nat.le_of_not_lt ‹_›)]
theorem run_delM [DecidableEq α] (L : KeyLaw P K ek) {T ty : TypeId} (hu : P.underlying T = some (.map K E)) (a : α) {es : Array MapEntry} {c : Nat} (hb : w.heap[b]? = some (.map es c)) (h : MapIs w b ek ev m) :
    ∃ es', (Builtin.delete_ #[T, K] ty #[.map (some b), ek a]).run P w = .ok (.tuple #[]) (setBlock w b (.map es' c)) ∧ (es'.toList = es.toList ∧ delM m a = m ∨ ∃ i v, m[i]? = some (a, v) ∧ es'.toList = es.toList.eraseIdx i ∧ delM m a = m.eraseIdx i) := by
  obtain ⟨es2, c2, hb2, hf⟩ := h.find L a
  rw [hb] at hb2
  injection hb2 with hb2
  injection hb2 with e1 e2
  subst e1; subst e2
  have hnd := h.nodup
  rcases hf with ⟨hg, hf⟩ | ⟨i, u, hg, hi, hne, hf⟩
  · refine ⟨es, ?_, .inl ⟨rfl, delM_miss hg⟩⟩
    simp [Builtin.delete_, run_underlying hu, MapKept.run_getObj_map hb, L.check, hf, MapKept.run_setObj_map _ hb, Result.andThen, setBlock]
  · refine ⟨es.eraseIdxIfInBounds i, ?_, .inr ⟨i, u, hi, erase_list es i, delM_hit hnd hi⟩⟩
    simp [Builtin.delete_, run_underlying hu, MapKept.run_getObj_map hb, L.check, hf, MapKept.run_setObj_map _ hb, Result.andThen, setBlock]
theorem mem_erase {γ : Type} {l : List γ} {i : Nat} {x : γ} (h : x ∈ l.eraseIdx i) : x ∈ l := (List.eraseIdx_sublist l i).subset h
theorem r_delM [DecidableEq α] (L : KeyLaw P K ek) {T : TypeId} {t : TypeId} {pos : String} {aft : Array Edge} {x y : Operand} {a : α} (hu : P.underlying T = some (.map K E)) (hx : opv f x = .map (some b)) (hy : opv f y = ek a)
    (h : MapIs w b ek ev m) (h2 : ∀ w', Evo w w' [b] → w'.heap.size = w.heap.size → MapIs w' b ek ev (delM m a) → KL P B n ops k rest f w') :
    KL P B n ops k (⟨none, .call ⟨.builtin .delete, #[x, y], #[T, K]⟩, t, pos, aft, none⟩ :: rest) f w := by
  obtain ⟨es, c, hb, he, hbn, hlt, hnd⟩ := h.ex
  obtain ⟨es', hr, hc⟩ := run_delM (ty := t) L hu a hb h
  refine r_opv0 (v := .tuple #[]) (w' := setBlock w b (.map es' c)) rfl rfl (run_builtin (s := Builtin.delete_ #[T, K] t #[.map (some b), ek a]) rfl (by simp [hx, hy]) (fun cs => rfl) hr) (h2 _ (Evo.setB _ _ _) (by simp [setBlock]) ⟨es', c, heap_setB h.lt _, ?_, ?_, ?_, delM_keys m a hnd⟩)
  · rcases hc with ⟨h1, h3⟩ | ⟨i, v, _, h1, h3⟩
    · rw [h1, h3]; exact he
    · rw [h1, h3, eraseIdx_map, he, ← eraseIdx_map]
  · rcases hc with ⟨h1, _⟩ | ⟨i, v, _, h1, _⟩
    · rw [h1]; exact hbn
    · rw [h1]; exact hbn.sublist ((List.eraseIdx_sublist _ _).map _)
  · intro e hm
    rcases hc with ⟨h1, _⟩ | ⟨i, v, _, h1, _⟩
    · rw [h1] at hm; exact hlt e hm
    · rw [h1] at hm; exact hlt e (mem_erase hm)
end
end Go.Vc
namespace Go.Vc
open Go Go.RowKit Go.IntWalk
abbrev idV : Value → Value := fun v => v
abbrev nilV : Value := .slice none 0 0
def atV {α : Type} [DecidableEq α] (M : List (α × Value)) (k : α) : Value := (getM M k).getD nilV
structure FamM {α β : Type} [DecidableEq α] [Enc β] (w : World) (E : TypeId) (M : List (α × Value)) (P : α → List β) (F : List Nat) : Prop where
  own : ∀ k, OwnE w 0 E (atV M k) (P k)
  foot : ∀ k g, (atV M k).ownBlock = some g → g ∈ F
  apart : ∀ k k' g, (atV M k).ownBlock = some g → (atV M k').ownBlock = some g → k = k'
section
variable {α β : Type} [DecidableEq α] [Enc β] {w w' : World} {E : TypeId} {M M' : List (α × Value)} {P P' : α → List β} {F F' X : List Nat} {k : α} {v2 : Value} {l2 : List β} {m : Nat} {ek : α → Value}
theorem atV_set (M : List (α × Value)) (k : α) (v : Value) (y : α) : atV (setM M k v) y = if y = k then v else atV M y := by
  unfold atV; rw [getM_setM]; by_cases h : k = y
  · rw [if_pos h, if_pos h.symm]; rfl
  · rw [if_neg h, if_neg (fun e => h e.symm)]
theorem getM_delM (M : List (α × Value)) (k y : α) : getM (delM M k) y = if y = k then none else getM M y := by
  unfold getM delM
  rw [List.find?_filter]
  by_cases h : y = k
  · subst h
    rw [if_pos rfl]
    simp only [Option.map_eq_none_iff, List.find?_eq_none]
    intro p _ h2
    simp only [Bool.and_eq_true, Bool.not_eq_true', decide_eq_true_eq, decide_eq_false_iff_not] at h2
    exact h2.1 h2.2
  · rw [if_neg h]
    congr 2
    funext p
    by_cases e : p.1 = y
    · have : ¬ p.1 = k := fun q => h (e ▸ q)
      simp [e, h]
    · simp [e]
theorem atV_del (M : List (α × Value)) (k y : α) : atV (delM M k) y = if y = k then nilV else atV M y := by
  unfold atV; rw [getM_delM]; split <;> rfl
theorem FamM.nil (w : World) (E : TypeId) (F : List Nat) : FamM (α := α) (β := β) w E [] (fun _ => []) F :=
  ⟨fun _ => OwnE.nil _ _ _, fun _ _ h => (by cases (show (none : Option Nat) = some _ from h)), fun _ _ _ h => (by cases (show (none : Option Nat) = some _ from h))⟩
theorem FamM.evo (h : FamM w E M P F) (he : Evo w w' X) (hX : ∀ g ∈ F, g ∉ X) : FamM w' E M P F := ⟨fun k => (h.own k).evo he (fun g hg => hX g (h.foot k g hg)), h.foot, h.apart⟩
theorem FamM.mono (h : FamM w E M P F) (hF : ∀ g ∈ F, g ∈ F') : FamM w E M P F' := ⟨h.own, fun k g hg => hF g (h.foot k g hg), h.apart⟩
theorem FamM.congr (h : FamM w E M P F) (hP : ∀ k, P k = P' k) : FamM w E M P' F := ⟨fun k => hP k ▸ h.own k, h.foot, h.apart⟩
theorem FamM.lt (h : FamM w E M P F) {g : Nat} (hg : (atV M k).ownBlock = some g) : g < w.heap.size := ((h.own k).block hg).2
theorem FamM.put (h : FamM w E M P F) (he : Evo w w' X) (hX : ∀ x ∈ X, x < w.heap.size → x ∈ F → (atV M k).ownBlock = some x) (hM : ∀ y, atV M' y = if y = k then v2 else atV M y) (ho : OwnE w' 0 E v2 l2)
    (hb : v2.ownBlock = (atV M k).ownBlock ∨ ∃ g, v2.ownBlock = some g ∧ w.heap.size ≤ g) (hP : ∀ y, P' y = if y = k then l2 else P y) : FamM w' E M' P' (v2.ownBlock.toList ++ F) := by
  have h1 : ∀ y g, y ≠ k → v2.ownBlock = some g → (atV M y).ownBlock = some g → False := fun y g hy hg hg2 => by
    rcases hb with hb | ⟨q, hq, hq2⟩
    · exact hy (h.apart y k g hg2 (hb ▸ hg))
    · rw [hg] at hq; injection hq with hq; have := h.lt hg2; omega
  refine ⟨fun y => ?_, fun y g hg => ?_, fun y y' g hg hg2 => ?_⟩
  · rw [hM, hP]
    by_cases e : y = k
    · rw [if_pos e, if_pos e]; exact ho
    · rw [if_neg e, if_neg e]
      exact (h.own y).evo he (fun g hg hm => e (h.apart y k g hg (hX g hm (h.lt hg) (h.foot y g hg))))
  · rw [hM] at hg
    by_cases e : y = k
    · rw [if_pos e] at hg; exact List.mem_append_left _ (Option.mem_toList.2 hg)
    · rw [if_neg e] at hg; exact List.mem_append_right _ (h.foot y g hg)
  · rw [hM] at hg hg2
    by_cases e : y = k
    · by_cases e2 : y' = k
      · rw [e, e2]
      · rw [if_pos e] at hg; rw [if_neg e2] at hg2; exact (h1 y' g e2 hg hg2).elim
    · by_cases e2 : y' = k
      · rw [if_neg e] at hg; rw [if_pos e2] at hg2; exact (h1 y g e hg2 hg).elim
      · rw [if_neg e] at hg; rw [if_neg e2] at hg2; exact h.apart y y' g hg hg2
theorem FamM.del (h : FamM w E M P F) (he : Evo w w' X) (hX : ∀ g ∈ F, g ∉ X) (hk : P k = []) : FamM w' E (delM M k) P F := by
  refine ⟨fun y => ?_, fun y g hg => ?_, fun y y' g hg hg2 => ?_⟩
  · rw [atV_del]
    by_cases e : y = k
    · rw [if_pos e, e, hk]; exact OwnE.nil _ _ _
    · rw [if_neg e]; exact (h.own y).evo he (fun g hg => hX g (h.foot y g hg))
  · rw [atV_del] at hg
    by_cases e : y = k
    · rw [if_pos e] at hg; cases (show (none : Option Nat) = some _ from hg)
    · rw [if_neg e] at hg; exact h.foot y g hg
  · rw [atV_del] at hg hg2
    by_cases e : y = k
    · rw [if_pos e] at hg; cases (show (none : Option Nat) = some _ from hg)
    · by_cases e2 : y' = k
      · rw [if_pos e2] at hg2; cases (show (none : Option Nat) = some _ from hg2)
      · rw [if_neg e] at hg; rw [if_neg e2] at hg2; exact h.apart y y' g hg hg2
end
def FamIs {α β : Type} [DecidableEq α] [Enc β] (w : World) (m : Nat) (ek : α → Value) (E : TypeId) (P : α → List β) (F : List Nat) : Prop := ∃ M, MapIs w m ek idV M ∧ FamM w E M P F ∧ m ∉ F ∧ ∀ g ∈ F, g < w.heap.size
section
variable {α β : Type} [DecidableEq α] [Enc β] {w w' : World} {E : TypeId} {P P' : α → List β} {F F' X : List Nat} {k : α} {m : Nat} {ek : α → Value}
theorem FamIs.lt (h : FamIs w m ek E P F) : m < w.heap.size := let ⟨_, h1, _⟩ := h; h1.lt
theorem FamIs.flt (h : FamIs w m ek E P F) : ∀ g ∈ F, g < w.heap.size := let ⟨_, _, _, _, h1⟩ := h; h1
theorem FamIs.evo (h : FamIs w m ek E P F) (he : Evo w w' X) (hm : m ∉ X) (hX : ∀ g ∈ F, g ∉ X) : FamIs w' m ek E P F := by
  obtain ⟨M, h1, h2, h3, h4⟩ := h
  exact ⟨M, h1.evo he hm, h2.evo he hX, h3, fun g hg => Nat.lt_of_lt_of_le (h4 g hg) he.size⟩
theorem FamIs.evo0 (h : FamIs w m ek E P F) (he : Evo w w' []) : FamIs w' m ek E P F := h.evo he (by simp) (by simp)
theorem FamIs.congr (h : FamIs w m ek E P F) (hP : ∀ k, P k = P' k) : FamIs w m ek E P' F := by
  obtain ⟨M, h1, h2, h3, h4⟩ := h
  exact ⟨M, h1, h2.congr hP, h3, h4⟩
theorem FamIs.made {b : Nat} (h : MapIs w b ek idV ([] : List (α × Value))) : FamIs (β := β) w b ek E (fun _ => []) [] := ⟨[], h, FamM.nil _ _ _, by simp, by simp⟩
theorem FamIs.put {M : List (α × Value)} {v2 : Value} {l2 : List β} (h2 : FamM w E M P F) (h3 : m ∉ F) (h4 : ∀ g ∈ F, g < w.heap.size) (hmw : m < w.heap.size) (he : Evo w w' ([m] ++ (atV M k).ownBlock.toList)) {M' : List (α × Value)} (h1 : MapIs w' m ek idV M') (hM : ∀ y, atV M' y = if y = k then v2 else atV M y)
    (ho : OwnE w' 0 E v2 l2) (hb : v2.ownBlock = (atV M k).ownBlock ∨ ∃ g, v2.ownBlock = some g ∧ w.heap.size ≤ g) (hP : ∀ y, P' y = if y = k then l2 else P y) : FamIs w' m ek E P' (v2.ownBlock.toList ++ F) := by
  refine ⟨M', h1, h2.put he (fun x hx _ hF => ?_) hM ho hb hP, fun hm => ?_, fun g hg => ?_⟩
  · rcases List.mem_append.1 hx with hx | hx
    · have : x = m := by simpa using hx
      subst this; exact absurd hF h3
    · exact Option.mem_toList.1 hx
  · rcases List.mem_append.1 hm with hm | hm
    · have hv := Option.mem_toList.1 hm
      rcases hb with hb | ⟨g, hg, hg2⟩
      · exact h3 (h2.foot k m (hb ▸ hv))
      · rw [hv] at hg; injection hg with hg; omega
    · exact h3 hm
  · rcases List.mem_append.1 hg with hg | hg
    · exact (ho.block (Option.mem_toList.1 hg)).2
    · exact Nat.lt_of_lt_of_le (h4 g hg) he.size
theorem set_twice {M : List (α × Value)} {k : α} {u v : Value} : ∀ y, atV (setM (setM M k u) k v) y = if y = k then v else atV M y := fun y => by
  rw [setM_twice, atV_set]
end
theorem StampIs.evo2 {α : Type} {w w' : World} {b : Nat} {ek : α → Value} {a : α} {s : Int} {X : List Nat} (h : StampIs w b ek a s) (he : Evo w w' X) (hn : b ∉ X) : StampIs w' b ek a s := by
  obtain ⟨es, c, i, e, h1, h2⟩ := h
  have hb : b < w.heap.size := by
    rcases Nat.lt_or_ge b w.heap.size with h3 | h3
    · exact h3
    · rw [Array.getElem?_eq_none h3] at h1; cases h1
  exact ⟨es, c, i, e, (he.same b hb hn).trans h1, h2⟩
section
variable {α : Type} [Enc α] {w : World} {base : Nat} {E : TypeId} {v : Value} {l : List α} {P : Program}
theorem flat_rep (y0 : α) : ∀ n, ((List.replicate n y0).map (Enc.enc : α → List Value)).flatten = (List.replicate n (Enc.enc y0)).flatten
  | 0 => rfl
  | n + 1 => by rw [List.replicate_succ, List.map_cons, List.flatten_cons, flat_rep y0 n, List.replicate_succ, List.flatten_cons]
theorem flat_len (l : List α) : (l.map (Enc.enc : α → List Value)).flatten.length = l.length * Enc.n α := by
  have := flatten_length (l.map (Enc.enc : α → List Value)) (Enc.n α) (fun c hc => by
    obtain ⟨x, _, rfl⟩ := List.mem_map.1 hc; exact Enc.len x)
  rwa [List.length_map] at this
theorem run_clearO {T ty : TypeId} {m bb : Nat} {z : Value} {y0 : α} (hu : P.underlying T = some (.slice E)) (ht : tyP P E = some (m, bb, some z)) (hz : z.cells = (Enc.enc y0).toArray) (hm : m = Enc.n α) (hown : OwnE w base E v l)
    {ao : Option Addr} {cap : Nat} (hv : v = .slice ao l.length cap) (i : Nat) (hi : i ≤ l.length) :
    ∃ w', (Builtin.clear_ #[T] ty #[.slice (if cap = i then ao else ao.map (·.add (i * m))) (l.length - i) (cap - i)]).run P w = .ok (.tuple #[]) w' ∧ Evo w w' v.ownBlock.toList ∧ w'.heap.size = w.heap.size ∧ OwnE w' base E v (l.take i ++ List.replicate (l.length - i) y0) := by
  rcases Nat.lt_or_ge i l.length with hlt | hge
  · have hle : l.length ≤ cap := by
      obtain ⟨_, _, _, h1, h2, _⟩ := hown.rowOf
      rw [hv] at h1; cases h1; exact h2.le
    rcases hown.row.2 with ⟨hv2, hn⟩ | ⟨g, cap2, cur, hv2, hb, hblk, hn, hcap, hs, htk⟩
    · rw [List.length_map] at hn; omega
    · have e1 : ao = some ⟨g, 0, none⟩ ∧ cap = cap2 := by rw [hv] at hv2; injection hv2 with a1 a2 a3; exact ⟨a1, a3⟩
      obtain ⟨rfl, rfl⟩ := e1
      subst hm
      have hp := Enc.pos (α := α)
      rw [List.length_map] at hn htk
      obtain ⟨vs, hvs⟩ : ∃ vs, vs = (List.replicate (l.length - i) (Enc.enc y0)).flatten := ⟨_, rfl⟩
      have hvl : vs.length = (l.length - i) * Enc.n α := by rw [hvs, ← flat_rep, flat_len, List.length_replicate]
      have hzc : (Builtin.zeroCells z.cells (l.length - i)).toList = vs := by
        unfold Builtin.zeroCells
        have h1 := zeros_cells hz (Enc.len y0) hp (l.length - i)
        have hsz : z.cells.size = Enc.n α := by rw [hz]; simpa using Enc.len y0
        rw [hsz] at h1 ⊢
        rw [h1, hvs]
      have hfit : i * Enc.n α + (l.length - i) * Enc.n α = l.length * Enc.n α := by rw [← Nat.add_mul]; congr 1; omega
      have hcs : l.length * Enc.n α ≤ cap * Enc.n α := Nat.mul_le_mul_right _ hle
      have hst := run_storeCells_at P g (0 + i * Enc.n α) E vs 0 cur w hblk (by rw [hvl, hs]; omega) (fun u hu2 => by
        rw [hvs] at hu2
        obtain ⟨c, hc, hu3⟩ := List.mem_flatten.1 hu2
        rw [List.eq_of_mem_replicate hc] at hu3
        exact List.all_eq_true.1 (Enc.one y0) u hu3)
      have hcap2 : ¬ cap = i := by omega
      refine ⟨w.setRow g (cur.toList.take (0 + i * Enc.n α + 0) ++ vs ++ cur.toList.drop (0 + i * Enc.n α + 0 + vs.length)).toArray, ?_, ?_, ?_, ?_⟩
      · rw [if_neg hcap2]
        obtain ⟨q, hq⟩ : ∃ q, l.length - i = q + 1 := ⟨l.length - i - 1, by omega⟩
        rw [hq] at hzc
        simp only [Option.map_some, add_lit]
        simp [Builtin.clear_, run_underlying hu, run_zero ht, hq, hzc]
        simp at hst
        rw [hst]
        rfl
      · rw [hv2]; exact Evo.setRow _ _ _
      · simp
      · have hfl := flat_len l
        obtain ⟨R, hcur⟩ : ∃ R, cur.toList = (l.map (Enc.enc : α → List Value)).flatten ++ R := ⟨cur.toList.drop (l.length * Enc.n α), by rw [← htk, List.take_append_drop]⟩
        have hlen2 : (l.take i ++ List.replicate (l.length - i) y0).length = l.length := by rw [List.length_append, List.length_take, List.length_replicate]; omega
        have htake : (l.map (Enc.enc : α → List Value)).flatten.take (i * Enc.n α) = ((l.take i).map (Enc.enc : α → List Value)).flatten := by
          have h1 : l = l.take i ++ l.drop i := (List.take_append_drop i l).symm
          conv => lhs; rw [h1]
          rw [List.map_append, List.flatten_append]
          refine List.take_left' ?_
          rw [flat_len, List.length_take]; congr 1; omega
        refine ⟨⟨?_, .inr ⟨g, cap, _, ?_, hb, setRow_heap w g _ _ _ _ hblk, ?_, hcap, ?_, ?_⟩⟩, fun c hc => ?_, ?_⟩
        · rw [flat_len, List.length_map]
        · rw [hv2, List.length_map, List.length_map, hlen2]
        · rw [List.length_map, hlen2]; exact hn
        · simp only [List.size_toArray, List.length_append, List.length_take, List.length_drop, Array.length_toList]; rw [hvl, hs]; omega
        · rw [List.length_map, hlen2, List.map_append, List.flatten_append, flat_rep, ← hvs]
          simp only [Nat.zero_add, Nat.add_zero]
          have e2 : cur.toList.take (i * Enc.n α) = ((l.take i).map (Enc.enc : α → List Value)).flatten := by
            rw [hcur, List.take_append_of_le_length (by rw [hfl]; omega), htake]
          rw [e2]
          refine List.take_left' ?_
          rw [List.length_append, flat_len, hvl, List.length_take, ← hfit]
          congr 2; omega
        · obtain ⟨x, _, rfl⟩ := List.mem_map.1 hc; exact Enc.len x
        · rw [List.length_map, hlen2]; exact hown.bd
  · have e : l.length - i = 0 := by omega
    refine ⟨w, ?_, Evo.refl _ _, rfl, ?_⟩
    · rw [e]
      generalize (if cap = i then ao else ao.map (·.add (i * m))) = a
      cases a <;> simp [Builtin.clear_, run_underlying hu]
    · rw [e, List.take_of_length_le (by omega)]; simpa using hown
theorem r_clearO {B : Exit → Act → World → Prop} {n : Nat} {k : List Kont} {f : Fr} {ops : Array Oper} {rest : List Oper} {T t : TypeId} {pos : String} {aft : Array Edge} {x : Operand} {m bb : Nat} {z : Value} {y0 : α} (hu : P.underlying T = some (.slice E)) (ht : tyP P E = some (m, bb, some z)) (hz : z.cells = (Enc.enc y0).toArray) (hm : m = Enc.n α) (hown : OwnE w base E v l)
    {ao : Option Addr} {cap len : Nat} (hv : v = .slice ao len cap) (hlen : len = l.length) (i : Nat) (hi : i ≤ len) (hx : opv f x = .slice (if cap = i then ao else ao.map (·.add (i * m))) (len - i) (cap - i))
    (h : ∀ w', Evo w w' v.ownBlock.toList → w'.heap.size = w.heap.size → OwnE w' base E v (l.take i ++ List.replicate (l.length - i) y0) → KL P B n ops k rest f w') :
    KL P B n ops k (⟨none, .call ⟨.builtin .clear, #[x], #[T]⟩, t, pos, aft, none⟩ :: rest) f w := by
  subst hlen
  obtain ⟨w', hrun, he, hs, ho⟩ := run_clearO (ty := t) hu ht hz hm hown hv i hi
  exact r_opv0 (w' := w') rfl rfl (run_builtin (s := Builtin.clear_ #[T] t _) rfl (by simp only [List.map_toArray, List.map_cons, List.map_nil, hx]) (fun cs => rfl) hrun) (h w' he hs ho)
end
theorem OwnE.row_of {α : Type} [Enc α] {w : World} {base : Nat} {E : TypeId} {l : List α} {ao : Option Addr} {len cap : Nat} (h : OwnE w base E (.slice ao len cap) l) :
    len = l.length ∧ ∃ g, RowE w ao g 0 cap l ∧ (l ≠ [] → (Value.slice ao len cap).ownBlock = some g ∧ base ≤ g ∧ g < w.heap.size) := by
  obtain ⟨h1, g, h2, h3⟩ := Own.row_of h rfl
  exact ⟨by simpa using h1, g, h2, fun hl => h3 (by simpa using hl)⟩
theorem OwnE.le_cap {α : Type} [Enc α] {w : World} {base : Nat} {E : TypeId} {l : List α} {ao : Option Addr} {len cap : Nat} (h : OwnE w base E (.slice ao len cap) l) : l.length ≤ cap := let ⟨_, _, h1, _⟩ := h.row_of; h1.le
structure Sum3 where
  p : Int
  w : Int
  t : Int
  deriving Inhabited, DecidableEq
instance : Enc Sum3 := ⟨3, fun x => [.int .i64 x.p, .int .i64 x.w, .int .i64 x.t], fun _ => rfl, fun _ => rfl, by decide⟩
abbrev evS : Sum3 → Value := fun x => .agg (Enc.enc x).toArray
structure LV where
  ga : Option Addr
  gl : Nat
  gc : Nat
  cm : Option Nat
  s : Sum3
  tot : Int
abbrev LV.gs (x : LV) : Value := .slice x.ga x.gl x.gc
abbrev evL : LV → Value := fun x => .agg #[.slice x.ga x.gl x.gc, .map x.cm, .int .i64 x.s.p, .int .i64 x.s.w, .int .i64 x.s.t, .int .i64 x.tot]
open Go.Sort Go.Proofs in
theorem isort_of {P : Program} {fn : FuncId} (c : ∀ (blk off cap : Nat) (zs : List Int) (w : World), Holds (Value.int .i64) w blk off zs.toArray → blk < w.heap.size → zs.length < 4611686018427387904 →
      Calls P fn #[.slice (some ⟨blk, off, none⟩) zs.length cap] w fun e w' => e = .returned (.tuple #[]) ∧ ∃ n os, w' = grow (putRow (Value.int .i64) (Sort.ahead w n) blk off (zs.mergeSort fun x y => decide (x ≤ y)).toArray) os)
    (c0 : ∀ w : World, Calls P fn #[.slice none 0 0] w fun e w' => e = .returned (.tuple #[]) ∧ w' = w)
    {w : World} {base : Nat} {E : TypeId} {v : Value} {l : List Int} (h : OwnE w base E v l) :
    Calls P fn #[v] w fun e w' => e = .returned (.tuple #[]) ∧ Evo w w' v.ownBlock.toList ∧ OwnE w' base E v (l.mergeSort fun x y => decide (x ≤ y)) := by
  rcases h.open1 (enc1 := Value.int .i64) rfl (fun _ => rfl) with ⟨rfl, rfl⟩ | ⟨g, cap, cur, rfl, hb, hg, h2, h3, h4, h5⟩
  · refine (c0 w).mono ?_
    rintro e w' ⟨rfl, rfl⟩
    exact ⟨rfl, Evo.refl _ _, by simpa using h⟩
  · have hbd := h.bd
    refine (c g 0 cap l w (holds_of_blockI hg h5) (Array.getElem?_eq_some_iff.1 hg).1 (by omega)).mono ?_
    rintro e w' ⟨rfl, n, os, rfl⟩
    have hlen : (l.mergeSort fun x y => decide (x ≤ y)).length = l.length := by simp
    have hr := ownsRow_sortedI (n := n) (os := os) (ss := l) (ts := l.mergeSort fun x y => decide (x ≤ y)) hlen hb hg h2 h3 h4
    exact ⟨rfl, Evo.grown (grownBy_sortedI _), OwnE.of1 (enc1 := Value.int .i64) rfl (fun _ => rfl) (by omega) (by rw [hlen]; exact hr)⟩
end Go.Vc
namespace Go.Proofs.YthbcklajlmcifaaGreat
open Go Go.RowKit Go.Vc
def totT (l : List Vc.Item) : Int := sumZ (l.map fun x => wK x.kind)
def smL (l : List Vc.Item) : Sum3 := ⟨((wordsT l).length : Int) + 1, wN l, tN l⟩
def gcN (l : List Vc.Item) (p : Str × Str) : Nat := (pairsL [] (wordsT l)).count p
def ccN (l : List Vc.Item) (c : Vc.Item) : Nat := (clsL l).count c
abbrev Stored := List (Int × List Vc.Item)
section
variable {κ : Type}
def post (f : List Vc.Item → κ → Nat) (A : Stored) (k : κ) : List Range := A.filterMap fun q => if f q.2 k = 0 then none else some ⟨q.1, (f q.2 k : Int)⟩
variable {f : List Vc.Item → κ → Nat} {A : Stored} {k : κ} {id : Int} {l : List Vc.Item}
theorem post_add : post f (A ++ [(id, l)]) k = post f A k ++ (if f l k = 0 then [] else [⟨id, (f l k : Int)⟩]) := by
  unfold post
  rw [List.filterMap_append]
  by_cases h : f l k = 0
  · simp [h]
  · simp [h]
theorem post_add0 (h : f l k = 0) : post f (A ++ [(id, l)]) k = post f A k := by rw [post_add, if_pos h, List.append_nil]
theorem post_add1 (h : f l k ≠ 0) : post f (A ++ [(id, l)]) k = post f A k ++ [⟨id, (f l k : Int)⟩] := by rw [post_add, if_neg h]
def without (A : Stored) (id : Int) : Stored := A.filter (fun q => ! decide (q.1 = id))
theorem post_without : post f (without A id) k = (post f A k).filter (fun p => ! decide (p.lo = id)) := by
  unfold post without
  induction A with
  | nil => rfl
  | cons q A ih =>
    by_cases h : q.1 = id
    · rw [List.filter_cons_of_neg (by simp [h]), ih]
      by_cases h0 : f q.2 k = 0
      · rw [List.filterMap_cons, if_pos h0]
      · rw [List.filterMap_cons, if_neg h0, List.filter_cons_of_neg (by simp [h])]
    · rw [List.filter_cons_of_pos (by simp [h])]
      by_cases h0 : f q.2 k = 0
      · rw [List.filterMap_cons, if_pos h0, List.filterMap_cons, if_pos h0, ih]
      · rw [List.filterMap_cons, if_neg h0, List.filterMap_cons, if_neg h0, List.filter_cons_of_pos (by simp [h]), ih]
theorem post_mem {p : Range} (h : p ∈ post f A k) : ∃ q ∈ A, q.1 = p.lo ∧ (f q.2 k : Int) = p.hi ∧ f q.2 k ≠ 0 := by
  unfold post at h
  obtain ⟨q, hq, e⟩ := List.mem_filterMap.1 h
  by_cases h0 : f q.2 k = 0
  · rw [if_pos h0] at e; cases e
  · rw [if_neg h0] at e; injection e with e; subst e; exact ⟨q, hq, rfl, rfl, h0⟩
theorem mem_post {q : Int × List Vc.Item} (h : q ∈ A) (h0 : f q.2 k ≠ 0) : (⟨q.1, (f q.2 k : Int)⟩ : Range) ∈ post f A k := by
  unfold post
  exact List.mem_filterMap.2 ⟨q, h, by rw [if_neg h0]⟩
theorem post_ids_sub : ((post f A k).map (·.lo)).Sublist (A.map (·.1)) := by
  unfold post
  induction A with
  | nil => exact List.Sublist.refl _
  | cons q A ih =>
    by_cases h0 : f q.2 k = 0
    · rw [List.filterMap_cons, if_pos h0]; exact ih.cons _
    · rw [List.filterMap_cons, if_neg h0]; exact ih.cons_cons _
theorem post_nodup (h : (A.map (·.1)).Nodup) : ((post f A k).map (·.lo)).Nodup := h.sublist post_ids_sub
theorem post_len : (post f A k).length ≤ A.length := by have := (post_ids_sub (f := f) (A := A) (k := k)).length_le; simpa using this
theorem post_keep (hn : (A.map (·.1)).Nodup) (hA : (id, l) ∈ A) (h0 : f l k = 0) : post f (without A id) k = post f A k := by
  rw [post_without]
  refine List.filter_eq_self.2 fun p hp => ?_
  obtain ⟨q, hq, e1, _, e3⟩ := post_mem hp
  have hne : p.lo ≠ id := fun e => by
    have e2 : q = (id, l) := eq_of_key hn hq hA (e1.trans e)
    rw [e2] at e3; exact e3 h0
  simp [hne]
where
  eq_of_key {A : Stored} (hn : (A.map (·.1)).Nodup) {x y : Int × List Vc.Item} (hx : x ∈ A) (hy : y ∈ A) (h : x.1 = y.1) : x = y := by
    obtain ⟨i, hi, rfl⟩ := List.getElem_of_mem hx
    obtain ⟨j, hj, rfl⟩ := List.getElem_of_mem hy
    have : i = j := (List.getElem?_inj (by simpa using hi) hn (j := j)).1 (by rw [List.getElem?_map, List.getElem?_map, List.getElem?_eq_getElem hi, List.getElem?_eq_getElem hj]; exact congrArg some h)
    subst this; rfl
def mix [DecidableEq κ] (left : List κ) (P P' : κ → List Range) (y : κ) : List Range := if y ∈ left then P y else P' y
variable [DecidableEq κ] {P P' : κ → List Range} {left rest : List κ}
theorem mix_step (h : ∀ y, y ∈ left ↔ y = k ∨ y ∈ rest) (hk : k ∉ rest) : ∀ y, mix rest P P' y = if y = k then P' k else mix left P P' y := fun y => by
  unfold mix
  by_cases e : y = k
  · subst e; rw [if_neg hk, if_pos rfl]
  · rw [if_neg e]
    by_cases e2 : y ∈ rest
    · rw [if_pos e2, if_pos ((h y).2 (.inr e2))]
    · rw [if_neg e2, if_neg (fun q => ((h y).1 q).elim e e2)]
theorem mix_at (h : k ∈ left) : mix left P P' k = P k := if_pos h
theorem mix_nil (y : κ) : mix [] P P' y = P' y := if_neg (by simp)
theorem mix_all (h : ∀ y, y ∉ left → P y = P' y) (y : κ) : P y = mix left P P' y := by
  unfold mix
  split
  · rfl
  · exact h y ‹_›
end
theorem totT_succ {l : List Vc.Item} {k : Nat} (h : k < l.length) : totT (l.take (k + 1)) = totT (l.take k) + wK (l.getD k default).kind := by
  unfold totT; rw [take_succD l k h, List.map_append, sumZ_append]; simp [sumZ]
theorem totT_bd (l : List Vc.Item) : 0 ≤ totT l ∧ totT l ≤ 4 * (l.length : Int) := by
  unfold totT
  refine ⟨sumZ_nonneg fun x hx => ?_, ?_⟩
  · obtain ⟨y, _, rfl⟩ := List.mem_map.1 hx; exact (wK_bd y.kind).1
  · have := sumZ_le (l := l.map fun x => wK x.kind) (n := 4) (by decide) (fun x hx => by
      obtain ⟨y, _, rfl⟩ := List.mem_map.1 hx; exact (wK_bd y.kind).2)
    rw [List.length_map] at this; omega
def allowL (t p : Int) : Int := if 100 < p then -1 else if p < 1 ∨ t < 1 then 1073741824 else (min t 1073741824 * (100 - p)).tdiv 100
theorem allow_a {t p : Int} (h : 100 < p) : (-1 : Int) = allowL t p := (if_pos h).symm
theorem allow_b {t p : Int} (h : ¬ 100 < p) (h2 : p < 1 ∨ t < 1) : (1073741824 : Int) = allowL t p := by unfold allowL; rw [if_neg h, if_pos h2]
theorem allow_c {t p : Int} (h : ¬ 100 < p) (h2 : ¬ (p < 1 ∨ t < 1)) : (min t 1073741824 * (100 - p)).tdiv 100 = allowL t p := by unfold allowL; rw [if_neg h, if_neg h2]
theorem allow_mul {t p : Int} (h : ¬ 100 < p) (h2 : ¬ (p < 1 ∨ t < 1)) : 0 ≤ min t 1073741824 * (100 - p) ∧ min t 1073741824 * (100 - p) ≤ 107374182400 := by
  have h0 : 0 ≤ min t 1073741824 := by omega
  have h1 : min t 1073741824 ≤ 1073741824 := by omega
  refine ⟨Int.mul_nonneg h0 (by omega), ?_⟩
  have := Int.mul_le_mul h1 (show 100 - p ≤ 100 by omega) (by omega) (by omega)
  omega
theorem td2_bd (x : Int) (h : -2000000000 ≤ x ∧ x ≤ 2000000000) : -2000000000 ≤ x.tdiv 2 ∧ x.tdiv 2 ≤ 2000000000 := by
  rcases Int.le_total 0 x with h0 | h0
  · rw [Int.tdiv_eq_ediv_of_nonneg h0]; omega
  · have e : x.tdiv 2 = -((-x).tdiv 2) := by rw [Int.neg_tdiv, Int.neg_neg]
    rw [e, Int.tdiv_eq_ediv_of_nonneg (by omega)]; omega
def Sm3 (s : Sum3) : Prop := 0 ≤ s.p ∧ s.p ≤ 1000000000 ∧ 0 ≤ s.w ∧ s.w ≤ 1000000000 ∧ 0 ≤ s.t ∧ s.t ≤ 1000000000
def bndL (a b c : Sum3) : Int := max (max a.w b.w - c.w + 3 * (a.t + b.t - 2 * c.t)) (4 * ((max a.p b.p - c.p + 1).tdiv 2))
theorem wN_snoc {l l' : List Vc.Item} {c : Vc.Item} (h : clsL l' = clsL l ++ [c]) : wN l' = wN l + wC c := by unfold wN; rw [h, List.map_append, sumZ_append]; simp [sumZ]
theorem tN_snoc {l l' : List Vc.Item} {c : Vc.Item} (h : clsL l' = clsL l ++ [c]) : tN l' = tN l + tC c := by unfold tN; rw [h, List.map_append, sumZ_append]; simp [sumZ]
theorem wN_same {l l' : List Vc.Item} (h : clsL l' = clsL l) : wN l' = wN l := by unfold wN; rw [h]
theorem tN_same {l l' : List Vc.Item} (h : clsL l' = clsL l) : tN l' = tN l := by unfold tN; rw [h]
theorem wC_tag {c : Vc.Item} (h : tgB c) : wC c = 0 ∧ tC c = 1 := ⟨if_pos h, if_pos h⟩
theorem wC_not {c : Vc.Item} (h : ¬ tgB c) : wC c = wK c.kind ∧ tC c = 0 := ⟨if_neg h, if_neg h⟩
theorem wC_bd (c : Vc.Item) : 0 ≤ wC c ∧ wC c ≤ 4 := by unfold wC; have := wK_bd c.kind; split <;> omega
theorem tC_bd (c : Vc.Item) : 0 ≤ tC c ∧ tC c ≤ 1 := by unfold tC; split <;> omega
theorem wN_bd (l : List Vc.Item) : 0 ≤ wN l ∧ wN l ≤ 4 * (l.length : Int) := by
  have h := cls_len l
  unfold wN
  refine ⟨sumZ_nonneg fun x hx => ?_, ?_⟩
  · obtain ⟨y, _, rfl⟩ := List.mem_map.1 hx; exact (wC_bd y).1
  · have := sumZ_le (l := (clsL l).map wC) (n := 4) (by decide) (fun x hx => by
      obtain ⟨y, _, rfl⟩ := List.mem_map.1 hx; exact (wC_bd y).2)
    rw [List.length_map] at this; omega
theorem tN_bd (l : List Vc.Item) : 0 ≤ tN l ∧ tN l ≤ (l.length : Int) := by
  have h := cls_len l
  unfold tN
  refine ⟨sumZ_nonneg fun x hx => ?_, ?_⟩
  · obtain ⟨y, _, rfl⟩ := List.mem_map.1 hx; exact (tC_bd y).1
  · have := sumZ_le (l := (clsL l).map tC) (n := 1) (by decide) (fun x hx => by
      obtain ⟨y, _, rfl⟩ := List.mem_map.1 hx; exact (tC_bd y).2)
    rw [List.length_map] at this; omega
theorem sm3_of {l : List Vc.Item} (h : l.length ≤ 1000000) : Sm3 (smL l) := by
  have h1 := wN_bd l
  have h2 := tN_bd l
  have h3 := wordsT_len l
  unfold Sm3 smL; dsimp only; omega
theorem sumC_part {g : List Gram} (h : ∀ x ∈ g, 0 ≤ x.count) (k : Nat) : 0 ≤ sumC (g.take k) ∧ sumC (g.take k) ≤ sumC g := by
  have h1 : ∀ {g : List Gram}, (∀ x ∈ g, 0 ≤ x.count) → 0 ≤ sumC g := fun {g} h => sumZ_nonneg fun x hx => by
    obtain ⟨y, hy, rfl⟩ := List.mem_map.1 hx; exact h y hy
  refine ⟨h1 fun x hx => h x (List.mem_of_mem_take hx), ?_⟩
  have e : sumC g = sumC (g.take k) + sumC (g.drop k) := by
    conv => lhs; rw [← List.take_append_drop k g]
    unfold sumC; rw [List.map_append, sumZ_append]
  have := h1 (g := g.drop k) fun x hx => h x (List.mem_of_mem_drop hx)
  omega
theorem gsum_bd (ws : List Str) (k : Nat) : 0 ≤ sumC ((gramsL ws).take k) ∧ sumC ((gramsL ws).take k) ≤ (ws.length : Int) + 1 := by
  have h := sumC_part (g := gramsL ws) (fun x hx => by
    have := (gramsOf_count (ps := pairsL [] ws) hx).1; omega) k
  rw [sumC_grams] at h; exact h
theorem gramsL_nodup (ws : List Str) : ((gramsL ws).map prG).Nodup :=
  List.pairwise_map.2 ((gramsOk_of (pairsL [] ws)).1.imp fun {x y} (h : ltP (prG x) (prG y)) (e : prG x = prG y) => ltP_irrefl (prG y) (by rw [e] at h; exact h))
theorem gram_count {l : List Vc.Item} {x : Gram} (h : x ∈ gramsL (wordsT l)) : x.count = (gcN l (prG x) : Int) ∧ gcN l (prG x) ≠ 0 := by
  have h1 := (gramsOk_of (pairsL [] (wordsT l))).2.1 x h
  refine ⟨h1.2, ?_⟩
  have := h1.1
  unfold gcN; omega
theorem gram_none {l : List Vc.Item} {p : Str × Str} (h : p ∉ (gramsL (wordsT l)).map prG) : gcN l p = 0 := by
  unfold gcN
  rw [List.count_eq_zero]
  intro q
  obtain ⟨x, hx, e⟩ := (gramsOk_of (pairsL [] (wordsT l))).2.2 p q
  exact h (e ▸ List.mem_map_of_mem hx)
theorem drop_mem {α : Type} [Inhabited α] {g : List α} {k : Nat} (h : k < g.length) : g.drop k = g.getD k default :: g.drop (k + 1) := by
  rw [List.drop_eq_getElem_cons h]; simp [List.getD, h]
theorem keys_drop {g : List Gram} {k : Nat} (h : k < g.length) : ∀ y, y ∈ (g.drop k).map prG ↔ y = prG (g.getD k default) ∨ y ∈ (g.drop (k + 1)).map prG := fun y => by
  rw [drop_mem h, List.map_cons, List.mem_cons]
theorem keys_drop_no {g : List Gram} {k : Nat} (hn : (g.map prG).Nodup) (h : k < g.length) : prG (g.getD k default) ∉ (g.drop (k + 1)).map prG := by
  have h1 : ((g.drop k).map prG).Nodup := hn.sublist ((List.drop_sublist k g).map _)
  rw [drop_mem h, List.map_cons, List.nodup_cons] at h1
  exact h1.1
theorem cnt_mem {l : List Vc.Item} {M : List (Vc.Item × Int)} (hM : ∀ x, getM M x = cntO (clsL l) x) (hn : (M.map (·.1)).Nodup) {p : Vc.Item × Int} (h : p ∈ M) : p.2 = (ccN l p.1 : Int) ∧ ccN l p.1 ≠ 0 := by
  have h1 := getM_memP hn h
  rw [hM] at h1
  unfold cntO at h1
  by_cases h2 : p.1 ∈ clsL l
  · rw [if_pos h2] at h1
    injection h1 with h1
    exact ⟨h1.symm, by have := List.count_pos_iff.2 h2; unfold ccN; omega⟩
  · rw [if_neg h2] at h1; cases h1
theorem cnt_none {l : List Vc.Item} {M : List (Vc.Item × Int)} (hM : ∀ x, getM M x = cntO (clsL l) x) {c : Vc.Item} (h : c ∉ M.map (·.1)) : ccN l c = 0 := by
  unfold ccN
  rw [List.count_eq_zero]
  intro q
  have h1 := hM c
  unfold cntO at h1
  rw [if_pos q] at h1
  exact h (List.mem_map_of_mem (f := (·.1)) (getM_memQ h1))
theorem keys_split {α β : Type} {l1 l2 : List (α × β)} {p : α × β} : ∀ y, y ∈ (l1 ++ p :: l2).map (·.1) ↔ y = p.1 ∨ y ∈ (l1 ++ l2).map (·.1) := fun y => by
  simp only [List.map_append, List.map_cons, List.mem_append, List.mem_cons]
  constructor
  · rintro (h | h | h)
    · exact .inr (.inl h)
    · exact .inl h
    · exact .inr (.inr h)
  · rintro (h | h | h)
    · exact .inr (.inl h)
    · exact .inl h
    · exact .inr (.inr h)
theorem keys_split_no {α β : Type} {l1 l2 : List (α × β)} {p : α × β} (h : ((l1 ++ p :: l2).map (·.1)).Nodup) : p.1 ∉ (l1 ++ l2).map (·.1) := by
  have h1 : (p.1 :: (l1 ++ l2).map (·.1)).Nodup := by
    refine (List.Perm.nodup_iff ?_).1 h
    rw [List.map_append, List.map_cons, List.map_append]
    exact List.perm_middle
  exact (List.nodup_cons.1 h1).1
def keepB (id : Int) (p : Range) : Bool := ! decide (p.lo = id)
theorem keepB_no {id : Int} {p : Range} (h : p.lo = id) : ¬ keepB id p = true := by unfold keepB; rw [decide_eq_true h]; decide
theorem keepB_yes {id : Int} {p : Range} (h : ¬ p.lo = id) : keepB id p = true := by unfold keepB; rw [decide_eq_false h]; rfl
structure DelI (id : Int) (l C : List Range) (i j : Nat) : Prop where
  len : C.length = l.length
  head : C.take i = (l.take j).filter (keepB id)
  tail : C.drop j = l.drop j
  lt : i < j
  le : j ≤ l.length
theorem DelI.start {id : Int} {l : List Range} {k : Nat} (hk : k < l.length) (h : (l.getD k default).lo = id) (hno : ∀ j, j < k → ¬ (l.getD j default).lo = id) : DelI id l l k (k + 1) := by
  refine ⟨rfl, ?_, rfl, by omega, hk⟩
  rw [take_succD l k hk, List.filter_append, List.filter_cons_of_neg (keepB_no h), List.filter_nil, List.append_nil]
  refine (List.filter_eq_self.2 fun p hp => ?_).symm
  obtain ⟨q, hq, rfl⟩ := List.getElem_of_mem hp
  rw [List.length_take] at hq
  have h1 := hno q (by omega)
  have e : l.getD q default = l[q] := by simp [List.getD, show q < l.length by omega]
  rw [e] at h1
  rw [List.getElem_take]
  exact keepB_yes h1
theorem DelI.at {id : Int} {l C : List Range} {i j : Nat} (h : DelI id l C i j) (hj : j < l.length) : C.getD j default = l.getD j default := by
  have h1 := congrArg (·[0]?) h.tail
  simp only [List.getElem?_drop, Nat.add_zero] at h1
  simp only [List.getD, h1]
theorem DelI.skip {id : Int} {l C : List Range} {i j : Nat} (h : DelI id l C i j) (hj : j < l.length) (hk : (l.getD j default).lo = id) : DelI id l C i (j + 1) := by
  refine ⟨h.len, ?_, ?_, by have := h.lt; omega, hj⟩
  · rw [take_succD l j hj, List.filter_append, List.filter_cons_of_neg (keepB_no hk), List.filter_nil, List.append_nil]; exact h.head
  · rw [← List.drop_drop, ← List.drop_drop, h.tail]
theorem DelI.keep {id : Int} {l C : List Range} {i j : Nat} (h : DelI id l C i j) (hj : j < l.length) (hk : ¬ (l.getD j default).lo = id) : DelI id l (C.set i (l.getD j default)) (i + 1) (j + 1) := by
  have hi := h.lt
  have hl := h.len
  refine ⟨by rw [List.length_set]; exact h.len, ?_, ?_, by omega, hj⟩
  · rw [take_succD l j hj, List.filter_append, List.filter_cons_of_pos (keepB_yes hk), List.filter_nil, ← h.head]
    rw [take_succD _ i (by rw [List.length_set]; omega)]
    congr 1
    · rw [List.take_set_of_le (Nat.le_refl _)]
    · simp [List.getD, show i < C.length by omega]
  · rw [List.drop_set_of_lt (by omega), ← List.drop_drop, ← List.drop_drop, h.tail]
theorem DelI.done {id : Int} {l C : List Range} {i j : Nat} (h : DelI id l C i j) (hj : l.length ≤ j) : C.take i = l.filter (keepB id) := by
  rw [h.head, List.take_of_length_le hj]
theorem del_none {id : Int} {l : List Range} (h : ∀ j, j < l.length → ¬ (l.getD j default).lo = id) : l.filter (keepB id) = l := by
  refine List.filter_eq_self.2 fun p hp => ?_
  obtain ⟨q, hq, rfl⟩ := List.getElem_of_mem hp
  have h1 := h q hq
  have e : l.getD q default = l[q] := by simp [List.getD, hq]
  rw [e] at h1
  exact keepB_yes h1
def cpN (a b : List Vc.Item) : Int := sumZ ((gramsL (wordsT a)).map fun g => min (gcN b (prG g) : Int) g.count)
def cmL (a b : List Vc.Item) : Sum3 := ⟨cpN a b, cwN a b, ctN a b⟩
def mnG (a b : List Vc.Item) (p : Str × Str) : Int := min (gcN a p : Int) (gcN b p : Int)
theorem cpN_keys (a b : List Vc.Item) : cpN a b = sumZ (((gramsL (wordsT a)).map prG).map (mnG a b)) := by
  unfold cpN
  rw [List.map_map]
  congr 1
  refine List.map_congr_left fun g hg => ?_
  have := (gram_count hg).1
  show min _ g.count = mnG a b (prG g)
  unfold mnG; omega
theorem cp_swap (a b : List Vc.Item) : cpN a b = cpN b a := by
  rw [cpN_keys, cpN_keys]
  have e : mnG b a = mnG a b := funext fun p => by unfold mnG; omega
  rw [e]
  refine sum_keys (gramsL_nodup _) (gramsL_nodup _) (fun p _ h => ?_) (fun p _ h => ?_)
  · have := gram_none h; unfold mnG; omega
  · have := gram_none h; unfold mnG; omega
theorem cpN_bd (a b : List Vc.Item) : 0 ≤ cpN a b ∧ cpN a b ≤ ((wordsT a).length : Int) + 1 := by
  have h0 : ∀ g ∈ gramsL (wordsT a), 0 ≤ g.count := fun g hg => by have := (gram_count hg).1; omega
  unfold cpN
  refine ⟨sumZ_nonneg fun x hx => ?_, ?_⟩
  · obtain ⟨g, hg, rfl⟩ := List.mem_map.1 hx; have := h0 g hg; omega
  · rw [← sumC_grams]
    exact sum_le fun g _ => by omega
theorem lack_sums (a b : List Vc.Item) (ha : a.length ≤ 1000000) (hb : b.length ≤ 1000000) : lackL (gramsL (wordsT a)) (gramsL (wordsT b)) = ((wordsT a).length : Int) + 1 - cpN a b := by
  have hwa := wordsT_len a
  have hwb := wordsT_len b
  have hn := gramsL_nodup (wordsT a)
  have e : sumZ ((dist ((gramsL (wordsT a)).map prG)).map (moreL (gramsL (wordsT a)) (gramsL (wordsT b)))) = sumC (gramsL (wordsT a)) - cpN a b := by
    rw [sum_keys (dist_nodup _) hn (fun x hx h => absurd ((dist_mem _ _).1 hx) h) (fun x hx h => absurd ((dist_mem _ _).2 hx) h)]
    unfold sumC cpN
    rw [← ix_sub, List.map_map]
    congr 1
    refine List.map_congr_left fun g hg => ?_
    have h1 := (gram_count hg).1
    have h2 := occ_grams (ws := wordsT a) (by omega) (prG g)
    have h3 := occ_grams (ws := wordsT b) (by omega) (prG g)
    show max (occL _ (prG g) - occL _ (prG g)) 0 = g.count - min (gcN b (prG g) : Int) g.count
    rw [h2, h3]
    unfold gcN at *; omega
  have h4 := cpN_bd a b
  unfold lackL
  rw [e, sumC_grams]; omega
theorem up_nonneg (a b : List Vc.Item) : 0 ≤ upL a b := sumZ_nonneg fun x hx => by
  obtain ⟨c, _, rfl⟩ := List.mem_map.1 hx; exact (upF_bd _ _).1
theorem sur_nonneg (a b : List Vc.Item) : 0 ≤ surL a b := sumZ_nonneg fun x hx => by
  obtain ⟨c, _, rfl⟩ := List.mem_map.1 hx; exact (tgF_bd _ _).1
theorem cw_bd (a b : List Vc.Item) : 0 ≤ cwN a b ∧ cwN a b ≤ wN a := by
  have h1 := up_sums a b
  have h2 := up_nonneg a b
  refine ⟨sumZ_nonneg fun x hx => ?_, by omega⟩
  obtain ⟨c, _, rfl⟩ := List.mem_map.1 hx
  have h3 := (wC_bd c).1
  exact Int.mul_nonneg (by unfold mnC; omega) h3
theorem ct_bd (a b : List Vc.Item) : 0 ≤ ctN a b ∧ 2 * ctN a b ≤ tN a + tN b := by
  have h1 := sur_sums a b
  have h2 := sur_nonneg a b
  refine ⟨sumZ_nonneg fun x hx => ?_, by omega⟩
  obtain ⟨c, _, rfl⟩ := List.mem_map.1 hx
  have h3 := (tC_bd c).1
  exact Int.mul_nonneg (by unfold mnC; omega) h3
theorem sm3_cm {a b : List Vc.Item} (ha : a.length ≤ 1000000) (hb : b.length ≤ 1000000) : Sm3 (cmL a b) := by
  have h1 := cpN_bd a b
  have h2 := cw_bd a b
  have h3 := ct_bd a b
  have h4 := wN_bd a
  have h5 := tN_bd a
  have h6 := tN_bd b
  have h7 := wordsT_len a
  unfold Sm3 cmL; dsimp only; omega
theorem bnd_sums (a b : List Vc.Item) (ha : a.length ≤ 1000000) (hb : b.length ≤ 1000000) : bndL (smL a) (smL b) (cmL a b) = boundL a b := by
  have h1 := lack_sums a b ha hb
  have h2 := lack_sums b a hb ha
  have h3 := cp_swap a b
  have h4 := bag_sums a b
  have h5 := cpN_bd a b
  have h6 := cpN_bd b a
  have e : mssL a b = max ((wordsT a).length + 1 : Int) ((wordsT b).length + 1) - cpN a b := by unfold mssL; rw [h1, h2, ← h3]; omega
  unfold bndL smL cmL boundL
  dsimp only
  rw [← h4, ← e]
  rw [Int.tdiv_eq_ediv_of_nonneg (by omega)]
def vS (m : List (Int × Sum3)) (id : Int) : Sum3 := (getM m id).getD ⟨0, 0, 0⟩
theorem vS_set (m : List (Int × Sum3)) (id : Int) (v : Sum3) (y : Int) : vS (setM m id v) y = if id = y then v else vS m y := by unfold vS; rw [getM_setM]; split <;> rfl
section
variable {κ : Type} {f : List Vc.Item → κ → Nat} {A : Stored} {key : κ} {base : List Vc.Item → Sum3} {up : Sum3 → Int → Sum3} {d : Int → Int} {j : Nat} {m : List (Int × Sum3)}
def InnS (f : List Vc.Item → κ → Nat) (A : Stored) (key : κ) (base : List Vc.Item → Sum3) (up : Sum3 → Int → Sum3) (d : Int → Int) (j : Nat) (m : List (Int × Sum3)) : Prop :=
  ∀ q ∈ A, vS m q.1 = if q.1 ∈ ((post f A key).take j).map (·.lo) then up (base q.2) (d (f q.2 key)) else base q.2
theorem InnS.start (h : ∀ q ∈ A, vS m q.1 = base q.2) : InnS f A key base up d 0 m := fun q hq => by rw [h q hq]; simp
theorem InnS.val (h : InnS f A key base up d j m) (hn : (A.map (·.1)).Nodup) (hj : j < (post f A key).length) : ∃ q ∈ A, q.1 = ((post f A key).getD j default).lo ∧ (f q.2 key : Int) = ((post f A key).getD j default).hi ∧ vS m ((post f A key).getD j default).lo = base q.2 := by
  obtain ⟨q, hq, e1, e2, _⟩ := post_mem (getD_in hj)
  refine ⟨q, hq, e1, e2, ?_⟩
  rw [← e1, h q hq, if_neg]
  intro h1
  have h2 := post_nodup (f := f) (k := key) hn
  obtain ⟨p, hp, e3⟩ := List.mem_map.1 h1
  obtain ⟨i, hi, rfl⟩ := List.getElem_of_mem hp
  rw [List.length_take] at hi
  rw [List.getElem_take] at e3
  have e4 : (post f A key).getD j default = (post f A key)[j] := by simp [List.getD, hj]
  rw [e4] at e1
  have := (List.getElem?_inj (i := i) (by rw [List.length_map]; omega) h2 (j := j)).1 (by rw [List.getElem?_map, List.getElem?_map, List.getElem?_eq_getElem (by omega), List.getElem?_eq_getElem hj]; exact congrArg some (e3.trans e1))
  omega
theorem InnS.step (h : InnS f A key base up d j m) (hn : (A.map (·.1)).Nodup) (hj : j < (post f A key).length) :
    InnS f A key base up d (j + 1) (setM m ((post f A key).getD j default).lo (up (vS m ((post f A key).getD j default).lo) (d ((post f A key).getD j default).hi))) := fun q hq => by
  obtain ⟨q0, hq0, e1, e2, e3⟩ := h.val hn hj
  have e4 : ((post f A key).take (j + 1)).map (·.lo) = ((post f A key).take j).map (·.lo) ++ [((post f A key).getD j default).lo] := by rw [take_succD _ j hj, List.map_append]; rfl
  rw [vS_set, e4]
  by_cases e : ((post f A key).getD j default).lo = q.1
  · have hqq : q0 = q := post_keep.eq_of_key hn hq0 hq (e1.trans e)
    subst hqq
    rw [if_pos e, if_pos (List.mem_append_right _ (List.mem_singleton.2 e.symm)), e3, ← e2]
  · rw [if_neg e, h q hq]
    have e5 : q.1 ∈ ((post f A key).take j).map (·.lo) ++ [((post f A key).getD j default).lo] ↔ q.1 ∈ ((post f A key).take j).map (·.lo) := by
      rw [List.mem_append, List.mem_singleton]
      exact ⟨fun h => h.elim id (fun h => absurd h.symm e), .inl⟩
    by_cases e6 : q.1 ∈ ((post f A key).take j).map (·.lo)
    · rw [if_pos e6, if_pos (e5.2 e6)]
    · rw [if_neg e6, if_neg (fun h => e6 (e5.1 h))]
theorem InnS.done (h : InnS f A key base up d j m) (hn : (A.map (·.1)).Nodup) (hj : (post f A key).length ≤ j) (h0 : ∀ s, up s (d 0) = s) : ∀ q ∈ A, vS m q.1 = up (base q.2) (d (f q.2 key)) := fun q hq => by
  rw [h q hq, List.take_of_length_le hj]
  by_cases e : f q.2 key = 0
  · rw [if_neg, e]
    · exact (h0 _).symm
    · intro h1
      obtain ⟨p, hp, e1⟩ := List.mem_map.1 h1
      obtain ⟨q2, hq2, e2, _, e4⟩ := post_mem hp
      have : q2 = q := post_keep.eq_of_key hn hq2 hq (e2.trans e1)
      subst this; exact e4 e
  · rw [if_pos (List.mem_map.2 ⟨_, mem_post hq e, rfl⟩)]
end
def upP (s : Sum3) (d : Int) : Sum3 := ⟨s.p + d, s.w, s.t⟩
def cpK (a b : List Vc.Item) (k : Nat) : Int := sumZ (((gramsL (wordsT a)).take k).map fun g => min (gcN b (prG g) : Int) g.count)
theorem cpK_succ {a b : List Vc.Item} {k : Nat} (h : k < (gramsL (wordsT a)).length) : cpK a b (k + 1) = cpK a b k + min (gcN b (prG ((gramsL (wordsT a)).getD k default)) : Int) ((gramsL (wordsT a)).getD k default).count := by
  unfold cpK; rw [take_succD _ k h, List.map_append, sumZ_append]; simp [sumZ]
theorem cpK_end {a b : List Vc.Item} {k : Nat} (h : (gramsL (wordsT a)).length ≤ k) : cpK a b k = cpN a b := by unfold cpK cpN; rw [List.take_of_length_le h]
theorem cpK_bd (a b : List Vc.Item) (k : Nat) : 0 ≤ cpK a b k ∧ cpK a b k ≤ ((wordsT a).length : Int) + 1 := by
  have h0 : ∀ g ∈ gramsL (wordsT a), 0 ≤ g.count := fun g hg => by have := (gram_count hg).1; omega
  have h1 := gsum_bd (wordsT a) k
  unfold cpK
  refine ⟨sumZ_nonneg fun x hx => ?_, Int.le_trans (sum_le fun g _ => ?_) h1.2⟩
  · obtain ⟨g, hg, rfl⟩ := List.mem_map.1 hx; have := h0 g (List.mem_of_mem_take hg); omega
  · omega
def cwD (dn : List (Vc.Item × Int)) (b : List Vc.Item) : Int := sumZ (dn.map fun p => min (ccN b p.1 : Int) p.2 * wC p.1)
def ctD (dn : List (Vc.Item × Int)) (b : List Vc.Item) : Int := sumZ (dn.map fun p => min (ccN b p.1 : Int) p.2 * tC p.1)
theorem cwD_snoc (dn : List (Vc.Item × Int)) (p : Vc.Item × Int) (b : List Vc.Item) : cwD (dn ++ [p]) b = cwD dn b + min (ccN b p.1 : Int) p.2 * wC p.1 := by unfold cwD; rw [List.map_append, sumZ_append]; simp [sumZ]
theorem ctD_snoc (dn : List (Vc.Item × Int)) (p : Vc.Item × Int) (b : List Vc.Item) : ctD (dn ++ [p]) b = ctD dn b + min (ccN b p.1 : Int) p.2 * tC p.1 := by unfold ctD; rw [List.map_append, sumZ_append]; simp [sumZ]
theorem cD_bd {dn : List (Vc.Item × Int)} {b : List Vc.Item} (h : ∀ p ∈ dn, 0 ≤ p.2 ∧ p.2 ≤ 1000000) (hl : dn.length ≤ 1000000) : (0 ≤ cwD dn b ∧ cwD dn b ≤ 4000000000000) ∧ 0 ≤ ctD dn b ∧ ctD dn b ≤ 1000000000000 := by
  have h1 := sumZ_le (l := dn.map fun p => min (ccN b p.1 : Int) p.2 * wC p.1) (n := 4000000) (by decide) (fun x hx => by
    obtain ⟨p, hp, rfl⟩ := List.mem_map.1 hx
    have h2 := h p hp
    have h3 := wC_bd p.1
    have := Int.mul_le_mul (show min (ccN b p.1 : Int) p.2 ≤ 1000000 by omega) h3.2 h3.1 (by decide)
    omega)
  have h4 := sumZ_le (l := dn.map fun p => min (ccN b p.1 : Int) p.2 * tC p.1) (n := 1000000) (by decide) (fun x hx => by
    obtain ⟨p, hp, rfl⟩ := List.mem_map.1 hx
    have h2 := h p hp
    have h3 := tC_bd p.1
    have := Int.mul_le_mul (show min (ccN b p.1 : Int) p.2 ≤ 1000000 by omega) h3.2 h3.1 (by decide)
    omega)
  have h5 : 0 ≤ cwD dn b := sumZ_nonneg fun x hx => by
    obtain ⟨p, hp, rfl⟩ := List.mem_map.1 hx
    have h2 := h p hp
    exact Int.mul_nonneg (by omega) (wC_bd p.1).1
  have h6 : 0 ≤ ctD dn b := sumZ_nonneg fun x hx => by
    obtain ⟨p, hp, rfl⟩ := List.mem_map.1 hx
    have h2 := h p hp
    exact Int.mul_nonneg (by omega) (tC_bd p.1).1
  rw [List.length_map] at h1 h4
  unfold cwD ctD at *
  omega
theorem cD_done {l b : List Vc.Item} {M dn : List (Vc.Item × Int)} {F : Vc.Item → Int} (hM : ∀ x, getM M x = cntO (clsL l) x) (hn : (M.map (·.1)).Nodup) (hp : dn.Perm M) : sumZ (dn.map fun p => min (ccN b p.1 : Int) p.2 * F p.1) = sumZ ((dist (clsL l)).map fun c => mnC l b c * F c) := by
  rw [sumZ_perm (hp.map _)]
  have e : (M.map fun p => min (ccN b p.1 : Int) p.2 * F p.1) = (M.map (·.1)).map fun c => mnC l b c * F c := by
    rw [List.map_map]
    refine List.map_congr_left fun p hp2 => ?_
    have h1 := (cnt_mem hM hn hp2).1
    show _ = mnC l b p.1 * F p.1
    congr 1
    rw [h1]; unfold mnC ccN; omega
  rw [e]
  refine sumZ_perm (List.Perm.map _ (nodup_perm hn (dist_nodup _) fun x => ?_))
  rw [dist_mem]
  constructor
  · intro h
    have h1 : ¬ ccN l x = 0 := by
      obtain ⟨p, hp2, rfl⟩ := List.mem_map.1 h; exact (cnt_mem hM hn hp2).2
    exact List.count_pos_iff.1 (by unfold ccN at h1; omega)
  · intro h
    refine Classical.byContradiction fun h2 => ?_
    have h3 := cnt_none hM h2
    have := List.count_pos_iff.2 h
    unfold ccN at h3; omega
theorem cD_len {l : List Vc.Item} {M : List (Vc.Item × Int)} (hM : ∀ x, getM M x = cntO (clsL l) x) (hn : (M.map (·.1)).Nodup) : M.length ≤ l.length := by
  have h := List.Nodup.length_le_of_subset hn (l₂ := clsL l) (fun x hx => by
    obtain ⟨p, hp, rfl⟩ := List.mem_map.1 hx
    have h1 := (cnt_mem hM hn hp).2
    exact List.count_pos_iff.1 (by unfold ccN at h1; omega))
  have h2 := cls_len l
  rw [List.length_map] at h; omega
theorem upP_zero {n : Int} (h : 0 ≤ n) (s : Sum3) : upP s (min 0 n) = s := by
  unfold upP; rw [show min (0 : Int) n = 0 by omega, Int.add_zero]
def upC (c : Vc.Item) (s : Sum3) (d : Int) : Sum3 := ⟨s.p, s.w + d * wC c, s.t + d * tC c⟩
theorem upC_zero {c : Vc.Item} {n : Int} (h : 0 ≤ n) (s : Sum3) : upC c s (min 0 n) = s := by
  unfold upC; rw [show min (0 : Int) n = 0 by omega, Int.zero_mul, Int.zero_mul, Int.add_zero, Int.add_zero]
theorem upC_tag {c : Vc.Item} (h : tgB c) (s : Sum3) (d : Int) : upC c s d = ⟨s.p, s.w, s.t + d⟩ := by
  unfold upC; rw [(wC_tag h).1, (wC_tag h).2, Int.mul_zero, Int.mul_one, Int.add_zero]
theorem upC_not {c : Vc.Item} (h : ¬ tgB c) (s : Sum3) (d : Int) : upC c s d = ⟨s.p, s.w + d * wK c.kind, s.t⟩ := by
  unfold upC; rw [(wC_not h).1, (wC_not h).2, Int.mul_zero, Int.add_zero]
theorem gram_cbd {l : List Vc.Item} {k : Nat} (h : k < (gramsL (wordsT l)).length) : 0 ≤ ((gramsL (wordsT l)).getD k default).count ∧ ((gramsL (wordsT l)).getD k default).count ≤ ((wordsT l).length : Int) + 1 := by
  have := gramsOf_count (ps := pairsL [] (wordsT l)) (getD_in h)
  rw [pairs_len] at this
  have h1 := this.1
  have h2 := this.2
  have e : (gramsOf (pairsL [] (wordsT l))).getD k default = (gramsL (wordsT l)).getD k default := rfl
  rw [e] at h1 h2
  omega
theorem out_pair {a : List Vc.Item} {A : Stored} {k : Nat} {m : List (Int × Sum3)} (h : k < (gramsL (wordsT a)).length)
    (hd : ∀ q ∈ A, vS m q.1 = upP ⟨cpK a q.2 k, 0, 0⟩ (min (gcN q.2 (prG ((gramsL (wordsT a)).getD k default)) : Int) ((gramsL (wordsT a)).getD k default).count)) : ∀ q ∈ A, vS m q.1 = ⟨cpK a q.2 (k + 1), 0, 0⟩ := fun q hq => by
  rw [hd q hq, cpK_succ h]; rfl
theorem out_cls {a : List Vc.Item} {A : Stored} {dn : List (Vc.Item × Int)} {p : Vc.Item × Int} {m : List (Int × Sum3)}
    (hd : ∀ q ∈ A, vS m q.1 = upC p.1 ⟨cpN a q.2, cwD dn q.2, ctD dn q.2⟩ (min (ccN q.2 p.1 : Int) p.2)) : ∀ q ∈ A, vS m q.1 = ⟨cpN a q.2, cwD (dn ++ [p]) q.2, ctD (dn ++ [p]) q.2⟩ := fun q hq => by
  rw [hd q hq, cwD_snoc, ctD_snoc]; rfl
theorem out_done {a : List Vc.Item} {A : Stored} {M dn : List (Vc.Item × Int)} {m : List (Int × Sum3)} (hM : ∀ x, getM M x = cntO (clsL a) x) (hn : (M.map (·.1)).Nodup) (hp : dn.Perm M)
    (h : ∀ q ∈ A, vS m q.1 = ⟨cpN a q.2, cwD dn q.2, ctD dn q.2⟩) : ∀ q ∈ A, vS m q.1 = cmL a q.2 := fun q hq => by
  rw [h q hq]
  unfold cmL cwD ctD
  rw [cD_done hM hn hp, cD_done hM hn hp]; rfl
theorem mulc_bd {h n k : Int} (hh : 0 ≤ h) (hn : 0 ≤ n) (hn2 : n ≤ 1000000) : 0 ≤ min h n * wK k ∧ min h n * wK k ≤ 4000000 := by
  have h1 := wK_bd k
  refine ⟨Int.mul_nonneg (by omega) h1.1, ?_⟩
  have := Int.mul_le_mul (show min h n ≤ 1000000 by omega) h1.2 h1.1 (by decide)
  omega
def selA (l : List Vc.Item) (p : Int) (x : Int × List Vc.Item) : Bool := decide (boundL l x.2 ≤ allowL (max (totT l) (totT x.2)) p)
def CandR (A : Stored) (l : List Vc.Item) (p : Int) (r : List Int) : Prop := r.Perm ((A.filter (selA l p)).map (·.1)) ∧ r.Pairwise (· ≤ ·)
theorem candR_eq {A B : Stored} {l : List Vc.Item} {p : Int} {r r' : List Int} (h : CandR A l p r) (h' : CandR B l p r') (hp : A.Perm B) : r = r' := by
  have h1 : r.Perm r' := h.1.trans (((hp.filter _).map _).trans h'.1.symm)
  exact List.Perm.eq_of_pairwise (fun a b _ _ h1 h2 => Int.le_antisymm h1 h2) h.2 h'.2 h1
theorem candR_len {A : Stored} {l : List Vc.Item} {p : Int} {r : List Int} (h : CandR A l p r) : r.length = (A.filter (selA l p)).length := by have := h.1.length_eq; rwa [List.length_map] at this
theorem sort_perm (l : List Int) : (l.mergeSort fun x y => decide (x ≤ y)).Perm l := List.mergeSort_perm _ _
theorem sort_pair (l : List Int) : (l.mergeSort fun x y => decide (x ≤ y)).Pairwise (· ≤ ·) := by
  have := List.pairwise_mergeSort (le := fun x y : Int => decide (x ≤ y)) (fun a b c h1 h2 => by simp at *; omega) (fun a b => by simp; omega) l
  exact this.imp (fun h => by simpa using h)
theorem cand_yes {id : Int} {a l : List Vc.Item} {p : Int} {r : List Int} (h : CandR [(id, a)] l p r) (hs : selA l p (id, a) = true) : r = [id] := by
  have h1 := h.1
  rw [List.filter_cons_of_pos hs] at h1
  exact List.perm_singleton.1 h1
theorem cand_no {id : Int} {a l : List Vc.Item} {p : Int} {r : List Int} (h : CandR [(id, a)] l p r) (hs : ¬ selA l p (id, a) = true) : r = [] := by
  have h1 := h.1
  rw [List.filter_cons_of_neg hs] at h1
  exact List.perm_nil.1 h1
theorem known_sel : selA KTb 44 (7, KTa) = true := by decide +kernel
theorem known_sel2 : ¬ selA KTb 101 (7, KTa) = true := by decide +kernel
end Go.Proofs.YthbcklajlmcifaaGreat
namespace Go.Proofs.YthbcklajlmcifaaGreat
open Go Go.RowKit Go.Vc Go.IntWalk
abbrev ekP : Str × Str → Value := fun x : Str × Str => Value.agg (Enc.enc x).toArray
abbrev ekT : Vc.Item → Value := fun x : Vc.Item => Value.agg (Enc.enc x).toArray
abbrev ekN : Int → Value := Value.int .i64
structure LvIs (GT : TypeId) (w : World) (lv : LV) (l : List Vc.Item) (F : List Nat) : Prop where
  gs : OwnE w 0 GT lv.gs (gramsL (wordsT l))
  cls : ∃ b M, lv.cm = some b ∧ MapIs w b ekT (Value.int .i64) M ∧ (∀ x, getM M x = cntO (clsL l) x) ∧ b ∈ F
  fg : ∀ g, lv.gs.ownBlock = some g → g ∈ F
  s : lv.s = smL l
  tot : lv.tot = totT l
section
variable {GT : TypeId} {w w' : World} {lv : LV} {l : List Vc.Item} {F F' X : List Nat}
theorem LvIs.evo (h : LvIs GT w lv l F) (he : Evo w w' X) (hX : ∀ g ∈ F, g ∉ X) : LvIs GT w' lv l F := by
  obtain ⟨b, M, h1, h2, h3, h4⟩ := h.cls
  exact ⟨h.gs.evo he (fun g hg => hX g (h.fg g hg)), ⟨b, M, h1, h2.evo he (hX b h4), h3, h4⟩, h.fg, h.s, h.tot⟩
theorem LvIs.mono (h : LvIs GT w lv l F) (hF : ∀ g ∈ F, g ∈ F') : LvIs GT w lv l F' := by
  obtain ⟨b, M, h1, h2, h3, h4⟩ := h.cls
  exact ⟨h.gs, ⟨b, M, h1, h2, h3, hF b h4⟩, fun g hg => hF g (h.fg g hg), h.s, h.tot⟩
end
def LvsIs (GT : TypeId) (w : World) (L : List (Int × LV)) (A : Stored) (F : List Nat) : Prop := L.map (·.1) = A.map (·.1) ∧ ∀ (i : Nat) (x : Int × LV) (y : Int × List Vc.Item), L[i]? = some x → A[i]? = some y → LvIs GT w x.2 y.2 F
section
variable {GT : TypeId} {w w' : World} {L : List (Int × LV)} {A : Stored} {F F' X : List Nat}
theorem LvsIs.nil : LvsIs GT w [] [] F := ⟨rfl, by simp⟩
theorem LvsIs.evo (h : LvsIs GT w L A F) (he : Evo w w' X) (hX : ∀ g ∈ F, g ∉ X) : LvsIs GT w' L A F := ⟨h.1, fun i x y h1 h2 => (h.2 i x y h1 h2).evo he hX⟩
theorem LvsIs.mono (h : LvsIs GT w L A F) (hF : ∀ g ∈ F, g ∈ F') : LvsIs GT w L A F' := ⟨h.1, fun i x y h1 h2 => (h.2 i x y h1 h2).mono hF⟩
theorem LvsIs.len (h : LvsIs GT w L A F) : L.length = A.length := by have := congrArg List.length h.1; simpa using this
theorem LvsIs.miss (h : LvsIs GT w L A F) {id : Int} (hid : id ∉ A.map (·.1)) : getM L id = none := getM_none fun p hp e => hid (by rw [← h.1, ← e]; exact List.mem_map_of_mem hp)
theorem LvsIs.got (h : LvsIs GT w L A F) {id : Int} (hid : id ∈ A.map (·.1)) : ∃ lv, getM L id = some lv := by
  cases e : getM L id with
  | none =>
    exfalso
    rw [← h.1] at hid
    obtain ⟨p, hp, e2⟩ := List.mem_map.1 hid
    unfold getM at e
    simp only [Option.map_eq_none_iff, List.find?_eq_none, decide_eq_true_eq] at e
    exact e p hp e2
  | some lv => exact ⟨lv, rfl⟩
theorem LvsIs.mem (h : LvsIs GT w L A F) {x : Int × LV} (hx : x ∈ L) : ∃ y ∈ A, y.1 = x.1 ∧ LvIs GT w x.2 y.2 F := by
  obtain ⟨i, hi, rfl⟩ := List.getElem_of_mem hx
  have hi2 : i < A.length := by rw [← h.len]; exact hi
  refine ⟨A[i], List.getElem_mem hi2, ?_, h.2 i _ _ (List.getElem?_eq_getElem hi) (List.getElem?_eq_getElem hi2)⟩
  have h1 : (L.map (·.1))[i]? = (A.map (·.1))[i]? := by rw [h.1]
  rw [List.getElem?_map, List.getElem?_map, List.getElem?_eq_getElem hi, List.getElem?_eq_getElem hi2] at h1
  simpa using h1.symm
theorem LvsIs.at (h : LvsIs GT w L A F) {id : Int} {lv : LV} (hg : getM L id = some lv) : ∃ l, (id, l) ∈ A ∧ LvIs GT w lv l F := by
  have hx : (id, lv) ∈ L := by
    unfold getM at hg
    cases e : L.find? (fun p => decide (p.1 = id)) with
    | none => rw [e] at hg; cases hg
    | some p =>
      rw [e] at hg
      have h1 : p.2 = lv := by simpa using hg
      have h2 : p.1 = id := by simpa using List.find?_some e
      have h3 := List.mem_of_find?_eq_some e
      rw [← h1, ← h2]; exact h3
  obtain ⟨y, hy, e, hl⟩ := h.mem hx
  exact ⟨y.2, by have e2 : y.1 = id := e; rw [← e2]; exact hy, hl⟩
theorem LvsIs.add (h : LvsIs GT w L A F) {id : Int} {lv : LV} {l : List Vc.Item} (hl : LvIs GT w lv l F) : LvsIs GT w (L ++ [(id, lv)]) (A ++ [(id, l)]) F := by
  refine ⟨by rw [List.map_append, List.map_append, h.1]; rfl, fun i x y h1 h2 => ?_⟩
  rcases Nat.lt_or_ge i L.length with hi | hi
  · rw [List.getElem?_append_left hi] at h1
    rw [List.getElem?_append_left (by rw [← h.len]; exact hi)] at h2
    exact h.2 i x y h1 h2
  · rw [List.getElem?_append_right hi] at h1
    rw [List.getElem?_append_right (by rw [← h.len]; exact hi), ← h.len] at h2
    cases e : i - L.length with
    | zero => rw [e] at h1 h2; simp at h1 h2; subst h1; subst h2; exact hl
    | succ j => rw [e] at h1; simp at h1
theorem LvsIs.del (h : LvsIs GT w L A F) (id : Int) : LvsIs GT w (delM L id) (without A id) F := by
  have key : ∀ (L : List (Int × LV)) (A : Stored), LvsIs GT w L A F → LvsIs GT w (delM L id) (without A id) F := fun L => by
    induction L with
    | nil => intro A h; cases A with
      | nil => exact LvsIs.nil
      | cons a A => have := h.len; simp at this
    | cons x L ih => intro A h; cases A with
      | nil => have := h.len; simp at this
      | cons y A =>
        have h1 := h.1
        simp only [List.map_cons, List.cons.injEq] at h1
        have ht : LvsIs GT w L A F := ⟨h1.2, fun i u v hu hv => h.2 (i + 1) u v (by simpa using hu) (by simpa using hv)⟩
        have h0 := h.2 0 x y rfl rfl
        have ih2 := ih A ht
        unfold delM without at *
        by_cases e : x.1 = id
        · rw [List.filter_cons_of_neg (by simp [e]), List.filter_cons_of_neg (by simp [← h1.1, e])]; exact ih2
        · rw [List.filter_cons_of_pos (by simp [e]), List.filter_cons_of_pos (by simp [← h1.1, e])]
          refine ⟨by rw [List.map_cons, List.map_cons, ih2.1, h1.1], fun i u v hu hv => ?_⟩
          cases i with
          | zero => simp at hu hv; subst hu; subst hv; exact h0
          | succ i => exact ih2.2 i u v (by simpa using hu) (by simpa using hv)
  exact key L A h
end
structure IdxP (TI GT PT : TypeId) (w : World) (bx ml mg mc : Nat) (L : List (Int × LV)) (A : Stored) (F1 F2 F3 : List Nat) : Prop where
  blk : Blk w bx TI [.map (some ml), .map (some mg), .map (some mc)]
  lists : MapIs w ml ekN evL L
  lvs : LvsIs GT w L A F3
  grams : FamIs w mg ekP PT (post gcN A) F1
  classes : FamIs w mc ekT PT (post ccN A) F2
  ne : ml ≠ bx ∧ mg ≠ bx ∧ mc ≠ bx ∧ ml ≠ mg ∧ ml ≠ mc ∧ mg ≠ mc
  out : ∀ g, g ∈ F1 ∨ g ∈ F2 ∨ g ∈ F3 → g ≠ bx ∧ g ≠ ml ∧ g ≠ mg ∧ g ≠ mc
  d12 : ∀ g ∈ F1, g ∉ F2
  d13 : ∀ g ∈ F1, g ∉ F3
  d23 : ∀ g ∈ F2, g ∉ F3
  lt3 : ∀ g ∈ F3, g < w.heap.size
def feet (bx ml mg mc : Nat) (F1 F2 F3 : List Nat) : List Nat := bx :: ml :: mg :: mc :: (F1 ++ (F2 ++ F3))
theorem mem_feet {bx ml mg mc : Nat} {F1 F2 F3 : List Nat} {g : Nat} : g ∈ feet bx ml mg mc F1 F2 F3 ↔ g = bx ∨ g = ml ∨ g = mg ∨ g = mc ∨ g ∈ F1 ∨ g ∈ F2 ∨ g ∈ F3 := by
  unfold feet; simp only [List.mem_cons, List.mem_append]
def IdxG (TI GT PT : TypeId) (w : World) (bx : Nat) (A : Stored) (F : List Nat) : Prop := ∃ ml mg mc L F1 F2 F3, IdxP TI GT PT w bx ml mg mc L A F1 F2 F3 ∧ F = feet bx ml mg mc F1 F2 F3
section
variable {TI GT PT : TypeId} {w w' : World} {bx ml mg mc : Nat} {L : List (Int × LV)} {A : Stored} {F F1 F2 F3 X : List Nat}
theorem IdxP.evo (h : IdxP TI GT PT w bx ml mg mc L A F1 F2 F3) (he : Evo w w' X) (hX : ∀ g ∈ feet bx ml mg mc F1 F2 F3, g ∉ X) : IdxP TI GT PT w' bx ml mg mc L A F1 F2 F3 where
  blk := h.blk.evo he (hX bx (mem_feet.2 (.inl rfl)))
  lists := h.lists.evo he (hX ml (mem_feet.2 (.inr (.inl rfl))))
  lvs := h.lvs.evo he (fun g hg => hX g (mem_feet.2 (.inr (.inr (.inr (.inr (.inr (.inr hg))))))))
  grams := h.grams.evo he (hX mg (mem_feet.2 (.inr (.inr (.inl rfl))))) (fun g hg => hX g (mem_feet.2 (.inr (.inr (.inr (.inr (.inl hg)))))))
  classes := h.classes.evo he (hX mc (mem_feet.2 (.inr (.inr (.inr (.inl rfl)))))) (fun g hg => hX g (mem_feet.2 (.inr (.inr (.inr (.inr (.inr (.inl hg))))))))
  ne := h.ne
  out := h.out
  d12 := h.d12
  d13 := h.d13
  d23 := h.d23
  lt3 := fun g hg => Nat.lt_of_lt_of_le (h.lt3 g hg) he.size
theorem IdxP.lt (h : IdxP TI GT PT w bx ml mg mc L A F1 F2 F3) : ∀ g ∈ feet bx ml mg mc F1 F2 F3, g < w.heap.size := fun g hg => by
  rcases mem_feet.1 hg with rfl | rfl | rfl | rfl | h1 | h1 | h1
  · exact h.blk.lt
  · exact h.lists.lt
  · exact h.grams.lt
  · exact h.classes.lt
  · exact h.grams.flt g h1
  · exact h.classes.flt g h1
  · exact h.lt3 g h1
theorem IdxG.evo (h : IdxG TI GT PT w bx A F) (he : Evo w w' X) (hX : ∀ g ∈ F, g ∉ X) : IdxG TI GT PT w' bx A F := by
  obtain ⟨ml, mg, mc, L, F1, F2, F3, h1, rfl⟩ := h
  exact ⟨ml, mg, mc, L, F1, F2, F3, h1.evo he hX, rfl⟩
theorem IdxG.evo0 (h : IdxG TI GT PT w bx A F) (he : Evo w w' []) : IdxG TI GT PT w' bx A F := h.evo he (by simp)
theorem IdxG.lt (h : IdxG TI GT PT w bx A F) : ∀ g ∈ F, g < w.heap.size := by
  obtain ⟨ml, mg, mc, L, F1, F2, F3, h1, rfl⟩ := h
  exact h1.lt
theorem idx_new {b1 b2 b3 : Nat} (h0 : Blk w bx TI [.map (some b1), .map (some b2), .map (some b3)]) (h1 : MapIs w b1 ekN evL ([] : List (Int × LV))) (h2 : MapIs w b2 ekP idV ([] : List ((Str × Str) × Value))) (h3 : MapIs w b3 ekT idV ([] : List (Vc.Item × Value)))
    (n1 : b1 ≠ bx) (n2 : b2 ≠ bx) (n3 : b3 ≠ bx) (n4 : b1 ≠ b2) (n5 : b1 ≠ b3) (n6 : b2 ≠ b3) : IdxG TI GT PT w bx [] [bx, b1, b2, b3] :=
  ⟨b1, b2, b3, [], [], [], [], ⟨h0, h1, LvsIs.nil, (FamIs.made h2).congr (fun _ => rfl), (FamIs.made h3).congr (fun _ => rfl), ⟨n1, n2, n3, n4, n5, n6⟩, by simp, by simp, by simp, by simp, by simp⟩, rfl⟩
end
def addOk (A : Stored) (id : Int) : Prop := ¬ (id ∈ A.map (·.1) ∨ 1024 ≤ (A.length : Int))
instance (A : Stored) (id : Int) : Decidable (addOk A id) := by unfold addOk; infer_instance
def addA (A : Stored) (id : Int) (l : List Vc.Item) : Stored := if addOk A id then A ++ [(id, l)] else A
theorem addA_yes {A : Stored} {id : Int} {l : List Vc.Item} (h : addOk A id) : addA A id l = A ++ [(id, l)] := if_pos h
theorem addA_no {A : Stored} {id : Int} {l : List Vc.Item} (h : ¬ addOk A id) : addA A id l = A := if_neg h
section
variable {κ : Type} [DecidableEq κ] {f : List Vc.Item → κ → Nat} {A : Stored} {id : Int} {l : List Vc.Item} {key : κ} {left rest : List κ} {w w' : World} {E : TypeId} {M : List (κ × Value)} {F : List Nat} {m : Nat} {ek : κ → Value} {v2 : Value} {n : Int}
theorem stepA (hfm : FamM w E M (mix left (post f A) (post f (A ++ [(id, l)]))) F) (h3 : m ∉ F) (h4 : ∀ g ∈ F, g < w.heap.size) (hmw : m < w.heap.size) (he : Evo w w' ([m] ++ (atV M key).ownBlock.toList))
    (h1 : MapIs w' m ek idV (setM (setM M key (atV M key)) key v2)) (ho : OwnE w' 0 E v2 (mix left (post f A) (post f (A ++ [(id, l)])) key ++ [⟨id, n⟩])) (hn : n = (f l key : Int)) (hn0 : f l key ≠ 0)
    (hb : v2.ownBlock = (atV M key).ownBlock ∨ ∃ g, v2.ownBlock = some g ∧ w.heap.size ≤ g) (hl : ∀ y, y ∈ left ↔ y = key ∨ y ∈ rest) (hk : key ∉ rest) : FamIs w' m ek E (mix rest (post f A) (post f (A ++ [(id, l)]))) (v2.ownBlock.toList ++ F) := by
  have e : mix left (post f A) (post f (A ++ [(id, l)])) key ++ [⟨id, n⟩] = post f (A ++ [(id, l)]) key := by
    rw [mix_at ((hl key).2 (.inl rfl)), post_add1 hn0, hn]
  rw [e] at ho
  exact FamIs.put hfm h3 h4 hmw he h1 set_twice ho hb (mix_step hl hk)
theorem foot_new {w0 w : World} {v2 v0 : Value} {F F0 : List Nat} (hF : ∀ g ∈ F, g ∈ F0 ∨ w0.heap.size ≤ g) (h0 : ∀ g, v0.ownBlock = some g → g ∈ F) (hb : v2.ownBlock = v0.ownBlock ∨ ∃ g, v2.ownBlock = some g ∧ w.heap.size ≤ g) (hw : w0.heap.size ≤ w.heap.size) : ∀ g ∈ v2.ownBlock.toList ++ F, g ∈ F0 ∨ w0.heap.size ≤ g := fun g hg => by
  rcases List.mem_append.1 hg with h1 | h1
  · have h2 := Option.mem_toList.1 h1
    rcases hb with hb | ⟨q, hq, hq2⟩
    · exact hF g (h0 g (hb ▸ h2))
    · rw [h2] at hq; injection hq with hq; exact .inr (by omega)
  · exact hF g h1
theorem loc_imp {v2 v0 : Value} {n m : Nat} (h : v2.ownBlock = v0.ownBlock ∨ v2.ownBlock = some n) (hm : m ≤ n) : v2.ownBlock = v0.ownBlock ∨ ∃ g, v2.ownBlock = some g ∧ m ≤ g := h.imp id fun h => ⟨n, h, hm⟩
end
theorem lv_some {GT : TypeId} {w : World} {L : List (Int × LV)} {A : Stored} {F : List Nat} (h : LvsIs GT w L A F) (id : Int) : (getM L id).isSome = decide (id ∈ A.map (·.1)) := by
  by_cases hid : id ∈ A.map (·.1)
  · obtain ⟨lv, e⟩ := h.got hid; rw [e, decide_eq_true hid]; rfl
  · rw [h.miss hid, decide_eq_false hid]; rfl
theorem setM_new {β : Type} {L : List (Int × β)} {id : Int} {v : β} (h : id ∉ L.map (·.1)) : setM L id v = L ++ [(id, v)] := setM_miss fun p hp e => h (e ▸ List.mem_map_of_mem hp)
section
variable {TI GT PT : TypeId} {w w' : World} {bx ml mg mc : Nat} {L : List (Int × LV)} {A : Stored} {F1 F2 F3 : List Nat}
theorem notin_cons {g m : Nat} {F : List Nat} (h1 : g ≠ m) (h2 : g ∉ F) : g ∉ m :: F := fun h => (List.mem_cons.1 h).elim h1 h2
theorem IdxP.l1 (h : IdxP TI GT PT w bx ml mg mc L A F1 F2 F3) : ∀ g ∈ F1, g < w.heap.size := h.grams.flt
theorem IdxP.l2 (h : IdxP TI GT PT w bx ml mg mc L A F1 F2 F3) : ∀ g ∈ F2, g < w.heap.size := h.classes.flt
theorem IdxP.bx0 (h : IdxP TI GT PT w bx ml mg mc L A F1 F2 F3) : bx ∉ [ml] := notin_cons h.ne.1.symm (by simp)
theorem IdxP.mg0 (h : IdxP TI GT PT w bx ml mg mc L A F1 F2 F3) : mg ∉ [ml] := notin_cons h.ne.2.2.2.1.symm (by simp)
theorem IdxP.mc0 (h : IdxP TI GT PT w bx ml mg mc L A F1 F2 F3) : mc ∉ [ml] := notin_cons h.ne.2.2.2.2.1.symm (by simp)
theorem IdxP.f10 (h : IdxP TI GT PT w bx ml mg mc L A F1 F2 F3) : ∀ g ∈ F1, g ∉ [ml] := fun g hg => notin_cons (h.out g (.inl hg)).2.1 (by simp)
theorem IdxP.f20 (h : IdxP TI GT PT w bx ml mg mc L A F1 F2 F3) : ∀ g ∈ F2, g ∉ [ml] := fun g hg => notin_cons (h.out g (.inr (.inl hg))).2.1 (by simp)
theorem IdxP.f30 (h : IdxP TI GT PT w bx ml mg mc L A F1 F2 F3) : ∀ g ∈ F3, g ∉ [ml] := fun g hg => notin_cons (h.out g (.inr (.inr hg))).2.1 (by simp)
theorem IdxP.bx1 (h : IdxP TI GT PT w bx ml mg mc L A F1 F2 F3) : bx ∉ mg :: F1 := notin_cons h.ne.2.1.symm (fun q => (h.out _ (.inl q)).1 rfl)
theorem IdxP.ml1 (h : IdxP TI GT PT w bx ml mg mc L A F1 F2 F3) : ml ∉ mg :: F1 := notin_cons h.ne.2.2.2.1 (fun q => (h.out _ (.inl q)).2.1 rfl)
theorem IdxP.mc1 (h : IdxP TI GT PT w bx ml mg mc L A F1 F2 F3) : mc ∉ mg :: F1 := notin_cons h.ne.2.2.2.2.2.symm (fun q => (h.out _ (.inl q)).2.2.2 rfl)
theorem IdxP.f21 (h : IdxP TI GT PT w bx ml mg mc L A F1 F2 F3) : ∀ g ∈ F2, g ∉ mg :: F1 := fun g hg => notin_cons (h.out g (.inr (.inl hg))).2.2.1 (fun q => h.d12 g q hg)
theorem IdxP.f31 (h : IdxP TI GT PT w bx ml mg mc L A F1 F2 F3) : ∀ g ∈ F3, g ∉ mg :: F1 := fun g hg => notin_cons (h.out g (.inr (.inr hg))).2.2.1 (fun q => h.d13 g q hg)
theorem IdxP.nw1 (h : IdxP TI GT PT w bx ml mg mc L A F1 F2 F3) : ∀ g, w.heap.size ≤ g → g ∉ mg :: F1 := fun g hg => notin_cons (by have := h.grams.lt; omega) (fun q => by have := h.l1 g q; omega)
theorem IdxP.bx2 (h : IdxP TI GT PT w bx ml mg mc L A F1 F2 F3) : bx ∉ mc :: F2 := notin_cons h.ne.2.2.1.symm (fun q => (h.out _ (.inr (.inl q))).1 rfl)
theorem IdxP.ml2 (h : IdxP TI GT PT w bx ml mg mc L A F1 F2 F3) : ml ∉ mc :: F2 := notin_cons h.ne.2.2.2.2.1 (fun q => (h.out _ (.inr (.inl q))).2.1 rfl)
theorem IdxP.mg2 (h : IdxP TI GT PT w bx ml mg mc L A F1 F2 F3) : mg ∉ mc :: F2 := notin_cons h.ne.2.2.2.2.2 (fun q => (h.out _ (.inr (.inl q))).2.2.1 rfl)
theorem IdxP.f12 (h : IdxP TI GT PT w bx ml mg mc L A F1 F2 F3) : ∀ g ∈ F1, g ∉ mc :: F2 := fun g hg => notin_cons (h.out g (.inl hg)).2.2.2 (h.d12 g hg)
theorem IdxP.f32 (h : IdxP TI GT PT w bx ml mg mc L A F1 F2 F3) : ∀ g ∈ F3, g ∉ mc :: F2 := fun g hg => notin_cons (h.out g (.inr (.inr hg))).2.2.2 (fun q => h.d23 g q hg)
theorem IdxP.nw2 (h : IdxP TI GT PT w bx ml mg mc L A F1 F2 F3) : ∀ g, w.heap.size ≤ g → g ∉ mc :: F2 := fun g hg => notin_cons (by have := h.classes.lt; omega) (fun q => by have := h.l2 g q; omega)
theorem idx_add {id : Int} {l : List Vc.Item} {lv : LV} {F4 G1 G2 : List Nat} {n1 n2 : Nat} (h : IdxP TI GT PT w bx ml mg mc L A F1 F2 F3) (hbk : Blk w' bx TI [.map (some ml), .map (some mg), .map (some mc)]) (hlm : MapIs w' ml ekN evL (L ++ [(id, lv)])) (hlv : LvsIs GT w' L A F3) (hnew : LvIs GT w' lv l F4)
    (hg : FamIs w' mg ekP PT (post gcN (A ++ [(id, l)])) G1) (hc : FamIs w' mc ekT PT (post ccN (A ++ [(id, l)])) G2) (hG1 : ∀ g ∈ G1, g ∈ F1 ∨ n1 ≤ g) (hG1u : ∀ g ∈ G1, g < n2) (hG2 : ∀ g ∈ G2, g ∈ F2 ∨ n2 ≤ g) (hF4 : ∀ g ∈ F4, w.heap.size ≤ g ∧ g < n1) (hs : w.heap.size ≤ n1) (hs2 : n1 ≤ n2) (hs3 : n2 ≤ w'.heap.size) :
    IdxG TI GT PT w' bx (A ++ [(id, l)]) (feet bx ml mg mc G1 G2 (F4 ++ F3)) ∧ ∀ g ∈ feet bx ml mg mc G1 G2 (F4 ++ F3), g ∈ feet bx ml mg mc F1 F2 F3 ∨ w.heap.size ≤ g := by
  have q1 := h.blk.lt
  have q2 := h.lists.lt
  have q3 := h.grams.lt
  have q4 := h.classes.lt
  have big : ∀ g, w.heap.size ≤ g → g ≠ bx ∧ g ≠ ml ∧ g ≠ mg ∧ g ≠ mc := fun g hg => by omega
  refine ⟨⟨ml, mg, mc, _, G1, G2, _, ⟨hbk, hlm, (hlv.mono (fun g hg => List.mem_append_right _ hg)).add (hnew.mono (fun g hg => List.mem_append_left _ hg)), hg, hc, h.ne, fun g hg9 => ?_, fun g h1 h2 => ?_, fun g h1 h2 => ?_, fun g h1 h2 => ?_, fun g h1 => ?_⟩, rfl⟩, fun g hg9 => ?_⟩
  · rcases hg9 with h1 | h1 | h1
    · rcases hG1 g h1 with h2 | h2
      · exact h.out g (.inl h2)
      · exact big g (by omega)
    · rcases hG2 g h1 with h2 | h2
      · exact h.out g (.inr (.inl h2))
      · exact big g (by omega)
    · rcases List.mem_append.1 h1 with h2 | h2
      · exact big g (hF4 g h2).1
      · exact h.out g (.inr (.inr h2))
  · have hu := hG1u g h1
    rcases hG1 g h1 with h3 | h3 <;> rcases hG2 g h2 with h4 | h4
    · exact h.d12 g h3 h4
    · omega
    · have := h.l2 g h4; omega
    · omega
  · rcases hG1 g h1 with h3 | h3 <;> rcases List.mem_append.1 h2 with h4 | h4
    · have := h.l1 g h3; have := (hF4 g h4).1; omega
    · exact h.d13 g h3 h4
    · have := (hF4 g h4).2; omega
    · have := h.lt3 g h4; omega
  · rcases hG2 g h1 with h3 | h3 <;> rcases List.mem_append.1 h2 with h4 | h4
    · have := h.l2 g h3; have := (hF4 g h4).1; omega
    · exact h.d23 g h3 h4
    · have := (hF4 g h4).2; omega
    · have := h.lt3 g h4; omega
  · rcases List.mem_append.1 h1 with h4 | h4
    · have := (hF4 g h4).2; omega
    · have := h.lt3 g h4; omega
  · rcases mem_feet.1 hg9 with h1 | h1 | h1 | h1 | h1 | h1 | h1
    · exact .inl (mem_feet.2 (.inl h1))
    · exact .inl (mem_feet.2 (.inr (.inl h1)))
    · exact .inl (mem_feet.2 (.inr (.inr (.inl h1))))
    · exact .inl (mem_feet.2 (.inr (.inr (.inr (.inl h1)))))
    · rcases hG1 g h1 with h2 | h2
      · exact .inl (mem_feet.2 (.inr (.inr (.inr (.inr (.inl h2))))))
      · exact .inr (by omega)
    · rcases hG2 g h1 with h2 | h2
      · exact .inl (mem_feet.2 (.inr (.inr (.inr (.inr (.inr (.inl h2)))))))
      · exact .inr (by omega)
    · rcases List.mem_append.1 h1 with h2 | h2
      · exact .inr (hF4 g h2).1
      · exact .inl (mem_feet.2 (.inr (.inr (.inr (.inr (.inr (.inr h2)))))))
end
section
variable {κ : Type} [DecidableEq κ] {f : List Vc.Item → κ → Nat} {A : Stored} {id : Int} {key : κ} {left rest : List κ} {w w' : World} {E : TypeId} {M : List (κ × Value)} {P : κ → List Range} {F : List Nat} {m : Nat} {ek : κ → Value} {v2 : Value}
theorem stepR (hfm : FamM w E M (mix left (post f A) (post f (without A id))) F) (h3 : m ∉ F) (h4 : ∀ g ∈ F, g < w.heap.size) (hmw : m < w.heap.size) (he : Evo w w' ([m] ++ (atV M key).ownBlock.toList))
    (h1 : MapIs w' m ek idV (setM M key v2)) (ho : OwnE w' 0 E v2 ((mix left (post f A) (post f (without A id)) key).filter (keepB id))) (hb : v2.ownBlock = (atV M key).ownBlock) (hl : ∀ y, y ∈ left ↔ y = key ∨ y ∈ rest) (hk : key ∉ rest) :
    FamIs w' m ek E (mix rest (post f A) (post f (without A id))) (v2.ownBlock.toList ++ F) := by
  have e : (mix left (post f A) (post f (without A id)) key).filter (keepB id) = post f (without A id) key := by
    rw [mix_at ((hl key).2 (.inl rfl)), post_without]; rfl
  rw [e] at ho
  exact FamIs.put hfm h3 h4 hmw he h1 (fun y => atV_set M key v2 y) ho (.inl hb) (mix_step hl hk)
theorem stepD (hfm : FamM w E M P F) (h3 : m ∉ F) (h4 : ∀ g ∈ F, g < w.heap.size) (he : Evo w w' [m]) (h1 : MapIs w' m ek idV (delM M key)) (hk : P key = []) : FamIs w' m ek E P F :=
  ⟨_, h1, hfm.del he (fun g hg hm => h3 (by have : g = m := (by simpa using hm); exact this ▸ hg)) hk, h3, fun g hg => Nat.lt_of_lt_of_le (h4 g hg) he.size⟩
theorem stepK (hfm : FamM w E M P F) (h3 : m ∉ F) (h4 : ∀ g ∈ F, g < w.heap.size) (h1 : MapIs w m ek idV M) : FamIs w m ek E P F := ⟨_, h1, hfm, h3, h4⟩
end
theorem without_no {A : Stored} {id : Int} (h : id ∉ A.map (·.1)) : without A id = A := List.filter_eq_self.2 fun q hq => by
  have : ¬ q.1 = id := fun e => h (e ▸ List.mem_map_of_mem hq)
  simp [this]
section
variable {TI GT PT : TypeId} {w w' : World} {bx ml mg mc : Nat} {L : List (Int × LV)} {A : Stored} {F1 F2 F3 : List Nat}
theorem idx_del {id : Int} {G1 G2 : List Nat} {n1 n2 : Nat} (h : IdxP TI GT PT w bx ml mg mc L A F1 F2 F3) (hbk : Blk w' bx TI [.map (some ml), .map (some mg), .map (some mc)]) (hlm : MapIs w' ml ekN evL (delM L id)) (hlv : LvsIs GT w' L A F3)
    (hg : FamIs w' mg ekP PT (post gcN (without A id)) G1) (hc : FamIs w' mc ekT PT (post ccN (without A id)) G2) (hG1 : ∀ g ∈ G1, g ∈ F1 ∨ n1 ≤ g) (hG1u : ∀ g ∈ G1, g < n2) (hG2 : ∀ g ∈ G2, g ∈ F2 ∨ n2 ≤ g) (hs : w.heap.size ≤ n1) (hs2 : n1 ≤ n2) (hs3 : n2 ≤ w'.heap.size) :
    IdxG TI GT PT w' bx (without A id) (feet bx ml mg mc G1 G2 F3) ∧ ∀ g ∈ feet bx ml mg mc G1 G2 F3, g ∈ feet bx ml mg mc F1 F2 F3 ∨ w.heap.size ≤ g := by
  have q1 := h.blk.lt
  have q2 := h.lists.lt
  have q3 := h.grams.lt
  have q4 := h.classes.lt
  have big : ∀ g, w.heap.size ≤ g → g ≠ bx ∧ g ≠ ml ∧ g ≠ mg ∧ g ≠ mc := fun g hg => by omega
  refine ⟨⟨ml, mg, mc, _, G1, G2, _, ⟨hbk, hlm, hlv.del id, hg, hc, h.ne, fun g hg9 => ?_, fun g h1 h2 => ?_, fun g h1 h2 => ?_, fun g h1 h2 => ?_, fun g h1 => ?_⟩, rfl⟩, fun g hg9 => ?_⟩
  · rcases hg9 with h1 | h1 | h1
    · rcases hG1 g h1 with h2 | h2
      · exact h.out g (.inl h2)
      · exact big g (by omega)
    · rcases hG2 g h1 with h2 | h2
      · exact h.out g (.inr (.inl h2))
      · exact big g (by omega)
    · exact h.out g (.inr (.inr h1))
  · have hu := hG1u g h1
    rcases hG1 g h1 with h3 | h3 <;> rcases hG2 g h2 with h4 | h4
    · exact h.d12 g h3 h4
    · omega
    · have := h.l2 g h4; omega
    · omega
  · rcases hG1 g h1 with h3 | h3
    · exact h.d13 g h3 h2
    · have := h.lt3 g h2; omega
  · rcases hG2 g h1 with h3 | h3
    · exact h.d23 g h3 h2
    · have := h.lt3 g h2; omega
  · have := h.lt3 g h1; omega
  · rcases mem_feet.1 hg9 with h1 | h1 | h1 | h1 | h1 | h1 | h1
    · exact .inl (mem_feet.2 (.inl h1))
    · exact .inl (mem_feet.2 (.inr (.inl h1)))
    · exact .inl (mem_feet.2 (.inr (.inr (.inl h1))))
    · exact .inl (mem_feet.2 (.inr (.inr (.inr (.inl h1)))))
    · rcases hG1 g h1 with h2 | h2
      · exact .inl (mem_feet.2 (.inr (.inr (.inr (.inr (.inl h2))))))
      · exact .inr (by omega)
    · rcases hG2 g h1 with h2 | h2
      · exact .inl (mem_feet.2 (.inr (.inr (.inr (.inr (.inr (.inl h2)))))))
      · exact .inr (by omega)
    · exact .inl (mem_feet.2 (.inr (.inr (.inr (.inr (.inr (.inr h1)))))))
end
def selL (l : List Vc.Item) (p : Int) (mo : List (Int × Sum3)) (x : Int × LV) : Bool := decide (bndL (smL l) x.2.s (vS mo x.1) ≤ allowL (max (totT l) x.2.tot) p)
theorem filter_same {α β : Type} {p : Int × α → Bool} {q : Int × β → Bool} : ∀ {L : List (Int × α)} {A : List (Int × β)}, L.map (·.1) = A.map (·.1) → (∀ (i : Nat) x y, L[i]? = some x → A[i]? = some y → p x = q y) → (L.filter p).map (·.1) = (A.filter q).map (·.1)
  | [], [], _, _ => rfl
  | [], _ :: _, h, _ => by simp at h
  | _ :: _, [], h, _ => by simp at h
  | x :: L, y :: A, h, hq => by
    simp only [List.map_cons, List.cons.injEq] at h
    have h0 := hq 0 x y rfl rfl
    have ih := filter_same (p := p) (q := q) h.2 (fun i u v hu hv => hq (i + 1) u v (by simpa using hu) (by simpa using hv))
    cases e : p x
    · rw [List.filter_cons_of_neg (by simp [e]), List.filter_cons_of_neg (by simp [← h0, e])]; exact ih
    · rw [List.filter_cons_of_pos e, List.filter_cons_of_pos (by rw [← h0]; exact e), List.map_cons, List.map_cons, ih, h.1]
theorem cand_done {GT : TypeId} {w : World} {L dn : List (Int × LV)} {A : Stored} {F : List Nat} {l : List Vc.Item} {p : Int} {mo : List (Int × Sum3)} (h : LvsIs GT w L A F) (hv : ∀ q ∈ A, vS mo q.1 = cmL l q.2) (hs : l.length ≤ 1000000) (hA : ∀ q ∈ A, q.2.length ≤ 1000000) (hp : dn.Perm L) :
    CandR A l p (((dn.filter (selL l p mo)).map (·.1)).mergeSort fun x y => decide (x ≤ y)) := by
  refine ⟨(sort_perm _).trans ?_, sort_pair _⟩
  have e : (L.filter (selL l p mo)).map (·.1) = (A.filter (selA l p)).map (·.1) := filter_same h.1 (fun i x y hx hy => by
    have hl := h.2 i x y hx hy
    have hyA := List.mem_of_getElem? hy
    have hid : x.1 = y.1 := by
      have h1 : (L.map (·.1))[i]? = (A.map (·.1))[i]? := by rw [h.1]
      rw [List.getElem?_map, List.getElem?_map, hx, hy] at h1
      simpa using h1
    unfold selL selA
    rw [hl.s, hl.tot, hid, hv y hyA, bnd_sums l y.2 hs (hA y hyA)])
  rw [← e]
  exact (hp.filter _).map _
theorem sel_facts {GT : TypeId} {w : World} {L : List (Int × LV)} {A : Stored} {F : List Nat} {l : List Vc.Item} {mo : List (Int × Sum3)} (h : LvsIs GT w L A F) (hv : ∀ q ∈ A, vS mo q.1 = cmL l q.2) (hs : l.length ≤ 1000000) (hA : ∀ q ∈ A, q.2.length ≤ 1000000) {x : Int × LV} (hx : x ∈ L) : Sm3 x.2.s ∧ Sm3 (vS mo x.1) := by
  obtain ⟨y, hy, e, hl⟩ := h.mem hx
  rw [hl.s, ← e, hv y hy]
  exact ⟨sm3_of (hA y hy), sm3_cm hs (hA y hy)⟩
theorem sel_yes {l : List Vc.Item} {p : Int} {mo : List (Int × Sum3)} {dn : List (Int × LV)} {x : Int × LV} (h : bndL (smL l) x.2.s (vS mo x.1) ≤ allowL (max (totT l) x.2.tot) p) : ((dn ++ [x]).filter (selL l p mo)).map (·.1) = (dn.filter (selL l p mo)).map (·.1) ++ [x.1] := by
  rw [List.filter_append, List.filter_cons_of_pos (p := selL l p mo) (decide_eq_true h), List.map_append]; rfl
theorem sel_no {l : List Vc.Item} {p : Int} {mo : List (Int × Sum3)} {dn : List (Int × LV)} {x : Int × LV} (h : ¬ bndL (smL l) x.2.s (vS mo x.1) ≤ allowL (max (totT l) x.2.tot) p) : ((dn ++ [x]).filter (selL l p mo)).map (·.1) = (dn.filter (selL l p mo)).map (·.1) := by
  rw [List.filter_append, List.filter_cons_of_neg (p := selL l p mo) (by unfold selL; rw [decide_eq_false h]; decide)]; simp
end Go.Proofs.YthbcklajlmcifaaGreat
