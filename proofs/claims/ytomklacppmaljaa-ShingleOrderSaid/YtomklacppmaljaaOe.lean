/-
  Walks of functions that the statement reaches (joined by a program out of smaller texts).
-/
import Derived.Test.YtomklacppmaljaaOd
import Derived.Test.YtomklacppmaljaaOwz
namespace Go.Proofs.Ytomklacppmaljaa
open Go.RowKit Go.Vc

theorem fLen_takeS {l : List Vc.Item} {k : Nat} (h : k < l.length) : fLen (l.take (k + 1)) = fLen (l.take k) + (l.getD k default).text.length := by unfold fLen; rw [take_succD l k h]; simp
theorem fLen_mem {l : List Vc.Item} {x : Vc.Item} (h : x ∈ l) : x.text.length ≤ fLen l := by
  induction l with
  | nil => cases h
  | cons y l ih =>
    have e : fLen (y :: l) = y.text.length + fLen l := by simp [fLen]
    rcases List.mem_cons.1 h with rfl | h
    · omega
    · have := ih h; omega
theorem getD_text {l : List Vc.Item} {B : Nat} (h : ∀ x ∈ l, x.text.length ≤ B) (k : Nat) : (l.getD k default).text.length ≤ B := by
  rcases Nat.lt_or_ge k l.length with h1 | h1
  · exact h _ (getD_in h1)
  · have e : l.getD k default = default := by simp [List.getD, List.getElem?_eq_none h1]
    rw [e]; exact Nat.zero_le _
theorem cutT_text : ∀ (n : Nat) (s : Str), s.length = n → ∀ x ∈ cutT s, x.text.length ≤ s.length := by
  intro n
  induction n using Nat.strongRecOn with
  | ind n ih =>
    intro s hs x hx
    by_cases h : s = []
    · subst h; rw [cutT_nil] at hx; cases hx
    · have h1 := tokN_pos s
      have h2 : 0 < s.length := List.length_pos_iff.2 h
      rw [cutT_cons h] at hx
      rcases List.mem_cons.1 hx with rfl | hx
      · show (s.take _).length ≤ _; rw [List.length_take]; omega
      · have h3 := ih _ (by rw [← hs]; show (s.drop (tokN s).2).length < s.length; rw [List.length_drop]; omega) (s.drop (tokN s).2) rfl x hx
        rw [List.length_drop] at h3; omega
theorem toks_text {f : List Vc.Item} {x : Vc.Item} (h : x ∈ toks f) : x.text.length ≤ fLen f := by
  unfold toks at h
  obtain ⟨y, hy, hx⟩ := List.mem_flatMap.1 h
  have h1 := fLen_mem hy
  unfold tokI at hx
  split at hx
  · have := cutT_text _ y.text rfl x hx; omega
  · split at hx
    · have : x = y := by simpa using hx
      rw [this]; exact h1
    · cases hx
theorem fLen_size (f : List Vc.Item) : fLen f = sizeL f := rfl
/-- what a list that differs in a few tokens is like -/
def NR (B k : Nat) (lo : List Vc.Item) : Prop := lo.length ≤ 2 * k ∧ ∀ x ∈ lo, x.text.length ≤ B + 4
theorem app1_le {B : Nat} {s t : Str} (h : s.length ≤ B) (ht : t.length = 1) : (s ++ t).length ≤ B + 4 := by rw [List.length_append]; omega
theorem NR.nil (B : Nat) : NR B 0 [] := ⟨Nat.le_refl _, by simp⟩
theorem NR.skip {B k : Nat} {lo : List Vc.Item} (h : NR B k lo) : NR B (k + 1) lo := ⟨by have := h.1; omega, h.2⟩
theorem NR.one {B k : Nat} {lo : List Vc.Item} {x : Vc.Item} (h : NR B k lo) (hx : x.text.length ≤ B + 4) : NR B (k + 1) (lo ++ [x]) :=
  ⟨by rw [List.length_append]; have := h.1; simp; omega, fun y hy => (List.mem_append.1 hy).elim (h.2 y) (fun q => by have e : y = x := (by simpa using q); rw [e]; exact hx)⟩
theorem NR.two {B k : Nat} {lo : List Vc.Item} {x z : Vc.Item} (h : NR B k lo) (hx : x.text.length ≤ B + 4) (hz : z.text.length ≤ B + 4) : NR B (k + 1) (lo ++ [x] ++ [z]) :=
  ⟨by rw [List.length_append, List.length_append]; have := h.1; simp; omega, fun y hy => by
    simp only [List.append_assoc, List.mem_append, List.mem_singleton] at hy
    rcases hy with hy | rfl | rfl
    · exact h.2 y hy
    · exact hx
    · exact hz⟩

theorem small14_calls {ao : Option Addr} {b off cap : Nat} {l : List Vc.Item} {n : Int} {w0 : World} (hl : RowE w0 ao b off cap l) (hT : ∀ k, (l.getD k default).text.length ≤ 140737488355328) (hn : n ≤ 60) :
    Calls Try.prog 42 #[.slice ao l.length cap, .int .i64 n] w0 fun e w' => ∃ x, e = .returned (.bool x) ∧ (x = true → (l.length : Int) ≤ n ∧ fLen l ≤ 300) ∧ Evo w0 w' [] := by
 refine calls_enter (n := 29) (args := [.slice ao l.length cap, .int .i64 n]) Try.func42 rfl Try.ntmps42 rfl ?_
 have hV : Evo w0 w0 [] := Evo.refl _ _
 have hl0 := keepE hl
 have hbd_hl := hl.bd
 refine r_seq ?_
 refine r_region ?_
 refine r_op rfl rfl rfl (run_asg (v := .bool _) rfl (by exact rfl)) ?_
 refine r_nil ?_
 refine r_seq ?_
 refine r_region ?_
 refine r_op rfl rfl rfl (run_asg (v := .int _ _) rfl (by exact rfl)) ?_
 refine r_nil ?_
 refine r_seq ?_
 refine r_seq ?_
 refine r_region ?_
 refine r_op rfl rfl rfl (run_mv (v := .slice _ _ _) rfl (by exact rfl)) ?_
 refine r_op rfl rfl rfl (run_lenSl rfl (by exact rfl) Try.underlying63) ?_
 refine r_op rfl rfl rfl (run_mv (v := .int _ _) rfl (by exact rfl)) ?_
 refine r_nil ?_
 refine r_block ?_
 refine r_loop (α := Nat) [5, 6, 9, 10, 11, 12, 13, 14, 15, 16, 17, 18, 19, 20] (fun k g w => ∃ z : Int, g 9 = .int .i64 (k : Nat) ∧ g 5 = .int .i64 z ∧ k ≤ l.length ∧ (k ≤ 60 → z = (fLen (l.take k) : Nat) ∧ z ≤ 140737488355328 * (k : Int)) ∧ w0.heap.size ≤ w.heap.size ∧ Evo w0 w []) (fun k => l.length - k) 0 ?_ ?_
 ·refine ⟨0, (by first | exact rfl | exact congrArg (Value.int _) (by omega) | exact congrArg (Value.int _) (by dsimp only; omega) | exact congrArg (Value.int _) (by simp) | exact congrArg S (by simp)), (by first | exact rfl | exact congrArg (Value.int _) (by omega) | exact congrArg (Value.int _) (by dsimp only; omega) | exact congrArg (Value.int _) (by simp) | exact congrArg S (by simp)), (by first | assumption | omega | (dsimp only; omega) | (simp; done)), (fun _ => ⟨rfl, by omega⟩), (by first | assumption | omega | (dsimp only; omega) | (simp; done)), hV⟩
 ·rintro k g w2 ⟨z, hj3, hj4, hk_k, hz, hzl1, hV⟩
  have hs_w2hV := hV.size
  replace hl := hl0 _ hV
  refine r_know (i := 9) (v := .int .i64 (k : Nat)) (by exact hj3) ?_
  refine r_know (i := 5) (v := .int .i64 z) (by exact hj4) ?_
  refine r_seq ?_
  refine r_region ?_
  refine r_op rfl rfl rfl (run_lss rfl (by exact rfl) (by exact rfl)) ?_
  refine r_nil ?_
  refine r_seq ?_
  refine r_cond (by exact rfl) (fun hc5 => ?_) (fun hc5 => ?_)
  ·skip
   refine r_skip ?_
   refine r_seq ?_
   refine r_block ?_
   refine r_seq ?_
   refine r_region ?_
   refine r_op rfl rfl rfl (run_mv (v := .int _ _) rfl (by exact rfl)) ?_
   refine r_op rfl rfl rfl (run_asg (v := .int _ _) rfl (by exact rfl)) ?_
   refine r_nil ?_
   have hb4 := hT k; have hb2 := fLen_takeS (l := l) (k := k) (by omega)
   refine r_region ?_
   refine r_op rfl rfl rfl (run_mv (v := .int _ _) rfl (by exact rfl)) ?_
   refine r_op rfl rfl rfl (run_mv (v := .slice _ _ _) rfl (by exact rfl)) ?_
   refine r_op rfl rfl rfl (run_mv (v := .int _ _) rfl (by exact rfl)) ?_
   refine r_op rfl rfl rfl (run_ix (k) rfl Try.underlying63 ty_81 (by exact rfl) (by exact rfl) (by first | exact rfl | omega) (by omega) (hl.addr (i := k) (by omega))) ?_
   have hA60 := fun (w' : World) (h : Evo w0 w' []) => (hl0 w' h).atD (k) (by omega)
   have hA6 := hA60 _ hV
   refine r_op rfl rfl rfl (run_fa rfl (by exact rfl) fo_81_1) ?_
   refine r_op rfl rfl rfl (run_ld1 rfl ag_9 (by exact rfl) (hA6.cell 1 (by exact rfl))) ?_
   refine r_op rfl rfl rfl (run_lenS rfl (by exact rfl) Try.underlying9) ?_
   refine r_op rfl rfl rfl (run_addw rfl (by exact rfl) (by exact rfl)) ?_
   refine r_op rfl rfl rfl (run_asg (v := .int _ _) rfl (by exact rfl)) ?_
   refine r_nil ?_
   refine r_blk ?_
   refine r_region ?_
   refine r_op rfl rfl rfl (run_add rfl (by exact rfl) (by exact rfl) (by omega) (by omega)) ?_
   refine r_op rfl rfl rfl (run_mv (v := .int _ _) rfl (by exact rfl)) ?_
   refine r_nil ?_
   refine r_again (k + 1) ?_ ?_ ?_
   ·first | omega | (dsimp only; omega)
   ·refine ⟨_, (by first | exact rfl | exact congrArg (Value.int _) (by omega) | exact congrArg (Value.int _) (by dsimp only; omega) | exact congrArg (Value.int _) (by simp) | exact congrArg S (by simp)), rfl, (by first | assumption | omega | (dsimp only; omega) | (simp; done)), (fun h => by have := hz (by omega); rw [wrap_in (by omega) (by omega), hb2]; omega), (by first | assumption | omega | (dsimp only; omega) | (simp; done)), hV⟩
   ·repeat (first | (with_reducible exact Agree.merge _ _ _) | (with_reducible exact Agree.refl _ _) | (with_reducible refine Agree.upd ?_ _ _ rfl) | ((with_reducible refine Agree.inner ?_ ?_); (kernel_rfl)))
  ·skip
   refine r_exit rfl ?_
   refine r_seq ?_
   refine r_region ?_
   refine r_op rfl rfl rfl (run_mv (v := .slice _ _ _) rfl (by exact rfl)) ?_
   refine r_op rfl rfl rfl (run_lenSl rfl (by exact rfl) Try.underlying63) ?_
   refine r_op rfl rfl rfl (run_mv (v := .int _ _) rfl (by exact rfl)) ?_
   refine r_op rfl rfl rfl (run_leq rfl (by exact rfl) (by exact rfl)) ?_
   refine r_op rfl rfl rfl (run_mv (v := .bool _) rfl (by exact rfl)) ?_
   refine r_g rfl (wantT (by exact rfl)) rfl (fun hg => run_mv (v := .int _ _) rfl (by exact rfl)) ?_
   refine r_g rfl (wantT (by exact rfl)) rfl (fun hg => run_leq rfl (glv (by exact rfl) (fun h => h) hg) (by exact rfl)) ?_
   refine r_op rfl rfl rfl (run_pick_and rfl (by exact rfl) (fun hq => glv (by exact rfl) (fun h => h) hq) rfl) ?_
   refine r_op rfl rfl rfl (run_asg (v := .bool _) rfl (by exact rfl)) ?_
   refine r_nil ?_
   refine r_ret (res1 (v := .bool _) rfl (by exact rfl)) ?_
   exact ⟨_, rfl, fun h => by have h9 := of_decide_eq_true h; have := hz (by omega); rw [List.take_of_length_le (by omega)] at this; omega, hV⟩

theorem made14_calls {ao : Option Addr} {b off cap : Nat} {l : List Int} {n : Nat} {w0 : World} (hl : RowE w0 ao b off cap l) :
    Calls Try.prog 52 #[.slice ao l.length cap, .int .i64 ((n : Nat) : Int)] w0 fun e w' => ∃ v, ∃ t : List Vc.Item, e = .returned v ∧ Evo w0 w' [] ∧ OwnE w' w0.heap.size 81 v t ∧ t.length ≤ n ∧ ∀ x ∈ t, x.text.length ≤ 240 := by
 refine calls_enter (n := 17) (args := [.slice ao l.length cap, .int .i64 ((n : Nat) : Int)]) Try.func52 rfl Try.ntmps52 rfl ?_
 have hV : Evo w0 w0 [] := Evo.refl _ _
 have hl0 := keepE hl
 have hbd_hl := hl.bd
 refine r_seq ?_
 refine r_region ?_
 refine r_op rfl rfl rfl (run_asg (v := .slice _ _ _) rfl (by exact rfl)) ?_
 refine r_nil ?_
 refine r_seq ?_
 refine r_region ?_
 refine r_op rfl rfl rfl (run_mv (v := .slice _ _ _) rfl (by exact rfl)) ?_
 refine r_op rfl rfl rfl (run_bld (pv := [(0, .slice _ _ _)]) (zs := [_, _]) (cells := [_, _]) rfl ty_89 (by exact rfl) pl_89 (by exact rfl) (by exact rfl)) ?_
 refine r_box (vs := [_, _]) (by exact rfl) (by exact rfl) rfl ?_
 intro b1 w2 heb1 hEw2 hbb1 hzb1
 have hs_w2 := (hEw2).size
 replace hV := evo_step0 hV hEw2
 replace hl := hl0 _ hV
 have hAb1 := hbb1.at
 refine r_opcall rfl rfl rfl (run_callf (vs := [.pointer _, .int _ _, .bool _, .bool _]) rfl (by exact rfl) Try.func62 rfl (by kernel_rfl)) (fragment_calls (N := 0) (show Blk _ _ _ [_, .int .i64 ((0 : Nat) : Int)] from hbb1) (fun w9 h9 => hl0 _ (evo_step1 hV h9 (.inl (by omega)))) (by omega) (by omega) (by omega)) ?_
 rintro e w3 ⟨vf3, f3, Nf3, rfl, hf3, hNf3, hE3, hn3, hof3⟩
 refine ⟨_, rfl, ?_⟩
 have hs_w3 := (hE3).size
 replace hV := evo_step1 hV hE3 (by first | exact .inl (by omega) | exact .inr (by simp))
 replace hl := hl0 _ hV
 replace hbb1 := hn3
 clear hn3
 have hAb1 := hbb1.at
 have hfl9 : fLen f3 ≤ 240 := by have h9 := hf3.2.2.1; rw [fLen_size]; omega
 have hfn9 : f3.length ≤ 16 := by have h9 := hf3.2.1; omega
 have htl9 := toks_len f3
 obtain ⟨ao4, g4, cp4, hv4, hr4, hg4⟩ := hof3.rowOf
 subst hv4
 refine r_opcall rfl rfl rfl (run_callf (vs := [.slice _ _ _]) rfl (by exact rfl) Try.func88 rfl (by kernel_rfl)) (rtokens_calls hr4 (by omega)) ?_
 rintro e w5 ⟨vt5, rfl, hE5, hot5⟩
 refine ⟨_, rfl, ?_⟩
 have hs_w5 := (hE5).size
 replace hV := evo_step0 hV hE5
 replace hl := hl0 _ hV
 replace hof3 := hof3.evo0 hE5
 replace hr4 := hr4.evo0 hE5
 refine r_op rfl rfl rfl (run_asg (v := vt5) rfl (by exact rfl)) ?_
 refine r_nil ?_
 refine r_seq ?_
 refine r_region ?_
 refine r_op rfl rfl rfl (run_mv (v := vt5) rfl (by exact rfl)) ?_
 refine r_op rfl rfl rfl (run_mv (v := vt5) rfl (by exact rfl)) ?_
 refine r_op rfl rfl rfl (run_lenOE rfl (by exact rfl) Try.underlying63 hot5) ?_
 refine r_op rfl rfl rfl (run_mv (v := .int _ _) rfl (by exact rfl)) ?_
 refine r_op rfl rfl rfl (run_min rfl (by exact rfl) (by exact rfl)) ?_
 refine r_cutOwn0 (min (toks f3).length n) rfl Try.underlying63 ty_81 hot5 (by exact rfl) (hi1 (by exact rfl) (by omega)) (by omega) ?_
 intro v6 hov6 hlv6
 refine r_op rfl rfl rfl (run_asg (v := v6) rfl (by exact rfl)) ?_
 refine r_nil ?_
 refine r_ret (res1 (v := v6) rfl (by exact rfl)) ?_
 exact ⟨_, _, rfl, hV, hov6.base_le (by omega), by rw [List.length_take]; omega, fun x hx => by have := toks_text (List.mem_of_mem_take hx); omega⟩

set_option maxHeartbeats 1000000 in
theorem near_calls {aot : Option Addr} {bt offt capt : Nat} {t : List Vc.Item} {ao : Option Addr} {b off cap : Nat} {l : List Int} {B : Nat} {w0 : World} (ht : RowE w0 aot bt offt capt t) (hl : RowE w0 ao b off cap l) (hq : ∀ x ∈ t, x.text.length ≤ B) (hB : B ≤ 1000000000) (hs : t.length ≤ 1000) :
    Calls Try.prog 53 #[.slice aot t.length capt, .slice ao l.length cap] w0 fun e w' => ∃ v, ∃ lo : List Vc.Item, e = .returned v ∧ Evo w0 w' [] ∧ OwnE w' w0.heap.size 81 v lo ∧ NR B t.length lo := by
 refine calls_enter (n := 49) (args := [.slice aot t.length capt, .slice ao l.length cap]) Try.func53 rfl Try.ntmps53 rfl ?_
 have hV : Evo w0 w0 [] := Evo.refl _ _
 have ht0 := keepE ht
 have hbd_ht := ht.bd
 have hl0 := keepE hl
 have hbd_hl := hl.bd
 refine r_seq ?_
 refine r_region ?_
 refine r_op rfl rfl rfl (run_asg (v := .slice _ _ _) rfl (by exact rfl)) ?_
 refine r_nil ?_
 refine r_seq ?_
 refine r_region ?_
 refine r_op rfl rfl rfl (run_mv (v := .slice _ _ _) rfl (by exact rfl)) ?_
 refine r_op rfl rfl rfl (run_bld (pv := [(0, .slice _ _ _)]) (zs := [_, _]) (cells := [_, _]) rfl ty_89 (by exact rfl) pl_89 (by exact rfl) (by exact rfl)) ?_
 refine r_box (vs := [_, _]) (by exact rfl) (by exact rfl) rfl ?_
 intro b1 w2 heb1 hEw2 hbb1 hzb1
 have hs_w2 := (hEw2).size
 replace hV := evo_step0 hV hEw2
 replace ht := ht0 _ hV
 replace hl := hl0 _ hV
 have hAb1 := hbb1.at
 refine r_op rfl rfl rfl (run_asg (v := .pointer _) rfl (by exact rfl)) ?_
 refine r_nil ?_
 refine r_seq ?_
 refine r_region ?_
 refine r_op rfl rfl rfl (run_asg (v := .slice _ _ _) rfl (by exact rfl)) ?_
 refine r_nil ?_
 refine r_seq ?_
 refine r_seq ?_
 refine r_region ?_
 refine r_op rfl rfl rfl (run_mv (v := .slice _ _ _) rfl (by exact rfl)) ?_
 refine r_op rfl rfl rfl (run_lenSl rfl (by exact rfl) Try.underlying63) ?_
 refine r_op rfl rfl rfl (run_mv (v := .int _ _) rfl (by exact rfl)) ?_
 refine r_nil ?_
 refine r_block ?_
 refine r_loop (α := Nat) [6, 8, 14, 15, 16, 17, 18, 19, 20, 21, 22, 23, 24, 25, 26, 27, 28, 29, 30, 31, 32, 33, 34, 35, 36, 37, 38, 39, 40, 41, 42, 43, 44, 45, 46, 47] (fun k g w => ∃ vo : Value, ∃ lo : List Vc.Item, g 14 = .int .i64 (k : Nat) ∧ g 6 = vo ∧ k ≤ t.length ∧ OwnE w w2.heap.size 81 vo lo ∧ Blk w b1 89 [.slice ao l.length cap, .int .i64 ((k : Nat) : Int)] ∧ NR B k lo ∧ w2.heap.size ≤ w.heap.size ∧ Evo w0 w []) (fun k => t.length - k) 0 ?_ ?_
 ·refine ⟨_, [], (by first | exact rfl | exact congrArg (Value.int _) (by omega) | exact congrArg (Value.int _) (by dsimp only; omega) | exact congrArg (Value.int _) (by simp) | exact congrArg S (by simp)), rfl, (by first | assumption | omega | (dsimp only; omega) | (simp; done)), (OwnE.nil _ _ _), hbb1, (NR.nil B), (by first | assumption | omega | (dsimp only; omega) | (simp; done)), hV⟩
 ·rintro k g w4 ⟨vo, lo, hj5, hj6, hk_k, hoo, hbb1, hnr, hzl3, hV⟩
  have hs_w4hV := hV.size
  have hlt7 := hbb1.lt
  replace ht := ht0 _ hV
  replace hl := hl0 _ hV
  refine r_know (i := 14) (v := .int .i64 (k : Nat)) (by exact hj5) ?_
  refine r_know (i := 6) (v := vo) (by exact hj6) ?_
  have hlo := hnr.1
  have hqk := getD_text hq k
  have hqs := app1_le (t := [115]) hqk rfl
  have hq1 : List.length ([115] : Str) = 1 := rfl
  refine r_seq ?_
  refine r_region ?_
  refine r_op rfl rfl rfl (run_lss rfl (by exact rfl) (by exact rfl)) ?_
  refine r_nil ?_
  refine r_seq ?_
  refine r_cond (by exact rfl) (fun hc8 => ?_) (fun hc8 => ?_)
  ·skip
   refine r_skip ?_
   refine r_seq ?_
   refine r_block ?_
   refine r_seq ?_
   have hobO := fun g hg => (hoo.block (g := g) hg).2
   refine r_region ?_
   refine r_op rfl rfl rfl (run_ix (k) rfl Try.underlying63 ty_81 (by exact rfl) (by exact rfl) (by first | exact rfl | omega) (by omega) (ht.addr (i := k) (by omega))) ?_
   have hA90 := fun (w' : World) (h : Evo w0 w' []) => (ht0 w' h).atD (k) (by omega)
   have hA9 := hA90 _ hV
   refine r_op rfl rfl rfl (run_ldN rfl ag_81 ty_81 (by exact rfl) rfl hA9) ?_
   have hob10 := fun g hg => (hoo.block (g := g) hg).2
   refine r_var (zs := [_, _, _]) (vs := [_, _, _]) ty_81 (by exact rfl) rfl (by exact rfl) (fun _ => rfl) (by exact rfl) rfl rfl (by exact rfl) ?_
   intro b11 w12 heb11 hEw12 hbb11 hzb11
   have hs_w12 := (hEw12).size
   replace hV := evo_step0 hV hEw12
   replace ht := ht0 _ hV
   replace hl := hl0 _ hV
   replace hoo := hoo.evo0 hEw12
   replace hbb1 := hbb1.evo0 hEw12
   have hAb11 := hbb11.at
   refine r_nil ?_
   refine r_seq ?_
   refine r_seq ?_
   refine r_region ?_
   refine r_op rfl rfl rfl (run_mv (v := .pointer _) rfl (by exact rfl)) ?_
   refine r_opcall rfl rfl rfl (run_callf (vs := [.pointer _, .int _ _]) rfl (by exact rfl) Try.func67 rfl (by kernel_rfl)) (inx_calls hbb1 hl (by omega) (by omega) (by omega)) ?_
   rintro e w13 ⟨nx13, rfl, hx13, hE13, hn13⟩
   refine ⟨_, rfl, ?_⟩
   have hs_w13 := (hE13).size
   replace hV := evo_step1 hV hE13 (by first | exact .inl (by omega) | exact .inr (by simp))
   replace ht := ht0 _ hV
   replace hl := hl0 _ hV
   replace hoo := hoo.evo hE13 (by intro g hg hm; simp at hm; subst hm; have h7 := hobO g hg; have h8 := (hoo.block (g := g) hg).1; omega)
   replace hbb11 := hbb11.evo hE13 (by simp; omega)
   replace hAb11 := hAb11.evo hE13 (by simp; omega)
   replace hbb1 := hn13
   clear hn13
   have hAb1 := hbb1.at
   refine r_nil ?_
   refine r_block ?_
   refine r_seq ?_
   refine r_region ?_
   refine r_op rfl rfl rfl (run_eql rfl (by exact rfl) (by exact rfl)) ?_
   refine r_op rfl rfl rfl (run_asg (v := .bool _) rfl (by exact rfl)) ?_
   refine r_nil ?_
   refine r_cond (by exact rfl) (fun hc14 => ?_) (fun hc14 => ?_)
   ·skip
    refine r_exit rfl ?_
    refine r_region ?_
    refine r_op rfl rfl rfl (run_add rfl (by exact rfl) (by exact rfl) (by omega) (by omega)) ?_
    refine r_op rfl rfl rfl (run_mv (v := .int _ _) rfl (by exact rfl)) ?_
    refine r_nil ?_
    refine r_again (k + 1) ?_ ?_ ?_
    ·first | omega | (dsimp only; omega)
    ·refine ⟨_, _, (by first | exact rfl | exact congrArg (Value.int _) (by omega) | exact congrArg (Value.int _) (by dsimp only; omega) | exact congrArg (Value.int _) (by simp) | exact congrArg S (by simp)), rfl, (by first | assumption | omega | (dsimp only; omega) | (simp; done)), hoo, hbb1, (by first | exact hnr.skip | exact hnr.two (Nat.le_add_left 4 B) (Nat.le_add_right_of_le hqk) | exact hnr.two (Nat.le_add_right_of_le hqk) (Nat.le_add_right_of_le hqk) | exact hnr.one (Nat.le_add_right_of_le hqk) | exact hnr.one hqs), (by first | assumption | omega | (dsimp only; omega) | (simp; done)), hV⟩
    ·repeat (first | (with_reducible exact Agree.merge _ _ _) | (with_reducible exact Agree.refl _ _) | (with_reducible refine Agree.upd ?_ _ _ rfl) | ((with_reducible refine Agree.inner ?_ ?_); (kernel_rfl)))
   ·skip
    refine r_seq ?_
    refine r_region ?_
    refine r_op rfl rfl rfl (run_eql rfl (by exact rfl) (by exact rfl)) ?_
    refine r_op rfl rfl rfl (run_asg (v := .bool _) rfl (by exact rfl)) ?_
    refine r_nil ?_
    refine r_cond (by exact rfl) (fun hc15 => ?_) (fun hc15 => ?_)
    ·skip
     refine r_region ?_
     refine r_op rfl rfl rfl (run_mv (v := vo) rfl (by exact rfl)) ?_
     refine r_op rfl rfl rfl (run_bld (pv := [(0, .int _ _), (1, S _)]) (zs := [_, _, _]) (cells := [_, _, _]) rfl ty_81 (by exact rfl) pl_81 (by exact rfl) (by exact rfl)) ?_
     refine r_append1E (u := .agg _) (y := (⟨6, [98, 108, 117, 101], 0⟩ : Vc.Item)) rfl rfl Try.underlying63 ty_81 (by exact rfl) hoo (fun _ => (by exact rfl)) (by exact rfl) (by first | exact rfl | (show _ = List.toArray [_, _, _]; first | (dsimp only; done) | exact rfl | (dsimp only; exact rfl))) ((by first | omega | (simp; omega))) ((by first | omega | (simp; omega))) (by omega) ?_
     intro q_v16 v16 w17 hEw17 hov16 hlv16
     have hs_w17 := (hEw17).size
     replace hV := evo_stepo hV hEw17 (fun g hg => .inl (by first | exact (hoo.block hg).1 | (have := hoo.block hg; omega)))
     replace ht := ht0 _ hV
     replace hl := hl0 _ hV
     replace hbb11 := hbb11.evo hEw17 (by intro hm; have hm2 := Option.mem_toList.1 hm; have := hob10 _ hm2; omega)
     replace hAb11 := hAb11.evo hEw17 (by intro hm; have hm2 := Option.mem_toList.1 hm; have := hob10 _ hm2; omega)
     replace hbb1 := hbb1.evo hEw17 (by intro hm; have hm2 := Option.mem_toList.1 hm; first | (have := hoo.block hm2; omega) | (simp [Value.ownBlock] at hm2; omega))
     replace hAb1 := hAb1.evo hEw17 (by intro hm; have hm2 := Option.mem_toList.1 hm; first | (have := hoo.block hm2; omega) | (simp [Value.ownBlock] at hm2; omega))
     refine r_op rfl rfl rfl (run_asg (v := v16) rfl (by exact rfl)) ?_
     refine r_nil ?_
     refine r_blk ?_
     refine r_region ?_
     refine r_op rfl rfl rfl (run_mv (v := v16) rfl (by exact rfl)) ?_
     refine r_op rfl rfl rfl (run_ldN rfl ag_81 ty_81 (by exact rfl) rfl hAb11) ?_
     refine r_append1E (u := .agg _) (y := ⟨(t.getD k default).kind, _, (t.getD k default).id⟩) rfl rfl Try.underlying63 ty_81 (by exact rfl) hov16 (fun _ => (by exact rfl)) (by exact rfl) (by first | exact rfl | (show _ = List.toArray [_, _, _]; first | (dsimp only; done) | exact rfl | (dsimp only; exact rfl))) ((by first | omega | (simp; omega))) ((by first | omega | (simp; omega))) (by omega) ?_
     intro q_v18 v18 w19 hEw19 hov18 hlv18
     have hs_w19 := (hEw19).size
     replace hV := evo_stepo hV hEw19 (fun g hg => .inl (by first | exact (hov16.block hg).1 | (have := hov16.block hg; omega)))
     replace ht := ht0 _ hV
     replace hl := hl0 _ hV
     replace hbb1 := hbb1.evo hEw19 (by intro hm; have hm2 := Option.mem_toList.1 hm; first | (have := hov16.block hm2; omega) | (simp [Value.ownBlock] at hm2; omega))
     replace hAb1 := hAb1.evo hEw19 (by intro hm; have hm2 := Option.mem_toList.1 hm; first | (have := hov16.block hm2; omega) | (simp [Value.ownBlock] at hm2; omega))
     refine r_op rfl rfl rfl (run_asg (v := v18) rfl (by exact rfl)) ?_
     refine r_nil ?_
     refine r_blk ?_
     refine r_region ?_
     refine r_op rfl rfl rfl (run_add rfl (by exact rfl) (by exact rfl) (by omega) (by omega)) ?_
     refine r_op rfl rfl rfl (run_mv (v := .int _ _) rfl (by exact rfl)) ?_
     refine r_nil ?_
     refine r_again (k + 1) ?_ ?_ ?_
     ·first | omega | (dsimp only; omega)
     ·refine ⟨_, _, (by first | exact rfl | exact congrArg (Value.int _) (by omega) | exact congrArg (Value.int _) (by dsimp only; omega) | exact congrArg (Value.int _) (by simp) | exact congrArg S (by simp)), rfl, (by first | assumption | omega | (dsimp only; omega) | (simp; done)), hov18, hbb1, (by first | exact hnr.skip | exact hnr.two (Nat.le_add_left 4 B) (Nat.le_add_right_of_le hqk) | exact hnr.two (Nat.le_add_right_of_le hqk) (Nat.le_add_right_of_le hqk) | exact hnr.one (Nat.le_add_right_of_le hqk) | exact hnr.one hqs), (by first | assumption | omega | (dsimp only; omega) | (simp; done)), hV⟩
     ·repeat (first | (with_reducible exact Agree.merge _ _ _) | (with_reducible exact Agree.refl _ _) | (with_reducible refine Agree.upd ?_ _ _ rfl) | ((with_reducible refine Agree.inner ?_ ?_); (kernel_rfl)))
    ·skip
     refine r_seq ?_
     refine r_region ?_
     refine r_op rfl rfl rfl (run_eql rfl (by exact rfl) (by exact rfl)) ?_
     refine r_op rfl rfl rfl (run_asg (v := .bool _) rfl (by exact rfl)) ?_
     refine r_nil ?_
     refine r_cond (by exact rfl) (fun hc20 => ?_) (fun hc20 => ?_)
     ·skip
      refine r_seq ?_
      refine r_region ?_
      refine r_op rfl rfl rfl (run_fa rfl (by exact rfl) fo_81_0) ?_
      refine r_op rfl rfl rfl (run_ld1 rfl ag_3 (by exact rfl) (hAb11.cell 0 (by exact rfl))) ?_
      refine r_op rfl rfl rfl (run_eql rfl (by exact rfl) (by exact rfl)) ?_
      refine r_nil ?_
      refine r_cond (by exact rfl) (fun hc21 => ?_) (fun hc21 => ?_)
      ·skip
       refine r_region ?_
       refine r_op rfl rfl rfl (run_fa rfl (by exact rfl) fo_81_1) ?_
       refine r_op rfl rfl rfl (run_ld1 rfl ag_9 (by exact rfl) (hAb11.cell 1 (by exact rfl))) ?_
       refine r_op rfl rfl rfl (run_sadd rfl (by exact rfl) (by exact rfl) (by first | omega | (simp; omega))) ?_
       refine r_op rfl rfl rfl (run_fa rfl (by exact rfl) fo_81_1) ?_
       refine r_store (v := S _) (vs := [_]) (cs' := [_, _, _]) (by exact rfl) (by exact rfl) hbb11 ty_9 (by exact rfl) rfl (by exact rfl) rfl (by exact rfl) ?_
       intro w22 hEw22 hzw22 hb_new
       have hs_w22 := (hEw22).size
       replace hV := evo_step1 hV hEw22 (by first | exact .inl (by omega) | exact .inr (by simp))
       replace ht := ht0 _ hV
       replace hl := hl0 _ hV
       replace hoo := hoo.evo hEw22 (by intro g hg hm; simp at hm; subst hm; have h7 := hobO g hg; have h8 := (hoo.block (g := g) hg).1; omega)
       replace hbb1 := hbb1.evo hEw22 (by simp; omega)
       replace hAb1 := hAb1.evo hEw22 (by simp; omega)
       replace hbb11 := hb_new
       have hAb11 := hbb11.at
       clear hb_new
       refine r_nil ?_
       refine r_blk ?_
       refine r_region ?_
       refine r_op rfl rfl rfl (run_mv (v := vo) rfl (by exact rfl)) ?_
       refine r_op rfl rfl rfl (run_ldN rfl ag_81 ty_81 (by exact rfl) rfl hAb11) ?_
       refine r_append1E (u := .agg _) (y := ⟨(t.getD k default).kind, _, (t.getD k default).id⟩) rfl rfl Try.underlying63 ty_81 (by exact rfl) hoo (fun _ => (by exact rfl)) (by exact rfl) (by first | exact rfl | (show _ = List.toArray [_, _, _]; first | (dsimp only; done) | exact rfl | (dsimp only; exact rfl))) ((by first | omega | (simp; omega))) ((by first | omega | (simp; omega))) (by omega) ?_
       intro q_v23 v23 w24 hEw24 hov23 hlv23
       have hs_w24 := (hEw24).size
       replace hV := evo_stepo hV hEw24 (fun g hg => .inl (by first | exact (hoo.block hg).1 | (have := hoo.block hg; omega)))
       replace ht := ht0 _ hV
       replace hl := hl0 _ hV
       replace hbb1 := hbb1.evo hEw24 (by intro hm; have hm2 := Option.mem_toList.1 hm; first | (have := hoo.block hm2; omega) | (simp [Value.ownBlock] at hm2; omega))
       replace hAb1 := hAb1.evo hEw24 (by intro hm; have hm2 := Option.mem_toList.1 hm; first | (have := hoo.block hm2; omega) | (simp [Value.ownBlock] at hm2; omega))
       refine r_op rfl rfl rfl (run_asg (v := v23) rfl (by exact rfl)) ?_
       refine r_nil ?_
       refine r_blk ?_
       refine r_region ?_
       refine r_op rfl rfl rfl (run_add rfl (by exact rfl) (by exact rfl) (by omega) (by omega)) ?_
       refine r_op rfl rfl rfl (run_mv (v := .int _ _) rfl (by exact rfl)) ?_
       refine r_nil ?_
       refine r_again (k + 1) ?_ ?_ ?_
       ·first | omega | (dsimp only; omega)
       ·refine ⟨_, _, (by first | exact rfl | exact congrArg (Value.int _) (by omega) | exact congrArg (Value.int _) (by dsimp only; omega) | exact congrArg (Value.int _) (by simp) | exact congrArg S (by simp)), rfl, (by first | assumption | omega | (dsimp only; omega) | (simp; done)), hov23, hbb1, (by first | exact hnr.skip | exact hnr.two (Nat.le_add_left 4 B) (Nat.le_add_right_of_le hqk) | exact hnr.two (Nat.le_add_right_of_le hqk) (Nat.le_add_right_of_le hqk) | exact hnr.one (Nat.le_add_right_of_le hqk) | exact hnr.one hqs), (by first | assumption | omega | (dsimp only; omega) | (simp; done)), hV⟩
       ·repeat (first | (with_reducible exact Agree.merge _ _ _) | (with_reducible exact Agree.refl _ _) | (with_reducible refine Agree.upd ?_ _ _ rfl) | ((with_reducible refine Agree.inner ?_ ?_); (kernel_rfl)))
      ·skip
       refine r_skip ?_
       refine r_blk ?_
       refine r_region ?_
       refine r_op rfl rfl rfl (run_mv (v := vo) rfl (by exact rfl)) ?_
       refine r_op rfl rfl rfl (run_ldN rfl ag_81 ty_81 (by exact rfl) rfl hAb11) ?_
       refine r_append1E (u := .agg _) (y := ⟨(t.getD k default).kind, _, (t.getD k default).id⟩) rfl rfl Try.underlying63 ty_81 (by exact rfl) hoo (fun _ => (by exact rfl)) (by exact rfl) (by first | exact rfl | (show _ = List.toArray [_, _, _]; first | (dsimp only; done) | exact rfl | (dsimp only; exact rfl))) ((by first | omega | (simp; omega))) ((by first | omega | (simp; omega))) (by omega) ?_
       intro q_v25 v25 w26 hEw26 hov25 hlv25
       have hs_w26 := (hEw26).size
       replace hV := evo_stepo hV hEw26 (fun g hg => .inl (by first | exact (hoo.block hg).1 | (have := hoo.block hg; omega)))
       replace ht := ht0 _ hV
       replace hl := hl0 _ hV
       replace hbb1 := hbb1.evo hEw26 (by intro hm; have hm2 := Option.mem_toList.1 hm; first | (have := hoo.block hm2; omega) | (simp [Value.ownBlock] at hm2; omega))
       replace hAb1 := hAb1.evo hEw26 (by intro hm; have hm2 := Option.mem_toList.1 hm; first | (have := hoo.block hm2; omega) | (simp [Value.ownBlock] at hm2; omega))
       refine r_op rfl rfl rfl (run_asg (v := v25) rfl (by exact rfl)) ?_
       refine r_nil ?_
       refine r_blk ?_
       refine r_region ?_
       refine r_op rfl rfl rfl (run_add rfl (by exact rfl) (by exact rfl) (by omega) (by omega)) ?_
       refine r_op rfl rfl rfl (run_mv (v := .int _ _) rfl (by exact rfl)) ?_
       refine r_nil ?_
       refine r_again (k + 1) ?_ ?_ ?_
       ·first | omega | (dsimp only; omega)
       ·refine ⟨_, _, (by first | exact rfl | exact congrArg (Value.int _) (by omega) | exact congrArg (Value.int _) (by dsimp only; omega) | exact congrArg (Value.int _) (by simp) | exact congrArg S (by simp)), rfl, (by first | assumption | omega | (dsimp only; omega) | (simp; done)), hov25, hbb1, (by first | exact hnr.skip | exact hnr.two (Nat.le_add_left 4 B) (Nat.le_add_right_of_le hqk) | exact hnr.two (Nat.le_add_right_of_le hqk) (Nat.le_add_right_of_le hqk) | exact hnr.one (Nat.le_add_right_of_le hqk) | exact hnr.one hqs), (by first | assumption | omega | (dsimp only; omega) | (simp; done)), hV⟩
       ·repeat (first | (with_reducible exact Agree.merge _ _ _) | (with_reducible exact Agree.refl _ _) | (with_reducible refine Agree.upd ?_ _ _ rfl) | ((with_reducible refine Agree.inner ?_ ?_); (kernel_rfl)))
     ·skip
      refine r_seq ?_
      refine r_region ?_
      refine r_op rfl rfl rfl (run_eql rfl (by exact rfl) (by exact rfl)) ?_
      refine r_op rfl rfl rfl (run_asg (v := .bool _) rfl (by exact rfl)) ?_
      refine r_nil ?_
      refine r_cond (by exact rfl) (fun hc27 => ?_) (fun hc27 => ?_)
      ·skip
       refine r_region ?_
       refine r_op rfl rfl rfl (run_mv (v := vo) rfl (by exact rfl)) ?_
       refine r_op rfl rfl rfl (run_ldN rfl ag_81 ty_81 (by exact rfl) rfl hAb11) ?_
       refine r_append1E (u := .agg _) (y := (t.getD k default : Vc.Item)) rfl rfl Try.underlying63 ty_81 (by exact rfl) hoo (fun _ => (by exact rfl)) (by exact rfl) (by first | exact rfl | (show _ = List.toArray [_, _, _]; first | (dsimp only; done) | exact rfl | (dsimp only; exact rfl))) ((by first | omega | (simp; omega))) ((by first | omega | (simp; omega))) (by omega) ?_
       intro q_v28 v28 w29 hEw29 hov28 hlv28
       have hs_w29 := (hEw29).size
       replace hV := evo_stepo hV hEw29 (fun g hg => .inl (by first | exact (hoo.block hg).1 | (have := hoo.block hg; omega)))
       replace ht := ht0 _ hV
       replace hl := hl0 _ hV
       replace hbb11 := hbb11.evo hEw29 (by intro hm; have hm2 := Option.mem_toList.1 hm; have := hob10 _ hm2; omega)
       replace hAb11 := hAb11.evo hEw29 (by intro hm; have hm2 := Option.mem_toList.1 hm; have := hob10 _ hm2; omega)
       replace hbb1 := hbb1.evo hEw29 (by intro hm; have hm2 := Option.mem_toList.1 hm; first | (have := hoo.block hm2; omega) | (simp [Value.ownBlock] at hm2; omega))
       replace hAb1 := hAb1.evo hEw29 (by intro hm; have hm2 := Option.mem_toList.1 hm; first | (have := hoo.block hm2; omega) | (simp [Value.ownBlock] at hm2; omega))
       refine r_op rfl rfl rfl (run_asg (v := v28) rfl (by exact rfl)) ?_
       refine r_nil ?_
       refine r_blk ?_
       refine r_region ?_
       refine r_op rfl rfl rfl (run_mv (v := v28) rfl (by exact rfl)) ?_
       refine r_op rfl rfl rfl (run_ldN rfl ag_81 ty_81 (by exact rfl) rfl hAb11) ?_
       refine r_append1E (u := .agg _) (y := ⟨(t.getD k default).kind, _, (t.getD k default).id⟩) rfl rfl Try.underlying63 ty_81 (by exact rfl) hov28 (fun _ => (by exact rfl)) (by exact rfl) (by first | exact rfl | (show _ = List.toArray [_, _, _]; first | (dsimp only; done) | exact rfl | (dsimp only; exact rfl))) ((by first | omega | (simp; omega))) ((by first | omega | (simp; omega))) (by omega) ?_
       intro q_v30 v30 w31 hEw31 hov30 hlv30
       have hs_w31 := (hEw31).size
       replace hV := evo_stepo hV hEw31 (fun g hg => .inl (by first | exact (hov28.block hg).1 | (have := hov28.block hg; omega)))
       replace ht := ht0 _ hV
       replace hl := hl0 _ hV
       replace hbb1 := hbb1.evo hEw31 (by intro hm; have hm2 := Option.mem_toList.1 hm; first | (have := hov28.block hm2; omega) | (simp [Value.ownBlock] at hm2; omega))
       replace hAb1 := hAb1.evo hEw31 (by intro hm; have hm2 := Option.mem_toList.1 hm; first | (have := hov28.block hm2; omega) | (simp [Value.ownBlock] at hm2; omega))
       refine r_op rfl rfl rfl (run_asg (v := v30) rfl (by exact rfl)) ?_
       refine r_nil ?_
       refine r_blk ?_
       refine r_region ?_
       refine r_op rfl rfl rfl (run_add rfl (by exact rfl) (by exact rfl) (by omega) (by omega)) ?_
       refine r_op rfl rfl rfl (run_mv (v := .int _ _) rfl (by exact rfl)) ?_
       refine r_nil ?_
       refine r_again (k + 1) ?_ ?_ ?_
       ·first | omega | (dsimp only; omega)
       ·refine ⟨_, _, (by first | exact rfl | exact congrArg (Value.int _) (by omega) | exact congrArg (Value.int _) (by dsimp only; omega) | exact congrArg (Value.int _) (by simp) | exact congrArg S (by simp)), rfl, (by first | assumption | omega | (dsimp only; omega) | (simp; done)), hov30, hbb1, (by first | exact hnr.skip | exact hnr.two (Nat.le_add_left 4 B) (Nat.le_add_right_of_le hqk) | exact hnr.two (Nat.le_add_right_of_le hqk) (Nat.le_add_right_of_le hqk) | exact hnr.one (Nat.le_add_right_of_le hqk) | exact hnr.one hqs), (by first | assumption | omega | (dsimp only; omega) | (simp; done)), hV⟩
       ·repeat (first | (with_reducible exact Agree.merge _ _ _) | (with_reducible exact Agree.refl _ _) | (with_reducible refine Agree.upd ?_ _ _ rfl) | ((with_reducible refine Agree.inner ?_ ?_); (kernel_rfl)))
      ·skip
       refine r_skip ?_
       refine r_blk ?_
       refine r_region ?_
       refine r_op rfl rfl rfl (run_mv (v := vo) rfl (by exact rfl)) ?_
       refine r_op rfl rfl rfl (run_ldN rfl ag_81 ty_81 (by exact rfl) rfl hAb11) ?_
       refine r_append1E (u := .agg _) (y := ⟨(t.getD k default).kind, _, (t.getD k default).id⟩) rfl rfl Try.underlying63 ty_81 (by exact rfl) hoo (fun _ => (by exact rfl)) (by exact rfl) (by first | exact rfl | (show _ = List.toArray [_, _, _]; first | (dsimp only; done) | exact rfl | (dsimp only; exact rfl))) ((by first | omega | (simp; omega))) ((by first | omega | (simp; omega))) (by omega) ?_
       intro q_v32 v32 w33 hEw33 hov32 hlv32
       have hs_w33 := (hEw33).size
       replace hV := evo_stepo hV hEw33 (fun g hg => .inl (by first | exact (hoo.block hg).1 | (have := hoo.block hg; omega)))
       replace ht := ht0 _ hV
       replace hl := hl0 _ hV
       replace hbb1 := hbb1.evo hEw33 (by intro hm; have hm2 := Option.mem_toList.1 hm; first | (have := hoo.block hm2; omega) | (simp [Value.ownBlock] at hm2; omega))
       replace hAb1 := hAb1.evo hEw33 (by intro hm; have hm2 := Option.mem_toList.1 hm; first | (have := hoo.block hm2; omega) | (simp [Value.ownBlock] at hm2; omega))
       refine r_op rfl rfl rfl (run_asg (v := v32) rfl (by exact rfl)) ?_
       refine r_nil ?_
       refine r_blk ?_
       refine r_region ?_
       refine r_op rfl rfl rfl (run_add rfl (by exact rfl) (by exact rfl) (by omega) (by omega)) ?_
       refine r_op rfl rfl rfl (run_mv (v := .int _ _) rfl (by exact rfl)) ?_
       refine r_nil ?_
       refine r_again (k + 1) ?_ ?_ ?_
       ·first | omega | (dsimp only; omega)
       ·refine ⟨_, _, (by first | exact rfl | exact congrArg (Value.int _) (by omega) | exact congrArg (Value.int _) (by dsimp only; omega) | exact congrArg (Value.int _) (by simp) | exact congrArg S (by simp)), rfl, (by first | assumption | omega | (dsimp only; omega) | (simp; done)), hov32, hbb1, (by first | exact hnr.skip | exact hnr.two (Nat.le_add_left 4 B) (Nat.le_add_right_of_le hqk) | exact hnr.two (Nat.le_add_right_of_le hqk) (Nat.le_add_right_of_le hqk) | exact hnr.one (Nat.le_add_right_of_le hqk) | exact hnr.one hqs), (by first | assumption | omega | (dsimp only; omega) | (simp; done)), hV⟩
       ·repeat (first | (with_reducible exact Agree.merge _ _ _) | (with_reducible exact Agree.refl _ _) | (with_reducible refine Agree.upd ?_ _ _ rfl) | ((with_reducible refine Agree.inner ?_ ?_); (kernel_rfl)))
  ·skip
   refine r_exit rfl ?_
   refine r_seq ?_
   refine r_region ?_
   refine r_op rfl rfl rfl (run_mv (v := vo) rfl (by exact rfl)) ?_
   refine r_op rfl rfl rfl (run_asg (v := vo) rfl (by exact rfl)) ?_
   refine r_nil ?_
   refine r_ret (res1 (v := vo) rfl (by exact rfl)) ?_
   exact ⟨_, _, rfl, hV, hoo.base_le (by omega), by rw [show k = t.length by omega] at hnr; exact hnr⟩

end Go.Proofs.Ytomklacppmaljaa

namespace Go.Proofs.Ytomklacppmaljaa
open Go.RowKit Go.Vc

theorem kqa : ∀ x ∈ toks KRa, x.text.length ≤ 140737488355328 := fun x hx => by have := toks_text hx; have e : fLen KRa = 7 := rfl; omega
theorem kqb : ∀ x ∈ toks KRb, x.text.length ≤ 140737488355328 := fun x hx => by have := toks_text hx; have e : fLen KRb = 8 := rfl; omega
theorem kla : (toks KRa).length ≤ 900000 := by rw [ktok_a]; decide
theorem klb : (toks KRb).length ≤ 900000 := by rw [ktok_b]; decide
theorem kbound : boundL (toks KRa) (toks KRb) = 4 := by rw [ktok_a, ktok_b]; exact known_bound
theorem klen : (((gramsL KW).length : Nat) : Int) = 4 := by rw [known_len]; rfl

theorem known14_calls  {w0 : World}  :
    Calls Try.prog 43 #[] w0 fun e w' => e = .returned (.bool true) ∧ Evo w0 w' [] := by
 have hkw : KW.length = 3 := rfl
 refine calls_enter (n := 28) (args := []) Try.func43 rfl Try.ntmps43 rfl ?_
 have hV : Evo w0 w0 [] := Evo.refl _ _
 refine r_seq ?_
 refine r_region ?_
 refine r_op rfl rfl rfl (run_asg (v := .bool _) rfl (by exact rfl)) ?_
 refine r_nil ?_
 refine r_seq ?_
 refine r_region ?_
 refine r_bslice (pv := [(0, S _), (1, S _), (2, S _)]) (zs := [_]) (cs := [_, _, _]) Try.underlying34 ty_9 (by exact rfl) rfl (by exact rfl) rfl (by exact rfl) ?_
 intro b1 w2 heb1 hEw2 hbb1 hzb1
 have hs_w2 := (hEw2).size
 replace hV := evo_step0 hV hEw2
 have hAb1 := hbb1.at
 have hrb1 : RowE w2 (some ⟨b1, 0, none⟩) b1 0 3 KW := rowLit KW hbb1 rfl rfl
 refine r_opcall rfl rfl rfl (run_callf (vs := [.slice (some ⟨b1, 0, none⟩) _ _]) rfl (by exact rfl) Try.func47 rfl (by kernel_rfl)) (grams_calls hrb1 (by omega)) ?_
 rintro e w3 ⟨vg3, rfl, hE3, hog3⟩
 refine ⟨_, rfl, ?_⟩
 have hs_w3 := (hE3).size
 replace hV := evo_step0 hV hE3
 replace hrb1 := hrb1.evo0 hE3
 refine r_op rfl rfl rfl (run_asg (v := vg3) rfl (by exact rfl)) ?_
 refine r_nil ?_
 refine r_seq ?_
 refine r_region ?_
 refine r_op rfl rfl rfl (run_bld (pv := [(0, .int _ _), (1, S _)]) (zs := [_, _, _]) (cells := [_, _, _]) rfl ty_129 (by exact rfl) pl_129 (by exact rfl) (by exact rfl)) ?_
 refine r_bslice (pv := [(0, .agg _)]) (zs := [_, _, _]) (cs := [_, _, _]) Try.underlying85 ty_129 (by exact rfl) rfl (by exact rfl) rfl (by exact rfl) ?_
 intro b4 w5 heb4 hEw5 hbb4 hzb4
 have hs_w5 := (hEw5).size
 replace hV := evo_step0 hV hEw5
 replace hrb1 := hrb1.evo0 hEw5
 replace hog3 := hog3.evo0 hEw5
 have hAb4 := hbb4.at
 have hrb4 : RowE w5 (some ⟨b4, 0, none⟩) b4 0 1 KRa := rowLit KRa hbb4 rfl rfl
 refine r_opcall rfl rfl rfl (run_callf (vs := [.slice (some ⟨b4, 0, none⟩) _ _]) rfl (by exact rfl) Try.func88 rfl (by kernel_rfl)) (rtokens_calls hrb4 (by decide)) ?_
 rintro e w6 ⟨vt6, rfl, hE6, hot6⟩
 refine ⟨_, rfl, ?_⟩
 have hs_w6 := (hE6).size
 replace hV := evo_step0 hV hE6
 replace hrb1 := hrb1.evo0 hE6
 replace hog3 := hog3.evo0 hE6
 replace hrb4 := hrb4.evo0 hE6
 refine r_op rfl rfl rfl (run_asg (v := vt6) rfl (by exact rfl)) ?_
 refine r_nil ?_
 refine r_seq ?_
 refine r_region ?_
 refine r_op rfl rfl rfl (run_bld (pv := [(0, .int _ _), (1, S _)]) (zs := [_, _, _]) (cells := [_, _, _]) rfl ty_129 (by exact rfl) pl_129 (by exact rfl) (by exact rfl)) ?_
 refine r_bslice (pv := [(0, .agg _)]) (zs := [_, _, _]) (cs := [_, _, _]) Try.underlying85 ty_129 (by exact rfl) rfl (by exact rfl) rfl (by exact rfl) ?_
 intro b7 w8 heb7 hEw8 hbb7 hzb7
 have hs_w8 := (hEw8).size
 replace hV := evo_step0 hV hEw8
 replace hrb1 := hrb1.evo0 hEw8
 replace hog3 := hog3.evo0 hEw8
 replace hrb4 := hrb4.evo0 hEw8
 replace hot6 := hot6.evo0 hEw8
 have hAb7 := hbb7.at
 have hrb7 : RowE w8 (some ⟨b7, 0, none⟩) b7 0 1 KRb := rowLit KRb hbb7 rfl rfl
 refine r_opcall rfl rfl rfl (run_callf (vs := [.slice (some ⟨b7, 0, none⟩) _ _]) rfl (by exact rfl) Try.func88 rfl (by kernel_rfl)) (rtokens_calls hrb7 (by decide)) ?_
 rintro e w9 ⟨vt9, rfl, hE9, hot9⟩
 refine ⟨_, rfl, ?_⟩
 have hs_w9 := (hE9).size
 replace hV := evo_step0 hV hE9
 replace hrb1 := hrb1.evo0 hE9
 replace hog3 := hog3.evo0 hE9
 replace hrb4 := hrb4.evo0 hE9
 replace hot6 := hot6.evo0 hE9
 replace hrb7 := hrb7.evo0 hE9
 refine r_op rfl rfl rfl (run_asg (v := vt9) rfl (by exact rfl)) ?_
 refine r_nil ?_
 refine r_seq ?_
 obtain ⟨ao10, g10, cp10, hv10, hr10, hg10⟩ := hog3.rowOf
 subst hv10
 refine r_region ?_
 refine r_op rfl rfl rfl (run_mv (v := .slice _ _ _) rfl (by exact rfl)) ?_
 refine r_op rfl rfl rfl (run_lenSl rfl (by exact rfl) Try.underlying67) ?_
 refine r_op rfl rfl rfl (run_eql rfl (by exact rfl) (by exact rfl)) ?_
 refine r_op rfl rfl rfl (run_mv (v := .bool _) rfl (by exact rfl)) ?_
 refine r_gyes rfl (wantT (by exact rfl)) (by exact klen) ?_
 refine r_op rfl rfl rfl (run_mv (v := .slice _ _ _) rfl (by exact rfl)) ?_
 refine r_gyes rfl (wantT (by exact rfl)) (by exact klen) ?_
 refine r_op rfl rfl rfl (run_ix (0) rfl Try.underlying67 ty_72 (by exact rfl) (by exact rfl) (by first | exact rfl | omega) (by rw [known_len]; decide) (hr10.addr (i := 0) (by rw [known_len]; decide))) ?_
 have hA11 := hr10.atD (0) (by rw [known_len]; decide)
 refine r_gyes rfl (wantT (by exact rfl)) (by exact klen) ?_
 refine r_op rfl rfl rfl (run_ldN rfl ag_72 ty_72 (by exact rfl) rfl hA11) ?_
 refine r_gyes rfl (wantT (by exact rfl)) (by exact klen) ?_
 refine r_op rfl rfl rfl (run_bld (pv := [(0, S _), (1, S _), (2, .int _ _)]) (zs := [_, _, _]) (cells := [_, _, _]) rfl ty_72 (by exact rfl) pl_72 (by exact rfl) (by exact rfl)) ?_
 refine r_gyes rfl (wantT (by exact rfl)) (by exact klen) ?_
 refine r_op rfl rfl rfl (run_eqlG (α := Gram) ((gramsL KW).getD 0 default) (⟨[], [97], 1⟩ : Gram) rfl Try.eqGuardType72 gee (by exact rfl) (by exact rfl)) ?_
 refine r_op rfl rfl rfl (run_pick_and rfl (by exact rfl) (fun _ => (by exact rfl)) rfl) ?_
 refine r_op rfl rfl rfl (run_mv (v := .bool _) rfl (by exact rfl)) ?_
 refine r_gyes rfl (wantT (by exact rfl)) (by exact ⟨klen, known_first⟩) ?_
 refine r_op rfl rfl rfl (run_mv (v := vt6) rfl (by exact rfl)) ?_
 refine r_gyes rfl (wantT (by exact rfl)) (by exact ⟨klen, known_first⟩) ?_
 refine r_op rfl rfl rfl (run_mv (v := vt9) rfl (by exact rfl)) ?_
 refine r_gyes rfl (wantT (by exact rfl)) (by exact ⟨klen, known_first⟩) ?_
 obtain ⟨ao12, g12, cp12, hv12, hr12, hg12⟩ := hot6.rowOf
 subst hv12
 obtain ⟨ao13, g13, cp13, hv13, hr13, hg13⟩ := hot9.rowOf
 subst hv13
 refine r_opcall rfl rfl rfl (run_callf (vs := [.slice _ _ _, .slice _ _ _]) rfl (by exact rfl) Try.func56 rfl (by kernel_rfl)) (bound_calls hr12 hr13 kqa kqb kla klb) ?_
 rintro e w14 ⟨rfl, hE14⟩
 refine ⟨_, rfl, ?_⟩
 have hs_w14 := (hE14).size
 replace hV := evo_step0 hV hE14
 replace hrb1 := hrb1.evo0 hE14
 replace hog3 := hog3.evo0 hE14
 replace hrb4 := hrb4.evo0 hE14
 replace hot6 := hot6.evo0 hE14
 replace hrb7 := hrb7.evo0 hE14
 replace hot9 := hot9.evo0 hE14
 replace hr10 := hr10.evo0 hE14
 replace hr12 := hr12.evo0 hE14
 replace hr13 := hr13.evo0 hE14
 refine r_gyes rfl (wantT (by exact rfl)) (by exact ⟨klen, known_first⟩) ?_
 refine r_op rfl rfl rfl (run_eql rfl (by exact rfl) (by exact rfl)) ?_
 refine r_op rfl rfl rfl (run_pick_and rfl (by exact rfl) (fun _ => (by exact rfl)) rfl) ?_
 refine r_op rfl rfl rfl (run_asg (v := .bool _) rfl (by exact rfl)) ?_
 refine r_nil ?_
 refine r_ret (res1 (v := .bool _) rfl (by exact rfl)) ?_
 exact ⟨ret_bool (decide_eq_true ⟨⟨klen, known_first⟩, kbound⟩), hV⟩

end Go.Proofs.Ytomklacppmaljaa

namespace Go.Proofs.Ytomklacppmaljaa
open Go.RowKit Go.Vc

set_option maxHeartbeats 1000000 in
theorem words_law {aol : Option Addr} {bl offl capl : Nat} {l : List Vc.Item} {aou : Option Addr} {bu offu capu : Nat} {u : List Str} {aom : Option Addr} {bm offm capm : Nat} {m : List Int} {w0 : World} (hl : RowE w0 aol bl offl capl l) (hql : ∀ x ∈ l, x.text.length ≤ 140737488351232) (hu : RowE w0 aou bu offu capu u) (hm : RowE w0 aom bm offm capm m) :
    Calls Try.prog 12 #[.slice aol l.length capl, .slice aou u.length capu, .slice aom m.length capm] w0 fun e w' => e = .returned (.bool true) ∧ Evo w0 w' [] := by
 refine calls_enter (n := 59) (args := [.slice aol l.length capl, .slice aou u.length capu, .slice aom m.length capm]) Try.func12 rfl Try.ntmps12 rfl ?_
 have hV : Evo w0 w0 [] := Evo.refl _ _
 have hl0 := keepE hl
 have hbd_hl := hl.bd
 have hu0 := keepE hu
 have hbd_hu := hu.bd
 have hm0 := keepE hm
 have hbd_hm := hm.bd
 refine r_seq ?_
 refine r_region ?_
 refine r_op rfl rfl rfl (run_asg (v := .bool _) rfl (by exact rfl)) ?_
 refine r_nil ?_
 refine r_seq ?_
 refine r_region ?_
 refine r_op rfl rfl rfl (run_asg (v := .int _ _) rfl (by exact rfl)) ?_
 refine r_nil ?_
 refine r_seq ?_
 refine r_seq ?_
 refine r_region ?_
 refine r_op rfl rfl rfl (run_mv (v := .slice _ _ _) rfl (by exact rfl)) ?_
 refine r_op rfl rfl rfl (run_lenSl rfl (by exact rfl) Try.underlying34) ?_
 refine r_op rfl rfl rfl (run_mv (v := .int _ _) rfl (by exact rfl)) ?_
 refine r_nil ?_
 refine r_block ?_
 refine r_loop (α := Nat) [7, 8, 11, 12, 13, 14, 15, 16, 17, 18, 19, 20, 21] (fun k g w => ∃ z : Int, g 11 = .int .i64 (k : Nat) ∧ g 7 = .int .i64 z ∧ k ≤ u.length ∧ w0.heap.size ≤ w.heap.size ∧ Evo w0 w []) (fun k => u.length - k) 0 ?_ ?_
 ·refine ⟨0, (by first | exact rfl | exact congrArg (Value.int _) (by omega) | exact congrArg (Value.int _) (by dsimp only; omega) | exact congrArg (Value.int _) (by simp) | exact congrArg S (by simp)), rfl, (by first | assumption | omega | (dsimp only; omega) | (simp; done)), (by first | assumption | omega | (dsimp only; omega) | (simp; done)), hV⟩
 ·rintro k g w2 ⟨z, hj3, hj4, hk_k, hzl1, hV⟩
  have hs_w2hV := hV.size
  replace hl := hl0 _ hV
  replace hu := hu0 _ hV
  replace hm := hm0 _ hV
  refine r_know (i := 11) (v := .int .i64 (k : Nat)) (by exact hj3) ?_
  refine r_know (i := 7) (v := .int .i64 z) (by exact hj4) ?_
  refine r_seq ?_
  refine r_region ?_
  refine r_op rfl rfl rfl (run_lss rfl (by exact rfl) (by exact rfl)) ?_
  refine r_nil ?_
  refine r_seq ?_
  refine r_cond (by exact rfl) (fun hc5 => ?_) (fun hc5 => ?_)
  ·skip
   refine r_skip ?_
   refine r_seq ?_
   refine r_block ?_
   refine r_seq ?_
   refine r_region ?_
   refine r_op rfl rfl rfl (run_mv (v := .int _ _) rfl (by exact rfl)) ?_
   refine r_op rfl rfl rfl (run_asg (v := .int _ _) rfl (by exact rfl)) ?_
   refine r_nil ?_
   refine r_region ?_
   refine r_op rfl rfl rfl (run_mv (v := .int _ _) rfl (by exact rfl)) ?_
   refine r_op rfl rfl rfl (run_mv (v := .slice _ _ _) rfl (by exact rfl)) ?_
   refine r_op rfl rfl rfl (run_mv (v := .int _ _) rfl (by exact rfl)) ?_
   refine r_op rfl rfl rfl (run_ix (k) rfl Try.underlying34 ty_9 (by exact rfl) (by exact rfl) (by first | exact rfl | omega) (by omega) (hu.addr (i := k) (by omega))) ?_
   have hA60 := fun (w' : World) (h : Evo w0 w' []) => (hu0 w' h).atD (k) (by omega)
   have hA6 := hA60 _ hV
   refine r_op rfl rfl rfl (run_ld1 rfl ag_9 (by exact rfl) (hA6.cell 0 (by exact rfl))) ?_
   refine r_op rfl rfl rfl (run_lenS rfl (by exact rfl) Try.underlying9) ?_
   refine r_op rfl rfl rfl (run_addw rfl (by exact rfl) (by exact rfl)) ?_
   refine r_op rfl rfl rfl (run_asg (v := .int _ _) rfl (by exact rfl)) ?_
   refine r_nil ?_
   refine r_blk ?_
   refine r_region ?_
   refine r_op rfl rfl rfl (run_add rfl (by exact rfl) (by exact rfl) (by omega) (by omega)) ?_
   refine r_op rfl rfl rfl (run_mv (v := .int _ _) rfl (by exact rfl)) ?_
   refine r_nil ?_
   refine r_again (k + 1) ?_ ?_ ?_
   ·first | omega | (dsimp only; omega)
   ·refine ⟨_, (by first | exact rfl | exact congrArg (Value.int _) (by omega) | exact congrArg (Value.int _) (by dsimp only; omega) | exact congrArg (Value.int _) (by simp) | exact congrArg S (by simp)), rfl, (by first | assumption | omega | (dsimp only; omega) | (simp; done)), (by first | assumption | omega | (dsimp only; omega) | (simp; done)), hV⟩
   ·repeat (first | (with_reducible exact Agree.merge _ _ _) | (with_reducible exact Agree.refl _ _) | (with_reducible refine Agree.upd ?_ _ _ rfl) | ((with_reducible refine Agree.inner ?_ ?_); (kernel_rfl)))
  ·skip
   refine r_exit rfl ?_
   refine r_seq ?_
   refine r_seq ?_
   refine r_region ?_
   refine r_op rfl rfl rfl (run_mv (v := .slice _ _ _) rfl (by exact rfl)) ?_
   refine r_opcall rfl rfl rfl (run_callf (vs := [.slice _ _ _, .int _ _]) rfl (by exact rfl) Try.func42 rfl (by kernel_rfl)) (small14_calls hl (getD_text (fun x hx => Nat.le_trans (hql x hx) (by decide))) (by decide)) ?_
   rintro e w7 ⟨lx7, rfl, hlx7, hE7⟩
   refine ⟨_, rfl, ?_⟩
   have hs_w7 := (hE7).size
   replace hV := evo_step0 hV hE7
   replace hl := hl0 _ hV
   replace hu := hu0 _ hV
   replace hm := hm0 _ hV
   refine r_op rfl rfl rfl (run_notb rfl (by exact rfl)) ?_
   refine r_op rfl rfl rfl (run_mvb rfl (by exact rfl)) ?_
   refine r_g rfl (wantF (by exact rfl)) rfl (fun hg => run_mv (v := .slice _ _ _) rfl (by exact rfl)) ?_
   refine r_g rfl (wantF (by exact rfl)) rfl (fun hg => run_lenSl rfl (glv (by exact rfl) (fun h => h) hg) Try.underlying34) ?_
   refine r_g rfl (wantF (by exact rfl)) rfl (fun hg => run_gtr rfl (glv (by exact rfl) (fun h => h) hg) (by exact rfl)) ?_
   refine r_op rfl rfl rfl (run_pick_or rfl (by exact rfl) rfl (fun hq => glv (by exact rfl) (fun h => h) hq)) ?_
   refine r_op rfl rfl rfl (run_mv (v := .bool _) rfl (by exact rfl)) ?_
   refine r_g rfl (wantF (by exact rfl)) rfl (fun hg => run_mv (v := .int _ _) rfl (by exact rfl)) ?_
   refine r_g rfl (wantF (by exact rfl)) rfl (fun hg => run_gtr rfl (glv (by exact rfl) (fun h => h) hg) (by exact rfl)) ?_
   refine r_op rfl rfl rfl (run_pick_or rfl (by exact rfl) rfl (fun hq => glv (by exact rfl) (fun h => h) hq)) ?_
   refine r_nil ?_
   refine r_cond (by exact rfl) (fun hc8 => ?_) (fun hc8 => ?_)
   ·skip
    refine r_seq ?_
    refine r_region ?_
    refine r_opcall rfl rfl rfl (run_callf (vs := []) rfl (by exact rfl) Try.func43 rfl (by kernel_rfl)) known14_calls ?_
    rintro e w9 ⟨rfl, hE9⟩
    refine ⟨_, rfl, ?_⟩
    have hs_w9 := (hE9).size
    replace hV := evo_step0 hV hE9
    replace hl := hl0 _ hV
    replace hu := hu0 _ hV
    replace hm := hm0 _ hV
    refine r_op rfl rfl rfl (run_asg (v := .bool _) rfl (by exact rfl)) ?_
    refine r_nil ?_
    refine r_ret (res1 (v := .bool _) rfl (by exact rfl)) ?_
    first | exact ⟨rfl, hV⟩ | exact ⟨ret_bool (by simp), hV⟩ | exact absurd hc8 (by simp)
   ·skip
    refine r_skip ?_
    refine r_seq ?_
    have b1 := hlx7 (by simp_all)
    have hwl : u.length ≤ 30 := by simp_all <;> omega
    have hwM := wordsM_len m
    have hqL : ∀ x ∈ l, x.text.length ≤ 140737488355328 := fun x hx => Nat.le_trans (hql x hx) (by decide)
    refine r_region ?_
    refine r_op rfl rfl rfl (run_mv (v := .slice _ _ _) rfl (by exact rfl)) ?_
    refine r_opcall rfl rfl rfl (run_callf (vs := [.slice _ _ _]) rfl (by exact rfl) Try.func44 rfl (by kernel_rfl)) (words_calls hl hqL (by omega)) ?_
    rintro e w10 ⟨vw10, rfl, hE10, how10⟩
    refine ⟨_, rfl, ?_⟩
    have hs_w10 := (hE10).size
    replace hV := evo_step0 hV hE10
    replace hl := hl0 _ hV
    replace hu := hu0 _ hV
    replace hm := hm0 _ hV
    refine r_op rfl rfl rfl (run_mv (v := .slice _ _ _) rfl (by exact rfl)) ?_
    refine r_opcall rfl rfl rfl (run_callf (vs := [.slice _ _ _]) rfl (by exact rfl) Try.func45 rfl (by kernel_rfl)) (rwords_calls hl hqL (by omega)) ?_
    rintro e w11 ⟨vw11, rfl, hE11, how11⟩
    refine ⟨_, rfl, ?_⟩
    have hs_w11 := (hE11).size
    replace hV := evo_step0 hV hE11
    replace hl := hl0 _ hV
    replace hu := hu0 _ hV
    replace hm := hm0 _ hV
    replace how10 := how10.evo0 hE11
    obtain ⟨ao12, g12, cp12, hv12, hr12, hg12⟩ := how10.rowOf
    subst hv12
    obtain ⟨ao13, g13, cp13, hv13, hr13, hg13⟩ := how11.rowOf
    subst hv13
    refine r_opcall rfl rfl rfl (run_callf (vs := [.slice _ _ _, .slice _ _ _]) rfl (by exact rfl) Try.func28 rfl (by kernel_rfl)) (sametexts_calls hr12 hr13) ?_
    rintro e w14 ⟨rfl, hE14⟩
    refine ⟨_, rfl, ?_⟩
    have hs_w14 := (hE14).size
    replace hV := evo_step0 hV hE14
    replace hl := hl0 _ hV
    replace hu := hu0 _ hV
    replace hm := hm0 _ hV
    replace how10 := how10.evo0 hE14
    replace how11 := how11.evo0 hE14
    replace hr12 := hr12.evo0 hE14
    replace hr13 := hr13.evo0 hE14
    refine r_op rfl rfl rfl (run_mvb rfl (by exact rfl)) ?_
    refine r_gyes rfl (wantT (by exact rfl)) (by exact (by simp)) ?_
    refine r_op rfl rfl rfl (run_mv (v := .slice _ _ _) rfl (by exact rfl)) ?_
    refine r_gyes rfl (wantT (by exact rfl)) (by exact (by simp)) ?_
    refine r_opcall rfl rfl rfl (run_callf (vs := [.slice _ _ _]) rfl (by exact rfl) Try.func47 rfl (by kernel_rfl)) (grams_calls hu (by omega)) ?_
    rintro e w15 ⟨vg15, rfl, hE15, hog15⟩
    refine ⟨_, rfl, ?_⟩
    have hs_w15 := (hE15).size
    replace hV := evo_step0 hV hE15
    replace hl := hl0 _ hV
    replace hu := hu0 _ hV
    replace hm := hm0 _ hV
    replace how10 := how10.evo0 hE15
    replace how11 := how11.evo0 hE15
    replace hr12 := hr12.evo0 hE15
    replace hr13 := hr13.evo0 hE15
    refine r_gyes rfl (wantT (by exact rfl)) (by exact (by simp)) ?_
    refine r_op rfl rfl rfl (run_mv (v := .slice _ _ _) rfl (by exact rfl)) ?_
    refine r_gyes rfl (wantT (by exact rfl)) (by exact (by simp)) ?_
    refine r_opcall rfl rfl rfl (run_callf (vs := [.slice _ _ _]) rfl (by exact rfl) Try.func48 rfl (by kernel_rfl)) (rgrams_calls hu (by omega)) ?_
    rintro e w16 ⟨vg16, rfl, hE16, hog16⟩
    refine ⟨_, rfl, ?_⟩
    have hs_w16 := (hE16).size
    replace hV := evo_step0 hV hE16
    replace hl := hl0 _ hV
    replace hu := hu0 _ hV
    replace hm := hm0 _ hV
    replace how10 := how10.evo0 hE16
    replace how11 := how11.evo0 hE16
    replace hr12 := hr12.evo0 hE16
    replace hr13 := hr13.evo0 hE16
    replace hog15 := hog15.evo0 hE16
    refine r_gyes rfl (wantT (by exact rfl)) (by exact (by simp)) ?_
    obtain ⟨ao17, g17, cp17, hv17, hr17, hg17⟩ := hog15.rowOf
    subst hv17
    obtain ⟨ao18, g18, cp18, hv18, hr18, hg18⟩ := hog16.rowOf
    subst hv18
    refine r_opcall rfl rfl rfl (run_callf (vs := [.slice _ _ _, .slice _ _ _]) rfl (by exact rfl) Try.func46 rfl (by kernel_rfl)) (samegrams_calls hr17 hr18) ?_
    rintro e w19 ⟨rfl, hE19⟩
    refine ⟨_, rfl, ?_⟩
    have hs_w19 := (hE19).size
    replace hV := evo_step0 hV hE19
    replace hl := hl0 _ hV
    replace hu := hu0 _ hV
    replace hm := hm0 _ hV
    replace how10 := how10.evo0 hE19
    replace how11 := how11.evo0 hE19
    replace hr12 := hr12.evo0 hE19
    replace hr13 := hr13.evo0 hE19
    replace hog15 := hog15.evo0 hE19
    replace hog16 := hog16.evo0 hE19
    replace hr17 := hr17.evo0 hE19
    replace hr18 := hr18.evo0 hE19
    refine r_op rfl rfl rfl (run_pick_andB rfl (by exact rfl) (fun _ => (by exact rfl)) rfl) ?_
    refine r_op rfl rfl rfl (run_mv (v := .bool _) rfl (by exact rfl)) ?_
    refine r_gyes rfl (wantT (by exact rfl)) (by exact (by simp)) ?_
    refine r_op rfl rfl rfl (run_mv (v := .slice _ _ _) rfl (by exact rfl)) ?_
    refine r_gyes rfl (wantT (by exact rfl)) (by exact (by simp)) ?_
    refine r_opcall rfl rfl rfl (run_callf (vs := [.slice _ _ _]) rfl (by exact rfl) Try.func49 rfl (by kernel_rfl)) (wordsm_calls hm) ?_
    rintro e w20 ⟨vw20, rfl, hE20, how20⟩
    refine ⟨_, rfl, ?_⟩
    have hs_w20 := (hE20).size
    replace hV := evo_step0 hV hE20
    replace hl := hl0 _ hV
    replace hu := hu0 _ hV
    replace hm := hm0 _ hV
    replace how10 := how10.evo0 hE20
    replace how11 := how11.evo0 hE20
    replace hr12 := hr12.evo0 hE20
    replace hr13 := hr13.evo0 hE20
    replace hog15 := hog15.evo0 hE20
    replace hog16 := hog16.evo0 hE20
    replace hr17 := hr17.evo0 hE20
    replace hr18 := hr18.evo0 hE20
    refine r_gyes rfl (wantT (by exact rfl)) (by exact (by simp)) ?_
    obtain ⟨ao21, g21, cp21, hv21, hr21, hg21⟩ := how20.rowOf
    subst hv21
    refine r_opcall rfl rfl rfl (run_callf (vs := [.slice _ _ _]) rfl (by exact rfl) Try.func47 rfl (by kernel_rfl)) (grams_calls hr21 (by omega)) ?_
    rintro e w22 ⟨vg22, rfl, hE22, hog22⟩
    refine ⟨_, rfl, ?_⟩
    have hs_w22 := (hE22).size
    replace hV := evo_step0 hV hE22
    replace hl := hl0 _ hV
    replace hu := hu0 _ hV
    replace hm := hm0 _ hV
    replace how10 := how10.evo0 hE22
    replace how11 := how11.evo0 hE22
    replace hr12 := hr12.evo0 hE22
    replace hr13 := hr13.evo0 hE22
    replace hog15 := hog15.evo0 hE22
    replace hog16 := hog16.evo0 hE22
    replace hr17 := hr17.evo0 hE22
    replace hr18 := hr18.evo0 hE22
    replace how20 := how20.evo0 hE22
    replace hr21 := hr21.evo0 hE22
    refine r_gyes rfl (wantT (by exact rfl)) (by exact (by simp)) ?_
    refine r_op rfl rfl rfl (run_mv (v := .slice _ _ _) rfl (by exact rfl)) ?_
    refine r_gyes rfl (wantT (by exact rfl)) (by exact (by simp)) ?_
    refine r_opcall rfl rfl rfl (run_callf (vs := [.slice _ _ _]) rfl (by exact rfl) Try.func49 rfl (by kernel_rfl)) (wordsm_calls hm) ?_
    rintro e w23 ⟨vw23, rfl, hE23, how23⟩
    refine ⟨_, rfl, ?_⟩
    have hs_w23 := (hE23).size
    replace hV := evo_step0 hV hE23
    replace hl := hl0 _ hV
    replace hu := hu0 _ hV
    replace hm := hm0 _ hV
    replace how10 := how10.evo0 hE23
    replace how11 := how11.evo0 hE23
    replace hr12 := hr12.evo0 hE23
    replace hr13 := hr13.evo0 hE23
    replace hog15 := hog15.evo0 hE23
    replace hog16 := hog16.evo0 hE23
    replace hr17 := hr17.evo0 hE23
    replace hr18 := hr18.evo0 hE23
    replace how20 := how20.evo0 hE23
    replace hr21 := hr21.evo0 hE23
    replace hog22 := hog22.evo0 hE23
    refine r_gyes rfl (wantT (by exact rfl)) (by exact (by simp)) ?_
    obtain ⟨ao24, g24, cp24, hv24, hr24, hg24⟩ := how23.rowOf
    subst hv24
    refine r_opcall rfl rfl rfl (run_callf (vs := [.slice _ _ _]) rfl (by exact rfl) Try.func48 rfl (by kernel_rfl)) (rgrams_calls hr24 (by omega)) ?_
    rintro e w25 ⟨vg25, rfl, hE25, hog25⟩
    refine ⟨_, rfl, ?_⟩
    have hs_w25 := (hE25).size
    replace hV := evo_step0 hV hE25
    replace hl := hl0 _ hV
    replace hu := hu0 _ hV
    replace hm := hm0 _ hV
    replace how10 := how10.evo0 hE25
    replace how11 := how11.evo0 hE25
    replace hr12 := hr12.evo0 hE25
    replace hr13 := hr13.evo0 hE25
    replace hog15 := hog15.evo0 hE25
    replace hog16 := hog16.evo0 hE25
    replace hr17 := hr17.evo0 hE25
    replace hr18 := hr18.evo0 hE25
    replace how20 := how20.evo0 hE25
    replace hr21 := hr21.evo0 hE25
    replace hog22 := hog22.evo0 hE25
    replace how23 := how23.evo0 hE25
    replace hr24 := hr24.evo0 hE25
    refine r_gyes rfl (wantT (by exact rfl)) (by exact (by simp)) ?_
    obtain ⟨ao26, g26, cp26, hv26, hr26, hg26⟩ := hog22.rowOf
    subst hv26
    obtain ⟨ao27, g27, cp27, hv27, hr27, hg27⟩ := hog25.rowOf
    subst hv27
    refine r_opcall rfl rfl rfl (run_callf (vs := [.slice _ _ _, .slice _ _ _]) rfl (by exact rfl) Try.func46 rfl (by kernel_rfl)) (samegrams_calls hr26 hr27) ?_
    rintro e w28 ⟨rfl, hE28⟩
    refine ⟨_, rfl, ?_⟩
    have hs_w28 := (hE28).size
    replace hV := evo_step0 hV hE28
    replace hl := hl0 _ hV
    replace hu := hu0 _ hV
    replace hm := hm0 _ hV
    replace how10 := how10.evo0 hE28
    replace how11 := how11.evo0 hE28
    replace hr12 := hr12.evo0 hE28
    replace hr13 := hr13.evo0 hE28
    replace hog15 := hog15.evo0 hE28
    replace hog16 := hog16.evo0 hE28
    replace hr17 := hr17.evo0 hE28
    replace hr18 := hr18.evo0 hE28
    replace how20 := how20.evo0 hE28
    replace hr21 := hr21.evo0 hE28
    replace hog22 := hog22.evo0 hE28
    replace how23 := how23.evo0 hE28
    replace hr24 := hr24.evo0 hE28
    replace hog25 := hog25.evo0 hE28
    replace hr26 := hr26.evo0 hE28
    replace hr27 := hr27.evo0 hE28
    refine r_op rfl rfl rfl (run_pick_andB rfl (by exact rfl) (fun _ => (by exact rfl)) rfl) ?_
    refine r_op rfl rfl rfl (run_mv (v := .bool _) rfl (by exact rfl)) ?_
    refine r_gyes rfl (wantT (by exact rfl)) (by exact (by simp)) ?_
    refine r_opcall rfl rfl rfl (run_callf (vs := []) rfl (by exact rfl) Try.func43 rfl (by kernel_rfl)) known14_calls ?_
    rintro e w29 ⟨rfl, hE29⟩
    refine ⟨_, rfl, ?_⟩
    have hs_w29 := (hE29).size
    replace hV := evo_step0 hV hE29
    replace hl := hl0 _ hV
    replace hu := hu0 _ hV
    replace hm := hm0 _ hV
    replace how10 := how10.evo0 hE29
    replace how11 := how11.evo0 hE29
    replace hr12 := hr12.evo0 hE29
    replace hr13 := hr13.evo0 hE29
    replace hog15 := hog15.evo0 hE29
    replace hog16 := hog16.evo0 hE29
    replace hr17 := hr17.evo0 hE29
    replace hr18 := hr18.evo0 hE29
    replace how20 := how20.evo0 hE29
    replace hr21 := hr21.evo0 hE29
    replace hog22 := hog22.evo0 hE29
    replace how23 := how23.evo0 hE29
    replace hr24 := hr24.evo0 hE29
    replace hog25 := hog25.evo0 hE29
    replace hr26 := hr26.evo0 hE29
    replace hr27 := hr27.evo0 hE29
    refine r_op rfl rfl rfl (run_pick_andB rfl (by exact rfl) (fun _ => (by exact rfl)) rfl) ?_
    refine r_op rfl rfl rfl (run_asg (v := .bool _) rfl (by exact rfl)) ?_
    refine r_nil ?_
    refine r_ret (res1 (v := .bool _) rfl (by exact rfl)) ?_
    first | exact ⟨rfl, hV⟩ | exact ⟨ret_bool (by simp), hV⟩ | exact absurd hc8 (by simp)

set_option maxHeartbeats 1000000 in
theorem bounds_law {aoa : Option Addr} {ba offa capa : Nat} {a : List Vc.Item} {aob : Option Addr} {bb offb capb : Nat} {b : List Vc.Item} {aol : Option Addr} {bl offl capl : Nat} {l : List Int} {aom : Option Addr} {bm offm capm : Nat} {m : List Int} {w0 : World} (ha : RowE w0 aoa ba offa capa a) (hqa : ∀ x ∈ a, x.text.length ≤ 140737488351232) (hb : RowE w0 aob bb offb capb b) (hqb : ∀ x ∈ b, x.text.length ≤ 140737488351232) (hl : RowE w0 aol bl offl capl l) (hm : RowE w0 aom bm offm capm m) :
    Calls Try.prog 15 #[.slice aoa a.length capa, .slice aob b.length capb, .slice aol l.length capl, .slice aom m.length capm] w0 fun e w' => e = .returned (.bool true) ∧ Evo w0 w' [] := by
 refine calls_enter (n := 72) (args := [.slice aoa a.length capa, .slice aob b.length capb, .slice aol l.length capl, .slice aom m.length capm]) Try.func15 rfl Try.ntmps15 rfl ?_
 have hV : Evo w0 w0 [] := Evo.refl _ _
 have ha0 := keepE ha
 have hbd_ha := ha.bd
 have hb0 := keepE hb
 have hbd_hb := hb.bd
 have hl0 := keepE hl
 have hbd_hl := hl.bd
 have hm0 := keepE hm
 have hbd_hm := hm.bd
 refine r_seq ?_
 refine r_region ?_
 refine r_op rfl rfl rfl (run_asg (v := .bool _) rfl (by exact rfl)) ?_
 refine r_nil ?_
 refine r_seq ?_
 refine r_seq ?_
 refine r_region ?_
 refine r_op rfl rfl rfl (run_mv (v := .slice _ _ _) rfl (by exact rfl)) ?_
 refine r_opcall rfl rfl rfl (run_callf (vs := [.slice _ _ _, .int _ _]) rfl (by exact rfl) Try.func42 rfl (by kernel_rfl)) (small14_calls ha (getD_text (fun x hx => Nat.le_trans (hqa x hx) (by decide))) (by decide)) ?_
 rintro e w1 ⟨lx1, rfl, hlx1, hE1⟩
 refine ⟨_, rfl, ?_⟩
 have hs_w1 := (hE1).size
 replace hV := evo_step0 hV hE1
 replace ha := ha0 _ hV
 replace hb := hb0 _ hV
 replace hl := hl0 _ hV
 replace hm := hm0 _ hV
 refine r_op rfl rfl rfl (run_notb rfl (by exact rfl)) ?_
 refine r_op rfl rfl rfl (run_mvb rfl (by exact rfl)) ?_
 refine r_g rfl (wantF (by exact rfl)) rfl (fun hg => run_mv (v := .slice _ _ _) rfl (by exact rfl)) ?_
 refine r_gcallB rfl (wantF (by exact rfl)) rfl (fun hg => run_callf rfl (argcons (v := .slice _ _ _) (glv (by exact rfl) (fun h => h) hg) (argcons (v := .int _ _) (by exact rfl) (rfl))) Try.func42 rfl (by kernel_rfl)) (fun hg => (small14_calls hb (getD_text (fun x hx => Nat.le_trans (hqb x hx) (by decide))) (by decide))) ?_
 intro gx4 w2 hgx4 hE3
 have hs_w2 := (hE3).size
 replace hV := evo_step0 hV hE3
 replace ha := ha0 _ hV
 replace hb := hb0 _ hV
 replace hl := hl0 _ hV
 replace hm := hm0 _ hV
 refine r_g rfl (wantF (by exact rfl)) rfl (fun hg => run_not rfl (glv (by exact rfl) (fun h => h) hg)) ?_
 refine r_op rfl rfl rfl (run_pick_or rfl (by exact rfl) rfl (fun hq => glv (by exact rfl) (fun h => h) hq)) ?_
 refine r_op rfl rfl rfl (run_mv (v := .bool _) rfl (by exact rfl)) ?_
 refine r_g rfl (wantF (by exact rfl)) rfl (fun hg => run_mv (v := .slice _ _ _) rfl (by exact rfl)) ?_
 refine r_g rfl (wantF (by exact rfl)) rfl (fun hg => run_lenSl rfl (glv (by exact rfl) (fun h => h) hg) Try.underlying23) ?_
 refine r_g rfl (wantF (by exact rfl)) rfl (fun hg => run_gtr rfl (glv (by exact rfl) (fun h => h) hg) (by exact rfl)) ?_
 refine r_op rfl rfl rfl (run_pick_or rfl (by exact rfl) rfl (fun hq => glv (by exact rfl) (fun h => h) hq)) ?_
 refine r_op rfl rfl rfl (run_mv (v := .bool _) rfl (by exact rfl)) ?_
 refine r_g rfl (wantF (by exact rfl)) rfl (fun hg => run_mv (v := .slice _ _ _) rfl (by exact rfl)) ?_
 refine r_g rfl (wantF (by exact rfl)) rfl (fun hg => run_lenSl rfl (glv (by exact rfl) (fun h => h) hg) Try.underlying23) ?_
 refine r_g rfl (wantF (by exact rfl)) rfl (fun hg => run_gtr rfl (glv (by exact rfl) (fun h => h) hg) (by exact rfl)) ?_
 refine r_op rfl rfl rfl (run_pick_or rfl (by exact rfl) rfl (fun hq => glv (by exact rfl) (fun h => h) hq)) ?_
 refine r_nil ?_
 refine r_cond (by exact rfl) (fun hc5 => ?_) (fun hc5 => ?_)
 ·skip
  refine r_seq ?_
  refine r_region ?_
  refine r_opcall rfl rfl rfl (run_callf (vs := []) rfl (by exact rfl) Try.func43 rfl (by kernel_rfl)) known14_calls ?_
  rintro e w6 ⟨rfl, hE6⟩
  refine ⟨_, rfl, ?_⟩
  have hs_w6 := (hE6).size
  replace hV := evo_step0 hV hE6
  replace ha := ha0 _ hV
  replace hb := hb0 _ hV
  replace hl := hl0 _ hV
  replace hm := hm0 _ hV
  refine r_op rfl rfl rfl (run_asg (v := .bool _) rfl (by exact rfl)) ?_
  refine r_nil ?_
  refine r_ret (res1 (v := .bool _) rfl (by exact rfl)) ?_
  first | exact ⟨rfl, hV⟩ | exact ⟨ret_bool (by simp), hV⟩ | exact absurd hc5 (by simp)
 ·skip
  refine r_skip ?_
  refine r_seq ?_
  have b1 := hlx1 (by simp_all); have b2 := hgx4 (by simp_all) (by simp_all)
  have hqLa : ∀ x ∈ a, x.text.length ≤ 140737488355328 := fun x hx => Nat.le_trans (hqa x hx) (by decide)
  have hqLb : ∀ x ∈ b, x.text.length ≤ 140737488355328 := fun x hx => Nat.le_trans (hqb x hx) (by decide)
  refine r_region ?_
  refine r_op rfl rfl rfl (run_mv (v := .slice _ _ _) rfl (by exact rfl)) ?_
  refine r_opcall rfl rfl rfl (run_callf (vs := [.slice _ _ _, .int _ _]) rfl (by exact rfl) Try.func52 rfl (by kernel_rfl)) (made14_calls (n := 20) hl) ?_
  rintro e w7 ⟨vm7, tm7, rfl, hE7, hom7, hml7, hmt7⟩
  refine ⟨_, rfl, ?_⟩
  have hs_w7 := (hE7).size
  replace hV := evo_step0 hV hE7
  replace ha := ha0 _ hV
  replace hb := hb0 _ hV
  replace hl := hl0 _ hV
  replace hm := hm0 _ hV
  have hqc : ∀ x ∈ tm7, x.text.length ≤ 140737488355328 := fun x hx => Nat.le_trans (hmt7 x hx) (by decide)
  refine r_op rfl rfl rfl (run_asg (v := vm7) rfl (by exact rfl)) ?_
  refine r_nil ?_
  refine r_seq ?_
  refine r_region ?_
  refine r_op rfl rfl rfl (run_mv (v := vm7) rfl (by exact rfl)) ?_
  refine r_op rfl rfl rfl (run_mv (v := .slice _ _ _) rfl (by exact rfl)) ?_
  obtain ⟨ao8, g8, cp8, hv8, hr8, hg8⟩ := hom7.rowOf
  subst hv8
  refine r_opcall rfl rfl rfl (run_callf (vs := [.slice _ _ _, .slice _ _ _]) rfl (by exact rfl) Try.func53 rfl (by kernel_rfl)) (near_calls hr8 hm (B := 240) hmt7 (by decide) (by omega)) ?_
  rintro e w9 ⟨vn9, ln9, rfl, hE9, hon9, hnr9⟩
  refine ⟨_, rfl, ?_⟩
  have hs_w9 := (hE9).size
  replace hV := evo_step0 hV hE9
  replace ha := ha0 _ hV
  replace hb := hb0 _ hV
  replace hl := hl0 _ hV
  replace hm := hm0 _ hV
  replace hom7 := hom7.evo0 hE9
  replace hr8 := hr8.evo0 hE9
  have hqd : ∀ x ∈ ln9, x.text.length ≤ 140737488355328 := fun x hx => Nat.le_trans (hnr9.2 x hx) (by decide); have hld := hnr9.1
  refine r_op rfl rfl rfl (run_asg (v := vn9) rfl (by exact rfl)) ?_
  refine r_nil ?_
  refine r_seq ?_
  refine r_region ?_
  refine r_op rfl rfl rfl (run_mv (v := .slice _ _ _) rfl (by exact rfl)) ?_
  refine r_op rfl rfl rfl (run_mv (v := .slice _ _ _) rfl (by exact rfl)) ?_
  refine r_opcall rfl rfl rfl (run_callf (vs := [.slice _ _ _, .slice _ _ _]) rfl (by exact rfl) Try.func54 rfl (by kernel_rfl)) (bag_calls ha hb hqLa hqLb (by omega) (by omega)) ?_
  rintro e w10 ⟨rfl, hE10⟩
  refine ⟨_, rfl, ?_⟩
  have hs_w10 := (hE10).size
  replace hV := evo_step0 hV hE10
  replace ha := ha0 _ hV
  replace hb := hb0 _ hV
  replace hl := hl0 _ hV
  replace hm := hm0 _ hV
  replace hom7 := hom7.evo0 hE10
  replace hr8 := hr8.evo0 hE10
  replace hon9 := hon9.evo0 hE10
  refine r_op rfl rfl rfl (run_mv (v := .slice _ _ _) rfl (by exact rfl)) ?_
  refine r_op rfl rfl rfl (run_mv (v := .slice _ _ _) rfl (by exact rfl)) ?_
  refine r_opcall rfl rfl rfl (run_callf (vs := [.slice _ _ _, .slice _ _ _]) rfl (by exact rfl) Try.func55 rfl (by kernel_rfl)) (rbag_calls ha hb hqLa hqLb (by omega) (by omega)) ?_
  rintro e w11 ⟨rfl, hE11⟩
  refine ⟨_, rfl, ?_⟩
  have hs_w11 := (hE11).size
  replace hV := evo_step0 hV hE11
  replace ha := ha0 _ hV
  replace hb := hb0 _ hV
  replace hl := hl0 _ hV
  replace hm := hm0 _ hV
  replace hom7 := hom7.evo0 hE11
  replace hr8 := hr8.evo0 hE11
  replace hon9 := hon9.evo0 hE11
  refine r_op rfl rfl rfl (run_eql rfl (by exact rfl) (by exact rfl)) ?_
  refine r_op rfl rfl rfl (run_mv (v := .bool _) rfl (by exact rfl)) ?_
  refine r_gyes rfl (wantT (by exact rfl)) (by exact (by simp)) ?_
  refine r_op rfl rfl rfl (run_mv (v := .slice _ _ _) rfl (by exact rfl)) ?_
  refine r_gyes rfl (wantT (by exact rfl)) (by exact (by simp)) ?_
  refine r_op rfl rfl rfl (run_mv (v := .slice _ _ _) rfl (by exact rfl)) ?_
  refine r_gyes rfl (wantT (by exact rfl)) (by exact (by simp)) ?_
  refine r_opcall rfl rfl rfl (run_callf (vs := [.slice _ _ _, .slice _ _ _]) rfl (by exact rfl) Try.func56 rfl (by kernel_rfl)) (bound_calls ha hb hqLa hqLb (by omega) (by omega)) ?_
  rintro e w12 ⟨rfl, hE12⟩
  refine ⟨_, rfl, ?_⟩
  have hs_w12 := (hE12).size
  replace hV := evo_step0 hV hE12
  replace ha := ha0 _ hV
  replace hb := hb0 _ hV
  replace hl := hl0 _ hV
  replace hm := hm0 _ hV
  replace hom7 := hom7.evo0 hE12
  replace hr8 := hr8.evo0 hE12
  replace hon9 := hon9.evo0 hE12
  refine r_gyes rfl (wantT (by exact rfl)) (by exact (by simp)) ?_
  refine r_op rfl rfl rfl (run_mv (v := .slice _ _ _) rfl (by exact rfl)) ?_
  refine r_gyes rfl (wantT (by exact rfl)) (by exact (by simp)) ?_
  refine r_op rfl rfl rfl (run_mv (v := .slice _ _ _) rfl (by exact rfl)) ?_
  refine r_gyes rfl (wantT (by exact rfl)) (by exact (by simp)) ?_
  refine r_opcall rfl rfl rfl (run_callf (vs := [.slice _ _ _, .slice _ _ _]) rfl (by exact rfl) Try.func57 rfl (by kernel_rfl)) (rbound_calls ha hb hqLa hqLb (by omega) (by omega)) ?_
  rintro e w13 ⟨rfl, hE13⟩
  refine ⟨_, rfl, ?_⟩
  have hs_w13 := (hE13).size
  replace hV := evo_step0 hV hE13
  replace ha := ha0 _ hV
  replace hb := hb0 _ hV
  replace hl := hl0 _ hV
  replace hm := hm0 _ hV
  replace hom7 := hom7.evo0 hE13
  replace hr8 := hr8.evo0 hE13
  replace hon9 := hon9.evo0 hE13
  refine r_gyes rfl (wantT (by exact rfl)) (by exact (by simp)) ?_
  refine r_op rfl rfl rfl (run_eql rfl (by exact rfl) (by exact rfl)) ?_
  refine r_op rfl rfl rfl (run_pick_and rfl (by exact rfl) (fun _ => (by exact rfl)) rfl) ?_
  refine r_op rfl rfl rfl (run_mv (v := .bool _) rfl (by exact rfl)) ?_
  refine r_gyes rfl (wantT (by exact rfl)) (by exact (by simp)) ?_
  refine r_op rfl rfl rfl (run_mv (v := .slice _ _ _) rfl (by exact rfl)) ?_
  refine r_gyes rfl (wantT (by exact rfl)) (by exact (by simp)) ?_
  refine r_op rfl rfl rfl (run_mv (v := vn9) rfl (by exact rfl)) ?_
  refine r_gyes rfl (wantT (by exact rfl)) (by exact (by simp)) ?_
  obtain ⟨ao14, g14, cp14, hv14, hr14, hg14⟩ := hon9.rowOf
  subst hv14
  refine r_opcall rfl rfl rfl (run_callf (vs := [.slice _ _ _, .slice _ _ _]) rfl (by exact rfl) Try.func54 rfl (by kernel_rfl)) (bag_calls hr8 hr14 hqc hqd (by omega) (by omega)) ?_
  rintro e w15 ⟨rfl, hE15⟩
  refine ⟨_, rfl, ?_⟩
  have hs_w15 := (hE15).size
  replace hV := evo_step0 hV hE15
  replace ha := ha0 _ hV
  replace hb := hb0 _ hV
  replace hl := hl0 _ hV
  replace hm := hm0 _ hV
  replace hom7 := hom7.evo0 hE15
  replace hr8 := hr8.evo0 hE15
  replace hon9 := hon9.evo0 hE15
  replace hr14 := hr14.evo0 hE15
  refine r_gyes rfl (wantT (by exact rfl)) (by exact (by simp)) ?_
  refine r_op rfl rfl rfl (run_mv (v := .slice _ _ _) rfl (by exact rfl)) ?_
  refine r_gyes rfl (wantT (by exact rfl)) (by exact (by simp)) ?_
  refine r_op rfl rfl rfl (run_mv (v := .slice _ _ _) rfl (by exact rfl)) ?_
  refine r_gyes rfl (wantT (by exact rfl)) (by exact (by simp)) ?_
  refine r_opcall rfl rfl rfl (run_callf (vs := [.slice _ _ _, .slice _ _ _]) rfl (by exact rfl) Try.func55 rfl (by kernel_rfl)) (rbag_calls hr8 hr14 hqc hqd (by omega) (by omega)) ?_
  rintro e w16 ⟨rfl, hE16⟩
  refine ⟨_, rfl, ?_⟩
  have hs_w16 := (hE16).size
  replace hV := evo_step0 hV hE16
  replace ha := ha0 _ hV
  replace hb := hb0 _ hV
  replace hl := hl0 _ hV
  replace hm := hm0 _ hV
  replace hom7 := hom7.evo0 hE16
  replace hr8 := hr8.evo0 hE16
  replace hon9 := hon9.evo0 hE16
  replace hr14 := hr14.evo0 hE16
  refine r_gyes rfl (wantT (by exact rfl)) (by exact (by simp)) ?_
  refine r_op rfl rfl rfl (run_eql rfl (by exact rfl) (by exact rfl)) ?_
  refine r_op rfl rfl rfl (run_pick_and rfl (by exact rfl) (fun _ => (by exact rfl)) rfl) ?_
  refine r_op rfl rfl rfl (run_mv (v := .bool _) rfl (by exact rfl)) ?_
  refine r_gyes rfl (wantT (by exact rfl)) (by exact (by simp)) ?_
  refine r_op rfl rfl rfl (run_mv (v := .slice _ _ _) rfl (by exact rfl)) ?_
  refine r_gyes rfl (wantT (by exact rfl)) (by exact (by simp)) ?_
  refine r_op rfl rfl rfl (run_mv (v := .slice _ _ _) rfl (by exact rfl)) ?_
  refine r_gyes rfl (wantT (by exact rfl)) (by exact (by simp)) ?_
  refine r_opcall rfl rfl rfl (run_callf (vs := [.slice _ _ _, .slice _ _ _]) rfl (by exact rfl) Try.func56 rfl (by kernel_rfl)) (bound_calls hr8 hr14 hqc hqd (by omega) (by omega)) ?_
  rintro e w17 ⟨rfl, hE17⟩
  refine ⟨_, rfl, ?_⟩
  have hs_w17 := (hE17).size
  replace hV := evo_step0 hV hE17
  replace ha := ha0 _ hV
  replace hb := hb0 _ hV
  replace hl := hl0 _ hV
  replace hm := hm0 _ hV
  replace hom7 := hom7.evo0 hE17
  replace hr8 := hr8.evo0 hE17
  replace hon9 := hon9.evo0 hE17
  replace hr14 := hr14.evo0 hE17
  refine r_gyes rfl (wantT (by exact rfl)) (by exact (by simp)) ?_
  refine r_op rfl rfl rfl (run_mv (v := .slice _ _ _) rfl (by exact rfl)) ?_
  refine r_gyes rfl (wantT (by exact rfl)) (by exact (by simp)) ?_
  refine r_op rfl rfl rfl (run_mv (v := .slice _ _ _) rfl (by exact rfl)) ?_
  refine r_gyes rfl (wantT (by exact rfl)) (by exact (by simp)) ?_
  refine r_opcall rfl rfl rfl (run_callf (vs := [.slice _ _ _, .slice _ _ _]) rfl (by exact rfl) Try.func57 rfl (by kernel_rfl)) (rbound_calls hr8 hr14 hqc hqd (by omega) (by omega)) ?_
  rintro e w18 ⟨rfl, hE18⟩
  refine ⟨_, rfl, ?_⟩
  have hs_w18 := (hE18).size
  replace hV := evo_step0 hV hE18
  replace ha := ha0 _ hV
  replace hb := hb0 _ hV
  replace hl := hl0 _ hV
  replace hm := hm0 _ hV
  replace hom7 := hom7.evo0 hE18
  replace hr8 := hr8.evo0 hE18
  replace hon9 := hon9.evo0 hE18
  replace hr14 := hr14.evo0 hE18
  refine r_gyes rfl (wantT (by exact rfl)) (by exact (by simp)) ?_
  refine r_op rfl rfl rfl (run_eql rfl (by exact rfl) (by exact rfl)) ?_
  refine r_op rfl rfl rfl (run_pick_and rfl (by exact rfl) (fun _ => (by exact rfl)) rfl) ?_
  refine r_op rfl rfl rfl (run_mv (v := .bool _) rfl (by exact rfl)) ?_
  refine r_gyes rfl (wantT (by exact rfl)) (by exact (by simp)) ?_
  refine r_opcall rfl rfl rfl (run_callf (vs := []) rfl (by exact rfl) Try.func43 rfl (by kernel_rfl)) known14_calls ?_
  rintro e w19 ⟨rfl, hE19⟩
  refine ⟨_, rfl, ?_⟩
  have hs_w19 := (hE19).size
  replace hV := evo_step0 hV hE19
  replace ha := ha0 _ hV
  replace hb := hb0 _ hV
  replace hl := hl0 _ hV
  replace hm := hm0 _ hV
  replace hom7 := hom7.evo0 hE19
  replace hr8 := hr8.evo0 hE19
  replace hon9 := hon9.evo0 hE19
  replace hr14 := hr14.evo0 hE19
  refine r_op rfl rfl rfl (run_pick_andB rfl (by exact rfl) (fun _ => (by exact rfl)) rfl) ?_
  refine r_op rfl rfl rfl (run_asg (v := .bool _) rfl (by exact rfl)) ?_
  refine r_nil ?_
  refine r_ret (res1 (v := .bool _) rfl (by exact rfl)) ?_
  first | exact ⟨rfl, hV⟩ | exact ⟨ret_bool (by simp), hV⟩ | exact absurd hc5 (by simp)

end Go.Proofs.Ytomklacppmaljaa

namespace Go.Proofs.Ytomklacppmaljaa
open Go.RowKit Go.Vc
theorem fo_81_2 : fieldP Try.prog 81 2 = some 2 := by kernel_rfl
set_option maxHeartbeats 1000000 in
theorem symmetric_law {aol : Option Addr} {bl offl capl : Nat} {l : List Int} {aom : Option Addr} {bm offm capm : Nat} {m : List Int} {w0 : World} (hl : RowE w0 aol bl offl capl l) (hm : RowE w0 aom bm offm capm m) :
    Calls Try.prog 17 #[.slice aol l.length capl, .slice aom m.length capm] w0 fun e w' => e = .returned (.bool true) ∧ Evo w0 w' [] := by
 refine calls_enter (n := 67) (args := [.slice aol l.length capl, .slice aom m.length capm]) Try.func17 rfl Try.ntmps17 rfl ?_
 have hV : Evo w0 w0 [] := Evo.refl _ _
 have hl0 := keepE hl
 have hbd_hl := hl.bd
 have hm0 := keepE hm
 have hbd_hm := hm.bd
 refine r_seq ?_
 refine r_region ?_
 refine r_op rfl rfl rfl (run_asg (v := .bool _) rfl (by exact rfl)) ?_
 refine r_nil ?_
 refine r_seq ?_
 refine r_seq ?_
 refine r_region ?_
 refine r_op rfl rfl rfl (run_mv (v := .slice _ _ _) rfl (by exact rfl)) ?_
 refine r_op rfl rfl rfl (run_lenSl rfl (by exact rfl) Try.underlying23) ?_
 refine r_op rfl rfl rfl (run_gtr rfl (by exact rfl) (by exact rfl)) ?_
 refine r_op rfl rfl rfl (run_mv (v := .bool _) rfl (by exact rfl)) ?_
 refine r_g rfl (wantF (by exact rfl)) rfl (fun hg => run_mv (v := .slice _ _ _) rfl (by exact rfl)) ?_
 refine r_g rfl (wantF (by exact rfl)) rfl (fun hg => run_lenSl rfl (glv (by exact rfl) (fun h => h) hg) Try.underlying23) ?_
 refine r_g rfl (wantF (by exact rfl)) rfl (fun hg => run_gtr rfl (glv (by exact rfl) (fun h => h) hg) (by exact rfl)) ?_
 refine r_op rfl rfl rfl (run_pick_or rfl (by exact rfl) rfl (fun hq => glv (by exact rfl) (fun h => h) hq)) ?_
 refine r_nil ?_
 refine r_cond (by exact rfl) (fun hc1 => ?_) (fun hc1 => ?_)
 ·skip
  refine r_seq ?_
  refine r_region ?_
  refine r_opcall rfl rfl rfl (run_callf (vs := []) rfl (by exact rfl) Try.func43 rfl (by kernel_rfl)) known14_calls ?_
  rintro e w2 ⟨rfl, hE2⟩
  refine ⟨_, rfl, ?_⟩
  have hs_w2 := (hE2).size
  replace hV := evo_step0 hV hE2
  replace hl := hl0 _ hV
  replace hm := hm0 _ hV
  refine r_op rfl rfl rfl (run_asg (v := .bool _) rfl (by exact rfl)) ?_
  refine r_nil ?_
  refine r_ret (res1 (v := .bool _) rfl (by exact rfl)) ?_
  first | exact ⟨rfl, hV⟩ | exact ⟨ret_bool (decide_eq_true ⟨⟨⟨hsy, hse⟩, hno⟩, trivial⟩), hV⟩ | exact ⟨ret_bool (by simp [hsy, hse, hno]), hV⟩
 ·skip
  refine r_skip ?_
  refine r_seq ?_
  refine r_region ?_
  refine r_op rfl rfl rfl (run_mv (v := .slice _ _ _) rfl (by exact rfl)) ?_
  refine r_opcall rfl rfl rfl (run_callf (vs := [.slice _ _ _, .int _ _]) rfl (by exact rfl) Try.func52 rfl (by kernel_rfl)) (made14_calls (n := 16) hl) ?_
  rintro e w3 ⟨vm3, tm3, rfl, hE3, hom3, hml3, hmt3⟩
  refine ⟨_, rfl, ?_⟩
  have hs_w3 := (hE3).size
  replace hV := evo_step0 hV hE3
  replace hl := hl0 _ hV
  replace hm := hm0 _ hV
  have hqc : ∀ x ∈ tm3, x.text.length ≤ 140737488355328 := fun x hx => Nat.le_trans (hmt3 x hx) (by decide)
  refine r_op rfl rfl rfl (run_asg (v := vm3) rfl (by exact rfl)) ?_
  refine r_nil ?_
  refine r_seq ?_
  refine r_region ?_
  refine r_op rfl rfl rfl (run_mv (v := vm3) rfl (by exact rfl)) ?_
  refine r_op rfl rfl rfl (run_mv (v := .slice _ _ _) rfl (by exact rfl)) ?_
  obtain ⟨ao4, g4, cp4, hv4, hr4, hg4⟩ := hom3.rowOf
  subst hv4
  refine r_opcall rfl rfl rfl (run_callf (vs := [.slice _ _ _, .slice _ _ _]) rfl (by exact rfl) Try.func53 rfl (by kernel_rfl)) (near_calls hr4 hm (B := 240) hmt3 (by decide) (by omega)) ?_
  rintro e w5 ⟨vn5, ln5, rfl, hE5, hon5, hnr5⟩
  refine ⟨_, rfl, ?_⟩
  have hs_w5 := (hE5).size
  replace hV := evo_step0 hV hE5
  replace hl := hl0 _ hV
  replace hm := hm0 _ hV
  replace hom3 := hom3.evo0 hE5
  replace hr4 := hr4.evo0 hE5
  have hqd : ∀ x ∈ ln5, x.text.length ≤ 140737488355328 := fun x hx => Nat.le_trans (hnr5.2 x hx) (by decide); have hld := hnr5.1
  refine r_op rfl rfl rfl (run_asg (v := vn5) rfl (by exact rfl)) ?_
  refine r_nil ?_
  refine r_seq ?_
  refine r_region ?_
  refine r_op rfl rfl rfl (run_asg (v := .slice _ _ _) rfl (by exact rfl)) ?_
  refine r_nil ?_
  refine r_seq ?_
  refine r_seq ?_
  have hI6 : Evo w5 w5 [] := Evo.refl _ _
  have hr40 := keepE hr4
  obtain ⟨ao7, g7, cp7, hv7, hr7, hg7⟩ := hon5.rowOf
  subst hv7
  have hr70 := keepE hr7
  have hqe : ∀ x ∈ ln5.map nrmT, x.text.length ≤ 140737488355328 := fun x hx => by obtain ⟨y, hy, rfl⟩ := List.mem_map.1 hx; have h9 := hqd y hy; have h8 := keyT_len y; show (keyT y).length ≤ _; omega
  refine r_region ?_
  refine r_op rfl rfl rfl (run_mv (v := .slice _ _ _) rfl (by exact rfl)) ?_
  refine r_op rfl rfl rfl (run_lenSl rfl (by exact rfl) Try.underlying63) ?_
  refine r_op rfl rfl rfl (run_mv (v := .int _ _) rfl (by exact rfl)) ?_
  refine r_nil ?_
  refine r_block ?_
  refine r_loop (α := Nat) [7, 9, 26, 27, 28, 29, 30, 31, 32, 33, 34, 35, 36, 37, 38, 39, 40, 41] (fun k g w => ∃ vo : Value, g 26 = .int .i64 (k : Nat) ∧ g 7 = vo ∧ k ≤ ln5.length ∧ OwnE w w5.heap.size 81 vo ((ln5.take k).map nrmT) ∧ w5.heap.size ≤ w.heap.size ∧ Evo w0 w [] ∧ Evo w5 w []) (fun k => ln5.length - k) 0 ?_ ?_
  ·refine ⟨_, (by first | exact rfl | exact congrArg (Value.int _) (by omega) | exact congrArg (Value.int _) (by dsimp only; omega) | exact congrArg (Value.int _) (by simp) | exact congrArg S (by simp)), rfl, (by first | assumption | omega | (dsimp only; omega) | (simp; done)), (OwnE.nil _ _ _), (by first | assumption | omega | (dsimp only; omega) | (simp; done)), hV, hI6⟩
  ·rintro k g w9 ⟨vo, hj10, hj11, hk_k, hoo, hzl8, hV, hI6⟩
   have hs_w9hV := hV.size
   have hs_w9hI6 := hI6.size
   replace hl := hl0 _ hV
   replace hm := hm0 _ hV
   replace hr4 := hr40 _ hI6
   replace hr7 := hr70 _ hI6
   refine r_know (i := 26) (v := .int .i64 (k : Nat)) (by exact hj10) ?_
   refine r_know (i := 7) (v := vo) (by exact hj11) ?_
   refine r_seq ?_
   refine r_region ?_
   refine r_op rfl rfl rfl (run_lss rfl (by exact rfl) (by exact rfl)) ?_
   refine r_nil ?_
   refine r_seq ?_
   refine r_cond (by exact rfl) (fun hc12 => ?_) (fun hc12 => ?_)
   ·skip
    refine r_skip ?_
    refine r_seq ?_
    refine r_block ?_
    refine r_seq ?_
    have hobO := fun g hg => (hoo.block (g := g) hg).2
    have hqk := getD_text hqd k
    refine r_region ?_
    refine r_op rfl rfl rfl (run_ix (k) rfl Try.underlying63 ty_81 (by exact rfl) (by exact rfl) (by first | exact rfl | omega) (by omega) (hr7.addr (i := k) (by omega))) ?_
    have hA130 := fun (w' : World) (h : Evo w5 w' []) => (hr70 w' h).atD (k) (by omega)
    have hA13 := hA130 _ hI6
    refine r_op rfl rfl rfl (run_ldN rfl ag_81 ty_81 (by exact rfl) rfl hA13) ?_
    have hob14 := fun g hg => (hoo.block (g := g) hg).2
    refine r_var (zs := [_, _, _]) (vs := [_, _, _]) ty_81 (by exact rfl) rfl (by exact rfl) (fun _ => rfl) (by exact rfl) rfl rfl (by exact rfl) ?_
    intro b15 w16 heb15 hEw16 hbb15 hzb15
    have hs_w16 := (hEw16).size
    replace hV := evo_step0 hV hEw16
    replace hI6 := evo_step0 hI6 hEw16
    replace hl := hl0 _ hV
    replace hm := hm0 _ hV
    replace hr4 := hr40 _ hI6
    replace hr7 := hr70 _ hI6
    replace hoo := hoo.evo0 hEw16
    have hAb15 := hbb15.at
    refine r_nil ?_
    refine r_seq ?_
    refine r_region ?_
    refine r_op rfl rfl rfl (run_fa rfl (by exact rfl) fo_81_2) ?_
    refine r_store (v := .int _ _) (vs := [_]) (cs' := [_, _, _]) (by exact rfl) (by exact rfl) hbb15 ty_3 (by exact rfl) rfl (by exact rfl) rfl (by exact rfl) ?_
    intro w17 hEw17 hzw17 hb_new
    have hs_w17 := (hEw17).size
    replace hV := evo_step1 hV hEw17 (by first | exact .inl (by omega) | exact .inr (by simp))
    replace hI6 := evo_step1 hI6 hEw17 (by first | exact .inl (by omega) | exact .inr (by simp))
    replace hl := hl0 _ hV
    replace hm := hm0 _ hV
    replace hr4 := hr40 _ hI6
    replace hr7 := hr70 _ hI6
    replace hoo := hoo.evo hEw17 (by intro g hg hm; simp at hm; subst hm; have h7 := hobO g hg; omega)
    replace hbb15 := hb_new
    have hAb15 := hbb15.at
    clear hb_new
    refine r_nil ?_
    refine r_seq ?_
    refine r_seq ?_
    refine r_region ?_
    refine r_op rfl rfl rfl (run_fa rfl (by exact rfl) fo_81_0) ?_
    refine r_op rfl rfl rfl (run_ld1 rfl ag_3 (by exact rfl) (hAb15.cell 0 (by exact rfl))) ?_
    refine r_op rfl rfl rfl (run_eql rfl (by exact rfl) (by exact rfl)) ?_
    refine r_nil ?_
    refine r_cond (by exact rfl) (fun hc18 => ?_) (fun hc18 => ?_)
    ·skip
     refine r_region ?_
     refine r_op rfl rfl rfl (run_ldN rfl ag_81 ty_81 (by exact rfl) rfl hAb15) ?_
     refine r_opcall rfl rfl rfl (run_callf (vs := [.agg _]) rfl (by exact rfl) Try.func59 rfl (by kernel_rfl)) (rkey_calls (x := ⟨(ln5.getD k default).kind, (ln5.getD k default).text, 0⟩) hqk) ?_
     rintro e w19 ⟨rfl, hE19⟩
     refine ⟨_, rfl, ?_⟩
     have hs_w19 := (hE19).size
     replace hV := evo_step0 hV hE19
     replace hI6 := evo_step0 hI6 hE19
     replace hl := hl0 _ hV
     replace hm := hm0 _ hV
     replace hr4 := hr40 _ hI6
     replace hr7 := hr70 _ hI6
     replace hoo := hoo.evo0 hE19
     replace hbb15 := hbb15.evo0 hE19
     replace hAb15 := hAb15.evo0 hE19
     refine r_op rfl rfl rfl (run_fa rfl (by exact rfl) fo_81_1) ?_
     refine r_store (v := S _) (vs := [_]) (cs' := [_, _, _]) (by exact rfl) (by exact rfl) hbb15 ty_9 (by exact rfl) rfl (by exact rfl) rfl (by exact rfl) ?_
     intro w20 hEw20 hzw20 hb_new
     have hs_w20 := (hEw20).size
     replace hV := evo_step1 hV hEw20 (by first | exact .inl (by omega) | exact .inr (by simp))
     replace hI6 := evo_step1 hI6 hEw20 (by first | exact .inl (by omega) | exact .inr (by simp))
     replace hl := hl0 _ hV
     replace hm := hm0 _ hV
     replace hr4 := hr40 _ hI6
     replace hr7 := hr70 _ hI6
     replace hoo := hoo.evo hEw20 (by intro g hg hm; simp at hm; subst hm; have h7 := hobO g hg; omega)
     replace hbb15 := hb_new
     have hAb15 := hbb15.at
     clear hb_new
     refine r_nil ?_
     refine r_region ?_
     refine r_op rfl rfl rfl (run_mv (v := vo) rfl (by exact rfl)) ?_
     refine r_op rfl rfl rfl (run_ldN rfl ag_81 ty_81 (by exact rfl) rfl hAb15) ?_
     refine r_append1E (u := .agg _) (y := ⟨(ln5.getD k default).kind, _, 0⟩) rfl rfl Try.underlying63 ty_81 (by exact rfl) hoo (fun _ => (by exact rfl)) (by exact rfl) (by first | exact rfl | (show _ = List.toArray [_, _, _]; first | (dsimp only; done) | exact rfl | (dsimp only; exact rfl))) ((by first | omega | (simp; omega))) ((by first | omega | (simp; omega))) (by omega) ?_
     intro q_v21 v21 w22 hEw22 hov21 hlv21
     have hs_w22 := (hEw22).size
     replace hV := evo_stepo hV hEw22 (fun g hg => .inl (by first | exact (hoo.block hg).1 | (have := hoo.block hg; omega)))
     replace hI6 := evo_stepo hI6 hEw22 (fun g hg => .inl (by first | exact (hoo.block hg).1 | (have := hoo.block hg; omega)))
     replace hl := hl0 _ hV
     replace hm := hm0 _ hV
     replace hr4 := hr40 _ hI6
     replace hr7 := hr70 _ hI6
     refine r_op rfl rfl rfl (run_asg (v := v21) rfl (by exact rfl)) ?_
     refine r_nil ?_
     refine r_blk ?_
     refine r_region ?_
     refine r_op rfl rfl rfl (run_add rfl (by exact rfl) (by exact rfl) (by omega) (by omega)) ?_
     refine r_op rfl rfl rfl (run_mv (v := .int _ _) rfl (by exact rfl)) ?_
     refine r_nil ?_
     refine r_again (k + 1) ?_ ?_ ?_
     ·first | omega | (dsimp only; omega)
     ·refine ⟨_, (by first | exact rfl | exact congrArg (Value.int _) (by omega) | exact congrArg (Value.int _) (by dsimp only; omega) | exact congrArg (Value.int _) (by simp) | exact congrArg S (by simp)), rfl, (by first | assumption | omega | (dsimp only; omega) | (simp; done)), (by rw [take_succD ln5 k (by omega), List.map_append]; first | exact hov21 | (rw [List.map_singleton, ← nrm_no hc18]; exact hov21)), (by first | assumption | omega | (dsimp only; omega) | (simp; done)), hV, hI6⟩
     ·repeat (first | (with_reducible exact Agree.merge _ _ _) | (with_reducible exact Agree.refl _ _) | (with_reducible refine Agree.upd ?_ _ _ rfl) | ((with_reducible refine Agree.inner ?_ ?_); (kernel_rfl)))
    ·skip
     refine r_skip ?_
     refine r_region ?_
     refine r_op rfl rfl rfl (run_mv (v := vo) rfl (by exact rfl)) ?_
     refine r_op rfl rfl rfl (run_ldN rfl ag_81 ty_81 (by exact rfl) rfl hAb15) ?_
     refine r_append1E (u := .agg _) (y := ⟨(ln5.getD k default).kind, _, 0⟩) rfl rfl Try.underlying63 ty_81 (by exact rfl) hoo (fun _ => (by exact rfl)) (by exact rfl) (by first | exact rfl | (show _ = List.toArray [_, _, _]; first | (dsimp only; done) | exact rfl | (dsimp only; exact rfl))) ((by first | omega | (simp; omega))) ((by first | omega | (simp; omega))) (by omega) ?_
     intro q_v23 v23 w24 hEw24 hov23 hlv23
     have hs_w24 := (hEw24).size
     replace hV := evo_stepo hV hEw24 (fun g hg => .inl (by first | exact (hoo.block hg).1 | (have := hoo.block hg; omega)))
     replace hI6 := evo_stepo hI6 hEw24 (fun g hg => .inl (by first | exact (hoo.block hg).1 | (have := hoo.block hg; omega)))
     replace hl := hl0 _ hV
     replace hm := hm0 _ hV
     replace hr4 := hr40 _ hI6
     replace hr7 := hr70 _ hI6
     refine r_op rfl rfl rfl (run_asg (v := v23) rfl (by exact rfl)) ?_
     refine r_nil ?_
     refine r_blk ?_
     refine r_region ?_
     refine r_op rfl rfl rfl (run_add rfl (by exact rfl) (by exact rfl) (by omega) (by omega)) ?_
     refine r_op rfl rfl rfl (run_mv (v := .int _ _) rfl (by exact rfl)) ?_
     refine r_nil ?_
     refine r_again (k + 1) ?_ ?_ ?_
     ·first | omega | (dsimp only; omega)
     ·refine ⟨_, (by first | exact rfl | exact congrArg (Value.int _) (by omega) | exact congrArg (Value.int _) (by dsimp only; omega) | exact congrArg (Value.int _) (by simp) | exact congrArg S (by simp)), rfl, (by first | assumption | omega | (dsimp only; omega) | (simp; done)), (by rw [take_succD ln5 k (by omega), List.map_append]; first | exact hov23 | (rw [List.map_singleton, ← nrm_no hc18]; exact hov23)), (by first | assumption | omega | (dsimp only; omega) | (simp; done)), hV, hI6⟩
     ·repeat (first | (with_reducible exact Agree.merge _ _ _) | (with_reducible exact Agree.refl _ _) | (with_reducible refine Agree.upd ?_ _ _ rfl) | ((with_reducible refine Agree.inner ?_ ?_); (kernel_rfl)))
   ·skip
    refine r_exit rfl ?_
    refine r_seq ?_
    rw [show k = ln5.length by omega, List.take_of_length_le (Nat.le_refl _)] at hoo
    have hsy := bound_swap tm3 ln5; have hse := bound_self tm3; have hno := bound_nrm tm3 ln5; have hlm : (ln5.map nrmT).length = ln5.length := List.length_map _
    refine r_region ?_
    refine r_op rfl rfl rfl (run_mv (v := .slice _ _ _) rfl (by exact rfl)) ?_
    refine r_op rfl rfl rfl (run_mv (v := .slice _ _ _) rfl (by exact rfl)) ?_
    refine r_opcall rfl rfl rfl (run_callf (vs := [.slice _ _ _, .slice _ _ _]) rfl (by exact rfl) Try.func56 rfl (by kernel_rfl)) (bound_calls hr4 hr7 hqc hqd (by omega) (by omega)) ?_
    rintro e w25 ⟨rfl, hE25⟩
    refine ⟨_, rfl, ?_⟩
    have hs_w25 := (hE25).size
    replace hV := evo_step0 hV hE25
    replace hI6 := evo_step0 hI6 hE25
    replace hl := hl0 _ hV
    replace hm := hm0 _ hV
    replace hr4 := hr40 _ hI6
    replace hr7 := hr70 _ hI6
    replace hoo := hoo.evo0 hE25
    refine r_op rfl rfl rfl (run_mv (v := .slice _ _ _) rfl (by exact rfl)) ?_
    refine r_op rfl rfl rfl (run_mv (v := .slice _ _ _) rfl (by exact rfl)) ?_
    refine r_opcall rfl rfl rfl (run_callf (vs := [.slice _ _ _, .slice _ _ _]) rfl (by exact rfl) Try.func56 rfl (by kernel_rfl)) (bound_calls hr7 hr4 hqd hqc (by omega) (by omega)) ?_
    rintro e w26 ⟨rfl, hE26⟩
    refine ⟨_, rfl, ?_⟩
    have hs_w26 := (hE26).size
    replace hV := evo_step0 hV hE26
    replace hI6 := evo_step0 hI6 hE26
    replace hl := hl0 _ hV
    replace hm := hm0 _ hV
    replace hr4 := hr40 _ hI6
    replace hr7 := hr70 _ hI6
    replace hoo := hoo.evo0 hE26
    refine r_op rfl rfl rfl (run_eql rfl (by exact rfl) (by exact rfl)) ?_
    refine r_op rfl rfl rfl (run_mv (v := .bool _) rfl (by exact rfl)) ?_
    refine r_gyes rfl (wantT (by exact rfl)) (by exact (by first | exact hsy | exact ⟨hsy, hse⟩ | exact ⟨⟨hsy, hse⟩, hno⟩)) ?_
    refine r_op rfl rfl rfl (run_mv (v := .slice _ _ _) rfl (by exact rfl)) ?_
    refine r_gyes rfl (wantT (by exact rfl)) (by exact (by first | exact hsy | exact ⟨hsy, hse⟩ | exact ⟨⟨hsy, hse⟩, hno⟩)) ?_
    refine r_op rfl rfl rfl (run_mv (v := .slice _ _ _) rfl (by exact rfl)) ?_
    refine r_gyes rfl (wantT (by exact rfl)) (by exact (by first | exact hsy | exact ⟨hsy, hse⟩ | exact ⟨⟨hsy, hse⟩, hno⟩)) ?_
    refine r_opcall rfl rfl rfl (run_callf (vs := [.slice _ _ _, .slice _ _ _]) rfl (by exact rfl) Try.func56 rfl (by kernel_rfl)) (bound_calls hr4 hr4 hqc hqc (by omega) (by omega)) ?_
    rintro e w27 ⟨rfl, hE27⟩
    refine ⟨_, rfl, ?_⟩
    have hs_w27 := (hE27).size
    replace hV := evo_step0 hV hE27
    replace hI6 := evo_step0 hI6 hE27
    replace hl := hl0 _ hV
    replace hm := hm0 _ hV
    replace hr4 := hr40 _ hI6
    replace hr7 := hr70 _ hI6
    replace hoo := hoo.evo0 hE27
    refine r_gyes rfl (wantT (by exact rfl)) (by exact (by first | exact hsy | exact ⟨hsy, hse⟩ | exact ⟨⟨hsy, hse⟩, hno⟩)) ?_
    refine r_op rfl rfl rfl (run_eql rfl (by exact rfl) (by exact rfl)) ?_
    refine r_op rfl rfl rfl (run_pick_and rfl (by exact rfl) (fun _ => (by exact rfl)) rfl) ?_
    refine r_op rfl rfl rfl (run_mv (v := .bool _) rfl (by exact rfl)) ?_
    refine r_gyes rfl (wantT (by exact rfl)) (by exact (by first | exact hsy | exact ⟨hsy, hse⟩ | exact ⟨⟨hsy, hse⟩, hno⟩)) ?_
    refine r_op rfl rfl rfl (run_mv (v := .slice _ _ _) rfl (by exact rfl)) ?_
    refine r_gyes rfl (wantT (by exact rfl)) (by exact (by first | exact hsy | exact ⟨hsy, hse⟩ | exact ⟨⟨hsy, hse⟩, hno⟩)) ?_
    refine r_op rfl rfl rfl (run_mv (v := vo) rfl (by exact rfl)) ?_
    refine r_gyes rfl (wantT (by exact rfl)) (by exact (by first | exact hsy | exact ⟨hsy, hse⟩ | exact ⟨⟨hsy, hse⟩, hno⟩)) ?_
    obtain ⟨ao28, g28, cp28, hv28, hr28, hg28⟩ := hoo.rowOf
    subst hv28
    refine r_opcall rfl rfl rfl (run_callf (vs := [.slice _ _ _, .slice _ _ _]) rfl (by exact rfl) Try.func56 rfl (by kernel_rfl)) (bound_calls hr4 hr28 hqc hqe (by omega) (by omega)) ?_
    rintro e w29 ⟨rfl, hE29⟩
    refine ⟨_, rfl, ?_⟩
    have hs_w29 := (hE29).size
    replace hV := evo_step0 hV hE29
    replace hI6 := evo_step0 hI6 hE29
    replace hl := hl0 _ hV
    replace hm := hm0 _ hV
    replace hr4 := hr40 _ hI6
    replace hr7 := hr70 _ hI6
    replace hoo := hoo.evo0 hE29
    replace hr28 := hr28.evo0 hE29
    refine r_gyes rfl (wantT (by exact rfl)) (by exact (by first | exact hsy | exact ⟨hsy, hse⟩ | exact ⟨⟨hsy, hse⟩, hno⟩)) ?_
    refine r_op rfl rfl rfl (run_mv (v := .slice _ _ _) rfl (by exact rfl)) ?_
    refine r_gyes rfl (wantT (by exact rfl)) (by exact (by first | exact hsy | exact ⟨hsy, hse⟩ | exact ⟨⟨hsy, hse⟩, hno⟩)) ?_
    refine r_op rfl rfl rfl (run_mv (v := .slice _ _ _) rfl (by exact rfl)) ?_
    refine r_gyes rfl (wantT (by exact rfl)) (by exact (by first | exact hsy | exact ⟨hsy, hse⟩ | exact ⟨⟨hsy, hse⟩, hno⟩)) ?_
    refine r_opcall rfl rfl rfl (run_callf (vs := [.slice _ _ _, .slice _ _ _]) rfl (by exact rfl) Try.func56 rfl (by kernel_rfl)) (bound_calls hr4 hr7 hqc hqd (by omega) (by omega)) ?_
    rintro e w30 ⟨rfl, hE30⟩
    refine ⟨_, rfl, ?_⟩
    have hs_w30 := (hE30).size
    replace hV := evo_step0 hV hE30
    replace hI6 := evo_step0 hI6 hE30
    replace hl := hl0 _ hV
    replace hm := hm0 _ hV
    replace hr4 := hr40 _ hI6
    replace hr7 := hr70 _ hI6
    replace hoo := hoo.evo0 hE30
    replace hr28 := hr28.evo0 hE30
    refine r_gyes rfl (wantT (by exact rfl)) (by exact (by first | exact hsy | exact ⟨hsy, hse⟩ | exact ⟨⟨hsy, hse⟩, hno⟩)) ?_
    refine r_op rfl rfl rfl (run_eql rfl (by exact rfl) (by exact rfl)) ?_
    refine r_op rfl rfl rfl (run_pick_and rfl (by exact rfl) (fun _ => (by exact rfl)) rfl) ?_
    refine r_op rfl rfl rfl (run_mv (v := .bool _) rfl (by exact rfl)) ?_
    refine r_gyes rfl (wantT (by exact rfl)) (by exact (by first | exact hsy | exact ⟨hsy, hse⟩ | exact ⟨⟨hsy, hse⟩, hno⟩)) ?_
    refine r_opcall rfl rfl rfl (run_callf (vs := []) rfl (by exact rfl) Try.func43 rfl (by kernel_rfl)) known14_calls ?_
    rintro e w31 ⟨rfl, hE31⟩
    refine ⟨_, rfl, ?_⟩
    have hs_w31 := (hE31).size
    replace hV := evo_step0 hV hE31
    replace hI6 := evo_step0 hI6 hE31
    replace hl := hl0 _ hV
    replace hm := hm0 _ hV
    replace hr4 := hr40 _ hI6
    replace hr7 := hr70 _ hI6
    replace hoo := hoo.evo0 hE31
    replace hr28 := hr28.evo0 hE31
    refine r_op rfl rfl rfl (run_pick_andB rfl (by exact rfl) (fun _ => (by exact rfl)) rfl) ?_
    refine r_op rfl rfl rfl (run_asg (v := .bool _) rfl (by exact rfl)) ?_
    refine r_nil ?_
    refine r_ret (res1 (v := .bool _) rfl (by exact rfl)) ?_
    first | exact ⟨rfl, hV⟩ | exact ⟨ret_bool (decide_eq_true ⟨⟨⟨hsy, hse⟩, hno⟩, trivial⟩), hV⟩ | exact ⟨ret_bool (by simp [hsy, hse, hno]), hV⟩

end Go.Proofs.Ytomklacppmaljaa

namespace Go.Proofs.Ytomklacppmaljaa
open Go.RowKit Go.Vc

theorem grams_fine {ws : List Str} {k : Nat} (hk : k < (gramsL ws).length) : ¬ ((0 < (k : Int) ∧ (blt ((gramsL ws).getD k default).fst ((gramsL ws).getD (k - 1) default).fst = true ∨ (((gramsL ws).getD k default).fst = ((gramsL ws).getD (k - 1) default).fst ∧ (blt ((gramsL ws).getD k default).snd ((gramsL ws).getD (k - 1) default).snd || ((gramsL ws).getD k default).snd == ((gramsL ws).getD (k - 1) default).snd) = true))) ∨ ((gramsL ws).getD k default).count < 1) := by
  rintro (⟨h0, h⟩ | h)
  · have ha := grams_asc hk (show 0 < k by omega)
    unfold ltP prG at ha
    simp only at ha
    rcases h with h | ⟨h1, h2⟩
    · rw [slt_iff] at h
      rcases ha with ha | ⟨ha, _⟩
      · exact slt_asymm h ha
      · exact slt_irrefl _ (ha ▸ h)
    · rcases ha with ha | ⟨_, ha⟩
      · exact slt_irrefl _ (h1 ▸ ha)
      · rw [Bool.or_eq_true, slt_iff] at h2
        rcases h2 with h2 | h2
        · exact slt_asymm h2 ha
        · rw [beq_iff_eq] at h2
          exact slt_irrefl _ (h2 ▸ ha)
  · have := gramsOf_count (ps := pairsL [] ws) (x := (gramsL ws).getD k default) (getD_in hk)
    omega

set_option maxHeartbeats 1000000 in
theorem grams_law {aol : Option Addr} {bl offl capl : Nat} {l : List Int} {w0 : World} (hl : RowE w0 aol bl offl capl l) :
    Calls Try.prog 13 #[.slice aol l.length capl] w0 fun e w' => e = .returned (.bool true) ∧ Evo w0 w' [] := by
 have hwm := wordsM_len l
 refine calls_enter (n := 84) (args := [.slice aol l.length capl]) Try.func13 rfl Try.ntmps13 rfl ?_
 have hV : Evo w0 w0 [] := Evo.refl _ _
 have hl0 := keepE hl
 have hbd_hl := hl.bd
 refine r_seq ?_
 refine r_region ?_
 refine r_op rfl rfl rfl (run_asg (v := .bool _) rfl (by exact rfl)) ?_
 refine r_nil ?_
 refine r_seq ?_
 refine r_region ?_
 refine r_op rfl rfl rfl (run_mv (v := .slice _ _ _) rfl (by exact rfl)) ?_
 refine r_opcall rfl rfl rfl (run_callf (vs := [.slice _ _ _]) rfl (by exact rfl) Try.func49 rfl (by kernel_rfl)) (wordsm_calls hl) ?_
 rintro e w1 ⟨vw1, rfl, hE1, how1⟩
 refine ⟨_, rfl, ?_⟩
 have hs_w1 := (hE1).size
 replace hV := evo_step0 hV hE1
 replace hl := hl0 _ hV
 refine r_op rfl rfl rfl (run_asg (v := vw1) rfl (by exact rfl)) ?_
 refine r_nil ?_
 refine r_seq ?_
 refine r_region ?_
 refine r_op rfl rfl rfl (run_asg (v := .int _ _) rfl (by exact rfl)) ?_
 refine r_nil ?_
 refine r_seq ?_
 refine r_region ?_
 refine r_op rfl rfl rfl (run_mv (v := vw1) rfl (by exact rfl)) ?_
 obtain ⟨ao2, g2, cp2, hv2, hr2, hg2⟩ := how1.rowOf
 subst hv2
 refine r_opcall rfl rfl rfl (run_callf (vs := [.slice _ _ _]) rfl (by exact rfl) Try.func47 rfl (by kernel_rfl)) (grams_calls hr2 (by omega)) ?_
 rintro e w3 ⟨vg3, rfl, hE3, hog3⟩
 refine ⟨_, rfl, ?_⟩
 have hs_w3 := (hE3).size
 replace hV := evo_step0 hV hE3
 replace hl := hl0 _ hV
 replace how1 := how1.evo0 hE3
 replace hr2 := hr2.evo0 hE3
 refine r_op rfl rfl rfl (run_asg (v := vg3) rfl (by exact rfl)) ?_
 refine r_nil ?_
 refine r_seq ?_
 refine r_seq ?_
 have hI4 : Evo w3 w3 [] := Evo.refl _ _
 obtain ⟨ao5, g5, cp5, hv5, hr5, hg5⟩ := hog3.rowOf
 subst hv5
 have hr50 := keepE hr5
 have hgl := gramsL_len (wordsM l)
 refine r_region ?_
 refine r_op rfl rfl rfl (run_mv (v := .slice _ _ _) rfl (by exact rfl)) ?_
 refine r_op rfl rfl rfl (run_lenSl rfl (by exact rfl) Try.underlying67) ?_
 refine r_op rfl rfl rfl (run_mv (v := .int _ _) rfl (by exact rfl)) ?_
 refine r_nil ?_
 refine r_block ?_
 refine r_loop (α := Nat) [2, 4, 6, 13, 14, 15, 16, 17, 18, 19, 20, 21, 22, 23, 24, 25, 26, 27, 28, 29, 30, 31, 32, 33, 34, 35, 36, 37, 38, 39, 40, 41, 42, 43, 44, 45, 46, 47, 48, 49, 50, 51, 52, 53, 54, 55, 56, 57, 58, 59, 60, 61, 62, 63, 64, 65, 66, 67, 68, 69, 70, 71, 72, 73, 74, 75] (fun k g w => g 13 = .int .i64 (k : Nat) ∧ g 4 = .int .i64 (sumC ((gramsL (wordsM l)).take k)) ∧ k ≤ (gramsL (wordsM l)).length ∧ w3.heap.size ≤ w.heap.size ∧ Evo w0 w [] ∧ Evo w3 w []) (fun k => (gramsL (wordsM l)).length - k) 0 ?_ ?_
 ·refine ⟨(by first | exact rfl | exact congrArg (Value.int _) (by omega) | exact congrArg (Value.int _) (by dsimp only; omega) | exact congrArg (Value.int _) (by simp) | exact congrArg S (by simp)), rfl, (by first | assumption | omega | (dsimp only; omega) | (simp; done)), (by first | assumption | omega | (dsimp only; omega) | (simp; done)), hV, hI4⟩
 ·rintro k g w7 ⟨hj8, hj9, hk_k, hzl6, hV, hI4⟩
  have hs_w7hV := hV.size
  have hs_w7hI4 := hI4.size
  replace hl := hl0 _ hV
  replace hr5 := hr50 _ hI4
  refine r_know (i := 13) (v := .int .i64 (k : Nat)) (by exact hj8) ?_
  refine r_know (i := 4) (v := .int .i64 (sumC ((gramsL (wordsM l)).take k))) (by exact hj9) ?_
  refine r_seq ?_
  refine r_region ?_
  refine r_op rfl rfl rfl (run_lss rfl (by exact rfl) (by exact rfl)) ?_
  refine r_nil ?_
  refine r_seq ?_
  refine r_cond (by exact rfl) (fun hc10 => ?_) (fun hc10 => ?_)
  ·skip
   refine r_skip ?_
   refine r_seq ?_
   refine r_block ?_
   refine r_seq ?_
   refine r_region ?_
   refine r_op rfl rfl rfl (run_mv (v := .int _ _) rfl (by exact rfl)) ?_
   refine r_op rfl rfl rfl (run_asg (v := .int _ _) rfl (by exact rfl)) ?_
   refine r_nil ?_
   refine r_seq ?_
   refine r_seq ?_
   have hfine := grams_fine (ws := wordsM l) (k := k) (by omega)
   refine r_qregion (by kernel_rfl) (by kernel_rfl) ?_
   refine q_op rfl rfl rfl (fun w' hC => run_mv (v := .int _ _) rfl (by exact rfl)) ?_
   refine q_op rfl rfl rfl (fun w' hC => run_gtr rfl (by exact rfl) (by exact rfl)) ?_
   refine q_op rfl rfl rfl (fun w' hC => run_mv (v := .bool _) rfl (by exact rfl)) ?_
   refine q_g rfl (wantT (by exact rfl)) rfl (fun hg w' hC => run_mv (v := .slice _ _ _) rfl (by exact rfl)) ?_
   refine q_g rfl (wantT (by exact rfl)) rfl (fun hg w' hC => run_mv (v := .int _ _) rfl (by exact rfl)) ?_
   refine q_g rfl (wantT (by exact rfl)) rfl (fun hg w' hC => run_ix (k) rfl Try.underlying67 ty_72 (glv (by exact rfl) (fun h => h) hg) (glv (by exact rfl) (fun h => h) hg) (by first | exact rfl | omega) (by omega) (hr5.addr (i := k) (by omega))) ?_
   refine q_g rfl (wantT (by exact rfl)) rfl (fun hg w' hC => run_fa rfl (glv (by exact rfl) (fun h => h) hg) fo_72_0) ?_
   refine q_g rfl (wantT (by exact rfl)) rfl (fun hg w' hC => run_ld1 rfl ag_9 (glv (by exact rfl) (fun h => h) hg) (((hr5.atD (k) (by omega)).evo0 hC).cell 0 (by exact rfl))) ?_
   refine q_g rfl (wantT (by exact rfl)) rfl (fun hg w' hC => run_mv (v := .slice _ _ _) rfl (by exact rfl)) ?_
   refine q_g rfl (wantT (by exact rfl)) rfl (fun hg w' hC => run_mv (v := .int _ _) rfl (by exact rfl)) ?_
   refine q_g rfl (wantT (by exact rfl)) rfl (fun hg w' hC => run_sub rfl (glv (by exact rfl) (fun h => h) hg) (by exact rfl) (by omega) (by omega)) ?_
   refine q_g rfl (wantT (by exact rfl)) rfl (fun hg w' hC => run_ix ((k - 1)) rfl Try.underlying67 ty_72 (glv (by exact rfl) (fun h => h) hg) (glv (by exact rfl) (fun h => h) hg) (by omega) (by omega) (hr5.addr (i := (k - 1)) (by omega))) ?_
   refine q_g rfl (wantT (by exact rfl)) rfl (fun hg w' hC => run_fa rfl (glv (by exact rfl) (fun h => h) hg) fo_72_0) ?_
   refine q_g rfl (wantT (by exact rfl)) rfl (fun hg w' hC => run_ld1 rfl ag_9 (glv (by exact rfl) (fun h => h) hg) (((hr5.atD ((k - 1)) (by omega)).evo0 hC).cell 0 (by exact rfl))) ?_
   refine q_g rfl (wantT (by exact rfl)) rfl (fun hg w' hC => run_slssD rfl (glv (by exact rfl) (fun h => h) hg) (glv (by exact rfl) (fun h => h) hg)) ?_
   refine q_g rfl (wantT (by exact rfl)) rfl (fun hg w' hC => run_mv (v := .bool _) rfl (glv (by exact rfl) (fun h => h) hg)) ?_
   refine q_g rfl (wantFg (by exact rfl)) rfl (fun hg w' hC => run_mv (v := .slice _ _ _) rfl (by exact rfl)) ?_
   refine q_g rfl (wantFg (by exact rfl)) rfl (fun hg w' hC => run_mv (v := .int _ _) rfl (by exact rfl)) ?_
   refine q_g rfl (wantFg (by exact rfl)) rfl (fun hg w' hC => run_ix (k) rfl Try.underlying67 ty_72 (glv (by exact rfl) (fun h => h) hg) (glv (by exact rfl) (fun h => h) hg) (by first | exact rfl | omega) (by omega) (hr5.addr (i := k) (by omega))) ?_
   refine q_g rfl (wantFg (by exact rfl)) rfl (fun hg w' hC => run_fa rfl (glv (by exact rfl) (fun h => h) hg) fo_72_0) ?_
   refine q_g rfl (wantFg (by exact rfl)) rfl (fun hg w' hC => run_ld1 rfl ag_9 (glv (by exact rfl) (fun h => h) hg) (((hr5.atD (k) (by omega)).evo0 hC).cell 0 (by exact rfl))) ?_
   refine q_g rfl (wantFg (by exact rfl)) rfl (fun hg w' hC => run_mv (v := .slice _ _ _) rfl (by exact rfl)) ?_
   refine q_g rfl (wantFg (by exact rfl)) rfl (fun hg w' hC => run_mv (v := .int _ _) rfl (by exact rfl)) ?_
   refine q_g rfl (wantFg (by exact rfl)) rfl (fun hg w' hC => run_sub rfl (glv (by exact rfl) (fun h => h) hg) (by exact rfl) (by omega) (by omega)) ?_
   refine q_g rfl (wantFg (by exact rfl)) rfl (fun hg w' hC => run_ix ((k - 1)) rfl Try.underlying67 ty_72 (glv (by exact rfl) (fun h => h) hg) (glv (by exact rfl) (fun h => h) hg) (by omega) (by omega) (hr5.addr (i := (k - 1)) (by omega))) ?_
   refine q_g rfl (wantFg (by exact rfl)) rfl (fun hg w' hC => run_fa rfl (glv (by exact rfl) (fun h => h) hg) fo_72_0) ?_
   refine q_g rfl (wantFg (by exact rfl)) rfl (fun hg w' hC => run_ld1 rfl ag_9 (glv (by exact rfl) (fun h => h) hg) (((hr5.atD ((k - 1)) (by omega)).evo0 hC).cell 0 (by exact rfl))) ?_
   refine q_g rfl (wantFg (by exact rfl)) rfl (fun hg w' hC => run_seql rfl (glv (by exact rfl) (fun h => h) hg) (glv (by exact rfl) (fun h => h) hg)) ?_
   refine q_g rfl (wantFg (by exact rfl)) rfl (fun hg w' hC => run_mv (v := .bool _) rfl (glv (by exact rfl) (fun h => h) hg)) ?_
   refine q_g rfl (wantTg (by exact rfl)) rfl (fun hg w' hC => run_mv (v := .slice _ _ _) rfl (by exact rfl)) ?_
   refine q_g rfl (wantTg (by exact rfl)) rfl (fun hg w' hC => run_mv (v := .int _ _) rfl (by exact rfl)) ?_
   refine q_g rfl (wantTg (by exact rfl)) rfl (fun hg w' hC => run_ix (k) rfl Try.underlying67 ty_72 (glv (by exact rfl) (fun h => h) hg) (glv (by exact rfl) (fun h => h) hg) (by first | exact rfl | omega) (by omega) (hr5.addr (i := k) (by omega))) ?_
   refine q_g rfl (wantTg (by exact rfl)) rfl (fun hg w' hC => run_fa rfl (glv (by exact rfl) (fun h => h) hg) fo_72_1) ?_
   refine q_g rfl (wantTg (by exact rfl)) rfl (fun hg w' hC => run_ld1 rfl ag_9 (glv (by exact rfl) (fun h => h) hg) (((hr5.atD (k) (by omega)).evo0 hC).cell 1 (by exact rfl))) ?_
   refine q_g rfl (wantTg (by exact rfl)) rfl (fun hg w' hC => run_mv (v := .slice _ _ _) rfl (by exact rfl)) ?_
   refine q_g rfl (wantTg (by exact rfl)) rfl (fun hg w' hC => run_mv (v := .int _ _) rfl (by exact rfl)) ?_
   refine q_g rfl (wantTg (by exact rfl)) rfl (fun hg w' hC => run_sub rfl (glv (by exact rfl) (fun h => h) hg) (by exact rfl) (by omega) (by omega)) ?_
   refine q_g rfl (wantTg (by exact rfl)) rfl (fun hg w' hC => run_ix ((k - 1)) rfl Try.underlying67 ty_72 (glv (by exact rfl) (fun h => h) hg) (glv (by exact rfl) (fun h => h) hg) (by omega) (by omega) (hr5.addr (i := (k - 1)) (by omega))) ?_
   refine q_g rfl (wantTg (by exact rfl)) rfl (fun hg w' hC => run_fa rfl (glv (by exact rfl) (fun h => h) hg) fo_72_1) ?_
   refine q_g rfl (wantTg (by exact rfl)) rfl (fun hg w' hC => run_ld1 rfl ag_9 (glv (by exact rfl) (fun h => h) hg) (((hr5.atD ((k - 1)) (by omega)).evo0 hC).cell 1 (by exact rfl))) ?_
   refine q_g rfl (wantTg (by exact rfl)) rfl (fun hg w' hC => run_sleqD rfl (glv (by exact rfl) (fun h => h) hg) (glv (by exact rfl) (fun h => h) hg)) ?_
   refine q_g rfl (wantFg (by exact rfl)) rfl (fun hg w' hC => run_pick_and rfl (glv (by exact rfl) (fun h => h) hg) (fun hq => glv (by exact rfl) (fun h => h) (And.intro hg hq)) rfl) ?_
   refine q_g rfl (wantT (by exact rfl)) rfl (fun hg w' hC => run_pick_or rfl (glv (by exact rfl) (fun h => h) hg) rfl (fun hq => glv (by exact rfl) (fun h => h) (And.intro hg hq))) ?_
   refine q_op rfl rfl rfl (fun w' hC => run_pick_and rfl (by exact rfl) (fun hq => glv (by exact rfl) (fun h => h) hq) rfl) ?_
   refine q_op rfl rfl rfl (fun w' hC => run_mv (v := .bool _) rfl (by exact rfl)) ?_
   refine q_g rfl (wantF (by exact rfl)) rfl (fun hg w' hC => run_mv (v := .slice _ _ _) rfl (by exact rfl)) ?_
   refine q_g rfl (wantF (by exact rfl)) rfl (fun hg w' hC => run_mv (v := .int _ _) rfl (by exact rfl)) ?_
   refine q_g rfl (wantF (by exact rfl)) rfl (fun hg w' hC => run_ix (k) rfl Try.underlying67 ty_72 (glv (by exact rfl) (fun h => h) hg) (glv (by exact rfl) (fun h => h) hg) (by first | exact rfl | omega) (by omega) (hr5.addr (i := k) (by omega))) ?_
   refine q_g rfl (wantF (by exact rfl)) rfl (fun hg w' hC => run_fa rfl (glv (by exact rfl) (fun h => h) hg) fo_72_2) ?_
   refine q_g rfl (wantF (by exact rfl)) rfl (fun hg w' hC => run_ld1 rfl ag_3 (glv (by exact rfl) (fun h => h) hg) (((hr5.atD (k) (by omega)).evo0 hC).cell 2 (by exact rfl))) ?_
   refine q_g rfl (wantF (by exact rfl)) rfl (fun hg w' hC => run_lss rfl (glv (by exact rfl) (fun h => h) hg) (by exact rfl)) ?_
   refine q_op rfl rfl rfl (fun w' hC => run_pick_or rfl (by exact rfl) rfl (fun hq => glv (by exact rfl) (fun h => h) hq)) ?_
   refine q_nil (fun w11 hE12 => ?_)
   have hs_w11 := (hE12).size
   replace hV := evo_step0 hV hE12
   replace hI4 := evo_step0 hI4 hE12
   replace hl := hl0 _ hV
   replace hr5 := hr50 _ hI4
   refine r_cond (by exact rfl) (fun hc13 => ?_) (fun hc13 => ?_)
   ·skip
    refine r_seq ?_
    refine r_region ?_
    refine r_op rfl rfl rfl (run_asg (v := .bool _) rfl (by exact rfl)) ?_
    refine r_nil ?_
    refine r_ret (res1 (v := .bool _) rfl (by exact rfl)) ?_
    first | exact absurd hc13 hfine | exact ⟨rfl, hV⟩ | exact ⟨ret_bool (decide_eq_true ⟨by rw [List.take_of_length_le (by omega), sumC_grams], rfl⟩), hV⟩
   ·skip
    refine r_skip ?_
    have hsb := sumC_bd (ws := wordsM l) (k := k); have hgc := gramsOf_count (ps := pairsL [] (wordsM l)) (x := (gramsL (wordsM l)).getD k default) (getD_in (show k < (gramsL (wordsM l)).length by omega)); rw [pairs_len] at hgc; have hkw : ((k : Nat) : Int) * ((wordsM l).length + 1) ≤ 13 * 13 := Int.mul_le_mul (by omega) (by omega) (by omega) (by omega)
    refine r_region ?_
    refine r_op rfl rfl rfl (run_mv (v := .int _ _) rfl (by exact rfl)) ?_
    refine r_op rfl rfl rfl (run_mv (v := .slice _ _ _) rfl (by exact rfl)) ?_
    refine r_op rfl rfl rfl (run_mv (v := .int _ _) rfl (by exact rfl)) ?_
    refine r_op rfl rfl rfl (run_ix (k) rfl Try.underlying67 ty_72 (by exact rfl) (by exact rfl) (by first | exact rfl | omega) (by omega) (hr5.addr (i := k) (by omega))) ?_
    have hA140 := fun (w' : World) (h : Evo w3 w' []) => (hr50 w' h).atD (k) (by omega)
    have hA14 := hA140 _ hI4
    refine r_op rfl rfl rfl (run_fa rfl (by exact rfl) fo_72_2) ?_
    refine r_op rfl rfl rfl (run_ld1 rfl ag_3 (by exact rfl) (hA14.cell 2 (by exact rfl))) ?_
    refine r_op rfl rfl rfl (run_add rfl (by exact rfl) (by exact rfl) (by omega) (by omega)) ?_
    refine r_op rfl rfl rfl (run_asg (v := .int _ _) rfl (by exact rfl)) ?_
    refine r_nil ?_
    refine r_blk ?_
    refine r_region ?_
    refine r_op rfl rfl rfl (run_add rfl (by exact rfl) (by exact rfl) (by omega) (by omega)) ?_
    refine r_op rfl rfl rfl (run_mv (v := .int _ _) rfl (by exact rfl)) ?_
    refine r_nil ?_
    refine r_again (k + 1) ?_ ?_ ?_
    ·first | omega | (dsimp only; omega)
    ·refine ⟨(by first | exact rfl | exact congrArg (Value.int _) (by omega) | exact congrArg (Value.int _) (by dsimp only; omega) | exact congrArg (Value.int _) (by simp) | exact congrArg S (by simp)), (congrArg (Value.int _) (sumC_succ (by omega)).symm), (by first | assumption | omega | (dsimp only; omega) | (simp; done)), (by first | assumption | omega | (dsimp only; omega) | (simp; done)), hV, hI4⟩
    ·repeat (first | (with_reducible exact Agree.merge _ _ _) | (with_reducible exact Agree.refl _ _) | (with_reducible refine Agree.upd ?_ _ _ rfl) | ((with_reducible refine Agree.inner ?_ ?_); (kernel_rfl)))
  ·skip
   refine r_exit rfl ?_
   refine r_seq ?_
   refine r_region ?_
   refine r_op rfl rfl rfl (run_mv (v := .int _ _) rfl (by exact rfl)) ?_
   refine r_op rfl rfl rfl (run_mv (v := .slice _ _ _) rfl (by exact rfl)) ?_
   refine r_op rfl rfl rfl (run_lenSl rfl (by exact rfl) Try.underlying34) ?_
   refine r_op rfl rfl rfl (run_add rfl (by exact rfl) (by exact rfl) (by omega) (by omega)) ?_
   refine r_op rfl rfl rfl (run_eql rfl (by exact rfl) (by exact rfl)) ?_
   refine r_op rfl rfl rfl (run_mv (v := .bool _) rfl (by exact rfl)) ?_
   refine r_gyes rfl (wantT (by exact rfl)) (by exact (by rw [List.take_of_length_le (by omega), sumC_grams])) ?_
   refine r_opcall rfl rfl rfl (run_callf (vs := []) rfl (by exact rfl) Try.func43 rfl (by kernel_rfl)) known14_calls ?_
   rintro e w15 ⟨rfl, hE15⟩
   refine ⟨_, rfl, ?_⟩
   have hs_w15 := (hE15).size
   replace hV := evo_step0 hV hE15
   replace hI4 := evo_step0 hI4 hE15
   replace hl := hl0 _ hV
   replace hr5 := hr50 _ hI4
   refine r_op rfl rfl rfl (run_pick_andB rfl (by exact rfl) (fun _ => (by exact rfl)) rfl) ?_
   refine r_op rfl rfl rfl (run_asg (v := .bool _) rfl (by exact rfl)) ?_
   refine r_nil ?_
   refine r_ret (res1 (v := .bool _) rfl (by exact rfl)) ?_
   first | exact absurd hc10 hfine | exact ⟨rfl, hV⟩ | exact ⟨ret_bool (decide_eq_true ⟨by rw [List.take_of_length_le (by omega), sumC_grams], rfl⟩), hV⟩

end Go.Proofs.Ytomklacppmaljaa

namespace Go.Proofs.Ytomklacppmaljaa
open Go.RowKit Go.Vc

theorem u10 (n : Int) : ∃ n0 : Nat, IntKind.wrap .i64 ((IntKind.wrap .u64 n).tmod 10) = (n0 : Int) ∧ n0 < 10 := by
  have h0 : 0 ≤ IntKind.wrap .u64 n := by simp [IntKind.wrap, IntKind.bits, IntKind.signed]; omega
  have e := Int.tmod_eq_emod_of_nonneg (b := 10) h0
  have h1 := Int.emod_nonneg (IntKind.wrap .u64 n) (show (10 : Int) ≠ 0 by decide)
  have h2 := Int.emod_lt_of_pos (IntKind.wrap .u64 n) (show (0 : Int) < 10 by decide)
  refine ⟨(IntKind.wrap .u64 n % 10).toNat, ?_, by omega⟩
  rw [e, wrap_in (by omega) (by omega)]; omega
theorem ordw {m : Nat} {x : Int} (hm : m < 200) (hx : x = (m : Int)) : IntKind.wrap .u8 x = (((UInt8.ofNat m).toNat : Nat) : Int) := by
  rw [wrap8 (by omega) (by omega), UInt8.toNat_ofNat']; omega
theorem sep_new {v v' : Value} {n : Nat} (h : v'.ownBlock = v.ownBlock ∨ ∃ g, v'.ownBlock = some g ∧ n ≤ g) (g : Nat) (hg : v'.ownBlock = some g) : v.ownBlock = some g ∨ n ≤ g := by
  rcases h with h | ⟨q, h1, h2⟩
  · exact .inl (h ▸ hg)
  · rw [hg] at h1; cases h1; exact .inr h2
theorem want_yes {n : Nat} (h : (1 : Int) < (n : Int)) : 4 * (((n : Int) + 2).tdiv 2) = wantL n := by
  unfold wantL; rw [if_pos (by omega), Int.tdiv_eq_ediv_of_nonneg (by omega)]
theorem want_no {n : Nat} (h : ¬ (1 : Int) < (n : Int)) : (0 : Int) = wantL n := by
  unfold wantL; rw [if_neg (by omega)]

set_option maxHeartbeats 1000000 in
theorem order_law {n : Int} {w0 : World}  :
    Calls Try.prog 18 #[.int .i64 n] w0 fun e w' => e = .returned (.bool true) ∧ Evo w0 w' [] := by
 refine calls_enter (n := 59) (args := [.int .i64 n]) Try.func18 rfl Try.ntmps18 rfl ?_
 have hV : Evo w0 w0 [] := Evo.refl _ _
 refine r_seq ?_
 refine r_region ?_
 refine r_op rfl rfl rfl (run_asg (v := .bool _) rfl (by exact rfl)) ?_
 refine r_nil ?_
 refine r_seq ?_
 refine r_region ?_
 refine r_op rfl rfl rfl (run_mv (v := .int _ _) rfl (by exact rfl)) ?_
 refine r_op rfl rfl rfl (run_cvInt rfl Try.underlying3 Try.underlying84 (by exact rfl)) ?_
 refine r_op rfl rfl rfl (run_rem rfl (by exact rfl) (by exact rfl) (by omega)) ?_
 refine r_op rfl rfl rfl (run_cvInt rfl Try.underlying84 Try.underlying3 (by exact rfl)) ?_
 refine r_op rfl rfl rfl (run_asg (v := .int _ _) rfl (by exact rfl)) ?_
 refine r_nil ?_
 refine r_seq ?_
 obtain ⟨n0, hn0, hn10⟩ := u10 n
 refine r_know (i := 0) (v := .int .i64 (n0 : Nat)) (congrArg (Value.int _) hn0) ?_
 refine r_region ?_
 refine r_op rfl rfl rfl (run_asg (v := .slice _ _ _) rfl (by exact rfl)) ?_
 refine r_op rfl rfl rfl (run_asg (v := .slice _ _ _) rfl (by exact rfl)) ?_
 refine r_nil ?_
 refine r_seq ?_
 refine r_seq ?_
 refine r_region ?_
 refine r_op rfl rfl rfl (run_asg (v := .int _ _) rfl (by exact rfl)) ?_
 refine r_nil ?_
 refine r_block ?_
 refine r_loop (α := Nat) [3, 4, 5, 11, 12, 13, 14, 15, 16, 17, 18, 19, 20, 21, 22, 23, 24, 25, 26, 27, 28, 29, 30, 31, 32, 33, 34, 35, 36, 37, 38] (fun k g w => ∃ va : Value, ∃ vb : Value, g 5 = .int .i64 (k : Nat) ∧ g 3 = va ∧ g 4 = vb ∧ k ≤ n0 ∧ OwnE w w0.heap.size 81 va (ordA k) ∧ OwnE w w0.heap.size 81 vb (ordB n0 k) ∧ (∀ g, va.ownBlock = some g → ∀ h, vb.ownBlock = some h → g ≠ h) ∧ w0.heap.size ≤ w.heap.size ∧ Evo w0 w []) (fun k => n0 - k) 0 ?_ ?_
 ·refine ⟨_, _, rfl, rfl, rfl, (by first | assumption | omega | (dsimp only; omega) | (simp; done)), (OwnE.nil _ _ _), (OwnE.nil _ _ _), (fun g hg => by have h9 : (none : Option Nat) = some g := hg; cases h9), (by first | assumption | omega | (dsimp only; omega) | (simp; done)), hV⟩
 ·rintro k g w2 ⟨va, vb, hj3, hj4, hj5, hk, hoa, hob, hsep, hzl1, hV⟩
  have hs_w2hV := hV.size
  refine r_know (i := 5) (v := .int .i64 (k : Nat)) (by exact hj3) ?_
  refine r_know (i := 3) (v := va) (by exact hj4) ?_
  refine r_know (i := 4) (v := vb) (by exact hj5) ?_
  refine r_seq ?_
  refine r_seq ?_
  refine r_region ?_
  refine r_op rfl rfl rfl (run_mv (v := .int _ _) rfl (by exact rfl)) ?_
  refine r_op rfl rfl rfl (run_mv (v := .int _ _) rfl (by exact rfl)) ?_
  refine r_op rfl rfl rfl (run_lss rfl (by exact rfl) (by exact rfl)) ?_
  refine r_nil ?_
  refine r_cond (by exact rfl) (fun hc6 => ?_) (fun hc6 => ?_)
  ·skip
   refine r_skip ?_
   refine r_seq ?_
   refine r_block ?_
   refine r_seq ?_
   have hobB := fun g hg => (hob.block (g := g) hg).2
   have hla := ordA_len k; have hlb := ordB_len n0 k
   refine r_region ?_
   refine r_op rfl rfl rfl (run_mv (v := va) rfl (by exact rfl)) ?_
   refine r_op rfl rfl rfl (run_mv (v := .int _ _) rfl (by exact rfl)) ?_
   refine r_op rfl rfl rfl (run_add rfl (by exact rfl) (by exact rfl) (by omega) (by omega)) ?_
   refine r_op rfl rfl rfl (run_cvInt rfl Try.underlying3 Try.underlying5 (by exact rfl)) ?_
   refine r_knowL (i := 19) (v := .int .u8 (((UInt8.ofNat (97 + k)).toNat : Nat) : Int)) (congrArg (Value.int _) (ordw (by omega) (by omega))) ?_
   refine r_bslice (pv := [(0, .int _ _)]) (zs := [_]) (cs := [_]) Try.underlying52 ty_5 (by exact rfl) rfl (by exact rfl) rfl (by exact rfl) ?_
   intro b7 w8 heb7 hEw8 hbb7 hzb7
   have hs_w8 := (hEw8).size
   replace hV := evo_step0 hV hEw8
   replace hoa := hoa.evo0 hEw8
   replace hob := hob.evo0 hEw8
   have hAb7 := hbb7.at
   have hrb7 : RowE w8 (some ⟨b7, 0, none⟩) b7 0 1 ([UInt8.ofNat (97 + k)] : List UInt8) := rowLit ([UInt8.ofNat (97 + k)] : List UInt8) hbb7 rfl rfl
   refine r_op rfl rfl rfl (run_cvBS rfl Try.underlying52 Try.underlying5 Try.underlying9 (by exact rfl) (by first | rfl | simp) hrb7) ?_
   refine r_op rfl rfl rfl (run_sadd rfl (by exact rfl) (by exact rfl) (by first | omega | (simp; done) | (simp; omega))) ?_
   refine r_op rfl rfl rfl (run_bld (pv := [(0, .int _ _), (1, S _)]) (zs := [_, _, _]) (cells := [_, _, _]) rfl ty_81 (by exact rfl) pl_81 (by exact rfl) (by exact rfl)) ?_
   refine r_append1E (u := .agg _) (y := (⟨6, [119, UInt8.ofNat (97 + k)], 0⟩ : Vc.Item)) rfl rfl Try.underlying63 ty_81 (by exact rfl) hoa (fun _ => (by exact rfl)) (by exact rfl) (by first | exact rfl | (show _ = List.toArray [_, _, _]; first | (dsimp only; done) | exact rfl | (dsimp only; exact rfl))) ((by first | omega | (simp; omega))) ((by first | omega | (simp; omega))) (by omega) ?_
   intro q_v9 v9 w10 hEw10 hov9 hlv9
   have hs_w10 := (hEw10).size
   replace hV := evo_stepo hV hEw10 (fun g hg => .inl (by first | exact (hoa.block hg).1 | (have := hoa.block hg; omega)))
   replace hob := hob.evo hEw10 (by intro g hg hm; exact hsep _ (Option.mem_toList.1 hm) g hg rfl)
   refine r_op rfl rfl rfl (run_asg (v := v9) rfl (by exact rfl)) ?_
   refine r_nil ?_
   have hobV := fun g hg => (hov9.block (g := g) hg).2
   have hsp1 : ∀ g, v9.ownBlock = some g → ∀ h, vb.ownBlock = some h → g ≠ h := fun g hg h hh => by rcases sep_new hlv9 g hg with h1 | h1; exact hsep g h1 h hh; have := hobB h hh; omega
   refine r_region ?_
   refine r_op rfl rfl rfl (run_mv (v := vb) rfl (by exact rfl)) ?_
   refine r_op rfl rfl rfl (run_mv (v := .int _ _) rfl (by exact rfl)) ?_
   refine r_op rfl rfl rfl (run_add rfl (by exact rfl) (by exact rfl) (by omega) (by omega)) ?_
   refine r_op rfl rfl rfl (run_sub rfl (by exact rfl) (by exact rfl) (by omega) (by omega)) ?_
   refine r_op rfl rfl rfl (run_mv (v := .int _ _) rfl (by exact rfl)) ?_
   refine r_op rfl rfl rfl (run_sub rfl (by exact rfl) (by exact rfl) (by omega) (by omega)) ?_
   refine r_op rfl rfl rfl (run_cvInt rfl Try.underlying3 Try.underlying5 (by exact rfl)) ?_
   refine r_knowL (i := 32) (v := .int .u8 (((UInt8.ofNat (97 + n0 - 1 - k)).toNat : Nat) : Int)) (congrArg (Value.int _) (ordw (by omega) (by omega))) ?_
   refine r_bslice (pv := [(0, .int _ _)]) (zs := [_]) (cs := [_]) Try.underlying52 ty_5 (by exact rfl) rfl (by exact rfl) rfl (by exact rfl) ?_
   intro b11 w12 heb11 hEw12 hbb11 hzb11
   have hs_w12 := (hEw12).size
   replace hV := evo_step0 hV hEw12
   replace hob := hob.evo0 hEw12
   replace hov9 := hov9.evo0 hEw12
   have hAb11 := hbb11.at
   have hrb11 : RowE w12 (some ⟨b11, 0, none⟩) b11 0 1 ([UInt8.ofNat (97 + n0 - 1 - k)] : List UInt8) := rowLit ([UInt8.ofNat (97 + n0 - 1 - k)] : List UInt8) hbb11 rfl rfl
   refine r_op rfl rfl rfl (run_cvBS rfl Try.underlying52 Try.underlying5 Try.underlying9 (by exact rfl) (by first | rfl | simp) hrb11) ?_
   refine r_op rfl rfl rfl (run_sadd rfl (by exact rfl) (by exact rfl) (by first | omega | (simp; done) | (simp; omega))) ?_
   refine r_op rfl rfl rfl (run_bld (pv := [(0, .int _ _), (1, S _)]) (zs := [_, _, _]) (cells := [_, _, _]) rfl ty_81 (by exact rfl) pl_81 (by exact rfl) (by exact rfl)) ?_
   refine r_append1E (u := .agg _) (y := (⟨6, [119, UInt8.ofNat (97 + n0 - 1 - k)], 0⟩ : Vc.Item)) rfl rfl Try.underlying63 ty_81 (by exact rfl) hob (fun _ => (by exact rfl)) (by exact rfl) (by first | exact rfl | (show _ = List.toArray [_, _, _]; first | (dsimp only; done) | exact rfl | (dsimp only; exact rfl))) ((by first | omega | (simp; omega))) ((by first | omega | (simp; omega))) (by omega) ?_
   intro q_v13 v13 w14 hEw14 hov13 hlv13
   have hs_w14 := (hEw14).size
   replace hV := evo_stepo hV hEw14 (fun g hg => .inl (by first | exact (hob.block hg).1 | (have := hob.block hg; omega)))
   replace hov9 := hov9.evo hEw14 (by intro g hg hm; exact hsp1 g hg _ (Option.mem_toList.1 hm) rfl)
   refine r_op rfl rfl rfl (run_asg (v := v13) rfl (by exact rfl)) ?_
   refine r_nil ?_
   refine r_blk ?_
   refine r_region ?_
   refine r_op rfl rfl rfl (run_mv (v := .int _ _) rfl (by exact rfl)) ?_
   refine r_op rfl rfl rfl (run_add rfl (by exact rfl) (by exact rfl) (by omega) (by omega)) ?_
   refine r_op rfl rfl rfl (run_asg (v := .int _ _) rfl (by exact rfl)) ?_
   refine r_nil ?_
   refine r_again (k + 1) ?_ ?_ ?_
   ·first | omega | (dsimp only; omega)
   ·refine ⟨_, _, (congrArg (Value.int _) (by omega)), rfl, rfl, (by first | assumption | omega | (dsimp only; omega) | (simp; done)), (by rw [ordA_succ]; exact hov9), (by rw [ordB_succ]; exact hov13), (fun g hg h hh => by rcases sep_new (hlv13) h hh with h1 | h1; exact hsp1 g hg h h1; have := hobV g hg; omega), (by first | assumption | omega | (dsimp only; omega) | (simp; done)), hV⟩
   ·repeat (first | (with_reducible exact Agree.merge _ _ _) | (with_reducible exact Agree.refl _ _) | (with_reducible refine Agree.upd ?_ _ _ rfl) | ((with_reducible refine Agree.inner ?_ ?_); (kernel_rfl)))
  ·skip
   refine r_exit rfl ?_
   refine r_seq ?_
   obtain rfl : k = n0 := by omega
   have hqa : ∀ x ∈ ordA k, x.text.length ≤ 140737488355328 := fun x hx => by rw [ordA_text hx]; decide
   have hqb : ∀ x ∈ ordB k k, x.text.length ≤ 140737488355328 := fun x hx => by rw [ordB_text hx]; decide
   have hla := ordA_len k; have hlb := ordB_len k k; have hob0 := ord_bag k hn10; have hob1 := ord_bound k hn10; have htd := Int.tdiv_eq_ediv_of_nonneg (a := (k : Int) + 2) (b := 2) (by omega)
   refine r_region ?_
   refine r_op rfl rfl rfl (run_asg (v := .int _ _) rfl (by exact rfl)) ?_
   refine r_nil ?_
   refine r_seq ?_
   refine r_seq ?_
   refine r_region ?_
   refine r_op rfl rfl rfl (run_mv (v := .int _ _) rfl (by exact rfl)) ?_
   refine r_op rfl rfl rfl (run_gtr rfl (by exact rfl) (by exact rfl)) ?_
   refine r_nil ?_
   refine r_cond (by exact rfl) (fun hc15 => ?_) (fun hc15 => ?_)
   ·skip
    refine r_region ?_
    refine r_op rfl rfl rfl (run_mv (v := .int _ _) rfl (by exact rfl)) ?_
    refine r_op rfl rfl rfl (run_add rfl (by exact rfl) (by exact rfl) (by omega) (by omega)) ?_
    refine r_op rfl rfl rfl (run_quo rfl (by exact rfl) (by exact rfl) (by omega) (by omega) (by omega)) ?_
    refine r_op rfl rfl rfl (run_mul rfl (by exact rfl) (by exact rfl) (by omega) (by omega)) ?_
    refine r_op rfl rfl rfl (run_asg (v := .int _ _) rfl (by exact rfl)) ?_
    refine r_nil ?_
    refine r_seq ?_
    refine r_region ?_
    refine r_op rfl rfl rfl (run_mv (v := va) rfl (by exact rfl)) ?_
    refine r_op rfl rfl rfl (run_mv (v := vb) rfl (by exact rfl)) ?_
    obtain ⟨ao16, g16, cp16, hv16, hr16, hg16⟩ := hoa.rowOf
    subst hv16
    obtain ⟨ao17, g17, cp17, hv17, hr17, hg17⟩ := hob.rowOf
    subst hv17
    refine r_opcall rfl rfl rfl (run_callf (vs := [.slice _ _ _, .slice _ _ _]) rfl (by exact rfl) Try.func54 rfl (by kernel_rfl)) (bag_calls hr16 hr17 hqa hqb (by omega) (by omega)) ?_
    rintro e w18 ⟨rfl, hE18⟩
    refine ⟨_, rfl, ?_⟩
    have hs_w18 := (hE18).size
    replace hV := evo_step0 hV hE18
    replace hoa := hoa.evo0 hE18
    replace hob := hob.evo0 hE18
    replace hr16 := hr16.evo0 hE18
    replace hr17 := hr17.evo0 hE18
    refine r_op rfl rfl rfl (run_eql rfl (by exact rfl) (by exact rfl)) ?_
    refine r_op rfl rfl rfl (run_mv (v := .bool _) rfl (by exact rfl)) ?_
    refine r_gyes rfl (wantT (by exact rfl)) (by exact hob0) ?_
    refine r_op rfl rfl rfl (run_mv (v := .slice _ _ _) rfl (by exact rfl)) ?_
    refine r_gyes rfl (wantT (by exact rfl)) (by exact hob0) ?_
    refine r_op rfl rfl rfl (run_mv (v := .slice _ _ _) rfl (by exact rfl)) ?_
    refine r_gyes rfl (wantT (by exact rfl)) (by exact hob0) ?_
    refine r_opcall rfl rfl rfl (run_callf (vs := [.slice _ _ _, .slice _ _ _]) rfl (by exact rfl) Try.func56 rfl (by kernel_rfl)) (bound_calls hr16 hr17 hqa hqb (by omega) (by omega)) ?_
    rintro e w19 ⟨rfl, hE19⟩
    refine ⟨_, rfl, ?_⟩
    have hs_w19 := (hE19).size
    replace hV := evo_step0 hV hE19
    replace hoa := hoa.evo0 hE19
    replace hob := hob.evo0 hE19
    replace hr16 := hr16.evo0 hE19
    replace hr17 := hr17.evo0 hE19
    refine r_gyes rfl (wantT (by exact rfl)) (by exact hob0) ?_
    refine r_op rfl rfl rfl (run_mv (v := .int _ _) rfl (by exact rfl)) ?_
    refine r_gyes rfl (wantT (by exact rfl)) (by exact hob0) ?_
    refine r_op rfl rfl rfl (run_eql rfl (by exact rfl) (by exact rfl)) ?_
    refine r_op rfl rfl rfl (run_pick_and rfl (by exact rfl) (fun _ => (by exact rfl)) rfl) ?_
    refine r_op rfl rfl rfl (run_mv (v := .bool _) rfl (by exact rfl)) ?_
    refine r_gyes rfl (wantT (by exact rfl)) (by exact ⟨hob0, by first | (rw [want_yes hc15]; exact hob1) | (rw [want_no hc15]; exact hob1)⟩) ?_
    refine r_opcall rfl rfl rfl (run_callf (vs := []) rfl (by exact rfl) Try.func43 rfl (by kernel_rfl)) known14_calls ?_
    rintro e w20 ⟨rfl, hE20⟩
    refine ⟨_, rfl, ?_⟩
    have hs_w20 := (hE20).size
    replace hV := evo_step0 hV hE20
    replace hoa := hoa.evo0 hE20
    replace hob := hob.evo0 hE20
    replace hr16 := hr16.evo0 hE20
    replace hr17 := hr17.evo0 hE20
    refine r_op rfl rfl rfl (run_pick_andB rfl (by exact rfl) (fun _ => (by exact rfl)) rfl) ?_
    refine r_op rfl rfl rfl (run_asg (v := .bool _) rfl (by exact rfl)) ?_
    refine r_nil ?_
    refine r_ret (res1 (v := .bool _) rfl (by exact rfl)) ?_
    exact ⟨ret_bool (decide_eq_true ⟨⟨hob0, by first | (rw [want_yes hc15]; exact hob1) | (rw [want_no hc15]; exact hob1)⟩, rfl⟩), hV⟩
   ·skip
    refine r_skip ?_
    refine r_seq ?_
    refine r_region ?_
    refine r_op rfl rfl rfl (run_mv (v := va) rfl (by exact rfl)) ?_
    refine r_op rfl rfl rfl (run_mv (v := vb) rfl (by exact rfl)) ?_
    obtain ⟨ao21, g21, cp21, hv21, hr21, hg21⟩ := hoa.rowOf
    subst hv21
    obtain ⟨ao22, g22, cp22, hv22, hr22, hg22⟩ := hob.rowOf
    subst hv22
    refine r_opcall rfl rfl rfl (run_callf (vs := [.slice _ _ _, .slice _ _ _]) rfl (by exact rfl) Try.func54 rfl (by kernel_rfl)) (bag_calls hr21 hr22 hqa hqb (by omega) (by omega)) ?_
    rintro e w23 ⟨rfl, hE23⟩
    refine ⟨_, rfl, ?_⟩
    have hs_w23 := (hE23).size
    replace hV := evo_step0 hV hE23
    replace hoa := hoa.evo0 hE23
    replace hob := hob.evo0 hE23
    replace hr21 := hr21.evo0 hE23
    replace hr22 := hr22.evo0 hE23
    refine r_op rfl rfl rfl (run_eql rfl (by exact rfl) (by exact rfl)) ?_
    refine r_op rfl rfl rfl (run_mv (v := .bool _) rfl (by exact rfl)) ?_
    refine r_gyes rfl (wantT (by exact rfl)) (by exact hob0) ?_
    refine r_op rfl rfl rfl (run_mv (v := .slice _ _ _) rfl (by exact rfl)) ?_
    refine r_gyes rfl (wantT (by exact rfl)) (by exact hob0) ?_
    refine r_op rfl rfl rfl (run_mv (v := .slice _ _ _) rfl (by exact rfl)) ?_
    refine r_gyes rfl (wantT (by exact rfl)) (by exact hob0) ?_
    refine r_opcall rfl rfl rfl (run_callf (vs := [.slice _ _ _, .slice _ _ _]) rfl (by exact rfl) Try.func56 rfl (by kernel_rfl)) (bound_calls hr21 hr22 hqa hqb (by omega) (by omega)) ?_
    rintro e w24 ⟨rfl, hE24⟩
    refine ⟨_, rfl, ?_⟩
    have hs_w24 := (hE24).size
    replace hV := evo_step0 hV hE24
    replace hoa := hoa.evo0 hE24
    replace hob := hob.evo0 hE24
    replace hr21 := hr21.evo0 hE24
    replace hr22 := hr22.evo0 hE24
    refine r_gyes rfl (wantT (by exact rfl)) (by exact hob0) ?_
    refine r_op rfl rfl rfl (run_mv (v := .int _ _) rfl (by exact rfl)) ?_
    refine r_gyes rfl (wantT (by exact rfl)) (by exact hob0) ?_
    refine r_op rfl rfl rfl (run_eql rfl (by exact rfl) (by exact rfl)) ?_
    refine r_op rfl rfl rfl (run_pick_and rfl (by exact rfl) (fun _ => (by exact rfl)) rfl) ?_
    refine r_op rfl rfl rfl (run_mv (v := .bool _) rfl (by exact rfl)) ?_
    refine r_gyes rfl (wantT (by exact rfl)) (by exact ⟨hob0, by first | (rw [want_yes hc15]; exact hob1) | (rw [want_no hc15]; exact hob1)⟩) ?_
    refine r_opcall rfl rfl rfl (run_callf (vs := []) rfl (by exact rfl) Try.func43 rfl (by kernel_rfl)) known14_calls ?_
    rintro e w25 ⟨rfl, hE25⟩
    refine ⟨_, rfl, ?_⟩
    have hs_w25 := (hE25).size
    replace hV := evo_step0 hV hE25
    replace hoa := hoa.evo0 hE25
    replace hob := hob.evo0 hE25
    replace hr21 := hr21.evo0 hE25
    replace hr22 := hr22.evo0 hE25
    refine r_op rfl rfl rfl (run_pick_andB rfl (by exact rfl) (fun _ => (by exact rfl)) rfl) ?_
    refine r_op rfl rfl rfl (run_asg (v := .bool _) rfl (by exact rfl)) ?_
    refine r_nil ?_
    refine r_ret (res1 (v := .bool _) rfl (by exact rfl)) ?_
    exact ⟨ret_bool (decide_eq_true ⟨⟨hob0, by first | (rw [want_yes hc15]; exact hob1) | (rw [want_no hc15]; exact hob1)⟩, rfl⟩), hV⟩

end Go.Proofs.Ytomklacppmaljaa

