/-
  Walks of functions that the statement reaches (joined by a program out of smaller texts).
-/
import Derived.Test.YtomklacppmaljaaQd
import Derived.Test.YtomklacppmaljaaOwz
import Derived.Test.YtomklacppmaljaaLb
namespace Go.Proofs.Ytomklacppmaljaa
open Go.RowKit Go.Vc

theorem fLen_takeS {l : List Vc.Item} {k : Nat} (h : k < l.length) : fLen (l.take (k + 1)) = fLen (l.take k) + (l.getD k default).text.length := by unfold fLen; rw [take_succD l k h]; simp
theorem fLen_mem {l : List Vc.Item} {x : Vc.Item} (h : x ∈ l) : x.text.length ≤ fLen l := by
  induction l with
  | nil => cases h
  | cons y l ih =>
    have e : fLen (y :: l) = y.text.length + fLen l := by simp [fLen]
    rcases List.mem_cons.1 h with rfl | h
    · omega
    · have := ih h; omega
theorem getD_text {l : List Vc.Item} {B : Nat} (h : ∀ x ∈ l, x.text.length ≤ B) (k : Nat) : (l.getD k default).text.length ≤ B := by
  rcases Nat.lt_or_ge k l.length with h1 | h1
  · exact h _ (getD_in h1)
  · have e : l.getD k default = default := by simp [List.getD, List.getElem?_eq_none h1]
    rw [e]; exact Nat.zero_le _
theorem cutT_text : ∀ (n : Nat) (s : Str), s.length = n → ∀ x ∈ cutT s, x.text.length ≤ s.length := by
  intro n
  induction n using Nat.strongRecOn with
  | ind n ih =>
    intro s hs x hx
    by_cases h : s = []
    · subst h; rw [cutT_nil] at hx; cases hx
    · have h1 := tokN_pos s
      have h2 : 0 < s.length := List.length_pos_iff.2 h
      rw [cutT_cons h] at hx
      rcases List.mem_cons.1 hx with rfl | hx
      · show (s.take _).length ≤ _; rw [List.length_take]; omega
      · have h3 := ih _ (by rw [← hs]; show (s.drop (tokN s).2).length < s.length; rw [List.length_drop]; omega) (s.drop (tokN s).2) rfl x hx
        rw [List.length_drop] at h3; omega
theorem toks_text {f : List Vc.Item} {x : Vc.Item} (h : x ∈ toks f) : x.text.length ≤ fLen f := by
  unfold toks at h
  obtain ⟨y, hy, hx⟩ := List.mem_flatMap.1 h
  have h1 := fLen_mem hy
  unfold tokI at hx
  split at hx
  · have := cutT_text _ y.text rfl x hx; omega
  · split at hx
    · have : x = y := by simpa using hx
      rw [this]; exact h1
    · cases hx
theorem fLen_size (f : List Vc.Item) : fLen f = sizeL f := rfl
/-- what a list that differs in a few tokens is like -/
def NR (B k : Nat) (lo : List Vc.Item) : Prop := lo.length ≤ 2 * k ∧ ∀ x ∈ lo, x.text.length ≤ B + 4
theorem app1_le {B : Nat} {s t : Str} (h : s.length ≤ B) (ht : t.length = 1) : (s ++ t).length ≤ B + 4 := by rw [List.length_append]; omega
theorem NR.nil (B : Nat) : NR B 0 [] := ⟨Nat.le_refl _, by simp⟩
theorem NR.skip {B k : Nat} {lo : List Vc.Item} (h : NR B k lo) : NR B (k + 1) lo := ⟨by have := h.1; omega, h.2⟩
theorem NR.one {B k : Nat} {lo : List Vc.Item} {x : Vc.Item} (h : NR B k lo) (hx : x.text.length ≤ B + 4) : NR B (k + 1) (lo ++ [x]) :=
  ⟨by rw [List.length_append]; have := h.1; simp; omega, fun y hy => (List.mem_append.1 hy).elim (h.2 y) (fun q => by have e : y = x := (by simpa using q); rw [e]; exact hx)⟩
theorem NR.two {B k : Nat} {lo : List Vc.Item} {x z : Vc.Item} (h : NR B k lo) (hx : x.text.length ≤ B + 4) (hz : z.text.length ≤ B + 4) : NR B (k + 1) (lo ++ [x] ++ [z]) :=
  ⟨by rw [List.length_append, List.length_append]; have := h.1; simp; omega, fun y hy => by
    simp only [List.append_assoc, List.mem_append, List.mem_singleton] at hy
    rcases hy with hy | rfl | rfl
    · exact h.2 y hy
    · exact hx
    · exact hz⟩

theorem small14_calls {ao : Option Addr} {b off cap : Nat} {l : List Vc.Item} {n : Int} {w0 : World} (hl : RowE w0 ao b off cap l) (hT : ∀ k, (l.getD k default).text.length ≤ 140737488355328) (hn : n ≤ 60) :
    Calls Try.prog 42 #[.slice ao l.length cap, .int .i64 n] w0 fun e w' => ∃ x, e = .returned (.bool x) ∧ (x = true → (l.length : Int) ≤ n ∧ fLen l ≤ 300) ∧ Evo w0 w' [] := by
 refine calls_enter (n := 29) (args := [.slice ao l.length cap, .int .i64 n]) Try.func42 rfl Try.ntmps42 rfl ?_
 have hV : Evo w0 w0 [] := Evo.refl _ _
 have hl0 := keepE hl
 have hbd_hl := hl.bd
 refine r_seq ?_
 refine r_region ?_
 refine r_op rfl rfl rfl (run_asg (v := .bool _) rfl (by exact rfl)) ?_
 refine r_nil ?_
 refine r_seq ?_
 refine r_region ?_
 refine r_op rfl rfl rfl (run_asg (v := .int _ _) rfl (by exact rfl)) ?_
 refine r_nil ?_
 refine r_seq ?_
 refine r_seq ?_
 refine r_region ?_
 refine r_op rfl rfl rfl (run_mv (v := .slice _ _ _) rfl (by exact rfl)) ?_
 refine r_op rfl rfl rfl (run_lenSl rfl (by exact rfl) Try.underlying63) ?_
 refine r_op rfl rfl rfl (run_mv (v := .int _ _) rfl (by exact rfl)) ?_
 refine r_nil ?_
 refine r_block ?_
 refine r_loop (α := Nat) [5, 6, 9, 10, 11, 12, 13, 14, 15, 16, 17, 18, 19, 20] (fun k g w => ∃ z : Int, g 9 = .int .i64 (k : Nat) ∧ g 5 = .int .i64 z ∧ k ≤ l.length ∧ (k ≤ 60 → z = (fLen (l.take k) : Nat) ∧ z ≤ 140737488355328 * (k : Int)) ∧ w0.heap.size ≤ w.heap.size ∧ Evo w0 w []) (fun k => l.length - k) 0 ?_ ?_
 ·refine ⟨0, (by first | exact rfl | exact congrArg (Value.int _) (by omega) | exact congrArg (Value.int _) (by dsimp only; omega) | exact congrArg (Value.int _) (by simp) | exact congrArg S (by simp)), (by first | exact rfl | exact congrArg (Value.int _) (by omega) | exact congrArg (Value.int _) (by dsimp only; omega) | exact congrArg (Value.int _) (by simp) | exact congrArg S (by simp)), (by first | assumption | omega | (dsimp only; omega) | (simp; done)), (fun _ => ⟨rfl, by omega⟩), (by first | assumption | omega | (dsimp only; omega) | (simp; done)), hV⟩
 ·rintro k g w2 ⟨z, hj3, hj4, hk_k, hz, hzl1, hV⟩
  have hs_w2hV := hV.size
  replace hl := hl0 _ hV
  refine r_know (i := 9) (v := .int .i64 (k : Nat)) (by exact hj3) ?_
  refine r_know (i := 5) (v := .int .i64 z) (by exact hj4) ?_
  refine r_seq ?_
  refine r_region ?_
  refine r_op rfl rfl rfl (run_lss rfl (by exact rfl) (by exact rfl)) ?_
  refine r_nil ?_
  refine r_seq ?_
  refine r_cond (by exact rfl) (fun hc5 => ?_) (fun hc5 => ?_)
  ·skip
   refine r_skip ?_
   refine r_seq ?_
   refine r_block ?_
   refine r_seq ?_
   refine r_region ?_
   refine r_op rfl rfl rfl (run_mv (v := .int _ _) rfl (by exact rfl)) ?_
   refine r_op rfl rfl rfl (run_asg (v := .int _ _) rfl (by exact rfl)) ?_
   refine r_nil ?_
   have hb4 := hT k; have hb2 := fLen_takeS (l := l) (k := k) (by omega)
   refine r_region ?_
   refine r_op rfl rfl rfl (run_mv (v := .int _ _) rfl (by exact rfl)) ?_
   refine r_op rfl rfl rfl (run_mv (v := .slice _ _ _) rfl (by exact rfl)) ?_
   refine r_op rfl rfl rfl (run_mv (v := .int _ _) rfl (by exact rfl)) ?_
   refine r_op rfl rfl rfl (run_ix (k) rfl Try.underlying63 ty_81 (by exact rfl) (by exact rfl) (by first | exact rfl | omega) (by omega) (hl.addr (i := k) (by omega))) ?_
   have hA60 := fun (w' : World) (h : Evo w0 w' []) => (hl0 w' h).atD (k) (by omega)
   have hA6 := hA60 _ hV
   refine r_op rfl rfl rfl (run_fa rfl (by exact rfl) fo_81_1) ?_
   refine r_op rfl rfl rfl (run_ld1 rfl ag_9 (by exact rfl) (hA6.cell 1 (by exact rfl))) ?_
   refine r_op rfl rfl rfl (run_lenS rfl (by exact rfl) Try.underlying9) ?_
   refine r_op rfl rfl rfl (run_addw rfl (by exact rfl) (by exact rfl)) ?_
   refine r_op rfl rfl rfl (run_asg (v := .int _ _) rfl (by exact rfl)) ?_
   refine r_nil ?_
   refine r_blk ?_
   refine r_region ?_
   refine r_op rfl rfl rfl (run_add rfl (by exact rfl) (by exact rfl) (by omega) (by omega)) ?_
   refine r_op rfl rfl rfl (run_mv (v := .int _ _) rfl (by exact rfl)) ?_
   refine r_nil ?_
   refine r_again (k + 1) ?_ ?_ ?_
   ·first | omega | (dsimp only; omega)
   ·refine ⟨_, (by first | exact rfl | exact congrArg (Value.int _) (by omega) | exact congrArg (Value.int _) (by dsimp only; omega) | exact congrArg (Value.int _) (by simp) | exact congrArg S (by simp)), rfl, (by first | assumption | omega | (dsimp only; omega) | (simp; done)), (fun h => by have := hz (by omega); rw [wrap_in (by omega) (by omega), hb2]; omega), (by first | assumption | omega | (dsimp only; omega) | (simp; done)), hV⟩
   ·repeat (first | (with_reducible exact Agree.merge _ _ _) | (with_reducible exact Agree.refl _ _) | (with_reducible refine Agree.upd ?_ _ _ rfl) | ((with_reducible refine Agree.inner ?_ ?_); (kernel_rfl)))
  ·skip
   refine r_exit rfl ?_
   refine r_seq ?_
   refine r_region ?_
   refine r_op rfl rfl rfl (run_mv (v := .slice _ _ _) rfl (by exact rfl)) ?_
   refine r_op rfl rfl rfl (run_lenSl rfl (by exact rfl) Try.underlying63) ?_
   refine r_op rfl rfl rfl (run_mv (v := .int _ _) rfl (by exact rfl)) ?_
   refine r_op rfl rfl rfl (run_leq rfl (by exact rfl) (by exact rfl)) ?_
   refine r_op rfl rfl rfl (run_mv (v := .bool _) rfl (by exact rfl)) ?_
   refine r_g rfl (wantT (by exact rfl)) rfl (fun hg => run_mv (v := .int _ _) rfl (by exact rfl)) ?_
   refine r_g rfl (wantT (by exact rfl)) rfl (fun hg => run_leq rfl (glv (by exact rfl) (fun h => h) hg) (by exact rfl)) ?_
   refine r_op rfl rfl rfl (run_pick_and rfl (by exact rfl) (fun hq => glv (by exact rfl) (fun h => h) hq) rfl) ?_
   refine r_op rfl rfl rfl (run_asg (v := .bool _) rfl (by exact rfl)) ?_
   refine r_nil ?_
   refine r_ret (res1 (v := .bool _) rfl (by exact rfl)) ?_
   exact ⟨_, rfl, fun h => by have h9 := of_decide_eq_true h; have := hz (by omega); rw [List.take_of_length_le (by omega)] at this; omega, hV⟩

theorem made14_calls {ao : Option Addr} {b off cap : Nat} {l : List Int} {n : Nat} {w0 : World} (hl : RowE w0 ao b off cap l) :
    Calls Try.prog 52 #[.slice ao l.length cap, .int .i64 ((n : Nat) : Int)] w0 fun e w' => ∃ v, ∃ t : List Vc.Item, e = .returned v ∧ Evo w0 w' [] ∧ OwnE w' w0.heap.size 81 v t ∧ t.length ≤ n ∧ ∀ x ∈ t, x.text.length ≤ 240 := by
 refine calls_enter (n := 17) (args := [.slice ao l.length cap, .int .i64 ((n : Nat) : Int)]) Try.func52 rfl Try.ntmps52 rfl ?_
 have hV : Evo w0 w0 [] := Evo.refl _ _
 have hl0 := keepE hl
 have hbd_hl := hl.bd
 refine r_seq ?_
 refine r_region ?_
 refine r_op rfl rfl rfl (run_asg (v := .slice _ _ _) rfl (by exact rfl)) ?_
 refine r_nil ?_
 refine r_seq ?_
 refine r_region ?_
 refine r_op rfl rfl rfl (run_mv (v := .slice _ _ _) rfl (by exact rfl)) ?_
 refine r_op rfl rfl rfl (run_bld (pv := [(0, .slice _ _ _)]) (zs := [_, _]) (cells := [_, _]) rfl ty_89 (by exact rfl) pl_89 (by exact rfl) (by exact rfl)) ?_
 refine r_box (vs := [_, _]) (by exact rfl) (by exact rfl) rfl ?_
 intro b1 w2 heb1 hEw2 hbb1 hzb1
 have hs_w2 := (hEw2).size
 replace hV := evo_step0 hV hEw2
 replace hl := hl0 _ hV
 have hAb1 := hbb1.at
 refine r_opcall rfl rfl rfl (run_callf (vs := [.pointer _, .int _ _, .bool _, .bool _]) rfl (by exact rfl) Try.func62 rfl (by kernel_rfl)) (fragment_calls (N := 0) (show Blk _ _ _ [_, .int .i64 ((0 : Nat) : Int)] from hbb1) (fun w9 h9 => hl0 _ (evo_step1 hV h9 (.inl (by omega)))) (by omega) (by omega) (by omega)) ?_
 rintro e w3 ⟨vf3, f3, Nf3, rfl, hf3, hNf3, hE3, hn3, hof3⟩
 refine ⟨_, rfl, ?_⟩
 have hs_w3 := (hE3).size
 replace hV := evo_step1 hV hE3 (by first | exact .inl (by omega) | exact .inr (by simp))
 replace hl := hl0 _ hV
 replace hbb1 := hn3
 clear hn3
 have hAb1 := hbb1.at
 have hfl9 : fLen f3 ≤ 240 := by have h9 := hf3.2.2.1; rw [fLen_size]; omega
 have hfn9 : f3.length ≤ 16 := by have h9 := hf3.2.1; omega
 have htl9 := toks_len f3
 obtain ⟨ao4, g4, cp4, hv4, hr4, hg4⟩ := hof3.rowOf
 subst hv4
 refine r_opcall rfl rfl rfl (run_callf (vs := [.slice _ _ _]) rfl (by exact rfl) Try.func88 rfl (by kernel_rfl)) (rtokens_calls hr4 (by omega)) ?_
 rintro e w5 ⟨vt5, rfl, hE5, hot5⟩
 refine ⟨_, rfl, ?_⟩
 have hs_w5 := (hE5).size
 replace hV := evo_step0 hV hE5
 replace hl := hl0 _ hV
 replace hof3 := hof3.evo0 hE5
 replace hr4 := hr4.evo0 hE5
 refine r_op rfl rfl rfl (run_asg (v := vt5) rfl (by exact rfl)) ?_
 refine r_nil ?_
 refine r_seq ?_
 refine r_region ?_
 refine r_op rfl rfl rfl (run_mv (v := vt5) rfl (by exact rfl)) ?_
 refine r_op rfl rfl rfl (run_mv (v := vt5) rfl (by exact rfl)) ?_
 refine r_op rfl rfl rfl (run_lenOE rfl (by exact rfl) Try.underlying63 hot5) ?_
 refine r_op rfl rfl rfl (run_mv (v := .int _ _) rfl (by exact rfl)) ?_
 refine r_op rfl rfl rfl (run_min rfl (by exact rfl) (by exact rfl)) ?_
 refine r_cutOwn0 (min (toks f3).length n) rfl Try.underlying63 ty_81 hot5 (by exact rfl) (hi1 (by exact rfl) (by omega)) (by omega) ?_
 intro v6 hov6 hlv6
 refine r_op rfl rfl rfl (run_asg (v := v6) rfl (by exact rfl)) ?_
 refine r_nil ?_
 refine r_ret (res1 (v := v6) rfl (by exact rfl)) ?_
 exact ⟨_, _, rfl, hV, hov6.base_le (by omega), by rw [List.length_take]; omega, fun x hx => by have := toks_text (List.mem_of_mem_take hx); omega⟩

set_option maxHeartbeats 1000000 in
theorem near_calls {aot : Option Addr} {bt offt capt : Nat} {t : List Vc.Item} {ao : Option Addr} {b off cap : Nat} {l : List Int} {B : Nat} {w0 : World} (ht : RowE w0 aot bt offt capt t) (hl : RowE w0 ao b off cap l) (hq : ∀ x ∈ t, x.text.length ≤ B) (hB : B ≤ 1000000000) (hs : t.length ≤ 1000) :
    Calls Try.prog 53 #[.slice aot t.length capt, .slice ao l.length cap] w0 fun e w' => ∃ v, ∃ lo : List Vc.Item, e = .returned v ∧ Evo w0 w' [] ∧ OwnE w' w0.heap.size 81 v lo ∧ NR B t.length lo := by
 refine calls_enter (n := 49) (args := [.slice aot t.length capt, .slice ao l.length cap]) Try.func53 rfl Try.ntmps53 rfl ?_
 have hV : Evo w0 w0 [] := Evo.refl _ _
 have ht0 := keepE ht
 have hbd_ht := ht.bd
 have hl0 := keepE hl
 have hbd_hl := hl.bd
 refine r_seq ?_
 refine r_region ?_
 refine r_op rfl rfl rfl (run_asg (v := .slice _ _ _) rfl (by exact rfl)) ?_
 refine r_nil ?_
 refine r_seq ?_
 refine r_region ?_
 refine r_op rfl rfl rfl (run_mv (v := .slice _ _ _) rfl (by exact rfl)) ?_
 refine r_op rfl rfl rfl (run_bld (pv := [(0, .slice _ _ _)]) (zs := [_, _]) (cells := [_, _]) rfl ty_89 (by exact rfl) pl_89 (by exact rfl) (by exact rfl)) ?_
 refine r_box (vs := [_, _]) (by exact rfl) (by exact rfl) rfl ?_
 intro b1 w2 heb1 hEw2 hbb1 hzb1
 have hs_w2 := (hEw2).size
 replace hV := evo_step0 hV hEw2
 replace ht := ht0 _ hV
 replace hl := hl0 _ hV
 have hAb1 := hbb1.at
 refine r_op rfl rfl rfl (run_asg (v := .pointer _) rfl (by exact rfl)) ?_
 refine r_nil ?_
 refine r_seq ?_
 refine r_region ?_
 refine r_op rfl rfl rfl (run_asg (v := .slice _ _ _) rfl (by exact rfl)) ?_
 refine r_nil ?_
 refine r_seq ?_
 refine r_seq ?_
 refine r_region ?_
 refine r_op rfl rfl rfl (run_mv (v := .slice _ _ _) rfl (by exact rfl)) ?_
 refine r_op rfl rfl rfl (run_lenSl rfl (by exact rfl) Try.underlying63) ?_
 refine r_op rfl rfl rfl (run_mv (v := .int _ _) rfl (by exact rfl)) ?_
 refine r_nil ?_
 refine r_block ?_
 refine r_loop (α := Nat) [6, 8, 14, 15, 16, 17, 18, 19, 20, 21, 22, 23, 24, 25, 26, 27, 28, 29, 30, 31, 32, 33, 34, 35, 36, 37, 38, 39, 40, 41, 42, 43, 44, 45, 46, 47] (fun k g w => ∃ vo : Value, ∃ lo : List Vc.Item, g 14 = .int .i64 (k : Nat) ∧ g 6 = vo ∧ k ≤ t.length ∧ OwnE w w2.heap.size 81 vo lo ∧ Blk w b1 89 [.slice ao l.length cap, .int .i64 ((k : Nat) : Int)] ∧ NR B k lo ∧ w2.heap.size ≤ w.heap.size ∧ Evo w0 w []) (fun k => t.length - k) 0 ?_ ?_
 ·refine ⟨_, [], (by first | exact rfl | exact congrArg (Value.int _) (by omega) | exact congrArg (Value.int _) (by dsimp only; omega) | exact congrArg (Value.int _) (by simp) | exact congrArg S (by simp)), rfl, (by first | assumption | omega | (dsimp only; omega) | (simp; done)), (OwnE.nil _ _ _), hbb1, (NR.nil B), (by first | assumption | omega | (dsimp only; omega) | (simp; done)), hV⟩
 ·rintro k g w4 ⟨vo, lo, hj5, hj6, hk_k, hoo, hbb1, hnr, hzl3, hV⟩
  have hs_w4hV := hV.size
  have hlt7 := hbb1.lt
  replace ht := ht0 _ hV
  replace hl := hl0 _ hV
  refine r_know (i := 14) (v := .int .i64 (k : Nat)) (by exact hj5) ?_
  refine r_know (i := 6) (v := vo) (by exact hj6) ?_
  have hlo := hnr.1
  have hqk := getD_text hq k
  have hqs := app1_le (t := [115]) hqk rfl
  have hq1 : List.length ([115] : Str) = 1 := rfl
  refine r_seq ?_
  refine r_region ?_
  refine r_op rfl rfl rfl (run_lss rfl (by exact rfl) (by exact rfl)) ?_
  refine r_nil ?_
  refine r_seq ?_
  refine r_cond (by exact rfl) (fun hc8 => ?_) (fun hc8 => ?_)
  ·skip
   refine r_skip ?_
   refine r_seq ?_
   refine r_block ?_
   refine r_seq ?_
   have hobO := fun g hg => (hoo.block (g := g) hg).2
   refine r_region ?_
   refine r_op rfl rfl rfl (run_ix (k) rfl Try.underlying63 ty_81 (by exact rfl) (by exact rfl) (by first | exact rfl | omega) (by omega) (ht.addr (i := k) (by omega))) ?_
   have hA90 := fun (w' : World) (h : Evo w0 w' []) => (ht0 w' h).atD (k) (by omega)
   have hA9 := hA90 _ hV
   refine r_op rfl rfl rfl (run_ldN rfl ag_81 ty_81 (by exact rfl) rfl hA9) ?_
   have hob10 := fun g hg => (hoo.block (g := g) hg).2
   refine r_var (zs := [_, _, _]) (vs := [_, _, _]) ty_81 (by exact rfl) rfl (by exact rfl) (fun _ => rfl) (by exact rfl) rfl rfl (by exact rfl) ?_
   intro b11 w12 heb11 hEw12 hbb11 hzb11
   have hs_w12 := (hEw12).size
   replace hV := evo_step0 hV hEw12
   replace ht := ht0 _ hV
   replace hl := hl0 _ hV
   replace hoo := hoo.evo0 hEw12
   replace hbb1 := hbb1.evo0 hEw12
   have hAb11 := hbb11.at
   refine r_nil ?_
   refine r_seq ?_
   refine r_seq ?_
   refine r_region ?_
   refine r_op rfl rfl rfl (run_mv (v := .pointer _) rfl (by exact rfl)) ?_
   refine r_opcall rfl rfl rfl (run_callf (vs := [.pointer _, .int _ _]) rfl (by exact rfl) Try.func67 rfl (by kernel_rfl)) (inx_calls hbb1 hl (by omega) (by omega) (by omega)) ?_
   rintro e w13 ⟨nx13, rfl, hx13, hE13, hn13⟩
   refine ⟨_, rfl, ?_⟩
   have hs_w13 := (hE13).size
   replace hV := evo_step1 hV hE13 (by first | exact .inl (by omega) | exact .inr (by simp))
   replace ht := ht0 _ hV
   replace hl := hl0 _ hV
   replace hoo := hoo.evo hE13 (by intro g hg hm; simp at hm; subst hm; have h7 := hobO g hg; have h8 := (hoo.block (g := g) hg).1; omega)
   replace hbb11 := hbb11.evo hE13 (by simp; omega)
   replace hAb11 := hAb11.evo hE13 (by simp; omega)
   replace hbb1 := hn13
   clear hn13
   have hAb1 := hbb1.at
   refine r_nil ?_
   refine r_block ?_
   refine r_seq ?_
   refine r_region ?_
   refine r_op rfl rfl rfl (run_eql rfl (by exact rfl) (by exact rfl)) ?_
   refine r_op rfl rfl rfl (run_asg (v := .bool _) rfl (by exact rfl)) ?_
   refine r_nil ?_
   refine r_cond (by exact rfl) (fun hc14 => ?_) (fun hc14 => ?_)
   ·skip
    refine r_exit rfl ?_
    refine r_region ?_
    refine r_op rfl rfl rfl (run_add rfl (by exact rfl) (by exact rfl) (by omega) (by omega)) ?_
    refine r_op rfl rfl rfl (run_mv (v := .int _ _) rfl (by exact rfl)) ?_
    refine r_nil ?_
    refine r_again (k + 1) ?_ ?_ ?_
    ·first | omega | (dsimp only; omega)
    ·refine ⟨_, _, (by first | exact rfl | exact congrArg (Value.int _) (by omega) | exact congrArg (Value.int _) (by dsimp only; omega) | exact congrArg (Value.int _) (by simp) | exact congrArg S (by simp)), rfl, (by first | assumption | omega | (dsimp only; omega) | (simp; done)), hoo, hbb1, (by first | exact hnr.skip | exact hnr.two (Nat.le_add_left 4 B) (Nat.le_add_right_of_le hqk) | exact hnr.two (Nat.le_add_right_of_le hqk) (Nat.le_add_right_of_le hqk) | exact hnr.one (Nat.le_add_right_of_le hqk) | exact hnr.one hqs), (by first | assumption | omega | (dsimp only; omega) | (simp; done)), hV⟩
    ·repeat (first | (with_reducible exact Agree.merge _ _ _) | (with_reducible exact Agree.refl _ _) | (with_reducible refine Agree.upd ?_ _ _ rfl) | ((with_reducible refine Agree.inner ?_ ?_); (kernel_rfl)))
   ·skip
    refine r_seq ?_
    refine r_region ?_
    refine r_op rfl rfl rfl (run_eql rfl (by exact rfl) (by exact rfl)) ?_
    refine r_op rfl rfl rfl (run_asg (v := .bool _) rfl (by exact rfl)) ?_
    refine r_nil ?_
    refine r_cond (by exact rfl) (fun hc15 => ?_) (fun hc15 => ?_)
    ·skip
     refine r_region ?_
     refine r_op rfl rfl rfl (run_mv (v := vo) rfl (by exact rfl)) ?_
     refine r_op rfl rfl rfl (run_bld (pv := [(0, .int _ _), (1, S _)]) (zs := [_, _, _]) (cells := [_, _, _]) rfl ty_81 (by exact rfl) pl_81 (by exact rfl) (by exact rfl)) ?_
     refine r_append1E (u := .agg _) (y := (⟨6, [98, 108, 117, 101], 0⟩ : Vc.Item)) rfl rfl Try.underlying63 ty_81 (by exact rfl) hoo (fun _ => (by exact rfl)) (by exact rfl) (by first | exact rfl | (show _ = List.toArray [_, _, _]; first | (dsimp only; done) | exact rfl | (dsimp only; exact rfl))) ((by first | omega | (simp; omega))) ((by first | omega | (simp; omega))) (by omega) ?_
     intro q_v16 v16 w17 hEw17 hov16 hlv16
     have hs_w17 := (hEw17).size
     replace hV := evo_stepo hV hEw17 (fun g hg => .inl (by first | exact (hoo.block hg).1 | (have := hoo.block hg; omega)))
     replace ht := ht0 _ hV
     replace hl := hl0 _ hV
     replace hbb11 := hbb11.evo hEw17 (by intro hm; have hm2 := Option.mem_toList.1 hm; have := hob10 _ hm2; omega)
     replace hAb11 := hAb11.evo hEw17 (by intro hm; have hm2 := Option.mem_toList.1 hm; have := hob10 _ hm2; omega)
     replace hbb1 := hbb1.evo hEw17 (by intro hm; have hm2 := Option.mem_toList.1 hm; first | (have := hoo.block hm2; omega) | (simp [Value.ownBlock] at hm2; omega))
     replace hAb1 := hAb1.evo hEw17 (by intro hm; have hm2 := Option.mem_toList.1 hm; first | (have := hoo.block hm2; omega) | (simp [Value.ownBlock] at hm2; omega))
     refine r_op rfl rfl rfl (run_asg (v := v16) rfl (by exact rfl)) ?_
     refine r_nil ?_
     refine r_blk ?_
     refine r_region ?_
     refine r_op rfl rfl rfl (run_mv (v := v16) rfl (by exact rfl)) ?_
     refine r_op rfl rfl rfl (run_ldN rfl ag_81 ty_81 (by exact rfl) rfl hAb11) ?_
     refine r_append1E (u := .agg _) (y := ⟨(t.getD k default).kind, _, (t.getD k default).id⟩) rfl rfl Try.underlying63 ty_81 (by exact rfl) hov16 (fun _ => (by exact rfl)) (by exact rfl) (by first | exact rfl | (show _ = List.toArray [_, _, _]; first | (dsimp only; done) | exact rfl | (dsimp only; exact rfl))) ((by first | omega | (simp; omega))) ((by first | omega | (simp; omega))) (by omega) ?_
     intro q_v18 v18 w19 hEw19 hov18 hlv18
     have hs_w19 := (hEw19).size
     replace hV := evo_stepo hV hEw19 (fun g hg => .inl (by first | exact (hov16.block hg).1 | (have := hov16.block hg; omega)))
     replace ht := ht0 _ hV
     replace hl := hl0 _ hV
     replace hbb1 := hbb1.evo hEw19 (by intro hm; have hm2 := Option.mem_toList.1 hm; first | (have := hov16.block hm2; omega) | (simp [Value.ownBlock] at hm2; omega))
     replace hAb1 := hAb1.evo hEw19 (by intro hm; have hm2 := Option.mem_toList.1 hm; first | (have := hov16.block hm2; omega) | (simp [Value.ownBlock] at hm2; omega))
     refine r_op rfl rfl rfl (run_asg (v := v18) rfl (by exact rfl)) ?_
     refine r_nil ?_
     refine r_blk ?_
     refine r_region ?_
     refine r_op rfl rfl rfl (run_add rfl (by exact rfl) (by exact rfl) (by omega) (by omega)) ?_
     refine r_op rfl rfl rfl (run_mv (v := .int _ _) rfl (by exact rfl)) ?_
     refine r_nil ?_
     refine r_again (k + 1) ?_ ?_ ?_
     ·first | omega | (dsimp only; omega)
     ·refine ⟨_, _, (by first | exact rfl | exact congrArg (Value.int _) (by omega) | exact congrArg (Value.int _) (by dsimp only; omega) | exact congrArg (Value.int _) (by simp) | exact congrArg S (by simp)), rfl, (by first | assumption | omega | (dsimp only; omega) | (simp; done)), hov18, hbb1, (by first | exact hnr.skip | exact hnr.two (Nat.le_add_left 4 B) (Nat.le_add_right_of_le hqk) | exact hnr.two (Nat.le_add_right_of_le hqk) (Nat.le_add_right_of_le hqk) | exact hnr.one (Nat.le_add_right_of_le hqk) | exact hnr.one hqs), (by first | assumption | omega | (dsimp only; omega) | (simp; done)), hV⟩
     ·repeat (first | (with_reducible exact Agree.merge _ _ _) | (with_reducible exact Agree.refl _ _) | (with_reducible refine Agree.upd ?_ _ _ rfl) | ((with_reducible refine Agree.inner ?_ ?_); (kernel_rfl)))
    ·skip
     refine r_seq ?_
     refine r_region ?_
     refine r_op rfl rfl rfl (run_eql rfl (by exact rfl) (by exact rfl)) ?_
     refine r_op rfl rfl rfl (run_asg (v := .bool _) rfl (by exact rfl)) ?_
     refine r_nil ?_
     refine r_cond (by exact rfl) (fun hc20 => ?_) (fun hc20 => ?_)
     ·skip
      refine r_seq ?_
      refine r_region ?_
      refine r_op rfl rfl rfl (run_fa rfl (by exact rfl) fo_81_0) ?_
      refine r_op rfl rfl rfl (run_ld1 rfl ag_3 (by exact rfl) (hAb11.cell 0 (by exact rfl))) ?_
      refine r_op rfl rfl rfl (run_eql rfl (by exact rfl) (by exact rfl)) ?_
      refine r_nil ?_
      refine r_cond (by exact rfl) (fun hc21 => ?_) (fun hc21 => ?_)
      ·skip
       refine r_region ?_
       refine r_op rfl rfl rfl (run_fa rfl (by exact rfl) fo_81_1) ?_
       refine r_op rfl rfl rfl (run_ld1 rfl ag_9 (by exact rfl) (hAb11.cell 1 (by exact rfl))) ?_
       refine r_op rfl rfl rfl (run_sadd rfl (by exact rfl) (by exact rfl) (by first | omega | (simp; omega))) ?_
       refine r_op rfl rfl rfl (run_fa rfl (by exact rfl) fo_81_1) ?_
       refine r_store (v := S _) (vs := [_]) (cs' := [_, _, _]) (by exact rfl) (by exact rfl) hbb11 ty_9 (by exact rfl) rfl (by exact rfl) rfl (by exact rfl) ?_
       intro w22 hEw22 hzw22 hb_new
       have hs_w22 := (hEw22).size
       replace hV := evo_step1 hV hEw22 (by first | exact .inl (by omega) | exact .inr (by simp))
       replace ht := ht0 _ hV
       replace hl := hl0 _ hV
       replace hoo := hoo.evo hEw22 (by intro g hg hm; simp at hm; subst hm; have h7 := hobO g hg; have h8 := (hoo.block (g := g) hg).1; omega)
       replace hbb1 := hbb1.evo hEw22 (by simp; omega)
       replace hAb1 := hAb1.evo hEw22 (by simp; omega)
       replace hbb11 := hb_new
       have hAb11 := hbb11.at
       clear hb_new
       refine r_nil ?_
       refine r_blk ?_
       refine r_region ?_
       refine r_op rfl rfl rfl (run_mv (v := vo) rfl (by exact rfl)) ?_
       refine r_op rfl rfl rfl (run_ldN rfl ag_81 ty_81 (by exact rfl) rfl hAb11) ?_
       refine r_append1E (u := .agg _) (y := ⟨(t.getD k default).kind, _, (t.getD k default).id⟩) rfl rfl Try.underlying63 ty_81 (by exact rfl) hoo (fun _ => (by exact rfl)) (by exact rfl) (by first | exact rfl | (show _ = List.toArray [_, _, _]; first | (dsimp only; done) | exact rfl | (dsimp only; exact rfl))) ((by first | omega | (simp; omega))) ((by first | omega | (simp; omega))) (by omega) ?_
       intro q_v23 v23 w24 hEw24 hov23 hlv23
       have hs_w24 := (hEw24).size
       replace hV := evo_stepo hV hEw24 (fun g hg => .inl (by first | exact (hoo.block hg).1 | (have := hoo.block hg; omega)))
       replace ht := ht0 _ hV
       replace hl := hl0 _ hV
       replace hbb1 := hbb1.evo hEw24 (by intro hm; have hm2 := Option.mem_toList.1 hm; first | (have := hoo.block hm2; omega) | (simp [Value.ownBlock] at hm2; omega))
       replace hAb1 := hAb1.evo hEw24 (by intro hm; have hm2 := Option.mem_toList.1 hm; first | (have := hoo.block hm2; omega) | (simp [Value.ownBlock] at hm2; omega))
       refine r_op rfl rfl rfl (run_asg (v := v23) rfl (by exact rfl)) ?_
       refine r_nil ?_
       refine r_blk ?_
       refine r_region ?_
       refine r_op rfl rfl rfl (run_add rfl (by exact rfl) (by exact rfl) (by omega) (by omega)) ?_
       refine r_op rfl rfl rfl (run_mv (v := .int _ _) rfl (by exact rfl)) ?_
       refine r_nil ?_
       refine r_again (k + 1) ?_ ?_ ?_
       ·first | omega | (dsimp only; omega)
       ·refine ⟨_, _, (by first | exact rfl | exact congrArg (Value.int _) (by omega) | exact congrArg (Value.int _) (by dsimp only; omega) | exact congrArg (Value.int _) (by simp) | exact congrArg S (by simp)), rfl, (by first | assumption | omega | (dsimp only; omega) | (simp; done)), hov23, hbb1, (by first | exact hnr.skip | exact hnr.two (Nat.le_add_left 4 B) (Nat.le_add_right_of_le hqk) | exact hnr.two (Nat.le_add_right_of_le hqk) (Nat.le_add_right_of_le hqk) | exact hnr.one (Nat.le_add_right_of_le hqk) | exact hnr.one hqs), (by first | assumption | omega | (dsimp only; omega) | (simp; done)), hV⟩
       ·repeat (first | (with_reducible exact Agree.merge _ _ _) | (with_reducible exact Agree.refl _ _) | (with_reducible refine Agree.upd ?_ _ _ rfl) | ((with_reducible refine Agree.inner ?_ ?_); (kernel_rfl)))
      ·skip
       refine r_skip ?_
       refine r_blk ?_
       refine r_region ?_
       refine r_op rfl rfl rfl (run_mv (v := vo) rfl (by exact rfl)) ?_
       refine r_op rfl rfl rfl (run_ldN rfl ag_81 ty_81 (by exact rfl) rfl hAb11) ?_
       refine r_append1E (u := .agg _) (y := ⟨(t.getD k default).kind, _, (t.getD k default).id⟩) rfl rfl Try.underlying63 ty_81 (by exact rfl) hoo (fun _ => (by exact rfl)) (by exact rfl) (by first | exact rfl | (show _ = List.toArray [_, _, _]; first | (dsimp only; done) | exact rfl | (dsimp only; exact rfl))) ((by first | omega | (simp; omega))) ((by first | omega | (simp; omega))) (by omega) ?_
       intro q_v25 v25 w26 hEw26 hov25 hlv25
       have hs_w26 := (hEw26).size
       replace hV := evo_stepo hV hEw26 (fun g hg => .inl (by first | exact (hoo.block hg).1 | (have := hoo.block hg; omega)))
       replace ht := ht0 _ hV
       replace hl := hl0 _ hV
       replace hbb1 := hbb1.evo hEw26 (by intro hm; have hm2 := Option.mem_toList.1 hm; first | (have := hoo.block hm2; omega) | (simp [Value.ownBlock] at hm2; omega))
       replace hAb1 := hAb1.evo hEw26 (by intro hm; have hm2 := Option.mem_toList.1 hm; first | (have := hoo.block hm2; omega) | (simp [Value.ownBlock] at hm2; omega))
       refine r_op rfl rfl rfl (run_asg (v := v25) rfl (by exact rfl)) ?_
       refine r_nil ?_
       refine r_blk ?_
       refine r_region ?_
       refine r_op rfl rfl rfl (run_add rfl (by exact rfl) (by exact rfl) (by omega) (by omega)) ?_
       refine r_op rfl rfl rfl (run_mv (v := .int _ _) rfl (by exact rfl)) ?_
       refine r_nil ?_
       refine r_again (k + 1) ?_ ?_ ?_
       ·first | omega | (dsimp only; omega)
       ·refine ⟨_, _, (by first | exact rfl | exact congrArg (Value.int _) (by omega) | exact congrArg (Value.int _) (by dsimp only; omega) | exact congrArg (Value.int _) (by simp) | exact congrArg S (by simp)), rfl, (by first | assumption | omega | (dsimp only; omega) | (simp; done)), hov25, hbb1, (by first | exact hnr.skip | exact hnr.two (Nat.le_add_left 4 B) (Nat.le_add_right_of_le hqk) | exact hnr.two (Nat.le_add_right_of_le hqk) (Nat.le_add_right_of_le hqk) | exact hnr.one (Nat.le_add_right_of_le hqk) | exact hnr.one hqs), (by first | assumption | omega | (dsimp only; omega) | (simp; done)), hV⟩
       ·repeat (first | (with_reducible exact Agree.merge _ _ _) | (with_reducible exact Agree.refl _ _) | (with_reducible refine Agree.upd ?_ _ _ rfl) | ((with_reducible refine Agree.inner ?_ ?_); (kernel_rfl)))
     ·skip
      refine r_seq ?_
      refine r_region ?_
      refine r_op rfl rfl rfl (run_eql rfl (by exact rfl) (by exact rfl)) ?_
      refine r_op rfl rfl rfl (run_asg (v := .bool _) rfl (by exact rfl)) ?_
      refine r_nil ?_
      refine r_cond (by exact rfl) (fun hc27 => ?_) (fun hc27 => ?_)
      ·skip
       refine r_region ?_
       refine r_op rfl rfl rfl (run_mv (v := vo) rfl (by exact rfl)) ?_
       refine r_op rfl rfl rfl (run_ldN rfl ag_81 ty_81 (by exact rfl) rfl hAb11) ?_
       refine r_append1E (u := .agg _) (y := (t.getD k default : Vc.Item)) rfl rfl Try.underlying63 ty_81 (by exact rfl) hoo (fun _ => (by exact rfl)) (by exact rfl) (by first | exact rfl | (show _ = List.toArray [_, _, _]; first | (dsimp only; done) | exact rfl | (dsimp only; exact rfl))) ((by first | omega | (simp; omega))) ((by first | omega | (simp; omega))) (by omega) ?_
       intro q_v28 v28 w29 hEw29 hov28 hlv28
       have hs_w29 := (hEw29).size
       replace hV := evo_stepo hV hEw29 (fun g hg => .inl (by first | exact (hoo.block hg).1 | (have := hoo.block hg; omega)))
       replace ht := ht0 _ hV
       replace hl := hl0 _ hV
       replace hbb11 := hbb11.evo hEw29 (by intro hm; have hm2 := Option.mem_toList.1 hm; have := hob10 _ hm2; omega)
       replace hAb11 := hAb11.evo hEw29 (by intro hm; have hm2 := Option.mem_toList.1 hm; have := hob10 _ hm2; omega)
       replace hbb1 := hbb1.evo hEw29 (by intro hm; have hm2 := Option.mem_toList.1 hm; first | (have := hoo.block hm2; omega) | (simp [Value.ownBlock] at hm2; omega))
       replace hAb1 := hAb1.evo hEw29 (by intro hm; have hm2 := Option.mem_toList.1 hm; first | (have := hoo.block hm2; omega) | (simp [Value.ownBlock] at hm2; omega))
       refine r_op rfl rfl rfl (run_asg (v := v28) rfl (by exact rfl)) ?_
       refine r_nil ?_
       refine r_blk ?_
       refine r_region ?_
       refine r_op rfl rfl rfl (run_mv (v := v28) rfl (by exact rfl)) ?_
       refine r_op rfl rfl rfl (run_ldN rfl ag_81 ty_81 (by exact rfl) rfl hAb11) ?_
       refine r_append1E (u := .agg _) (y := ⟨(t.getD k default).kind, _, (t.getD k default).id⟩) rfl rfl Try.underlying63 ty_81 (by exact rfl) hov28 (fun _ => (by exact rfl)) (by exact rfl) (by first | exact rfl | (show _ = List.toArray [_, _, _]; first | (dsimp only; done) | exact rfl | (dsimp only; exact rfl))) ((by first | omega | (simp; omega))) ((by first | omega | (simp; omega))) (by omega) ?_
       intro q_v30 v30 w31 hEw31 hov30 hlv30
       have hs_w31 := (hEw31).size
       replace hV := evo_stepo hV hEw31 (fun g hg => .inl (by first | exact (hov28.block hg).1 | (have := hov28.block hg; omega)))
       replace ht := ht0 _ hV
       replace hl := hl0 _ hV
       replace hbb1 := hbb1.evo hEw31 (by intro hm; have hm2 := Option.mem_toList.1 hm; first | (have := hov28.block hm2; omega) | (simp [Value.ownBlock] at hm2; omega))
       replace hAb1 := hAb1.evo hEw31 (by intro hm; have hm2 := Option.mem_toList.1 hm; first | (have := hov28.block hm2; omega) | (simp [Value.ownBlock] at hm2; omega))
       refine r_op rfl rfl rfl (run_asg (v := v30) rfl (by exact rfl)) ?_
       refine r_nil ?_
       refine r_blk ?_
       refine r_region ?_
       refine r_op rfl rfl rfl (run_add rfl (by exact rfl) (by exact rfl) (by omega) (by omega)) ?_
       refine r_op rfl rfl rfl (run_mv (v := .int _ _) rfl (by exact rfl)) ?_
       refine r_nil ?_
       refine r_again (k + 1) ?_ ?_ ?_
       ·first | omega | (dsimp only; omega)
       ·refine ⟨_, _, (by first | exact rfl | exact congrArg (Value.int _) (by omega) | exact congrArg (Value.int _) (by dsimp only; omega) | exact congrArg (Value.int _) (by simp) | exact congrArg S (by simp)), rfl, (by first | assumption | omega | (dsimp only; omega) | (simp; done)), hov30, hbb1, (by first | exact hnr.skip | exact hnr.two (Nat.le_add_left 4 B) (Nat.le_add_right_of_le hqk) | exact hnr.two (Nat.le_add_right_of_le hqk) (Nat.le_add_right_of_le hqk) | exact hnr.one (Nat.le_add_right_of_le hqk) | exact hnr.one hqs), (by first | assumption | omega | (dsimp only; omega) | (simp; done)), hV⟩
       ·repeat (first | (with_reducible exact Agree.merge _ _ _) | (with_reducible exact Agree.refl _ _) | (with_reducible refine Agree.upd ?_ _ _ rfl) | ((with_reducible refine Agree.inner ?_ ?_); (kernel_rfl)))
      ·skip
       refine r_skip ?_
       refine r_blk ?_
       refine r_region ?_
       refine r_op rfl rfl rfl (run_mv (v := vo) rfl (by exact rfl)) ?_
       refine r_op rfl rfl rfl (run_ldN rfl ag_81 ty_81 (by exact rfl) rfl hAb11) ?_
       refine r_append1E (u := .agg _) (y := ⟨(t.getD k default).kind, _, (t.getD k default).id⟩) rfl rfl Try.underlying63 ty_81 (by exact rfl) hoo (fun _ => (by exact rfl)) (by exact rfl) (by first | exact rfl | (show _ = List.toArray [_, _, _]; first | (dsimp only; done) | exact rfl | (dsimp only; exact rfl))) ((by first | omega | (simp; omega))) ((by first | omega | (simp; omega))) (by omega) ?_
       intro q_v32 v32 w33 hEw33 hov32 hlv32
       have hs_w33 := (hEw33).size
       replace hV := evo_stepo hV hEw33 (fun g hg => .inl (by first | exact (hoo.block hg).1 | (have := hoo.block hg; omega)))
       replace ht := ht0 _ hV
       replace hl := hl0 _ hV
       replace hbb1 := hbb1.evo hEw33 (by intro hm; have hm2 := Option.mem_toList.1 hm; first | (have := hoo.block hm2; omega) | (simp [Value.ownBlock] at hm2; omega))
       replace hAb1 := hAb1.evo hEw33 (by intro hm; have hm2 := Option.mem_toList.1 hm; first | (have := hoo.block hm2; omega) | (simp [Value.ownBlock] at hm2; omega))
       refine r_op rfl rfl rfl (run_asg (v := v32) rfl (by exact rfl)) ?_
       refine r_nil ?_
       refine r_blk ?_
       refine r_region ?_
       refine r_op rfl rfl rfl (run_add rfl (by exact rfl) (by exact rfl) (by omega) (by omega)) ?_
       refine r_op rfl rfl rfl (run_mv (v := .int _ _) rfl (by exact rfl)) ?_
       refine r_nil ?_
       refine r_again (k + 1) ?_ ?_ ?_
       ·first | omega | (dsimp only; omega)
       ·refine ⟨_, _, (by first | exact rfl | exact congrArg (Value.int _) (by omega) | exact congrArg (Value.int _) (by dsimp only; omega) | exact congrArg (Value.int _) (by simp) | exact congrArg S (by simp)), rfl, (by first | assumption | omega | (dsimp only; omega) | (simp; done)), hov32, hbb1, (by first | exact hnr.skip | exact hnr.two (Nat.le_add_left 4 B) (Nat.le_add_right_of_le hqk) | exact hnr.two (Nat.le_add_right_of_le hqk) (Nat.le_add_right_of_le hqk) | exact hnr.one (Nat.le_add_right_of_le hqk) | exact hnr.one hqs), (by first | assumption | omega | (dsimp only; omega) | (simp; done)), hV⟩
       ·repeat (first | (with_reducible exact Agree.merge _ _ _) | (with_reducible exact Agree.refl _ _) | (with_reducible refine Agree.upd ?_ _ _ rfl) | ((with_reducible refine Agree.inner ?_ ?_); (kernel_rfl)))
  ·skip
   refine r_exit rfl ?_
   refine r_seq ?_
   refine r_region ?_
   refine r_op rfl rfl rfl (run_mv (v := vo) rfl (by exact rfl)) ?_
   refine r_op rfl rfl rfl (run_asg (v := vo) rfl (by exact rfl)) ?_
   refine r_nil ?_
   refine r_ret (res1 (v := vo) rfl (by exact rfl)) ?_
   exact ⟨_, _, rfl, hV, hoo.base_le (by omega), by rw [show k = t.length by omega] at hnr; exact hnr⟩

end Go.Proofs.Ytomklacppmaljaa

namespace Go.Proofs.Ytomklacppmaljaa
open Go.RowKit Go.Vc

theorem kqa : ∀ x ∈ toks KRa, x.text.length ≤ 140737488355328 := fun x hx => by have := toks_text hx; have e : fLen KRa = 7 := rfl; omega
theorem kqb : ∀ x ∈ toks KRb, x.text.length ≤ 140737488355328 := fun x hx => by have := toks_text hx; have e : fLen KRb = 8 := rfl; omega
theorem kla : (toks KRa).length ≤ 900000 := by rw [ktok_a]; decide
theorem klb : (toks KRb).length ≤ 900000 := by rw [ktok_b]; decide
theorem kbound : boundL (toks KRa) (toks KRb) = 4 := by rw [ktok_a, ktok_b]; exact known_bound
theorem klen : (((gramsL KW).length : Nat) : Int) = 4 := by rw [known_len]; rfl

theorem known14_calls  {w0 : World}  :
    Calls Try.prog 43 #[] w0 fun e w' => e = .returned (.bool true) ∧ Evo w0 w' [] := by
 have hkw : KW.length = 3 := rfl
 refine calls_enter (n := 28) (args := []) Try.func43 rfl Try.ntmps43 rfl ?_
 have hV : Evo w0 w0 [] := Evo.refl _ _
 refine r_seq ?_
 refine r_region ?_
 refine r_op rfl rfl rfl (run_asg (v := .bool _) rfl (by exact rfl)) ?_
 refine r_nil ?_
 refine r_seq ?_
 refine r_region ?_
 refine r_bslice (pv := [(0, S _), (1, S _), (2, S _)]) (zs := [_]) (cs := [_, _, _]) Try.underlying34 ty_9 (by exact rfl) rfl (by exact rfl) rfl (by exact rfl) ?_
 intro b1 w2 heb1 hEw2 hbb1 hzb1
 have hs_w2 := (hEw2).size
 replace hV := evo_step0 hV hEw2
 have hAb1 := hbb1.at
 have hrb1 : RowE w2 (some ⟨b1, 0, none⟩) b1 0 3 KW := rowLit KW hbb1 rfl rfl
 refine r_opcall rfl rfl rfl (run_callf (vs := [.slice (some ⟨b1, 0, none⟩) _ _]) rfl (by exact rfl) Try.func47 rfl (by kernel_rfl)) (grams_calls hrb1 (by omega)) ?_
 rintro e w3 ⟨vg3, rfl, hE3, hog3⟩
 refine ⟨_, rfl, ?_⟩
 have hs_w3 := (hE3).size
 replace hV := evo_step0 hV hE3
 replace hrb1 := hrb1.evo0 hE3
 refine r_op rfl rfl rfl (run_asg (v := vg3) rfl (by exact rfl)) ?_
 refine r_nil ?_
 refine r_seq ?_
 refine r_region ?_
 refine r_op rfl rfl rfl (run_bld (pv := [(0, .int _ _), (1, S _)]) (zs := [_, _, _]) (cells := [_, _, _]) rfl ty_129 (by exact rfl) pl_129 (by exact rfl) (by exact rfl)) ?_
 refine r_bslice (pv := [(0, .agg _)]) (zs := [_, _, _]) (cs := [_, _, _]) Try.underlying85 ty_129 (by exact rfl) rfl (by exact rfl) rfl (by exact rfl) ?_
 intro b4 w5 heb4 hEw5 hbb4 hzb4
 have hs_w5 := (hEw5).size
 replace hV := evo_step0 hV hEw5
 replace hrb1 := hrb1.evo0 hEw5
 replace hog3 := hog3.evo0 hEw5
 have hAb4 := hbb4.at
 have hrb4 : RowE w5 (some ⟨b4, 0, none⟩) b4 0 1 KRa := rowLit KRa hbb4 rfl rfl
 refine r_opcall rfl rfl rfl (run_callf (vs := [.slice (some ⟨b4, 0, none⟩) _ _]) rfl (by exact rfl) Try.func88 rfl (by kernel_rfl)) (rtokens_calls hrb4 (by decide)) ?_
 rintro e w6 ⟨vt6, rfl, hE6, hot6⟩
 refine ⟨_, rfl, ?_⟩
 have hs_w6 := (hE6).size
 replace hV := evo_step0 hV hE6
 replace hrb1 := hrb1.evo0 hE6
 replace hog3 := hog3.evo0 hE6
 replace hrb4 := hrb4.evo0 hE6
 refine r_op rfl rfl rfl (run_asg (v := vt6) rfl (by exact rfl)) ?_
 refine r_nil ?_
 refine r_seq ?_
 refine r_region ?_
 refine r_op rfl rfl rfl (run_bld (pv := [(0, .int _ _), (1, S _)]) (zs := [_, _, _]) (cells := [_, _, _]) rfl ty_129 (by exact rfl) pl_129 (by exact rfl) (by exact rfl)) ?_
 refine r_bslice (pv := [(0, .agg _)]) (zs := [_, _, _]) (cs := [_, _, _]) Try.underlying85 ty_129 (by exact rfl) rfl (by exact rfl) rfl (by exact rfl) ?_
 intro b7 w8 heb7 hEw8 hbb7 hzb7
 have hs_w8 := (hEw8).size
 replace hV := evo_step0 hV hEw8
 replace hrb1 := hrb1.evo0 hEw8
 replace hog3 := hog3.evo0 hEw8
 replace hrb4 := hrb4.evo0 hEw8
 replace hot6 := hot6.evo0 hEw8
 have hAb7 := hbb7.at
 have hrb7 : RowE w8 (some ⟨b7, 0, none⟩) b7 0 1 KRb := rowLit KRb hbb7 rfl rfl
 refine r_opcall rfl rfl rfl (run_callf (vs := [.slice (some ⟨b7, 0, none⟩) _ _]) rfl (by exact rfl) Try.func88 rfl (by kernel_rfl)) (rtokens_calls hrb7 (by decide)) ?_
 rintro e w9 ⟨vt9, rfl, hE9, hot9⟩
 refine ⟨_, rfl, ?_⟩
 have hs_w9 := (hE9).size
 replace hV := evo_step0 hV hE9
 replace hrb1 := hrb1.evo0 hE9
 replace hog3 := hog3.evo0 hE9
 replace hrb4 := hrb4.evo0 hE9
 replace hot6 := hot6.evo0 hE9
 replace hrb7 := hrb7.evo0 hE9
 refine r_op rfl rfl rfl (run_asg (v := vt9) rfl (by exact rfl)) ?_
 refine r_nil ?_
 refine r_seq ?_
 obtain ⟨ao10, g10, cp10, hv10, hr10, hg10⟩ := hog3.rowOf
 subst hv10
 refine r_region ?_
 refine r_op rfl rfl rfl (run_mv (v := .slice _ _ _) rfl (by exact rfl)) ?_
 refine r_op rfl rfl rfl (run_lenSl rfl (by exact rfl) Try.underlying67) ?_
 refine r_op rfl rfl rfl (run_eql rfl (by exact rfl) (by exact rfl)) ?_
 refine r_op rfl rfl rfl (run_mv (v := .bool _) rfl (by exact rfl)) ?_
 refine r_gyes rfl (wantT (by exact rfl)) (by exact klen) ?_
 refine r_op rfl rfl rfl (run_mv (v := .slice _ _ _) rfl (by exact rfl)) ?_
 refine r_gyes rfl (wantT (by exact rfl)) (by exact klen) ?_
 refine r_op rfl rfl rfl (run_ix (0) rfl Try.underlying67 ty_72 (by exact rfl) (by exact rfl) (by first | exact rfl | omega) (by rw [known_len]; decide) (hr10.addr (i := 0) (by rw [known_len]; decide))) ?_
 have hA11 := hr10.atD (0) (by rw [known_len]; decide)
 refine r_gyes rfl (wantT (by exact rfl)) (by exact klen) ?_
 refine r_op rfl rfl rfl (run_ldN rfl ag_72 ty_72 (by exact rfl) rfl hA11) ?_
 refine r_gyes rfl (wantT (by exact rfl)) (by exact klen) ?_
 refine r_op rfl rfl rfl (run_bld (pv := [(0, S _), (1, S _), (2, .int _ _)]) (zs := [_, _, _]) (cells := [_, _, _]) rfl ty_72 (by exact rfl) pl_72 (by exact rfl) (by exact rfl)) ?_
 refine r_gyes rfl (wantT (by exact rfl)) (by exact klen) ?_
 refine r_op rfl rfl rfl (run_eqlG (α := Gram) ((gramsL KW).getD 0 default) (⟨[], [97], 1⟩ : Gram) rfl Try.eqGuardType72 gee (by exact rfl) (by exact rfl)) ?_
 refine r_op rfl rfl rfl (run_pick_and rfl (by exact rfl) (fun _ => (by exact rfl)) rfl) ?_
 refine r_op rfl rfl rfl (run_mv (v := .bool _) rfl (by exact rfl)) ?_
 refine r_gyes rfl (wantT (by exact rfl)) (by exact ⟨klen, known_first⟩) ?_
 refine r_op rfl rfl rfl (run_mv (v := vt6) rfl (by exact rfl)) ?_
 refine r_gyes rfl (wantT (by exact rfl)) (by exact ⟨klen, known_first⟩) ?_
 refine r_op rfl rfl rfl (run_mv (v := vt9) rfl (by exact rfl)) ?_
 refine r_gyes rfl (wantT (by exact rfl)) (by exact ⟨klen, known_first⟩) ?_
 obtain ⟨ao12, g12, cp12, hv12, hr12, hg12⟩ := hot6.rowOf
 subst hv12
 obtain ⟨ao13, g13, cp13, hv13, hr13, hg13⟩ := hot9.rowOf
 subst hv13
 refine r_opcall rfl rfl rfl (run_callf (vs := [.slice _ _ _, .slice _ _ _]) rfl (by exact rfl) Try.func56 rfl (by kernel_rfl)) (bound_calls hr12 hr13 kqa kqb kla klb) ?_
 rintro e w14 ⟨rfl, hE14⟩
 refine ⟨_, rfl, ?_⟩
 have hs_w14 := (hE14).size
 replace hV := evo_step0 hV hE14
 replace hrb1 := hrb1.evo0 hE14
 replace hog3 := hog3.evo0 hE14
 replace hrb4 := hrb4.evo0 hE14
 replace hot6 := hot6.evo0 hE14
 replace hrb7 := hrb7.evo0 hE14
 replace hot9 := hot9.evo0 hE14
 replace hr10 := hr10.evo0 hE14
 replace hr12 := hr12.evo0 hE14
 replace hr13 := hr13.evo0 hE14
 refine r_gyes rfl (wantT (by exact rfl)) (by exact ⟨klen, known_first⟩) ?_
 refine r_op rfl rfl rfl (run_eql rfl (by exact rfl) (by exact rfl)) ?_
 refine r_op rfl rfl rfl (run_pick_and rfl (by exact rfl) (fun _ => (by exact rfl)) rfl) ?_
 refine r_op rfl rfl rfl (run_asg (v := .bool _) rfl (by exact rfl)) ?_
 refine r_nil ?_
 refine r_ret (res1 (v := .bool _) rfl (by exact rfl)) ?_
 exact ⟨ret_bool (decide_eq_true ⟨⟨klen, known_first⟩, kbound⟩), hV⟩

end Go.Proofs.Ytomklacppmaljaa

namespace Go.Proofs.Ytomklacppmaljaa
open Go Go.RowKit Go.Vc
def dT (a b : List Vc.Item) (i j : Nat) : Int := dtab (a.drop i) (b.drop j)
def tabD (a b : List Vc.Item) (i q : Nat) : Nat → Nat → List Value := fun x y => if i < x ∨ q ≤ y then [.int .i64 (dT a b x y)] else [.int .i64 0]
def tabE (a b : List Vc.Item) : Nat → Nat → List Value := fun x y => [.int .i64 (dT a b x y)]
theorem tabD_at {a b : List Vc.Item} {i q x y : Nat} (h : i < x ∨ q ≤ y) : tabD a b i q x y = [.int .i64 (dT a b x y)] := by unfold tabD; rw [if_pos h]
theorem dT_bd (a b : List Vc.Item) (i j : Nat) : 0 ≤ dT a b i j ∧ dT a b i j ≤ 4 * (a.length + b.length : Nat) := by
  have h := dtab_bd (a.drop i) (b.drop j)
  unfold dT
  rw [List.length_drop, List.length_drop] at h; omega
theorem drop_cons {a : List Vc.Item} {i : Nat} (h : i < a.length) : a.drop i = a.getD i default :: a.drop (i + 1) := by
  have e : a.getD i default = a[i] := by simp [List.getD, h]
  rw [e]; exact (List.drop_eq_getElem_cons h)
section
variable {a b : List Vc.Item} {i j : Nat}
theorem dT_corner (h : a.length ≤ i) (h2 : b.length ≤ j) : dT a b i j = 0 := by unfold dT; rw [List.drop_of_length_le h, List.drop_of_length_le h2, dtab]
theorem dT_down (h : i < a.length) (h2 : b.length ≤ j) : dT a b i j = aloneT (a.getD i default) + dT a b (i + 1) j := by unfold dT; rw [List.drop_of_length_le h2, drop_cons h, dtab]
theorem dT_right (h : a.length ≤ i) (h2 : j < b.length) : dT a b i j = aloneT (b.getD j default) + dT a b i (j + 1) := by unfold dT; rw [List.drop_of_length_le h, drop_cons h2, dtab]
theorem dT_yes (h : i < a.length) (h2 : j < b.length) (hc : costB (a.getD i default) (b.getD j default)) : dT a b i j = min (min (costC (a.getD i default) (b.getD j default) + dT a b (i + 1) (j + 1)) (aloneT (a.getD i default) + dT a b (i + 1) j)) (aloneT (b.getD j default) + dT a b i (j + 1)) := by
  unfold dT; rw [drop_cons h, drop_cons h2, dtab, if_pos hc]
theorem dT_no (h : i < a.length) (h2 : j < b.length) (hc : ¬ costB (a.getD i default) (b.getD j default)) : dT a b i j = min (aloneT (a.getD i default) + dT a b (i + 1) j) (aloneT (b.getD j default) + dT a b i (j + 1)) := by
  unfold dT; rw [drop_cons h, drop_cons h2, dtab, if_neg hc]
/-- the best so far: with the pair alone, with the deletion too -/
def bst1 (a b : List Vc.Item) (i j : Nat) : Option Int := if (i < a.length ∧ j < b.length) ∧ costB (a.getD i default) (b.getD j default) then some (costC (a.getD i default) (b.getD j default) + dT a b (i + 1) (j + 1)) else none
def minO (o : Option Int) (c : Int) : Option Int := if o = none ∨ c < o.getD 0 then some c else o
def bst2 (a b : List Vc.Item) (i j : Nat) : Option Int := if i < a.length then minO (bst1 a b i j) (aloneT (a.getD i default) + dT a b (i + 1) j) else bst1 a b i j
def bst3 (a b : List Vc.Item) (i j : Nat) : Option Int := if j < b.length then minO (bst2 a b i j) (aloneT (b.getD j default) + dT a b i (j + 1)) else bst2 a b i j
theorem bst1_yes (h : (i < a.length ∧ j < b.length) ∧ costB (a.getD i default) (b.getD j default)) : bst1 a b i j = some (costC (a.getD i default) (b.getD j default) + dT a b (i + 1) (j + 1)) := if_pos h
theorem bst1_no (h : ¬ ((i < a.length ∧ j < b.length) ∧ costB (a.getD i default) (b.getD j default))) : bst1 a b i j = none := if_neg h
theorem minO_val (q c : Int) : minO (some q) c = some (min q c) := by
  unfold minO
  simp only [reduceCtorEq, false_or, Option.getD_some]
  by_cases h : c < q
  · rw [if_pos h]; congr 1; omega
  · rw [if_neg h]; congr 1; omega
theorem minO_none (c : Int) : minO none c = some c := if_pos (.inl rfl)
theorem bst3_eq (hi : i ≤ a.length) (hj : j ≤ b.length) : (bst3 a b i j).getD 0 = dT a b i j := by
  unfold bst3 bst2
  by_cases h : i < a.length
  · by_cases h2 : j < b.length
    · rw [if_pos h2, if_pos h]
      by_cases hc : costB (a.getD i default) (b.getD j default)
      · rw [dT_yes h h2 hc, bst1_yes ⟨⟨h, h2⟩, hc⟩, minO_val, minO_val]; rfl
      · rw [dT_no h h2 hc, bst1_no (fun q => hc q.2), minO_none, minO_val]; rfl
    · rw [dT_down (j := j) h (by omega), if_neg h2, if_pos h, bst1_no (fun q => h2 q.1.2), minO_none]; rfl
  · by_cases h2 : j < b.length
    · rw [dT_right (i := i) (by omega) h2, if_pos h2, if_neg h, bst1_no (fun q => h q.1.1), minO_none]; rfl
    · rw [dT_corner (i := i) (j := j) (by omega) (by omega), if_neg h2, if_neg h, bst1_no (fun q => h q.1.1)]; rfl
theorem bst2_take (h : i < a.length) (h2 : bst1 a b i j = none ∨ aloneT (a.getD i default) + dT a b (i + 1) j < (bst1 a b i j).getD 0) : bst2 a b i j = some (aloneT (a.getD i default) + dT a b (i + 1) j) := by unfold bst2; rw [if_pos h]; exact if_pos h2
theorem bst2_keep (h2 : ¬ (bst1 a b i j = none ∨ aloneT (a.getD i default) + dT a b (i + 1) j < (bst1 a b i j).getD 0)) : bst2 a b i j = bst1 a b i j := by
  unfold bst2; split
  · exact if_neg h2
  · rfl
theorem bst2_out (h : ¬ i < a.length) : bst2 a b i j = bst1 a b i j := if_neg h
theorem bst3_take (h : j < b.length) (h2 : bst2 a b i j = none ∨ aloneT (b.getD j default) + dT a b i (j + 1) < (bst2 a b i j).getD 0) : bst3 a b i j = some (aloneT (b.getD j default) + dT a b i (j + 1)) := by unfold bst3; rw [if_pos h]; exact if_pos h2
theorem bst3_keep (h2 : ¬ (bst2 a b i j = none ∨ aloneT (b.getD j default) + dT a b i (j + 1) < (bst2 a b i j).getD 0)) : bst3 a b i j = bst2 a b i j := by
  unfold bst3; split
  · exact if_neg h2
  · rfl
theorem bst3_out (h : ¬ j < b.length) : bst3 a b i j = bst2 a b i j := if_neg h
theorem any_or {o : Option Int} {p : Prop} (h : ¬ decide (o ≠ none) = true ∨ p) : o = none ∨ p := h.imp (fun q => Classical.byContradiction fun z => q (decide_eq_true z)) id
theorem any_nor {o : Option Int} {p : Prop} (h : ¬ (¬ decide (o ≠ none) = true ∨ p)) : ¬ (o = none ∨ p) := fun q => h (q.imp (fun z y => of_decide_eq_true y z) id)
end
section
variable {w w' : World} {base bt : Nat} {T E : TypeId} {n m lo : Nat} {rb : Nat → Nat} {a b : List Vc.Item} {i j : Nat}
theorem dtab_val (h : Tab w base bt T E 1 n m lo rb (tabD a b i j)) (x y : Nat) (h1 : lo ≤ x) (h2 : x < n) (h3 : y < m) (h4 : i < x ∨ j ≤ y) : w.cell? ⟨rb x, 0 + y * 1, none⟩ = some (.int .i64 (dT a b x y)) :=
  h.cell0 x y h1 h2 h3 (tabD_at h4)
theorem dtab_valF (h : Tab w base bt T E 1 n m lo rb (tabE a b)) (x y : Nat) (h1 : lo ≤ x) (h2 : x < n) (h3 : y < m) : w.cell? ⟨rb x, 0 + y * 1, none⟩ = some (.int .i64 (dT a b x y)) :=
  h.cell0 x y h1 h2 h3 rfl
theorem dtab_done (h : Tab w base bt T E 1 n m i rb (tabD a b i (j + 1))) (hi : i < n) (he : Evo w w' [rb i]) {vs : List Value} (hr : FB w' (rb i) E 1 m (fun q => if q = j then vs else tabD a b i (j + 1) i q)) (hv : vs = [.int .i64 (dT a b i j)]) :
    Tab w' base bt T E 1 n m i rb (tabD a b i j) := by
  refine (h.store (Nat.le_refl _) hi he hr).congr (fun x h1 h2 y => ?_)
  unfold tabD
  by_cases e : x = i
  · rw [if_pos e]
    subst e
    by_cases e2 : y = j
    · rw [if_pos (by omega), if_pos e2, hv, e2]
    · rw [if_neg e2]
      by_cases e3 : x < x ∨ j + 1 ≤ y
      · rw [if_pos (by omega), if_pos e3]
      · rw [if_neg (by omega), if_neg e3]
  · rw [if_neg e, if_pos (by omega), if_pos (by omega)]
theorem dtab_full (h : Tab w base bt T E 1 n m i rb (tabD a b i 0)) : Tab w base bt T E 1 n m i rb (tabE a b) := h.congr (fun x h1 h2 y => by unfold tabE tabD; rw [if_pos (.inr (Nat.zero_le _))])
theorem dtab_add {c : List Value} (h : Tab w base bt T E 1 n m (i + 1) rb (tabE a b)) (hlo : i < n) {b' : Nat} (hb : w.heap.size ≤ b') (hbase : base ≤ w.heap.size) (he : Evo w w' [bt]) (hout : FB w' bt T 1 n (fun q => if q = i then [.slice (some ⟨b', 0, none⟩) m m] else rowsC rb (i + 1) m q))
    (hrow : FB w' b' E 1 m (fun _ => c)) (hc : c = [.int .i64 0]) : Tab w' base bt T E 1 n m i (fun q => if q = i then b' else rb q) (tabD a b i m) := by
  have hrow' : FB w' b' E 1 m (tabD a b i m i) := hrow.congr' (fun y => by unfold tabD; split <;> rfl) (fun y hy => by unfold tabD; rw [if_neg (by omega), hc])
  refine (h.congr (c' := tabD a b i m) (fun x h1 h2 y => tabD_at (by omega))).add hlo hb hbase he hout hrow' rfl (fun x h1 => rfl)
end
end Go.Proofs.Ytomklacppmaljaa

namespace Go.Proofs.Ytomklacppmaljaa
open Go.RowKit Go.Vc

theorem ret_ib {a b : Int} {p q : Bool} (h : a = b ∧ p = q) : Ending.returned (.tuple #[.int .i64 a, .bool p]) = .returned (.tuple #[.int .i64 b, .bool q]) := by rw [h.1, h.2]
theorem cost_1 {x y : Vc.Item} (h : sameB x y) : (0 : Int) = costC x y ∧ true = decide (costB x y) := ⟨by unfold costC; rw [if_pos h], (decide_eq_true (.inl h)).symm⟩
theorem cost_2 {x y : Vc.Item} (h : ¬ sameB x y) (h2 : ¬ (x.kind = y.kind ∧ 5 ≤ x.kind ∧ x.kind ≤ 9)) : (0 : Int) = costC x y ∧ false = decide (costB x y) :=
  ⟨by unfold costC; rw [if_neg h, if_pos h2], (decide_eq_false (fun q => q.elim h h2)).symm⟩
theorem cost_3 {x y : Vc.Item} (h : ¬ sameB x y) (h2 : x.kind = y.kind ∧ 5 ≤ x.kind ∧ x.kind ≤ 9) (h3 : x.kind = 6 ∧ keyT x = keyT y) : (1 : Int) = costC x y ∧ true = decide (costB x y) :=
  ⟨by unfold costC; rw [if_neg h, if_neg (fun q => q h2), if_pos h3], (decide_eq_true (.inr h2)).symm⟩
theorem cost_4 {x y : Vc.Item} (h : ¬ sameB x y) (h2 : x.kind = y.kind ∧ 5 ≤ x.kind ∧ x.kind ≤ 9) (h3 : ¬ (x.kind = 6 ∧ keyT x = keyT y)) : wK x.kind = costC x y ∧ true = decide (costB x y) :=
  ⟨by unfold costC; rw [if_neg h, if_neg (fun q => q h2), if_neg h3], (decide_eq_true (.inr h2)).symm⟩

theorem rtcost_calls {x y : Vc.Item} {w0 : World} (hx : x.text.length ≤ 140737488355328) (hy : y.text.length ≤ 140737488355328) :
    Calls Try.prog 135 #[.agg (Enc.enc x).toArray, .agg (Enc.enc y).toArray] w0 fun e w' => e = .returned (.tuple #[.int .i64 (costC x y), .bool (decide (costB x y))]) ∧ Evo w0 w' [] := by
 refine calls_enter (n := 39) (args := [.agg (Enc.enc x).toArray, .agg (Enc.enc y).toArray]) Try.func135 rfl Try.ntmps135 rfl ?_
 have hV : Evo w0 w0 [] := Evo.refl _ _
 refine r_seq ?_
 refine r_region ?_
 refine r_box (vs := [_, _, _]) (by exact rfl) (by exact rfl) rfl ?_
 intro b1 w2 heb1 hEw2 hbb1 hzb1
 have hs_w2 := (hEw2).size
 replace hV := evo_step0 hV hEw2
 have hAb1 := hbb1.at
 refine r_box (vs := [_, _, _]) (by exact rfl) (by exact rfl) rfl ?_
 intro b3 w4 heb3 hEw4 hbb3 hzb3
 have hs_w4 := (hEw4).size
 replace hV := evo_step0 hV hEw4
 replace hbb1 := hbb1.evo0 hEw4
 replace hAb1 := hAb1.evo0 hEw4
 have hAb3 := hbb3.at
 refine r_op rfl rfl rfl (run_asg (v := .int _ _) rfl (by exact rfl)) ?_
 refine r_op rfl rfl rfl (run_asg (v := .bool _) rfl (by exact rfl)) ?_
 refine r_nil ?_
 refine r_seq ?_
 refine r_block ?_
 refine r_seq ?_
 refine r_region ?_
 refine r_op rfl rfl rfl (run_ldN rfl ag_81 ty_81 (by exact rfl) rfl hAb1) ?_
 refine r_op rfl rfl rfl (run_ldN rfl ag_81 ty_81 (by exact rfl) rfl hAb3) ?_
 refine r_opcall rfl rfl rfl (run_callf (vs := [.agg _, .agg _]) rfl (by exact rfl) Try.func174 rfl (by kernel_rfl)) (rsame_calls (x := x) (y := y)) ?_
 rintro e w5 ⟨rfl, hE5⟩
 refine ⟨_, rfl, ?_⟩
 have hs_w5 := (hE5).size
 replace hV := evo_step0 hV hE5
 replace hbb1 := hbb1.evo0 hE5
 replace hAb1 := hAb1.evo0 hE5
 replace hbb3 := hbb3.evo0 hE5
 replace hAb3 := hAb3.evo0 hE5
 refine r_op rfl rfl rfl (run_asg (v := .bool _) rfl (by exact rfl)) ?_
 refine r_nil ?_
 refine r_cond (by exact rfl) (fun hc6 => ?_) (fun hc6 => ?_)
 ·skip
  refine r_seq ?_
  refine r_region ?_
  refine r_op rfl rfl rfl (run_asg (v := .int _ _) rfl (by exact rfl)) ?_
  refine r_op rfl rfl rfl (run_asg (v := .bool _) rfl (by exact rfl)) ?_
  refine r_nil ?_
  refine r_ret (res2 (v := .int _ _) (u := .bool _) rfl (by exact rfl) (by exact rfl)) ?_
  first | exact ⟨ret_ib (cost_1 hc6), hV⟩ | exact ⟨ret_ib (cost_2 hc3 (by omega)), hV⟩ | exact ⟨ret_ib (cost_3 hc3 (by omega) hc6), hV⟩ | exact ⟨ret_ib (cost_4 hc3 (by omega) hc6), hV⟩
 ·skip
  refine r_seq ?_
  have hc3 := hc6
  refine r_region ?_
  refine r_op rfl rfl rfl (run_fa rfl (by exact rfl) fo_81_0) ?_
  refine r_op rfl rfl rfl (run_ld1 rfl ag_3 (by exact rfl) (hAb1.cell 0 (by exact rfl))) ?_
  refine r_op rfl rfl rfl (run_fa rfl (by exact rfl) fo_81_0) ?_
  refine r_op rfl rfl rfl (run_ld1 rfl ag_3 (by exact rfl) (hAb3.cell 0 (by exact rfl))) ?_
  refine r_op rfl rfl rfl (run_neq rfl (by exact rfl) (by exact rfl)) ?_
  refine r_op rfl rfl rfl (run_mv (v := .bool _) rfl (by exact rfl)) ?_
  refine r_g rfl (wantF (by exact rfl)) rfl (fun hg => run_fa rfl (by exact rfl) fo_81_0) ?_
  refine r_g rfl (wantF (by exact rfl)) rfl (fun hg => run_ld1 rfl ag_3 (glv (by exact rfl) (fun h => h) hg) (hAb1.cell 0 (by exact rfl))) ?_
  refine r_g rfl (wantF (by exact rfl)) rfl (fun hg => run_lss rfl (glv (by exact rfl) (fun h => h) hg) (by exact rfl)) ?_
  refine r_op rfl rfl rfl (run_pick_or rfl (by exact rfl) rfl (fun hq => glv (by exact rfl) (fun h => h) hq)) ?_
  refine r_op rfl rfl rfl (run_mv (v := .bool _) rfl (by exact rfl)) ?_
  refine r_g rfl (wantF (by exact rfl)) rfl (fun hg => run_fa rfl (by exact rfl) fo_81_0) ?_
  refine r_g rfl (wantF (by exact rfl)) rfl (fun hg => run_ld1 rfl ag_3 (glv (by exact rfl) (fun h => h) hg) (hAb1.cell 0 (by exact rfl))) ?_
  refine r_g rfl (wantF (by exact rfl)) rfl (fun hg => run_gtr rfl (glv (by exact rfl) (fun h => h) hg) (by exact rfl)) ?_
  refine r_op rfl rfl rfl (run_pick_or rfl (by exact rfl) rfl (fun hq => glv (by exact rfl) (fun h => h) hq)) ?_
  refine r_op rfl rfl rfl (run_asg (v := .bool _) rfl (by exact rfl)) ?_
  refine r_nil ?_
  refine r_cond (by exact rfl) (fun hc7 => ?_) (fun hc7 => ?_)
  ·skip
   refine r_seq ?_
   refine r_region ?_
   refine r_op rfl rfl rfl (run_asg (v := .int _ _) rfl (by exact rfl)) ?_
   refine r_op rfl rfl rfl (run_asg (v := .bool _) rfl (by exact rfl)) ?_
   refine r_nil ?_
   refine r_ret (res2 (v := .int _ _) (u := .bool _) rfl (by exact rfl) (by exact rfl)) ?_
   first | exact ⟨ret_ib (cost_1 hc7), hV⟩ | exact ⟨ret_ib (cost_2 hc3 (by omega)), hV⟩ | exact ⟨ret_ib (cost_3 hc3 (by omega) hc7), hV⟩ | exact ⟨ret_ib (cost_4 hc3 (by omega) hc7), hV⟩
  ·skip
   refine r_seq ?_
   have hc5 := hc7
   refine r_qregion (by kernel_rfl) (by kernel_rfl) ?_
   refine q_op rfl rfl rfl (fun w' hC => run_fa rfl (by exact rfl) fo_81_0) ?_
   refine q_op rfl rfl rfl (fun w' hC => run_ld1 rfl ag_3 (by exact rfl) ((hAb1.evo0 hC).cell 0 (by exact rfl))) ?_
   refine q_op rfl rfl rfl (fun w' hC => run_eql rfl (by exact rfl) (by exact rfl)) ?_
   refine q_op rfl rfl rfl (fun w' hC => run_mv (v := .bool _) rfl (by exact rfl)) ?_
   refine q_g rfl (wantT (by exact rfl)) rfl (fun hg w' hC => run_ldN rfl ag_81 ty_81 (by exact rfl) rfl (hAb1.evo0 hC)) ?_
   refine q_gcall rfl (wantT (by exact rfl)) rfl (fun hg w' hC => run_callf rfl (argcons (v := .agg _) (glv (by exact rfl) (fun h => h) hg) (rfl)) Try.func59 rfl (by kernel_rfl)) (fun hg w' hC => (rkey_calls (x := x) hx).mono (fun e w'' h => ⟨h.1, evo_step0 hC h.2⟩)) ?_
   refine q_g rfl (wantT (by exact rfl)) rfl (fun hg w' hC => run_ldN rfl ag_81 ty_81 (by exact rfl) rfl (hAb3.evo0 hC)) ?_
   refine q_gcall rfl (wantT (by exact rfl)) rfl (fun hg w' hC => run_callf rfl (argcons (v := .agg _) (glv (by exact rfl) (fun h => h) hg) (rfl)) Try.func59 rfl (by kernel_rfl)) (fun hg w' hC => (rkey_calls (x := y) hy).mono (fun e w'' h => ⟨h.1, evo_step0 hC h.2⟩)) ?_
   refine q_g rfl (wantT (by exact rfl)) rfl (fun hg w' hC => run_seql rfl (glv (by exact rfl) (fun h => h) hg) (glv (by exact rfl) (fun h => h) hg)) ?_
   refine q_op rfl rfl rfl (fun w' hC => run_pick_and rfl (by exact rfl) (fun hq => glv (by exact rfl) (fun h => h) hq) rfl) ?_
   refine q_op rfl rfl rfl (fun w' hC => run_asg (v := .bool _) rfl (by exact rfl)) ?_
   refine q_nil (fun w8 hE9 => ?_)
   have hs_w8 := (hE9).size
   replace hV := evo_step0 hV hE9
   replace hbb1 := hbb1.evo0 hE9
   replace hAb1 := hAb1.evo0 hE9
   refine r_cond (by exact rfl) (fun hc10 => ?_) (fun hc10 => ?_)
   ·skip
    refine r_seq ?_
    refine r_region ?_
    refine r_op rfl rfl rfl (run_asg (v := .int _ _) rfl (by exact rfl)) ?_
    refine r_op rfl rfl rfl (run_asg (v := .bool _) rfl (by exact rfl)) ?_
    refine r_nil ?_
    refine r_ret (res2 (v := .int _ _) (u := .bool _) rfl (by exact rfl) (by exact rfl)) ?_
    first | exact ⟨ret_ib (cost_1 hc10), hV⟩ | exact ⟨ret_ib (cost_2 hc3 (by omega)), hV⟩ | exact ⟨ret_ib (cost_3 hc3 (by omega) hc10), hV⟩ | exact ⟨ret_ib (cost_4 hc3 (by omega) hc10), hV⟩
   ·skip
    refine r_skip ?_
    refine r_blk ?_
    refine r_seq ?_
    refine r_region ?_
    refine r_op rfl rfl rfl (run_ldN rfl ag_81 ty_81 (by exact rfl) rfl hAb1) ?_
    refine r_opcall rfl rfl rfl (run_callf (vs := [.agg _]) rfl (by exact rfl) Try.func132 rfl (by kernel_rfl)) (rweight_calls (x := x)) ?_
    rintro e w11 ⟨rfl, hE11⟩
    refine ⟨_, rfl, ?_⟩
    have hs_w11 := (hE11).size
    replace hV := evo_step0 hV hE11
    refine r_op rfl rfl rfl (run_asg (v := .int _ _) rfl (by exact rfl)) ?_
    refine r_op rfl rfl rfl (run_asg (v := .bool _) rfl (by exact rfl)) ?_
    refine r_nil ?_
    refine r_ret (res2 (v := .int _ _) (u := .bool _) rfl (by exact rfl) (by exact rfl)) ?_
    first | exact ⟨ret_ib (cost_1 hc10), hV⟩ | exact ⟨ret_ib (cost_2 hc3 (by omega)), hV⟩ | exact ⟨ret_ib (cost_3 hc3 (by omega) hc10), hV⟩ | exact ⟨ret_ib (cost_4 hc3 (by omega) hc10), hV⟩

theorem ralone_calls {x : Vc.Item} {w0 : World}  :
    Calls Try.prog 136 #[.agg (Enc.enc x).toArray] w0 fun e w' => e = .returned (.int .i64 (aloneT x)) ∧ Evo w0 w' [] := by
 refine calls_enter (n := 7) (args := [.agg (Enc.enc x).toArray]) Try.func136 rfl Try.ntmps136 rfl ?_
 have hV : Evo w0 w0 [] := Evo.refl _ _
 refine r_seq ?_
 refine r_region ?_
 refine r_box (vs := [_, _, _]) (by exact rfl) (by exact rfl) rfl ?_
 intro b1 w2 heb1 hEw2 hbb1 hzb1
 have hs_w2 := (hEw2).size
 replace hV := evo_step0 hV hEw2
 have hAb1 := hbb1.at
 refine r_op rfl rfl rfl (run_asg (v := .int _ _) rfl (by exact rfl)) ?_
 refine r_nil ?_
 refine r_seq ?_
 refine r_seq ?_
 refine r_region ?_
 refine r_op rfl rfl rfl (run_ldN rfl ag_81 ty_81 (by exact rfl) rfl hAb1) ?_
 refine r_opcall rfl rfl rfl (run_callf (vs := [.agg _]) rfl (by exact rfl) Try.func133 rfl (by kernel_rfl)) (sristag_calls ) ?_
 rintro e w3 ⟨rfl, hE3⟩
 refine ⟨_, rfl, ?_⟩
 have hs_w3 := (hE3).size
 replace hV := evo_step0 hV hE3
 replace hbb1 := hbb1.evo0 hE3
 replace hAb1 := hAb1.evo0 hE3
 refine r_nil ?_
 refine r_cond (by exact rfl) (fun hc4 => ?_) (fun hc4 => ?_)
 ·skip
  refine r_seq ?_
  refine r_region ?_
  refine r_op rfl rfl rfl (run_asg (v := .int _ _) rfl (by exact rfl)) ?_
  refine r_nil ?_
  refine r_ret (res1 (v := .int _ _) rfl (by exact rfl)) ?_
  exact ⟨ret_int (by unfold aloneT; rw [if_pos hc4]), hV⟩
 ·skip
  refine r_skip ?_
  refine r_seq ?_
  refine r_region ?_
  refine r_op rfl rfl rfl (run_ldN rfl ag_81 ty_81 (by exact rfl) rfl hAb1) ?_
  refine r_opcall rfl rfl rfl (run_callf (vs := [.agg _]) rfl (by exact rfl) Try.func132 rfl (by kernel_rfl)) (rweight_calls (x := x)) ?_
  rintro e w5 ⟨rfl, hE5⟩
  refine ⟨_, rfl, ?_⟩
  have hs_w5 := (hE5).size
  replace hV := evo_step0 hV hE5
  refine r_op rfl rfl rfl (run_asg (v := .int _ _) rfl (by exact rfl)) ?_
  refine r_nil ?_
  refine r_ret (res1 (v := .int _ _) rfl (by exact rfl)) ?_
  exact ⟨ret_int (by unfold aloneT; rw [if_neg hc4]), hV⟩

set_option maxRecDepth 4000 in
set_option maxHeartbeats 1000000 in
theorem rtable_calls {aoa aob : Option Addr} {ba offa capa bb offb capb : Nat} {a b : List Vc.Item} {w0 : World} (ha : RowE w0 aoa ba offa capa a) (hb : RowE w0 aob bb offb capb b) (hqa : ∀ x ∈ a, x.text.length ≤ 140737488355328) (hqb : ∀ x ∈ b, x.text.length ≤ 140737488355328) (hsa : a.length ≤ 10000) (hsb : b.length ≤ 10000) :
    Calls Try.prog 102 #[.slice aoa a.length capa, .slice aob b.length capb] w0 fun e w' => ∃ bt rb, e = .returned (.slice (some ⟨bt, 0, none⟩) (a.length + 1) (a.length + 1)) ∧ Evo w0 w' [] ∧ Tab w' w0.heap.size bt 23 3 1 (a.length + 1) (b.length + 1) 0 rb (tabE a b) := by
 refine calls_enter (n := 131) (args := [.slice aoa a.length capa, .slice aob b.length capb]) Try.func102 rfl Try.ntmps102 rfl ?_
 have hV : Evo w0 w0 [] := Evo.refl _ _
 have ha0 := keepE ha
 have hbd_ha := ha.bd
 have hb0 := keepE hb
 have hbd_hb := hb.bd
 refine r_seq ?_
 refine r_region ?_
 refine r_op rfl rfl rfl (run_asg (v := .slice _ _ _) rfl (by exact rfl)) ?_
 refine r_nil ?_
 refine r_seq ?_
 refine r_region ?_
 refine r_op rfl rfl rfl (run_mv (v := .slice _ _ _) rfl (by exact rfl)) ?_
 refine r_op rfl rfl rfl (run_lenSl rfl (by exact rfl) Try.underlying63) ?_
 refine r_op rfl rfl rfl (run_add rfl (by exact rfl) (by exact rfl) (by omega) (by omega)) ?_
 refine r_make (len := (a.length + 1)) (zs := [_]) Try.underlying101 ty_23 (by exact rfl) rfl rfl (by exact rfl) (by exact rfl) (by omega) (by omega) (by omega) (by omega) ?_
 intro bt w1 hebt hEw1 hout hzbt
 have hs_w1 := (hEw1).size
 replace hV := evo_step0 hV hEw1
 replace ha := ha0 _ hV
 replace hb := hb0 _ hV
 refine r_op rfl rfl rfl (run_asg (v := .slice (some ⟨bt, 0, none⟩) _ _) rfl (by exact rfl)) ?_
 refine r_nil ?_
 refine r_seq ?_
 refine r_seq ?_
 refine r_region ?_
 refine r_op rfl rfl rfl (run_mv (v := .slice _ _ _) rfl (by exact rfl)) ?_
 refine r_op rfl rfl rfl (run_lenSl rfl (by exact rfl) Try.underlying63) ?_
 refine r_op rfl rfl rfl (run_asg (v := .int _ _) rfl (by exact rfl)) ?_
 refine r_nil ?_
 refine r_block ?_
 refine r_loop (α := Nat) [6, 7, 8, 9, 10, 11, 12, 13, 20, 21, 22, 23, 24, 25, 26, 27, 28, 29, 30, 31, 32, 33, 34, 35, 36, 37, 38, 39, 40, 41, 42, 43, 44, 45, 46, 47, 48, 49, 50, 51, 52, 53, 54, 55, 56, 57, 58, 59, 60, 61, 62, 63, 64, 65, 66, 67, 68, 69, 70, 71, 72, 73, 74, 75, 76, 77, 78, 79, 80, 81, 82, 83, 84, 85, 86, 87, 88, 89, 90, 91, 92, 93, 94, 95, 96, 97, 98, 99, 100, 101, 102, 103, 104, 105, 106, 107, 108, 109, 110, 111, 112, 113, 114, 115, 116, 117, 118, 119, 120, 121, 122, 123, 124, 125, 126, 127, 128, 129] (fun k g w => ∃ rb : Nat → Nat, g 6 = .int .i64 ((k : Int) - 1) ∧ k ≤ a.length + 1 ∧ Tab w w0.heap.size bt 23 3 1 (a.length + 1) (b.length + 1) k rb (tabE a b) ∧ w1.heap.size ≤ w.heap.size ∧ Evo w0 w []) (fun k => k) (a.length + 1) ?_ ?_
 ·refine ⟨(fun _ => 0), (congrArg (Value.int _) (by omega)), (by first | assumption | omega | (dsimp only; omega) | (simp; done)), (Tab.new hout (by omega) _ _), (by first | assumption | omega | (dsimp only; omega) | (simp; done)), hV⟩
 ·rintro k g w3 ⟨rb, hj4, hk, hT, hzl2, hV⟩
  have hs_w3hV := hV.size
  replace ha := ha0 _ hV
  replace hb := hb0 _ hV
  refine r_know (i := 6) (v := .int .i64 ((k : Int) - 1)) (by exact hj4) ?_
  refine r_seq ?_
  refine r_seq ?_
  refine r_region ?_
  refine r_op rfl rfl rfl (run_mv (v := .int _ _) rfl (by exact rfl)) ?_
  refine r_op rfl rfl rfl (run_geq rfl (by exact rfl) (by exact rfl)) ?_
  refine r_nil ?_
  refine r_cond (by exact rfl) (fun hc5 => ?_) (fun hc5 => ?_)
  ·skip
   refine r_skip ?_
   refine r_seq ?_
   refine r_block ?_
   refine r_seq ?_
   obtain ⟨i0, rfl⟩ : ∃ i0, k = i0 + 1 := ⟨k - 1, by omega⟩
   have hT_old := hT
   have hout := hT.out
   have hbtb := hT.base
   have hbtl := hT.out.lt
   have hB7 : Evo w3 w3 [bt] := Evo.refl _ _
   refine r_region ?_
   refine r_op rfl rfl rfl (run_mv (v := .slice (some ⟨bt, 0, none⟩) _ _) rfl (by exact rfl)) ?_
   refine r_op rfl rfl rfl (run_mv (v := .int _ _) rfl (by exact rfl)) ?_
   refine r_op rfl rfl rfl (run_mv (v := .slice _ _ _) rfl (by exact rfl)) ?_
   refine r_op rfl rfl rfl (run_lenSl rfl (by exact rfl) Try.underlying63) ?_
   refine r_op rfl rfl rfl (run_add rfl (by exact rfl) (by exact rfl) (by omega) (by omega)) ?_
   refine r_make (len := (b.length + 1)) (zs := [_]) Try.underlying23 ty_3 (by exact rfl) rfl rfl (by exact rfl) (by exact rfl) (by omega) (by omega) (by omega) (by omega) ?_
   intro br w6 hebr hEw6 hrow hzbr
   have hs_w6 := (hEw6).size
   replace hV := evo_step0 hV hEw6
   replace hB7 := evo_step0 hB7 hEw6
   replace ha := ha0 _ hV
   replace hb := hb0 _ hV
   replace hout := hout.evo0 hEw6
   refine r_op rfl rfl rfl (run_ix (i0) rfl Try.underlying101 ty_23 (by exact rfl) (by exact rfl) (by first | exact rfl | omega) (by omega) rfl) ?_
   refine r_storeF (v := .slice (some ⟨br, 0, none⟩) _ _) (vs := [_]) (i0) (by exact rfl) rfl (by exact rfl) hout (by omega) ty_23 (by exact rfl) rfl (by exact rfl) ?_
   intro w7 hEw7 hzw7 hb_new
   have hs_w7 := (hEw7).size
   replace hV := evo_step1 hV hEw7 (by first | exact .inl (by omega) | exact .inr (by simp))
   replace hB7 := evo_step1 hB7 hEw7 (by first | exact .inl (by omega) | exact .inr (by simp))
   replace ha := ha0 _ hV
   replace hb := hb0 _ hV
   replace hrow := hrow.evo hEw7 (by simp; omega)
   replace hout := hb_new
   clear hb_new
   refine r_nil ?_
   refine r_seq ?_
   have hT := dtab_add hT_old (by omega) (b' := br) (by omega) (by omega) hB7 hout hrow rfl
   obtain ⟨rb1, hrb1⟩ : ∃ r, r = (fun q => if q = i0 then br else rb q) := ⟨_, rfl⟩
   rw [← hrb1] at hT
   refine r_region ?_
   refine r_op rfl rfl rfl (run_mv (v := .slice _ _ _) rfl (by exact rfl)) ?_
   refine r_op rfl rfl rfl (run_lenSl rfl (by exact rfl) Try.underlying63) ?_
   refine r_op rfl rfl rfl (run_asg (v := .int _ _) rfl (by exact rfl)) ?_
   refine r_nil ?_
   refine r_block ?_
   refine r_loop (α := Nat) [7, 8, 9, 10, 11, 12, 13, 33, 34, 35, 36, 37, 38, 39, 40, 41, 42, 43, 44, 45, 46, 47, 48, 49, 50, 51, 52, 53, 54, 55, 56, 57, 58, 59, 60, 61, 62, 63, 64, 65, 66, 67, 68, 69, 70, 71, 72, 73, 74, 75, 76, 77, 78, 79, 80, 81, 82, 83, 84, 85, 86, 87, 88, 89, 90, 91, 92, 93, 94, 95, 96, 97, 98, 99, 100, 101, 102, 103, 104, 105, 106, 107, 108, 109, 110, 111, 112, 113, 114, 115, 116, 117, 118, 119, 120, 121, 122, 123, 124, 125, 126, 127, 128, 129] (fun q g w => g 7 = .int .i64 ((q : Int) - 1) ∧ q ≤ b.length + 1 ∧ Tab w w0.heap.size bt 23 3 1 (a.length + 1) (b.length + 1) i0 rb1 (tabD a b i0 q) ∧ w7.heap.size ≤ w.heap.size ∧ Evo w0 w []) (fun q => q) (b.length + 1) ?_ ?_
   ·refine ⟨(congrArg (Value.int _) (by omega)), (by first | assumption | omega | (dsimp only; omega) | (simp; done)), hT, (by first | assumption | omega | (dsimp only; omega) | (simp; done)), hV⟩
   ·rintro q g w9 ⟨hj10, hq, hT, hzl8, hV⟩
    have hs_w9hV := hV.size
    replace ha := ha0 _ hV
    replace hb := hb0 _ hV
    refine r_know (i := 7) (v := .int .i64 ((q : Int) - 1)) (by exact hj10) ?_
    refine r_seq ?_
    refine r_seq ?_
    refine r_region ?_
    refine r_op rfl rfl rfl (run_mv (v := .int _ _) rfl (by exact rfl)) ?_
    refine r_op rfl rfl rfl (run_geq rfl (by exact rfl) (by exact rfl)) ?_
    refine r_nil ?_
    refine r_cond (by exact rfl) (fun hc11 => ?_) (fun hc11 => ?_)
    ·skip
     refine r_skip ?_
     refine r_seq ?_
     refine r_block ?_
     refine r_seq ?_
     obtain ⟨j0, rfl⟩ : ∃ j0, q = j0 + 1 := ⟨q - 1, by omega⟩
     have hd1 := dT_bd a b (i0 + 1) (j0 + 1); have hd2 := dT_bd a b (i0 + 1) j0; have hd3 := dT_bd a b i0 (j0 + 1); have hcb := cost_bd (a.getD i0 default) (b.getD j0 default); have hax := alone_bd (a.getD i0 default); have hay := alone_bd (b.getD j0 default)
     have hqi := getD_text hqa i0; have hqj := getD_text hqb j0
     refine r_region ?_
     refine r_op rfl rfl rfl (run_asg (v := .int _ _) rfl (by exact rfl)) ?_
     refine r_op rfl rfl rfl (run_asg (v := .bool _) rfl (by exact rfl)) ?_
     refine r_nil ?_
     refine r_seq ?_
     refine r_seq ?_
     refine r_region ?_
     refine r_op rfl rfl rfl (run_mv (v := .int _ _) rfl (by exact rfl)) ?_
     refine r_op rfl rfl rfl (run_mv (v := .slice _ _ _) rfl (by exact rfl)) ?_
     refine r_op rfl rfl rfl (run_lenSl rfl (by exact rfl) Try.underlying63) ?_
     refine r_op rfl rfl rfl (run_lss rfl (by exact rfl) (by exact rfl)) ?_
     refine r_op rfl rfl rfl (run_mv (v := .bool _) rfl (by exact rfl)) ?_
     refine r_g rfl (wantT (by exact rfl)) rfl (fun hg => run_mv (v := .int _ _) rfl (by exact rfl)) ?_
     refine r_g rfl (wantT (by exact rfl)) rfl (fun hg => run_mv (v := .slice _ _ _) rfl (by exact rfl)) ?_
     refine r_g rfl (wantT (by exact rfl)) rfl (fun hg => run_lenSl rfl (glv (by exact rfl) (fun h => h) hg) Try.underlying63) ?_
     refine r_g rfl (wantT (by exact rfl)) rfl (fun hg => run_lss rfl (glv (by exact rfl) (fun h => h) hg) (glv (by exact rfl) (fun h => h) hg)) ?_
     refine r_op rfl rfl rfl (run_pick_and rfl (by exact rfl) (fun hq => glv (by exact rfl) (fun h => h) hq) rfl) ?_
     refine r_nil ?_
     refine r_cut [8, 9, 10, 11, 47, 48, 49, 50, 51, 52, 53, 54, 55, 56, 57, 58, 59, 60, 61, 62, 63, 64, 65, 66, 67, 68, 69, 70] (fun g w => g 8 = .int .i64 ((bst1 a b i0 j0).getD 0) ∧ g 9 = .bool (decide (bst1 a b i0 j0 ≠ none)) ∧ Tab w w0.heap.size bt 23 3 1 (a.length + 1) (b.length + 1) i0 rb1 (tabD a b i0 (j0 + 1)) ∧ w9.heap.size ≤ w.heap.size ∧ Evo w0 w []) ?_ ?_
     ·skip
      refine r_cond (by exact rfl) (fun hc13 => ?_) (fun hc13 => ?_)
      ·skip
       refine r_seq ?_
       refine r_qregion (by kernel_rfl) (by kernel_rfl) ?_
       refine q_op rfl rfl rfl (fun w' hC => run_mv (v := .slice _ _ _) rfl (by exact rfl)) ?_
       refine q_op rfl rfl rfl (fun w' hC => run_mv (v := .int _ _) rfl (by exact rfl)) ?_
       refine q_op rfl rfl rfl (fun w' hC => run_ix (i0) rfl Try.underlying63 ty_81 (by exact rfl) (by exact rfl) (by first | exact rfl | omega) (by omega) (ha.addr (i := i0) (by omega))) ?_
       have hA140 := fun (w' : World) (h : Evo w0 w' []) => (ha0 w' h).atD (i0) (by omega)
       have hA14 := hA140 _ hV
       refine q_op rfl rfl rfl (fun w' hC => run_ldN rfl ag_81 ty_81 (by exact rfl) rfl (hA14.evo0 hC)) ?_
       refine q_op rfl rfl rfl (fun w' hC => run_mv (v := .slice _ _ _) rfl (by exact rfl)) ?_
       refine q_op rfl rfl rfl (fun w' hC => run_mv (v := .int _ _) rfl (by exact rfl)) ?_
       refine q_op rfl rfl rfl (fun w' hC => run_ix (j0) rfl Try.underlying63 ty_81 (by exact rfl) (by exact rfl) (by first | exact rfl | omega) (by omega) (hb.addr (i := j0) (by omega))) ?_
       have hA150 := fun (w' : World) (h : Evo w0 w' []) => (hb0 w' h).atD (j0) (by omega)
       have hA15 := hA150 _ hV
       refine q_op rfl rfl rfl (fun w' hC => run_ldN rfl ag_81 ty_81 (by exact rfl) rfl (hA15.evo0 hC)) ?_
       refine q_call rfl rfl rfl (fun w' hC => run_callf rfl (argcons (v := .agg _) (by exact rfl) (argcons (v := .agg _) (by exact rfl) (rfl))) Try.func135 rfl (by kernel_rfl)) (fun w' hC => (rtcost_calls (x := (a.getD i0 default)) (y := (b.getD j0 default)) hqi hqj).mono (fun e w'' h => ⟨h.1, evo_step0 hC h.2⟩)) ?_
       refine q_op rfl rfl rfl (fun w' hC => run_mv (v := .tuple _) rfl (by exact rfl)) ?_
       refine q_op rfl rfl rfl (fun w' hC => run_extract (v := .int _ _) rfl (by exact rfl) (by exact rfl)) ?_
       refine q_op rfl rfl rfl (fun w' hC => run_extract (v := .bool _) rfl (by exact rfl) (by exact rfl)) ?_
       refine q_op rfl rfl rfl (fun w' hC => run_asg (v := .int _ _) rfl (by exact rfl)) ?_
       refine q_op rfl rfl rfl (fun w' hC => run_asg (v := .bool _) rfl (by exact rfl)) ?_
       refine q_nil (fun w16 hE17 => ?_)
       have hs_w16 := (hE17).size
       replace hV := evo_step0 hV hE17
       replace ha := ha0 _ hV
       replace hb := hb0 _ hV
       replace hT := hT.evo0 hE17
       refine r_seq ?_
       refine r_region ?_
       refine r_op rfl rfl rfl (run_mv (v := .bool _) rfl (by exact rfl)) ?_
       refine r_nil ?_
       refine r_cond (by exact rfl) (fun hc18 => ?_) (fun hc18 => ?_)
       ·skip
        refine r_region ?_
        refine r_op rfl rfl rfl (run_mv (v := .int _ _) rfl (by exact rfl)) ?_
        refine r_op rfl rfl rfl (run_mv (v := .slice (some ⟨bt, 0, none⟩) _ _) rfl (by exact rfl)) ?_
        refine r_op rfl rfl rfl (run_mv (v := .int _ _) rfl (by exact rfl)) ?_
        refine r_op rfl rfl rfl (run_add rfl (by exact rfl) (by exact rfl) (by omega) (by omega)) ?_
        refine r_op rfl rfl rfl (run_ix ((i0 + 1)) rfl Try.underlying101 ty_23 (by exact rfl) (by exact rfl) (by first | exact rfl | omega) (by omega) rfl) ?_
        refine r_op rfl rfl rfl (run_ld1 rfl ag_23 (by exact rfl) (hT.load (i0 + 1) (by omega) (by omega))) ?_
        refine r_op rfl rfl rfl (run_mv (v := .int _ _) rfl (by exact rfl)) ?_
        refine r_op rfl rfl rfl (run_add rfl (by exact rfl) (by exact rfl) (by omega) (by omega)) ?_
        refine r_op rfl rfl rfl (run_ix ((j0 + 1)) rfl Try.underlying23 ty_3 (by exact rfl) (by exact rfl) (by first | exact rfl | omega) (by omega) rfl) ?_
        refine r_op rfl rfl rfl (run_ld1 rfl ag_3 (by exact rfl) (dtab_val hT (i0 + 1) (j0 + 1) (by omega) (by omega) (by omega) (by omega))) ?_
        refine r_op rfl rfl rfl (run_add rfl (by exact rfl) (by exact rfl) (by omega) (by omega)) ?_
        refine r_op rfl rfl rfl (run_asg (v := .int _ _) rfl (by exact rfl)) ?_
        refine r_op rfl rfl rfl (run_asg (v := .bool _) rfl (by exact rfl)) ?_
        refine r_nil ?_
        refine r_cut_end ?_ ?_
        ·refine ⟨(congrArg (Value.int _) (by first | (rw [bst1_yes ⟨⟨by omega, by omega⟩, hc18⟩]; done) | (rw [bst1_yes ⟨⟨by omega, by omega⟩, hc18⟩]; rfl) | (rw [bst1_no (fun q => hc18 q.2)]; done) | (rw [bst1_no (fun q => hc18 q.2)]; rfl) | (rw [bst1_no (fun q => hc18 ⟨by omega, by omega⟩)]; done) | (rw [bst1_no (fun q => hc18 ⟨by omega, by omega⟩)]; rfl))), (congrArg Value.bool (by first | (rw [bst1_yes ⟨⟨by omega, by omega⟩, hc18⟩]; done) | (rw [bst1_yes ⟨⟨by omega, by omega⟩, hc18⟩]; simp; done) | (rw [bst1_no (fun q => hc18 q.2)]; done) | (rw [bst1_no (fun q => hc18 q.2)]; simp; done) | (rw [bst1_no (fun q => hc18 ⟨by omega, by omega⟩)]; done) | (rw [bst1_no (fun q => hc18 ⟨by omega, by omega⟩)]; simp; done))), hT, (by first | assumption | omega | (dsimp only; omega) | (simp; done)), hV⟩
        ·repeat (first | (with_reducible exact Agree.merge _ _ _) | (with_reducible exact Agree.refl _ _) | (with_reducible refine Agree.upd ?_ _ _ rfl) | ((with_reducible refine Agree.inner ?_ ?_); (kernel_rfl)))
       ·skip
        refine r_skip ?_
        refine r_cut_end ?_ ?_
        ·refine ⟨(congrArg (Value.int _) (by first | (rw [bst1_yes ⟨⟨by omega, by omega⟩, hc18⟩]; done) | (rw [bst1_yes ⟨⟨by omega, by omega⟩, hc18⟩]; rfl) | (rw [bst1_no (fun q => hc18 q.2)]; done) | (rw [bst1_no (fun q => hc18 q.2)]; rfl) | (rw [bst1_no (fun q => hc18 ⟨by omega, by omega⟩)]; done) | (rw [bst1_no (fun q => hc18 ⟨by omega, by omega⟩)]; rfl))), (congrArg Value.bool (by first | (rw [bst1_yes ⟨⟨by omega, by omega⟩, hc18⟩]; done) | (rw [bst1_yes ⟨⟨by omega, by omega⟩, hc18⟩]; simp; done) | (rw [bst1_no (fun q => hc18 q.2)]; done) | (rw [bst1_no (fun q => hc18 q.2)]; simp; done) | (rw [bst1_no (fun q => hc18 ⟨by omega, by omega⟩)]; done) | (rw [bst1_no (fun q => hc18 ⟨by omega, by omega⟩)]; simp; done))), hT, (by first | assumption | omega | (dsimp only; omega) | (simp; done)), hV⟩
        ·repeat (first | (with_reducible exact Agree.merge _ _ _) | (with_reducible exact Agree.refl _ _) | (with_reducible refine Agree.upd ?_ _ _ rfl) | ((with_reducible refine Agree.inner ?_ ?_); (kernel_rfl)))
      ·skip
       refine r_skip ?_
       refine r_cut_end ?_ ?_
       ·refine ⟨(congrArg (Value.int _) (by first | (rw [bst1_yes ⟨⟨by omega, by omega⟩, hc13⟩]; done) | (rw [bst1_yes ⟨⟨by omega, by omega⟩, hc13⟩]; rfl) | (rw [bst1_no (fun q => hc13 q.2)]; done) | (rw [bst1_no (fun q => hc13 q.2)]; rfl) | (rw [bst1_no (fun q => hc13 ⟨by omega, by omega⟩)]; done) | (rw [bst1_no (fun q => hc13 ⟨by omega, by omega⟩)]; rfl))), (congrArg Value.bool (by first | (rw [bst1_yes ⟨⟨by omega, by omega⟩, hc13⟩]; done) | (rw [bst1_yes ⟨⟨by omega, by omega⟩, hc13⟩]; simp; done) | (rw [bst1_no (fun q => hc13 q.2)]; done) | (rw [bst1_no (fun q => hc13 q.2)]; simp; done) | (rw [bst1_no (fun q => hc13 ⟨by omega, by omega⟩)]; done) | (rw [bst1_no (fun q => hc13 ⟨by omega, by omega⟩)]; simp; done))), hT, (by first | assumption | omega | (dsimp only; omega) | (simp; done)), hV⟩
       ·repeat (first | (with_reducible exact Agree.merge _ _ _) | (with_reducible exact Agree.refl _ _) | (with_reducible refine Agree.upd ?_ _ _ rfl) | ((with_reducible refine Agree.inner ?_ ?_); (kernel_rfl)))
     ·rintro g w19 ⟨hj20, hj21, hT, hzl12, hV⟩
      have hs_w19hV := hV.size
      replace ha := ha0 _ hV
      replace hb := hb0 _ hV
      refine r_know (i := 8) (v := .int .i64 ((bst1 a b i0 j0).getD 0)) (by exact hj20) ?_
      refine r_know (i := 9) (v := .bool (decide (bst1 a b i0 j0 ≠ none))) (by exact hj21) ?_
      refine r_seq ?_
      refine r_seq ?_
      refine r_region ?_
      refine r_op rfl rfl rfl (run_mv (v := .int _ _) rfl (by exact rfl)) ?_
      refine r_op rfl rfl rfl (run_mv (v := .slice _ _ _) rfl (by exact rfl)) ?_
      refine r_op rfl rfl rfl (run_lenSl rfl (by exact rfl) Try.underlying63) ?_
      refine r_op rfl rfl rfl (run_lss rfl (by exact rfl) (by exact rfl)) ?_
      refine r_nil ?_
      refine r_cut [8, 9, 12, 75, 76, 77, 78, 79, 80, 81, 82, 83, 84, 85, 86, 87, 88, 89, 90, 91, 92, 93, 94, 95, 96] (fun g w => g 8 = .int .i64 ((bst2 a b i0 j0).getD 0) ∧ g 9 = .bool (decide (bst2 a b i0 j0 ≠ none)) ∧ Tab w w0.heap.size bt 23 3 1 (a.length + 1) (b.length + 1) i0 rb1 (tabD a b i0 (j0 + 1)) ∧ w19.heap.size ≤ w.heap.size ∧ Evo w0 w []) ?_ ?_
      ·skip
       refine r_cond (by exact rfl) (fun hc23 => ?_) (fun hc23 => ?_)
       ·skip
        refine r_seq ?_
        refine r_qregion (by kernel_rfl) (by kernel_rfl) ?_
        refine q_op rfl rfl rfl (fun w' hC => run_mv (v := .slice _ _ _) rfl (by exact rfl)) ?_
        refine q_op rfl rfl rfl (fun w' hC => run_mv (v := .int _ _) rfl (by exact rfl)) ?_
        refine q_op rfl rfl rfl (fun w' hC => run_ix (i0) rfl Try.underlying63 ty_81 (by exact rfl) (by exact rfl) (by first | exact rfl | omega) (by omega) (ha.addr (i := i0) (by omega))) ?_
        have hA240 := fun (w' : World) (h : Evo w0 w' []) => (ha0 w' h).atD (i0) (by omega)
        have hA24 := hA240 _ hV
        refine q_op rfl rfl rfl (fun w' hC => run_ldN rfl ag_81 ty_81 (by exact rfl) rfl (hA24.evo0 hC)) ?_
        refine q_call rfl rfl rfl (fun w' hC => run_callf rfl (argcons (v := .agg _) (by exact rfl) (rfl)) Try.func136 rfl (by kernel_rfl)) (fun w' hC => (ralone_calls (x := (a.getD i0 default))).mono (fun e w'' h => ⟨h.1, evo_step0 hC h.2⟩)) ?_
        refine q_op rfl rfl rfl (fun w' hC => run_mv (v := .slice (some ⟨bt, 0, none⟩) _ _) rfl (by exact rfl)) ?_
        refine q_op rfl rfl rfl (fun w' hC => run_mv (v := .int _ _) rfl (by exact rfl)) ?_
        refine q_op rfl rfl rfl (fun w' hC => run_add rfl (by exact rfl) (by exact rfl) (by omega) (by omega)) ?_
        refine q_op rfl rfl rfl (fun w' hC => run_ix ((i0 + 1)) rfl Try.underlying101 ty_23 (by exact rfl) (by exact rfl) (by first | exact rfl | omega) (by omega) rfl) ?_
        refine q_op rfl rfl rfl (fun w' hC => run_ld1 rfl ag_23 (by exact rfl) ((hT.evo0 hC).load (i0 + 1) (by omega) (by omega))) ?_
        refine q_op rfl rfl rfl (fun w' hC => run_mv (v := .int _ _) rfl (by exact rfl)) ?_
        refine q_op rfl rfl rfl (fun w' hC => run_ix (j0) rfl Try.underlying23 ty_3 (by exact rfl) (by exact rfl) (by first | exact rfl | omega) (by omega) rfl) ?_
        refine q_op rfl rfl rfl (fun w' hC => run_ld1 rfl ag_3 (by exact rfl) (dtab_val (hT.evo0 hC) (i0 + 1) j0 (by omega) (by omega) (by omega) (by omega))) ?_
        refine q_op rfl rfl rfl (fun w' hC => run_add rfl (by exact rfl) (by exact rfl) (by omega) (by omega)) ?_
        refine q_op rfl rfl rfl (fun w' hC => run_asg (v := .int _ _) rfl (by exact rfl)) ?_
        refine q_nil (fun w25 hE26 => ?_)
        have hs_w25 := (hE26).size
        replace hV := evo_step0 hV hE26
        replace ha := ha0 _ hV
        replace hb := hb0 _ hV
        replace hT := hT.evo0 hE26
        refine r_seq ?_
        refine r_region ?_
        refine r_op rfl rfl rfl (run_mvb rfl (by exact rfl)) ?_
        refine r_op rfl rfl rfl (run_not rfl (by exact rfl)) ?_
        refine r_op rfl rfl rfl (run_mv (v := .bool _) rfl (by exact rfl)) ?_
        refine r_g rfl (wantF (by exact rfl)) rfl (fun hg => run_mv (v := .int _ _) rfl (by exact rfl)) ?_
        refine r_g rfl (wantF (by exact rfl)) rfl (fun hg => run_mv (v := .int _ _) rfl (by exact rfl)) ?_
        refine r_g rfl (wantF (by exact rfl)) rfl (fun hg => run_lss rfl (glv (by exact rfl) (fun h => h) hg) (glv (by exact rfl) (fun h => h) hg)) ?_
        refine r_op rfl rfl rfl (run_pick_or rfl (by exact rfl) rfl (fun hq => glv (by exact rfl) (fun h => h) hq)) ?_
        refine r_nil ?_
        refine r_cond (by exact rfl) (fun hc27 => ?_) (fun hc27 => ?_)
        ·skip
         refine r_region ?_
         refine r_op rfl rfl rfl (run_mv (v := .int _ _) rfl (by exact rfl)) ?_
         refine r_op rfl rfl rfl (run_asg (v := .int _ _) rfl (by exact rfl)) ?_
         refine r_op rfl rfl rfl (run_asg (v := .bool _) rfl (by exact rfl)) ?_
         refine r_nil ?_
         refine r_cut_end ?_ ?_
         ·refine ⟨(congrArg (Value.int _) (by first | (rw [bst2_take (by omega) (any_or hc27)]; done) | (rw [bst2_take (by omega) (any_or hc27)]; rfl) | (rw [bst2_keep (any_nor hc27)]; done) | (rw [bst2_keep (any_nor hc27)]; rfl) | (rw [bst2_out (by omega)]; done) | (rw [bst2_out (by omega)]; rfl))), (congrArg Value.bool (by first | (rw [bst2_take (by omega) (any_or hc27)]; done) | (rw [bst2_take (by omega) (any_or hc27)]; simp; done) | (rw [bst2_keep (any_nor hc27)]; done) | (rw [bst2_keep (any_nor hc27)]; simp; done) | (rw [bst2_out (by omega)]; done) | (rw [bst2_out (by omega)]; simp; done))), hT, (by first | assumption | omega | (dsimp only; omega) | (simp; done)), hV⟩
         ·repeat (first | (with_reducible exact Agree.merge _ _ _) | (with_reducible exact Agree.refl _ _) | (with_reducible refine Agree.upd ?_ _ _ rfl) | ((with_reducible refine Agree.inner ?_ ?_); (kernel_rfl)))
        ·skip
         refine r_skip ?_
         refine r_cut_end ?_ ?_
         ·refine ⟨(congrArg (Value.int _) (by first | (rw [bst2_take (by omega) (any_or hc27)]; done) | (rw [bst2_take (by omega) (any_or hc27)]; rfl) | (rw [bst2_keep (any_nor hc27)]; done) | (rw [bst2_keep (any_nor hc27)]; rfl) | (rw [bst2_out (by omega)]; done) | (rw [bst2_out (by omega)]; rfl))), (congrArg Value.bool (by first | (rw [bst2_take (by omega) (any_or hc27)]; done) | (rw [bst2_take (by omega) (any_or hc27)]; simp; done) | (rw [bst2_keep (any_nor hc27)]; done) | (rw [bst2_keep (any_nor hc27)]; simp; done) | (rw [bst2_out (by omega)]; done) | (rw [bst2_out (by omega)]; simp; done))), hT, (by first | assumption | omega | (dsimp only; omega) | (simp; done)), hV⟩
         ·repeat (first | (with_reducible exact Agree.merge _ _ _) | (with_reducible exact Agree.refl _ _) | (with_reducible refine Agree.upd ?_ _ _ rfl) | ((with_reducible refine Agree.inner ?_ ?_); (kernel_rfl)))
       ·skip
        refine r_skip ?_
        refine r_cut_end ?_ ?_
        ·refine ⟨(congrArg (Value.int _) (by first | (rw [bst2_take (by omega) (any_or hc23)]; done) | (rw [bst2_take (by omega) (any_or hc23)]; rfl) | (rw [bst2_keep (any_nor hc23)]; done) | (rw [bst2_keep (any_nor hc23)]; rfl) | (rw [bst2_out (by omega)]; done) | (rw [bst2_out (by omega)]; rfl))), (congrArg Value.bool (by first | (rw [bst2_take (by omega) (any_or hc23)]; done) | (rw [bst2_take (by omega) (any_or hc23)]; simp; done) | (rw [bst2_keep (any_nor hc23)]; done) | (rw [bst2_keep (any_nor hc23)]; simp; done) | (rw [bst2_out (by omega)]; done) | (rw [bst2_out (by omega)]; simp; done))), hT, (by first | assumption | omega | (dsimp only; omega) | (simp; done)), hV⟩
        ·repeat (first | (with_reducible exact Agree.merge _ _ _) | (with_reducible exact Agree.refl _ _) | (with_reducible refine Agree.upd ?_ _ _ rfl) | ((with_reducible refine Agree.inner ?_ ?_); (kernel_rfl)))
      ·rintro g w28 ⟨hj29, hj30, hT, hzl22, hV⟩
       have hs_w28hV := hV.size
       replace ha := ha0 _ hV
       replace hb := hb0 _ hV
       refine r_know (i := 8) (v := .int .i64 ((bst2 a b i0 j0).getD 0)) (by exact hj29) ?_
       refine r_know (i := 9) (v := .bool (decide (bst2 a b i0 j0 ≠ none))) (by exact hj30) ?_
       refine r_seq ?_
       refine r_seq ?_
       refine r_region ?_
       refine r_op rfl rfl rfl (run_mv (v := .int _ _) rfl (by exact rfl)) ?_
       refine r_op rfl rfl rfl (run_mv (v := .slice _ _ _) rfl (by exact rfl)) ?_
       refine r_op rfl rfl rfl (run_lenSl rfl (by exact rfl) Try.underlying63) ?_
       refine r_op rfl rfl rfl (run_lss rfl (by exact rfl) (by exact rfl)) ?_
       refine r_nil ?_
       refine r_cut [8, 9, 13, 101, 102, 103, 104, 105, 106, 107, 108, 109, 110, 111, 112, 113, 114, 115, 116, 117, 118, 119, 120, 121, 122] (fun g w => g 8 = .int .i64 ((bst3 a b i0 j0).getD 0) ∧ g 9 = .bool (decide (bst3 a b i0 j0 ≠ none)) ∧ Tab w w0.heap.size bt 23 3 1 (a.length + 1) (b.length + 1) i0 rb1 (tabD a b i0 (j0 + 1)) ∧ w28.heap.size ≤ w.heap.size ∧ Evo w0 w []) ?_ ?_
       ·skip
        refine r_cond (by exact rfl) (fun hc32 => ?_) (fun hc32 => ?_)
        ·skip
         refine r_seq ?_
         refine r_qregion (by kernel_rfl) (by kernel_rfl) ?_
         refine q_op rfl rfl rfl (fun w' hC => run_mv (v := .slice _ _ _) rfl (by exact rfl)) ?_
         refine q_op rfl rfl rfl (fun w' hC => run_mv (v := .int _ _) rfl (by exact rfl)) ?_
         refine q_op rfl rfl rfl (fun w' hC => run_ix (j0) rfl Try.underlying63 ty_81 (by exact rfl) (by exact rfl) (by first | exact rfl | omega) (by omega) (hb.addr (i := j0) (by omega))) ?_
         have hA330 := fun (w' : World) (h : Evo w0 w' []) => (hb0 w' h).atD (j0) (by omega)
         have hA33 := hA330 _ hV
         refine q_op rfl rfl rfl (fun w' hC => run_ldN rfl ag_81 ty_81 (by exact rfl) rfl (hA33.evo0 hC)) ?_
         refine q_call rfl rfl rfl (fun w' hC => run_callf rfl (argcons (v := .agg _) (by exact rfl) (rfl)) Try.func136 rfl (by kernel_rfl)) (fun w' hC => (ralone_calls (x := (b.getD j0 default))).mono (fun e w'' h => ⟨h.1, evo_step0 hC h.2⟩)) ?_
         refine q_op rfl rfl rfl (fun w' hC => run_mv (v := .slice (some ⟨bt, 0, none⟩) _ _) rfl (by exact rfl)) ?_
         refine q_op rfl rfl rfl (fun w' hC => run_mv (v := .int _ _) rfl (by exact rfl)) ?_
         refine q_op rfl rfl rfl (fun w' hC => run_ix (i0) rfl Try.underlying101 ty_23 (by exact rfl) (by exact rfl) (by first | exact rfl | omega) (by omega) rfl) ?_
         refine q_op rfl rfl rfl (fun w' hC => run_ld1 rfl ag_23 (by exact rfl) ((hT.evo0 hC).load i0 (by omega) (by omega))) ?_
         refine q_op rfl rfl rfl (fun w' hC => run_mv (v := .int _ _) rfl (by exact rfl)) ?_
         refine q_op rfl rfl rfl (fun w' hC => run_add rfl (by exact rfl) (by exact rfl) (by omega) (by omega)) ?_
         refine q_op rfl rfl rfl (fun w' hC => run_ix ((j0 + 1)) rfl Try.underlying23 ty_3 (by exact rfl) (by exact rfl) (by first | exact rfl | omega) (by omega) rfl) ?_
         refine q_op rfl rfl rfl (fun w' hC => run_ld1 rfl ag_3 (by exact rfl) (dtab_val (hT.evo0 hC) i0 (j0 + 1) (by omega) (by omega) (by omega) (by omega))) ?_
         refine q_op rfl rfl rfl (fun w' hC => run_add rfl (by exact rfl) (by exact rfl) (by omega) (by omega)) ?_
         refine q_op rfl rfl rfl (fun w' hC => run_asg (v := .int _ _) rfl (by exact rfl)) ?_
         refine q_nil (fun w34 hE35 => ?_)
         have hs_w34 := (hE35).size
         replace hV := evo_step0 hV hE35
         replace ha := ha0 _ hV
         replace hb := hb0 _ hV
         replace hT := hT.evo0 hE35
         refine r_seq ?_
         refine r_region ?_
         refine r_op rfl rfl rfl (run_mvb rfl (by exact rfl)) ?_
         refine r_op rfl rfl rfl (run_not rfl (by exact rfl)) ?_
         refine r_op rfl rfl rfl (run_mv (v := .bool _) rfl (by exact rfl)) ?_
         refine r_g rfl (wantF (by exact rfl)) rfl (fun hg => run_mv (v := .int _ _) rfl (by exact rfl)) ?_
         refine r_g rfl (wantF (by exact rfl)) rfl (fun hg => run_mv (v := .int _ _) rfl (by exact rfl)) ?_
         refine r_g rfl (wantF (by exact rfl)) rfl (fun hg => run_lss rfl (glv (by exact rfl) (fun h => h) hg) (glv (by exact rfl) (fun h => h) hg)) ?_
         refine r_op rfl rfl rfl (run_pick_or rfl (by exact rfl) rfl (fun hq => glv (by exact rfl) (fun h => h) hq)) ?_
         refine r_nil ?_
         refine r_cond (by exact rfl) (fun hc36 => ?_) (fun hc36 => ?_)
         ·skip
          refine r_region ?_
          refine r_op rfl rfl rfl (run_mv (v := .int _ _) rfl (by exact rfl)) ?_
          refine r_op rfl rfl rfl (run_asg (v := .int _ _) rfl (by exact rfl)) ?_
          refine r_op rfl rfl rfl (run_asg (v := .bool _) rfl (by exact rfl)) ?_
          refine r_nil ?_
          refine r_cut_end ?_ ?_
          ·refine ⟨(congrArg (Value.int _) (by first | (rw [bst3_take (by omega) (any_or hc36)]; done) | (rw [bst3_take (by omega) (any_or hc36)]; rfl) | (rw [bst3_keep (any_nor hc36)]; done) | (rw [bst3_keep (any_nor hc36)]; rfl) | (rw [bst3_out (by omega)]; done) | (rw [bst3_out (by omega)]; rfl))), (congrArg Value.bool (by first | (rw [bst3_take (by omega) (any_or hc36)]; done) | (rw [bst3_take (by omega) (any_or hc36)]; simp; done) | (rw [bst3_keep (any_nor hc36)]; done) | (rw [bst3_keep (any_nor hc36)]; simp; done) | (rw [bst3_out (by omega)]; done) | (rw [bst3_out (by omega)]; simp; done))), hT, (by first | assumption | omega | (dsimp only; omega) | (simp; done)), hV⟩
          ·repeat (first | (with_reducible exact Agree.merge _ _ _) | (with_reducible exact Agree.refl _ _) | (with_reducible refine Agree.upd ?_ _ _ rfl) | ((with_reducible refine Agree.inner ?_ ?_); (kernel_rfl)))
         ·skip
          refine r_skip ?_
          refine r_cut_end ?_ ?_
          ·refine ⟨(congrArg (Value.int _) (by first | (rw [bst3_take (by omega) (any_or hc36)]; done) | (rw [bst3_take (by omega) (any_or hc36)]; rfl) | (rw [bst3_keep (any_nor hc36)]; done) | (rw [bst3_keep (any_nor hc36)]; rfl) | (rw [bst3_out (by omega)]; done) | (rw [bst3_out (by omega)]; rfl))), (congrArg Value.bool (by first | (rw [bst3_take (by omega) (any_or hc36)]; done) | (rw [bst3_take (by omega) (any_or hc36)]; simp; done) | (rw [bst3_keep (any_nor hc36)]; done) | (rw [bst3_keep (any_nor hc36)]; simp; done) | (rw [bst3_out (by omega)]; done) | (rw [bst3_out (by omega)]; simp; done))), hT, (by first | assumption | omega | (dsimp only; omega) | (simp; done)), hV⟩
          ·repeat (first | (with_reducible exact Agree.merge _ _ _) | (with_reducible exact Agree.refl _ _) | (with_reducible refine Agree.upd ?_ _ _ rfl) | ((with_reducible refine Agree.inner ?_ ?_); (kernel_rfl)))
        ·skip
         refine r_skip ?_
         refine r_cut_end ?_ ?_
         ·refine ⟨(congrArg (Value.int _) (by first | (rw [bst3_take (by omega) (any_or hc32)]; done) | (rw [bst3_take (by omega) (any_or hc32)]; rfl) | (rw [bst3_keep (any_nor hc32)]; done) | (rw [bst3_keep (any_nor hc32)]; rfl) | (rw [bst3_out (by omega)]; done) | (rw [bst3_out (by omega)]; rfl))), (congrArg Value.bool (by first | (rw [bst3_take (by omega) (any_or hc32)]; done) | (rw [bst3_take (by omega) (any_or hc32)]; simp; done) | (rw [bst3_keep (any_nor hc32)]; done) | (rw [bst3_keep (any_nor hc32)]; simp; done) | (rw [bst3_out (by omega)]; done) | (rw [bst3_out (by omega)]; simp; done))), hT, (by first | assumption | omega | (dsimp only; omega) | (simp; done)), hV⟩
         ·repeat (first | (with_reducible exact Agree.merge _ _ _) | (with_reducible exact Agree.refl _ _) | (with_reducible refine Agree.upd ?_ _ _ rfl) | ((with_reducible refine Agree.inner ?_ ?_); (kernel_rfl)))
       ·rintro g w37 ⟨hj38, hj39, hT, hzl31, hV⟩
        have hs_w37hV := hV.size
        replace ha := ha0 _ hV
        replace hb := hb0 _ hV
        refine r_know (i := 8) (v := .int .i64 ((bst3 a b i0 j0).getD 0)) (by exact hj38) ?_
        refine r_know (i := 9) (v := .bool (decide (bst3 a b i0 j0 ≠ none))) (by exact hj39) ?_
        have hcur := hT.row i0 (Nat.le_refl _) (by omega)
        have hob := (hT.old i0 (Nat.le_refl _) (by omega)).1
        have hnb := (hT.old i0 (Nat.le_refl _) (by omega)).2
        have hT_old := hT
        have hTq := hT.out
        refine r_region ?_
        refine r_op rfl rfl rfl (run_mv (v := .slice (some ⟨bt, 0, none⟩) _ _) rfl (by exact rfl)) ?_
        refine r_op rfl rfl rfl (run_mv (v := .int _ _) rfl (by exact rfl)) ?_
        refine r_op rfl rfl rfl (run_ix (i0) rfl Try.underlying101 ty_23 (by exact rfl) (by exact rfl) (by first | exact rfl | omega) (by omega) rfl) ?_
        refine r_op rfl rfl rfl (run_ld1 rfl ag_23 (by exact rfl) (hTq.cell0 (x := i0) (by omega) (rowsC_at (Nat.le_refl _)))) ?_
        refine r_op rfl rfl rfl (run_mv (v := .int _ _) rfl (by exact rfl)) ?_
        refine r_op rfl rfl rfl (run_mv (v := .int _ _) rfl (by exact rfl)) ?_
        refine r_op rfl rfl rfl (run_ix (j0) rfl Try.underlying23 ty_3 (by exact rfl) (by exact rfl) (by first | exact rfl | omega) (by omega) rfl) ?_
        refine r_storeF (v := .int _ _) (vs := [_]) (j0) (by exact rfl) rfl (by exact rfl) hcur (by omega) ty_3 (by exact rfl) rfl (by exact rfl) ?_
        intro w40 hEw40 hzw40 hb_new
        have hs_w40 := (hEw40).size
        replace hV := evo_step1 hV hEw40 (by first | exact .inl (by omega) | exact .inr (by simp))
        replace ha := ha0 _ hV
        replace hb := hb0 _ hV
        replace hcur := hb_new
        clear hb_new
        refine r_nil ?_
        refine r_blk ?_
        refine r_region ?_
        refine r_op rfl rfl rfl (run_mv (v := .int _ _) rfl (by exact rfl)) ?_
        refine r_op rfl rfl rfl (run_sub rfl (by exact rfl) (by exact rfl) (by omega) (by omega)) ?_
        refine r_op rfl rfl rfl (run_asg (v := .int _ _) rfl (by exact rfl)) ?_
        refine r_nil ?_
        refine r_again j0 ?_ ?_ ?_
        ·first | omega | (dsimp only; omega)
        ·refine ⟨(congrArg (Value.int _) (by omega)), (by first | assumption | omega | (dsimp only; omega) | (simp; done)), (dtab_done hT_old (by omega) (by assumption) hcur (congrArg (fun z => [Value.int .i64 z]) (bst3_eq (by omega) (by omega)))), (by first | assumption | omega | (dsimp only; omega) | (simp; done)), hV⟩
        ·repeat (first | (with_reducible exact Agree.merge _ _ _) | (with_reducible exact Agree.refl _ _) | (with_reducible refine Agree.upd ?_ _ _ rfl) | ((with_reducible refine Agree.inner ?_ ?_); (kernel_rfl)))
    ·skip
     refine r_exit rfl ?_
     refine r_blk ?_
     refine r_region ?_
     refine r_op rfl rfl rfl (run_mv (v := .int _ _) rfl (by exact rfl)) ?_
     refine r_op rfl rfl rfl (run_sub rfl (by exact rfl) (by exact rfl) (by omega) (by omega)) ?_
     refine r_op rfl rfl rfl (run_asg (v := .int _ _) rfl (by exact rfl)) ?_
     refine r_nil ?_
     refine r_again i0 ?_ ?_ ?_
     ·first | omega | (dsimp only; omega)
     ·refine ⟨rb1, (congrArg (Value.int _) (by omega)), (by first | assumption | omega | (dsimp only; omega) | (simp; done)), (by have hq0 : q = 0 := (by omega); subst hq0; exact dtab_full hT), (by first | assumption | omega | (dsimp only; omega) | (simp; done)), hV⟩
     ·repeat (first | (with_reducible exact Agree.merge _ _ _) | (with_reducible exact Agree.refl _ _) | (with_reducible refine Agree.upd ?_ _ _ rfl) | ((with_reducible refine Agree.inner ?_ ?_); (kernel_rfl)))
  ·skip
   refine r_exit rfl ?_
   refine r_seq ?_
   refine r_region ?_
   refine r_op rfl rfl rfl (run_mv (v := .slice (some ⟨bt, 0, none⟩) _ _) rfl (by exact rfl)) ?_
   refine r_op rfl rfl rfl (run_asg (v := .slice (some ⟨bt, 0, none⟩) _ _) rfl (by exact rfl)) ?_
   refine r_nil ?_
   refine r_ret (res1 (v := .slice (some ⟨bt, 0, none⟩) _ _) rfl (by exact rfl)) ?_
   exact ⟨_, _, rfl, hV, by rw [show k = 0 by omega] at hT; exact hT⟩

end Go.Proofs.Ytomklacppmaljaa

namespace Go.Proofs.Ytomklacppmaljaa
open Go.RowKit Go.Vc

set_option maxHeartbeats 1000000 in
theorem rdistance_calls {aoa aob : Option Addr} {ba offa capa bb offb capb : Nat} {a b : List Vc.Item} {w0 : World} (ha : RowE w0 aoa ba offa capa a) (hb : RowE w0 aob bb offb capb b) (hqa : ∀ x ∈ a, x.text.length ≤ 140737488355328) (hqb : ∀ x ∈ b, x.text.length ≤ 140737488355328) (hsa : a.length ≤ 10000) (hsb : b.length ≤ 10000) :
    Calls Try.prog 58 #[.slice aoa a.length capa, .slice aob b.length capb] w0 fun e w' => e = .returned (.int .i64 (distL a b)) ∧ Evo w0 w' [] := by
 refine calls_enter (n := 17) (args := [.slice aoa a.length capa, .slice aob b.length capb]) Try.func58 rfl Try.ntmps58 rfl ?_
 have hV : Evo w0 w0 [] := Evo.refl _ _
 have ha0 := keepE ha
 have hbd_ha := ha.bd
 have hb0 := keepE hb
 have hbd_hb := hb.bd
 refine r_seq ?_
 refine r_region ?_
 refine r_op rfl rfl rfl (run_asg (v := .int _ _) rfl (by exact rfl)) ?_
 refine r_nil ?_
 refine r_seq ?_
 have hd0 := dT_bd a b 0 0; have hs0 := sur_bd a b (by omega) (by omega)
 have hV_q := hV
 refine h_region ([]) (by kernel_rfl) ?_
 intro w1 hE2 hC3
 have hs_w1 := (hE2).size
 replace hV := evo_step0 hV hE2
 replace ha := ha0 _ hV
 replace hb := hb0 _ hV
 refine h_take (i := 0) (by exact rfl) rfl rfl rfl (by kernel_rfl) (fun w' hC => run_mv (v := .slice _ _ _) rfl (by exact rfl)) hC3 ?_
 refine h_take (i := 1) (by exact rfl) rfl rfl rfl (by kernel_rfl) (fun w' hC => run_mv (v := .slice _ _ _) rfl (by exact rfl)) hC3 ?_
 refine h_take (i := 7) (by exact rfl) rfl rfl rfl (by kernel_rfl) (fun w' hC => run_mv (v := .slice _ _ _) rfl (by exact rfl)) hC3 ?_
 refine h_take (i := 8) (by exact rfl) rfl rfl rfl (by kernel_rfl) (fun w' hC => run_mv (v := .slice _ _ _) rfl (by exact rfl)) hC3 ?_
 refine h_one (i := 2) (by kernel_rfl) ?_
 refine h_do (by exact rfl) ?_
 refine r_opcall rfl rfl rfl (run_callf (vs := [.slice _ _ _, .slice _ _ _]) rfl (by exact rfl) Try.func102 rfl (by kernel_rfl)) (rtable_calls ha hb hqa hqb (by omega) (by omega)) ?_
 rintro e w4 ⟨bt4, rb4, rfl, hE4, hT4⟩
 refine ⟨_, rfl, ?_⟩
 have hs_w4 := (hE4).size
 replace hV := evo_step0 hV hE4
 replace hC3 := evo_step0 hC3 hE4
 replace ha := ha0 _ hV
 replace hb := hb0 _ hV
 refine h_next hC3 ?_
 refine h_take (i := 3) (by exact rfl) rfl rfl rfl (by kernel_rfl) (fun w' hC => run_ix (0) rfl Try.underlying101 ty_23 (by exact rfl) (by exact rfl) (by first | exact rfl | omega) (by omega) rfl) hC3 ?_
 refine h_two (i := 4) (j := 9) (by kernel_rfl) ?_ ?_
 ·skip
  refine h_do (by exact rfl) ?_
  refine r_op rfl rfl rfl (run_ld1 rfl ag_23 (by exact rfl) (hT4.load 0 (by omega) (by omega))) ?_
  refine h_next hC3 ?_
  refine h_take (i := 5) (by exact rfl) rfl rfl rfl (by kernel_rfl) (fun w' hC => run_ix (0) rfl Try.underlying23 ty_3 (by exact rfl) (by exact rfl) (by first | exact rfl | omega) (by omega) rfl) hC3 ?_
  refine h_two (i := 6) (j := 9) (by kernel_rfl) ?_ ?_
  ·skip
   refine h_do (by exact rfl) ?_
   refine r_op rfl rfl rfl (run_ld1 rfl ag_3 (by exact rfl) (dtab_valF hT4 0 0 (by omega) (by omega) (by omega))) ?_
   refine h_next hC3 ?_
   refine h_one (i := 9) (by kernel_rfl) ?_
   refine h_do (by exact rfl) ?_
   refine r_opcall rfl rfl rfl (run_callf (vs := [.slice _ _ _, .slice _ _ _]) rfl (by exact rfl) Try.func101 rfl (by kernel_rfl)) (rsurplus_calls ha hb (by omega) (by omega)) ?_
   rintro e w5 ⟨rfl, hE5⟩
   refine ⟨_, rfl, ?_⟩
   have hs_w5 := (hE5).size
   replace hV := evo_step0 hV hE5
   replace hC3 := evo_step0 hC3 hE5
   replace ha := ha0 _ hV
   replace hb := hb0 _ hV
   replace hT4 := hT4.evo0 hE5
   refine h_next hC3 ?_
   refine h_take (i := 10) (by exact rfl) rfl rfl rfl (by kernel_rfl) (fun w' hC => run_mul rfl (by exact rfl) (by exact rfl) (by omega) (by omega)) hC3 ?_
   refine h_take (i := 11) (by exact rfl) rfl rfl rfl (by kernel_rfl) (fun w' hC => run_add rfl (by exact rfl) (by exact rfl) (by omega) (by omega)) hC3 ?_
   refine h_take (i := 12) (by exact rfl) rfl rfl rfl (by kernel_rfl) (fun w' hC => run_asg (v := .int _ _) rfl (by exact rfl)) hC3 ?_
   refine h_done (by kernel_rfl) ?_
   refine r_ret (res1 (v := .int _ _) rfl (by exact rfl)) ?_
   exact ⟨ret_int rfl, hV⟩
  ·skip
   refine h_do (by exact rfl) ?_
   refine r_opcall rfl rfl rfl (run_callf (vs := [.slice _ _ _, .slice _ _ _]) rfl (by exact rfl) Try.func101 rfl (by kernel_rfl)) (rsurplus_calls ha hb (by omega) (by omega)) ?_
   rintro e w6 ⟨rfl, hE6⟩
   refine ⟨_, rfl, ?_⟩
   have hs_w6 := (hE6).size
   replace hV := evo_step0 hV hE6
   replace hC3 := evo_step0 hC3 hE6
   replace ha := ha0 _ hV
   replace hb := hb0 _ hV
   replace hT4 := hT4.evo0 hE6
   refine h_next hC3 ?_
   refine h_take (i := 10) (by exact rfl) rfl rfl rfl (by kernel_rfl) (fun w' hC => run_mul rfl (by exact rfl) (by exact rfl) (by omega) (by omega)) hC3 ?_
   refine h_one (i := 6) (by kernel_rfl) ?_
   refine h_do (by exact rfl) ?_
   refine r_op rfl rfl rfl (run_ld1 rfl ag_3 (by exact rfl) (dtab_valF hT4 0 0 (by omega) (by omega) (by omega))) ?_
   refine h_next hC3 ?_
   refine h_take (i := 11) (by exact rfl) rfl rfl rfl (by kernel_rfl) (fun w' hC => run_add rfl (by exact rfl) (by exact rfl) (by omega) (by omega)) hC3 ?_
   refine h_take (i := 12) (by exact rfl) rfl rfl rfl (by kernel_rfl) (fun w' hC => run_asg (v := .int _ _) rfl (by exact rfl)) hC3 ?_
   refine h_done (by kernel_rfl) ?_
   refine r_ret (res1 (v := .int _ _) rfl (by exact rfl)) ?_
   exact ⟨ret_int rfl, hV⟩
 ·skip
  refine h_do (by exact rfl) ?_
  refine r_opcall rfl rfl rfl (run_callf (vs := [.slice _ _ _, .slice _ _ _]) rfl (by exact rfl) Try.func101 rfl (by kernel_rfl)) (rsurplus_calls ha hb (by omega) (by omega)) ?_
  rintro e w7 ⟨rfl, hE7⟩
  refine ⟨_, rfl, ?_⟩
  have hs_w7 := (hE7).size
  replace hV := evo_step0 hV hE7
  replace hC3 := evo_step0 hC3 hE7
  replace ha := ha0 _ hV
  replace hb := hb0 _ hV
  replace hT4 := hT4.evo0 hE7
  refine h_next hC3 ?_
  refine h_take (i := 10) (by exact rfl) rfl rfl rfl (by kernel_rfl) (fun w' hC => run_mul rfl (by exact rfl) (by exact rfl) (by omega) (by omega)) hC3 ?_
  refine h_one (i := 4) (by kernel_rfl) ?_
  refine h_do (by exact rfl) ?_
  refine r_op rfl rfl rfl (run_ld1 rfl ag_23 (by exact rfl) (hT4.load 0 (by omega) (by omega))) ?_
  refine h_next hC3 ?_
  refine h_take (i := 5) (by exact rfl) rfl rfl rfl (by kernel_rfl) (fun w' hC => run_ix (0) rfl Try.underlying23 ty_3 (by exact rfl) (by exact rfl) (by first | exact rfl | omega) (by omega) rfl) hC3 ?_
  refine h_one (i := 6) (by kernel_rfl) ?_
  refine h_do (by exact rfl) ?_
  refine r_op rfl rfl rfl (run_ld1 rfl ag_3 (by exact rfl) (dtab_valF hT4 0 0 (by omega) (by omega) (by omega))) ?_
  refine h_next hC3 ?_
  refine h_take (i := 11) (by exact rfl) rfl rfl rfl (by kernel_rfl) (fun w' hC => run_add rfl (by exact rfl) (by exact rfl) (by omega) (by omega)) hC3 ?_
  refine h_take (i := 12) (by exact rfl) rfl rfl rfl (by kernel_rfl) (fun w' hC => run_asg (v := .int _ _) rfl (by exact rfl)) hC3 ?_
  refine h_done (by kernel_rfl) ?_
  refine r_ret (res1 (v := .int _ _) rfl (by exact rfl)) ?_
  exact ⟨ret_int rfl, hV⟩

set_option maxHeartbeats 1000000 in
theorem below_law {aoa : Option Addr} {ba offa capa : Nat} {a : List Vc.Item} {aob : Option Addr} {bb offb capb : Nat} {b : List Vc.Item} {aol : Option Addr} {bl offl capl : Nat} {l : List Int} {aom : Option Addr} {bm offm capm : Nat} {m : List Int} {w0 : World} (ha : RowE w0 aoa ba offa capa a) (hqa : ∀ x ∈ a, x.text.length ≤ 140737488351232) (hb : RowE w0 aob bb offb capb b) (hqb : ∀ x ∈ b, x.text.length ≤ 140737488351232) (hl : RowE w0 aol bl offl capl l) (hm : RowE w0 aom bm offm capm m) :
    Calls Try.prog 16 #[.slice aoa a.length capa, .slice aob b.length capb, .slice aol l.length capl, .slice aom m.length capm] w0 fun e w' => e = .returned (.bool true) ∧ Evo w0 w' [] := by
 refine calls_enter (n := 69) (args := [.slice aoa a.length capa, .slice aob b.length capb, .slice aol l.length capl, .slice aom m.length capm]) Try.func16 rfl Try.ntmps16 rfl ?_
 have hV : Evo w0 w0 [] := Evo.refl _ _
 have ha0 := keepE ha
 have hbd_ha := ha.bd
 have hb0 := keepE hb
 have hbd_hb := hb.bd
 have hl0 := keepE hl
 have hbd_hl := hl.bd
 have hm0 := keepE hm
 have hbd_hm := hm.bd
 refine r_seq ?_
 refine r_region ?_
 refine r_op rfl rfl rfl (run_asg (v := .bool _) rfl (by exact rfl)) ?_
 refine r_nil ?_
 refine r_seq ?_
 refine r_seq ?_
 refine r_region ?_
 refine r_op rfl rfl rfl (run_mv (v := .slice _ _ _) rfl (by exact rfl)) ?_
 refine r_opcall rfl rfl rfl (run_callf (vs := [.slice _ _ _, .int _ _]) rfl (by exact rfl) Try.func42 rfl (by kernel_rfl)) (small14_calls ha (getD_text (fun x hx => Nat.le_trans (hqa x hx) (by decide))) (by decide)) ?_
 rintro e w1 ⟨lx1, rfl, hlx1, hE1⟩
 refine ⟨_, rfl, ?_⟩
 have hs_w1 := (hE1).size
 replace hV := evo_step0 hV hE1
 replace ha := ha0 _ hV
 replace hb := hb0 _ hV
 replace hl := hl0 _ hV
 replace hm := hm0 _ hV
 refine r_op rfl rfl rfl (run_notb rfl (by exact rfl)) ?_
 refine r_op rfl rfl rfl (run_mvb rfl (by exact rfl)) ?_
 refine r_g rfl (wantF (by exact rfl)) rfl (fun hg => run_mv (v := .slice _ _ _) rfl (by exact rfl)) ?_
 refine r_gcallB rfl (wantF (by exact rfl)) rfl (fun hg => run_callf rfl (argcons (v := .slice _ _ _) (glv (by exact rfl) (fun h => h) hg) (argcons (v := .int _ _) (by exact rfl) (rfl))) Try.func42 rfl (by kernel_rfl)) (fun hg => (small14_calls hb (getD_text (fun x hx => Nat.le_trans (hqb x hx) (by decide))) (by decide))) ?_
 intro gx4 w2 hgx4 hE3
 have hs_w2 := (hE3).size
 replace hV := evo_step0 hV hE3
 replace ha := ha0 _ hV
 replace hb := hb0 _ hV
 replace hl := hl0 _ hV
 replace hm := hm0 _ hV
 refine r_g rfl (wantF (by exact rfl)) rfl (fun hg => run_not rfl (glv (by exact rfl) (fun h => h) hg)) ?_
 refine r_op rfl rfl rfl (run_pick_or rfl (by exact rfl) rfl (fun hq => glv (by exact rfl) (fun h => h) hq)) ?_
 refine r_op rfl rfl rfl (run_mv (v := .bool _) rfl (by exact rfl)) ?_
 refine r_g rfl (wantF (by exact rfl)) rfl (fun hg => run_mv (v := .slice _ _ _) rfl (by exact rfl)) ?_
 refine r_g rfl (wantF (by exact rfl)) rfl (fun hg => run_lenSl rfl (glv (by exact rfl) (fun h => h) hg) Try.underlying23) ?_
 refine r_g rfl (wantF (by exact rfl)) rfl (fun hg => run_gtr rfl (glv (by exact rfl) (fun h => h) hg) (by exact rfl)) ?_
 refine r_op rfl rfl rfl (run_pick_or rfl (by exact rfl) rfl (fun hq => glv (by exact rfl) (fun h => h) hq)) ?_
 refine r_op rfl rfl rfl (run_mv (v := .bool _) rfl (by exact rfl)) ?_
 refine r_g rfl (wantF (by exact rfl)) rfl (fun hg => run_mv (v := .slice _ _ _) rfl (by exact rfl)) ?_
 refine r_g rfl (wantF (by exact rfl)) rfl (fun hg => run_lenSl rfl (glv (by exact rfl) (fun h => h) hg) Try.underlying23) ?_
 refine r_g rfl (wantF (by exact rfl)) rfl (fun hg => run_gtr rfl (glv (by exact rfl) (fun h => h) hg) (by exact rfl)) ?_
 refine r_op rfl rfl rfl (run_pick_or rfl (by exact rfl) rfl (fun hq => glv (by exact rfl) (fun h => h) hq)) ?_
 refine r_nil ?_
 refine r_cond (by exact rfl) (fun hc5 => ?_) (fun hc5 => ?_)
 ·skip
  refine r_seq ?_
  refine r_region ?_
  refine r_opcall rfl rfl rfl (run_callf (vs := []) rfl (by exact rfl) Try.func43 rfl (by kernel_rfl)) known14_calls ?_
  rintro e w6 ⟨rfl, hE6⟩
  refine ⟨_, rfl, ?_⟩
  have hs_w6 := (hE6).size
  replace hV := evo_step0 hV hE6
  replace ha := ha0 _ hV
  replace hb := hb0 _ hV
  replace hl := hl0 _ hV
  replace hm := hm0 _ hV
  refine r_op rfl rfl rfl (run_asg (v := .bool _) rfl (by exact rfl)) ?_
  refine r_nil ?_
  refine r_ret (res1 (v := .bool _) rfl (by exact rfl)) ?_
  first | exact ⟨rfl, hV⟩ | exact ⟨ret_bool (decide_eq_true ⟨⟨⟨⟨hx0, hyb⟩, hxd⟩, hyd⟩, rfl⟩), hV⟩ | exact absurd hc5 (by simp)
 ·skip
  refine r_skip ?_
  refine r_seq ?_
  have b1 := hlx1 (by simp_all); have b2 := hgx4 (by simp_all) (by simp_all)
  have hqLa : ∀ x ∈ a, x.text.length ≤ 140737488355328 := fun x hx => Nat.le_trans (hqa x hx) (by decide)
  have hqLb : ∀ x ∈ b, x.text.length ≤ 140737488355328 := fun x hx => Nat.le_trans (hqb x hx) (by decide)
  refine r_region ?_
  refine r_op rfl rfl rfl (run_mv (v := .slice _ _ _) rfl (by exact rfl)) ?_
  refine r_opcall rfl rfl rfl (run_callf (vs := [.slice _ _ _, .int _ _]) rfl (by exact rfl) Try.func52 rfl (by kernel_rfl)) (made14_calls (n := 18) hl) ?_
  rintro e w7 ⟨vm7, tm7, rfl, hE7, hom7, hml7, hmt7⟩
  refine ⟨_, rfl, ?_⟩
  have hs_w7 := (hE7).size
  replace hV := evo_step0 hV hE7
  replace ha := ha0 _ hV
  replace hb := hb0 _ hV
  replace hl := hl0 _ hV
  replace hm := hm0 _ hV
  have hqc : ∀ x ∈ tm7, x.text.length ≤ 140737488355328 := fun x hx => Nat.le_trans (hmt7 x hx) (by decide)
  refine r_op rfl rfl rfl (run_asg (v := vm7) rfl (by exact rfl)) ?_
  refine r_nil ?_
  refine r_seq ?_
  refine r_region ?_
  refine r_op rfl rfl rfl (run_mv (v := vm7) rfl (by exact rfl)) ?_
  refine r_op rfl rfl rfl (run_mv (v := .slice _ _ _) rfl (by exact rfl)) ?_
  obtain ⟨ao8, g8, cp8, hv8, hr8, hg8⟩ := hom7.rowOf
  subst hv8
  refine r_opcall rfl rfl rfl (run_callf (vs := [.slice _ _ _, .slice _ _ _]) rfl (by exact rfl) Try.func53 rfl (by kernel_rfl)) (near_calls hr8 hm (B := 240) hmt7 (by decide) (by omega)) ?_
  rintro e w9 ⟨vn9, ln9, rfl, hE9, hon9, hnr9⟩
  refine ⟨_, rfl, ?_⟩
  have hs_w9 := (hE9).size
  replace hV := evo_step0 hV hE9
  replace ha := ha0 _ hV
  replace hb := hb0 _ hV
  replace hl := hl0 _ hV
  replace hm := hm0 _ hV
  replace hom7 := hom7.evo0 hE9
  replace hr8 := hr8.evo0 hE9
  have hqd : ∀ x ∈ ln9, x.text.length ≤ 140737488355328 := fun x hx => Nat.le_trans (hnr9.2 x hx) (by decide); have hld := hnr9.1
  refine r_op rfl rfl rfl (run_asg (v := vn9) rfl (by exact rfl)) ?_
  refine r_nil ?_
  refine r_seq ?_
  have hx0 := bound_nonneg a b; have hyb : bagL tm7 ln9 ≤ boundL tm7 ln9 := Int.le_max_left _ _; have hxd := bound_below a b (by omega) (by omega); have hyd := bound_below tm7 ln9 (by omega) (by omega)
  refine r_region ?_
  refine r_op rfl rfl rfl (run_mv (v := .slice _ _ _) rfl (by exact rfl)) ?_
  refine r_op rfl rfl rfl (run_mv (v := .slice _ _ _) rfl (by exact rfl)) ?_
  refine r_opcall rfl rfl rfl (run_callf (vs := [.slice _ _ _, .slice _ _ _]) rfl (by exact rfl) Try.func56 rfl (by kernel_rfl)) (bound_calls ha hb hqLa hqLb (by omega) (by omega)) ?_
  rintro e w10 ⟨rfl, hE10⟩
  refine ⟨_, rfl, ?_⟩
  have hs_w10 := (hE10).size
  replace hV := evo_step0 hV hE10
  replace ha := ha0 _ hV
  replace hb := hb0 _ hV
  replace hl := hl0 _ hV
  replace hm := hm0 _ hV
  replace hom7 := hom7.evo0 hE10
  replace hr8 := hr8.evo0 hE10
  replace hon9 := hon9.evo0 hE10
  refine r_op rfl rfl rfl (run_mv (v := .slice _ _ _) rfl (by exact rfl)) ?_
  refine r_op rfl rfl rfl (run_mv (v := vn9) rfl (by exact rfl)) ?_
  obtain ⟨ao11, g11, cp11, hv11, hr11, hg11⟩ := hon9.rowOf
  subst hv11
  refine r_opcall rfl rfl rfl (run_callf (vs := [.slice _ _ _, .slice _ _ _]) rfl (by exact rfl) Try.func56 rfl (by kernel_rfl)) (bound_calls hr8 hr11 hqc hqd (by omega) (by omega)) ?_
  rintro e w12 ⟨rfl, hE12⟩
  refine ⟨_, rfl, ?_⟩
  have hs_w12 := (hE12).size
  replace hV := evo_step0 hV hE12
  replace ha := ha0 _ hV
  replace hb := hb0 _ hV
  replace hl := hl0 _ hV
  replace hm := hm0 _ hV
  replace hom7 := hom7.evo0 hE12
  replace hr8 := hr8.evo0 hE12
  replace hon9 := hon9.evo0 hE12
  replace hr11 := hr11.evo0 hE12
  refine r_op rfl rfl rfl (run_asg (v := .int _ _) rfl (by exact rfl)) ?_
  refine r_op rfl rfl rfl (run_asg (v := .int _ _) rfl (by exact rfl)) ?_
  refine r_nil ?_
  refine r_seq ?_
  refine r_region ?_
  refine r_op rfl rfl rfl (run_mv (v := .int _ _) rfl (by exact rfl)) ?_
  refine r_op rfl rfl rfl (run_geq rfl (by exact rfl) (by exact rfl)) ?_
  refine r_op rfl rfl rfl (run_mv (v := .bool _) rfl (by exact rfl)) ?_
  refine r_gyes rfl (wantT (by exact rfl)) (by exact (by first | exact hx0 | exact ⟨hx0, hyb⟩ | exact ⟨⟨hx0, hyb⟩, hxd⟩ | exact ⟨⟨⟨hx0, hyb⟩, hxd⟩, hyd⟩)) ?_
  refine r_op rfl rfl rfl (run_mv (v := .int _ _) rfl (by exact rfl)) ?_
  refine r_gyes rfl (wantT (by exact rfl)) (by exact (by first | exact hx0 | exact ⟨hx0, hyb⟩ | exact ⟨⟨hx0, hyb⟩, hxd⟩ | exact ⟨⟨⟨hx0, hyb⟩, hxd⟩, hyd⟩)) ?_
  refine r_op rfl rfl rfl (run_mv (v := .slice _ _ _) rfl (by exact rfl)) ?_
  refine r_gyes rfl (wantT (by exact rfl)) (by exact (by first | exact hx0 | exact ⟨hx0, hyb⟩ | exact ⟨⟨hx0, hyb⟩, hxd⟩ | exact ⟨⟨⟨hx0, hyb⟩, hxd⟩, hyd⟩)) ?_
  refine r_op rfl rfl rfl (run_mv (v := .slice _ _ _) rfl (by exact rfl)) ?_
  refine r_gyes rfl (wantT (by exact rfl)) (by exact (by first | exact hx0 | exact ⟨hx0, hyb⟩ | exact ⟨⟨hx0, hyb⟩, hxd⟩ | exact ⟨⟨⟨hx0, hyb⟩, hxd⟩, hyd⟩)) ?_
  refine r_opcall rfl rfl rfl (run_callf (vs := [.slice _ _ _, .slice _ _ _]) rfl (by exact rfl) Try.func54 rfl (by kernel_rfl)) (bag_calls hr8 hr11 hqc hqd (by omega) (by omega)) ?_
  rintro e w13 ⟨rfl, hE13⟩
  refine ⟨_, rfl, ?_⟩
  have hs_w13 := (hE13).size
  replace hV := evo_step0 hV hE13
  replace ha := ha0 _ hV
  replace hb := hb0 _ hV
  replace hl := hl0 _ hV
  replace hm := hm0 _ hV
  replace hom7 := hom7.evo0 hE13
  replace hr8 := hr8.evo0 hE13
  replace hon9 := hon9.evo0 hE13
  replace hr11 := hr11.evo0 hE13
  refine r_gyes rfl (wantT (by exact rfl)) (by exact (by first | exact hx0 | exact ⟨hx0, hyb⟩ | exact ⟨⟨hx0, hyb⟩, hxd⟩ | exact ⟨⟨⟨hx0, hyb⟩, hxd⟩, hyd⟩)) ?_
  refine r_op rfl rfl rfl (run_geq rfl (by exact rfl) (by exact rfl)) ?_
  refine r_op rfl rfl rfl (run_pick_and rfl (by exact rfl) (fun _ => (by exact rfl)) rfl) ?_
  refine r_op rfl rfl rfl (run_mv (v := .bool _) rfl (by exact rfl)) ?_
  refine r_gyes rfl (wantT (by exact rfl)) (by exact (by first | exact hx0 | exact ⟨hx0, hyb⟩ | exact ⟨⟨hx0, hyb⟩, hxd⟩ | exact ⟨⟨⟨hx0, hyb⟩, hxd⟩, hyd⟩)) ?_
  refine r_op rfl rfl rfl (run_mv (v := .int _ _) rfl (by exact rfl)) ?_
  refine r_gyes rfl (wantT (by exact rfl)) (by exact (by first | exact hx0 | exact ⟨hx0, hyb⟩ | exact ⟨⟨hx0, hyb⟩, hxd⟩ | exact ⟨⟨⟨hx0, hyb⟩, hxd⟩, hyd⟩)) ?_
  refine r_op rfl rfl rfl (run_mv (v := .slice _ _ _) rfl (by exact rfl)) ?_
  refine r_gyes rfl (wantT (by exact rfl)) (by exact (by first | exact hx0 | exact ⟨hx0, hyb⟩ | exact ⟨⟨hx0, hyb⟩, hxd⟩ | exact ⟨⟨⟨hx0, hyb⟩, hxd⟩, hyd⟩)) ?_
  refine r_op rfl rfl rfl (run_mv (v := .slice _ _ _) rfl (by exact rfl)) ?_
  refine r_gyes rfl (wantT (by exact rfl)) (by exact (by first | exact hx0 | exact ⟨hx0, hyb⟩ | exact ⟨⟨hx0, hyb⟩, hxd⟩ | exact ⟨⟨⟨hx0, hyb⟩, hxd⟩, hyd⟩)) ?_
  refine r_opcall rfl rfl rfl (run_callf (vs := [.slice _ _ _, .slice _ _ _]) rfl (by exact rfl) Try.func58 rfl (by kernel_rfl)) (rdistance_calls ha hb hqLa hqLb (by omega) (by omega)) ?_
  rintro e w14 ⟨rfl, hE14⟩
  refine ⟨_, rfl, ?_⟩
  have hs_w14 := (hE14).size
  replace hV := evo_step0 hV hE14
  replace ha := ha0 _ hV
  replace hb := hb0 _ hV
  replace hl := hl0 _ hV
  replace hm := hm0 _ hV
  replace hom7 := hom7.evo0 hE14
  replace hr8 := hr8.evo0 hE14
  replace hon9 := hon9.evo0 hE14
  replace hr11 := hr11.evo0 hE14
  refine r_gyes rfl (wantT (by exact rfl)) (by exact (by first | exact hx0 | exact ⟨hx0, hyb⟩ | exact ⟨⟨hx0, hyb⟩, hxd⟩ | exact ⟨⟨⟨hx0, hyb⟩, hxd⟩, hyd⟩)) ?_
  refine r_op rfl rfl rfl (run_leq rfl (by exact rfl) (by exact rfl)) ?_
  refine r_op rfl rfl rfl (run_pick_and rfl (by exact rfl) (fun _ => (by exact rfl)) rfl) ?_
  refine r_op rfl rfl rfl (run_mv (v := .bool _) rfl (by exact rfl)) ?_
  refine r_gyes rfl (wantT (by exact rfl)) (by exact (by first | exact hx0 | exact ⟨hx0, hyb⟩ | exact ⟨⟨hx0, hyb⟩, hxd⟩ | exact ⟨⟨⟨hx0, hyb⟩, hxd⟩, hyd⟩)) ?_
  refine r_op rfl rfl rfl (run_mv (v := .int _ _) rfl (by exact rfl)) ?_
  refine r_gyes rfl (wantT (by exact rfl)) (by exact (by first | exact hx0 | exact ⟨hx0, hyb⟩ | exact ⟨⟨hx0, hyb⟩, hxd⟩ | exact ⟨⟨⟨hx0, hyb⟩, hxd⟩, hyd⟩)) ?_
  refine r_op rfl rfl rfl (run_mv (v := .slice _ _ _) rfl (by exact rfl)) ?_
  refine r_gyes rfl (wantT (by exact rfl)) (by exact (by first | exact hx0 | exact ⟨hx0, hyb⟩ | exact ⟨⟨hx0, hyb⟩, hxd⟩ | exact ⟨⟨⟨hx0, hyb⟩, hxd⟩, hyd⟩)) ?_
  refine r_op rfl rfl rfl (run_mv (v := .slice _ _ _) rfl (by exact rfl)) ?_
  refine r_gyes rfl (wantT (by exact rfl)) (by exact (by first | exact hx0 | exact ⟨hx0, hyb⟩ | exact ⟨⟨hx0, hyb⟩, hxd⟩ | exact ⟨⟨⟨hx0, hyb⟩, hxd⟩, hyd⟩)) ?_
  refine r_opcall rfl rfl rfl (run_callf (vs := [.slice _ _ _, .slice _ _ _]) rfl (by exact rfl) Try.func58 rfl (by kernel_rfl)) (rdistance_calls hr8 hr11 hqc hqd (by omega) (by omega)) ?_
  rintro e w15 ⟨rfl, hE15⟩
  refine ⟨_, rfl, ?_⟩
  have hs_w15 := (hE15).size
  replace hV := evo_step0 hV hE15
  replace ha := ha0 _ hV
  replace hb := hb0 _ hV
  replace hl := hl0 _ hV
  replace hm := hm0 _ hV
  replace hom7 := hom7.evo0 hE15
  replace hr8 := hr8.evo0 hE15
  replace hon9 := hon9.evo0 hE15
  replace hr11 := hr11.evo0 hE15
  refine r_gyes rfl (wantT (by exact rfl)) (by exact (by first | exact hx0 | exact ⟨hx0, hyb⟩ | exact ⟨⟨hx0, hyb⟩, hxd⟩ | exact ⟨⟨⟨hx0, hyb⟩, hxd⟩, hyd⟩)) ?_
  refine r_op rfl rfl rfl (run_leq rfl (by exact rfl) (by exact rfl)) ?_
  refine r_op rfl rfl rfl (run_pick_and rfl (by exact rfl) (fun _ => (by exact rfl)) rfl) ?_
  refine r_op rfl rfl rfl (run_mv (v := .bool _) rfl (by exact rfl)) ?_
  refine r_gyes rfl (wantT (by exact rfl)) (by exact (by first | exact hx0 | exact ⟨hx0, hyb⟩ | exact ⟨⟨hx0, hyb⟩, hxd⟩ | exact ⟨⟨⟨hx0, hyb⟩, hxd⟩, hyd⟩)) ?_
  refine r_opcall rfl rfl rfl (run_callf (vs := []) rfl (by exact rfl) Try.func43 rfl (by kernel_rfl)) known14_calls ?_
  rintro e w16 ⟨rfl, hE16⟩
  refine ⟨_, rfl, ?_⟩
  have hs_w16 := (hE16).size
  replace hV := evo_step0 hV hE16
  replace ha := ha0 _ hV
  replace hb := hb0 _ hV
  replace hl := hl0 _ hV
  replace hm := hm0 _ hV
  replace hom7 := hom7.evo0 hE16
  replace hr8 := hr8.evo0 hE16
  replace hon9 := hon9.evo0 hE16
  replace hr11 := hr11.evo0 hE16
  refine r_op rfl rfl rfl (run_pick_andB rfl (by exact rfl) (fun _ => (by exact rfl)) rfl) ?_
  refine r_op rfl rfl rfl (run_asg (v := .bool _) rfl (by exact rfl)) ?_
  refine r_nil ?_
  refine r_ret (res1 (v := .bool _) rfl (by exact rfl)) ?_
  first | exact ⟨rfl, hV⟩ | exact ⟨ret_bool (decide_eq_true ⟨⟨⟨⟨hx0, hyb⟩, hxd⟩, hyd⟩, rfl⟩), hV⟩ | exact absurd hc5 (by simp)

end Go.Proofs.Ytomklacppmaljaa

