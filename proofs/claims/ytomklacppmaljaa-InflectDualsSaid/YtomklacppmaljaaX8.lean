import Derived.Test.YtomklacppmaljaaX7
namespace Go.Proofs.Ytomklacppmaljaa
open Go.RowKit Go.Vc

theorem small_calls {s : Str} {w0 : World} (hs : s.length ≤ 140737488355328) :
    Calls Try.prog 117 #[S s] w0 fun e w' => e = .returned (.bool (smallL s)) ∧ Evo w0 w' [] := by
 refine calls_enter (n := 19) (args := [S s]) Try.func117 rfl Try.ntmps117 rfl ?_
 have hV : Evo w0 w0 [] := Evo.refl _ _
 refine r_seq ?_
 refine r_region ?_
 refine r_op rfl rfl rfl (run_asg (v := .bool _) rfl (by exact rfl)) ?_
 refine r_nil ?_
 refine r_seq ?_
 refine r_seq ?_
 refine r_region ?_
 refine r_op rfl rfl rfl (run_mv (v := S _) rfl (by exact rfl)) ?_
 refine r_op rfl rfl rfl (run_lenS rfl (by exact rfl) Try.underlying9) ?_
 refine r_op rfl rfl rfl (run_mv (v := .int _ _) rfl (by exact rfl)) ?_
 refine r_nil ?_
 refine r_block ?_
 refine r_loop (α := Nat) [2, 3, 6, 7, 8, 9, 10, 11, 12, 13, 14] (fun k g w => g 6 = .int .i64 (k : Nat) ∧ k ≤ s.length ∧ (∀ j, j < k → clsB (s.getD j 0) = 4) ∧ w0.heap.size ≤ w.heap.size ∧ Evo w0 w []) (fun k => s.length - k) 0 ?_ ?_
 ·refine ⟨(by first | exact rfl | exact congrArg (Value.int _) (by omega) | exact congrArg (Value.int _) (by dsimp only; omega) | exact congrArg (Value.int _) (by simp) | exact congrArg S (by simp)), (by first | assumption | omega | (dsimp only; omega) | (simp; done)), (fun j h => by omega), (by first | assumption | omega | (dsimp only; omega) | (simp; done)), hV⟩
 ·rintro k g w2 ⟨hj3, hk_k, hall, hzl1, hV⟩
  have hs_w2hV := hV.size
  refine r_know (i := 6) (v := .int .i64 (k : Nat)) (by exact hj3) ?_
  refine r_seq ?_
  refine r_region ?_
  refine r_op rfl rfl rfl (run_lss rfl (by exact rfl) (by exact rfl)) ?_
  refine r_nil ?_
  refine r_seq ?_
  refine r_cond (by exact rfl) (fun hc4 => ?_) (fun hc4 => ?_)
  ·skip
   refine r_skip ?_
   refine r_seq ?_
   refine r_block ?_
   refine r_seq ?_
   refine r_region ?_
   refine r_op rfl rfl rfl (run_mv (v := .int _ _) rfl (by exact rfl)) ?_
   refine r_op rfl rfl rfl (run_asg (v := .int _ _) rfl (by exact rfl)) ?_
   refine r_nil ?_
   refine r_seq ?_
   refine r_region ?_
   refine r_op rfl rfl rfl (run_mv (v := S _) rfl (by exact rfl)) ?_
   refine r_op rfl rfl rfl (run_mv (v := .int _ _) rfl (by exact rfl)) ?_
   refine r_op rfl rfl rfl (run_ixS (k) rfl Try.underlying9 (by exact rfl) (by exact rfl) (by first | exact rfl | omega) (by omega)) ?_
   refine r_opcall rfl rfl rfl (run_callf (vs := [.int _ _]) rfl (by exact rfl) Try.func151 rfl (by kernel_rfl)) of_calls ?_
   rintro e w5 ⟨rfl, hE5⟩
   refine ⟨_, rfl, ?_⟩
   have hs_w5 := (hE5).size
   replace hV := evo_step0 hV hE5
   refine r_op rfl rfl rfl (run_neq rfl (by exact rfl) (by exact rfl)) ?_
   refine r_nil ?_
   refine r_cond (by exact rfl) (fun hc6 => ?_) (fun hc6 => ?_)
   ·skip
    refine r_seq ?_
    refine r_region ?_
    refine r_op rfl rfl rfl (run_asg (v := .bool _) rfl (by exact rfl)) ?_
    refine r_nil ?_
    refine r_ret (res1 (v := .bool _) rfl (by exact rfl)) ?_
    exact ⟨ret_bool (by rw [small_bad (k := k) (by omega) hc6]), hV⟩
   ·skip
    refine r_skip ?_
    refine r_blk ?_
    refine r_region ?_
    refine r_op rfl rfl rfl (run_add rfl (by exact rfl) (by exact rfl) (by omega) (by omega)) ?_
    refine r_op rfl rfl rfl (run_mv (v := .int _ _) rfl (by exact rfl)) ?_
    refine r_nil ?_
    refine r_again (k + 1) ?_ ?_ ?_
    ·first | omega | (dsimp only; omega)
    ·refine ⟨(by first | exact rfl | exact congrArg (Value.int _) (by omega) | exact congrArg (Value.int _) (by dsimp only; omega) | exact congrArg (Value.int _) (by simp) | exact congrArg S (by simp)), (by first | assumption | omega | (dsimp only; omega) | (simp; done)), (upto0 hall (Classical.not_not.1 hc6)), (by first | assumption | omega | (dsimp only; omega) | (simp; done)), hV⟩
    ·repeat (first | (with_reducible exact Agree.merge _ _ _) | (with_reducible exact Agree.refl _ _) | (with_reducible refine Agree.upd ?_ _ _ rfl) | ((with_reducible refine Agree.inner ?_ ?_); (kernel_rfl)))
  ·skip
   refine r_exit rfl ?_
   refine r_seq ?_
   refine r_region ?_
   refine r_op rfl rfl rfl (run_mv (v := S _) rfl (by exact rfl)) ?_
   refine r_opcall rfl rfl rfl (run_callf (vs := [S _]) rfl (by exact rfl) Try.func70 rfl (by kernel_rfl)) (lower_calls (by first | omega | (simp; omega))) ?_
   rintro e w7 ⟨rfl, hE7⟩
   refine ⟨_, rfl, ?_⟩
   have hs_w7 := (hE7).size
   replace hV := evo_step0 hV hE7
   refine r_op rfl rfl rfl (run_mv (v := S _) rfl (by exact rfl)) ?_
   refine r_op rfl rfl rfl (run_seql rfl (by exact rfl) (by exact rfl)) ?_
   refine r_op rfl rfl rfl (run_asg (v := .bool _) rfl (by exact rfl)) ?_
   refine r_nil ?_
   refine r_ret (res1 (v := .bool _) rfl (by exact rfl)) ?_
   exact ⟨ret_bool (by rw [small_yes (fun j hj => hall j (by omega))]), hV⟩

theorem rsmall_calls {s : Str} {w0 : World} (hs : s.length ≤ 140737488355328) :
    Calls Try.prog 120 #[S s] w0 fun e w' => e = .returned (.bool (smallL s && decide (s.length ≤ 8))) ∧ Evo w0 w' [] := by
 refine calls_enter (n := 32) (args := [S s]) Try.func120 rfl Try.ntmps120 rfl ?_
 have hV : Evo w0 w0 [] := Evo.refl _ _
 refine r_seq ?_
 refine r_region ?_
 refine r_op rfl rfl rfl (run_asg (v := .bool _) rfl (by exact rfl)) ?_
 refine r_nil ?_
 refine r_seq ?_
 refine r_seq ?_
 refine r_region ?_
 refine r_op rfl rfl rfl (run_asg (v := .int _ _) rfl (by exact rfl)) ?_
 refine r_nil ?_
 refine r_block ?_
 refine r_loop (α := Nat) [2, 3, 4, 5, 6, 7, 8, 9, 10, 11, 12, 13, 14, 15, 16, 17, 18, 19, 20, 21, 22, 23, 24, 25, 26, 27, 28] (fun k g w => g 3 = .int .i64 (k : Nat) ∧ k ≤ s.length ∧ (∀ j, j < k → smlB (s.getD j 0) = true) ∧ w0.heap.size ≤ w.heap.size ∧ Evo w0 w []) (fun k => s.length - k) 0 ?_ ?_
 ·refine ⟨rfl, (by first | assumption | omega | (dsimp only; omega) | (simp; done)), (fun j h => by omega), (by first | assumption | omega | (dsimp only; omega) | (simp; done)), hV⟩
 ·rintro k g w2 ⟨hj3, hk, hall, hzl1, hV⟩
  have hs_w2hV := hV.size
  refine r_know (i := 3) (v := .int .i64 (k : Nat)) (by exact hj3) ?_
  refine r_seq ?_
  refine r_seq ?_
  refine r_region ?_
  refine r_op rfl rfl rfl (run_mv (v := .int _ _) rfl (by exact rfl)) ?_
  refine r_op rfl rfl rfl (run_mv (v := S _) rfl (by exact rfl)) ?_
  refine r_op rfl rfl rfl (run_lenS rfl (by exact rfl) Try.underlying9) ?_
  refine r_op rfl rfl rfl (run_lss rfl (by exact rfl) (by exact rfl)) ?_
  refine r_nil ?_
  refine r_cond (by exact rfl) (fun hc4 => ?_) (fun hc4 => ?_)
  ·skip
   refine r_skip ?_
   refine r_seq ?_
   refine r_block ?_
   refine r_seq ?_
   refine r_qregion (by kernel_rfl) (by kernel_rfl) ?_
   refine q_op rfl rfl rfl (fun w' hC => run_mv (v := S _) rfl (by exact rfl)) ?_
   refine q_op rfl rfl rfl (fun w' hC => run_mv (v := .int _ _) rfl (by exact rfl)) ?_
   refine q_op rfl rfl rfl (fun w' hC => run_ixS (k) rfl Try.underlying9 (by exact rfl) (by exact rfl) (by first | exact rfl | omega) (by omega)) ?_
   refine q_call rfl rfl rfl (fun w' hC => run_callf rfl (argcons (v := .int _ _) (by exact rfl) (rfl)) Try.func153 rfl (by kernel_rfl)) (fun w' hC => (rclass_calls ).mono (fun e w'' h => ⟨h.1, evo_step0 hC h.2⟩)) ?_
   refine q_op rfl rfl rfl (fun w' hC => run_neq rfl (by exact rfl) (by exact rfl)) ?_
   refine q_op rfl rfl rfl (fun w' hC => run_mv (v := .bool _) rfl (by exact rfl)) ?_
   refine q_g rfl (wantF (by exact rfl)) rfl (fun hg w' hC => run_mv (v := S _) rfl (by exact rfl)) ?_
   refine q_g rfl (wantF (by exact rfl)) rfl (fun hg w' hC => run_mv (v := .int _ _) rfl (by exact rfl)) ?_
   refine q_g rfl (wantF (by exact rfl)) rfl (fun hg w' hC => run_mv (v := .int _ _) rfl (by exact rfl)) ?_
   refine q_g rfl (wantF (by exact rfl)) rfl (fun hg w' hC => run_add rfl (glv (by exact rfl) (fun h => h) hg) (by exact rfl) (by omega) (by omega)) ?_
   refine q_g rfl (wantF (by exact rfl)) rfl (fun hg w' hC => run_slS (k) ((k + 1)) rfl Try.underlying9 (glv (by exact rfl) (fun h => h) hg) (at1 (glv (by exact rfl) (fun h => h) hg) (by omega)) (at1 (glv (by exact rfl) (fun h => h) hg) (by omega)) (by first | omega | (simp; omega)) (by first | omega | (simp; omega))) ?_
   refine q_gcall rfl (wantF (by exact rfl)) rfl (fun hg w' hC => run_callf rfl (argcons (v := S _) (glv (by exact rfl) (fun h => h) hg) (rfl)) Try.func74 rfl (by kernel_rfl)) (fun hg w' hC => (rlower_calls (by first | omega | (simp; omega))).mono (fun e w'' h => ⟨h.1, evo_step0 hC h.2⟩)) ?_
   refine q_g rfl (wantF (by exact rfl)) rfl (fun hg w' hC => run_mv (v := S _) rfl (by exact rfl)) ?_
   refine q_g rfl (wantF (by exact rfl)) rfl (fun hg w' hC => run_mv (v := .int _ _) rfl (by exact rfl)) ?_
   refine q_g rfl (wantF (by exact rfl)) rfl (fun hg w' hC => run_mv (v := .int _ _) rfl (by exact rfl)) ?_
   refine q_g rfl (wantF (by exact rfl)) rfl (fun hg w' hC => run_add rfl (glv (by exact rfl) (fun h => h) hg) (by exact rfl) (by omega) (by omega)) ?_
   refine q_g rfl (wantF (by exact rfl)) rfl (fun hg w' hC => run_slS (k) ((k + 1)) rfl Try.underlying9 (glv (by exact rfl) (fun h => h) hg) (at1 (glv (by exact rfl) (fun h => h) hg) (by omega)) (at1 (glv (by exact rfl) (fun h => h) hg) (by omega)) (by first | omega | (simp; omega)) (by first | omega | (simp; omega))) ?_
   refine q_g rfl (wantF (by exact rfl)) rfl (fun hg w' hC => run_sneq rfl (glv (by exact rfl) (fun h => h) hg) (glv (by exact rfl) (fun h => h) hg)) ?_
   refine q_op rfl rfl rfl (fun w' hC => run_pick_or rfl (by exact rfl) rfl (fun hq => glv (by exact rfl) (fun h => h) hq)) ?_
   refine q_nil (fun w5 hE6 => ?_)
   have hs_w5 := (hE6).size
   replace hV := evo_step0 hV hE6
   refine r_cond (by exact rfl) (fun hc7 => ?_) (fun hc7 => ?_)
   ·skip
    refine r_seq ?_
    refine r_region ?_
    refine r_op rfl rfl rfl (run_asg (v := .bool _) rfl (by exact rfl)) ?_
    refine r_nil ?_
    refine r_ret (res1 (v := .bool _) rfl (by exact rfl)) ?_
    exact ⟨ret_bool (by rw [sml_bad (k := k) (by omega) hc7, Bool.false_and]), hV⟩
   ·skip
    refine r_skip ?_
    refine r_blk ?_
    refine r_region ?_
    refine r_op rfl rfl rfl (run_mv (v := .int _ _) rfl (by exact rfl)) ?_
    refine r_op rfl rfl rfl (run_add rfl (by exact rfl) (by exact rfl) (by omega) (by omega)) ?_
    refine r_op rfl rfl rfl (run_asg (v := .int _ _) rfl (by exact rfl)) ?_
    refine r_nil ?_
    refine r_again (k + 1) ?_ ?_ ?_
    ·first | omega | (dsimp only; omega)
    ·refine ⟨(by first | exact rfl | exact congrArg (Value.int _) (by omega) | exact congrArg (Value.int _) (by dsimp only; omega) | exact congrArg (Value.int _) (by simp) | exact congrArg S (by simp)), (by first | assumption | omega | (dsimp only; omega) | (simp; done)), (upto0 hall (sml_one (by omega) hc7)), (by first | assumption | omega | (dsimp only; omega) | (simp; done)), hV⟩
    ·repeat (first | (with_reducible exact Agree.merge _ _ _) | (with_reducible exact Agree.refl _ _) | (with_reducible refine Agree.upd ?_ _ _ rfl) | ((with_reducible refine Agree.inner ?_ ?_); (kernel_rfl)))
  ·skip
   refine r_exit rfl ?_
   refine r_seq ?_
   refine r_region ?_
   refine r_op rfl rfl rfl (run_mv (v := S _) rfl (by exact rfl)) ?_
   refine r_op rfl rfl rfl (run_lenS rfl (by exact rfl) Try.underlying9) ?_
   refine r_op rfl rfl rfl (run_leq rfl (by exact rfl) (by exact rfl)) ?_
   refine r_op rfl rfl rfl (run_asg (v := .bool _) rfl (by exact rfl)) ?_
   refine r_nil ?_
   refine r_ret (res1 (v := .bool _) rfl (by exact rfl)) ?_
   exact ⟨ret_bool (by rw [small_all, all_at (fun j hj => hall j (by omega)), Bool.true_and, Bool.eq_iff_iff, decide_eq_true_iff, decide_eq_true_iff]; omega), hV⟩

end Go.Proofs.Ytomklacppmaljaa
