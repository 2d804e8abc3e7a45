/-
  Library, plain laws and walks that the statements reach (joined by a program out of smaller texts).
-/
import Derived.Test.YthbcklajlmcifaaGreatQa
set_option linter.unusedVariables false
set_option linter.unusedSimpArgs false
namespace Go.Proofs.YthbcklajlmcifaaGreat
open Go.RowKit Go.Vc
theorem ag_5 : aggP Tryz.prog 5 = some false := by kernel_rfl
theorem ty_5 : tyP Tryz.prog 5 = some (1, 1, some (.int .u8 0)) := by kernel_rfl
theorem rclass_calls {c : UInt8} {w0 : World}  :
    Calls Tryz.prog 76 #[.int .u8 ((c.toNat : Nat) : Int)] w0 fun e w' => e = .returned (.int .i64 (clsB c)) ∧ Evo w0 w' [] := by
 refine calls_enter (n := 51) (args := [.int .u8 ((c.toNat : Nat) : Int)]) Tryz.func76 rfl Tryz.ntmps76 rfl ?_
 have hV : Evo w0 w0 [] := Evo.refl _ _
 refine r_seq ?_
 refine r_region ?_
 refine r_op rfl rfl rfl (run_asg (v := .int _ _) rfl (by exact rfl)) ?_
 refine r_nil ?_
 refine r_seq ?_
 refine r_block ?_
 refine r_seq ?_
 refine r_region ?_
 refine r_op rfl rfl rfl (run_mv (v := .int _ _) rfl (by exact rfl)) ?_
 refine r_op rfl rfl rfl (run_eql rfl (by exact rfl) (by exact rfl)) ?_
 refine r_op rfl rfl rfl (run_mv (v := .bool _) rfl (by exact rfl)) ?_
 refine r_g rfl (wantF (by exact rfl)) rfl (fun hg => run_mv (v := .int _ _) rfl (by exact rfl)) ?_
 refine r_g rfl (wantF (by exact rfl)) rfl (fun hg => run_eql rfl (glv (by exact rfl) (fun h => h) hg) (by exact rfl)) ?_
 refine r_op rfl rfl rfl (run_pick_or rfl (by exact rfl) rfl (fun hq => glv (by exact rfl) (fun h => h) hq)) ?_
 refine r_op rfl rfl rfl (run_mv (v := .bool _) rfl (by exact rfl)) ?_
 refine r_g rfl (wantF (by exact rfl)) rfl (fun hg => run_mv (v := .int _ _) rfl (by exact rfl)) ?_
 refine r_g rfl (wantF (by exact rfl)) rfl (fun hg => run_eql rfl (glv (by exact rfl) (fun h => h) hg) (by exact rfl)) ?_
 refine r_op rfl rfl rfl (run_pick_or rfl (by exact rfl) rfl (fun hq => glv (by exact rfl) (fun h => h) hq)) ?_
 refine r_op rfl rfl rfl (run_mv (v := .bool _) rfl (by exact rfl)) ?_
 refine r_g rfl (wantF (by exact rfl)) rfl (fun hg => run_mv (v := .int _ _) rfl (by exact rfl)) ?_
 refine r_g rfl (wantF (by exact rfl)) rfl (fun hg => run_eql rfl (glv (by exact rfl) (fun h => h) hg) (by exact rfl)) ?_
 refine r_op rfl rfl rfl (run_pick_or rfl (by exact rfl) rfl (fun hq => glv (by exact rfl) (fun h => h) hq)) ?_
 refine r_op rfl rfl rfl (run_asg (v := .bool _) rfl (by exact rfl)) ?_
 refine r_nil ?_
 refine r_cond (by exact rfl) (fun hc1 => ?_) (fun hc1 => ?_)
 ·skip
  refine r_seq ?_
  refine r_region ?_
  refine r_op rfl rfl rfl (run_asg (v := .int _ _) rfl (by exact rfl)) ?_
  refine r_nil ?_
  refine r_ret (res1 (v := .int _ _) rfl (by exact rfl)) ?_
  exact ⟨ret_int (by rw [cls_space (by omega)]), hV⟩
 ·skip
  refine r_seq ?_
  refine r_region ?_
  refine r_op rfl rfl rfl (run_mv (v := .int _ _) rfl (by exact rfl)) ?_
  refine r_op rfl rfl rfl (run_lss rfl (by exact rfl) (by exact rfl)) ?_
  refine r_op rfl rfl rfl (run_mv (v := .bool _) rfl (by exact rfl)) ?_
  refine r_g rfl (wantF (by exact rfl)) rfl (fun hg => run_mv (v := .int _ _) rfl (by exact rfl)) ?_
  refine r_g rfl (wantF (by exact rfl)) rfl (fun hg => run_eql rfl (glv (by exact rfl) (fun h => h) hg) (by exact rfl)) ?_
  refine r_op rfl rfl rfl (run_pick_or rfl (by exact rfl) rfl (fun hq => glv (by exact rfl) (fun h => h) hq)) ?_
  refine r_op rfl rfl rfl (run_asg (v := .bool _) rfl (by exact rfl)) ?_
  refine r_nil ?_
  refine r_cond (by exact rfl) (fun hc2 => ?_) (fun hc2 => ?_)
  ·skip
   refine r_seq ?_
   refine r_region ?_
   refine r_op rfl rfl rfl (run_asg (v := .int _ _) rfl (by exact rfl)) ?_
   refine r_nil ?_
   refine r_ret (res1 (v := .int _ _) rfl (by exact rfl)) ?_
   exact ⟨ret_int (by rw [cls_control (by omega) (by omega)]), hV⟩
  ·skip
   refine r_seq ?_
   refine r_region ?_
   refine r_op rfl rfl rfl (run_mv (v := .int _ _) rfl (by exact rfl)) ?_
   refine r_op rfl rfl rfl (run_geq rfl (by exact rfl) (by exact rfl)) ?_
   refine r_op rfl rfl rfl (run_mv (v := .bool _) rfl (by exact rfl)) ?_
   refine r_g rfl (wantT (by exact rfl)) rfl (fun hg => run_mv (v := .int _ _) rfl (by exact rfl)) ?_
   refine r_g rfl (wantT (by exact rfl)) rfl (fun hg => run_leq rfl (glv (by exact rfl) (fun h => h) hg) (by exact rfl)) ?_
   refine r_op rfl rfl rfl (run_pick_and rfl (by exact rfl) (fun hq => glv (by exact rfl) (fun h => h) hq) rfl) ?_
   refine r_op rfl rfl rfl (run_asg (v := .bool _) rfl (by exact rfl)) ?_
   refine r_nil ?_
   refine r_cond (by exact rfl) (fun hc3 => ?_) (fun hc3 => ?_)
   ·skip
    refine r_seq ?_
    refine r_region ?_
    refine r_op rfl rfl rfl (run_asg (v := .int _ _) rfl (by exact rfl)) ?_
    refine r_nil ?_
    refine r_ret (res1 (v := .int _ _) rfl (by exact rfl)) ?_
    exact ⟨ret_int (by rw [cls_digit (by omega)]), hV⟩
   ·skip
    refine r_seq ?_
    refine r_region ?_
    refine r_op rfl rfl rfl (run_mv (v := .int _ _) rfl (by exact rfl)) ?_
    refine r_op rfl rfl rfl (run_geq rfl (by exact rfl) (by exact rfl)) ?_
    refine r_op rfl rfl rfl (run_mv (v := .bool _) rfl (by exact rfl)) ?_
    refine r_g rfl (wantT (by exact rfl)) rfl (fun hg => run_mv (v := .int _ _) rfl (by exact rfl)) ?_
    refine r_g rfl (wantT (by exact rfl)) rfl (fun hg => run_leq rfl (glv (by exact rfl) (fun h => h) hg) (by exact rfl)) ?_
    refine r_op rfl rfl rfl (run_pick_and rfl (by exact rfl) (fun hq => glv (by exact rfl) (fun h => h) hq) rfl) ?_
    refine r_op rfl rfl rfl (run_mv (v := .bool _) rfl (by exact rfl)) ?_
    refine r_g rfl (wantF (by exact rfl)) rfl (fun hg => run_mv (v := .int _ _) rfl (by exact rfl)) ?_
    refine r_g rfl (wantF (by exact rfl)) rfl (fun hg => run_geq rfl (glv (by exact rfl) (fun h => h) hg) (by exact rfl)) ?_
    refine r_g rfl (wantF (by exact rfl)) rfl (fun hg => run_mv (v := .bool _) rfl (glv (by exact rfl) (fun h => h) hg)) ?_
    refine r_g rfl (wantTg (by exact rfl)) rfl (fun hg => run_mv (v := .int _ _) rfl (by exact rfl)) ?_
    refine r_g rfl (wantTg (by exact rfl)) rfl (fun hg => run_leq rfl (glv (by exact rfl) (fun h => h) hg) (by exact rfl)) ?_
    refine r_g rfl (wantF (by exact rfl)) rfl (fun hg => run_pick_and rfl (glv (by exact rfl) (fun h => h) hg) (fun hq => glv (by exact rfl) (fun h => h) (And.intro hg hq)) rfl) ?_
    refine r_op rfl rfl rfl (run_pick_or rfl (by exact rfl) rfl (fun hq => glv (by exact rfl) (fun h => h) hq)) ?_
    refine r_op rfl rfl rfl (run_mv (v := .bool _) rfl (by exact rfl)) ?_
    refine r_g rfl (wantF (by exact rfl)) rfl (fun hg => run_mv (v := .int _ _) rfl (by exact rfl)) ?_
    refine r_g rfl (wantF (by exact rfl)) rfl (fun hg => run_geq rfl (glv (by exact rfl) (fun h => h) hg) (by exact rfl)) ?_
    refine r_op rfl rfl rfl (run_pick_or rfl (by exact rfl) rfl (fun hq => glv (by exact rfl) (fun h => h) hq)) ?_
    refine r_op rfl rfl rfl (run_asg (v := .bool _) rfl (by exact rfl)) ?_
    refine r_nil ?_
    refine r_cond (by exact rfl) (fun hc4 => ?_) (fun hc4 => ?_)
    ·skip
     refine r_seq ?_
     refine r_region ?_
     refine r_op rfl rfl rfl (run_asg (v := .int _ _) rfl (by exact rfl)) ?_
     refine r_nil ?_
     refine r_ret (res1 (v := .int _ _) rfl (by exact rfl)) ?_
     exact ⟨ret_int (by rw [cls_letter (by omega)]), hV⟩
    ·skip
     refine r_skip ?_
     refine r_blk ?_
     refine r_seq ?_
     refine r_region ?_
     refine r_op rfl rfl rfl (run_asg (v := .int _ _) rfl (by exact rfl)) ?_
     refine r_nil ?_
     refine r_ret (res1 (v := .int _ _) rfl (by exact rfl)) ?_
     exact ⟨ret_int (by rw [cls_mark (by omega) (by omega) (by omega) (by omega)]), hV⟩
theorem lower_calls {s : Str} {w0 : World} (hs : s.length ≤ 140737488355328) :
    Calls Tryz.prog 80 #[S s] w0 fun e w' => e = .returned (S (lowS s)) ∧ Evo w0 w' [] := by
 refine calls_enter (n := 30) (args := [S s]) Tryz.func80 rfl Tryz.ntmps80 rfl ?_
 have hV : Evo w0 w0 [] := Evo.refl _ _
 refine r_seq ?_
 refine r_region ?_
 refine r_op rfl rfl rfl (run_asg (v := S _) rfl (by exact rfl)) ?_
 refine r_nil ?_
 refine r_seq ?_
 refine r_region ?_
 refine r_op rfl rfl rfl (run_mv (v := S _) rfl (by exact rfl)) ?_
 refine r_cvSB rfl Tryz.underlying9 Tryz.underlying141 Tryz.underlying5 (by exact rfl) (by first | omega | (simp; omega)) ?_
 intro b1 capb1 w2 heb1 hEw2 hyb1 hzb1
 have hs_w2 := (hEw2).size
 replace hV := evo_step0 hV hEw2
 have hrb1 := hyb1.row
 refine r_op rfl rfl rfl (run_asg (v := .slice (some ⟨b1, 0, none⟩) _ _) rfl (by exact rfl)) ?_
 refine r_nil ?_
 refine r_seq ?_
 refine r_seq ?_
 refine r_region ?_
 refine r_op rfl rfl rfl (run_mv (v := .slice (some ⟨b1, 0, none⟩) _ _) rfl (by exact rfl)) ?_
 refine r_op rfl rfl rfl (run_lenSl rfl (by exact rfl) Tryz.underlying141) ?_
 refine r_op rfl rfl rfl (run_mv (v := .int _ _) rfl (by exact rfl)) ?_
 refine r_nil ?_
 refine r_block ?_
 refine r_loop (α := Nat) [4, 5, 10, 11, 12, 13, 14, 15, 16, 17, 18, 19, 20, 21, 22, 23, 24, 25, 26, 27] (fun k g w => g 10 = .int .i64 (k : Nat) ∧ k ≤ s.length ∧ ByB w b1 capb1 (lowK s k) ∧ RowE w (some ⟨b1, 0, none⟩) b1 0 capb1 (lowK s k) ∧ w2.heap.size ≤ w.heap.size ∧ Evo w0 w []) (fun k => s.length - k) 0 ?_ ?_
 ·refine ⟨(by first | exact rfl | exact congrArg (Value.int _) (by omega) | exact congrArg (Value.int _) (by dsimp only; omega) | exact congrArg (Value.int _) (by simp) | exact congrArg S (by simp)), (by first | assumption | omega | (dsimp only; omega) | (simp; done)), (by rw [lowK_zero]; exact hyb1), (by rw [lowK_zero]; exact hrb1), (by first | assumption | omega | (dsimp only; omega) | (simp; done)), hV⟩
 ·rintro k g w4 ⟨hj5, hk_k, hyb1, hrb1, hzl3, hV⟩
  have hs_w4hV := hV.size
  refine r_know (i := 10) (v := .int .i64 (k : Nat)) (by exact hj5) ?_
  have hll := lowK_len s k
  have hlg := fun h => lowK_get (s := s) (k := k) h
  have hln := fun h => congrArg UInt8.toNat (lowK_get (s := s) (k := k) h)
  refine r_seq ?_
  refine r_region ?_
  refine r_op rfl rfl rfl (run_lss rfl (by exact rfl) (by exact rfl)) ?_
  refine r_nil ?_
  refine r_seq ?_
  refine r_cond (by exact rfl) (fun hc6 => ?_) (fun hc6 => ?_)
  ·skip
   refine r_skip ?_
   refine r_seq ?_
   refine r_block ?_
   refine r_seq ?_
   refine r_region ?_
   refine r_op rfl rfl rfl (run_mv (v := .int _ _) rfl (by exact rfl)) ?_
   refine r_op rfl rfl rfl (run_ix (k) rfl Tryz.underlying141 ty_5 (by exact rfl) (by exact rfl) (by first | exact rfl | omega) (by omega) (hrb1.addr (i := k) (by omega))) ?_
   have hA7 := hrb1.atD (k) (by omega)
   refine r_op rfl rfl rfl (run_ld1 rfl ag_5 (by exact rfl) (hA7.cell 0 (by exact rfl))) ?_
   refine r_op rfl rfl rfl (run_asg (v := .int _ _) rfl (by exact rfl)) ?_
   refine r_op rfl rfl rfl (run_asg (v := .int _ _) rfl (by exact rfl)) ?_
   refine r_nil ?_
   refine r_seq ?_
   refine r_region ?_
   refine r_op rfl rfl rfl (run_mv (v := .int _ _) rfl (by exact rfl)) ?_
   refine r_op rfl rfl rfl (run_geq rfl (by exact rfl) (by exact rfl)) ?_
   refine r_op rfl rfl rfl (run_mv (v := .bool _) rfl (by exact rfl)) ?_
   refine r_g rfl (wantT (by exact rfl)) rfl (fun hg => run_mv (v := .int _ _) rfl (by exact rfl)) ?_
   refine r_g rfl (wantT (by exact rfl)) rfl (fun hg => run_leq rfl (glv (by exact rfl) (fun h => h) hg) (by exact rfl)) ?_
   refine r_op rfl rfl rfl (run_pick_and rfl (by exact rfl) (fun hq => glv (by exact rfl) (fun h => h) hq) rfl) ?_
   refine r_nil ?_
   refine r_cond (by exact rfl) (fun hc8 => ?_) (fun hc8 => ?_)
   ·skip
    refine r_region ?_
    refine r_op rfl rfl rfl (run_mv (v := .slice (some ⟨b1, 0, none⟩) _ _) rfl (by exact rfl)) ?_
    refine r_op rfl rfl rfl (run_mv (v := .int _ _) rfl (by exact rfl)) ?_
    refine r_op rfl rfl rfl (run_mv (v := .int _ _) rfl (by exact rfl)) ?_
    refine r_op rfl rfl rfl (run_addw rfl (by exact rfl) (by exact rfl)) ?_
    refine r_op rfl rfl rfl (run_subw rfl (by exact rfl) (by exact rfl)) ?_
    refine r_op rfl rfl rfl (run_ix (k) rfl Tryz.underlying141 ty_5 (by exact rfl) (by exact rfl) (by first | exact rfl | omega) (by omega) (hrb1.addr (i := k) (by omega))) ?_
    have hA9 := hrb1.atD (k) (by omega)
    refine r_storeBy2 (k) ((lwB (s.getD k 0))) (by exact rfl) (by first | omega | (show 0 + _ * 1 = _; omega)) (by exact rfl) (by have h8 := hlg (by omega); refine Eq.trans ?_ (low_add (c := s.getD k 0) (by rw [← h8]; omega) (by rw [← h8]; omega)); rw [h8]) hyb1 (by omega) ty_5 ?_
    intro w10 hEw10 hzw10 hy_new
    have hs_w10 := (hEw10).size
    replace hV := evo_step1 hV hEw10 (by first | exact .inl (by omega) | exact .inr (by simp))
    have hyb1 := hy_new
    have hrb1 := hyb1.row
    clear hy_new
    refine r_nil ?_
    refine r_blk ?_
    refine r_region ?_
    refine r_op rfl rfl rfl (run_add rfl (by exact rfl) (by exact rfl) (by omega) (by omega)) ?_
    refine r_op rfl rfl rfl (run_mv (v := .int _ _) rfl (by exact rfl)) ?_
    refine r_nil ?_
    refine r_again (k + 1) ?_ ?_ ?_
    ·first | omega | (dsimp only; omega)
    ·refine ⟨(by first | exact rfl | exact congrArg (Value.int _) (by omega) | exact congrArg (Value.int _) (by dsimp only; omega) | exact congrArg (Value.int _) (by simp) | exact congrArg S (by simp)), (by first | assumption | omega | (dsimp only; omega) | (simp; done)), (by first | (have h9 := hyb1; rw [lowK_set (by omega)] at h9; exact h9) | (rw [lowK_keep (by omega) (by have := hln (by omega); omega)]; exact hyb1)), (by first | (have h9 := hrb1; rw [lowK_set (by omega)] at h9; exact h9) | (rw [lowK_keep (by omega) (by have := hln (by omega); omega)]; exact hrb1)), (by first | assumption | omega | (dsimp only; omega) | (simp; done)), hV⟩
    ·repeat (first | (with_reducible exact Agree.merge _ _ _) | (with_reducible exact Agree.refl _ _) | (with_reducible refine Agree.upd ?_ _ _ rfl) | ((with_reducible refine Agree.inner ?_ ?_); (kernel_rfl)))
   ·skip
    refine r_skip ?_
    refine r_blk ?_
    refine r_region ?_
    refine r_op rfl rfl rfl (run_add rfl (by exact rfl) (by exact rfl) (by omega) (by omega)) ?_
    refine r_op rfl rfl rfl (run_mv (v := .int _ _) rfl (by exact rfl)) ?_
    refine r_nil ?_
    refine r_again (k + 1) ?_ ?_ ?_
    ·first | omega | (dsimp only; omega)
    ·refine ⟨(by first | exact rfl | exact congrArg (Value.int _) (by omega) | exact congrArg (Value.int _) (by dsimp only; omega) | exact congrArg (Value.int _) (by simp) | exact congrArg S (by simp)), (by first | assumption | omega | (dsimp only; omega) | (simp; done)), (by first | (have h9 := hyb1; rw [lowK_set (by omega)] at h9; exact h9) | (rw [lowK_keep (by omega) (by have := hln (by omega); omega)]; exact hyb1)), (by first | (have h9 := hrb1; rw [lowK_set (by omega)] at h9; exact h9) | (rw [lowK_keep (by omega) (by have := hln (by omega); omega)]; exact hrb1)), (by first | assumption | omega | (dsimp only; omega) | (simp; done)), hV⟩
    ·repeat (first | (with_reducible exact Agree.merge _ _ _) | (with_reducible exact Agree.refl _ _) | (with_reducible refine Agree.upd ?_ _ _ rfl) | ((with_reducible refine Agree.inner ?_ ?_); (kernel_rfl)))
  ·skip
   refine r_exit rfl ?_
   refine r_seq ?_
   refine r_region ?_
   refine r_op rfl rfl rfl (run_mv (v := .slice (some ⟨b1, 0, none⟩) _ _) rfl (by exact rfl)) ?_
   refine r_op rfl rfl rfl (run_cvBS rfl Tryz.underlying141 Tryz.underlying5 Tryz.underlying9 (by exact rfl) (by first | rfl | simp) hrb1) ?_
   refine r_op rfl rfl rfl (run_asg (v := S _) rfl (by exact rfl)) ?_
   refine r_nil ?_
   refine r_ret (res1 (v := S _) rfl (by exact rfl)) ?_
   exact ⟨by rw [← lowK_all (k := k) (by omega)], hV⟩
theorem rlower_calls {s : Str} {w0 : World} (hs : s.length ≤ 140737488355328) :
    Calls Tryz.prog 87 #[S s] w0 fun e w' => e = .returned (S (lowS s)) ∧ Evo w0 w' [] := by
 refine calls_enter (n := 33) (args := [S s]) Tryz.func87 rfl Tryz.ntmps87 rfl ?_
 have hV : Evo w0 w0 [] := Evo.refl _ _
 refine r_seq ?_
 refine r_region ?_
 refine r_op rfl rfl rfl (run_asg (v := S _) rfl (by exact rfl)) ?_
 refine r_nil ?_
 refine r_seq ?_
 refine r_region ?_
 refine r_op rfl rfl rfl (run_mv (v := S _) rfl (by exact rfl)) ?_
 refine r_cvSB rfl Tryz.underlying9 Tryz.underlying141 Tryz.underlying5 (by exact rfl) (by first | omega | (simp; omega)) ?_
 intro b1 capb1 w2 heb1 hEw2 hyb1 hzb1
 have hs_w2 := (hEw2).size
 replace hV := evo_step0 hV hEw2
 have hrb1 := hyb1.row
 refine r_op rfl rfl rfl (run_asg (v := .slice (some ⟨b1, 0, none⟩) _ _) rfl (by exact rfl)) ?_
 refine r_nil ?_
 refine r_seq ?_
 refine r_seq ?_
 refine r_region ?_
 refine r_op rfl rfl rfl (run_mv (v := .slice (some ⟨b1, 0, none⟩) _ _) rfl (by exact rfl)) ?_
 refine r_op rfl rfl rfl (run_lenSl rfl (by exact rfl) Tryz.underlying141) ?_
 refine r_op rfl rfl rfl (run_mv (v := .int _ _) rfl (by exact rfl)) ?_
 refine r_nil ?_
 refine r_block ?_
 refine r_loop (α := Nat) [4, 9, 10, 11, 12, 13, 14, 15, 16, 17, 18, 19, 20, 21, 22, 23, 24, 25, 26, 27, 28, 29, 30] (fun k g w => g 9 = .int .i64 (k : Nat) ∧ k ≤ s.length ∧ ByB w b1 capb1 (lowK s k) ∧ RowE w (some ⟨b1, 0, none⟩) b1 0 capb1 (lowK s k) ∧ w2.heap.size ≤ w.heap.size ∧ Evo w0 w []) (fun k => s.length - k) 0 ?_ ?_
 ·refine ⟨(by first | exact rfl | exact congrArg (Value.int _) (by omega) | exact congrArg (Value.int _) (by dsimp only; omega) | exact congrArg (Value.int _) (by simp) | exact congrArg S (by simp)), (by first | assumption | omega | (dsimp only; omega) | (simp; done)), (by rw [lowK_zero]; exact hyb1), (by rw [lowK_zero]; exact hrb1), (by first | assumption | omega | (dsimp only; omega) | (simp; done)), hV⟩
 ·rintro k g w4 ⟨hj5, hk_k, hyb1, hrb1, hzl3, hV⟩
  have hs_w4hV := hV.size
  refine r_know (i := 9) (v := .int .i64 (k : Nat)) (by exact hj5) ?_
  have hll := lowK_len s k
  have hlg := fun h => lowK_get (s := s) (k := k) h
  have hln := fun h => congrArg UInt8.toNat (lowK_get (s := s) (k := k) h)
  refine r_seq ?_
  refine r_region ?_
  refine r_op rfl rfl rfl (run_lss rfl (by exact rfl) (by exact rfl)) ?_
  refine r_nil ?_
  refine r_seq ?_
  refine r_cond (by exact rfl) (fun hc6 => ?_) (fun hc6 => ?_)
  ·skip
   refine r_skip ?_
   refine r_seq ?_
   refine r_block ?_
   refine r_seq ?_
   refine r_region ?_
   refine r_op rfl rfl rfl (run_mv (v := .int _ _) rfl (by exact rfl)) ?_
   refine r_op rfl rfl rfl (run_asg (v := .int _ _) rfl (by exact rfl)) ?_
   refine r_nil ?_
   refine r_seq ?_
   refine r_region ?_
   refine r_op rfl rfl rfl (run_mv (v := .slice (some ⟨b1, 0, none⟩) _ _) rfl (by exact rfl)) ?_
   refine r_op rfl rfl rfl (run_mv (v := .int _ _) rfl (by exact rfl)) ?_
   refine r_op rfl rfl rfl (run_ix (k) rfl Tryz.underlying141 ty_5 (by exact rfl) (by exact rfl) (by first | exact rfl | omega) (by omega) (hrb1.addr (i := k) (by omega))) ?_
   have hA7 := hrb1.atD (k) (by omega)
   refine r_op rfl rfl rfl (run_ld1 rfl ag_5 (by exact rfl) (hA7.cell 0 (by exact rfl))) ?_
   refine r_op rfl rfl rfl (run_geq rfl (by exact rfl) (by exact rfl)) ?_
   refine r_op rfl rfl rfl (run_mv (v := .bool _) rfl (by exact rfl)) ?_
   refine r_g rfl (wantT (by exact rfl)) rfl (fun hg => run_mv (v := .slice (some ⟨b1, 0, none⟩) _ _) rfl (by exact rfl)) ?_
   refine r_g rfl (wantT (by exact rfl)) rfl (fun hg => run_mv (v := .int _ _) rfl (by exact rfl)) ?_
   refine r_g rfl (wantT (by exact rfl)) rfl (fun hg => run_ix (k) rfl Tryz.underlying141 ty_5 (glv (by exact rfl) (fun h => h) hg) (glv (by exact rfl) (fun h => h) hg) (by first | exact rfl | omega) (by omega) (hrb1.addr (i := k) (by omega))) ?_
   refine r_g rfl (wantT (by exact rfl)) rfl (fun hg => run_ld1 rfl ag_5 (glv (by exact rfl) (fun h => h) hg) ((hrb1.atD (k) (by omega)).cell 0 (by exact rfl))) ?_
   refine r_g rfl (wantT (by exact rfl)) rfl (fun hg => run_leq rfl (glv (by exact rfl) (fun h => h) hg) (by exact rfl)) ?_
   refine r_op rfl rfl rfl (run_pick_and rfl (by exact rfl) (fun hq => glv (by exact rfl) (fun h => h) hq) rfl) ?_
   refine r_nil ?_
   refine r_cond (by exact rfl) (fun hc8 => ?_) (fun hc8 => ?_)
   ·skip
    refine r_region ?_
    refine r_op rfl rfl rfl (run_mv (v := .slice (some ⟨b1, 0, none⟩) _ _) rfl (by exact rfl)) ?_
    refine r_op rfl rfl rfl (run_mv (v := .int _ _) rfl (by exact rfl)) ?_
    refine r_op rfl rfl rfl (run_ix (k) rfl Tryz.underlying141 ty_5 (by exact rfl) (by exact rfl) (by first | exact rfl | omega) (by omega) (hrb1.addr (i := k) (by omega))) ?_
    have hA9 := hrb1.atD (k) (by omega)
    refine r_op rfl rfl rfl (run_ld1 rfl ag_5 (by exact rfl) (hA9.cell 0 (by exact rfl))) ?_
    refine r_op rfl rfl rfl (run_addw rfl (by exact rfl) (by exact rfl)) ?_
    refine r_op rfl rfl rfl (run_ix (k) rfl Tryz.underlying141 ty_5 (by exact rfl) (by exact rfl) (by first | exact rfl | omega) (by omega) (hrb1.addr (i := k) (by omega))) ?_
    have hA10 := hrb1.atD (k) (by omega)
    refine r_storeBy2 (k) ((lwB (s.getD k 0))) (by exact rfl) (by first | omega | (show 0 + _ * 1 = _; omega)) (by exact rfl) (by have h8 := hlg (by omega); refine Eq.trans ?_ (low_add2 (c := s.getD k 0) (by rw [← h8]; omega) (by rw [← h8]; omega)); rw [h8]) hyb1 (by omega) ty_5 ?_
    intro w11 hEw11 hzw11 hy_new
    have hs_w11 := (hEw11).size
    replace hV := evo_step1 hV hEw11 (by first | exact .inl (by omega) | exact .inr (by simp))
    have hyb1 := hy_new
    have hrb1 := hyb1.row
    clear hy_new
    refine r_nil ?_
    refine r_blk ?_
    refine r_region ?_
    refine r_op rfl rfl rfl (run_add rfl (by exact rfl) (by exact rfl) (by omega) (by omega)) ?_
    refine r_op rfl rfl rfl (run_mv (v := .int _ _) rfl (by exact rfl)) ?_
    refine r_nil ?_
    refine r_again (k + 1) ?_ ?_ ?_
    ·first | omega | (dsimp only; omega)
    ·refine ⟨(by first | exact rfl | exact congrArg (Value.int _) (by omega) | exact congrArg (Value.int _) (by dsimp only; omega) | exact congrArg (Value.int _) (by simp) | exact congrArg S (by simp)), (by first | assumption | omega | (dsimp only; omega) | (simp; done)), (by first | (have h9 := hyb1; rw [lowK_set (by omega)] at h9; exact h9) | (rw [lowK_keep (by omega) (by have := hln (by omega); omega)]; exact hyb1)), (by first | (have h9 := hrb1; rw [lowK_set (by omega)] at h9; exact h9) | (rw [lowK_keep (by omega) (by have := hln (by omega); omega)]; exact hrb1)), (by first | assumption | omega | (dsimp only; omega) | (simp; done)), hV⟩
    ·repeat (first | (with_reducible exact Agree.merge _ _ _) | (with_reducible exact Agree.refl _ _) | (with_reducible refine Agree.upd ?_ _ _ rfl) | ((with_reducible refine Agree.inner ?_ ?_); (kernel_rfl)))
   ·skip
    refine r_skip ?_
    refine r_blk ?_
    refine r_region ?_
    refine r_op rfl rfl rfl (run_add rfl (by exact rfl) (by exact rfl) (by omega) (by omega)) ?_
    refine r_op rfl rfl rfl (run_mv (v := .int _ _) rfl (by exact rfl)) ?_
    refine r_nil ?_
    refine r_again (k + 1) ?_ ?_ ?_
    ·first | omega | (dsimp only; omega)
    ·refine ⟨(by first | exact rfl | exact congrArg (Value.int _) (by omega) | exact congrArg (Value.int _) (by dsimp only; omega) | exact congrArg (Value.int _) (by simp) | exact congrArg S (by simp)), (by first | assumption | omega | (dsimp only; omega) | (simp; done)), (by first | (have h9 := hyb1; rw [lowK_set (by omega)] at h9; exact h9) | (rw [lowK_keep (by omega) (by have := hln (by omega); omega)]; exact hyb1)), (by first | (have h9 := hrb1; rw [lowK_set (by omega)] at h9; exact h9) | (rw [lowK_keep (by omega) (by have := hln (by omega); omega)]; exact hrb1)), (by first | assumption | omega | (dsimp only; omega) | (simp; done)), hV⟩
    ·repeat (first | (with_reducible exact Agree.merge _ _ _) | (with_reducible exact Agree.refl _ _) | (with_reducible refine Agree.upd ?_ _ _ rfl) | ((with_reducible refine Agree.inner ?_ ?_); (kernel_rfl)))
  ·skip
   refine r_exit rfl ?_
   refine r_seq ?_
   refine r_region ?_
   refine r_op rfl rfl rfl (run_mv (v := .slice (some ⟨b1, 0, none⟩) _ _) rfl (by exact rfl)) ?_
   refine r_op rfl rfl rfl (run_cvBS rfl Tryz.underlying141 Tryz.underlying5 Tryz.underlying9 (by exact rfl) (by first | rfl | simp) hrb1) ?_
   refine r_op rfl rfl rfl (run_asg (v := S _) rfl (by exact rfl)) ?_
   refine r_nil ?_
   refine r_ret (res1 (v := S _) rfl (by exact rfl)) ?_
   exact ⟨by rw [← lowK_all (k := k) (by omega)], hV⟩
end Go.Proofs.YthbcklajlmcifaaGreat
namespace Go.Vc
open Go Go.RowKit Go.IntWalk Go.Deep
instance : Enc Ende := ⟨2, fun x => [S x.strip, S x.add], fun _ => rfl, fun _ => rfl, by decide⟩
def BdE (x : Ende) : Prop := x.strip.length ≤ 140737488351232 ∧ x.add.length ≤ 140737488351232
def BdC (x : Clas) : Prop := x.name.length ≤ 140737488351232 ∧ (∀ y ∈ x.ends, BdE y) ∧ x.ends.length ≤ 4398046510976
instance : Rep Clas where
  n := 2
  rep w cs x := (∃ ao b off cap, cs = [S x.name, .slice ao x.ends.length cap] ∧ RowE w ao b off cap x.ends) ∧ BdC x
  len := fun ⟨⟨_, _, _, _, h, _⟩, _⟩ => by rw [h]; rfl
  evo0 := fun ⟨⟨ao, b, off, cap, h, hr⟩, hb⟩ he => ⟨⟨ao, b, off, cap, h, hr.evo0 he⟩, hb⟩
  pos := by decide
theorem getD_in {α : Type} [Inhabited α] {l : List α} {k : Nat} (h : k < l.length) : l.getD k default ∈ l := by
  have e : l.getD k default = l[k] := by simp [List.getD, h]
  rw [e]; exact List.getElem_mem _
end Go.Vc
namespace Go.Vc
open Go Go.RowKit Go.IntWalk
section
variable {P : Program} {f : Fr} {w : World} {o : Oper}
theorem run_mkF {g : FuncId} {xs : List Operand} {vs : List Value} (ho : o.op = .makeFunc (.func g) #[] xs.toArray) (hvs : xs.map (opv f) = vs) : (execOp (opv f) o).run P w = .ok (.value (.func (.func g) #[] vs.toArray)) w := by
  unfold execOp; rw [ho]; simp only []
  rw [show xs.toArray.map (opv f) = vs.toArray from by rw [← hvs]; simp]
  simp [Instr.makeFunc]
theorem run_callfn {g : FuncId} {F : Operand} {args : List Operand} {ts : Array TypeId} {vs cs : List Value} {fn : Func} {c : Code} (ho : o.op = .call ⟨.value F, args.toArray, ts⟩) (hF : opv f F = .func (.func g) #[] cs.toArray) (hvs : args.map (opv f) = vs)
    (hf : P.funcs[g]? = some fn) (hb : fn.body = some c) (hn : (fn.name == "runtime.NumGoroutine") = false) : (execOp (opv f) o).run P w = .ok (.enter g (vs ++ cs).toArray) w := by
  unfold execOp; rw [ho]; simp only [resolve]
  rw [show args.toArray.map (opv f) = vs.toArray from by rw [← hvs]; simp, hF]
  have hn' : ¬ fn.name = "runtime.NumGoroutine" := by simpa using hn
  simp [Deferred.ofValue, invoke, callFunc, hf, hb, hn']
end
section
variable {α β : Type} {P : Program} {B : Exit → Act → World → Prop} {n : Nat} {k : List Kont} {f : Fr} {w : World} {ops : Array Oper} {rest : List Oper} {K E : TypeId} {ek : α → Value} {ev : β → Value} {m : List (α × β)} {b : Nat}
end
end Go.Vc
namespace Go.Proofs.YthbcklajlmcifaaGreat
open Go.RowKit Go.Vc
theorem take_bothI {α : Type} [Inhabited α] {a b : List α} {k : Nat} (hp : a.take k = b.take k) (ha : k < a.length) (hb : k < b.length) (h : a.getD k default = b.getD k default) : a.take (k + 1) = b.take (k + 1) := by
  rw [take_succD a k ha, take_succD b k hb, hp, h]
end Go.Proofs.YthbcklajlmcifaaGreat
namespace Go.Vc
open Go Go.RowKit Go.IntWalk Go.Deep
def decW (n : Nat) (s : Str) : Str := if n / 10 = 0 then UInt8.ofNat (48 + n % 10) :: s else decW (n / 10) (UInt8.ofNat (48 + n % 10) :: s)
termination_by n
decreasing_by omega
theorem decW_stop {n : Nat} (s : Str) (h : n / 10 = 0) : decW n s = UInt8.ofNat (48 + n % 10) :: s := by rw [decW, if_pos h]
theorem decW_go {n : Nat} (s : Str) (h : ¬ n / 10 = 0) : decW n s = decW (n / 10) (UInt8.ofNat (48 + n % 10) :: s) := by rw [decW, if_neg h]
theorem decW_len : ∀ (k n : Nat) (s : Str), n < 10 ^ (k + 1) → (decW n s).length ≤ s.length + (k + 1)
  | 0, n, s, h => by rw [decW_stop s (by omega)]; simp
  | k + 1, n, s, h => by
    by_cases h1 : n / 10 = 0
    · rw [decW_stop s h1]; simp
    · rw [decW_go s h1]
      have := decW_len k (n / 10) (UInt8.ofNat (48 + n % 10) :: s) (by rw [Nat.pow_succ] at h; omega)
      simp only [List.length_cons] at this
      omega
theorem ret_str {a b : Str} (h : a = b) : Ending.returned (S a) = .returned (S b) := by rw [h]
def stripsL : List Str := [[], [], [121], [115], [97]]
def addsL : List Str := [[115], [105, 101, 115], [], [101, 115], [97], [101, 114]]
def MadeE (es : List Ende) : Prop := es.Nodup ∧ ∀ e ∈ es, e.strip ∈ stripsL ∧ e.add ∈ addsL
def MadeP (cl : List Clas) (N i : Nat) : Prop := cl.length + i = N ∧ (∀ k, (h : k < cl.length) → (cl[k]'h).name = 99 :: decW (N - k) []) ∧ ∀ x ∈ cl, MadeE x.ends ∧ x.ends.length ≤ 3
theorem MadeE.nil : MadeE [] := ⟨List.nodup_nil, by simp⟩
theorem MadeP.nil (N : Nat) : MadeP [] N N := ⟨by simp, by simp, by simp⟩
theorem strip_len {s : Str} (h : s ∈ stripsL) : s.length ≤ 1 := by
  have : ∀ s ∈ stripsL, s.length ≤ 1 := by decide
  exact this s h
theorem add_len {s : Str} (h : s ∈ addsL) : s.length ≤ 3 := by
  have : ∀ s ∈ addsL, s.length ≤ 3 := by decide
  exact this s h
theorem MadeE.bd {es : List Ende} (h : MadeE es) : ∀ e ∈ es, BdE e := fun e he => by
  have h1 := strip_len (h.2 e he).1
  have h2 := add_len (h.2 e he).2
  exact ⟨by omega, by omega⟩
theorem made_bdC {es : List Ende} {n : Nat} (h : MadeE es) (hl : es.length ≤ 3) (hn : n ≤ 9) : BdC ⟨99 :: decW n [], es⟩ := by
  have := decW_len 0 n [] (by omega)
  refine ⟨?_, h.bd, ?_⟩
  · simp only [List.length_cons, List.length_nil] at this ⊢; omega
  · show es.length ≤ _; omega
theorem MadeP.mem {cl : List Clas} {N i : Nat} (h : MadeP cl N i) {x : Clas} (hx : x ∈ cl) : MadeE x.ends ∧ x.ends.length ≤ 3 := h.2.2 x hx
theorem MadeP.bd {cl : List Clas} {N i : Nat} (h : MadeP cl N i) (hN : N ≤ 9) : ∀ x ∈ cl, BdC x := fun x hx => by
  obtain ⟨k, hk, rfl⟩ := List.mem_iff_getElem.1 hx
  have h1 := h.2.1 k hk
  have h2 := h.2.2 _ hx
  have h3 := made_bdC (n := N - k) h2.1 h2.2 (by omega)
  rw [← h1] at h3
  exact h3
end Go.Vc
namespace Go.Vc
open Go Go.RowKit Go.IntWalk
section
variable {P : Program} {w : World} {f : Fr} {o : Oper}
theorem equalIn_str (d : Nat) {T : TypeId} (u : P.underlying T = some .string) (a b : Str) : (Op.equalIn (d + 1) T (S a) (S b)).run P w = .ok (a == b) w := by
  have := run_equalIn_string (P := P) w d T ⟨a.toArray⟩ ⟨b.toArray⟩ u
  rw [toList_S, toList_S] at this
  exact this
theorem equalIn_ende (d : Nat) {T : TypeId} {f0 f1 : Field} (hu : P.underlying T = some (.struct #[f0, f1])) (hp : P.stoodInHeld T = false) (n0 : f0.name ≠ "_") (n1 : f1.name ≠ "_")
    (o0 : f0.offset = 0) (o1 : f1.offset = 1) (u0 : P.underlying f0.type = some .string) (u1 : P.underlying f1.type = some .string)
    (a0 : aggP P f0.type = some false) (a1 : aggP P f1.type = some false) (x y : Ende) :
    (Op.equalIn (d + 2) T (.agg (Enc.enc x).toArray) (.agg (Enc.enc y).toArray)).run P w = .ok (decide (x = y)) w := by
  have hf : P.fieldsOf T = #[f0, f1] := by simp [Program.fieldsOf, hu]
  rw [run_equalIn_struct (P := P) w (d + 1) T _ _ (by rw [hf]; exact hu) hp, hf]
  have p0 : ∀ (z : Ende), (part f0.type (Enc.enc z).toArray 0).run P w = .ok (S z.strip) w := fun z => run_part1 a0 rfl
  have p1 : ∀ (z : Ende), (part f1.type (Enc.enc z).toArray 1).run P w = .ok (S z.add) w := fun z => run_part1 a1 rfl
  have e0 := equalIn_str (P := P) (w := w) d u0 x.strip y.strip
  have e1 := equalIn_str (P := P) (w := w) d u1 x.add y.add
  have key : (Op.eqFields (d + 1) (Enc.enc x).toArray (Enc.enc y).toArray [f0, f1]).run P w = .ok ((x.strip == y.strip) && (x.add == y.add)) w := by
    simp only [Op.eqFields, n0, n1, o0, o1, ne_eq, not_false_eq_true, if_true, Sem.run_bind, p0, e0, Result.andThen_ok]
    cases (x.strip == y.strip) with
    | false => simp
    | true =>
      simp only [Bool.not_true, Bool.false_eq_true, if_false, Sem.run_bind, p1, e1, Result.andThen_ok, Bool.true_and]
      cases (x.add == y.add) with
      | false => simp
      | true => simp
  have e3 : ((x.strip == y.strip) && (x.add == y.add)) = decide (x = y) := by
    obtain ⟨k1, t1⟩ := x
    obtain ⟨k2, t2⟩ := y
    rw [Bool.eq_iff_iff]
    simp
  rw [← e3]
  exact key
end
end Go.Vc
namespace Go.Proofs.YthbcklajlmcifaaGreat
open Go.RowKit Go.Vc
theorem ag_22 : aggP Tryz.prog 22 = some false := by kernel_rfl
theorem ag_3 : aggP Tryz.prog 3 = some false := by kernel_rfl
theorem fo_33_0 : fieldP Tryz.prog 33 0 = some 0 := by kernel_rfl
theorem fo_33_1 : fieldP Tryz.prog 33 1 = some 1 := by kernel_rfl
theorem ty_3 : tyP Tryz.prog 3 = some (1, 8, some (.int .i64 0)) := by kernel_rfl
theorem place_calls (x n : Int) {w0 : World} (hn : 1 ≤ n) (hn2 : n ≤ 1000000000) :
    Calls Tryz.prog 8 #[.int .i64 x, .int .i64 n] w0 fun e w' => e = .returned (.int .i64 (x % n)) ∧ w0 = w' := by
 refine calls_enter (n := 14) (args := [.int .i64 x, .int .i64 n]) Tryz.func8 rfl Tryz.ntmps8 rfl ?_
 have hV : Evo w0 w0 [] := Evo.refl _ _
 refine r_seq ?_
 refine r_region ?_
 refine r_op rfl rfl rfl (run_asg (v := .int _ _) rfl (by exact rfl)) ?_
 refine r_nil ?_
 refine r_seq ?_
 refine r_region ?_
 refine r_op rfl rfl rfl (run_mv (v := .int _ _) rfl (by exact rfl)) ?_
 refine r_op rfl rfl rfl (run_mv (v := .int _ _) rfl (by exact rfl)) ?_
 refine r_op rfl rfl rfl (run_rem rfl (by exact rfl) (by exact rfl) (by omega)) ?_
 refine r_op rfl rfl rfl (run_asg (v := .int _ _) rfl (by exact rfl)) ?_
 refine r_nil ?_
 refine r_seq ?_
 refine r_seq ?_
 refine r_region ?_
 refine r_op rfl rfl rfl (run_mv (v := .int _ _) rfl (by exact rfl)) ?_
 refine r_op rfl rfl rfl (run_lss rfl (by exact rfl) (by exact rfl)) ?_
 refine r_nil ?_
 refine r_cond (by exact rfl) (fun hc1 => ?_) (fun hc1 => ?_)
 ·skip
  refine r_region ?_
  refine r_op rfl rfl rfl (run_mv (v := .int _ _) rfl (by exact rfl)) ?_
  refine r_op rfl rfl rfl (run_mv (v := .int _ _) rfl (by exact rfl)) ?_
  refine r_op rfl rfl rfl (run_add rfl (by exact rfl) (by exact rfl) (by have := tmod_bd x n (by omega); omega) (by have := tmod_bd x n (by omega); omega)) ?_
  refine r_op rfl rfl rfl (run_asg (v := .int _ _) rfl (by exact rfl)) ?_
  refine r_nil ?_
  refine r_seq ?_
  refine r_region ?_
  refine r_op rfl rfl rfl (run_mv (v := .int _ _) rfl (by exact rfl)) ?_
  refine r_op rfl rfl rfl (run_asg (v := .int _ _) rfl (by exact rfl)) ?_
  refine r_nil ?_
  refine r_ret (res1 (v := .int _ _) rfl (by exact rfl)) ?_
  exact ⟨ret_int (by rw [← place_neg x n (by omega) (by omega)]), rfl⟩
 ·skip
  refine r_skip ?_
  refine r_seq ?_
  refine r_region ?_
  refine r_op rfl rfl rfl (run_mv (v := .int _ _) rfl (by exact rfl)) ?_
  refine r_op rfl rfl rfl (run_asg (v := .int _ _) rfl (by exact rfl)) ?_
  refine r_nil ?_
  refine r_ret (res1 (v := .int _ _) rfl (by exact rfl)) ?_
  exact ⟨ret_int (by rw [← place_pos x n (by omega) (by omega)]), rfl⟩
theorem next_calls {T bs : Nat} {ao : Option Addr} {b off cap : Nat} {l : List Int} {N : Nat} {n : Int} {w0 : World} (hb : Blk w0 bs T [.slice ao l.length cap, .int .i64 (N : Nat)]) (hl : RowE w0 ao b off cap l) (hN : N ≤ 1000000) (hn : 1 ≤ n) (hn2 : n ≤ 1000000000) :
    Calls Tryz.prog 16 #[.pointer (some ⟨bs, 0, none⟩), .int .i64 n] w0 fun e w' => e = .returned (.int .i64 (nextL l N n)) ∧ Evo w0 w' [bs] ∧ Blk w' bs T [.slice ao l.length cap, .int .i64 (N + 1 : Nat)] := by
 have hAs := hb.at
 refine calls_enter (n := 36) (args := [.pointer (some ⟨bs, 0, none⟩), .int .i64 n]) Tryz.func16 rfl Tryz.ntmps16 rfl ?_
 have hV : Evo w0 w0 [bs] := Evo.refl _ _
 have hbd_hl := hl.bd
 refine r_seq ?_
 refine r_region ?_
 refine r_op rfl rfl rfl (run_asg (v := .int _ _) rfl (by exact rfl)) ?_
 refine r_nil ?_
 refine r_seq ?_
 refine r_region ?_
 refine r_op rfl rfl rfl (run_asg (v := .int _ _) rfl (by exact rfl)) ?_
 refine r_nil ?_
 refine r_seq ?_
 refine r_seq ?_
 refine r_qregion (by kernel_rfl) (by kernel_rfl) ?_
 refine q_op rfl rfl rfl (fun w' hC => run_mv (v := .pointer _) rfl (by exact rfl)) ?_
 refine q_op rfl rfl rfl (fun w' hC => run_nc rfl (by exact rfl)) ?_
 refine q_op rfl rfl rfl (fun w' hC => run_fa rfl (by exact rfl) fo_33_1) ?_
 refine q_op rfl rfl rfl (fun w' hC => run_ld1 rfl ag_3 (by exact rfl) ((hAs.evo0 hC).cell 1 (by exact rfl))) ?_
 refine q_op rfl rfl rfl (fun w' hC => run_mv (v := .pointer _) rfl (by exact rfl)) ?_
 refine q_op rfl rfl rfl (fun w' hC => run_nc rfl (by exact rfl)) ?_
 refine q_op rfl rfl rfl (fun w' hC => run_fa rfl (by exact rfl) fo_33_0) ?_
 refine q_op rfl rfl rfl (fun w' hC => run_ld1 rfl ag_22 (by exact rfl) ((hAs.evo0 hC).cell 0 (by exact rfl))) ?_
 refine q_op rfl rfl rfl (fun w' hC => run_lenSl rfl (by exact rfl) Tryz.underlying22) ?_
 refine q_op rfl rfl rfl (fun w' hC => run_lss rfl (by exact rfl) (by exact rfl)) ?_
 refine q_nil (fun w1 hE2 => ?_)
 have hs_w1 := (hE2).size
 replace hV := evo_step0 hV hE2
 replace hb := hb.evo0 hE2
 replace hAs := hAs.evo0 hE2
 replace hl := hl.evo0 hE2
 refine r_cond (by exact rfl) (fun hc3 => ?_) (fun hc3 => ?_)
 ·skip
  refine r_qregion (by kernel_rfl) (by kernel_rfl) ?_
  refine q_op rfl rfl rfl (fun w' hC => run_mv (v := .pointer _) rfl (by exact rfl)) ?_
  refine q_op rfl rfl rfl (fun w' hC => run_nc rfl (by exact rfl)) ?_
  refine q_op rfl rfl rfl (fun w' hC => run_fa rfl (by exact rfl) fo_33_0) ?_
  refine q_op rfl rfl rfl (fun w' hC => run_ld1 rfl ag_22 (by exact rfl) ((hAs.evo0 hC).cell 0 (by exact rfl))) ?_
  refine q_op rfl rfl rfl (fun w' hC => run_mv (v := .pointer _) rfl (by exact rfl)) ?_
  refine q_op rfl rfl rfl (fun w' hC => run_nc rfl (by exact rfl)) ?_
  refine q_op rfl rfl rfl (fun w' hC => run_fa rfl (by exact rfl) fo_33_1) ?_
  refine q_op rfl rfl rfl (fun w' hC => run_ld1 rfl ag_3 (by exact rfl) ((hAs.evo0 hC).cell 1 (by exact rfl))) ?_
  refine q_op rfl rfl rfl (fun w' hC => run_ix (N) rfl Tryz.underlying22 ty_3 (by exact rfl) (by exact rfl) (by first | exact rfl | omega) (by omega) (hl.addr (i := N) (by omega))) ?_
  have hA4 := hl.atD (N) (by omega)
  refine q_op rfl rfl rfl (fun w' hC => run_ld1 rfl ag_3 (by exact rfl) ((hA4.evo0 hC).cell 0 (by exact rfl))) ?_
  refine q_op rfl rfl rfl (fun w' hC => run_asg (v := .int _ _) rfl (by exact rfl)) ?_
  refine q_nil (fun w5 hE6 => ?_)
  have hs_w5 := (hE6).size
  replace hV := evo_step0 hV hE6
  replace hb := hb.evo0 hE6
  replace hAs := hAs.evo0 hE6
  replace hl := hl.evo0 hE6
  refine r_seq ?_
  refine r_region ?_
  refine r_op rfl rfl rfl (run_mv (v := .pointer _) rfl (by exact rfl)) ?_
  refine r_op rfl rfl rfl (run_nc rfl (by exact rfl)) ?_
  refine r_op rfl rfl rfl (run_fa rfl (by exact rfl) fo_33_1) ?_
  refine r_op rfl rfl rfl (run_ld1 rfl ag_3 (by exact rfl) (hAs.cell 1 (by exact rfl))) ?_
  refine r_op rfl rfl rfl (run_add rfl (by exact rfl) (by exact rfl) (by omega) (by omega)) ?_
  refine r_op rfl rfl rfl (run_nc rfl (by exact rfl)) ?_
  refine r_op rfl rfl rfl (run_fa rfl (by exact rfl) fo_33_1) ?_
  refine r_store (v := .int _ _) (vs := [_]) (cs' := [_, _]) (by exact rfl) (by exact rfl) hb ty_3 (by exact rfl) rfl (by exact rfl) rfl (by exact rfl) ?_
  intro w7 hEw7 hzw7 hb_new
  have hs_w7 := (hEw7).size
  replace hV := evo_step1 hV hEw7 (.inr (by simp))
  replace hb := hb_new
  have hAs := hb.at
  clear hb_new
  refine r_nil ?_
  refine r_seq ?_
  refine r_region ?_
  refine r_op rfl rfl rfl (run_mv (v := .int _ _) rfl (by exact rfl)) ?_
  refine r_op rfl rfl rfl (run_mv (v := .int _ _) rfl (by exact rfl)) ?_
  refine r_opcall rfl rfl rfl (run_callf (vs := [.int _ _, .int _ _]) rfl (by exact rfl) Tryz.func8 rfl (by kernel_rfl)) (place_calls _ _ (by omega) (by omega)) ?_
  rintro e w8 ⟨rfl, rfl⟩
  refine ⟨_, rfl, ?_⟩
  refine r_op rfl rfl rfl (run_asg (v := .int _ _) rfl (by exact rfl)) ?_
  refine r_nil ?_
  refine r_ret (res1 (v := .int _ _) rfl (by exact rfl)) ?_
  exact ⟨ret_int (by first | rfl | (unfold nextL; simp [List.getD, List.getElem?_eq_none (by omega : l.length ≤ N)]; done)), hV, hb⟩
 ·skip
  refine r_skip ?_
  refine r_seq ?_
  refine r_region ?_
  refine r_op rfl rfl rfl (run_mv (v := .pointer _) rfl (by exact rfl)) ?_
  refine r_op rfl rfl rfl (run_nc rfl (by exact rfl)) ?_
  refine r_op rfl rfl rfl (run_fa rfl (by exact rfl) fo_33_1) ?_
  refine r_op rfl rfl rfl (run_ld1 rfl ag_3 (by exact rfl) (hAs.cell 1 (by exact rfl))) ?_
  refine r_op rfl rfl rfl (run_add rfl (by exact rfl) (by exact rfl) (by omega) (by omega)) ?_
  refine r_op rfl rfl rfl (run_nc rfl (by exact rfl)) ?_
  refine r_op rfl rfl rfl (run_fa rfl (by exact rfl) fo_33_1) ?_
  refine r_store (v := .int _ _) (vs := [_]) (cs' := [_, _]) (by exact rfl) (by exact rfl) hb ty_3 (by exact rfl) rfl (by exact rfl) rfl (by exact rfl) ?_
  intro w9 hEw9 hzw9 hb_new
  have hs_w9 := (hEw9).size
  replace hV := evo_step1 hV hEw9 (.inr (by simp))
  replace hb := hb_new
  have hAs := hb.at
  clear hb_new
  refine r_nil ?_
  refine r_seq ?_
  refine r_region ?_
  refine r_op rfl rfl rfl (run_mv (v := .int _ _) rfl (by exact rfl)) ?_
  refine r_op rfl rfl rfl (run_mv (v := .int _ _) rfl (by exact rfl)) ?_
  refine r_opcall rfl rfl rfl (run_callf (vs := [.int _ _, .int _ _]) rfl (by exact rfl) Tryz.func8 rfl (by kernel_rfl)) (place_calls _ _ (by omega) (by omega)) ?_
  rintro e w10 ⟨rfl, rfl⟩
  refine ⟨_, rfl, ?_⟩
  refine r_op rfl rfl rfl (run_asg (v := .int _ _) rfl (by exact rfl)) ?_
  refine r_nil ?_
  refine r_ret (res1 (v := .int _ _) rfl (by exact rfl)) ?_
  exact ⟨ret_int (by first | rfl | (unfold nextL; simp [List.getD, List.getElem?_eq_none (by omega : l.length ≤ N)]; done)), hV, hb⟩
theorem nx_calls {w0 : World} {T bs : Nat} {ao : Option Addr} {b off cap : Nat} {l : List Int} {N : Nat} {n : Int} (hb : Blk w0 bs T [.slice ao l.length cap, .int .i64 (N : Nat)]) (hl : RowE w0 ao b off cap l) (hN : N ≤ 1000000) (hn : 1 ≤ n) (hn2 : n ≤ 1000000000) :
    Calls Tryz.prog 16 #[.pointer (some ⟨bs, 0, none⟩), .int .i64 n] w0 fun e w' => ∃ r, e = .returned (.int .i64 r) ∧ (0 ≤ r ∧ r < n) ∧ Evo w0 w' [bs] ∧ Blk w' bs T [.slice ao l.length cap, .int .i64 (N + 1 : Nat)] :=
  (next_calls hb hl hN hn hn2).mono fun e w' ⟨h1, h2, h3⟩ => ⟨_, h1, nextL_bd l N n hn, h2, h3⟩
end Go.Proofs.YthbcklajlmcifaaGreat
namespace Go.Vc
open Go Go.RowKit Go.IntWalk
section
variable {P : Program} {ops : Array Oper} {Q : Exit → Act → World → Prop} {S : World → Prop}
def YC (P : Program) (ops : Array Oper) (S : World → Prop) (o : Oper) (v : Value) (a : Act) : Prop :=
  Region.wanted o (yielded ops a.tmps) = true ∧ ∀ w, S w → ∃ g args, (execOp a.eval o).run P w = .ok (.enter g args) w ∧ Calls P g args w (fun e w' => e = .returned v ∧ w' = w)
theorem YC.of_same {o : Oper} {v : Value} {a a' : Act} (hy : YC P ops S o v a) (he : execOp a'.eval o = execOp a.eval o) (hw : Region.wanted o (yielded ops a'.tmps) = Region.wanted o (yielded ops a.tmps)) : YC P ops S o v a' := by
  unfold YC at *
  rw [he, hw]
  exact hy
theorem YC.wpOp {i : Nat} {o : Oper} {v : Value} {a : Act} (hi : ops[i]? = some o) (hy : YC P ops S o v a) {K : Act → World → Prop} {w : World} (hS : S w) (h : K (a.put o.dst v) w) : wpOp P ops Q i K a w := by
  unfold Go.wpOp
  simp only [hi]
  obtain ⟨hw, hv⟩ := hy
  obtain ⟨g, args, h1, h2⟩ := hv w hS
  simp only [hw, if_true, Oper.wp, h1, Oper.upon]
  refine .inl (Calls.mono h2 (fun e w' he => ?_))
  obtain ⟨rfl, rfl⟩ := he
  exact h
theorem wpOp_putC {j : Nat} {oi oj : Oper} {v : Value} (hj : ops[j]? = some oj) (hap : oi.apart ops oj = true)
    (hsi : ∀ cs b, oi.op ≠ .select cs b) (hsj : ∀ cs b, oj.op ≠ .select cs b)
    (hQ : ∀ c a w, Q (.panic c) (a.put oi.dst v) w → Q (.panic c) a w) {K : Act → World → Prop} {a : Act} {w : World}
    (hy : YC P ops S oi v a) (h : wpOp P ops Q j K (a.put oi.dst v) w) :
    wpOp P ops Q j (fun a' w' => YC P ops S oi v a' ∧ K (a'.put oi.dst v) w') a w := by
  obtain ⟨h1, h2, h3⟩ := Oper.apart_spec hap
  have keep : ∀ (a : Act), YC P ops S oi v a → ∀ u, YC P ops S oi v (a.put oj.dst u) := fun a hy u =>
    hy.of_same (execOp_put oi hsi a oj.dst u h3) (wanted_put oi a oj.dst u h3)
  have keepD : ∀ d, YC P ops S oi v { a with defers := d :: a.defers } := fun d => hy.of_same rfl rfl
  unfold wpOp at *
  simp only [hj] at *
  rw [wanted_put oj a oi.dst v h1] at h
  split
  · rename_i hw
    simp only [hw, if_true] at h
    rcases h with h | ⟨hasks, hlets⟩
    case inr => exact .inr ⟨by unfold Oper.asks at *; rw [execOp_put oj hsj a oi.dst v h1] at hasks; exact hasks, hlets⟩
    refine .inl ?_
    unfold Oper.wp at *
    rw [execOp_put oj hsj a oi.dst v h1] at h
    generalize (execOp a.eval oj).run P w = r at *
    cases r with
    | ok n w' =>
      cases n <;> simp only [Oper.upon] at h ⊢
      case value u => exact ⟨keep a hy u, by rw [← Act.put_comm a v u h2]; exact h⟩
      case skip => exact ⟨keep a hy _, by rw [← Act.put_comm a v undef h2]; exact h⟩
      case defer d =>
        refine ⟨keep _ (keepD d) _, ?_⟩
        rw [← Act.put_comm _ v undef h2, ← Act.put_defers]
        exact h
      case enter f args =>
        refine Calls.mono h fun e w'' he => ?_
        cases e with
        | returned u => exact ⟨keep a hy u, by rw [← Act.put_comm a v u h2]; exact he⟩
        | panicked c => exact hQ _ _ _ he
        | outgrown => exact he
      case row row args => exact Rows.mono h fun u w'' he => ⟨keep a hy u, by rw [← Act.put_comm a v u h2]; exact he⟩
    | halt x w' =>
      cases x <;> simp only [Oper.upon] at h ⊢
      case panic u => exact hQ _ _ _ h
  · rename_i hw
    simp only [hw] at h
    exact ⟨keep a hy _, by rw [← Act.put_comm a v undef h2]; exact h⟩
theorem AnyC_first {i : Nat} {oi : Oper} {v : Value} (hi : ops[i]? = some oi) (hsel : ∀ (j : Nat) (o : Oper) cs b, ops[j]? = some o → o.op ≠ .select cs b) (hQ : ∀ c a w, Q (.panic c) (a.put oi.dst v) w → Q (.panic c) a w) :
    ∀ (m : Nat) (l : Array Bool) (a : Act) (w : World), closedB ops l = true → (∀ j oj, ops[j]? = some oj → j ≠ i → l.getD j true = false → (∀ e ∈ oj.after, Region.binds .any e = true → e.on ≠ i) → oi.apart ops oj = true) →
      i ∈ Region.ready .any ops l → YC P ops S oi v a → S w → AnyF P ops Q S m (l.setIfInBounds i true) (a.put oi.dst v) w → AnyF P ops Q S (m + 1) l a w := by
  have hlt : i < ops.size := (Array.getElem?_eq_some_iff.1 hi).1
  intro m
  induction m with
  | zero =>
    intro l a w _ _ hr hy hS H
    refine ⟨fun h => absurd (h ▸ hr) (by simp), fun j hj => ?_⟩
    by_cases hji : j = i
    · subst hji; exact hy.wpOp hi hS ⟨fun _ => hS, H⟩
    · have h1 := ready_mono hj hji
      rw [H.1] at h1
      exact absurd h1 (by simp)
  | succ m ih =>
    intro l a w hcl hfree hr hy hS H
    refine ⟨fun h => absurd (h ▸ hr) (by simp), fun j hj => ?_⟩
    by_cases hji : j = i
    · subst hji; exact hy.wpOp hi hS ⟨fun _ => hS, H⟩
    · have h1 := H.2 j (ready_mono hj hji)
      obtain ⟨hjun, oj, hoj, hall⟩ := mem_ready.1 hj
      have h0 := (mem_ready.1 hr).1
      have hil : l.getD i false = false := by
        rcases Nat.lt_or_ge i l.size with h' | h'
        · simp [h'] at h0 ⊢; exact h0
        · simp [Array.getElem?_eq_none h'] at h0
      have hnot : ∀ e ∈ oj.after, Region.binds .any e = true → e.on ≠ i := fun e he hb heq => by
        have h3 := hall e he hb
        rw [heq, hil] at h3
        cases h3
      have hun : l.getD i true = false := by simpa using h0
      have hallT : ∀ e ∈ oj.after, Region.binds .any e = true → l.getD e.on true = true := fun e he hb => by
        have h3 := hall e he hb
        rcases Nat.lt_or_ge e.on l.size with h' | h'
        · simp [h'] at h3 ⊢; exact h3
        · simp [Array.getElem?_eq_none h']
      have hdiT : ∀ ok, ops[i]? = some ok → ∀ e ∈ ok.after, Region.binds .any e = true → l.getD e.on true = true := fun ok hok e he hb => by
        obtain ⟨_, o2, ho2, hall2⟩ := mem_ready.1 hr
        rw [hok] at ho2; injection ho2 with ho2; subst ho2
        have h3 := hall2 e he hb
        rcases Nat.lt_or_ge e.on l.size with h' | h'
        · simp [h'] at h3 ⊢; exact h3
        · simp [Array.getElem?_eq_none h']
      have hfin := final_false hcl hji hlt hoj hallT hun hjun hdiT
      have hcl2 : closedB ops (l.setIfInBounds j true) = true := closedB_mk fun k ok hok hk e he hb => by
        have hset : ∀ q, l.getD q true = true → (l.setIfInBounds j true).getD q true = true := fun q hq => by
          by_cases hjq : j = q
          · subst hjq
            rcases Nat.lt_or_ge j l.size with h' | h'
            · simp [h']
            · simp
          · rw [getD_set_ne true hjq]; exact hq
        by_cases hjk : j = k
        · subst hjk
          rw [hoj] at hok; injection hok with hok; subst hok
          exact hset _ (hallT e he hb)
        · rw [getD_set_ne true hjk] at hk
          exact hset _ (closedB_spec hcl hok hk e he hb)
      have h2 := wpOp_putC hoj (hfree j oj hoj hji hjun hnot) (fun cs b => hsel i oi cs b hi) (fun cs b => hsel j oj cs b hoj) hQ hy h1
      refine wpOp_mono (fun a' w' h3 => ?_) h2
      have hS' := h3.2.1 hfin
      refine ⟨fun _ => hS', ih (l.setIfInBounds j true) a' w' hcl2 (fun k ok hk hki hun hno => ?_) (ready_mono hr (Ne.symm hji)) h3.1 hS' ?_⟩
      · refine hfree k ok hk hki ?_ hno
        by_cases hjk : j = k
        · subst hjk; exact hjun
        · rw [getD_set_ne true hjk] at hun; exact hun
      · rw [Array.setIfInBounds_comm _ _ hji]
        exact h3.2.2
end
section
variable {P : Program} {B : Exit → Act → World → Prop} {n : Nat} {k : List Kont} {f : Fr} {w : World} {ops : Array Oper} {S : World → Prop} {fuel : Nat} {d : List Nat}
theorem h_takeC {i s : Nat} {oi : Oper} {v : Value} (hi : ops[i]? = some oi) (hg : oi.guard = none) (hdst : oi.dst = some s) (hd : Nat.blt s n = true) (hc : takeB ops d i = true)
    (hrun : ∀ w', S w' → ∃ g args, (execOp (opv f) oi).run P w' = .ok (.enter g args) w' ∧ Calls P g args w' (fun e w'' => e = .returned v ∧ w'' = w')) (hS : S w) (h : HA P B n k S ops fuel (i :: d) (upd f s v) w) : HA P B n k S ops (fuel + 1) d f w := by
  intro a ha
  simp only [takeB, Bool.and_eq_true] at hc
  refine AnyC_first (v := v) hi (Region.noSelect_spec hc.1.1.1) (fun _ _ _ h => (h : False).elim) fuel (lst ops d) a w hc.2 (Region.free_spec hi hc.1.1.2) (by simpa using hc.1.2) ⟨by simp [Region.wanted, hg], fun w' hw' => ?_⟩ hS ?_
  · rw [ha.eval]; exact hrun w' hw'
  · rw [hdst]; exact h _ (ha.put hd v)
end
end Go.Vc
namespace Go.Vc
open Go Go.RowKit Go.IntWalk
def BI (n : Nat) (I : Array Bool → Fr → World → Prop) (l : Array Bool) : Exit → Act → World → Prop
  | .normal, a, w => ∃ f, Is n f a ∧ I l f w
  | _, _, _ => False
section
variable {P : Program} {B : Exit → Act → World → Prop} {n : Nat} {k : List Kont} {ops : Array Oper} {I : Array Bool → Fr → World → Prop}
def Steps (P : Program) (n : Nat) (I : Array Bool → Fr → World → Prop) (ops : Array Oper) : Nat → List Oper → Prop
  | _, [] => True
  | i, o :: r => (∀ l f w, l.getD i true = false → (∀ e ∈ o.after, Region.binds .any e = true → l.getD e.on false = true) → I l f w → KL P (BI n I (l.setIfInBounds i true)) n ops [] [o] f w) ∧ Steps P n I ops (i + 1) r
theorem Steps.get {ops : Array Oper} : ∀ {r : List Oper} {i : Nat}, Steps P n I ops i r → ∀ j o, r[j]? = some o → ∀ l f w, l.getD (i + j) true = false → (∀ e ∈ o.after, Region.binds .any e = true → l.getD e.on false = true) → I l f w → KL P (BI n I (l.setIfInBounds (i + j) true)) n ops [] [o] f w
  | [], _, _, j, o, hj => by simp at hj
  | a :: r, i, h, 0, o, hj => by
    simp at hj; subst hj
    exact h.1
  | a :: r, i, h, j + 1, o, hj => by
    have := Steps.get h.2 j o (by simpa using hj)
    rw [show i + (j + 1) = i + 1 + j by omega]
    exact this
end
section
variable {P : Program} {B : Exit → Act → World → Prop} {n : Nat} {k : List Kont} {f : Fr} {w : World} {ops : Array Oper} {S : World → Prop} {fuel : Nat} {d : List Nat}
end
theorem un_false {l : Array Bool} {i : Nat} (h : l.getD i true = false) : l.getD i false = false ∧ i < l.size := by
  rcases Nat.lt_or_ge i l.size with h1 | h1
  · simp [h1] at h ⊢; exact h
  · simp [Array.getElem?_eq_none h1] at h
theorem set_ne {l : Array Bool} {i j : Nat} (h : j ≠ i) : (l.setIfInBounds i true).getD j false = l.getD j false := by
  simp [Array.getElem?_setIfInBounds, Ne.symm h]
theorem set_eq {l : Array Bool} {i : Nat} (h : i < l.size) : (l.setIfInBounds i true).getD i false = true := by
  simp [h]
end Go.Vc
namespace Go.Vc
open Go Go.RowKit Go.IntWalk
def M9 : List Nat := [9, 31, 32, 33, 34, 35, 36, 37, 38, 39, 40, 41]
def slot9 (j : Nat) : Nat := [31, 32, 33, 34, 35, 36, 37, 38, 39, 40, 41, 9].getD j 0
def cn9 (l : Array Bool) : Nat := (l.getD 2 false).toNat + (l.getD 7 false).toNat
def Phi9 (z bs EN : Nat) : Nat → Fr → World → Prop
  | 0, g, w => ∃ b, (z ≤ b ∧ b < w.heap.size) ∧ g 31 = .slice (some ⟨b, 0, none⟩) 5 5 ∧ RowE w (some ⟨b, 0, none⟩) b 0 5 stripsL
  | 1, g, _ => g 32 = .pointer (some ⟨bs, 0, none⟩)
  | 2, g, _ => ∃ r, g 33 = .int .i64 r ∧ 0 ≤ r ∧ r < 5
  | 3, g, w => ∃ b j s, (z ≤ b ∧ b < w.heap.size) ∧ g 34 = .pointer (some ⟨b, j, none⟩) ∧ At w b j [S s] ∧ s ∈ stripsL
  | 4, g, _ => ∃ s, g 35 = S s ∧ s ∈ stripsL
  | 5, g, w => ∃ b, (z ≤ b ∧ b < w.heap.size) ∧ g 36 = .slice (some ⟨b, 0, none⟩) 6 6 ∧ RowE w (some ⟨b, 0, none⟩) b 0 6 addsL
  | 6, g, _ => g 37 = .pointer (some ⟨bs, 0, none⟩)
  | 7, g, _ => ∃ r, g 38 = .int .i64 r ∧ 0 ≤ r ∧ r < 6
  | 8, g, w => ∃ b j s, (z ≤ b ∧ b < w.heap.size) ∧ g 39 = .pointer (some ⟨b, j, none⟩) ∧ At w b j [S s] ∧ s ∈ addsL
  | 9, g, _ => ∃ s, g 40 = S s ∧ s ∈ addsL
  | 10, g, _ => ∃ s t, g 41 = .agg #[S s, S t] ∧ s ∈ stripsL ∧ t ∈ addsL
  | 11, g, w => ∃ b, (z ≤ b ∧ b < w.heap.size) ∧ g 9 = .pointer (some ⟨b, 0, none⟩) ∧ ∃ s t, Blk w b EN [S s, S t]
  | _, _, _ => True
def Fin9 (z EN : Nat) (g : Fr) (w : World) : Prop := ∃ b s t, (z ≤ b ∧ b < w.heap.size) ∧ g 9 = .pointer (some ⟨b, 0, none⟩) ∧ Blk w b EN [S s, S t] ∧ s ∈ stripsL ∧ t ∈ addsL
def I9 (wR : World) (bs EN T N2 : Nat) (c : Value) (l : Array Bool) (g : Fr) (w : World) : Prop :=
  Evo wR w [bs] ∧ Blk w bs T [c, .int .i64 (N2 + cn9 l : Nat)] ∧ ((l.getD 12 false = false ∧ ∀ j, l.getD j false = true → Phi9 wR.heap.size bs EN j g w) ∨ (l.getD 12 false = true ∧ Fin9 wR.heap.size EN g w ∧ ∀ j, j < 12 → l.getD j false = true))
theorem stab9 {z bs EN d : Nat} (hbs : bs < z) {g g' : Fr} {w w' : World} (he : Evo w w' [bs]) (hfr : ∀ q, elemN q M9 = true → q ≠ d → g' q = g q) : ∀ j, slot9 j ≠ d → Phi9 z bs EN j g w → Phi9 z bs EN j g' w' := by
  have hsz := he.size
  intro j hj h
  match j with
  | 0 => obtain ⟨b, h1, h2, h3⟩ := h; exact ⟨b, by omega, by rw [hfr 31 rfl hj]; exact h2, h3.evo he (by simp; omega)⟩
  | 1 => show g' 32 = _; rw [hfr 32 rfl hj]; exact h
  | 2 => obtain ⟨r, h2, h3⟩ := h; exact ⟨r, by rw [hfr 33 rfl hj]; exact h2, h3⟩
  | 3 => obtain ⟨b, q, s, h1, h2, h3, h4⟩ := h; exact ⟨b, q, s, by omega, by rw [hfr 34 rfl hj]; exact h2, h3.evo he (by simp; omega), h4⟩
  | 4 => obtain ⟨r, h2, h3⟩ := h; exact ⟨r, by rw [hfr 35 rfl hj]; exact h2, h3⟩
  | 5 => obtain ⟨b, h1, h2, h3⟩ := h; exact ⟨b, by omega, by rw [hfr 36 rfl hj]; exact h2, h3.evo he (by simp; omega)⟩
  | 6 => show g' 37 = _; rw [hfr 37 rfl hj]; exact h
  | 7 => obtain ⟨r, h2, h3⟩ := h; exact ⟨r, by rw [hfr 38 rfl hj]; exact h2, h3⟩
  | 8 => obtain ⟨b, q, s, h1, h2, h3, h4⟩ := h; exact ⟨b, q, s, by omega, by rw [hfr 39 rfl hj]; exact h2, h3.evo he (by simp; omega), h4⟩
  | 9 => obtain ⟨r, h2, h3⟩ := h; exact ⟨r, by rw [hfr 40 rfl hj]; exact h2, h3⟩
  | 10 => obtain ⟨s, t, h2, h3⟩ := h; exact ⟨s, t, by rw [hfr 41 rfl hj]; exact h2, h3⟩
  | 11 => obtain ⟨b, h1, h2, s, t, h3⟩ := h; exact ⟨b, by omega, by rw [hfr 9 rfl hj]; exact h2, s, t, h3.evo he (by simp; omega)⟩
  | _ + 12 => trivial
theorem slot9_ne {i j : Nat} (hi : i < 12) (hj : j < 12) (h : j ≠ i) : slot9 j ≠ slot9 i := by
  have : ∀ i, i < 12 → ∀ j, j < 12 → j ≠ i → slot9 j ≠ slot9 i := by decide
  exact this i hi j hj h
theorem I9.step {wR w w' : World} {bs EN T N2 : Nat} {c : Value} {l : Array Bool} {g g' : Fr} {i : Nat} (hi : i < 12) (hu : l.getD i true = false) (hbs : bs < wR.heap.size) (h12 : l.getD 12 false = false) (hP : ∀ j, l.getD j false = true → Phi9 wR.heap.size bs EN j g w)
    (he1 : Evo w w' [bs]) (he : Evo wR w' [bs]) (hb : Blk w' bs T [c, .int .i64 (N2 + cn9 (l.setIfInBounds i true) : Nat)]) (hfr : ∀ q, elemN q M9 = true → q ≠ slot9 i → g' q = g q) (hn : Phi9 wR.heap.size bs EN i g' w') :
    I9 wR bs EN T N2 c (l.setIfInBounds i true) g' w' := by
  refine ⟨he, hb, .inl ⟨by rw [set_ne (by omega)]; exact h12, fun j hj => ?_⟩⟩
  by_cases hji : j = i
  · subst hji; exact hn
  · rw [set_ne hji] at hj
    by_cases hj12 : j < 12
    · exact stab9 hbs he1 hfr j (slot9_ne hi hj12 hji) (hP j hj)
    · match j, hj12 with
      | j + 12, _ => trivial
      | 0, h | 1, h | 2, h | 3, h | 4, h | 5, h | 6, h | 7, h | 8, h | 9, h | 10, h | 11, h => exact absurd (by decide) h
theorem I9.last {wR w' : World} {bs EN T N2 : Nat} {c : Value} {l : Array Bool} {g' : Fr} (hu : l.getD 12 true = false) (hall : ∀ j, j < 12 → l.getD j false = true)
    (he : Evo wR w' [bs]) (hb : Blk w' bs T [c, .int .i64 (N2 + cn9 (l.setIfInBounds 12 true) : Nat)]) (hn : Fin9 wR.heap.size EN g' w') : I9 wR bs EN T N2 c (l.setIfInBounds 12 true) g' w' :=
  ⟨he, hb, .inr ⟨set_eq (un_false hu).2, hn, fun j hj => by rw [set_ne (by omega)]; exact hall j hj⟩⟩
theorem I9.done {wR w : World} {bs EN T N2 : Nat} {c : Value} {g : Fr} (h : I9 wR bs EN T N2 c (Array.replicate 13 true) g w) : Evo wR w [bs] ∧ Blk w bs T [c, .int .i64 (N2 + 2 : Nat)] ∧ Fin9 wR.heap.size EN g w := by
  obtain ⟨h1, h2, h3 | h3⟩ := h
  · exact absurd h3.1 (by decide)
  · exact ⟨h1, h2, h3.2.1⟩
end Go.Vc
namespace Go.Vc
open Go Go.RowKit Go.IntWalk
section
variable {α : Type} [Rep α] {w w' : World} {base : Nat} {E : TypeId} {Y : List Nat} {v : Value} {l : List α}
theorem own_step {X : List Nat} {v' : Value} (hE0 : Evo w w' v.ownBlock.toList) (hloc : v'.ownBlock = v.ownBlock ∨ ∃ g, v'.ownBlock = some g ∧ w.heap.size ≤ g) (w'' : World) (he2 : Evo w' w'' (X ++ v'.ownBlock.toList)) : Evo w w'' (X ++ v.ownBlock.toList) :=
  Evo.trans (hE0.weaken (fun x hx => .inl (List.mem_append_right _ hx))) he2 (fun x hx hlt => by
    rcases List.mem_append.1 hx with h4 | h4
    · exact List.mem_append_left _ h4
    · have h5 : v'.ownBlock = some x := by simpa using h4
      rcases hloc with h6 | ⟨g, h6, h7⟩
      · exact List.mem_append_right _ (by rw [← h6]; exact h4)
      · rw [h5] at h6; injection h6 with h6; omega)
end
section
variable {P : Program} {B : Exit → Act → World → Prop} {n : Nat} {k : List Kont} {f : Fr} {w : World} {ops : Array Oper} {rest : List Oper}
theorem r_appendR {α : Type} [Rep α] {base : Nat} {E : TypeId} {Y : List Nat} {v : Value} {l : List α} {T d bb m : Nat} {t : TypeId} {pos : String} {aft : Array Edge} {x y : Operand} {z : Value} {ao : Option Addr} {b off cap len : Nat} {l' : List α} {E' : List Nat} {w1 : World}
    (hd : Nat.blt d n = true) (hu : P.underlying T = some (.slice E)) (ht : tyP P E = some (m, bb, some z)) (hm : (m == Rep.n α && z.cells.size == Rep.n α) = true) (hone : ∀ (w : World) cs (x : α), Rep.rep w cs x → oneCells cs = true)
    (hown : OwnR w base E Y v l) (hx : opv f x = v) (hy : opv f y = .slice ao len cap) (hr : RowRK w1 E' ao b off cap l') (hw1 : ∀ w'', Evo w w'' (Y ++ v.ownBlock.toList) → Evo w1 w'' E') (hl : len = l'.length)
    (hbytes : (l.length + l'.length) * bb ≤ 140737488355328) (hlen : l.length + l'.length ≤ 140737488355328) (hbase : base ≤ w.heap.size)
    (h : ∀ v' w', Evo w w' v.ownBlock.toList → OwnR w' base E Y v' (l ++ l') → (v'.ownBlock = v.ownBlock ∨ v'.ownBlock = some w.heap.size) → KL P B n ops k rest (upd f d v') w') :
    KL P B n ops k (⟨some d, .call ⟨.builtin .append, #[x, y], #[T, T]⟩, t, pos, aft, none⟩ :: rest) f w := by
  simp only [Bool.and_eq_true, beq_iff_eq] at hm
  obtain ⟨rfl, h2⟩ := hm
  obtain ⟨css, ho, hL⟩ := hown
  obtain ⟨css2, hr2⟩ := hr
  have h0 := hr2 w (hw1 w (Evo.refl _ _))
  have e1 := (hL w (Evo.refl _ _)).1
  have e2 := h0.2.1
  refine r_append (news := css2) hd hu ht h2 Rep.pos ho hx hy h0.1 (by rw [e2]; exact hl) (fun cs hcs => ?_) (by rw [e1, e2]; exact hbytes) (by rw [e1, e2]; exact hlen) hbase ?_
  · obtain ⟨i, hi⟩ := List.getElem?_of_mem hcs
    have hi2 : i < l'.length := by rw [← e2]; exact (List.getElem?_eq_some_iff.1 hi).1
    exact hone w cs l'[i] (h0.2.2 i cs _ hi (by simp [hi2]))
  intro v' w' he ho' hloc
  refine h v' w' he ⟨_, ho', fun w'' he2 => ?_⟩ hloc
  have h5 := own_step (X := Y) he (hloc.imp_right fun h => ⟨_, h, Nat.le_refl _⟩) w'' he2
  exact (hL w'' h5).append (hr2 w'' (hw1 w'' h5)).2
end
end Go.Vc
namespace Go.Vc
open Go
def jnL (inner : UInt8 → Bool) (a b : UInt8) : Str → Nat
  | [] => 0
  | c :: t => if inner c = true then 1 + jnL inner a b t else if c = a ∨ c = b then (match t with
      | [] => 0
      | d :: t' => if inner d = true then 2 + jnL inner a b t' else 0) else 0
theorem jnL_len (inner : UInt8 → Bool) (a b : UInt8) : ∀ s : Str, jnL inner a b s ≤ s.length
  | [] => Nat.le_refl _
  | [c] => by
    unfold jnL
    split
    · simp [jnL]
    · split <;> simp
  | c :: d :: t => by
    have h1 := jnL_len inner a b (d :: t)
    have h2 := jnL_len inner a b t
    unfold jnL
    simp only [List.length_cons] at *
    split
    · omega
    · split
      · split <;> omega
      · omega
theorem drop_two {s : Str} {n : Nat} (h : n + 1 < s.length) : s.drop n = s.getD n default :: s.getD (n + 1) default :: s.drop (n + 2) := by
  rw [List.drop_eq_getElem_cons (by omega), List.drop_eq_getElem_cons h]
  simp [List.getD, h, Nat.lt_of_succ_lt h]
theorem drop_one {s : Str} {n : Nat} (h : n < s.length) : s.drop n = s.getD n default :: s.drop (n + 1) := by
  rw [List.drop_eq_getElem_cons h]; simp [List.getD, h]
section
variable {inner : UInt8 → Bool} {a b : UInt8} {s : Str} {n : Nat}
theorem jn_end (h : s.length ≤ n) : jnL inner a b (s.drop n) = 0 := by rw [List.drop_eq_nil_of_le h]; rfl
theorem jn_in (h : n < s.length) (hi : inner (s.getD n default) = true) : jnL inner a b (s.drop n) = 1 + jnL inner a b (s.drop (n + 1)) := by
  rw [drop_one h]; conv => lhs; unfold jnL
  rw [if_pos hi]
theorem jn_two (h : n + 1 < s.length) (hi : ¬ inner (s.getD n default) = true) (hj : s.getD n default = a ∨ s.getD n default = b) (h2 : inner (s.getD (n + 1) default) = true) : jnL inner a b (s.drop n) = 2 + jnL inner a b (s.drop (n + 2)) := by
  rw [drop_two h]; conv => lhs; unfold jnL
  rw [if_neg hi, if_pos hj]
  dsimp only
  rw [if_pos h2]
theorem jn_no (h : n < s.length) (hi : ¬ inner (s.getD n default) = true) (hj : ¬ (s.getD n default = a ∨ s.getD n default = b) ∨ ¬ n + 1 < s.length ∨ ¬ inner (s.getD (n + 1) default) = true) : jnL inner a b (s.drop n) = 0 := by
  by_cases h1 : n + 1 < s.length
  · rw [drop_two h1]; unfold jnL
    rw [if_neg hi]
    split
    · rename_i h3
      dsimp only
      rw [if_neg (by rcases hj with h | h | h
                     · exact absurd h3 h
                     · exact absurd h1 h
                     · exact h)]
    · rfl
  · rw [drop_one h, List.drop_eq_nil_of_le (by omega)]; unfold jnL
    rw [if_neg hi]
    split <;> rfl
end
def blL : Str → Nat
  | [] => 0
  | c :: t => if clsB c = 2 then 1 + blL t else 0
theorem blL_len : ∀ s : Str, blL s ≤ s.length
  | [] => Nat.le_refl _
  | c :: t => by
    have h1 := blL_len t
    unfold blL
    simp only [List.length_cons]
    split <;> omega
theorem bl_end {s : Str} {n : Nat} (h : s.length ≤ n) : blL (s.drop n) = 0 := by rw [List.drop_eq_nil_of_le h]; rfl
theorem bl_yes {s : Str} {n : Nat} (h : n < s.length) (hc : clsB (s.getD n default) = 2) : blL (s.drop n) = 1 + blL (s.drop (n + 1)) := by
  rw [drop_one h]; conv => lhs; unfold blL
  rw [if_pos hc]
theorem bl_no {s : Str} {n : Nat} (h : n < s.length) (hc : ¬ clsB (s.getD n default) = 2) : blL (s.drop n) = 0 := by
  rw [drop_one h]; unfold blL; rw [if_neg hc]
def wdB (c : UInt8) : Bool := decide (clsB c = 4) || decide (clsB c = 3)
def dgtB (c : UInt8) : Bool := decide (clsB c = 3)
def tokN (s : Str) : Int × Nat :=
  if clsB (s.getD 0 default) = 4 then (6, 1 + jnL wdB 39 45 (s.drop 1))
  else if clsB (s.getD 0 default) = 3 then (7, 1 + jnL dgtB 46 44 (s.drop 1))
  else if clsB (s.getD 0 default) = 2 then (8, 1 + blL (s.drop 1))
  else (9, 1)
theorem tokN_pos (s : Str) : 1 ≤ (tokN s).2 := by
  unfold tokN
  repeat' split
  all_goals (dsimp only; omega)
theorem tokN_len {s : Str} (h : s ≠ []) : (tokN s).2 ≤ s.length := by
  have h0 : 0 < s.length := List.length_pos_iff.2 h
  have h1 := jnL_len wdB 39 45 (s.drop 1)
  have h2 := jnL_len dgtB 46 44 (s.drop 1)
  have h3 := blL_len (s.drop 1)
  rw [List.length_drop] at h1 h2 h3
  unfold tokN
  repeat' split
  all_goals (dsimp only; omega)
def wordL (s : Str) : Nat := if s ≠ [] ∧ clsB (s.getD 0 default) = 4 then 1 + jnL wdB 39 45 (s.drop 1) else 0
def numL (s : Str) : Nat := if s ≠ [] ∧ clsB (s.getD 0 default) = 3 then 1 + jnL dgtB 46 44 (s.drop 1) else 0
theorem tok_word {s : Str} (h : s ≠ []) (h2 : ¬ blL s > 0) (h1 : ¬ numL s > 0) (h0 : wordL s > 0) : tokN s = (6, wordL s) := by
  unfold wordL at h0 ⊢
  split at h0
  · rename_i h4
    rw [if_pos h4]; unfold tokN; rw [if_pos h4.2]
  · omega
theorem tok_num {s : Str} (h : s ≠ []) (h2 : ¬ blL s > 0) (h1 : numL s > 0) : tokN s = (7, numL s) := by
  unfold numL at h1 ⊢
  split at h1
  · rename_i h4
    rw [if_pos h4]; unfold tokN; rw [if_neg (by omega), if_pos h4.2]
  · omega
theorem tok_blank {s : Str} (h : s ≠ []) (h2 : blL s > 0) : tokN s = (8, blL s) := by
  have h0 : 0 < s.length := List.length_pos_iff.2 h
  by_cases hc : clsB (s.getD 0 default) = 2
  · have := bl_yes h0 hc
    rw [List.drop_zero] at this
    unfold tokN; rw [if_neg (by omega), if_neg (by omega), if_pos hc, this]
  · have := bl_no h0 hc
    rw [List.drop_zero] at this
    omega
theorem tok_sign {s : Str} (h : s ≠ []) (h2 : ¬ blL s > 0) (h1 : ¬ numL s > 0) (h0 : ¬ wordL s > 0) : tokN s = (9, 1) := by
  have hl : 0 < s.length := List.length_pos_iff.2 h
  unfold tokN
  rw [if_neg, if_neg, if_neg]
  · intro hc
    have := bl_yes hl hc
    rw [List.drop_zero] at this
    omega
  · intro hc
    unfold numL at h1; rw [if_pos ⟨h, hc⟩] at h1; omega
  · intro hc
    unfold wordL at h0; rw [if_pos ⟨h, hc⟩] at h0; omega
def cutT (s : Str) : List Item :=
  if h : s = [] then [] else ⟨(tokN s).1, s.take (tokN s).2, 0⟩ :: cutT (s.drop (tokN s).2)
termination_by s.length
decreasing_by
  have h1 := tokN_pos s
  have h2 : 0 < s.length := List.length_pos_iff.2 h
  rw [List.length_drop]; omega
theorem cutT_nil : cutT [] = [] := by unfold cutT; simp
theorem cutT_cons {s : Str} (h : s ≠ []) : cutT s = ⟨(tokN s).1, s.take (tokN s).2, 0⟩ :: cutT (s.drop (tokN s).2) := by
  conv => lhs; unfold cutT
  rw [dif_neg h]
theorem cutT_len : ∀ (n : Nat) (s : Str), s.length = n → (cutT s).length ≤ s.length := by
  intro n
  induction n using Nat.strongRecOn with
  | ind n ih =>
    intro s hs
    by_cases h : s = []
    · subst h; rw [cutT_nil]; simp
    · have h1 := tokN_pos s
      have h2 : 0 < s.length := List.length_pos_iff.2 h
      rw [cutT_cons h]
      have h3 := ih _ (by rw [← hs]; show (s.drop (tokN s).2).length < s.length; rw [List.length_drop]; omega) (s.drop (tokN s).2) rfl
      rw [List.length_drop] at h3
      rw [List.length_cons]; omega
def tokI (x : Item) : List Item := if x.kind = 1 then cutT x.text else if 2 ≤ x.kind ∧ x.kind ≤ 5 then [x] else []
def toks (f : List Item) : List Item := f.flatMap tokI
theorem toks_succ {f : List Item} {k : Nat} (h : k < f.length) : toks (f.take (k + 1)) = toks (f.take k) ++ tokI (f.getD k default) := by
  unfold toks; rw [take_succD f k h]; simp
def fLen (f : List Item) : Nat := (f.map (fun x => x.text.length)).sum
theorem toks_len : ∀ f : List Item, (toks f).length ≤ fLen f + f.length
  | [] => by simp [toks]
  | x :: f => by
    have h1 := toks_len f
    have h2 : (tokI x).length ≤ x.text.length + 1 := by
      unfold tokI
      split
      · have := cutT_len _ x.text rfl; omega
      · split <;> simp
    have e : toks (x :: f) = tokI x ++ toks f := by simp [toks]
    rw [e, List.length_append, List.length_cons]
    simp only [fLen, List.map_cons, List.sum_cons] at *
    omega
end Go.Vc
namespace Go.Proofs.YthbcklajlmcifaaGreat
open Go.RowKit Go.Vc
theorem u8i {c d : UInt8} : ((c.toNat : Nat) : Int) = ((d.toNat : Nat) : Int) ↔ c = d := ⟨fun h => UInt8.toNat_inj.1 (by omega), fun h => by rw [h]⟩
theorem wd_iff {c : UInt8} : wdB c = true ↔ (clsB c = 4 ∨ clsB c = 3) := by unfold wdB; simp
theorem dg_iff {c : UInt8} : dgtB c = true ↔ clsB c = 3 := by unfold dgtB; simp
section
variable {inner : UInt8 → Bool} {a b : UInt8} {s : Str} {n : Nat}
theorem jn_twoC (hi : inner (s.getD n 0) = false) (hc : (((((s.getD n 0).toNat : Nat) : Int) = (((([a, b] : Str).getD 0 0).toNat : Nat) : Int) ∨ (((s.getD n 0).toNat : Nat) : Int) = (((([a, b] : Str).getD 1 0).toNat : Nat) : Int)) ∧ (n : Int) + 1 < (s.length : Int)) ∧ inner (s.getD (n + 1) 0) = true) :
    jnL inner a b (s.drop n) = 2 + jnL inner a b (s.drop (n + 2)) :=
  jn_two (by omega) (by show ¬ inner (s.getD n 0) = true; rw [hi]; simp) (hc.1.1.imp u8i.1 u8i.1) hc.2
theorem jn_noC (hn : n < s.length) (hi : inner (s.getD n 0) = false) (hc : ¬ ((((((s.getD n 0).toNat : Nat) : Int) = (((([a, b] : Str).getD 0 0).toNat : Nat) : Int) ∨ (((s.getD n 0).toNat : Nat) : Int) = (((([a, b] : Str).getD 1 0).toNat : Nat) : Int)) ∧ (n : Int) + 1 < (s.length : Int)) ∧ inner (s.getD (n + 1) 0) = true)) :
    jnL inner a b (s.drop n) = 0 := by
  refine jn_no hn (by show ¬ inner (s.getD n 0) = true; rw [hi]; simp) ?_
  by_cases h1 : s.getD n 0 = a ∨ s.getD n 0 = b
  · by_cases h2 : n + 1 < s.length
    · exact .inr (.inr fun h3 => hc ⟨⟨h1.imp u8i.2 u8i.2, by omega⟩, h3⟩)
    · exact .inr (.inl h2)
  · exact .inl h1
theorem wd_iffF {c : UInt8} : wdB c = false ↔ ¬ (clsB c = 4 ∨ clsB c = 3) := by rw [← wd_iff]; simp
theorem dg_iffF {c : UInt8} : dgtB c = false ↔ ¬ clsB c = 3 := by rw [← dg_iff]; simp
end
theorem bl_noC {s : Str} {k : Nat} (hk : k ≤ s.length) (h : ¬ ((k : Int) < (s.length : Int) ∧ clsB (s.getD k 0) = 2)) : blL (s.drop k) = 0 := by
  by_cases h1 : k < s.length
  · exact bl_no h1 (fun h2 => h ⟨by omega, h2⟩)
  · exact bl_end (by omega)
theorem word_no {s : Str} (h : s = [] ∨ ¬ clsB (s.getD 0 default) = 4) : wordL s = 0 := by unfold wordL; rw [if_neg (by rintro ⟨h1, h2⟩; exact h.elim (fun h => h1 h) (fun h => h h2))]
theorem num_no {s : Str} (h : s = [] ∨ ¬ clsB (s.getD 0 default) = 3) : numL s = 0 := by unfold numL; rw [if_neg (by rintro ⟨h1, h2⟩; exact h.elim (fun h => h1 h) (fun h => h h2))]
theorem word_go {s : Str} (h : ¬ (s = [] ∨ ¬ clsB (s.getD 0 default) = 4)) : wordL s = 1 + jnL wdB 39 45 (s.drop 1) := by unfold wordL; rw [if_pos ⟨fun e => h (.inl e), Classical.not_not.1 fun e => h (.inr e)⟩]
theorem num_go {s : Str} (h : ¬ (s = [] ∨ ¬ clsB (s.getD 0 default) = 3)) : numL s = 1 + jnL dgtB 46 44 (s.drop 1) := by unfold numL; rw [if_pos ⟨fun e => h (.inl e), Classical.not_not.1 fun e => h (.inr e)⟩]
theorem ne_nil_len {s : Str} (h : ¬ s = []) : 1 ≤ s.length := List.length_pos_iff.2 h
theorem ne_len {s : Str} {q : Prop} (h : ¬ (s = [] ∨ q)) : 1 ≤ s.length := List.length_pos_iff.2 fun e => h (.inl e)
theorem rw_two {s : Str} {k : Nat} (h1 : ¬ (clsB (s.getD k 0) = 4 ∨ clsB (s.getD k 0) = 3)) (h2 : ((((s.getD k 0).toNat : Nat) : Int) = 39 ∨ (((s.getD k 0).toNat : Nat) : Int) = 45) ∧ (k : Int) + 1 < (s.length : Int)) (h3 : clsB (s.getD (k + 1) 0) = 4 ∨ clsB (s.getD (k + 1) 0) = 3) :
    jnL wdB 39 45 (s.drop k) = 2 + jnL wdB 39 45 (s.drop (k + 2)) := jn_twoC (wd_iffF.2 h1) ⟨⟨h2.1, h2.2⟩, wd_iff.2 h3⟩
theorem rw_no {s : Str} {k : Nat} (hk : k < s.length) (h1 : ¬ (clsB (s.getD k 0) = 4 ∨ clsB (s.getD k 0) = 3)) (h2 : ¬ ((((((s.getD k 0).toNat : Nat) : Int) = 39 ∨ (((s.getD k 0).toNat : Nat) : Int) = 45) ∧ (k : Int) + 1 < (s.length : Int)) ∧ (clsB (s.getD (k + 1) 0) = 4 ∨ clsB (s.getD (k + 1) 0) = 3))) :
    jnL wdB 39 45 (s.drop k) = 0 := jn_noC hk (wd_iffF.2 h1) (fun h => h2 ⟨⟨h.1.1, h.1.2⟩, wd_iff.1 h.2⟩)
theorem rn_two {s : Str} {k : Nat} (h1 : ¬ clsB (s.getD k 0) = 3) (h2 : (((((s.getD k 0).toNat : Nat) : Int) = 46 ∨ (((s.getD k 0).toNat : Nat) : Int) = 44) ∧ (k : Int) + 1 < (s.length : Int)) ∧ clsB (s.getD (k + 1) 0) = 3) :
    jnL dgtB 46 44 (s.drop k) = 2 + jnL dgtB 46 44 (s.drop (k + 2)) := jn_twoC (dg_iffF.2 h1) ⟨⟨h2.1.1, h2.1.2⟩, dg_iff.2 h2.2⟩
theorem rn_no {s : Str} {k : Nat} (hk : k < s.length) (h1 : ¬ clsB (s.getD k 0) = 3) (h2 : ¬ ((((((s.getD k 0).toNat : Nat) : Int) = 46 ∨ (((s.getD k 0).toNat : Nat) : Int) = 44) ∧ (k : Int) + 1 < (s.length : Int)) ∧ clsB (s.getD (k + 1) 0) = 3)) :
    jnL dgtB 46 44 (s.drop k) = 0 := jn_noC hk (dg_iffF.2 h1) (fun h => h2 ⟨⟨h.1.1, h.1.2⟩, dg_iff.1 h.2⟩)
theorem rword_calls {s : Str} {w0 : World} (hs : s.length ≤ 140737488355328) :
    Calls Tryz.prog 46 #[S s] w0 fun e w' => e = .returned (.int .i64 ((wordL s : Nat) : Int)) ∧ Evo w0 w' [] := by
 refine calls_enter (n := 61) (args := [S s]) Tryz.func46 rfl Tryz.ntmps46 rfl ?_
 have hV : Evo w0 w0 [] := Evo.refl _ _
 refine r_seq ?_
 refine r_region ?_
 refine r_op rfl rfl rfl (run_asg (v := .int _ _) rfl (by exact rfl)) ?_
 refine r_nil ?_
 refine r_seq ?_
 refine r_seq ?_
 refine r_region ?_
 refine r_op rfl rfl rfl (run_mv (v := S _) rfl (by exact rfl)) ?_
 refine r_op rfl rfl rfl (run_seql rfl (by exact rfl) (by exact rfl)) ?_
 refine r_op rfl rfl rfl (run_mv (v := .bool _) rfl (by exact rfl)) ?_
 refine r_g rfl (wantF (by exact rfl)) rfl (fun hg => run_mv (v := S _) rfl (by exact rfl)) ?_
 refine r_g rfl (wantF (by exact rfl)) rfl (fun hg => run_ixS (0) rfl Tryz.underlying9 (glv (by exact rfl) (fun h => h) hg) (by exact rfl) (by first | exact rfl | omega) (by have := ne_nil_len hg; omega)) ?_
 refine r_gcall rfl (wantF (by exact rfl)) rfl (fun hg => run_callf rfl (argcons (v := .int _ _) (glv (by exact rfl) (fun h => h) hg) (rfl)) Tryz.func76 rfl (by kernel_rfl)) (fun hg => (rclass_calls ).mono (fun e w' h => ⟨h.1, h.2⟩)) (fun w1 hE2 => ?_)
 have hs_w1 := (hE2).size
 replace hV := evo_step0 hV hE2
 refine r_g rfl (wantF (by exact rfl)) rfl (fun hg => run_neq rfl (glv (by exact rfl) (fun h => h) hg) (by exact rfl)) ?_
 refine r_op rfl rfl rfl (run_pick_or rfl (by exact rfl) rfl (fun hq => glv (by exact rfl) (fun h => h) hq)) ?_
 refine r_nil ?_
 refine r_cond (by exact rfl) (fun hc3 => ?_) (fun hc3 => ?_)
 ·skip
  refine r_seq ?_
  refine r_region ?_
  refine r_op rfl rfl rfl (run_asg (v := .int _ _) rfl (by exact rfl)) ?_
  refine r_nil ?_
  refine r_ret (res1 (v := .int _ _) rfl (by exact rfl)) ?_
  exact ⟨ret_int (by rw [word_no hc3]; rfl), hV⟩
 ·skip
  refine r_skip ?_
  refine r_seq ?_
  have hs1 := ne_len hc3
  refine r_region ?_
  refine r_op rfl rfl rfl (run_asg (v := .int _ _) rfl (by exact rfl)) ?_
  refine r_nil ?_
  refine r_seq ?_
  refine r_block ?_
  refine r_loop (α := Nat) [3, 4, 5, 14, 15, 16, 17, 18, 19, 20, 21, 22, 23, 24, 25, 26, 27, 28, 29, 30, 31, 32, 33, 34, 35, 36, 37, 38, 39, 40, 41, 42, 43, 44, 45, 46, 47, 48, 49, 50, 51, 52, 53, 54, 55, 56, 57, 58, 59] (fun k g w => g 3 = .int .i64 (k : Nat) ∧ (1 ≤ k ∧ k ≤ s.length) ∧ k + jnL wdB 39 45 (s.drop k) = 1 + jnL wdB 39 45 (s.drop 1) ∧ w1.heap.size ≤ w.heap.size ∧ Evo w0 w []) (fun k => s.length - k) 1 ?_ ?_
  ·refine ⟨rfl, (by first | assumption | omega | (dsimp only; omega) | (simp; done)), (by first | assumption | omega | (dsimp only; omega) | (simp; done)), (by first | assumption | omega | (dsimp only; omega) | (simp; done)), hV⟩
  ·rintro k g w5 ⟨hj6, hk1, hj, hzl4, hV⟩
   have hs_w5hV := hV.size
   refine r_know (i := 3) (v := .int .i64 (k : Nat)) (by exact hj6) ?_
   refine r_seq ?_
   refine r_seq ?_
   refine r_region ?_
   refine r_op rfl rfl rfl (run_mv (v := .int _ _) rfl (by exact rfl)) ?_
   refine r_op rfl rfl rfl (run_mv (v := S _) rfl (by exact rfl)) ?_
   refine r_op rfl rfl rfl (run_lenS rfl (by exact rfl) Tryz.underlying9) ?_
   refine r_op rfl rfl rfl (run_lss rfl (by exact rfl) (by exact rfl)) ?_
   refine r_nil ?_
   refine r_cond (by exact rfl) (fun hc7 => ?_) (fun hc7 => ?_)
   ·skip
    refine r_skip ?_
    refine r_block ?_
    refine r_seq ?_
    refine r_region ?_
    refine r_op rfl rfl rfl (run_mv (v := S _) rfl (by exact rfl)) ?_
    refine r_op rfl rfl rfl (run_mv (v := .int _ _) rfl (by exact rfl)) ?_
    refine r_op rfl rfl rfl (run_ixS (k) rfl Tryz.underlying9 (by exact rfl) (by exact rfl) (by first | exact rfl | omega) (by omega)) ?_
    refine r_opcall rfl rfl rfl (run_callf (vs := [.int _ _]) rfl (by exact rfl) Tryz.func76 rfl (by kernel_rfl)) rclass_calls ?_
    rintro e w8 ⟨rfl, hE8⟩
    refine ⟨_, rfl, ?_⟩
    have hs_w8 := (hE8).size
    replace hV := evo_step0 hV hE8
    refine r_op rfl rfl rfl (run_asg (v := .int _ _) rfl (by exact rfl)) ?_
    refine r_nil ?_
    refine r_seq ?_
    refine r_seq ?_
    refine r_region ?_
    refine r_op rfl rfl rfl (run_mv (v := .int _ _) rfl (by exact rfl)) ?_
    refine r_op rfl rfl rfl (run_eql rfl (by exact rfl) (by exact rfl)) ?_
    refine r_op rfl rfl rfl (run_mv (v := .bool _) rfl (by exact rfl)) ?_
    refine r_g rfl (wantF (by exact rfl)) rfl (fun hg => run_mv (v := .int _ _) rfl (by exact rfl)) ?_
    refine r_g rfl (wantF (by exact rfl)) rfl (fun hg => run_eql rfl (glv (by exact rfl) (fun h => h) hg) (by exact rfl)) ?_
    refine r_op rfl rfl rfl (run_pick_or rfl (by exact rfl) rfl (fun hq => glv (by exact rfl) (fun h => h) hq)) ?_
    refine r_nil ?_
    refine r_cond (by exact rfl) (fun hc9 => ?_) (fun hc9 => ?_)
    ·skip
     refine r_seq ?_
     refine r_region ?_
     refine r_op rfl rfl rfl (run_mv (v := .int _ _) rfl (by exact rfl)) ?_
     refine r_op rfl rfl rfl (run_add rfl (by exact rfl) (by exact rfl) (by omega) (by omega)) ?_
     refine r_knowL (i := 29) (v := .int .i64 ((k + 1 : Nat) : Int)) (congrArg (Value.int _) (by omega)) ?_
     refine r_op rfl rfl rfl (run_asg (v := .int _ _) rfl (by exact rfl)) ?_
     refine r_nil ?_
     refine r_exit rfl ?_
     refine r_again (k + 1) ?_ ?_ ?_
     ·first | omega | (dsimp only; omega)
     ·refine ⟨rfl, (by first | assumption | omega | (dsimp only; omega) | (simp; done)), (by first | (have h8 := jn_in (inner := wdB) (a := 39) (b := 45) (s := s) (n := k) (by omega) (wd_iff.2 hc9); omega) | (have h8 := rw_two (s := s) (k := k) (by assumption) (by assumption) hc9; omega)), (by first | assumption | omega | (dsimp only; omega) | (simp; done)), hV⟩
     ·repeat (first | (with_reducible exact Agree.merge _ _ _) | (with_reducible exact Agree.refl _ _) | (with_reducible refine Agree.upd ?_ _ _ rfl) | ((with_reducible refine Agree.inner ?_ ?_); (kernel_rfl)))
    ·skip
     refine r_skip ?_
     refine r_seq ?_
     refine r_seq ?_
     refine r_region ?_
     refine r_op rfl rfl rfl (run_mv (v := S _) rfl (by exact rfl)) ?_
     refine r_op rfl rfl rfl (run_mv (v := .int _ _) rfl (by exact rfl)) ?_
     refine r_op rfl rfl rfl (run_ixS (k) rfl Tryz.underlying9 (by exact rfl) (by exact rfl) (by first | exact rfl | omega) (by omega)) ?_
     refine r_op rfl rfl rfl (run_eql rfl (by exact rfl) (by exact rfl)) ?_
     refine r_op rfl rfl rfl (run_mv (v := .bool _) rfl (by exact rfl)) ?_
     refine r_g rfl (wantF (by exact rfl)) rfl (fun hg => run_mv (v := S _) rfl (by exact rfl)) ?_
     refine r_g rfl (wantF (by exact rfl)) rfl (fun hg => run_mv (v := .int _ _) rfl (by exact rfl)) ?_
     refine r_g rfl (wantF (by exact rfl)) rfl (fun hg => run_ixS (k) rfl Tryz.underlying9 (glv (by exact rfl) (fun h => h) hg) (glv (by exact rfl) (fun h => h) hg) (by first | exact rfl | omega) (by omega)) ?_
     refine r_g rfl (wantF (by exact rfl)) rfl (fun hg => run_eql rfl (glv (by exact rfl) (fun h => h) hg) (by exact rfl)) ?_
     refine r_op rfl rfl rfl (run_pick_or rfl (by exact rfl) rfl (fun hq => glv (by exact rfl) (fun h => h) hq)) ?_
     refine r_op rfl rfl rfl (run_mv (v := .bool _) rfl (by exact rfl)) ?_
     refine r_g rfl (wantT (by exact rfl)) rfl (fun hg => run_mv (v := .int _ _) rfl (by exact rfl)) ?_
     refine r_g rfl (wantT (by exact rfl)) rfl (fun hg => run_add rfl (glv (by exact rfl) (fun h => h) hg) (by exact rfl) (by omega) (by omega)) ?_
     refine r_g rfl (wantT (by exact rfl)) rfl (fun hg => run_mv (v := S _) rfl (by exact rfl)) ?_
     refine r_g rfl (wantT (by exact rfl)) rfl (fun hg => run_lenS rfl (glv (by exact rfl) (fun h => h) hg) Tryz.underlying9) ?_
     refine r_g rfl (wantT (by exact rfl)) rfl (fun hg => run_lss rfl (glv (by exact rfl) (fun h => h) hg) (glv (by exact rfl) (fun h => h) hg)) ?_
     refine r_op rfl rfl rfl (run_pick_and rfl (by exact rfl) (fun hq => glv (by exact rfl) (fun h => h) hq) rfl) ?_
     refine r_nil ?_
     refine r_cond (by exact rfl) (fun hc10 => ?_) (fun hc10 => ?_)
     ·skip
      refine r_seq ?_
      refine r_region ?_
      refine r_op rfl rfl rfl (run_mv (v := S _) rfl (by exact rfl)) ?_
      refine r_op rfl rfl rfl (run_mv (v := .int _ _) rfl (by exact rfl)) ?_
      refine r_op rfl rfl rfl (run_add rfl (by exact rfl) (by exact rfl) (by omega) (by omega)) ?_
      refine r_op rfl rfl rfl (run_ixS ((k + 1)) rfl Tryz.underlying9 (by exact rfl) (by exact rfl) (by omega) (by omega)) ?_
      refine r_opcall rfl rfl rfl (run_callf (vs := [.int _ _]) rfl (by exact rfl) Tryz.func76 rfl (by kernel_rfl)) rclass_calls ?_
      rintro e w11 ⟨rfl, hE11⟩
      refine ⟨_, rfl, ?_⟩
      have hs_w11 := (hE11).size
      replace hV := evo_step0 hV hE11
      refine r_op rfl rfl rfl (run_asg (v := .int _ _) rfl (by exact rfl)) ?_
      refine r_nil ?_
      refine r_seq ?_
      refine r_region ?_
      refine r_op rfl rfl rfl (run_mv (v := .int _ _) rfl (by exact rfl)) ?_
      refine r_op rfl rfl rfl (run_eql rfl (by exact rfl) (by exact rfl)) ?_
      refine r_op rfl rfl rfl (run_mv (v := .bool _) rfl (by exact rfl)) ?_
      refine r_g rfl (wantF (by exact rfl)) rfl (fun hg => run_mv (v := .int _ _) rfl (by exact rfl)) ?_
      refine r_g rfl (wantF (by exact rfl)) rfl (fun hg => run_eql rfl (glv (by exact rfl) (fun h => h) hg) (by exact rfl)) ?_
      refine r_op rfl rfl rfl (run_pick_or rfl (by exact rfl) rfl (fun hq => glv (by exact rfl) (fun h => h) hq)) ?_
      refine r_nil ?_
      refine r_cond (by exact rfl) (fun hc12 => ?_) (fun hc12 => ?_)
      ·skip
       refine r_seq ?_
       refine r_region ?_
       refine r_op rfl rfl rfl (run_mv (v := .int _ _) rfl (by exact rfl)) ?_
       refine r_op rfl rfl rfl (run_add rfl (by exact rfl) (by exact rfl) (by omega) (by omega)) ?_
       refine r_knowL (i := 59) (v := .int .i64 ((k + 2 : Nat) : Int)) (congrArg (Value.int _) (by omega)) ?_
       refine r_op rfl rfl rfl (run_asg (v := .int _ _) rfl (by exact rfl)) ?_
       refine r_nil ?_
       refine r_exit rfl ?_
       refine r_again (k + 2) ?_ ?_ ?_
       ·first | omega | (dsimp only; omega)
       ·refine ⟨rfl, (by first | assumption | omega | (dsimp only; omega) | (simp; done)), (by first | (have h8 := jn_in (inner := wdB) (a := 39) (b := 45) (s := s) (n := k) (by omega) (wd_iff.2 hc12); omega) | (have h8 := rw_two (s := s) (k := k) (by assumption) (by assumption) hc12; omega)), (by first | assumption | omega | (dsimp only; omega) | (simp; done)), hV⟩
       ·repeat (first | (with_reducible exact Agree.merge _ _ _) | (with_reducible exact Agree.refl _ _) | (with_reducible refine Agree.upd ?_ _ _ rfl) | ((with_reducible refine Agree.inner ?_ ?_); (kernel_rfl)))
      ·skip
       refine r_skip ?_
       refine r_exit rfl ?_
       refine r_seq ?_
       refine r_region ?_
       refine r_op rfl rfl rfl (run_mv (v := .int _ _) rfl (by exact rfl)) ?_
       refine r_op rfl rfl rfl (run_asg (v := .int _ _) rfl (by exact rfl)) ?_
       refine r_nil ?_
       refine r_ret (res1 (v := .int _ _) rfl (by exact rfl)) ?_
       exact ⟨ret_int (by have h8 := rw_no (s := s) (k := k) (by omega) (by assumption) (fun h => by first | exact hc12 h.2 | exact hc12 h.1); rw [word_go (by assumption)]; omega), hV⟩
     ·skip
      refine r_skip ?_
      refine r_exit rfl ?_
      refine r_seq ?_
      refine r_region ?_
      refine r_op rfl rfl rfl (run_mv (v := .int _ _) rfl (by exact rfl)) ?_
      refine r_op rfl rfl rfl (run_asg (v := .int _ _) rfl (by exact rfl)) ?_
      refine r_nil ?_
      refine r_ret (res1 (v := .int _ _) rfl (by exact rfl)) ?_
      exact ⟨ret_int (by have h8 := rw_no (s := s) (k := k) (by omega) (by assumption) (fun h => by first | exact hc10 h.2 | exact hc10 h.1); rw [word_go (by assumption)]; omega), hV⟩
   ·skip
    refine r_exit rfl ?_
    refine r_seq ?_
    refine r_region ?_
    refine r_op rfl rfl rfl (run_mv (v := .int _ _) rfl (by exact rfl)) ?_
    refine r_op rfl rfl rfl (run_asg (v := .int _ _) rfl (by exact rfl)) ?_
    refine r_nil ?_
    refine r_ret (res1 (v := .int _ _) rfl (by exact rfl)) ?_
    exact ⟨ret_int (by have h8 := jn_end (a := 39) (b := 45) (inner := wdB) (s := s) (n := k) (by omega); rw [word_go (by assumption)]; omega), hV⟩
theorem rnumber_calls {s : Str} {w0 : World} (hs : s.length ≤ 140737488355328) :
    Calls Tryz.prog 47 #[S s] w0 fun e w' => e = .returned (.int .i64 ((numL s : Nat) : Int)) ∧ Evo w0 w' [] := by
 refine calls_enter (n := 51) (args := [S s]) Tryz.func47 rfl Tryz.ntmps47 rfl ?_
 have hV : Evo w0 w0 [] := Evo.refl _ _
 refine r_seq ?_
 refine r_region ?_
 refine r_op rfl rfl rfl (run_asg (v := .int _ _) rfl (by exact rfl)) ?_
 refine r_nil ?_
 refine r_seq ?_
 refine r_seq ?_
 refine r_region ?_
 refine r_op rfl rfl rfl (run_mv (v := S _) rfl (by exact rfl)) ?_
 refine r_op rfl rfl rfl (run_seql rfl (by exact rfl) (by exact rfl)) ?_
 refine r_op rfl rfl rfl (run_mv (v := .bool _) rfl (by exact rfl)) ?_
 refine r_g rfl (wantF (by exact rfl)) rfl (fun hg => run_mv (v := S _) rfl (by exact rfl)) ?_
 refine r_g rfl (wantF (by exact rfl)) rfl (fun hg => run_ixS (0) rfl Tryz.underlying9 (glv (by exact rfl) (fun h => h) hg) (by exact rfl) (by first | exact rfl | omega) (by have := ne_nil_len hg; omega)) ?_
 refine r_gcall rfl (wantF (by exact rfl)) rfl (fun hg => run_callf rfl (argcons (v := .int _ _) (glv (by exact rfl) (fun h => h) hg) (rfl)) Tryz.func76 rfl (by kernel_rfl)) (fun hg => (rclass_calls ).mono (fun e w' h => ⟨h.1, h.2⟩)) (fun w1 hE2 => ?_)
 have hs_w1 := (hE2).size
 replace hV := evo_step0 hV hE2
 refine r_g rfl (wantF (by exact rfl)) rfl (fun hg => run_neq rfl (glv (by exact rfl) (fun h => h) hg) (by exact rfl)) ?_
 refine r_op rfl rfl rfl (run_pick_or rfl (by exact rfl) rfl (fun hq => glv (by exact rfl) (fun h => h) hq)) ?_
 refine r_nil ?_
 refine r_cond (by exact rfl) (fun hc3 => ?_) (fun hc3 => ?_)
 ·skip
  refine r_seq ?_
  refine r_region ?_
  refine r_op rfl rfl rfl (run_asg (v := .int _ _) rfl (by exact rfl)) ?_
  refine r_nil ?_
  refine r_ret (res1 (v := .int _ _) rfl (by exact rfl)) ?_
  exact ⟨ret_int (by rw [num_no hc3]; rfl), hV⟩
 ·skip
  refine r_skip ?_
  refine r_seq ?_
  have hs1 := ne_len hc3
  refine r_region ?_
  refine r_op rfl rfl rfl (run_asg (v := .int _ _) rfl (by exact rfl)) ?_
  refine r_nil ?_
  refine r_seq ?_
  refine r_block ?_
  refine r_loop (α := Nat) [3, 12, 13, 14, 15, 16, 17, 18, 19, 20, 21, 22, 23, 24, 25, 26, 27, 28, 29, 30, 31, 32, 33, 34, 35, 36, 37, 38, 39, 40, 41, 42, 43, 44, 45, 46, 47, 48, 49] (fun k g w => g 3 = .int .i64 (k : Nat) ∧ (1 ≤ k ∧ k ≤ s.length) ∧ k + jnL dgtB 46 44 (s.drop k) = 1 + jnL dgtB 46 44 (s.drop 1) ∧ w1.heap.size ≤ w.heap.size ∧ Evo w0 w []) (fun k => s.length - k) 1 ?_ ?_
  ·refine ⟨rfl, (by first | assumption | omega | (dsimp only; omega) | (simp; done)), (by first | assumption | omega | (dsimp only; omega) | (simp; done)), (by first | assumption | omega | (dsimp only; omega) | (simp; done)), hV⟩
  ·rintro k g w5 ⟨hj6, hk1, hj, hzl4, hV⟩
   have hs_w5hV := hV.size
   refine r_know (i := 3) (v := .int .i64 (k : Nat)) (by exact hj6) ?_
   refine r_seq ?_
   refine r_seq ?_
   refine r_region ?_
   refine r_op rfl rfl rfl (run_mv (v := .int _ _) rfl (by exact rfl)) ?_
   refine r_op rfl rfl rfl (run_mv (v := S _) rfl (by exact rfl)) ?_
   refine r_op rfl rfl rfl (run_lenS rfl (by exact rfl) Tryz.underlying9) ?_
   refine r_op rfl rfl rfl (run_lss rfl (by exact rfl) (by exact rfl)) ?_
   refine r_nil ?_
   refine r_cond (by exact rfl) (fun hc7 => ?_) (fun hc7 => ?_)
   ·skip
    refine r_skip ?_
    refine r_block ?_
    refine r_seq ?_
    refine r_seq ?_
    refine r_region ?_
    refine r_op rfl rfl rfl (run_mv (v := S _) rfl (by exact rfl)) ?_
    refine r_op rfl rfl rfl (run_mv (v := .int _ _) rfl (by exact rfl)) ?_
    refine r_op rfl rfl rfl (run_ixS (k) rfl Tryz.underlying9 (by exact rfl) (by exact rfl) (by first | exact rfl | omega) (by omega)) ?_
    refine r_opcall rfl rfl rfl (run_callf (vs := [.int _ _]) rfl (by exact rfl) Tryz.func76 rfl (by kernel_rfl)) rclass_calls ?_
    rintro e w8 ⟨rfl, hE8⟩
    refine ⟨_, rfl, ?_⟩
    have hs_w8 := (hE8).size
    replace hV := evo_step0 hV hE8
    refine r_op rfl rfl rfl (run_eql rfl (by exact rfl) (by exact rfl)) ?_
    refine r_nil ?_
    refine r_cond (by exact rfl) (fun hc9 => ?_) (fun hc9 => ?_)
    ·skip
     refine r_seq ?_
     refine r_region ?_
     refine r_op rfl rfl rfl (run_mv (v := .int _ _) rfl (by exact rfl)) ?_
     refine r_op rfl rfl rfl (run_add rfl (by exact rfl) (by exact rfl) (by omega) (by omega)) ?_
     refine r_knowL (i := 22) (v := .int .i64 ((k + 1 : Nat) : Int)) (congrArg (Value.int _) (by omega)) ?_
     refine r_op rfl rfl rfl (run_asg (v := .int _ _) rfl (by exact rfl)) ?_
     refine r_nil ?_
     refine r_exit rfl ?_
     refine r_again (k + 1) ?_ ?_ ?_
     ·first | omega | (dsimp only; omega)
     ·refine ⟨rfl, (by first | assumption | omega | (dsimp only; omega) | (simp; done)), (by first | (have h8 := jn_in (inner := dgtB) (a := 46) (b := 44) (s := s) (n := k) (by omega) (dg_iff.2 hc9); omega) | (have h8 := rn_two (s := s) (k := k) (by assumption) hc9; omega)), (by first | assumption | omega | (dsimp only; omega) | (simp; done)), hV⟩
     ·repeat (first | (with_reducible exact Agree.merge _ _ _) | (with_reducible exact Agree.refl _ _) | (with_reducible refine Agree.upd ?_ _ _ rfl) | ((with_reducible refine Agree.inner ?_ ?_); (kernel_rfl)))
    ·skip
     refine r_skip ?_
     refine r_seq ?_
     refine r_seq ?_
     refine r_region ?_
     refine r_op rfl rfl rfl (run_mv (v := S _) rfl (by exact rfl)) ?_
     refine r_op rfl rfl rfl (run_mv (v := .int _ _) rfl (by exact rfl)) ?_
     refine r_op rfl rfl rfl (run_ixS (k) rfl Tryz.underlying9 (by exact rfl) (by exact rfl) (by first | exact rfl | omega) (by omega)) ?_
     refine r_op rfl rfl rfl (run_eql rfl (by exact rfl) (by exact rfl)) ?_
     refine r_op rfl rfl rfl (run_mv (v := .bool _) rfl (by exact rfl)) ?_
     refine r_g rfl (wantF (by exact rfl)) rfl (fun hg => run_mv (v := S _) rfl (by exact rfl)) ?_
     refine r_g rfl (wantF (by exact rfl)) rfl (fun hg => run_mv (v := .int _ _) rfl (by exact rfl)) ?_
     refine r_g rfl (wantF (by exact rfl)) rfl (fun hg => run_ixS (k) rfl Tryz.underlying9 (glv (by exact rfl) (fun h => h) hg) (glv (by exact rfl) (fun h => h) hg) (by first | exact rfl | omega) (by omega)) ?_
     refine r_g rfl (wantF (by exact rfl)) rfl (fun hg => run_eql rfl (glv (by exact rfl) (fun h => h) hg) (by exact rfl)) ?_
     refine r_op rfl rfl rfl (run_pick_or rfl (by exact rfl) rfl (fun hq => glv (by exact rfl) (fun h => h) hq)) ?_
     refine r_op rfl rfl rfl (run_mv (v := .bool _) rfl (by exact rfl)) ?_
     refine r_g rfl (wantT (by exact rfl)) rfl (fun hg => run_mv (v := .int _ _) rfl (by exact rfl)) ?_
     refine r_g rfl (wantT (by exact rfl)) rfl (fun hg => run_add rfl (glv (by exact rfl) (fun h => h) hg) (by exact rfl) (by omega) (by omega)) ?_
     refine r_g rfl (wantT (by exact rfl)) rfl (fun hg => run_mv (v := S _) rfl (by exact rfl)) ?_
     refine r_g rfl (wantT (by exact rfl)) rfl (fun hg => run_lenS rfl (glv (by exact rfl) (fun h => h) hg) Tryz.underlying9) ?_
     refine r_g rfl (wantT (by exact rfl)) rfl (fun hg => run_lss rfl (glv (by exact rfl) (fun h => h) hg) (glv (by exact rfl) (fun h => h) hg)) ?_
     refine r_op rfl rfl rfl (run_pick_and rfl (by exact rfl) (fun hq => glv (by exact rfl) (fun h => h) hq) rfl) ?_
     refine r_op rfl rfl rfl (run_mv (v := .bool _) rfl (by exact rfl)) ?_
     refine r_g rfl (wantT (by exact rfl)) rfl (fun hg => run_mv (v := S _) rfl (by exact rfl)) ?_
     refine r_g rfl (wantT (by exact rfl)) rfl (fun hg => run_mv (v := .int _ _) rfl (by exact rfl)) ?_
     refine r_g rfl (wantT (by exact rfl)) rfl (fun hg => run_add rfl (glv (by exact rfl) (fun h => h) hg) (by exact rfl) (by omega) (by omega)) ?_
     refine r_g rfl (wantT (by exact rfl)) rfl (fun hg => run_ixS ((k + 1)) rfl Tryz.underlying9 (glv (by exact rfl) (fun h => h) hg) (glv (by exact rfl) (fun h => h) hg) (by omega) (by omega)) ?_
     refine r_gcall rfl (wantT (by exact rfl)) rfl (fun hg => run_callf rfl (argcons (v := .int _ _) (glv (by exact rfl) (fun h => h) hg) (rfl)) Tryz.func76 rfl (by kernel_rfl)) (fun hg => (rclass_calls ).mono (fun e w' h => ⟨h.1, h.2⟩)) (fun w10 hE11 => ?_)
     have hs_w10 := (hE11).size
     replace hV := evo_step0 hV hE11
     refine r_g rfl (wantT (by exact rfl)) rfl (fun hg => run_eql rfl (glv (by exact rfl) (fun h => h) hg) (by exact rfl)) ?_
     refine r_op rfl rfl rfl (run_pick_and rfl (by exact rfl) (fun hq => glv (by exact rfl) (fun h => h) hq) rfl) ?_
     refine r_nil ?_
     refine r_cond (by exact rfl) (fun hc12 => ?_) (fun hc12 => ?_)
     ·skip
      refine r_seq ?_
      refine r_region ?_
      refine r_op rfl rfl rfl (run_mv (v := .int _ _) rfl (by exact rfl)) ?_
      refine r_op rfl rfl rfl (run_add rfl (by exact rfl) (by exact rfl) (by omega) (by omega)) ?_
      refine r_knowL (i := 49) (v := .int .i64 ((k + 2 : Nat) : Int)) (congrArg (Value.int _) (by omega)) ?_
      refine r_op rfl rfl rfl (run_asg (v := .int _ _) rfl (by exact rfl)) ?_
      refine r_nil ?_
      refine r_exit rfl ?_
      refine r_again (k + 2) ?_ ?_ ?_
      ·first | omega | (dsimp only; omega)
      ·refine ⟨rfl, (by first | assumption | omega | (dsimp only; omega) | (simp; done)), (by first | (have h8 := jn_in (inner := dgtB) (a := 46) (b := 44) (s := s) (n := k) (by omega) (dg_iff.2 hc12); omega) | (have h8 := rn_two (s := s) (k := k) (by assumption) hc12; omega)), (by first | assumption | omega | (dsimp only; omega) | (simp; done)), hV⟩
      ·repeat (first | (with_reducible exact Agree.merge _ _ _) | (with_reducible exact Agree.refl _ _) | (with_reducible refine Agree.upd ?_ _ _ rfl) | ((with_reducible refine Agree.inner ?_ ?_); (kernel_rfl)))
     ·skip
      refine r_skip ?_
      refine r_exit rfl ?_
      refine r_seq ?_
      refine r_region ?_
      refine r_op rfl rfl rfl (run_mv (v := .int _ _) rfl (by exact rfl)) ?_
      refine r_op rfl rfl rfl (run_asg (v := .int _ _) rfl (by exact rfl)) ?_
      refine r_nil ?_
      refine r_ret (res1 (v := .int _ _) rfl (by exact rfl)) ?_
      exact ⟨ret_int (by have h8 := rn_no (s := s) (k := k) (by omega) (by assumption) hc12; rw [num_go (by assumption)]; omega), hV⟩
   ·skip
    refine r_exit rfl ?_
    refine r_seq ?_
    refine r_region ?_
    refine r_op rfl rfl rfl (run_mv (v := .int _ _) rfl (by exact rfl)) ?_
    refine r_op rfl rfl rfl (run_asg (v := .int _ _) rfl (by exact rfl)) ?_
    refine r_nil ?_
    refine r_ret (res1 (v := .int _ _) rfl (by exact rfl)) ?_
    exact ⟨ret_int (by have h8 := jn_end (a := 46) (b := 44) (inner := dgtB) (s := s) (n := k) (by omega); rw [num_go (by assumption)]; omega), hV⟩
theorem rblank_calls {s : Str} {w0 : World} (hs : s.length ≤ 140737488355328) :
    Calls Tryz.prog 48 #[S s] w0 fun e w' => e = .returned (.int .i64 ((blL s : Nat) : Int)) ∧ Evo w0 w' [] := by
 refine calls_enter (n := 18) (args := [S s]) Tryz.func48 rfl Tryz.ntmps48 rfl ?_
 have hV : Evo w0 w0 [] := Evo.refl _ _
 refine r_seq ?_
 refine r_region ?_
 refine r_op rfl rfl rfl (run_asg (v := .int _ _) rfl (by exact rfl)) ?_
 refine r_nil ?_
 refine r_seq ?_
 refine r_region ?_
 refine r_op rfl rfl rfl (run_asg (v := .int _ _) rfl (by exact rfl)) ?_
 refine r_nil ?_
 refine r_seq ?_
 refine r_block ?_
 refine r_loop (α := Nat) [3, 4, 5, 6, 7, 8, 9, 10, 11, 12, 13, 14, 15, 16] (fun k g w => g 3 = .int .i64 (k : Nat) ∧ k ≤ s.length ∧ k + blL (s.drop k) = blL s ∧ w0.heap.size ≤ w.heap.size ∧ Evo w0 w []) (fun k => s.length - k) 0 ?_ ?_
 ·refine ⟨rfl, (by first | assumption | omega | (dsimp only; omega) | (simp; done)), (by simp), (by first | assumption | omega | (dsimp only; omega) | (simp; done)), hV⟩
 ·rintro k g w2 ⟨hj3, hk1, hb, hzl1, hV⟩
  have hs_w2hV := hV.size
  refine r_know (i := 3) (v := .int .i64 (k : Nat)) (by exact hj3) ?_
  refine r_seq ?_
  refine r_seq ?_
  refine r_region ?_
  refine r_op rfl rfl rfl (run_mv (v := .int _ _) rfl (by exact rfl)) ?_
  refine r_op rfl rfl rfl (run_mv (v := S _) rfl (by exact rfl)) ?_
  refine r_op rfl rfl rfl (run_lenS rfl (by exact rfl) Tryz.underlying9) ?_
  refine r_op rfl rfl rfl (run_lss rfl (by exact rfl) (by exact rfl)) ?_
  refine r_op rfl rfl rfl (run_mv (v := .bool _) rfl (by exact rfl)) ?_
  refine r_g rfl (wantT (by exact rfl)) rfl (fun hg => run_mv (v := S _) rfl (by exact rfl)) ?_
  refine r_g rfl (wantT (by exact rfl)) rfl (fun hg => run_mv (v := .int _ _) rfl (by exact rfl)) ?_
  refine r_g rfl (wantT (by exact rfl)) rfl (fun hg => run_ixS (k) rfl Tryz.underlying9 (glv (by exact rfl) (fun h => h) hg) (glv (by exact rfl) (fun h => h) hg) (by first | exact rfl | omega) (by omega)) ?_
  refine r_gcall rfl (wantT (by exact rfl)) rfl (fun hg => run_callf rfl (argcons (v := .int _ _) (glv (by exact rfl) (fun h => h) hg) (rfl)) Tryz.func76 rfl (by kernel_rfl)) (fun hg => (rclass_calls ).mono (fun e w' h => ⟨h.1, h.2⟩)) (fun w4 hE5 => ?_)
  have hs_w4 := (hE5).size
  replace hV := evo_step0 hV hE5
  refine r_g rfl (wantT (by exact rfl)) rfl (fun hg => run_eql rfl (glv (by exact rfl) (fun h => h) hg) (by exact rfl)) ?_
  refine r_op rfl rfl rfl (run_pick_and rfl (by exact rfl) (fun hq => glv (by exact rfl) (fun h => h) hq) rfl) ?_
  refine r_nil ?_
  refine r_cond (by exact rfl) (fun hc6 => ?_) (fun hc6 => ?_)
  ·skip
   refine r_skip ?_
   refine r_block ?_
   refine r_region ?_
   refine r_op rfl rfl rfl (run_mv (v := .int _ _) rfl (by exact rfl)) ?_
   refine r_op rfl rfl rfl (run_add rfl (by exact rfl) (by exact rfl) (by omega) (by omega)) ?_
   refine r_op rfl rfl rfl (run_asg (v := .int _ _) rfl (by exact rfl)) ?_
   refine r_nil ?_
   refine r_blk ?_
   refine r_again (k + 1) ?_ ?_ ?_
   ·first | omega | (dsimp only; omega)
   ·refine ⟨(by first | exact rfl | exact congrArg (Value.int _) (by omega) | exact congrArg (Value.int _) (by dsimp only; omega) | exact congrArg (Value.int _) (by simp) | exact congrArg S (by simp)), (by first | assumption | omega | (dsimp only; omega) | (simp; done)), (by have h8 := bl_yes (s := s) (n := k) (by omega) hc6.2; omega), (by first | assumption | omega | (dsimp only; omega) | (simp; done)), hV⟩
   ·repeat (first | (with_reducible exact Agree.merge _ _ _) | (with_reducible exact Agree.refl _ _) | (with_reducible refine Agree.upd ?_ _ _ rfl) | ((with_reducible refine Agree.inner ?_ ?_); (kernel_rfl)))
  ·skip
   refine r_exit rfl ?_
   refine r_seq ?_
   refine r_region ?_
   refine r_op rfl rfl rfl (run_mv (v := .int _ _) rfl (by exact rfl)) ?_
   refine r_op rfl rfl rfl (run_asg (v := .int _ _) rfl (by exact rfl)) ?_
   refine r_nil ?_
   refine r_ret (res1 (v := .int _ _) rfl (by exact rfl)) ?_
   exact ⟨ret_int (by have h8 := bl_noC (s := s) (k := k) (by omega) hc6; omega), hV⟩
end Go.Proofs.YthbcklajlmcifaaGreat
namespace Go.Proofs.YthbcklajlmcifaaGreat
open Go.RowKit Go.Vc
theorem ag_45 : aggP Tryz.prog 45 = some true := by kernel_rfl
theorem ag_9 : aggP Tryz.prog 9 = some false := by kernel_rfl
theorem fo_45_0 : fieldP Tryz.prog 45 0 = some 0 := by kernel_rfl
theorem fo_45_1 : fieldP Tryz.prog 45 1 = some 1 := by kernel_rfl
theorem fo_45_2 : fieldP Tryz.prog 45 2 = some 2 := by kernel_rfl
theorem pl_43 : placesP Tryz.prog 43 = some [(0, 1), (1, 1), (2, 1)] := by kernel_rfl
theorem ty_43 : tyP Tryz.prog 43 = some (3, 32, some (.agg #[(.int .i64 0), (.string ⟨#[]⟩), (.int .i64 0)])) := by kernel_rfl
theorem ty_45 : tyP Tryz.prog 45 = some (3, 32, some (.agg #[(.int .i64 0), (.string ⟨#[]⟩), (.int .i64 0)])) := by kernel_rfl
theorem cut_step {r : Str} {l L : List Vc.Item} {p : Int × Nat} (hp : tokN r = p) (hacc : l ++ cutT r = L) (hr : ¬ r = []) : (l ++ [⟨p.1, r.take p.2, 0⟩]) ++ cutT (r.drop p.2) = L := by
  rw [cutT_cons hr, hp] at hacc
  rw [List.append_assoc]; exact hacc
theorem fLen_at : ∀ (f : List Vc.Item) (k : Nat), (f.getD k default).text.length ≤ fLen f
  | [], k => by show ([] : Str).length ≤ _; exact Nat.zero_le _
  | x :: f, 0 => by simp [fLen]
  | x :: f, k + 1 => by
    have := fLen_at f k
    simp only [fLen, List.map_cons, List.sum_cons, List.getD_cons_succ] at *
    omega
theorem fLen_take : ∀ (f : List Vc.Item) (k : Nat), fLen (f.take k) ≤ fLen f
  | [], k => by simp
  | x :: f, 0 => by simp [fLen]
  | x :: f, k + 1 => by
    have := fLen_take f k
    simp only [fLen, List.take_succ_cons, List.map_cons, List.sum_cons] at *
    omega
theorem fLen_snoc (f : List Vc.Item) (k : Nat) (h : k < f.length) : fLen (f.take k) + (f.getD k default).text.length ≤ fLen f := by
  have h1 := fLen_take f (k + 1)
  rw [take_succD f k h] at h1
  simpa [fLen] using h1
theorem tokI_text {x : Vc.Item} (h : x.kind = 1) : tokI x = cutT x.text := if_pos h
theorem tokI_tag {x : Vc.Item} (h : x.kind = 2 ∨ x.kind = 3 ∨ x.kind = 4 ∨ x.kind = 5) : tokI x = [x] := by unfold tokI; rw [if_neg (by omega), if_pos (by omega)]
theorem tokI_none {x : Vc.Item} (h : ¬ x.kind = 1) (h2 : ¬ x.kind = 2) (h3 : ¬ x.kind = 3) (h4 : ¬ x.kind = 4) (h5 : ¬ x.kind = 5) : tokI x = [] := by unfold tokI; rw [if_neg h, if_neg (by omega)]
theorem cut_bd (s : Str) : (cutT s).length ≤ s.length := cutT_len _ s rfl
theorem cut_c1 {r : Str} (h : ¬ r = []) (h2 : (0 : Int) < ((blL r : Nat) : Int)) : tokN r = (8, blL r) := tok_blank h (by omega)
theorem cut_c2 {r : Str} (h : ¬ r = []) (h2 : ¬ (0 : Int) < ((blL r : Nat) : Int)) (h1 : (0 : Int) < ((numL r : Nat) : Int)) : tokN r = (7, numL r) := tok_num h (by omega) (by omega)
theorem cut_c3 {r : Str} (h : ¬ r = []) (h2 : ¬ (0 : Int) < ((blL r : Nat) : Int)) (h1 : ¬ (0 : Int) < ((numL r : Nat) : Int)) (h0 : (0 : Int) < ((wordL r : Nat) : Int)) : tokN r = (6, wordL r) := tok_word h (by omega) (by omega) (by omega)
theorem cut_c4 {r : Str} (h : ¬ r = []) (h2 : ¬ (0 : Int) < ((blL r : Nat) : Int)) (h1 : ¬ (0 : Int) < ((numL r : Nat) : Int)) (h0 : ¬ (0 : Int) < ((wordL r : Nat) : Int)) : tokN r = (9, 1) := tok_sign h (by omega) (by omega) (by omega)
theorem rcut_calls {s : Str} {w0 : World} (hs : s.length ≤ 1000000000) :
    Calls Tryz.prog 28 #[S s] w0 fun e w' => ∃ v, e = .returned v ∧ Evo w0 w' [] ∧ OwnE w' w0.heap.size 43 v (cutT s) := by
 have hcb := cut_bd s
 refine calls_enter (n := 39) (args := [S s]) Tryz.func28 rfl Tryz.ntmps28 rfl ?_
 have hV : Evo w0 w0 [] := Evo.refl _ _
 refine r_seq ?_
 refine r_region ?_
 refine r_op rfl rfl rfl (run_asg (v := .slice _ _ _) rfl (by exact rfl)) ?_
 refine r_nil ?_
 refine r_seq ?_
 refine r_region ?_
 refine r_op rfl rfl rfl (run_asg (v := .slice _ _ _) rfl (by exact rfl)) ?_
 refine r_nil ?_
 refine r_seq ?_
 refine r_block ?_
 refine r_loop (α := Str) [0, 3, 4, 5, 6, 7, 8, 9, 10, 11, 12, 13, 14, 15, 16, 17, 18, 19, 20, 21, 22, 23, 24, 25, 26, 27, 28, 29, 30, 31, 32, 33, 34, 35, 36, 37] (fun r g w => ∃ vo : Value, ∃ l : List Vc.Item, g 0 = S r ∧ g 3 = vo ∧ OwnE w w0.heap.size 43 vo l ∧ l ++ cutT r = cutT s ∧ r.length ≤ s.length ∧ w0.heap.size ≤ w.heap.size ∧ Evo w0 w []) (fun r => r.length) s ?_ ?_
 ·refine ⟨_, [], rfl, rfl, (OwnE.nil _ _ _), (List.nil_append _), (Nat.le_refl _), (by first | assumption | omega | (dsimp only; omega) | (simp; done)), hV⟩
 ·rintro r g w2 ⟨vo, l, hj3, hj4, hoo, hacc, hrl, hzl1, hV⟩
  have hs_w2hV := hV.size
  refine r_know (i := 0) (v := S r) (by exact hj3) ?_
  refine r_know (i := 3) (v := vo) (by exact hj4) ?_
  have hla := congrArg List.length hacc
  rw [List.length_append] at hla
  refine r_seq ?_
  refine r_seq ?_
  refine r_region ?_
  refine r_op rfl rfl rfl (run_mv (v := S _) rfl (by exact rfl)) ?_
  refine r_op rfl rfl rfl (run_lenS rfl (by exact rfl) Tryz.underlying9) ?_
  refine r_op rfl rfl rfl (run_gtr rfl (by exact rfl) (by exact rfl)) ?_
  refine r_nil ?_
  refine r_cond (by exact rfl) (fun hc5 => ?_) (fun hc5 => ?_)
  ·skip
   refine r_skip ?_
   refine r_block ?_
   refine r_seq ?_
   have hr0 : 0 < r.length := by omega
   have hne : ¬ r = [] := fun e => by rw [e] at hr0; simp at hr0
   have htl := tokN_len hne; have htp := tokN_pos r
   refine r_region ?_
   refine r_op rfl rfl rfl (run_asg (v := .int _ _) rfl (by exact rfl)) ?_
   refine r_op rfl rfl rfl (run_asg (v := .int _ _) rfl (by exact rfl)) ?_
   refine r_nil ?_
   refine r_seq ?_
   refine r_seq ?_
   refine r_region ?_
   refine r_op rfl rfl rfl (run_mv (v := S _) rfl (by exact rfl)) ?_
   refine r_opcall rfl rfl rfl (run_callf (vs := [S _]) rfl (by exact rfl) Tryz.func46 rfl (by kernel_rfl)) (rword_calls (by omega)) ?_
   rintro e w6 ⟨rfl, hE6⟩
   refine ⟨_, rfl, ?_⟩
   have hs_w6 := (hE6).size
   replace hV := evo_step0 hV hE6
   replace hoo := hoo.evo0 hE6
   refine r_op rfl rfl rfl (run_asg (v := .int _ _) rfl (by exact rfl)) ?_
   refine r_nil ?_
   refine r_seq ?_
   refine r_region ?_
   refine r_op rfl rfl rfl (run_mv (v := .int _ _) rfl (by exact rfl)) ?_
   refine r_op rfl rfl rfl (run_gtr rfl (by exact rfl) (by exact rfl)) ?_
   refine r_nil ?_
   refine r_cond (by exact rfl) (fun hc7 => ?_) (fun hc7 => ?_)
   ·skip
    refine r_region ?_
    refine r_op rfl rfl rfl (run_mv (v := .int _ _) rfl (by exact rfl)) ?_
    refine r_op rfl rfl rfl (run_asg (v := .int _ _) rfl (by exact rfl)) ?_
    refine r_op rfl rfl rfl (run_asg (v := .int _ _) rfl (by exact rfl)) ?_
    refine r_nil ?_
    refine r_seq ?_
    refine r_seq ?_
    refine r_region ?_
    refine r_op rfl rfl rfl (run_mv (v := S _) rfl (by exact rfl)) ?_
    refine r_opcall rfl rfl rfl (run_callf (vs := [S _]) rfl (by exact rfl) Tryz.func47 rfl (by kernel_rfl)) (rnumber_calls (by omega)) ?_
    rintro e w8 ⟨rfl, hE8⟩
    refine ⟨_, rfl, ?_⟩
    have hs_w8 := (hE8).size
    replace hV := evo_step0 hV hE8
    replace hoo := hoo.evo0 hE8
    refine r_op rfl rfl rfl (run_asg (v := .int _ _) rfl (by exact rfl)) ?_
    refine r_nil ?_
    refine r_seq ?_
    refine r_region ?_
    refine r_op rfl rfl rfl (run_mv (v := .int _ _) rfl (by exact rfl)) ?_
    refine r_op rfl rfl rfl (run_gtr rfl (by exact rfl) (by exact rfl)) ?_
    refine r_nil ?_
    refine r_cond (by exact rfl) (fun hc9 => ?_) (fun hc9 => ?_)
    ·skip
     refine r_region ?_
     refine r_op rfl rfl rfl (run_mv (v := .int _ _) rfl (by exact rfl)) ?_
     refine r_op rfl rfl rfl (run_asg (v := .int _ _) rfl (by exact rfl)) ?_
     refine r_op rfl rfl rfl (run_asg (v := .int _ _) rfl (by exact rfl)) ?_
     refine r_nil ?_
     refine r_seq ?_
     refine r_seq ?_
     refine r_region ?_
     refine r_op rfl rfl rfl (run_mv (v := S _) rfl (by exact rfl)) ?_
     refine r_opcall rfl rfl rfl (run_callf (vs := [S _]) rfl (by exact rfl) Tryz.func48 rfl (by kernel_rfl)) (rblank_calls (by omega)) ?_
     rintro e w10 ⟨rfl, hE10⟩
     refine ⟨_, rfl, ?_⟩
     have hs_w10 := (hE10).size
     replace hV := evo_step0 hV hE10
     replace hoo := hoo.evo0 hE10
     refine r_op rfl rfl rfl (run_asg (v := .int _ _) rfl (by exact rfl)) ?_
     refine r_nil ?_
     refine r_seq ?_
     refine r_region ?_
     refine r_op rfl rfl rfl (run_mv (v := .int _ _) rfl (by exact rfl)) ?_
     refine r_op rfl rfl rfl (run_gtr rfl (by exact rfl) (by exact rfl)) ?_
     refine r_nil ?_
     refine r_cond (by exact rfl) (fun hc11 => ?_) (fun hc11 => ?_)
     ·skip
      refine r_region ?_
      refine r_op rfl rfl rfl (run_mv (v := .int _ _) rfl (by exact rfl)) ?_
      refine r_op rfl rfl rfl (run_asg (v := .int _ _) rfl (by exact rfl)) ?_
      refine r_op rfl rfl rfl (run_asg (v := .int _ _) rfl (by exact rfl)) ?_
      refine r_nil ?_
      refine r_seq ?_
      refine r_know (i := 4) (v := .int .i64 (tokN r).1) (by first | (rw [cut_c1 hne (by assumption)]; exact rfl) | (rw [cut_c2 hne (by assumption) (by assumption)]; exact rfl) | (rw [cut_c3 hne (by assumption) (by assumption) (by assumption)]; exact rfl) | (rw [cut_c4 hne (by assumption) (by assumption) (by assumption)]; exact rfl)) ?_
      refine r_know (i := 5) (v := .int .i64 (((tokN r).2 : Nat) : Int)) (by first | (rw [cut_c1 hne (by assumption)]; exact rfl) | (rw [cut_c2 hne (by assumption) (by assumption)]; exact rfl) | (rw [cut_c3 hne (by assumption) (by assumption) (by assumption)]; exact rfl) | (rw [cut_c4 hne (by assumption) (by assumption) (by assumption)]; exact rfl)) ?_
      refine r_region ?_
      refine r_op rfl rfl rfl (run_mv (v := vo) rfl (by exact rfl)) ?_
      refine r_op rfl rfl rfl (run_mv (v := .int _ _) rfl (by exact rfl)) ?_
      refine r_op rfl rfl rfl (run_mv (v := S _) rfl (by exact rfl)) ?_
      refine r_op rfl rfl rfl (run_mv (v := .int _ _) rfl (by exact rfl)) ?_
      refine r_op rfl rfl rfl (by exact run_slS (0) ((tokN r).2) rfl Tryz.underlying9 (by exact rfl) lo0 (at1 (by exact rfl) (by omega)) (by first | omega | (simp; omega)) (by first | omega | (simp; omega))) ?_
      refine r_op rfl rfl rfl (run_bld (pv := [(0, .int _ _), (1, S _)]) (zs := [_, _, _]) (cells := [_, _, _]) rfl ty_43 (by exact rfl) pl_43 (by exact rfl) (by exact rfl)) ?_
      refine r_append1E (u := .agg _) (y := (⟨(tokN r).1, r.take (tokN r).2, 0⟩ : Vc.Item)) rfl rfl Tryz.underlying23 ty_43 (by exact rfl) hoo (fun _ => (by exact rfl)) (by exact rfl) (by first | exact rfl | (show _ = List.toArray [_, _, _]; first | (dsimp only; done) | exact rfl | (dsimp only; exact rfl))) ((by first | omega | (simp; omega))) ((by first | omega | (simp; omega))) (by omega) ?_
      intro q_v12 v12 w13 hEw13 hov12 hlv12
      have hs_w13 := (hEw13).size
      replace hV := evo_stepo hV hEw13 (fun g hg => .inl (by first | exact (hoo.block hg).1 | (have := hoo.block hg; omega)))
      refine r_op rfl rfl rfl (run_asg (v := v12) rfl (by exact rfl)) ?_
      refine r_nil ?_
      refine r_region ?_
      refine r_op rfl rfl rfl (run_mv (v := S _) rfl (by exact rfl)) ?_
      refine r_op rfl rfl rfl (run_mv (v := .int _ _) rfl (by exact rfl)) ?_
      refine r_op rfl rfl rfl (by exact run_slS ((tokN r).2) (_) rfl Tryz.underlying9 (by exact rfl) (at1 (by exact rfl) (by omega)) hi0 (by first | omega | (simp; omega)) (by first | omega | (simp; omega))) ?_
      refine r_op rfl rfl rfl (run_asg (v := S _) rfl (by exact rfl)) ?_
      refine r_nil ?_
      refine r_blk ?_
      refine r_again (r.drop (tokN r).2) ?_ ?_ ?_
      ·rw [List.length_drop]; omega
      ·refine ⟨_, _, (congrArg S (List.take_of_length_le (by rw [List.length_drop]; exact Nat.le_refl _))), rfl, hov12, (cut_step (p := ((tokN r).1, (tokN r).2)) rfl hacc hne), (by rw [List.length_drop]; omega), (by first | assumption | omega | (dsimp only; omega) | (simp; done)), hV⟩
      ·repeat (first | (with_reducible exact Agree.merge _ _ _) | (with_reducible exact Agree.refl _ _) | (with_reducible refine Agree.upd ?_ _ _ rfl) | ((with_reducible refine Agree.inner ?_ ?_); (kernel_rfl)))
     ·skip
      refine r_skip ?_
      refine r_seq ?_
      refine r_know (i := 4) (v := .int .i64 (tokN r).1) (by first | (rw [cut_c1 hne (by assumption)]; exact rfl) | (rw [cut_c2 hne (by assumption) (by assumption)]; exact rfl) | (rw [cut_c3 hne (by assumption) (by assumption) (by assumption)]; exact rfl) | (rw [cut_c4 hne (by assumption) (by assumption) (by assumption)]; exact rfl)) ?_
      refine r_know (i := 5) (v := .int .i64 (((tokN r).2 : Nat) : Int)) (by first | (rw [cut_c1 hne (by assumption)]; exact rfl) | (rw [cut_c2 hne (by assumption) (by assumption)]; exact rfl) | (rw [cut_c3 hne (by assumption) (by assumption) (by assumption)]; exact rfl) | (rw [cut_c4 hne (by assumption) (by assumption) (by assumption)]; exact rfl)) ?_
      refine r_region ?_
      refine r_op rfl rfl rfl (run_mv (v := vo) rfl (by exact rfl)) ?_
      refine r_op rfl rfl rfl (run_mv (v := .int _ _) rfl (by exact rfl)) ?_
      refine r_op rfl rfl rfl (run_mv (v := S _) rfl (by exact rfl)) ?_
      refine r_op rfl rfl rfl (run_mv (v := .int _ _) rfl (by exact rfl)) ?_
      refine r_op rfl rfl rfl (by exact run_slS (0) ((tokN r).2) rfl Tryz.underlying9 (by exact rfl) lo0 (at1 (by exact rfl) (by omega)) (by first | omega | (simp; omega)) (by first | omega | (simp; omega))) ?_
      refine r_op rfl rfl rfl (run_bld (pv := [(0, .int _ _), (1, S _)]) (zs := [_, _, _]) (cells := [_, _, _]) rfl ty_43 (by exact rfl) pl_43 (by exact rfl) (by exact rfl)) ?_
      refine r_append1E (u := .agg _) (y := (⟨(tokN r).1, r.take (tokN r).2, 0⟩ : Vc.Item)) rfl rfl Tryz.underlying23 ty_43 (by exact rfl) hoo (fun _ => (by exact rfl)) (by exact rfl) (by first | exact rfl | (show _ = List.toArray [_, _, _]; first | (dsimp only; done) | exact rfl | (dsimp only; exact rfl))) ((by first | omega | (simp; omega))) ((by first | omega | (simp; omega))) (by omega) ?_
      intro q_v14 v14 w15 hEw15 hov14 hlv14
      have hs_w15 := (hEw15).size
      replace hV := evo_stepo hV hEw15 (fun g hg => .inl (by first | exact (hoo.block hg).1 | (have := hoo.block hg; omega)))
      refine r_op rfl rfl rfl (run_asg (v := v14) rfl (by exact rfl)) ?_
      refine r_nil ?_
      refine r_region ?_
      refine r_op rfl rfl rfl (run_mv (v := S _) rfl (by exact rfl)) ?_
      refine r_op rfl rfl rfl (run_mv (v := .int _ _) rfl (by exact rfl)) ?_
      refine r_op rfl rfl rfl (by exact run_slS ((tokN r).2) (_) rfl Tryz.underlying9 (by exact rfl) (at1 (by exact rfl) (by omega)) hi0 (by first | omega | (simp; omega)) (by first | omega | (simp; omega))) ?_
      refine r_op rfl rfl rfl (run_asg (v := S _) rfl (by exact rfl)) ?_
      refine r_nil ?_
      refine r_blk ?_
      refine r_again (r.drop (tokN r).2) ?_ ?_ ?_
      ·rw [List.length_drop]; omega
      ·refine ⟨_, _, (congrArg S (List.take_of_length_le (by rw [List.length_drop]; exact Nat.le_refl _))), rfl, hov14, (cut_step (p := ((tokN r).1, (tokN r).2)) rfl hacc hne), (by rw [List.length_drop]; omega), (by first | assumption | omega | (dsimp only; omega) | (simp; done)), hV⟩
      ·repeat (first | (with_reducible exact Agree.merge _ _ _) | (with_reducible exact Agree.refl _ _) | (with_reducible refine Agree.upd ?_ _ _ rfl) | ((with_reducible refine Agree.inner ?_ ?_); (kernel_rfl)))
    ·skip
     refine r_skip ?_
     refine r_seq ?_
     refine r_seq ?_
     refine r_region ?_
     refine r_op rfl rfl rfl (run_mv (v := S _) rfl (by exact rfl)) ?_
     refine r_opcall rfl rfl rfl (run_callf (vs := [S _]) rfl (by exact rfl) Tryz.func48 rfl (by kernel_rfl)) (rblank_calls (by omega)) ?_
     rintro e w16 ⟨rfl, hE16⟩
     refine ⟨_, rfl, ?_⟩
     have hs_w16 := (hE16).size
     replace hV := evo_step0 hV hE16
     replace hoo := hoo.evo0 hE16
     refine r_op rfl rfl rfl (run_asg (v := .int _ _) rfl (by exact rfl)) ?_
     refine r_nil ?_
     refine r_seq ?_
     refine r_region ?_
     refine r_op rfl rfl rfl (run_mv (v := .int _ _) rfl (by exact rfl)) ?_
     refine r_op rfl rfl rfl (run_gtr rfl (by exact rfl) (by exact rfl)) ?_
     refine r_nil ?_
     refine r_cond (by exact rfl) (fun hc17 => ?_) (fun hc17 => ?_)
     ·skip
      refine r_region ?_
      refine r_op rfl rfl rfl (run_mv (v := .int _ _) rfl (by exact rfl)) ?_
      refine r_op rfl rfl rfl (run_asg (v := .int _ _) rfl (by exact rfl)) ?_
      refine r_op rfl rfl rfl (run_asg (v := .int _ _) rfl (by exact rfl)) ?_
      refine r_nil ?_
      refine r_seq ?_
      refine r_know (i := 4) (v := .int .i64 (tokN r).1) (by first | (rw [cut_c1 hne (by assumption)]; exact rfl) | (rw [cut_c2 hne (by assumption) (by assumption)]; exact rfl) | (rw [cut_c3 hne (by assumption) (by assumption) (by assumption)]; exact rfl) | (rw [cut_c4 hne (by assumption) (by assumption) (by assumption)]; exact rfl)) ?_
      refine r_know (i := 5) (v := .int .i64 (((tokN r).2 : Nat) : Int)) (by first | (rw [cut_c1 hne (by assumption)]; exact rfl) | (rw [cut_c2 hne (by assumption) (by assumption)]; exact rfl) | (rw [cut_c3 hne (by assumption) (by assumption) (by assumption)]; exact rfl) | (rw [cut_c4 hne (by assumption) (by assumption) (by assumption)]; exact rfl)) ?_
      refine r_region ?_
      refine r_op rfl rfl rfl (run_mv (v := vo) rfl (by exact rfl)) ?_
      refine r_op rfl rfl rfl (run_mv (v := .int _ _) rfl (by exact rfl)) ?_
      refine r_op rfl rfl rfl (run_mv (v := S _) rfl (by exact rfl)) ?_
      refine r_op rfl rfl rfl (run_mv (v := .int _ _) rfl (by exact rfl)) ?_
      refine r_op rfl rfl rfl (by exact run_slS (0) ((tokN r).2) rfl Tryz.underlying9 (by exact rfl) lo0 (at1 (by exact rfl) (by omega)) (by first | omega | (simp; omega)) (by first | omega | (simp; omega))) ?_
      refine r_op rfl rfl rfl (run_bld (pv := [(0, .int _ _), (1, S _)]) (zs := [_, _, _]) (cells := [_, _, _]) rfl ty_43 (by exact rfl) pl_43 (by exact rfl) (by exact rfl)) ?_
      refine r_append1E (u := .agg _) (y := (⟨(tokN r).1, r.take (tokN r).2, 0⟩ : Vc.Item)) rfl rfl Tryz.underlying23 ty_43 (by exact rfl) hoo (fun _ => (by exact rfl)) (by exact rfl) (by first | exact rfl | (show _ = List.toArray [_, _, _]; first | (dsimp only; done) | exact rfl | (dsimp only; exact rfl))) ((by first | omega | (simp; omega))) ((by first | omega | (simp; omega))) (by omega) ?_
      intro q_v18 v18 w19 hEw19 hov18 hlv18
      have hs_w19 := (hEw19).size
      replace hV := evo_stepo hV hEw19 (fun g hg => .inl (by first | exact (hoo.block hg).1 | (have := hoo.block hg; omega)))
      refine r_op rfl rfl rfl (run_asg (v := v18) rfl (by exact rfl)) ?_
      refine r_nil ?_
      refine r_region ?_
      refine r_op rfl rfl rfl (run_mv (v := S _) rfl (by exact rfl)) ?_
      refine r_op rfl rfl rfl (run_mv (v := .int _ _) rfl (by exact rfl)) ?_
      refine r_op rfl rfl rfl (by exact run_slS ((tokN r).2) (_) rfl Tryz.underlying9 (by exact rfl) (at1 (by exact rfl) (by omega)) hi0 (by first | omega | (simp; omega)) (by first | omega | (simp; omega))) ?_
      refine r_op rfl rfl rfl (run_asg (v := S _) rfl (by exact rfl)) ?_
      refine r_nil ?_
      refine r_blk ?_
      refine r_again (r.drop (tokN r).2) ?_ ?_ ?_
      ·rw [List.length_drop]; omega
      ·refine ⟨_, _, (congrArg S (List.take_of_length_le (by rw [List.length_drop]; exact Nat.le_refl _))), rfl, hov18, (cut_step (p := ((tokN r).1, (tokN r).2)) rfl hacc hne), (by rw [List.length_drop]; omega), (by first | assumption | omega | (dsimp only; omega) | (simp; done)), hV⟩
      ·repeat (first | (with_reducible exact Agree.merge _ _ _) | (with_reducible exact Agree.refl _ _) | (with_reducible refine Agree.upd ?_ _ _ rfl) | ((with_reducible refine Agree.inner ?_ ?_); (kernel_rfl)))
     ·skip
      refine r_skip ?_
      refine r_seq ?_
      refine r_know (i := 4) (v := .int .i64 (tokN r).1) (by first | (rw [cut_c1 hne (by assumption)]; exact rfl) | (rw [cut_c2 hne (by assumption) (by assumption)]; exact rfl) | (rw [cut_c3 hne (by assumption) (by assumption) (by assumption)]; exact rfl) | (rw [cut_c4 hne (by assumption) (by assumption) (by assumption)]; exact rfl)) ?_
      refine r_know (i := 5) (v := .int .i64 (((tokN r).2 : Nat) : Int)) (by first | (rw [cut_c1 hne (by assumption)]; exact rfl) | (rw [cut_c2 hne (by assumption) (by assumption)]; exact rfl) | (rw [cut_c3 hne (by assumption) (by assumption) (by assumption)]; exact rfl) | (rw [cut_c4 hne (by assumption) (by assumption) (by assumption)]; exact rfl)) ?_
      refine r_region ?_
      refine r_op rfl rfl rfl (run_mv (v := vo) rfl (by exact rfl)) ?_
      refine r_op rfl rfl rfl (run_mv (v := .int _ _) rfl (by exact rfl)) ?_
      refine r_op rfl rfl rfl (run_mv (v := S _) rfl (by exact rfl)) ?_
      refine r_op rfl rfl rfl (run_mv (v := .int _ _) rfl (by exact rfl)) ?_
      refine r_op rfl rfl rfl (by exact run_slS (0) ((tokN r).2) rfl Tryz.underlying9 (by exact rfl) lo0 (at1 (by exact rfl) (by omega)) (by first | omega | (simp; omega)) (by first | omega | (simp; omega))) ?_
      refine r_op rfl rfl rfl (run_bld (pv := [(0, .int _ _), (1, S _)]) (zs := [_, _, _]) (cells := [_, _, _]) rfl ty_43 (by exact rfl) pl_43 (by exact rfl) (by exact rfl)) ?_
      refine r_append1E (u := .agg _) (y := (⟨(tokN r).1, r.take (tokN r).2, 0⟩ : Vc.Item)) rfl rfl Tryz.underlying23 ty_43 (by exact rfl) hoo (fun _ => (by exact rfl)) (by exact rfl) (by first | exact rfl | (show _ = List.toArray [_, _, _]; first | (dsimp only; done) | exact rfl | (dsimp only; exact rfl))) ((by first | omega | (simp; omega))) ((by first | omega | (simp; omega))) (by omega) ?_
      intro q_v20 v20 w21 hEw21 hov20 hlv20
      have hs_w21 := (hEw21).size
      replace hV := evo_stepo hV hEw21 (fun g hg => .inl (by first | exact (hoo.block hg).1 | (have := hoo.block hg; omega)))
      refine r_op rfl rfl rfl (run_asg (v := v20) rfl (by exact rfl)) ?_
      refine r_nil ?_
      refine r_region ?_
      refine r_op rfl rfl rfl (run_mv (v := S _) rfl (by exact rfl)) ?_
      refine r_op rfl rfl rfl (run_mv (v := .int _ _) rfl (by exact rfl)) ?_
      refine r_op rfl rfl rfl (by exact run_slS ((tokN r).2) (_) rfl Tryz.underlying9 (by exact rfl) (at1 (by exact rfl) (by omega)) hi0 (by first | omega | (simp; omega)) (by first | omega | (simp; omega))) ?_
      refine r_op rfl rfl rfl (run_asg (v := S _) rfl (by exact rfl)) ?_
      refine r_nil ?_
      refine r_blk ?_
      refine r_again (r.drop (tokN r).2) ?_ ?_ ?_
      ·rw [List.length_drop]; omega
      ·refine ⟨_, _, (congrArg S (List.take_of_length_le (by rw [List.length_drop]; exact Nat.le_refl _))), rfl, hov20, (cut_step (p := ((tokN r).1, (tokN r).2)) rfl hacc hne), (by rw [List.length_drop]; omega), (by first | assumption | omega | (dsimp only; omega) | (simp; done)), hV⟩
      ·repeat (first | (with_reducible exact Agree.merge _ _ _) | (with_reducible exact Agree.refl _ _) | (with_reducible refine Agree.upd ?_ _ _ rfl) | ((with_reducible refine Agree.inner ?_ ?_); (kernel_rfl)))
   ·skip
    refine r_skip ?_
    refine r_seq ?_
    refine r_seq ?_
    refine r_region ?_
    refine r_op rfl rfl rfl (run_mv (v := S _) rfl (by exact rfl)) ?_
    refine r_opcall rfl rfl rfl (run_callf (vs := [S _]) rfl (by exact rfl) Tryz.func47 rfl (by kernel_rfl)) (rnumber_calls (by omega)) ?_
    rintro e w22 ⟨rfl, hE22⟩
    refine ⟨_, rfl, ?_⟩
    have hs_w22 := (hE22).size
    replace hV := evo_step0 hV hE22
    replace hoo := hoo.evo0 hE22
    refine r_op rfl rfl rfl (run_asg (v := .int _ _) rfl (by exact rfl)) ?_
    refine r_nil ?_
    refine r_seq ?_
    refine r_region ?_
    refine r_op rfl rfl rfl (run_mv (v := .int _ _) rfl (by exact rfl)) ?_
    refine r_op rfl rfl rfl (run_gtr rfl (by exact rfl) (by exact rfl)) ?_
    refine r_nil ?_
    refine r_cond (by exact rfl) (fun hc23 => ?_) (fun hc23 => ?_)
    ·skip
     refine r_region ?_
     refine r_op rfl rfl rfl (run_mv (v := .int _ _) rfl (by exact rfl)) ?_
     refine r_op rfl rfl rfl (run_asg (v := .int _ _) rfl (by exact rfl)) ?_
     refine r_op rfl rfl rfl (run_asg (v := .int _ _) rfl (by exact rfl)) ?_
     refine r_nil ?_
     refine r_seq ?_
     refine r_seq ?_
     refine r_region ?_
     refine r_op rfl rfl rfl (run_mv (v := S _) rfl (by exact rfl)) ?_
     refine r_opcall rfl rfl rfl (run_callf (vs := [S _]) rfl (by exact rfl) Tryz.func48 rfl (by kernel_rfl)) (rblank_calls (by omega)) ?_
     rintro e w24 ⟨rfl, hE24⟩
     refine ⟨_, rfl, ?_⟩
     have hs_w24 := (hE24).size
     replace hV := evo_step0 hV hE24
     replace hoo := hoo.evo0 hE24
     refine r_op rfl rfl rfl (run_asg (v := .int _ _) rfl (by exact rfl)) ?_
     refine r_nil ?_
     refine r_seq ?_
     refine r_region ?_
     refine r_op rfl rfl rfl (run_mv (v := .int _ _) rfl (by exact rfl)) ?_
     refine r_op rfl rfl rfl (run_gtr rfl (by exact rfl) (by exact rfl)) ?_
     refine r_nil ?_
     refine r_cond (by exact rfl) (fun hc25 => ?_) (fun hc25 => ?_)
     ·skip
      refine r_region ?_
      refine r_op rfl rfl rfl (run_mv (v := .int _ _) rfl (by exact rfl)) ?_
      refine r_op rfl rfl rfl (run_asg (v := .int _ _) rfl (by exact rfl)) ?_
      refine r_op rfl rfl rfl (run_asg (v := .int _ _) rfl (by exact rfl)) ?_
      refine r_nil ?_
      refine r_seq ?_
      refine r_know (i := 4) (v := .int .i64 (tokN r).1) (by first | (rw [cut_c1 hne (by assumption)]; exact rfl) | (rw [cut_c2 hne (by assumption) (by assumption)]; exact rfl) | (rw [cut_c3 hne (by assumption) (by assumption) (by assumption)]; exact rfl) | (rw [cut_c4 hne (by assumption) (by assumption) (by assumption)]; exact rfl)) ?_
      refine r_know (i := 5) (v := .int .i64 (((tokN r).2 : Nat) : Int)) (by first | (rw [cut_c1 hne (by assumption)]; exact rfl) | (rw [cut_c2 hne (by assumption) (by assumption)]; exact rfl) | (rw [cut_c3 hne (by assumption) (by assumption) (by assumption)]; exact rfl) | (rw [cut_c4 hne (by assumption) (by assumption) (by assumption)]; exact rfl)) ?_
      refine r_region ?_
      refine r_op rfl rfl rfl (run_mv (v := vo) rfl (by exact rfl)) ?_
      refine r_op rfl rfl rfl (run_mv (v := .int _ _) rfl (by exact rfl)) ?_
      refine r_op rfl rfl rfl (run_mv (v := S _) rfl (by exact rfl)) ?_
      refine r_op rfl rfl rfl (run_mv (v := .int _ _) rfl (by exact rfl)) ?_
      refine r_op rfl rfl rfl (by exact run_slS (0) ((tokN r).2) rfl Tryz.underlying9 (by exact rfl) lo0 (at1 (by exact rfl) (by omega)) (by first | omega | (simp; omega)) (by first | omega | (simp; omega))) ?_
      refine r_op rfl rfl rfl (run_bld (pv := [(0, .int _ _), (1, S _)]) (zs := [_, _, _]) (cells := [_, _, _]) rfl ty_43 (by exact rfl) pl_43 (by exact rfl) (by exact rfl)) ?_
      refine r_append1E (u := .agg _) (y := (⟨(tokN r).1, r.take (tokN r).2, 0⟩ : Vc.Item)) rfl rfl Tryz.underlying23 ty_43 (by exact rfl) hoo (fun _ => (by exact rfl)) (by exact rfl) (by first | exact rfl | (show _ = List.toArray [_, _, _]; first | (dsimp only; done) | exact rfl | (dsimp only; exact rfl))) ((by first | omega | (simp; omega))) ((by first | omega | (simp; omega))) (by omega) ?_
      intro q_v26 v26 w27 hEw27 hov26 hlv26
      have hs_w27 := (hEw27).size
      replace hV := evo_stepo hV hEw27 (fun g hg => .inl (by first | exact (hoo.block hg).1 | (have := hoo.block hg; omega)))
      refine r_op rfl rfl rfl (run_asg (v := v26) rfl (by exact rfl)) ?_
      refine r_nil ?_
      refine r_region ?_
      refine r_op rfl rfl rfl (run_mv (v := S _) rfl (by exact rfl)) ?_
      refine r_op rfl rfl rfl (run_mv (v := .int _ _) rfl (by exact rfl)) ?_
      refine r_op rfl rfl rfl (by exact run_slS ((tokN r).2) (_) rfl Tryz.underlying9 (by exact rfl) (at1 (by exact rfl) (by omega)) hi0 (by first | omega | (simp; omega)) (by first | omega | (simp; omega))) ?_
      refine r_op rfl rfl rfl (run_asg (v := S _) rfl (by exact rfl)) ?_
      refine r_nil ?_
      refine r_blk ?_
      refine r_again (r.drop (tokN r).2) ?_ ?_ ?_
      ·rw [List.length_drop]; omega
      ·refine ⟨_, _, (congrArg S (List.take_of_length_le (by rw [List.length_drop]; exact Nat.le_refl _))), rfl, hov26, (cut_step (p := ((tokN r).1, (tokN r).2)) rfl hacc hne), (by rw [List.length_drop]; omega), (by first | assumption | omega | (dsimp only; omega) | (simp; done)), hV⟩
      ·repeat (first | (with_reducible exact Agree.merge _ _ _) | (with_reducible exact Agree.refl _ _) | (with_reducible refine Agree.upd ?_ _ _ rfl) | ((with_reducible refine Agree.inner ?_ ?_); (kernel_rfl)))
     ·skip
      refine r_skip ?_
      refine r_seq ?_
      refine r_know (i := 4) (v := .int .i64 (tokN r).1) (by first | (rw [cut_c1 hne (by assumption)]; exact rfl) | (rw [cut_c2 hne (by assumption) (by assumption)]; exact rfl) | (rw [cut_c3 hne (by assumption) (by assumption) (by assumption)]; exact rfl) | (rw [cut_c4 hne (by assumption) (by assumption) (by assumption)]; exact rfl)) ?_
      refine r_know (i := 5) (v := .int .i64 (((tokN r).2 : Nat) : Int)) (by first | (rw [cut_c1 hne (by assumption)]; exact rfl) | (rw [cut_c2 hne (by assumption) (by assumption)]; exact rfl) | (rw [cut_c3 hne (by assumption) (by assumption) (by assumption)]; exact rfl) | (rw [cut_c4 hne (by assumption) (by assumption) (by assumption)]; exact rfl)) ?_
      refine r_region ?_
      refine r_op rfl rfl rfl (run_mv (v := vo) rfl (by exact rfl)) ?_
      refine r_op rfl rfl rfl (run_mv (v := .int _ _) rfl (by exact rfl)) ?_
      refine r_op rfl rfl rfl (run_mv (v := S _) rfl (by exact rfl)) ?_
      refine r_op rfl rfl rfl (run_mv (v := .int _ _) rfl (by exact rfl)) ?_
      refine r_op rfl rfl rfl (by exact run_slS (0) ((tokN r).2) rfl Tryz.underlying9 (by exact rfl) lo0 (at1 (by exact rfl) (by omega)) (by first | omega | (simp; omega)) (by first | omega | (simp; omega))) ?_
      refine r_op rfl rfl rfl (run_bld (pv := [(0, .int _ _), (1, S _)]) (zs := [_, _, _]) (cells := [_, _, _]) rfl ty_43 (by exact rfl) pl_43 (by exact rfl) (by exact rfl)) ?_
      refine r_append1E (u := .agg _) (y := (⟨(tokN r).1, r.take (tokN r).2, 0⟩ : Vc.Item)) rfl rfl Tryz.underlying23 ty_43 (by exact rfl) hoo (fun _ => (by exact rfl)) (by exact rfl) (by first | exact rfl | (show _ = List.toArray [_, _, _]; first | (dsimp only; done) | exact rfl | (dsimp only; exact rfl))) ((by first | omega | (simp; omega))) ((by first | omega | (simp; omega))) (by omega) ?_
      intro q_v28 v28 w29 hEw29 hov28 hlv28
      have hs_w29 := (hEw29).size
      replace hV := evo_stepo hV hEw29 (fun g hg => .inl (by first | exact (hoo.block hg).1 | (have := hoo.block hg; omega)))
      refine r_op rfl rfl rfl (run_asg (v := v28) rfl (by exact rfl)) ?_
      refine r_nil ?_
      refine r_region ?_
      refine r_op rfl rfl rfl (run_mv (v := S _) rfl (by exact rfl)) ?_
      refine r_op rfl rfl rfl (run_mv (v := .int _ _) rfl (by exact rfl)) ?_
      refine r_op rfl rfl rfl (by exact run_slS ((tokN r).2) (_) rfl Tryz.underlying9 (by exact rfl) (at1 (by exact rfl) (by omega)) hi0 (by first | omega | (simp; omega)) (by first | omega | (simp; omega))) ?_
      refine r_op rfl rfl rfl (run_asg (v := S _) rfl (by exact rfl)) ?_
      refine r_nil ?_
      refine r_blk ?_
      refine r_again (r.drop (tokN r).2) ?_ ?_ ?_
      ·rw [List.length_drop]; omega
      ·refine ⟨_, _, (congrArg S (List.take_of_length_le (by rw [List.length_drop]; exact Nat.le_refl _))), rfl, hov28, (cut_step (p := ((tokN r).1, (tokN r).2)) rfl hacc hne), (by rw [List.length_drop]; omega), (by first | assumption | omega | (dsimp only; omega) | (simp; done)), hV⟩
      ·repeat (first | (with_reducible exact Agree.merge _ _ _) | (with_reducible exact Agree.refl _ _) | (with_reducible refine Agree.upd ?_ _ _ rfl) | ((with_reducible refine Agree.inner ?_ ?_); (kernel_rfl)))
    ·skip
     refine r_skip ?_
     refine r_seq ?_
     refine r_seq ?_
     refine r_region ?_
     refine r_op rfl rfl rfl (run_mv (v := S _) rfl (by exact rfl)) ?_
     refine r_opcall rfl rfl rfl (run_callf (vs := [S _]) rfl (by exact rfl) Tryz.func48 rfl (by kernel_rfl)) (rblank_calls (by omega)) ?_
     rintro e w30 ⟨rfl, hE30⟩
     refine ⟨_, rfl, ?_⟩
     have hs_w30 := (hE30).size
     replace hV := evo_step0 hV hE30
     replace hoo := hoo.evo0 hE30
     refine r_op rfl rfl rfl (run_asg (v := .int _ _) rfl (by exact rfl)) ?_
     refine r_nil ?_
     refine r_seq ?_
     refine r_region ?_
     refine r_op rfl rfl rfl (run_mv (v := .int _ _) rfl (by exact rfl)) ?_
     refine r_op rfl rfl rfl (run_gtr rfl (by exact rfl) (by exact rfl)) ?_
     refine r_nil ?_
     refine r_cond (by exact rfl) (fun hc31 => ?_) (fun hc31 => ?_)
     ·skip
      refine r_region ?_
      refine r_op rfl rfl rfl (run_mv (v := .int _ _) rfl (by exact rfl)) ?_
      refine r_op rfl rfl rfl (run_asg (v := .int _ _) rfl (by exact rfl)) ?_
      refine r_op rfl rfl rfl (run_asg (v := .int _ _) rfl (by exact rfl)) ?_
      refine r_nil ?_
      refine r_seq ?_
      refine r_know (i := 4) (v := .int .i64 (tokN r).1) (by first | (rw [cut_c1 hne (by assumption)]; exact rfl) | (rw [cut_c2 hne (by assumption) (by assumption)]; exact rfl) | (rw [cut_c3 hne (by assumption) (by assumption) (by assumption)]; exact rfl) | (rw [cut_c4 hne (by assumption) (by assumption) (by assumption)]; exact rfl)) ?_
      refine r_know (i := 5) (v := .int .i64 (((tokN r).2 : Nat) : Int)) (by first | (rw [cut_c1 hne (by assumption)]; exact rfl) | (rw [cut_c2 hne (by assumption) (by assumption)]; exact rfl) | (rw [cut_c3 hne (by assumption) (by assumption) (by assumption)]; exact rfl) | (rw [cut_c4 hne (by assumption) (by assumption) (by assumption)]; exact rfl)) ?_
      refine r_region ?_
      refine r_op rfl rfl rfl (run_mv (v := vo) rfl (by exact rfl)) ?_
      refine r_op rfl rfl rfl (run_mv (v := .int _ _) rfl (by exact rfl)) ?_
      refine r_op rfl rfl rfl (run_mv (v := S _) rfl (by exact rfl)) ?_
      refine r_op rfl rfl rfl (run_mv (v := .int _ _) rfl (by exact rfl)) ?_
      refine r_op rfl rfl rfl (by exact run_slS (0) ((tokN r).2) rfl Tryz.underlying9 (by exact rfl) lo0 (at1 (by exact rfl) (by omega)) (by first | omega | (simp; omega)) (by first | omega | (simp; omega))) ?_
      refine r_op rfl rfl rfl (run_bld (pv := [(0, .int _ _), (1, S _)]) (zs := [_, _, _]) (cells := [_, _, _]) rfl ty_43 (by exact rfl) pl_43 (by exact rfl) (by exact rfl)) ?_
      refine r_append1E (u := .agg _) (y := (⟨(tokN r).1, r.take (tokN r).2, 0⟩ : Vc.Item)) rfl rfl Tryz.underlying23 ty_43 (by exact rfl) hoo (fun _ => (by exact rfl)) (by exact rfl) (by first | exact rfl | (show _ = List.toArray [_, _, _]; first | (dsimp only; done) | exact rfl | (dsimp only; exact rfl))) ((by first | omega | (simp; omega))) ((by first | omega | (simp; omega))) (by omega) ?_
      intro q_v32 v32 w33 hEw33 hov32 hlv32
      have hs_w33 := (hEw33).size
      replace hV := evo_stepo hV hEw33 (fun g hg => .inl (by first | exact (hoo.block hg).1 | (have := hoo.block hg; omega)))
      refine r_op rfl rfl rfl (run_asg (v := v32) rfl (by exact rfl)) ?_
      refine r_nil ?_
      refine r_region ?_
      refine r_op rfl rfl rfl (run_mv (v := S _) rfl (by exact rfl)) ?_
      refine r_op rfl rfl rfl (run_mv (v := .int _ _) rfl (by exact rfl)) ?_
      refine r_op rfl rfl rfl (by exact run_slS ((tokN r).2) (_) rfl Tryz.underlying9 (by exact rfl) (at1 (by exact rfl) (by omega)) hi0 (by first | omega | (simp; omega)) (by first | omega | (simp; omega))) ?_
      refine r_op rfl rfl rfl (run_asg (v := S _) rfl (by exact rfl)) ?_
      refine r_nil ?_
      refine r_blk ?_
      refine r_again (r.drop (tokN r).2) ?_ ?_ ?_
      ·rw [List.length_drop]; omega
      ·refine ⟨_, _, (congrArg S (List.take_of_length_le (by rw [List.length_drop]; exact Nat.le_refl _))), rfl, hov32, (cut_step (p := ((tokN r).1, (tokN r).2)) rfl hacc hne), (by rw [List.length_drop]; omega), (by first | assumption | omega | (dsimp only; omega) | (simp; done)), hV⟩
      ·repeat (first | (with_reducible exact Agree.merge _ _ _) | (with_reducible exact Agree.refl _ _) | (with_reducible refine Agree.upd ?_ _ _ rfl) | ((with_reducible refine Agree.inner ?_ ?_); (kernel_rfl)))
     ·skip
      refine r_skip ?_
      refine r_seq ?_
      refine r_know (i := 4) (v := .int .i64 (tokN r).1) (by first | (rw [cut_c1 hne (by assumption)]; exact rfl) | (rw [cut_c2 hne (by assumption) (by assumption)]; exact rfl) | (rw [cut_c3 hne (by assumption) (by assumption) (by assumption)]; exact rfl) | (rw [cut_c4 hne (by assumption) (by assumption) (by assumption)]; exact rfl)) ?_
      refine r_know (i := 5) (v := .int .i64 (((tokN r).2 : Nat) : Int)) (by first | (rw [cut_c1 hne (by assumption)]; exact rfl) | (rw [cut_c2 hne (by assumption) (by assumption)]; exact rfl) | (rw [cut_c3 hne (by assumption) (by assumption) (by assumption)]; exact rfl) | (rw [cut_c4 hne (by assumption) (by assumption) (by assumption)]; exact rfl)) ?_
      refine r_region ?_
      refine r_op rfl rfl rfl (run_mv (v := vo) rfl (by exact rfl)) ?_
      refine r_op rfl rfl rfl (run_mv (v := .int _ _) rfl (by exact rfl)) ?_
      refine r_op rfl rfl rfl (run_mv (v := S _) rfl (by exact rfl)) ?_
      refine r_op rfl rfl rfl (run_mv (v := .int _ _) rfl (by exact rfl)) ?_
      refine r_op rfl rfl rfl (by exact run_slS (0) ((tokN r).2) rfl Tryz.underlying9 (by exact rfl) lo0 (at1 (by exact rfl) (by omega)) (by first | omega | (simp; omega)) (by first | omega | (simp; omega))) ?_
      refine r_op rfl rfl rfl (run_bld (pv := [(0, .int _ _), (1, S _)]) (zs := [_, _, _]) (cells := [_, _, _]) rfl ty_43 (by exact rfl) pl_43 (by exact rfl) (by exact rfl)) ?_
      refine r_append1E (u := .agg _) (y := (⟨(tokN r).1, r.take (tokN r).2, 0⟩ : Vc.Item)) rfl rfl Tryz.underlying23 ty_43 (by exact rfl) hoo (fun _ => (by exact rfl)) (by exact rfl) (by first | exact rfl | (show _ = List.toArray [_, _, _]; first | (dsimp only; done) | exact rfl | (dsimp only; exact rfl))) ((by first | omega | (simp; omega))) ((by first | omega | (simp; omega))) (by omega) ?_
      intro q_v34 v34 w35 hEw35 hov34 hlv34
      have hs_w35 := (hEw35).size
      replace hV := evo_stepo hV hEw35 (fun g hg => .inl (by first | exact (hoo.block hg).1 | (have := hoo.block hg; omega)))
      refine r_op rfl rfl rfl (run_asg (v := v34) rfl (by exact rfl)) ?_
      refine r_nil ?_
      refine r_region ?_
      refine r_op rfl rfl rfl (run_mv (v := S _) rfl (by exact rfl)) ?_
      refine r_op rfl rfl rfl (run_mv (v := .int _ _) rfl (by exact rfl)) ?_
      refine r_op rfl rfl rfl (by exact run_slS ((tokN r).2) (_) rfl Tryz.underlying9 (by exact rfl) (at1 (by exact rfl) (by omega)) hi0 (by first | omega | (simp; omega)) (by first | omega | (simp; omega))) ?_
      refine r_op rfl rfl rfl (run_asg (v := S _) rfl (by exact rfl)) ?_
      refine r_nil ?_
      refine r_blk ?_
      refine r_again (r.drop (tokN r).2) ?_ ?_ ?_
      ·rw [List.length_drop]; omega
      ·refine ⟨_, _, (congrArg S (List.take_of_length_le (by rw [List.length_drop]; exact Nat.le_refl _))), rfl, hov34, (cut_step (p := ((tokN r).1, (tokN r).2)) rfl hacc hne), (by rw [List.length_drop]; omega), (by first | assumption | omega | (dsimp only; omega) | (simp; done)), hV⟩
      ·repeat (first | (with_reducible exact Agree.merge _ _ _) | (with_reducible exact Agree.refl _ _) | (with_reducible refine Agree.upd ?_ _ _ rfl) | ((with_reducible refine Agree.inner ?_ ?_); (kernel_rfl)))
  ·skip
   refine r_exit rfl ?_
   refine r_seq ?_
   refine r_region ?_
   refine r_op rfl rfl rfl (run_mv (v := vo) rfl (by exact rfl)) ?_
   refine r_op rfl rfl rfl (run_asg (v := vo) rfl (by exact rfl)) ?_
   refine r_nil ?_
   refine r_ret (res1 (v := vo) rfl (by exact rfl)) ?_
   exact ⟨_, rfl, hV, by have h8 : r = [] := List.eq_nil_of_length_eq_zero (by omega); rw [h8, cutT_nil, List.append_nil] at hacc; rw [← hacc]; exact hoo⟩
theorem rtokens_calls {ao : Option Addr} {b off cap : Nat} {f : List Vc.Item} {w0 : World} (hf : RowE w0 ao b off cap f) (hz : fLen f + f.length ≤ 1000000000) :
    Calls Tryz.prog 14 #[.slice ao f.length cap] w0 fun e w' => ∃ v, e = .returned v ∧ Evo w0 w' [] ∧ OwnE w' w0.heap.size 43 v (toks f) := by
 refine calls_enter (n := 38) (args := [.slice ao f.length cap]) Tryz.func14 rfl Tryz.ntmps14 rfl ?_
 have hV : Evo w0 w0 [] := Evo.refl _ _
 have hf0 := keepE hf
 have hbd_hf := hf.bd
 refine r_seq ?_
 refine r_region ?_
 refine r_op rfl rfl rfl (run_asg (v := .slice _ _ _) rfl (by exact rfl)) ?_
 refine r_nil ?_
 refine r_seq ?_
 refine r_region ?_
 refine r_op rfl rfl rfl (run_asg (v := .slice _ _ _) rfl (by exact rfl)) ?_
 refine r_nil ?_
 refine r_seq ?_
 refine r_seq ?_
 refine r_region ?_
 refine r_op rfl rfl rfl (run_mv (v := .slice _ _ _) rfl (by exact rfl)) ?_
 refine r_op rfl rfl rfl (run_lenSl rfl (by exact rfl) Tryz.underlying46) ?_
 refine r_op rfl rfl rfl (run_mv (v := .int _ _) rfl (by exact rfl)) ?_
 refine r_nil ?_
 refine r_block ?_
 refine r_loop (α := Nat) [3, 5, 8, 9, 10, 11, 12, 13, 14, 15, 16, 17, 18, 19, 20, 21, 22, 23, 24, 25, 26, 27, 28, 29, 30, 31, 32, 33, 34, 35, 36] (fun k g w => ∃ vo : Value, g 8 = .int .i64 (k : Nat) ∧ g 3 = vo ∧ k ≤ f.length ∧ OwnE w w0.heap.size 43 vo (toks (f.take k)) ∧ w0.heap.size ≤ w.heap.size ∧ Evo w0 w []) (fun k => f.length - k) 0 ?_ ?_
 ·refine ⟨_, (by first | exact rfl | exact congrArg (Value.int _) (by omega) | exact congrArg (Value.int _) (by dsimp only; omega) | exact congrArg (Value.int _) (by simp) | exact congrArg S (by simp)), rfl, (by first | assumption | omega | (dsimp only; omega) | (simp; done)), (OwnE.nil _ _ _), (by first | assumption | omega | (dsimp only; omega) | (simp; done)), hV⟩
 ·rintro k g w2 ⟨vo, hj3, hj4, hk_k, hoo, hzl1, hV⟩
  have hs_w2hV := hV.size
  replace hf := hf0 _ hV
  refine r_know (i := 8) (v := .int .i64 (k : Nat)) (by exact hj3) ?_
  refine r_know (i := 3) (v := vo) (by exact hj4) ?_
  have htl := toks_len (f.take k); have hfl := fLen_take f k
  have hfa := fLen_at f k
  have hft : (f.take k).length ≤ k := List.length_take_le _ _
  have hcb := cut_bd (f.getD k default).text
  have hfs := fun h => fLen_snoc f k h
  refine r_seq ?_
  refine r_region ?_
  refine r_op rfl rfl rfl (run_lss rfl (by exact rfl) (by exact rfl)) ?_
  refine r_nil ?_
  refine r_seq ?_
  refine r_cond (by exact rfl) (fun hc5 => ?_) (fun hc5 => ?_)
  ·skip
   refine r_skip ?_
   refine r_seq ?_
   refine r_block ?_
   refine r_seq ?_
   refine r_region ?_
   refine r_op rfl rfl rfl (run_ix (k) rfl Tryz.underlying46 ty_45 (by exact rfl) (by exact rfl) (by first | exact rfl | omega) (by omega) (hf.addr (i := k) (by omega))) ?_
   have hA60 := fun (w' : World) (h : Evo w0 w' []) => (hf0 w' h).atD (k) (by omega)
   have hA6 := hA60 _ hV
   refine r_op rfl rfl rfl (run_ldN rfl ag_45 ty_45 (by exact rfl) rfl hA6) ?_
   have hob7 := fun g hg => (hoo.block (g := g) hg).2
   refine r_var (zs := [_, _, _]) (vs := [_, _, _]) ty_45 (by exact rfl) rfl (by exact rfl) (fun _ => rfl) (by exact rfl) rfl rfl (by exact rfl) ?_
   intro b8 w9 heb8 hEw9 hbb8 hzb8
   have hs_w9 := (hEw9).size
   replace hV := evo_step0 hV hEw9
   replace hf := hf0 _ hV
   replace hoo := hoo.evo0 hEw9
   have hAb8 := hbb8.at
   refine r_nil ?_
   refine r_seq ?_
   refine r_region ?_
   refine r_op rfl rfl rfl (run_fa rfl (by exact rfl) fo_45_0) ?_
   refine r_op rfl rfl rfl (run_ld1 rfl ag_3 (by exact rfl) (hAb8.cell 0 (by exact rfl))) ?_
   refine r_nil ?_
   refine r_block ?_
   refine r_seq ?_
   refine r_region ?_
   refine r_op rfl rfl rfl (run_eql rfl (by exact rfl) (by exact rfl)) ?_
   refine r_op rfl rfl rfl (run_asg (v := .bool _) rfl (by exact rfl)) ?_
   refine r_nil ?_
   refine r_cond (by exact rfl) (fun hc10 => ?_) (fun hc10 => ?_)
   ·skip
    refine r_region ?_
    refine r_op rfl rfl rfl (run_mv (v := vo) rfl (by exact rfl)) ?_
    refine r_op rfl rfl rfl (run_fa rfl (by exact rfl) fo_45_1) ?_
    refine r_op rfl rfl rfl (run_ld1 rfl ag_9 (by exact rfl) (hAb8.cell 1 (by exact rfl))) ?_
    refine r_opcall rfl rfl rfl (run_callf (vs := [S _]) rfl (by exact rfl) Tryz.func28 rfl (by kernel_rfl)) (rcut_calls (by omega)) ?_
    rintro e w11 ⟨vk11, rfl, hE11, hok11⟩
    refine ⟨_, rfl, ?_⟩
    have hs_w11 := (hE11).size
    replace hV := evo_step0 hV hE11
    replace hf := hf0 _ hV
    replace hoo := hoo.evo0 hE11
    obtain ⟨ao12, g12, cp12, hv12, hr12, hg12⟩ := hok11.rowOf
    subst hv12
    refine r_appendE rfl Tryz.underlying23 ty_43 (by exact rfl) hoo (by exact rfl) (by exact rfl) hr12 rfl ((by first | omega | (simp; omega))) ((by first | omega | (simp; omega))) (by omega) ?_
    intro v13 w14 hEw14 hov13 hlv13
    have hs_w14 := (hEw14).size
    replace hV := evo_stepo hV hEw14 (fun g hg => .inl (by first | exact (hoo.block hg).1 | (have := hoo.block hg; omega)))
    replace hf := hf0 _ hV
    refine r_op rfl rfl rfl (run_asg (v := v13) rfl (by exact rfl)) ?_
    refine r_nil ?_
    refine r_blk ?_
    refine r_blk ?_
    refine r_region ?_
    refine r_op rfl rfl rfl (run_add rfl (by exact rfl) (by exact rfl) (by omega) (by omega)) ?_
    refine r_op rfl rfl rfl (run_mv (v := .int _ _) rfl (by exact rfl)) ?_
    refine r_nil ?_
    refine r_again (k + 1) ?_ ?_ ?_
    ·first | omega | (dsimp only; omega)
    ·refine ⟨_, (by first | exact rfl | exact congrArg (Value.int _) (by omega) | exact congrArg (Value.int _) (by dsimp only; omega) | exact congrArg (Value.int _) (by simp) | exact congrArg S (by simp)), rfl, (by first | assumption | omega | (dsimp only; omega) | (simp; done)), (by rw [toks_succ (by omega)]; first | (rw [tokI_text (by assumption)]; exact hov13) | (rw [tokI_tag (by first | exact .inl (by assumption) | exact .inr (.inl (by assumption)) | exact .inr (.inr (.inl (by assumption))) | exact .inr (.inr (.inr (by assumption))))]; exact hov13) | (rw [tokI_none (by assumption) (by assumption) (by assumption) (by assumption) (by assumption), List.append_nil]; exact hov13)), (by first | assumption | omega | (dsimp only; omega) | (simp; done)), hV⟩
    ·repeat (first | (with_reducible exact Agree.merge _ _ _) | (with_reducible exact Agree.refl _ _) | (with_reducible refine Agree.upd ?_ _ _ rfl) | ((with_reducible refine Agree.inner ?_ ?_); (kernel_rfl)))
   ·skip
    refine r_seq ?_
    refine r_seq ?_
    refine r_region ?_
    refine r_op rfl rfl rfl (run_eql rfl (by exact rfl) (by exact rfl)) ?_
    refine r_op rfl rfl rfl (run_asg (v := .bool _) rfl (by exact rfl)) ?_
    refine r_nil ?_
    refine r_cond (by exact rfl) (fun hc15 => ?_) (fun hc15 => ?_)
    ·skip
     refine r_skip ?_
     refine r_condT (by exact rfl) hc15 ?_
     refine r_region ?_
     refine r_op rfl rfl rfl (run_mv (v := vo) rfl (by exact rfl)) ?_
     refine r_op rfl rfl rfl (run_fa rfl (by exact rfl) fo_45_0) ?_
     refine r_op rfl rfl rfl (run_ld1 rfl ag_3 (by exact rfl) (hAb8.cell 0 (by exact rfl))) ?_
     refine r_op rfl rfl rfl (run_fa rfl (by exact rfl) fo_45_1) ?_
     refine r_op rfl rfl rfl (run_ld1 rfl ag_9 (by exact rfl) (hAb8.cell 1 (by exact rfl))) ?_
     refine r_op rfl rfl rfl (run_fa rfl (by exact rfl) fo_45_2) ?_
     refine r_op rfl rfl rfl (run_ld1 rfl ag_3 (by exact rfl) (hAb8.cell 2 (by exact rfl))) ?_
     refine r_op rfl rfl rfl (run_bld (pv := [(0, .int _ _), (1, S _), (2, .int _ _)]) (zs := [_, _, _]) (cells := [_, _, _]) rfl ty_43 (by exact rfl) pl_43 (by exact rfl) (by exact rfl)) ?_
     refine r_append1E (u := .agg _) (y := (f.getD k default : Vc.Item)) rfl rfl Tryz.underlying23 ty_43 (by exact rfl) hoo (fun _ => (by exact rfl)) (by exact rfl) (by first | exact rfl | (show _ = List.toArray [_, _, _]; first | (dsimp only; done) | exact rfl | (dsimp only; exact rfl))) ((by first | omega | (simp; omega))) ((by first | omega | (simp; omega))) (by omega) ?_
     intro q_v16 v16 w17 hEw17 hov16 hlv16
     have hs_w17 := (hEw17).size
     replace hV := evo_stepo hV hEw17 (fun g hg => .inl (by first | exact (hoo.block hg).1 | (have := hoo.block hg; omega)))
     replace hf := hf0 _ hV
     refine r_op rfl rfl rfl (run_asg (v := v16) rfl (by exact rfl)) ?_
     refine r_nil ?_
     refine r_blk ?_
     refine r_blk ?_
     refine r_region ?_
     refine r_op rfl rfl rfl (run_add rfl (by exact rfl) (by exact rfl) (by omega) (by omega)) ?_
     refine r_op rfl rfl rfl (run_mv (v := .int _ _) rfl (by exact rfl)) ?_
     refine r_nil ?_
     refine r_again (k + 1) ?_ ?_ ?_
     ·first | omega | (dsimp only; omega)
     ·refine ⟨_, (by first | exact rfl | exact congrArg (Value.int _) (by omega) | exact congrArg (Value.int _) (by dsimp only; omega) | exact congrArg (Value.int _) (by simp) | exact congrArg S (by simp)), rfl, (by first | assumption | omega | (dsimp only; omega) | (simp; done)), (by rw [toks_succ (by omega)]; first | (rw [tokI_text (by assumption)]; exact hov16) | (rw [tokI_tag (by first | exact .inl (by assumption) | exact .inr (.inl (by assumption)) | exact .inr (.inr (.inl (by assumption))) | exact .inr (.inr (.inr (by assumption))))]; exact hov16) | (rw [tokI_none (by assumption) (by assumption) (by assumption) (by assumption) (by assumption), List.append_nil]; exact hov16)), (by first | assumption | omega | (dsimp only; omega) | (simp; done)), hV⟩
     ·repeat (first | (with_reducible exact Agree.merge _ _ _) | (with_reducible exact Agree.refl _ _) | (with_reducible refine Agree.upd ?_ _ _ rfl) | ((with_reducible refine Agree.inner ?_ ?_); (kernel_rfl)))
    ·skip
     refine r_seq ?_
     refine r_region ?_
     refine r_op rfl rfl rfl (run_eql rfl (by exact rfl) (by exact rfl)) ?_
     refine r_op rfl rfl rfl (run_asg (v := .bool _) rfl (by exact rfl)) ?_
     refine r_nil ?_
     refine r_cond (by exact rfl) (fun hc18 => ?_) (fun hc18 => ?_)
     ·skip
      refine r_skip ?_
      refine r_condT (by exact rfl) hc18 ?_
      refine r_region ?_
      refine r_op rfl rfl rfl (run_mv (v := vo) rfl (by exact rfl)) ?_
      refine r_op rfl rfl rfl (run_fa rfl (by exact rfl) fo_45_0) ?_
      refine r_op rfl rfl rfl (run_ld1 rfl ag_3 (by exact rfl) (hAb8.cell 0 (by exact rfl))) ?_
      refine r_op rfl rfl rfl (run_fa rfl (by exact rfl) fo_45_1) ?_
      refine r_op rfl rfl rfl (run_ld1 rfl ag_9 (by exact rfl) (hAb8.cell 1 (by exact rfl))) ?_
      refine r_op rfl rfl rfl (run_fa rfl (by exact rfl) fo_45_2) ?_
      refine r_op rfl rfl rfl (run_ld1 rfl ag_3 (by exact rfl) (hAb8.cell 2 (by exact rfl))) ?_
      refine r_op rfl rfl rfl (run_bld (pv := [(0, .int _ _), (1, S _), (2, .int _ _)]) (zs := [_, _, _]) (cells := [_, _, _]) rfl ty_43 (by exact rfl) pl_43 (by exact rfl) (by exact rfl)) ?_
      refine r_append1E (u := .agg _) (y := (f.getD k default : Vc.Item)) rfl rfl Tryz.underlying23 ty_43 (by exact rfl) hoo (fun _ => (by exact rfl)) (by exact rfl) (by first | exact rfl | (show _ = List.toArray [_, _, _]; first | (dsimp only; done) | exact rfl | (dsimp only; exact rfl))) ((by first | omega | (simp; omega))) ((by first | omega | (simp; omega))) (by omega) ?_
      intro q_v19 v19 w20 hEw20 hov19 hlv19
      have hs_w20 := (hEw20).size
      replace hV := evo_stepo hV hEw20 (fun g hg => .inl (by first | exact (hoo.block hg).1 | (have := hoo.block hg; omega)))
      replace hf := hf0 _ hV
      refine r_op rfl rfl rfl (run_asg (v := v19) rfl (by exact rfl)) ?_
      refine r_nil ?_
      refine r_blk ?_
      refine r_blk ?_
      refine r_region ?_
      refine r_op rfl rfl rfl (run_add rfl (by exact rfl) (by exact rfl) (by omega) (by omega)) ?_
      refine r_op rfl rfl rfl (run_mv (v := .int _ _) rfl (by exact rfl)) ?_
      refine r_nil ?_
      refine r_again (k + 1) ?_ ?_ ?_
      ·first | omega | (dsimp only; omega)
      ·refine ⟨_, (by first | exact rfl | exact congrArg (Value.int _) (by omega) | exact congrArg (Value.int _) (by dsimp only; omega) | exact congrArg (Value.int _) (by simp) | exact congrArg S (by simp)), rfl, (by first | assumption | omega | (dsimp only; omega) | (simp; done)), (by rw [toks_succ (by omega)]; first | (rw [tokI_text (by assumption)]; exact hov19) | (rw [tokI_tag (by first | exact .inl (by assumption) | exact .inr (.inl (by assumption)) | exact .inr (.inr (.inl (by assumption))) | exact .inr (.inr (.inr (by assumption))))]; exact hov19) | (rw [tokI_none (by assumption) (by assumption) (by assumption) (by assumption) (by assumption), List.append_nil]; exact hov19)), (by first | assumption | omega | (dsimp only; omega) | (simp; done)), hV⟩
      ·repeat (first | (with_reducible exact Agree.merge _ _ _) | (with_reducible exact Agree.refl _ _) | (with_reducible refine Agree.upd ?_ _ _ rfl) | ((with_reducible refine Agree.inner ?_ ?_); (kernel_rfl)))
     ·skip
      refine r_seq ?_
      refine r_region ?_
      refine r_op rfl rfl rfl (run_eql rfl (by exact rfl) (by exact rfl)) ?_
      refine r_op rfl rfl rfl (run_asg (v := .bool _) rfl (by exact rfl)) ?_
      refine r_nil ?_
      refine r_cond (by exact rfl) (fun hc21 => ?_) (fun hc21 => ?_)
      ·skip
       refine r_skip ?_
       refine r_condT (by exact rfl) hc21 ?_
       refine r_region ?_
       refine r_op rfl rfl rfl (run_mv (v := vo) rfl (by exact rfl)) ?_
       refine r_op rfl rfl rfl (run_fa rfl (by exact rfl) fo_45_0) ?_
       refine r_op rfl rfl rfl (run_ld1 rfl ag_3 (by exact rfl) (hAb8.cell 0 (by exact rfl))) ?_
       refine r_op rfl rfl rfl (run_fa rfl (by exact rfl) fo_45_1) ?_
       refine r_op rfl rfl rfl (run_ld1 rfl ag_9 (by exact rfl) (hAb8.cell 1 (by exact rfl))) ?_
       refine r_op rfl rfl rfl (run_fa rfl (by exact rfl) fo_45_2) ?_
       refine r_op rfl rfl rfl (run_ld1 rfl ag_3 (by exact rfl) (hAb8.cell 2 (by exact rfl))) ?_
       refine r_op rfl rfl rfl (run_bld (pv := [(0, .int _ _), (1, S _), (2, .int _ _)]) (zs := [_, _, _]) (cells := [_, _, _]) rfl ty_43 (by exact rfl) pl_43 (by exact rfl) (by exact rfl)) ?_
       refine r_append1E (u := .agg _) (y := (f.getD k default : Vc.Item)) rfl rfl Tryz.underlying23 ty_43 (by exact rfl) hoo (fun _ => (by exact rfl)) (by exact rfl) (by first | exact rfl | (show _ = List.toArray [_, _, _]; first | (dsimp only; done) | exact rfl | (dsimp only; exact rfl))) ((by first | omega | (simp; omega))) ((by first | omega | (simp; omega))) (by omega) ?_
       intro q_v22 v22 w23 hEw23 hov22 hlv22
       have hs_w23 := (hEw23).size
       replace hV := evo_stepo hV hEw23 (fun g hg => .inl (by first | exact (hoo.block hg).1 | (have := hoo.block hg; omega)))
       replace hf := hf0 _ hV
       refine r_op rfl rfl rfl (run_asg (v := v22) rfl (by exact rfl)) ?_
       refine r_nil ?_
       refine r_blk ?_
       refine r_blk ?_
       refine r_region ?_
       refine r_op rfl rfl rfl (run_add rfl (by exact rfl) (by exact rfl) (by omega) (by omega)) ?_
       refine r_op rfl rfl rfl (run_mv (v := .int _ _) rfl (by exact rfl)) ?_
       refine r_nil ?_
       refine r_again (k + 1) ?_ ?_ ?_
       ·first | omega | (dsimp only; omega)
       ·refine ⟨_, (by first | exact rfl | exact congrArg (Value.int _) (by omega) | exact congrArg (Value.int _) (by dsimp only; omega) | exact congrArg (Value.int _) (by simp) | exact congrArg S (by simp)), rfl, (by first | assumption | omega | (dsimp only; omega) | (simp; done)), (by rw [toks_succ (by omega)]; first | (rw [tokI_text (by assumption)]; exact hov22) | (rw [tokI_tag (by first | exact .inl (by assumption) | exact .inr (.inl (by assumption)) | exact .inr (.inr (.inl (by assumption))) | exact .inr (.inr (.inr (by assumption))))]; exact hov22) | (rw [tokI_none (by assumption) (by assumption) (by assumption) (by assumption) (by assumption), List.append_nil]; exact hov22)), (by first | assumption | omega | (dsimp only; omega) | (simp; done)), hV⟩
       ·repeat (first | (with_reducible exact Agree.merge _ _ _) | (with_reducible exact Agree.refl _ _) | (with_reducible refine Agree.upd ?_ _ _ rfl) | ((with_reducible refine Agree.inner ?_ ?_); (kernel_rfl)))
      ·skip
       refine r_region ?_
       refine r_op rfl rfl rfl (run_eql rfl (by exact rfl) (by exact rfl)) ?_
       refine r_op rfl rfl rfl (run_asg (v := .bool _) rfl (by exact rfl)) ?_
       refine r_nil ?_
       refine r_cond (by exact rfl) (fun hc24 => ?_) (fun hc24 => ?_)
       ·skip
        refine r_region ?_
        refine r_op rfl rfl rfl (run_mv (v := vo) rfl (by exact rfl)) ?_
        refine r_op rfl rfl rfl (run_fa rfl (by exact rfl) fo_45_0) ?_
        refine r_op rfl rfl rfl (run_ld1 rfl ag_3 (by exact rfl) (hAb8.cell 0 (by exact rfl))) ?_
        refine r_op rfl rfl rfl (run_fa rfl (by exact rfl) fo_45_1) ?_
        refine r_op rfl rfl rfl (run_ld1 rfl ag_9 (by exact rfl) (hAb8.cell 1 (by exact rfl))) ?_
        refine r_op rfl rfl rfl (run_fa rfl (by exact rfl) fo_45_2) ?_
        refine r_op rfl rfl rfl (run_ld1 rfl ag_3 (by exact rfl) (hAb8.cell 2 (by exact rfl))) ?_
        refine r_op rfl rfl rfl (run_bld (pv := [(0, .int _ _), (1, S _), (2, .int _ _)]) (zs := [_, _, _]) (cells := [_, _, _]) rfl ty_43 (by exact rfl) pl_43 (by exact rfl) (by exact rfl)) ?_
        refine r_append1E (u := .agg _) (y := (f.getD k default : Vc.Item)) rfl rfl Tryz.underlying23 ty_43 (by exact rfl) hoo (fun _ => (by exact rfl)) (by exact rfl) (by first | exact rfl | (show _ = List.toArray [_, _, _]; first | (dsimp only; done) | exact rfl | (dsimp only; exact rfl))) ((by first | omega | (simp; omega))) ((by first | omega | (simp; omega))) (by omega) ?_
        intro q_v25 v25 w26 hEw26 hov25 hlv25
        have hs_w26 := (hEw26).size
        replace hV := evo_stepo hV hEw26 (fun g hg => .inl (by first | exact (hoo.block hg).1 | (have := hoo.block hg; omega)))
        replace hf := hf0 _ hV
        refine r_op rfl rfl rfl (run_asg (v := v25) rfl (by exact rfl)) ?_
        refine r_nil ?_
        refine r_blk ?_
        refine r_blk ?_
        refine r_region ?_
        refine r_op rfl rfl rfl (run_add rfl (by exact rfl) (by exact rfl) (by omega) (by omega)) ?_
        refine r_op rfl rfl rfl (run_mv (v := .int _ _) rfl (by exact rfl)) ?_
        refine r_nil ?_
        refine r_again (k + 1) ?_ ?_ ?_
        ·first | omega | (dsimp only; omega)
        ·refine ⟨_, (by first | exact rfl | exact congrArg (Value.int _) (by omega) | exact congrArg (Value.int _) (by dsimp only; omega) | exact congrArg (Value.int _) (by simp) | exact congrArg S (by simp)), rfl, (by first | assumption | omega | (dsimp only; omega) | (simp; done)), (by rw [toks_succ (by omega)]; first | (rw [tokI_text (by assumption)]; exact hov25) | (rw [tokI_tag (by first | exact .inl (by assumption) | exact .inr (.inl (by assumption)) | exact .inr (.inr (.inl (by assumption))) | exact .inr (.inr (.inr (by assumption))))]; exact hov25) | (rw [tokI_none (by assumption) (by assumption) (by assumption) (by assumption) (by assumption), List.append_nil]; exact hov25)), (by first | assumption | omega | (dsimp only; omega) | (simp; done)), hV⟩
        ·repeat (first | (with_reducible exact Agree.merge _ _ _) | (with_reducible exact Agree.refl _ _) | (with_reducible refine Agree.upd ?_ _ _ rfl) | ((with_reducible refine Agree.inner ?_ ?_); (kernel_rfl)))
       ·skip
        refine r_skip ?_
        refine r_blk ?_
        refine r_blk ?_
        refine r_region ?_
        refine r_op rfl rfl rfl (run_add rfl (by exact rfl) (by exact rfl) (by omega) (by omega)) ?_
        refine r_op rfl rfl rfl (run_mv (v := .int _ _) rfl (by exact rfl)) ?_
        refine r_nil ?_
        refine r_again (k + 1) ?_ ?_ ?_
        ·first | omega | (dsimp only; omega)
        ·refine ⟨_, (by first | exact rfl | exact congrArg (Value.int _) (by omega) | exact congrArg (Value.int _) (by dsimp only; omega) | exact congrArg (Value.int _) (by simp) | exact congrArg S (by simp)), rfl, (by first | assumption | omega | (dsimp only; omega) | (simp; done)), (by rw [toks_succ (by omega)]; first | (rw [tokI_text (by assumption)]; exact hoo) | (rw [tokI_tag (by first | exact .inl (by assumption) | exact .inr (.inl (by assumption)) | exact .inr (.inr (.inl (by assumption))) | exact .inr (.inr (.inr (by assumption))))]; exact hoo) | (rw [tokI_none (by assumption) (by assumption) (by assumption) (by assumption) (by assumption), List.append_nil]; exact hoo)), (by first | assumption | omega | (dsimp only; omega) | (simp; done)), hV⟩
        ·repeat (first | (with_reducible exact Agree.merge _ _ _) | (with_reducible exact Agree.refl _ _) | (with_reducible refine Agree.upd ?_ _ _ rfl) | ((with_reducible refine Agree.inner ?_ ?_); (kernel_rfl)))
  ·skip
   refine r_exit rfl ?_
   refine r_seq ?_
   refine r_region ?_
   refine r_op rfl rfl rfl (run_mv (v := vo) rfl (by exact rfl)) ?_
   refine r_op rfl rfl rfl (run_asg (v := vo) rfl (by exact rfl)) ?_
   refine r_nil ?_
   refine r_ret (res1 (v := vo) rfl (by exact rfl)) ?_
   exact ⟨_, rfl, hV, by rw [List.take_of_length_le (by omega)] at hoo; exact hoo⟩
end Go.Proofs.YthbcklajlmcifaaGreat
namespace Go.Proofs.YthbcklajlmcifaaGreat
open Go.RowKit Go.Vc
theorem fo_43_0 : fieldP Tryz.prog 43 0 = some 0 := by kernel_rfl
theorem fo_43_1 : fieldP Tryz.prog 43 1 = some 1 := by kernel_rfl
def keyT (x : Vc.Item) : Str := if x.kind = 6 then lowS x.text else x.text
theorem key_word {x : Vc.Item} (h : x.kind = 6) : keyT x = lowS x.text := if_pos h
theorem key_text {x : Vc.Item} (h : ¬ x.kind = 6) : keyT x = x.text := if_neg h
theorem tkey_calls {x : Vc.Item} {w0 : World} (hx : x.text.length ≤ 140737488355328) :
    Calls Tryz.prog 57 #[.agg (Enc.enc x).toArray] w0 fun e w' => e = .returned (S (keyT x)) ∧ Evo w0 w' [] := by
 refine calls_enter (n := 11) (args := [.agg (Enc.enc x).toArray]) Tryz.func57 rfl Tryz.ntmps57 rfl ?_
 have hV : Evo w0 w0 [] := Evo.refl _ _
 refine r_seq ?_
 refine r_region ?_
 refine r_box (vs := [_, _, _]) (by exact rfl) (by exact rfl) rfl ?_
 intro b1 w2 heb1 hEw2 hbb1 hzb1
 have hs_w2 := (hEw2).size
 replace hV := evo_step0 hV hEw2
 have hAb1 := hbb1.at
 refine r_op rfl rfl rfl (run_asg (v := S _) rfl (by exact rfl)) ?_
 refine r_nil ?_
 refine r_seq ?_
 refine r_seq ?_
 refine r_region ?_
 refine r_op rfl rfl rfl (run_fa rfl (by exact rfl) fo_43_0) ?_
 refine r_op rfl rfl rfl (run_ld1 rfl ag_3 (by exact rfl) (hAb1.cell 0 (by exact rfl))) ?_
 refine r_op rfl rfl rfl (run_eql rfl (by exact rfl) (by exact rfl)) ?_
 refine r_nil ?_
 refine r_cond (by exact rfl) (fun hc3 => ?_) (fun hc3 => ?_)
 ·skip
  refine r_seq ?_
  refine r_region ?_
  refine r_op rfl rfl rfl (run_fa rfl (by exact rfl) fo_43_1) ?_
  refine r_op rfl rfl rfl (run_ld1 rfl ag_9 (by exact rfl) (hAb1.cell 1 (by exact rfl))) ?_
  refine r_opcall rfl rfl rfl (run_callf (vs := [S _]) rfl (by exact rfl) Tryz.func80 rfl (by kernel_rfl)) (lower_calls (by first | omega | (simp; omega))) ?_
  rintro e w4 ⟨rfl, hE4⟩
  refine ⟨_, rfl, ?_⟩
  have hs_w4 := (hE4).size
  replace hV := evo_step0 hV hE4
  replace hbb1 := hbb1.evo0 hE4
  replace hAb1 := hAb1.evo0 hE4
  refine r_op rfl rfl rfl (run_asg (v := S _) rfl (by exact rfl)) ?_
  refine r_nil ?_
  refine r_ret (res1 (v := S _) rfl (by exact rfl)) ?_
  exact ⟨ret_str (by rw [key_word hc3]), hV⟩
 ·skip
  refine r_skip ?_
  refine r_seq ?_
  refine r_region ?_
  refine r_op rfl rfl rfl (run_fa rfl (by exact rfl) fo_43_1) ?_
  refine r_op rfl rfl rfl (run_ld1 rfl ag_9 (by exact rfl) (hAb1.cell 1 (by exact rfl))) ?_
  refine r_op rfl rfl rfl (run_asg (v := S _) rfl (by exact rfl)) ?_
  refine r_nil ?_
  refine r_ret (res1 (v := S _) rfl (by exact rfl)) ?_
  exact ⟨ret_str (by rw [key_text hc3]), hV⟩
theorem rkey_calls {x : Vc.Item} {w0 : World} (hx : x.text.length ≤ 140737488355328) :
    Calls Tryz.prog 71 #[.agg (Enc.enc x).toArray] w0 fun e w' => e = .returned (S (keyT x)) ∧ Evo w0 w' [] := by
 refine calls_enter (n := 11) (args := [.agg (Enc.enc x).toArray]) Tryz.func71 rfl Tryz.ntmps71 rfl ?_
 have hV : Evo w0 w0 [] := Evo.refl _ _
 refine r_seq ?_
 refine r_region ?_
 refine r_box (vs := [_, _, _]) (by exact rfl) (by exact rfl) rfl ?_
 intro b1 w2 heb1 hEw2 hbb1 hzb1
 have hs_w2 := (hEw2).size
 replace hV := evo_step0 hV hEw2
 have hAb1 := hbb1.at
 refine r_op rfl rfl rfl (run_asg (v := S _) rfl (by exact rfl)) ?_
 refine r_nil ?_
 refine r_seq ?_
 refine r_seq ?_
 refine r_region ?_
 refine r_op rfl rfl rfl (run_fa rfl (by exact rfl) fo_43_0) ?_
 refine r_op rfl rfl rfl (run_ld1 rfl ag_3 (by exact rfl) (hAb1.cell 0 (by exact rfl))) ?_
 refine r_op rfl rfl rfl (run_eql rfl (by exact rfl) (by exact rfl)) ?_
 refine r_nil ?_
 refine r_cond (by exact rfl) (fun hc3 => ?_) (fun hc3 => ?_)
 ·skip
  refine r_seq ?_
  refine r_region ?_
  refine r_op rfl rfl rfl (run_fa rfl (by exact rfl) fo_43_1) ?_
  refine r_op rfl rfl rfl (run_ld1 rfl ag_9 (by exact rfl) (hAb1.cell 1 (by exact rfl))) ?_
  refine r_opcall rfl rfl rfl (run_callf (vs := [S _]) rfl (by exact rfl) Tryz.func87 rfl (by kernel_rfl)) (rlower_calls (by first | omega | (simp; omega))) ?_
  rintro e w4 ⟨rfl, hE4⟩
  refine ⟨_, rfl, ?_⟩
  have hs_w4 := (hE4).size
  replace hV := evo_step0 hV hE4
  replace hbb1 := hbb1.evo0 hE4
  replace hAb1 := hAb1.evo0 hE4
  refine r_op rfl rfl rfl (run_asg (v := S _) rfl (by exact rfl)) ?_
  refine r_nil ?_
  refine r_ret (res1 (v := S _) rfl (by exact rfl)) ?_
  exact ⟨ret_str (by rw [key_word hc3]), hV⟩
 ·skip
  refine r_skip ?_
  refine r_seq ?_
  refine r_region ?_
  refine r_op rfl rfl rfl (run_fa rfl (by exact rfl) fo_43_1) ?_
  refine r_op rfl rfl rfl (run_ld1 rfl ag_9 (by exact rfl) (hAb1.cell 1 (by exact rfl))) ?_
  refine r_op rfl rfl rfl (run_asg (v := S _) rfl (by exact rfl)) ?_
  refine r_nil ?_
  refine r_ret (res1 (v := S _) rfl (by exact rfl)) ?_
  exact ⟨ret_str (by rw [key_text hc3]), hV⟩
end Go.Proofs.YthbcklajlmcifaaGreat
namespace Go.Proofs.YthbcklajlmcifaaGreat
open Go.RowKit Go.Vc
def KF : List Vc.Item := [⟨2, [98], 1⟩, ⟨1, [97, 98], 0⟩, ⟨3, [98], 1⟩]
end Go.Proofs.YthbcklajlmcifaaGreat
namespace Go.Proofs.YthbcklajlmcifaaGreat
open Go.RowKit Go.Vc
theorem pl_45 : placesP Tryz.prog 45 = some [(0, 1), (1, 1), (2, 1)] := by kernel_rfl
theorem rnormalize_calls {ao : Option Addr} {b off cap : Nat} {f : List Vc.Item} {w0 : World} (hf : RowE w0 ao b off cap f) (hsm : Small f) :
    Calls Tryz.prog 50 #[.slice ao f.length cap] w0 fun e w' => ∃ v, e = .returned v ∧ Evo w0 w' [] ∧ OwnE w' w0.heap.size 45 v (normL f) := by
 have hs1 := hsm.1; have hs2 := hsm.2
 refine calls_enter (n := 61) (args := [.slice ao f.length cap]) Tryz.func50 rfl Tryz.ntmps50 rfl ?_
 have hV : Evo w0 w0 [] := Evo.refl _ _
 have hf0 := keepE hf
 have hbd_hf := hf.bd
 refine r_seq ?_
 refine r_region ?_
 refine r_op rfl rfl rfl (run_asg (v := .slice _ _ _) rfl (by exact rfl)) ?_
 refine r_nil ?_
 refine r_seq ?_
 refine r_region ?_
 refine r_op rfl rfl rfl (run_asg (v := .slice _ _ _) rfl (by exact rfl)) ?_
 refine r_nil ?_
 refine r_seq ?_
 refine r_seq ?_
 refine r_region ?_
 refine r_op rfl rfl rfl (run_mv (v := .slice _ _ _) rfl (by exact rfl)) ?_
 refine r_op rfl rfl rfl (run_lenSl rfl (by exact rfl) Tryz.underlying46) ?_
 refine r_op rfl rfl rfl (run_mv (v := .int _ _) rfl (by exact rfl)) ?_
 refine r_nil ?_
 refine r_block ?_
 refine r_loop (α := Nat) [3, 4, 5, 6, 9, 10, 11, 12, 13, 14, 15, 16, 17, 18, 19, 20, 21, 22, 23, 24, 25, 26, 27, 28, 29, 30, 31, 32, 33, 34, 35, 36, 37, 38, 39, 40, 41, 42, 43, 44, 45, 46, 47, 48, 49, 50, 51, 52, 53, 54, 55, 56, 57, 58, 59] (fun k g w => ∃ vo : Value, g 9 = .int .i64 (k : Nat) ∧ g 3 = vo ∧ k ≤ f.length ∧ OwnE w w0.heap.size 45 vo (normL (f.take k)) ∧ w0.heap.size ≤ w.heap.size ∧ Evo w0 w []) (fun k => f.length - k) 0 ?_ ?_
 ·refine ⟨_, (by first | exact rfl | exact congrArg (Value.int _) (by omega) | exact congrArg (Value.int _) (by dsimp only; omega) | exact congrArg (Value.int _) (by simp) | exact congrArg S (by simp)), rfl, (by first | assumption | omega | (dsimp only; omega) | (simp; done)), (OwnE.nil _ _ _), (by first | assumption | omega | (dsimp only; omega) | (simp; done)), hV⟩
 ·rintro k g w2 ⟨vo, hj3, hj4, hk_k, hoo, hzl1, hV⟩
  have hs_w2hV := hV.size
  replace hf := hf0 _ hV
  refine r_know (i := 9) (v := .int .i64 (k : Nat)) (by exact hj3) ?_
  refine r_know (i := 3) (v := vo) (by exact hj4) ?_
  refine r_seq ?_
  refine r_region ?_
  refine r_op rfl rfl rfl (run_lss rfl (by exact rfl) (by exact rfl)) ?_
  refine r_nil ?_
  refine r_seq ?_
  refine r_cond (by exact rfl) (fun hc5 => ?_) (fun hc5 => ?_)
  ·skip
   refine r_skip ?_
   refine r_seq ?_
   refine r_block ?_
   refine r_seq ?_
   refine r_region ?_
   refine r_op rfl rfl rfl (run_mv (v := .int _ _) rfl (by exact rfl)) ?_
   refine r_op rfl rfl rfl (run_asg (v := .int _ _) rfl (by exact rfl)) ?_
   refine r_nil ?_
   refine r_seq ?_
   have hobO := fun g hg => (hoo.block (g := g) hg).2
   refine r_region ?_
   refine r_op rfl rfl rfl (run_mv (v := .slice _ _ _) rfl (by exact rfl)) ?_
   refine r_op rfl rfl rfl (run_mv (v := .int _ _) rfl (by exact rfl)) ?_
   refine r_op rfl rfl rfl (run_ix (k) rfl Tryz.underlying46 ty_45 (by exact rfl) (by exact rfl) (by first | exact rfl | omega) (by omega) (hf.addr (i := k) (by omega))) ?_
   have hA60 := fun (w' : World) (h : Evo w0 w' []) => (hf0 w' h).atD (k) (by omega)
   have hA6 := hA60 _ hV
   refine r_op rfl rfl rfl (run_ldN rfl ag_45 ty_45 (by exact rfl) rfl hA6) ?_
   have hob7 := fun g hg => (hoo.block (g := g) hg).2
   refine r_var (zs := [_, _, _]) (vs := [_, _, _]) ty_45 (by exact rfl) rfl (by exact rfl) (fun _ => rfl) (by exact rfl) rfl rfl (by exact rfl) ?_
   intro b8 w9 heb8 hEw9 hbb8 hzb8
   have hs_w9 := (hEw9).size
   replace hV := evo_step0 hV hEw9
   replace hf := hf0 _ hV
   replace hoo := hoo.evo0 hEw9
   have hAb8 := hbb8.at
   refine r_nil ?_
   refine r_seq ?_
   refine r_seq ?_
   have hneO : ∀ g, vo.ownBlock = some g → g ≠ b8 := fun g hg h => by have := hobO g hg; omega
   have hn1 := normL_len (f.take k); have hn2 : (f.take k).length ≤ k := List.length_take_le _ _; have hn3 := sizeL_take f k; have hn4 := sizeL_at f k; have hz1 := sizeL_at (normL (f.take k)) ((normL (f.take k)).length - 1); have hz2 := normL_size (f.take k)
   refine r_region ?_
   refine r_op rfl rfl rfl (run_fa rfl (by exact rfl) fo_45_0) ?_
   refine r_op rfl rfl rfl (run_ld1 rfl ag_3 (by exact rfl) (hAb8.cell 0 (by exact rfl))) ?_
   refine r_op rfl rfl rfl (run_neq rfl (by exact rfl) (by exact rfl)) ?_
   refine r_nil ?_
   refine r_cond (by exact rfl) (fun hc10 => ?_) (fun hc10 => ?_)
   ·skip
    refine r_seq ?_
    refine r_region ?_
    refine r_op rfl rfl rfl (run_mv (v := vo) rfl (by exact rfl)) ?_
    refine r_op rfl rfl rfl (run_ldN rfl ag_45 ty_45 (by exact rfl) rfl hAb8) ?_
    refine r_append1E (u := .agg _) (y := ⟨_, _, _⟩) rfl rfl Tryz.underlying46 ty_45 (by exact rfl) hoo (fun _ => (by exact rfl)) (by exact rfl) (by first | exact rfl | (show _ = List.toArray [_, _, _]; first | (dsimp only; done) | exact rfl | (dsimp only; exact rfl))) ((by first | omega | (simp; omega))) ((by first | omega | (simp; omega))) (by omega) ?_
    intro q_v11 v11 w12 hEw12 hov11 hlv11
    have hs_w12 := (hEw12).size
    replace hV := evo_stepo hV hEw12 (fun g hg => .inl (by first | exact (hoo.block hg).1 | (have := hoo.block hg; omega)))
    replace hf := hf0 _ hV
    replace hbb8 := hbb8.evo hEw12 (by intro hm; have hm2 := Option.mem_toList.1 hm; have := hob7 _ hm2; omega)
    replace hAb8 := hAb8.evo hEw12 (by intro hm; have hm2 := Option.mem_toList.1 hm; have := hob7 _ hm2; omega)
    refine r_op rfl rfl rfl (run_asg (v := v11) rfl (by exact rfl)) ?_
    refine r_nil ?_
    refine r_exit rfl ?_
    refine r_region ?_
    refine r_op rfl rfl rfl (run_add rfl (by exact rfl) (by exact rfl) (by omega) (by omega)) ?_
    refine r_op rfl rfl rfl (run_mv (v := .int _ _) rfl (by exact rfl)) ?_
    refine r_nil ?_
    refine r_again (k + 1) ?_ ?_ ?_
    ·first | omega | (dsimp only; omega)
    ·refine ⟨_, (by first | exact rfl | exact congrArg (Value.int _) (by omega) | exact congrArg (Value.int _) (by dsimp only; omega) | exact congrArg (Value.int _) (by simp) | exact congrArg S (by simp)), rfl, (by first | assumption | omega | (dsimp only; omega) | (simp; done)), (by first | (rw [normL_succ f k (by omega), norm_other (by assumption)]; exact hov11) | (rw [normL_succ f k (by omega), norm_empty (by omega) (by assumption)]; exact hov11) | (rw [normL_succ f k (by omega), norm_join (by omega) (by assumption) (by assumption)]; exact hov11) | (rw [normL_succ f k (by omega), norm_add (by omega) (by assumption) (by assumption)]; exact hov11)), (by first | assumption | omega | (dsimp only; omega) | (simp; done)), hV⟩
    ·repeat (first | (with_reducible exact Agree.merge _ _ _) | (with_reducible exact Agree.refl _ _) | (with_reducible refine Agree.upd ?_ _ _ rfl) | ((with_reducible refine Agree.inner ?_ ?_); (kernel_rfl)))
   ·skip
    refine r_skip ?_
    refine r_seq ?_
    refine r_seq ?_
    refine r_region ?_
    refine r_op rfl rfl rfl (run_fa rfl (by exact rfl) fo_45_1) ?_
    refine r_op rfl rfl rfl (run_ld1 rfl ag_9 (by exact rfl) (hAb8.cell 1 (by exact rfl))) ?_
    refine r_op rfl rfl rfl (run_seql rfl (by exact rfl) (by exact rfl)) ?_
    refine r_nil ?_
    refine r_cond (by exact rfl) (fun hc13 => ?_) (fun hc13 => ?_)
    ·skip
     refine r_exit rfl ?_
     refine r_region ?_
     refine r_op rfl rfl rfl (run_add rfl (by exact rfl) (by exact rfl) (by omega) (by omega)) ?_
     refine r_op rfl rfl rfl (run_mv (v := .int _ _) rfl (by exact rfl)) ?_
     refine r_nil ?_
     refine r_again (k + 1) ?_ ?_ ?_
     ·first | omega | (dsimp only; omega)
     ·refine ⟨_, (by first | exact rfl | exact congrArg (Value.int _) (by omega) | exact congrArg (Value.int _) (by dsimp only; omega) | exact congrArg (Value.int _) (by simp) | exact congrArg S (by simp)), rfl, (by first | assumption | omega | (dsimp only; omega) | (simp; done)), (by first | (rw [normL_succ f k (by omega), norm_other (by assumption)]; exact hoo) | (rw [normL_succ f k (by omega), norm_empty (by omega) (by assumption)]; exact hoo) | (rw [normL_succ f k (by omega), norm_join (by omega) (by assumption) (by assumption)]; exact hoo) | (rw [normL_succ f k (by omega), norm_add (by omega) (by assumption) (by assumption)]; exact hoo)), (by first | assumption | omega | (dsimp only; omega) | (simp; done)), hV⟩
     ·repeat (first | (with_reducible exact Agree.merge _ _ _) | (with_reducible exact Agree.refl _ _) | (with_reducible refine Agree.upd ?_ _ _ rfl) | ((with_reducible refine Agree.inner ?_ ?_); (kernel_rfl)))
    ·skip
     refine r_skip ?_
     refine r_seq ?_
     refine r_region ?_
     refine r_op rfl rfl rfl (run_mv (v := vo) rfl (by exact rfl)) ?_
     refine r_op rfl rfl rfl (run_lenOE rfl (by exact rfl) Tryz.underlying46 hoo) ?_
     refine r_op rfl rfl rfl (run_asg (v := .int _ _) rfl (by exact rfl)) ?_
     refine r_nil ?_
     refine r_seq ?_
     obtain ⟨ao14, g14, cp14, hv14, hr14, hg14⟩ := hoo.rowOf
     subst hv14
     refine r_region ?_
     refine r_op rfl rfl rfl (run_mv (v := .int _ _) rfl (by exact rfl)) ?_
     refine r_op rfl rfl rfl (run_gtr rfl (by exact rfl) (by exact rfl)) ?_
     refine r_op rfl rfl rfl (run_mv (v := .bool _) rfl (by exact rfl)) ?_
     refine r_g rfl (wantT (by exact rfl)) rfl (fun hg => run_mv (v := .slice _ _ _) rfl (by exact rfl)) ?_
     refine r_g rfl (wantT (by exact rfl)) rfl (fun hg => run_mv (v := .int _ _) rfl (by exact rfl)) ?_
     refine r_g rfl (wantT (by exact rfl)) rfl (fun hg => run_sub rfl (glv (by exact rfl) (fun h => h) hg) (by exact rfl) (by omega) (by omega)) ?_
     refine r_g rfl (wantT (by exact rfl)) rfl (fun hg => run_ix (((normL (f.take k)).length - 1)) rfl Tryz.underlying46 ty_45 (glv (by exact rfl) (fun h => h) hg) (glv (by exact rfl) (fun h => h) hg) (by omega) (by omega) (hr14.addr (i := ((normL (f.take k)).length - 1)) (by omega))) ?_
     refine r_g rfl (wantT (by exact rfl)) rfl (fun hg => run_fa rfl (glv (by exact rfl) (fun h => h) hg) fo_45_0) ?_
     refine r_g rfl (wantT (by exact rfl)) rfl (fun hg => run_ld1 rfl ag_3 (glv (by exact rfl) (fun h => h) hg) ((hr14.atD (((normL (f.take k)).length - 1)) (by omega)).cell 0 (by exact rfl))) ?_
     refine r_g rfl (wantT (by exact rfl)) rfl (fun hg => run_eql rfl (glv (by exact rfl) (fun h => h) hg) (by exact rfl)) ?_
     refine r_op rfl rfl rfl (run_pick_and rfl (by exact rfl) (fun hq => glv (by exact rfl) (fun h => h) hq) rfl) ?_
     refine r_nil ?_
     refine r_cond (by exact rfl) (fun hc15 => ?_) (fun hc15 => ?_)
     ·skip
      have hbb8_q := hbb8
      have hAb8_q := hAb8
      have hr14_q := hr14
      have hV_q := hV
      refine h_region ([]) (by kernel_rfl) ?_
      intro w16 hE17 hC18
      have hs_w16 := (hE17).size
      replace hV := evo_step0 hV hE17
      replace hf := hf0 _ hV
      replace hoo := hoo.evo0 hE17
      replace hbb8 := hbb8.evo0 hE17
      replace hAb8 := hAb8.evo0 hE17
      replace hr14 := hr14.evo0 hE17
      refine h_take (i := 0) (by exact rfl) rfl rfl rfl (by kernel_rfl) (fun w' hC => run_mv (v := .slice _ _ _) rfl (by exact rfl)) hC18 ?_
      refine h_take (i := 1) (by exact rfl) rfl rfl rfl (by kernel_rfl) (fun w' hC => run_mv (v := .int _ _) rfl (by exact rfl)) hC18 ?_
      refine h_take (i := 2) (by exact rfl) rfl rfl rfl (by kernel_rfl) (fun w' hC => run_sub rfl (by exact rfl) (by exact rfl) (by omega) (by omega)) hC18 ?_
      refine h_take (i := 3) (by exact rfl) rfl rfl rfl (by kernel_rfl) (fun w' hC => run_mv (v := .slice _ _ _) rfl (by exact rfl)) hC18 ?_
      refine h_take (i := 4) (by exact rfl) rfl rfl rfl (by kernel_rfl) (fun w' hC => run_mv (v := .int _ _) rfl (by exact rfl)) hC18 ?_
      refine h_take (i := 5) (by exact rfl) rfl rfl rfl (by kernel_rfl) (fun w' hC => run_sub rfl (by exact rfl) (by exact rfl) (by omega) (by omega)) hC18 ?_
      refine h_take (i := 6) (by exact rfl) rfl rfl rfl (by kernel_rfl) (fun w' hC => run_ix (((normL (f.take k)).length - 1)) rfl Tryz.underlying46 ty_45 (by exact rfl) (by exact rfl) (by omega) (by omega) (hr14.addr (i := ((normL (f.take k)).length - 1)) (by omega))) hC18 ?_
      have hA19 := hr14.atD (((normL (f.take k)).length - 1)) (by omega)
      have hA19_q := hr14_q.atD (((normL (f.take k)).length - 1)) (by omega)
      refine h_take (i := 7) (by exact rfl) rfl rfl rfl (by kernel_rfl) (fun w' hC => run_fa rfl (by exact rfl) fo_45_1) hC18 ?_
      refine h_take (i := 8) (by exact rfl) rfl rfl rfl (by kernel_rfl) (fun w' hC => run_ld1 rfl ag_9 (by exact rfl) ((hA19_q.evo0 hC).cell 1 (by exact rfl))) hC18 ?_
      refine h_take (i := 9) (by exact rfl) rfl rfl rfl (by kernel_rfl) (fun w' hC => run_fa rfl (by exact rfl) fo_45_1) hC18 ?_
      refine h_take (i := 10) (by exact rfl) rfl rfl rfl (by kernel_rfl) (fun w' hC => run_ld1 rfl ag_9 (by exact rfl) ((hAb8_q.evo0 hC).cell 1 (by exact rfl))) hC18 ?_
      refine h_take (i := 11) (by exact rfl) rfl rfl rfl (by kernel_rfl) (fun w' hC => run_sadd rfl (by exact rfl) (by exact rfl) (by omega)) hC18 ?_
      refine h_take (i := 12) (by exact rfl) rfl rfl rfl (by kernel_rfl) (fun w' hC => run_bld (pv := [(0, .int _ _), (1, S _)]) (zs := [_, _, _]) (cells := [_, _, _]) rfl ty_45 (by exact rfl) pl_45 (by exact rfl) (by exact rfl)) hC18 ?_
      refine h_take (i := 13) (by exact rfl) rfl rfl rfl (by kernel_rfl) (fun w' hC => run_ix (((normL (f.take k)).length - 1)) rfl Tryz.underlying46 ty_45 (by exact rfl) (by exact rfl) (by omega) (by omega) (hr14.addr (i := ((normL (f.take k)).length - 1)) (by omega))) hC18 ?_
      have hA20 := hr14.atD (((normL (f.take k)).length - 1)) (by omega)
      have hA20_q := hr14_q.atD (((normL (f.take k)).length - 1)) (by omega)
      refine h_one (i := 14) (by kernel_rfl) ?_
      refine h_do (by exact rfl) ?_
      refine r_storeE (u := .agg _) (vs := [_, _, _]) (((normL (f.take k)).length - 1)) 0 ⟨_, _, _⟩ (by exact rfl) rfl (by first | rfl | omega) (by exact rfl) hoo hr14 (by omega) ty_45 (by exact rfl) rfl (by exact rfl) rfl (by show [_, _, _] = [_, _, _]; first | (dsimp only; done) | exact rfl | (dsimp only; exact rfl)) ?_
      intro w21 hEw21 hzw21 ho_new
      have hs_w21 := (hEw21).size
      replace hV := evo_stepo hV hEw21 (fun g hg => .inl (by first | exact (hoo.block hg).1 | (have := hoo.block hg; omega)))
      replace hf := hf0 _ hV
      replace hoo := ho_new
      clear ho_new
      refine h_last (by kernel_rfl) ?_
      refine h_done (by kernel_rfl) ?_
      refine r_blk ?_
      refine r_region ?_
      refine r_op rfl rfl rfl (run_add rfl (by exact rfl) (by exact rfl) (by omega) (by omega)) ?_
      refine r_op rfl rfl rfl (run_mv (v := .int _ _) rfl (by exact rfl)) ?_
      refine r_nil ?_
      refine r_again (k + 1) ?_ ?_ ?_
      ·first | omega | (dsimp only; omega)
      ·refine ⟨_, (by first | exact rfl | exact congrArg (Value.int _) (by omega) | exact congrArg (Value.int _) (by dsimp only; omega) | exact congrArg (Value.int _) (by simp) | exact congrArg S (by simp)), rfl, (by first | assumption | omega | (dsimp only; omega) | (simp; done)), (by first | (rw [normL_succ f k (by omega), norm_other (by assumption)]; exact hoo) | (rw [normL_succ f k (by omega), norm_empty (by omega) (by assumption)]; exact hoo) | (rw [normL_succ f k (by omega), norm_join (by omega) (by assumption) (by assumption)]; exact hoo) | (rw [normL_succ f k (by omega), norm_add (by omega) (by assumption) (by assumption)]; exact hoo)), (by first | assumption | omega | (dsimp only; omega) | (simp; done)), hV⟩
      ·repeat (first | (with_reducible exact Agree.merge _ _ _) | (with_reducible exact Agree.refl _ _) | (with_reducible refine Agree.upd ?_ _ _ rfl) | ((with_reducible refine Agree.inner ?_ ?_); (kernel_rfl)))
     ·skip
      refine r_region ?_
      refine r_op rfl rfl rfl (run_mv (v := .slice _ _ _) rfl (by exact rfl)) ?_
      refine r_op rfl rfl rfl (run_fa rfl (by exact rfl) fo_45_1) ?_
      refine r_op rfl rfl rfl (run_ld1 rfl ag_9 (by exact rfl) (hAb8.cell 1 (by exact rfl))) ?_
      refine r_op rfl rfl rfl (run_bld (pv := [(0, .int _ _), (1, S _)]) (zs := [_, _, _]) (cells := [_, _, _]) rfl ty_45 (by exact rfl) pl_45 (by exact rfl) (by exact rfl)) ?_
      refine r_append1E (u := .agg _) (y := ⟨_, _, _⟩) rfl rfl Tryz.underlying46 ty_45 (by exact rfl) hoo (fun _ => (by exact rfl)) (by exact rfl) (by first | exact rfl | (show _ = List.toArray [_, _, _]; first | (dsimp only; done) | exact rfl | (dsimp only; exact rfl))) ((by first | omega | (simp; omega))) ((by first | omega | (simp; omega))) (by omega) ?_
      intro q_v22 v22 w23 hEw23 hov22 hlv22
      have hs_w23 := (hEw23).size
      replace hV := evo_stepo hV hEw23 (fun g hg => .inl (by first | exact (hoo.block hg).1 | (have := hoo.block hg; omega)))
      replace hf := hf0 _ hV
      refine r_op rfl rfl rfl (run_asg (v := v22) rfl (by exact rfl)) ?_
      refine r_nil ?_
      refine r_blk ?_
      refine r_region ?_
      refine r_op rfl rfl rfl (run_add rfl (by exact rfl) (by exact rfl) (by omega) (by omega)) ?_
      refine r_op rfl rfl rfl (run_mv (v := .int _ _) rfl (by exact rfl)) ?_
      refine r_nil ?_
      refine r_again (k + 1) ?_ ?_ ?_
      ·first | omega | (dsimp only; omega)
      ·refine ⟨_, (by first | exact rfl | exact congrArg (Value.int _) (by omega) | exact congrArg (Value.int _) (by dsimp only; omega) | exact congrArg (Value.int _) (by simp) | exact congrArg S (by simp)), rfl, (by first | assumption | omega | (dsimp only; omega) | (simp; done)), (by first | (rw [normL_succ f k (by omega), norm_other (by assumption)]; exact hov22) | (rw [normL_succ f k (by omega), norm_empty (by omega) (by assumption)]; exact hov22) | (rw [normL_succ f k (by omega), norm_join (by omega) (by assumption) (by assumption)]; exact hov22) | (rw [normL_succ f k (by omega), norm_add (by omega) (by assumption) (by assumption)]; exact hov22)), (by first | assumption | omega | (dsimp only; omega) | (simp; done)), hV⟩
      ·repeat (first | (with_reducible exact Agree.merge _ _ _) | (with_reducible exact Agree.refl _ _) | (with_reducible refine Agree.upd ?_ _ _ rfl) | ((with_reducible refine Agree.inner ?_ ?_); (kernel_rfl)))
  ·skip
   refine r_exit rfl ?_
   refine r_seq ?_
   refine r_region ?_
   refine r_op rfl rfl rfl (run_mv (v := vo) rfl (by exact rfl)) ?_
   refine r_op rfl rfl rfl (run_asg (v := vo) rfl (by exact rfl)) ?_
   refine r_nil ?_
   refine r_ret (res1 (v := vo) rfl (by exact rfl)) ?_
   exact ⟨_, rfl, hV, by rw [List.take_of_length_le (by omega)] at hoo; exact hoo⟩
end Go.Proofs.YthbcklajlmcifaaGreat
namespace Go.Proofs.YthbcklajlmcifaaGreat
open Go.RowKit Go.Vc
theorem ty_9 : tyP Tryz.prog 9 = some (1, 16, some (.string ⟨#[]⟩)) := by kernel_rfl
theorem iplace_calls (x n : Int) {w0 : World} (hn : 1 ≤ n) (hn2 : n ≤ 1000000000) :
    Calls Tryz.prog 8 #[.int .i64 x, .int .i64 n] w0 fun e w' => e = .returned (.int .i64 (x % n)) ∧ w0 = w' := by
 refine calls_enter (n := 14) (args := [.int .i64 x, .int .i64 n]) Tryz.func8 rfl Tryz.ntmps8 rfl ?_
 have hV : Evo w0 w0 [] := Evo.refl _ _
 refine r_seq ?_
 refine r_region ?_
 refine r_op rfl rfl rfl (run_asg (v := .int _ _) rfl (by exact rfl)) ?_
 refine r_nil ?_
 refine r_seq ?_
 refine r_region ?_
 refine r_op rfl rfl rfl (run_mv (v := .int _ _) rfl (by exact rfl)) ?_
 refine r_op rfl rfl rfl (run_mv (v := .int _ _) rfl (by exact rfl)) ?_
 refine r_op rfl rfl rfl (run_rem rfl (by exact rfl) (by exact rfl) (by omega)) ?_
 refine r_op rfl rfl rfl (run_asg (v := .int _ _) rfl (by exact rfl)) ?_
 refine r_nil ?_
 refine r_seq ?_
 refine r_seq ?_
 refine r_region ?_
 refine r_op rfl rfl rfl (run_mv (v := .int _ _) rfl (by exact rfl)) ?_
 refine r_op rfl rfl rfl (run_lss rfl (by exact rfl) (by exact rfl)) ?_
 refine r_nil ?_
 refine r_cond (by exact rfl) (fun hc1 => ?_) (fun hc1 => ?_)
 ·skip
  refine r_region ?_
  refine r_op rfl rfl rfl (run_mv (v := .int _ _) rfl (by exact rfl)) ?_
  refine r_op rfl rfl rfl (run_mv (v := .int _ _) rfl (by exact rfl)) ?_
  refine r_op rfl rfl rfl (run_add rfl (by exact rfl) (by exact rfl) (by have := tmod_bd x n (by omega); omega) (by have := tmod_bd x n (by omega); omega)) ?_
  refine r_op rfl rfl rfl (run_asg (v := .int _ _) rfl (by exact rfl)) ?_
  refine r_nil ?_
  refine r_seq ?_
  refine r_region ?_
  refine r_op rfl rfl rfl (run_mv (v := .int _ _) rfl (by exact rfl)) ?_
  refine r_op rfl rfl rfl (run_asg (v := .int _ _) rfl (by exact rfl)) ?_
  refine r_nil ?_
  refine r_ret (res1 (v := .int _ _) rfl (by exact rfl)) ?_
  exact ⟨ret_int (by rw [← place_neg x n (by omega) (by omega)]), rfl⟩
 ·skip
  refine r_skip ?_
  refine r_seq ?_
  refine r_region ?_
  refine r_op rfl rfl rfl (run_mv (v := .int _ _) rfl (by exact rfl)) ?_
  refine r_op rfl rfl rfl (run_asg (v := .int _ _) rfl (by exact rfl)) ?_
  refine r_nil ?_
  refine r_ret (res1 (v := .int _ _) rfl (by exact rfl)) ?_
  exact ⟨ret_int (by rw [← place_pos x n (by omega) (by omega)]), rfl⟩
theorem inext_calls {T bs : Nat} {ao : Option Addr} {b off cap : Nat} {l : List Int} {N : Nat} {n : Int} {w0 : World} (hb : Blk w0 bs T [.slice ao l.length cap, .int .i64 (N : Nat)]) (hl : RowE w0 ao b off cap l) (hN : N ≤ 1000000) (hn : 1 ≤ n) (hn2 : n ≤ 1000000000) :
    Calls Tryz.prog 16 #[.pointer (some ⟨bs, 0, none⟩), .int .i64 n] w0 fun e w' => e = .returned (.int .i64 (nextL l N n)) ∧ Evo w0 w' [bs] ∧ Blk w' bs T [.slice ao l.length cap, .int .i64 (N + 1 : Nat)] := by
 have hAs := hb.at
 refine calls_enter (n := 36) (args := [.pointer (some ⟨bs, 0, none⟩), .int .i64 n]) Tryz.func16 rfl Tryz.ntmps16 rfl ?_
 have hV : Evo w0 w0 [bs] := Evo.refl _ _
 have hbd_hl := hl.bd
 refine r_seq ?_
 refine r_region ?_
 refine r_op rfl rfl rfl (run_asg (v := .int _ _) rfl (by exact rfl)) ?_
 refine r_nil ?_
 refine r_seq ?_
 refine r_region ?_
 refine r_op rfl rfl rfl (run_asg (v := .int _ _) rfl (by exact rfl)) ?_
 refine r_nil ?_
 refine r_seq ?_
 refine r_seq ?_
 refine r_qregion (by kernel_rfl) (by kernel_rfl) ?_
 refine q_op rfl rfl rfl (fun w' hC => run_mv (v := .pointer _) rfl (by exact rfl)) ?_
 refine q_op rfl rfl rfl (fun w' hC => run_nc rfl (by exact rfl)) ?_
 refine q_op rfl rfl rfl (fun w' hC => run_fa rfl (by exact rfl) fo_33_1) ?_
 refine q_op rfl rfl rfl (fun w' hC => run_ld1 rfl ag_3 (by exact rfl) ((hAs.evo0 hC).cell 1 (by exact rfl))) ?_
 refine q_op rfl rfl rfl (fun w' hC => run_mv (v := .pointer _) rfl (by exact rfl)) ?_
 refine q_op rfl rfl rfl (fun w' hC => run_nc rfl (by exact rfl)) ?_
 refine q_op rfl rfl rfl (fun w' hC => run_fa rfl (by exact rfl) fo_33_0) ?_
 refine q_op rfl rfl rfl (fun w' hC => run_ld1 rfl ag_22 (by exact rfl) ((hAs.evo0 hC).cell 0 (by exact rfl))) ?_
 refine q_op rfl rfl rfl (fun w' hC => run_lenSl rfl (by exact rfl) Tryz.underlying22) ?_
 refine q_op rfl rfl rfl (fun w' hC => run_lss rfl (by exact rfl) (by exact rfl)) ?_
 refine q_nil (fun w1 hE2 => ?_)
 have hs_w1 := (hE2).size
 replace hV := evo_step0 hV hE2
 replace hb := hb.evo0 hE2
 replace hAs := hAs.evo0 hE2
 replace hl := hl.evo0 hE2
 refine r_cond (by exact rfl) (fun hc3 => ?_) (fun hc3 => ?_)
 ·skip
  refine r_qregion (by kernel_rfl) (by kernel_rfl) ?_
  refine q_op rfl rfl rfl (fun w' hC => run_mv (v := .pointer _) rfl (by exact rfl)) ?_
  refine q_op rfl rfl rfl (fun w' hC => run_nc rfl (by exact rfl)) ?_
  refine q_op rfl rfl rfl (fun w' hC => run_fa rfl (by exact rfl) fo_33_0) ?_
  refine q_op rfl rfl rfl (fun w' hC => run_ld1 rfl ag_22 (by exact rfl) ((hAs.evo0 hC).cell 0 (by exact rfl))) ?_
  refine q_op rfl rfl rfl (fun w' hC => run_mv (v := .pointer _) rfl (by exact rfl)) ?_
  refine q_op rfl rfl rfl (fun w' hC => run_nc rfl (by exact rfl)) ?_
  refine q_op rfl rfl rfl (fun w' hC => run_fa rfl (by exact rfl) fo_33_1) ?_
  refine q_op rfl rfl rfl (fun w' hC => run_ld1 rfl ag_3 (by exact rfl) ((hAs.evo0 hC).cell 1 (by exact rfl))) ?_
  refine q_op rfl rfl rfl (fun w' hC => run_ix (N) rfl Tryz.underlying22 ty_3 (by exact rfl) (by exact rfl) (by first | exact rfl | omega) (by omega) (hl.addr (i := N) (by omega))) ?_
  have hA4 := hl.atD (N) (by omega)
  refine q_op rfl rfl rfl (fun w' hC => run_ld1 rfl ag_3 (by exact rfl) ((hA4.evo0 hC).cell 0 (by exact rfl))) ?_
  refine q_op rfl rfl rfl (fun w' hC => run_asg (v := .int _ _) rfl (by exact rfl)) ?_
  refine q_nil (fun w5 hE6 => ?_)
  have hs_w5 := (hE6).size
  replace hV := evo_step0 hV hE6
  replace hb := hb.evo0 hE6
  replace hAs := hAs.evo0 hE6
  replace hl := hl.evo0 hE6
  refine r_seq ?_
  refine r_region ?_
  refine r_op rfl rfl rfl (run_mv (v := .pointer _) rfl (by exact rfl)) ?_
  refine r_op rfl rfl rfl (run_nc rfl (by exact rfl)) ?_
  refine r_op rfl rfl rfl (run_fa rfl (by exact rfl) fo_33_1) ?_
  refine r_op rfl rfl rfl (run_ld1 rfl ag_3 (by exact rfl) (hAs.cell 1 (by exact rfl))) ?_
  refine r_op rfl rfl rfl (run_add rfl (by exact rfl) (by exact rfl) (by omega) (by omega)) ?_
  refine r_op rfl rfl rfl (run_nc rfl (by exact rfl)) ?_
  refine r_op rfl rfl rfl (run_fa rfl (by exact rfl) fo_33_1) ?_
  refine r_store (v := .int _ _) (vs := [_]) (cs' := [_, _]) (by exact rfl) (by exact rfl) hb ty_3 (by exact rfl) rfl (by exact rfl) rfl (by exact rfl) ?_
  intro w7 hEw7 hzw7 hb_new
  have hs_w7 := (hEw7).size
  replace hV := evo_step1 hV hEw7 (.inr (by simp))
  replace hb := hb_new
  have hAs := hb.at
  clear hb_new
  refine r_nil ?_
  refine r_seq ?_
  refine r_region ?_
  refine r_op rfl rfl rfl (run_mv (v := .int _ _) rfl (by exact rfl)) ?_
  refine r_op rfl rfl rfl (run_mv (v := .int _ _) rfl (by exact rfl)) ?_
  refine r_opcall rfl rfl rfl (run_callf (vs := [.int _ _, .int _ _]) rfl (by exact rfl) Tryz.func8 rfl (by kernel_rfl)) (iplace_calls _ _ (by omega) (by omega)) ?_
  rintro e w8 ⟨rfl, rfl⟩
  refine ⟨_, rfl, ?_⟩
  refine r_op rfl rfl rfl (run_asg (v := .int _ _) rfl (by exact rfl)) ?_
  refine r_nil ?_
  refine r_ret (res1 (v := .int _ _) rfl (by exact rfl)) ?_
  exact ⟨ret_int (by first | rfl | (unfold nextL; simp [List.getD, List.getElem?_eq_none (by omega : l.length ≤ N)]; done)), hV, hb⟩
 ·skip
  refine r_skip ?_
  refine r_seq ?_
  refine r_region ?_
  refine r_op rfl rfl rfl (run_mv (v := .pointer _) rfl (by exact rfl)) ?_
  refine r_op rfl rfl rfl (run_nc rfl (by exact rfl)) ?_
  refine r_op rfl rfl rfl (run_fa rfl (by exact rfl) fo_33_1) ?_
  refine r_op rfl rfl rfl (run_ld1 rfl ag_3 (by exact rfl) (hAs.cell 1 (by exact rfl))) ?_
  refine r_op rfl rfl rfl (run_add rfl (by exact rfl) (by exact rfl) (by omega) (by omega)) ?_
  refine r_op rfl rfl rfl (run_nc rfl (by exact rfl)) ?_
  refine r_op rfl rfl rfl (run_fa rfl (by exact rfl) fo_33_1) ?_
  refine r_store (v := .int _ _) (vs := [_]) (cs' := [_, _]) (by exact rfl) (by exact rfl) hb ty_3 (by exact rfl) rfl (by exact rfl) rfl (by exact rfl) ?_
  intro w9 hEw9 hzw9 hb_new
  have hs_w9 := (hEw9).size
  replace hV := evo_step1 hV hEw9 (.inr (by simp))
  replace hb := hb_new
  have hAs := hb.at
  clear hb_new
  refine r_nil ?_
  refine r_seq ?_
  refine r_region ?_
  refine r_op rfl rfl rfl (run_mv (v := .int _ _) rfl (by exact rfl)) ?_
  refine r_op rfl rfl rfl (run_mv (v := .int _ _) rfl (by exact rfl)) ?_
  refine r_opcall rfl rfl rfl (run_callf (vs := [.int _ _, .int _ _]) rfl (by exact rfl) Tryz.func8 rfl (by kernel_rfl)) (iplace_calls _ _ (by omega) (by omega)) ?_
  rintro e w10 ⟨rfl, rfl⟩
  refine ⟨_, rfl, ?_⟩
  refine r_op rfl rfl rfl (run_asg (v := .int _ _) rfl (by exact rfl)) ?_
  refine r_nil ?_
  refine r_ret (res1 (v := .int _ _) rfl (by exact rfl)) ?_
  exact ⟨ret_int (by first | rfl | (unfold nextL; simp [List.getD, List.getElem?_eq_none (by omega : l.length ≤ N)]; done)), hV, hb⟩
theorem inx_calls {w0 : World} {T bs : Nat} {ao : Option Addr} {b off cap : Nat} {l : List Int} {N : Nat} {n : Int} (hb : Blk w0 bs T [.slice ao l.length cap, .int .i64 (N : Nat)]) (hl : RowE w0 ao b off cap l) (hN : N ≤ 1000000) (hn : 1 ≤ n) (hn2 : n ≤ 1000000000) :
    Calls Tryz.prog 16 #[.pointer (some ⟨bs, 0, none⟩), .int .i64 n] w0 fun e w' => ∃ r, e = .returned (.int .i64 r) ∧ (0 ≤ r ∧ r < n) ∧ Evo w0 w' [bs] ∧ Blk w' bs T [.slice ao l.length cap, .int .i64 (N + 1 : Nat)] :=
  (inext_calls hb hl hN hn hn2).mono fun e w' ⟨h1, h2, h3⟩ => ⟨_, h1, nextL_bd l N n hn, h2, h3⟩
def wordsL : List Str := [[114, 101, 100], [99, 97, 114], [82, 101, 100], [97], [99, 97, 114, 115], [49, 44, 53], [50, 50], [100, 111, 110, 39, 116], [46], [33], [32], [32, 32], [60], [38], [123], [34], [92], [120, 45, 121], [10], [61], [125], [62], [9], [98]]
theorem iwords_bd (j : Nat) : (wordsL.getD j default).length ≤ 5 := by
  rcases Nat.lt_or_ge j 24 with h | h
  · have : ∀ j, j < 24 → (wordsL.getD j default).length ≤ 5 := by decide
    exact this j h
  · have e : wordsL.getD j default = [] := by simp [List.getD, List.getElem?_eq_none (show wordsL.length ≤ j from h)]; rfl
    rw [e]; simp
theorem word_calls {T bs : Nat} {ao : Option Addr} {b off cap : Nat} {l : List Int} {N : Nat} {w0 : World} (hb : Blk w0 bs T [.slice ao l.length cap, .int .i64 (N : Nat)]) (hl : ∀ w', Evo w0 w' [bs] → RowE w' ao b off cap l) (hN : N ≤ 900000) :
    Calls Tryz.prog 49 #[.pointer (some ⟨bs, 0, none⟩)] w0 fun e w' => ∃ t : Str, ∃ N', e = .returned (S t) ∧ t.length ≤ 5 ∧ (N ≤ N' ∧ N' ≤ N + 1) ∧ Evo w0 w' [bs] ∧ Blk w' bs T [.slice ao l.length cap, .int .i64 (N' : Nat)] := by
 have hAs := hb.at; have hbslt := hb.lt
 refine calls_enter (n := 8) (args := [.pointer (some ⟨bs, 0, none⟩)]) Tryz.func49 rfl Tryz.ntmps49 rfl ?_
 have hV : Evo w0 w0 [bs] := Evo.refl _ _
 have hl0 := hl
 replace hl := hl0 _ hV
 have hbd_hl := hl.bd
 refine r_seq ?_
 refine r_region ?_
 refine r_op rfl rfl rfl (run_asg (v := S _) rfl (by exact rfl)) ?_
 refine r_nil ?_
 refine r_seq ?_
 refine r_region ?_
 refine r_bslice (pv := [(0, S _), (1, S _), (2, S _), (3, S _), (4, S _), (5, S _), (6, S _), (7, S _), (8, S _), (9, S _), (10, S _), (11, S _), (12, S _), (13, S _), (14, S _), (15, S _), (16, S _), (17, S _), (18, S _), (19, S _), (20, S _), (21, S _), (22, S _), (23, S _)]) (zs := [_]) (cs := [_, _, _, _, _, _, _, _, _, _, _, _, _, _, _, _, _, _, _, _, _, _, _, _]) Tryz.underlying81 ty_9 (by exact rfl) rfl (by exact rfl) rfl (by exact rfl) ?_
 intro b1 w2 heb1 hEw2 hbb1 hzb1
 have hs_w2 := (hEw2).size
 replace hV := evo_step0 hV hEw2
 replace hb := hb.evo0 hEw2
 replace hAs := hAs.evo0 hEw2
 replace hl := hl0 _ hV
 have hAb1 := hbb1.at
 have hrb1 : RowE w2 (some ⟨b1, 0, none⟩) b1 0 24 wordsL := rowLit wordsL hbb1 rfl rfl
 refine r_op rfl rfl rfl (run_mv (v := .pointer _) rfl (by exact rfl)) ?_
 refine r_opcall rfl rfl rfl (run_callf (vs := [.pointer _, .int _ _]) rfl (by exact rfl) Tryz.func16 rfl (by kernel_rfl)) (inx_calls hb hl (by omega) (by omega) (by omega)) ?_
 rintro e w3 ⟨nx3, rfl, hx3, hE3, hn3⟩
 refine ⟨_, rfl, ?_⟩
 have hs_w3 := (hE3).size
 replace hV := evo_step1 hV hE3 (.inr (by simp))
 replace hl := hl0 _ hV
 replace hrb1 := hrb1.evo hE3 (by simp; omega)
 replace hb := hn3
 clear hn3
 have hAs := hb.at
 refine r_op rfl rfl rfl (run_ix (nx3.toNat) rfl Tryz.underlying81 ty_9 (by exact rfl) (by exact rfl) (by omega) (by show _ < 24; omega) (hrb1.addr (i := nx3.toNat) (by show _ < 24; omega))) ?_
 have hA4 := hrb1.atD (nx3.toNat) (by show _ < 24; omega)
 refine r_op rfl rfl rfl (run_ld1 rfl ag_9 (by exact rfl) (hA4.cell 0 (by exact rfl))) ?_
 refine r_op rfl rfl rfl (run_asg (v := S _) rfl (by exact rfl)) ?_
 refine r_nil ?_
 refine r_ret (res1 (v := S _) rfl (by exact rfl)) ?_
 exact ⟨_, N + 1, rfl, iwords_bd _, by omega, hV, hb⟩
theorem line_calls {T bs : Nat} {ao : Option Addr} {b off cap : Nat} {l : List Int} {N : Nat} {n : Int} {w0 : World} (hb : Blk w0 bs T [.slice ao l.length cap, .int .i64 (N : Nat)]) (hl : ∀ w', Evo w0 w' [bs] → RowE w' ao b off cap l) (hN : N ≤ 800000) (hn0 : 0 ≤ n) (hn3 : n ≤ 3) (hbs : bs < w0.heap.size) :
    Calls Tryz.prog 29 #[.pointer (some ⟨bs, 0, none⟩), .int .i64 n] w0 fun e w' => ∃ t : Str, ∃ N', e = .returned (S t) ∧ t.length ≤ 18 ∧ (N ≤ N' ∧ N' ≤ N + 7) ∧ Evo w0 w' [bs] ∧ Blk w' bs T [.slice ao l.length cap, .int .i64 (N' : Nat)] := by
 have hAs := hb.at; have hbslt := hb.lt
 refine calls_enter (n := 31) (args := [.pointer (some ⟨bs, 0, none⟩), .int .i64 n]) Tryz.func29 rfl Tryz.ntmps29 rfl ?_
 have hV : Evo w0 w0 [bs] := Evo.refl _ _
 have hl0 := hl
 replace hl := hl0 _ hV
 have hbd_hl := hl.bd
 refine r_seq ?_
 refine r_region ?_
 refine r_op rfl rfl rfl (run_asg (v := S _) rfl (by exact rfl)) ?_
 refine r_nil ?_
 refine r_seq ?_
 refine r_region ?_
 refine r_op rfl rfl rfl (run_asg (v := S _) rfl (by exact rfl)) ?_
 refine r_nil ?_
 refine r_seq ?_
 refine r_seq ?_
 refine r_region ?_
 refine r_op rfl rfl rfl (run_mv (v := .pointer _) rfl (by exact rfl)) ?_
 refine r_op rfl rfl rfl (run_mv (v := .int _ _) rfl (by exact rfl)) ?_
 refine r_op rfl rfl rfl (run_add rfl (by exact rfl) (by exact rfl) (by omega) (by omega)) ?_
 refine r_opcall rfl rfl rfl (run_callf (vs := [.pointer _, .int _ _]) rfl (by exact rfl) Tryz.func16 rfl (by kernel_rfl)) (inx_calls hb hl (by omega) (by omega) (by omega)) ?_
 rintro e w1 ⟨nx1, rfl, hx1, hE1, hn1⟩
 refine ⟨_, rfl, ?_⟩
 have hs_w1 := (hE1).size
 replace hV := evo_step1 hV hE1 (.inr (by simp))
 replace hl := hl0 _ hV
 replace hb := hn1
 clear hn1
 have hAs := hb.at
 refine r_op rfl rfl rfl (run_asg (v := .int _ _) rfl (by exact rfl)) ?_
 refine r_nil ?_
 refine r_block ?_
 refine r_loop (α := Nat) [5, 6, 7, 12, 13, 14, 15, 16, 17, 18, 19, 20, 21, 22, 23, 24, 25, 26, 27, 28, 29] (fun i g w => ∃ t : Str, ∃ N1 : Nat, g 6 = .int .i64 (i : Nat) ∧ g 5 = S t ∧ Blk w bs T [.slice ao l.length cap, .int .i64 (N1 : Nat)] ∧ At w bs 0 [.slice ao l.length cap, .int .i64 (N1 : Nat)] ∧ (N + 1 ≤ N1 ∧ N1 + 2 * i ≤ N + 7) ∧ (t.length + 6 * i ≤ 18) ∧ w1.heap.size ≤ w.heap.size ∧ Evo w0 w [bs]) (fun i => i) nx1.toNat ?_ ?_
 ·refine ⟨[], _, (congrArg (Value.int _) (by omega)), rfl, hb, hb.at, (by first | assumption | omega | (dsimp only; omega) | (simp; done)), (by simp; omega), (by first | assumption | omega | (dsimp only; omega) | (simp; done)), hV⟩
 ·rintro i g w3 ⟨t, N1, hj4, hj5, hb, hAs, hN1, htl, hzl2, hV⟩
  have hs_w3hV := hV.size
  have hlt6 := hb.lt
  replace hl := hl0 _ hV
  refine r_know (i := 6) (v := .int .i64 (i : Nat)) (by exact hj4) ?_
  refine r_know (i := 5) (v := S t) (by exact hj5) ?_
  refine r_seq ?_
  refine r_seq ?_
  refine r_region ?_
  refine r_op rfl rfl rfl (run_mv (v := .int _ _) rfl (by exact rfl)) ?_
  refine r_op rfl rfl rfl (run_gtr rfl (by exact rfl) (by exact rfl)) ?_
  refine r_nil ?_
  refine r_cond (by exact rfl) (fun hc7 => ?_) (fun hc7 => ?_)
  ·skip
   refine r_skip ?_
   refine r_seq ?_
   refine r_block ?_
   refine r_seq ?_
   refine r_region ?_
   refine r_op rfl rfl rfl (run_mv (v := .pointer _) rfl (by exact rfl)) ?_
   refine r_opcall rfl rfl rfl (run_callf (vs := [.pointer _]) rfl (by exact rfl) Tryz.func49 rfl (by kernel_rfl)) (word_calls hb (fun w9 h9 => hl0 _ (Evo.trans hV h9 (fun x hx _ => hx))) (by omega)) ?_
   rintro e w8 ⟨tw8, Nw8, rfl, htw8, hNw8, hE8, hn8⟩
   refine ⟨_, rfl, ?_⟩
   have hs_w8 := (hE8).size
   replace hV := evo_step1 hV hE8 (.inr (by simp))
   replace hl := hl0 _ hV
   replace hb := hn8
   clear hn8
   have hAs := hb.at
   refine r_op rfl rfl rfl (run_asg (v := S _) rfl (by exact rfl)) ?_
   refine r_nil ?_
   refine r_seq ?_
   refine r_seq ?_
   refine r_region ?_
   refine r_op rfl rfl rfl (run_mv (v := S _) rfl (by exact rfl)) ?_
   refine r_op rfl rfl rfl (run_sneq rfl (by exact rfl) (by exact rfl)) ?_
   refine r_op rfl rfl rfl (run_mv (v := .bool _) rfl (by exact rfl)) ?_
   refine r_g rfl (wantT (by exact rfl)) rfl (fun hg => run_mv (v := .pointer _) rfl (by exact rfl)) ?_
   refine r_gnext rfl (wantT (by exact rfl)) rfl (fun hg => run_callf rfl (argcons (v := .pointer _) (glv (by exact rfl) (fun h => h) hg) (argcons (v := .int _ _) (by exact rfl) (rfl))) Tryz.func16 rfl (by kernel_rfl)) (fun hg => (inx_calls hb hl (by omega) (by omega) (by omega))) hb ?_
   intro nx10 w9 Ng10 hx10 hE10 hna10 hnb10 hbn
   have hs_w9 := (hE10).size
   replace hV := evo_step1 hV hE10 (.inr (by simp))
   replace hl := hl0 _ hV
   replace hb := hbn
   clear hbn
   have hAs := hb.at
   refine r_g rfl (wantT (by exact rfl)) rfl (fun hg => run_gtr rfl (glv (by exact rfl) (fun h => h) hg) (by exact rfl)) ?_
   refine r_op rfl rfl rfl (run_pick_and rfl (by exact rfl) (fun hq => glv (by exact rfl) (fun h => h) hq) rfl) ?_
   refine r_nil ?_
   refine r_cond (by exact rfl) (fun hc11 => ?_) (fun hc11 => ?_)
   ·skip
    refine r_region ?_
    refine r_op rfl rfl rfl (run_mv (v := S _) rfl (by exact rfl)) ?_
    refine r_op rfl rfl rfl (run_sadd rfl (by exact rfl) (by exact rfl) (by first | omega | (simp; done) | (simp; omega))) ?_
    refine r_op rfl rfl rfl (run_asg (v := S _) rfl (by exact rfl)) ?_
    refine r_nil ?_
    refine r_region ?_
    refine r_op rfl rfl rfl (run_mv (v := S _) rfl (by exact rfl)) ?_
    refine r_op rfl rfl rfl (run_mv (v := S _) rfl (by exact rfl)) ?_
    refine r_op rfl rfl rfl (run_sadd rfl (by exact rfl) (by exact rfl) (by first | omega | (simp; done) | (simp; omega))) ?_
    refine r_op rfl rfl rfl (run_asg (v := S _) rfl (by exact rfl)) ?_
    refine r_nil ?_
    refine r_blk ?_
    refine r_region ?_
    refine r_op rfl rfl rfl (run_mv (v := .int _ _) rfl (by exact rfl)) ?_
    refine r_op rfl rfl rfl (run_sub rfl (by exact rfl) (by exact rfl) (by omega) (by omega)) ?_
    refine r_op rfl rfl rfl (run_asg (v := .int _ _) rfl (by exact rfl)) ?_
    refine r_nil ?_
    refine r_again (i - 1) ?_ ?_ ?_
    ·first | omega | (dsimp only; omega)
    ·refine ⟨_, _, (by first | exact rfl | exact congrArg (Value.int _) (by omega) | exact congrArg (Value.int _) (by dsimp only; omega) | exact congrArg (Value.int _) (by simp) | exact congrArg S (by simp)), rfl, hb, hb.at, (by first | assumption | omega | (dsimp only; omega) | (simp; done)), (by first | omega | (simp; omega)), (by first | assumption | omega | (dsimp only; omega) | (simp; done)), hV⟩
    ·repeat (first | (with_reducible exact Agree.merge _ _ _) | (with_reducible exact Agree.refl _ _) | (with_reducible refine Agree.upd ?_ _ _ rfl) | ((with_reducible refine Agree.inner ?_ ?_); (kernel_rfl)))
   ·skip
    refine r_skip ?_
    refine r_region ?_
    refine r_op rfl rfl rfl (run_mv (v := S _) rfl (by exact rfl)) ?_
    refine r_op rfl rfl rfl (run_mv (v := S _) rfl (by exact rfl)) ?_
    refine r_op rfl rfl rfl (run_sadd rfl (by exact rfl) (by exact rfl) (by first | omega | (simp; done) | (simp; omega))) ?_
    refine r_op rfl rfl rfl (run_asg (v := S _) rfl (by exact rfl)) ?_
    refine r_nil ?_
    refine r_blk ?_
    refine r_region ?_
    refine r_op rfl rfl rfl (run_mv (v := .int _ _) rfl (by exact rfl)) ?_
    refine r_op rfl rfl rfl (run_sub rfl (by exact rfl) (by exact rfl) (by omega) (by omega)) ?_
    refine r_op rfl rfl rfl (run_asg (v := .int _ _) rfl (by exact rfl)) ?_
    refine r_nil ?_
    refine r_again (i - 1) ?_ ?_ ?_
    ·first | omega | (dsimp only; omega)
    ·refine ⟨_, _, (by first | exact rfl | exact congrArg (Value.int _) (by omega) | exact congrArg (Value.int _) (by dsimp only; omega) | exact congrArg (Value.int _) (by simp) | exact congrArg S (by simp)), rfl, hb, hb.at, (by first | assumption | omega | (dsimp only; omega) | (simp; done)), (by first | omega | (simp; omega)), (by first | assumption | omega | (dsimp only; omega) | (simp; done)), hV⟩
    ·repeat (first | (with_reducible exact Agree.merge _ _ _) | (with_reducible exact Agree.refl _ _) | (with_reducible refine Agree.upd ?_ _ _ rfl) | ((with_reducible refine Agree.inner ?_ ?_); (kernel_rfl)))
  ·skip
   refine r_exit rfl ?_
   refine r_seq ?_
   refine r_region ?_
   refine r_op rfl rfl rfl (run_mv (v := S _) rfl (by exact rfl)) ?_
   refine r_op rfl rfl rfl (run_asg (v := S _) rfl (by exact rfl)) ?_
   refine r_nil ?_
   refine r_ret (res1 (v := S _) rfl (by exact rfl)) ?_
   exact ⟨_, N1, rfl, by omega, by omega, hV, hb⟩
theorem rconcat_calls {aoa aob : Option Addr} {ba offa capa bb offb capb : Nat} {a b : List Vc.Item} {w0 : World} (ha : RowE w0 aoa ba offa capa a) (hb : RowE w0 aob bb offb capb b) (hsm : Small (a ++ b)) :
    Calls Tryz.prog 31 #[.slice aoa a.length capa, .slice aob b.length capb] w0 fun e w' => ∃ v, e = .returned v ∧ Evo w0 w' [] ∧ OwnE w' w0.heap.size 45 v (normL (a ++ b)) := by
 have hs9 := hsm.1; rw [List.length_append] at hs9
 refine calls_enter (n := 10) (args := [.slice aoa a.length capa, .slice aob b.length capb]) Tryz.func31 rfl Tryz.ntmps31 rfl ?_
 have hV : Evo w0 w0 [] := Evo.refl _ _
 have ha0 := keepE ha
 have hbd_ha := ha.bd
 have hb0 := keepE hb
 have hbd_hb := hb.bd
 refine r_seq ?_
 refine r_region ?_
 refine r_op rfl rfl rfl (run_asg (v := .slice _ _ _) rfl (by exact rfl)) ?_
 refine r_nil ?_
 refine r_seq ?_
 refine r_region ?_
 refine r_op rfl rfl rfl (run_mv (v := .slice _ _ _) rfl (by exact rfl)) ?_
 refine r_appendE rfl Tryz.underlying46 ty_45 (by exact rfl) (OwnE.nil (α := Vc.Item) _ w0.heap.size _) (by exact rfl) (by exact rfl) ha rfl ((by simp; omega)) ((by simp; omega)) (by omega) ?_
 intro v1 w2 hEw2 hov1 hlv1
 have hs_w2 := (hEw2).size
 replace hV := evo_step0 hV hEw2
 replace ha := ha0 _ hV
 replace hb := hb0 _ hV
 refine r_op rfl rfl rfl (run_mv (v := .slice _ _ _) rfl (by exact rfl)) ?_
 refine r_appendE rfl Tryz.underlying46 ty_45 (by exact rfl) hov1 (by exact rfl) (by exact rfl) hb rfl ((by simp; omega)) ((by simp; omega)) (by omega) ?_
 intro v3 w4 hEw4 hov3 hlv3
 have hs_w4 := (hEw4).size
 replace hV := evo_stepo hV hEw4 (fun g hg => .inl (by first | exact (hov1.block hg).1 | (have := hov1.block hg; omega)))
 replace ha := ha0 _ hV
 replace hb := hb0 _ hV
 obtain ⟨ao5, g5, cp5, hv5, hr5, hg5⟩ := hov3.rowOf
 subst hv5
 refine r_opcall rfl rfl rfl (run_callf (vs := [.slice _ _ _]) rfl (by exact rfl) Tryz.func50 rfl (by kernel_rfl)) (rnormalize_calls hr5 (by first | assumption | exact hsm | exact small_ren (by assumption))) ?_
 rintro e w6 ⟨vn6, rfl, hE6, hon6⟩
 refine ⟨_, rfl, ?_⟩
 have hs_w6 := (hE6).size
 replace hV := evo_step0 hV hE6
 replace ha := ha0 _ hV
 replace hb := hb0 _ hV
 replace hov3 := hov3.evo0 hE6
 replace hr5 := hr5.evo0 hE6
 refine r_op rfl rfl rfl (run_asg (v := vn6) rfl (by exact rfl)) ?_
 refine r_nil ?_
 refine r_ret (res1 (v := vn6) rfl (by exact rfl)) ?_
 exact ⟨_, rfl, hV, by have h9 := hon6; rw [List.nil_append] at h9; exact h9.base_le (by omega)⟩
end Go.Proofs.YthbcklajlmcifaaGreat
