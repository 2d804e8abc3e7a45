import Derived.Test.YtomklacppmaljaaX21
namespace Go.Proofs.Ytomklacppmaljaa
open Go.RowKit Go.Vc

theorem validate_calls {ao : Option Addr} {b off cap : Nat} {c : List Clas} {w0 : World} (hc : RowR w0 ao b off cap c) :
    Calls Try.prog 34 #[.slice ao c.length cap] w0 fun e w' => e = .returned (.int .i64 (validC c)) ∧ Evo w0 w' [] := by
 have hcb := clas_bd hc
 refine calls_enter (n := 51) (args := [.slice ao c.length cap]) Try.func34 rfl Try.ntmps34 rfl ?_
 have hV : Evo w0 w0 [] := Evo.refl _ _
 have hc0 := hc.keep
 have hbd_hc := hc.bd
 refine r_seq ?_
 refine r_region ?_
 refine r_op rfl rfl rfl (run_asg (v := .int _ _) rfl (by exact rfl)) ?_
 refine r_nil ?_
 refine r_seq ?_
 refine r_seq ?_
 refine r_region ?_
 refine r_op rfl rfl rfl (run_mv (v := .slice _ _ _) rfl (by exact rfl)) ?_
 refine r_op rfl rfl rfl (run_lenSl rfl (by exact rfl) Try.underlying22) ?_
 refine r_op rfl rfl rfl (run_gtr rfl (by exact rfl) (by exact rfl)) ?_
 refine r_nil ?_
 refine r_cond (by exact rfl) (fun hc1 => ?_) (fun hc1 => ?_)
 ·skip
  refine r_seq ?_
  refine r_region ?_
  refine r_op rfl rfl rfl (run_asg (v := .int _ _) rfl (by exact rfl)) ?_
  refine r_nil ?_
  refine r_ret (res1 (v := .int _ _) rfl (by exact rfl)) ?_
  exact ⟨ret_int (by unfold validC; rw [if_pos (by omega)]), hV⟩
 ·skip
  refine r_skip ?_
  refine r_seq ?_
  refine r_seq ?_
  refine r_region ?_
  refine r_op rfl rfl rfl (run_mv (v := .slice _ _ _) rfl (by exact rfl)) ?_
  refine r_op rfl rfl rfl (run_lenSl rfl (by exact rfl) Try.underlying22) ?_
  refine r_op rfl rfl rfl (run_mv (v := .int _ _) rfl (by exact rfl)) ?_
  refine r_nil ?_
  refine r_block ?_
  refine r_loop (α := Nat) [2, 3, 4, 5, 6, 7, 8, 14, 15, 16, 17, 18, 19, 20, 21, 22, 23, 24, 25, 26, 27, 28, 29, 30, 31, 32, 33, 34, 35, 36, 37, 38, 39, 40, 41, 42, 43, 44, 45, 46, 47, 48, 49, 50] (fun i g w => g 14 = .int .i64 (i : Nat) ∧ i ≤ c.length ∧ (∀ j, j < i → classErr c j = 0) ∧ w0.heap.size ≤ w.heap.size ∧ Evo w0 w []) (fun i => c.length - i) 0 ?_ ?_
  ·refine ⟨(by first | exact rfl | exact congrArg (Value.int _) (by omega) | exact congrArg (Value.int _) (by dsimp only; omega) | exact congrArg (Value.int _) (by simp) | exact congrArg S (by simp)), (by first | assumption | omega | (dsimp only; omega) | (simp; done)), (fun j h => by omega), (by first | assumption | omega | (dsimp only; omega) | (simp; done)), hV⟩
  ·rintro i g w3 ⟨hj4, hk_i, hno, hzl2, hV⟩
   have hs_w3hV := hV.size
   replace hc := hc0.now hV
   refine r_know (i := 14) (v := .int .i64 (i : Nat)) (by exact hj4) ?_
   refine r_seq ?_
   refine r_region ?_
   refine r_op rfl rfl rfl (run_lss rfl (by exact rfl) (by exact rfl)) ?_
   refine r_nil ?_
   refine r_seq ?_
   refine r_cond (by exact rfl) (fun hc5 => ?_) (fun hc5 => ?_)
   ·skip
    refine r_skip ?_
    refine r_seq ?_
    refine r_block ?_
    refine r_seq ?_
    refine r_region ?_
    refine r_op rfl rfl rfl (run_mv (v := .int _ _) rfl (by exact rfl)) ?_
    refine r_op rfl rfl rfl (run_ix (i) rfl Try.underlying22 ty_43 (by exact rfl) (by exact rfl) (by first | exact rfl | omega) (by omega) (hc.addr (i := i) (by omega))) ?_
    obtain ⟨ao6, b6, off6, cap6, hX⟩ := clas_atK hc0 (i) (by omega)
    have hA60 := fun (w' : World) (h : Evo w0 w' []) => (hX w' h).1
    have hA6 := hA60 _ hV
    have hR60 := fun (w' : World) (h : Evo w0 w' []) => (hX w' h).2
    have hR6 := hR60 _ hV
    clear hX
    have hbd_hR6 := hR6.bd
    refine r_op rfl rfl rfl (run_ldN rfl ag_43 ty_43 (by exact rfl) rfl hA6) ?_
    refine r_alloc (zs := [_, _]) ty_43 (by exact rfl) rfl ?_
    intro b7 w8 heb7 hEw8 hbb7 hzb7
    have hs_w8 := (hEw8).size
    replace hV := evo_step0 hV hEw8
    replace hc := hc0.now hV
    replace hA6 := hA60 _ hV
    replace hR6 := hR60 _ hV
    have hAb7 := hbb7.at
    refine r_op rfl rfl rfl (run_asg (v := .int _ _) rfl (by exact rfl)) ?_
    refine r_store (v := .agg _) (vs := [_, _]) (cs' := [_, _]) (by exact rfl) (by exact rfl) hbb7 ty_43 (by exact rfl) rfl (by exact rfl) rfl (by exact rfl) ?_
    intro w9 hEw9 hzw9 hb_new
    have hs_w9 := (hEw9).size
    replace hV := evo_step1 hV hEw9 (by first | exact .inl (by omega) | exact .inr (by simp))
    replace hc := hc0.now hV
    replace hR6 := hR60 _ hV
    replace hbb7 := hb_new
    have hAb7 := hbb7.at
    clear hb_new
    refine r_nil ?_
    refine r_seq ?_
    refine r_seq ?_
    refine r_qregion (by kernel_rfl) (by kernel_rfl) ?_
    refine q_op rfl rfl rfl (fun w' hC => run_mv (v := .slice _ _ _) rfl (by exact rfl)) ?_
    refine q_op rfl rfl rfl (fun w' hC => run_mv (v := .int _ _) rfl (by exact rfl)) ?_
    refine q_op rfl rfl rfl (fun w' hC => run_slR (0) (i) rfl Try.underlying22 ty_43 (by exact rfl) (hc.evo0 hC) lo0 (at1 (by exact rfl) (by omega)) (by first | omega | (simp; omega)) (by first | omega | (simp; omega)) List.drop_zero) ?_
    have hS100 := (by have h9 := (hc0.take (i)).drop (0); rw [List.drop_zero] at h9; exact h9)
    have hS10 := (by have h9 := (hc.take (i)).drop (0); rw [List.drop_zero] at h9; exact h9)
    have hbd_hS10 := hS10.bd
    refine q_op rfl rfl rfl (fun w' hC => run_fa rfl (by exact rfl) fo_43_0) ?_
    refine q_op rfl rfl rfl (fun w' hC => run_ld1 rfl ag_9 (by exact rfl) ((hAb7.evo0 hC).cell 0 (by exact rfl))) ?_
    refine q_call rfl rfl rfl (fun w' hC => run_callf rfl (argcons (v := .slice _ _ _) (by exact rfl) (argcons (v := S _) (by exact rfl) (rfl))) Try.func78 rfl (by kernel_rfl)) (fun w' hC => (named_calls (hS10.evo0 hC)).mono (fun e w'' h => ⟨h.1, evo_step0 hC h.2⟩)) ?_
    refine q_op rfl rfl rfl (fun w' hC => run_asg (v := .int _ _) rfl (by exact rfl)) ?_
    refine q_nil (fun w11 hE12 => ?_)
    have hs_w11 := (hE12).size
    replace hV := evo_step0 hV hE12
    replace hc := hc0.now hV
    replace hR6 := hR60 _ hV
    replace hbb7 := hbb7.evo0 hE12
    replace hAb7 := hAb7.evo0 hE12
    refine r_seq ?_
    refine r_region ?_
    refine r_op rfl rfl rfl (run_mv (v := .int _ _) rfl (by exact rfl)) ?_
    refine r_op rfl rfl rfl (run_neq rfl (by exact rfl) (by exact rfl)) ?_
    refine r_nil ?_
    refine r_cond (by exact rfl) (fun hc13 => ?_) (fun hc13 => ?_)
    ·skip
     refine r_seq ?_
     refine r_region ?_
     refine r_op rfl rfl rfl (run_mv (v := .int _ _) rfl (by exact rfl)) ?_
     refine r_op rfl rfl rfl (run_asg (v := .int _ _) rfl (by exact rfl)) ?_
     refine r_nil ?_
     refine r_ret (res1 (v := .int _ _) rfl (by exact rfl)) ?_
     exact ⟨ret_int (by rw [valid_at (by omega) hno (cls_named hc13) hc13 (by omega)]), hV⟩
    ·skip
     refine r_skip ?_
     refine r_seq ?_
     refine r_seq ?_
     refine r_region ?_
     refine r_op rfl rfl rfl (run_fa rfl (by exact rfl) fo_43_1) ?_
     refine r_op rfl rfl rfl (run_ld1 rfl ag_41 (by exact rfl) (hAb7.cell 1 (by exact rfl))) ?_
     refine r_op rfl rfl rfl (run_lenSl rfl (by exact rfl) Try.underlying41) ?_
     refine r_op rfl rfl rfl (run_gtr rfl (by exact rfl) (by exact rfl)) ?_
     refine r_nil ?_
     refine r_cond (by exact rfl) (fun hc14 => ?_) (fun hc14 => ?_)
     ·skip
      refine r_seq ?_
      refine r_region ?_
      refine r_op rfl rfl rfl (run_asg (v := .int _ _) rfl (by exact rfl)) ?_
      refine r_nil ?_
      refine r_ret (res1 (v := .int _ _) rfl (by exact rfl)) ?_
      exact ⟨ret_int (by rw [valid_at (by omega) hno (cls_many (Classical.not_not.1 (by assumption)) (by omega)) (by decide) (by omega)]), hV⟩
     ·skip
      refine r_skip ?_
      refine r_seq ?_
      refine r_region ?_
      refine r_op rfl rfl rfl (run_fa rfl (by exact rfl) fo_43_1) ?_
      refine r_op rfl rfl rfl (run_ld1 rfl ag_41 (by exact rfl) (hAb7.cell 1 (by exact rfl))) ?_
      refine r_op rfl rfl rfl (run_lenSl rfl (by exact rfl) Try.underlying41) ?_
      refine r_op rfl rfl rfl (run_mv (v := .int _ _) rfl (by exact rfl)) ?_
      refine r_nil ?_
      refine r_block ?_
      refine r_loop (α := Nat) [2, 6, 7, 8, 35, 36, 37, 38, 39, 40, 41, 42, 43, 44, 45, 46, 47, 48, 49] (fun k g w => g 35 = .int .i64 (k : Nat) ∧ k ≤ (c.getD i default).ends.length ∧ At w b7 0 [S (c.getD i default).name, .slice ao6 (c.getD i default).ends.length cap6] ∧ (∀ j, j < k → endedL ((c.getD i default).ends.take j) ((c.getD i default).ends.getD j default) = 0) ∧ w11.heap.size ≤ w.heap.size ∧ Evo w0 w []) (fun k => (c.getD i default).ends.length - k) 0 ?_ ?_
      ·refine ⟨(by first | exact rfl | exact congrArg (Value.int _) (by omega) | exact congrArg (Value.int _) (by dsimp only; omega) | exact congrArg (Value.int _) (by simp) | exact congrArg S (by simp)), (by first | assumption | omega | (dsimp only; omega) | (simp; done)), hAb7, (fun j h => by omega), (by first | assumption | omega | (dsimp only; omega) | (simp; done)), hV⟩
      ·rintro k g w16 ⟨hj17, hk_k, hAb7, hnk, hzl15, hV⟩
       have hs_w16hV := hV.size
       replace hc := hc0.now hV
       replace hA6 := hA60 _ hV
       replace hR6 := hR60 _ hV
       replace hS10 := hS100.now hV
       refine r_know (i := 35) (v := .int .i64 (k : Nat)) (by exact hj17) ?_
       have hbx := hcb _ (getD_in (show i < c.length by omega))
       refine r_seq ?_
       refine r_region ?_
       refine r_op rfl rfl rfl (run_lss rfl (by exact rfl) (by exact rfl)) ?_
       refine r_nil ?_
       refine r_seq ?_
       refine r_cond (by exact rfl) (fun hc18 => ?_) (fun hc18 => ?_)
       ·skip
        refine r_skip ?_
        refine r_seq ?_
        refine r_block ?_
        refine r_seq ?_
        refine r_region ?_
        refine r_op rfl rfl rfl (run_mv (v := .int _ _) rfl (by exact rfl)) ?_
        refine r_op rfl rfl rfl (run_ix (k) rfl Try.underlying41 ty_46 (by exact rfl) (by exact rfl) (by first | exact rfl | omega) (by omega) (hR6.addr (i := k) (by omega))) ?_
        have hA190 := fun (w' : World) (h : Evo w0 w' []) => (hR60 w' h).atD (k) (by omega)
        have hA19 := hA190 _ hV
        refine r_op rfl rfl rfl (run_ldN rfl ag_46 ty_46 (by exact rfl) rfl hA19) ?_
        refine r_alloc (zs := [_, _]) ty_46 (by exact rfl) rfl ?_
        intro b20 w21 heb20 hEw21 hbb20 hzb20
        have hs_w21 := (hEw21).size
        replace hV := evo_step0 hV hEw21
        replace hc := hc0.now hV
        replace hR6 := hR60 _ hV
        replace hAb7 := hAb7.evo0 hEw21
        replace hA19 := hA190 _ hV
        have hAb20 := hbb20.at
        refine r_op rfl rfl rfl (run_asg (v := .int _ _) rfl (by exact rfl)) ?_
        refine r_store (v := .agg _) (vs := [_, _]) (cs' := [_, _]) (by exact rfl) (by exact rfl) hbb20 ty_46 (by exact rfl) rfl (by exact rfl) rfl (by exact rfl) ?_
        intro w22 hEw22 hzw22 hb_new
        have hs_w22 := (hEw22).size
        replace hV := evo_step1 hV hEw22 (by first | exact .inl (by omega) | exact .inr (by simp))
        replace hc := hc0.now hV
        replace hR6 := hR60 _ hV
        replace hAb7 := hAb7.evo hEw22 (by simp; omega)
        replace hbb20 := hb_new
        have hAb20 := hbb20.at
        clear hb_new
        refine r_nil ?_
        refine r_seq ?_
        have hbk := hbx.2.1 _ (getD_in (show k < (c.getD i default).ends.length by omega))
        refine r_qregion (by kernel_rfl) (by kernel_rfl) ?_
        refine q_op rfl rfl rfl (fun w' hC => run_fa rfl (by exact rfl) fo_43_1) ?_
        refine q_op rfl rfl rfl (fun w' hC => run_ld1 rfl ag_41 (by exact rfl) ((hAb7.evo0 hC).cell 1 (by exact rfl))) ?_
        refine q_op rfl rfl rfl (fun w' hC => run_mv (v := .int _ _) rfl (by exact rfl)) ?_
        refine q_op rfl rfl rfl (fun w' hC => run_slE (0) (k) rfl Try.underlying41 ty_46 (by exact rfl) (hR6.evo0 hC) lo0 (at1 (by exact rfl) (by omega)) (by first | omega | (simp; omega)) (by first | omega | (simp; omega)) List.drop_zero) ?_
        have hS230 := fun (w' : World) (h : Evo w0 w' []) => (by have h9 := ((hR60 w' h).take (k)).drop (0); rw [List.drop_zero] at h9; exact h9)
        have hS23 := (by have h9 := (hR6.take (k)).drop (0); rw [List.drop_zero] at h9; exact h9)
        have hbd_hS23 := hS23.bd
        refine q_op rfl rfl rfl (fun w' hC => run_ldN rfl ag_46 ty_46 (by exact rfl) rfl (hAb20.evo0 hC)) ?_
        refine q_call rfl rfl rfl (fun w' hC => run_callf rfl (argcons (v := .slice _ _ _) (by exact rfl) (argcons (v := .agg _) (by exact rfl) (rfl))) Try.func79 rfl (by kernel_rfl)) (fun w' hC => (ending_calls (hS23.evo0 hC) (Nat.le_trans hbk.1 (by decide)) (Nat.le_trans hbk.2 (by decide))).mono (fun e w'' h => ⟨h.1, evo_step0 hC h.2⟩)) ?_
        refine q_op rfl rfl rfl (fun w' hC => run_asg (v := .int _ _) rfl (by exact rfl)) ?_
        refine q_nil (fun w24 hE25 => ?_)
        have hs_w24 := (hE25).size
        replace hV := evo_step0 hV hE25
        replace hc := hc0.now hV
        replace hR6 := hR60 _ hV
        replace hAb7 := hAb7.evo0 hE25
        refine r_seq ?_
        refine r_region ?_
        refine r_op rfl rfl rfl (run_mv (v := .int _ _) rfl (by exact rfl)) ?_
        refine r_op rfl rfl rfl (run_neq rfl (by exact rfl) (by exact rfl)) ?_
        refine r_nil ?_
        refine r_cond (by exact rfl) (fun hc26 => ?_) (fun hc26 => ?_)
        ·skip
         refine r_seq ?_
         refine r_region ?_
         refine r_op rfl rfl rfl (run_mv (v := .int _ _) rfl (by exact rfl)) ?_
         refine r_op rfl rfl rfl (run_asg (v := .int _ _) rfl (by exact rfl)) ?_
         refine r_nil ?_
         refine r_ret (res1 (v := .int _ _) rfl (by exact rfl)) ?_
         exact ⟨ret_int (by rw [valid_at (by omega) hno ((cls_ends (Classical.not_not.1 (by assumption)) (by omega)).trans (ends_err hnk hc26 (by omega))) hc26 (by omega)]), hV⟩
        ·skip
         refine r_skip ?_
         refine r_blk ?_
         refine r_region ?_
         refine r_op rfl rfl rfl (run_add rfl (by exact rfl) (by exact rfl) (by omega) (by omega)) ?_
         refine r_op rfl rfl rfl (run_mv (v := .int _ _) rfl (by exact rfl)) ?_
         refine r_nil ?_
         refine r_again (k + 1) ?_ ?_ ?_
         ·first | omega | (dsimp only; omega)
         ·refine ⟨(by first | exact rfl | exact congrArg (Value.int _) (by omega) | exact congrArg (Value.int _) (by dsimp only; omega) | exact congrArg (Value.int _) (by simp) | exact congrArg S (by simp)), (by first | assumption | omega | (dsimp only; omega) | (simp; done)), hAb7, (upto0 hnk (Classical.not_not.1 hc26)), (by first | assumption | omega | (dsimp only; omega) | (simp; done)), hV⟩
         ·repeat (first | (with_reducible exact Agree.merge _ _ _) | (with_reducible exact Agree.refl _ _) | (with_reducible refine Agree.upd ?_ _ _ rfl) | ((with_reducible refine Agree.inner ?_ ?_); (kernel_rfl)))
       ·skip
        refine r_exit rfl ?_
        refine r_blk ?_
        refine r_region ?_
        refine r_op rfl rfl rfl (run_add rfl (by exact rfl) (by exact rfl) (by omega) (by omega)) ?_
        refine r_op rfl rfl rfl (run_mv (v := .int _ _) rfl (by exact rfl)) ?_
        refine r_nil ?_
        refine r_again (i + 1) ?_ ?_ ?_
        ·first | omega | (dsimp only; omega)
        ·refine ⟨(by first | exact rfl | exact congrArg (Value.int _) (by omega) | exact congrArg (Value.int _) (by dsimp only; omega) | exact congrArg (Value.int _) (by simp) | exact congrArg S (by simp)), (by first | assumption | omega | (dsimp only; omega) | (simp; done)), (upto0 hno ((cls_ends (Classical.not_not.1 (by assumption)) (by omega)).trans (ends_ok hnk (by omega)))), (by first | assumption | omega | (dsimp only; omega) | (simp; done)), hV⟩
        ·repeat (first | (with_reducible exact Agree.merge _ _ _) | (with_reducible exact Agree.refl _ _) | (with_reducible refine Agree.upd ?_ _ _ rfl) | ((with_reducible refine Agree.inner ?_ ?_); (kernel_rfl)))
   ·skip
    refine r_exit rfl ?_
    refine r_seq ?_
    refine r_region ?_
    refine r_op rfl rfl rfl (run_asg (v := .int _ _) rfl (by exact rfl)) ?_
    refine r_nil ?_
    refine r_ret (res1 (v := .int _ _) rfl (by exact rfl)) ?_
    exact ⟨ret_int (by rw [valid_ok (by omega) hno (by omega)]), hV⟩

theorem rvalidate_calls {ao : Option Addr} {b off cap : Nat} {c : List Clas} {w0 : World} (hc : RowR w0 ao b off cap c) :
    Calls Try.prog 35 #[.slice ao c.length cap] w0 fun e w' => e = .returned (.int .i64 (validC c)) ∧ Evo w0 w' [] := by
 have hcb := clas_bd hc
 refine calls_enter (n := 51) (args := [.slice ao c.length cap]) Try.func35 rfl Try.ntmps35 rfl ?_
 have hV : Evo w0 w0 [] := Evo.refl _ _
 have hc0 := hc.keep
 have hbd_hc := hc.bd
 refine r_seq ?_
 refine r_region ?_
 refine r_op rfl rfl rfl (run_asg (v := .int _ _) rfl (by exact rfl)) ?_
 refine r_nil ?_
 refine r_seq ?_
 refine r_seq ?_
 refine r_region ?_
 refine r_op rfl rfl rfl (run_mv (v := .slice _ _ _) rfl (by exact rfl)) ?_
 refine r_op rfl rfl rfl (run_lenSl rfl (by exact rfl) Try.underlying22) ?_
 refine r_op rfl rfl rfl (run_gtr rfl (by exact rfl) (by exact rfl)) ?_
 refine r_nil ?_
 refine r_cond (by exact rfl) (fun hc1 => ?_) (fun hc1 => ?_)
 ·skip
  refine r_seq ?_
  refine r_region ?_
  refine r_op rfl rfl rfl (run_asg (v := .int _ _) rfl (by exact rfl)) ?_
  refine r_nil ?_
  refine r_ret (res1 (v := .int _ _) rfl (by exact rfl)) ?_
  exact ⟨ret_int (by unfold validC; rw [if_pos (by omega)]), hV⟩
 ·skip
  refine r_skip ?_
  refine r_seq ?_
  refine r_seq ?_
  refine r_region ?_
  refine r_op rfl rfl rfl (run_mv (v := .slice _ _ _) rfl (by exact rfl)) ?_
  refine r_op rfl rfl rfl (run_lenSl rfl (by exact rfl) Try.underlying22) ?_
  refine r_op rfl rfl rfl (run_mv (v := .int _ _) rfl (by exact rfl)) ?_
  refine r_nil ?_
  refine r_block ?_
  refine r_loop (α := Nat) [2, 3, 4, 5, 6, 7, 8, 14, 15, 16, 17, 18, 19, 20, 21, 22, 23, 24, 25, 26, 27, 28, 29, 30, 31, 32, 33, 34, 35, 36, 37, 38, 39, 40, 41, 42, 43, 44, 45, 46, 47, 48, 49, 50] (fun i g w => g 14 = .int .i64 (i : Nat) ∧ i ≤ c.length ∧ (∀ j, j < i → classErr c j = 0) ∧ w0.heap.size ≤ w.heap.size ∧ Evo w0 w []) (fun i => c.length - i) 0 ?_ ?_
  ·refine ⟨(by first | exact rfl | exact congrArg (Value.int _) (by omega) | exact congrArg (Value.int _) (by dsimp only; omega) | exact congrArg (Value.int _) (by simp) | exact congrArg S (by simp)), (by first | assumption | omega | (dsimp only; omega) | (simp; done)), (fun j h => by omega), (by first | assumption | omega | (dsimp only; omega) | (simp; done)), hV⟩
  ·rintro i g w3 ⟨hj4, hk_i, hno, hzl2, hV⟩
   have hs_w3hV := hV.size
   replace hc := hc0.now hV
   refine r_know (i := 14) (v := .int .i64 (i : Nat)) (by exact hj4) ?_
   refine r_seq ?_
   refine r_region ?_
   refine r_op rfl rfl rfl (run_lss rfl (by exact rfl) (by exact rfl)) ?_
   refine r_nil ?_
   refine r_seq ?_
   refine r_cond (by exact rfl) (fun hc5 => ?_) (fun hc5 => ?_)
   ·skip
    refine r_skip ?_
    refine r_seq ?_
    refine r_block ?_
    refine r_seq ?_
    refine r_region ?_
    refine r_op rfl rfl rfl (run_mv (v := .int _ _) rfl (by exact rfl)) ?_
    refine r_op rfl rfl rfl (run_ix (i) rfl Try.underlying22 ty_43 (by exact rfl) (by exact rfl) (by first | exact rfl | omega) (by omega) (hc.addr (i := i) (by omega))) ?_
    obtain ⟨ao6, b6, off6, cap6, hX⟩ := clas_atK hc0 (i) (by omega)
    have hA60 := fun (w' : World) (h : Evo w0 w' []) => (hX w' h).1
    have hA6 := hA60 _ hV
    have hR60 := fun (w' : World) (h : Evo w0 w' []) => (hX w' h).2
    have hR6 := hR60 _ hV
    clear hX
    have hbd_hR6 := hR6.bd
    refine r_op rfl rfl rfl (run_ldN rfl ag_43 ty_43 (by exact rfl) rfl hA6) ?_
    refine r_alloc (zs := [_, _]) ty_43 (by exact rfl) rfl ?_
    intro b7 w8 heb7 hEw8 hbb7 hzb7
    have hs_w8 := (hEw8).size
    replace hV := evo_step0 hV hEw8
    replace hc := hc0.now hV
    replace hA6 := hA60 _ hV
    replace hR6 := hR60 _ hV
    have hAb7 := hbb7.at
    refine r_op rfl rfl rfl (run_asg (v := .int _ _) rfl (by exact rfl)) ?_
    refine r_store (v := .agg _) (vs := [_, _]) (cs' := [_, _]) (by exact rfl) (by exact rfl) hbb7 ty_43 (by exact rfl) rfl (by exact rfl) rfl (by exact rfl) ?_
    intro w9 hEw9 hzw9 hb_new
    have hs_w9 := (hEw9).size
    replace hV := evo_step1 hV hEw9 (by first | exact .inl (by omega) | exact .inr (by simp))
    replace hc := hc0.now hV
    replace hR6 := hR60 _ hV
    replace hbb7 := hb_new
    have hAb7 := hbb7.at
    clear hb_new
    refine r_nil ?_
    refine r_seq ?_
    refine r_seq ?_
    refine r_qregion (by kernel_rfl) (by kernel_rfl) ?_
    refine q_op rfl rfl rfl (fun w' hC => run_mv (v := .slice _ _ _) rfl (by exact rfl)) ?_
    refine q_op rfl rfl rfl (fun w' hC => run_mv (v := .int _ _) rfl (by exact rfl)) ?_
    refine q_op rfl rfl rfl (fun w' hC => run_slR (0) (i) rfl Try.underlying22 ty_43 (by exact rfl) (hc.evo0 hC) lo0 (at1 (by exact rfl) (by omega)) (by first | omega | (simp; omega)) (by first | omega | (simp; omega)) List.drop_zero) ?_
    have hS100 := (by have h9 := (hc0.take (i)).drop (0); rw [List.drop_zero] at h9; exact h9)
    have hS10 := (by have h9 := (hc.take (i)).drop (0); rw [List.drop_zero] at h9; exact h9)
    have hbd_hS10 := hS10.bd
    refine q_op rfl rfl rfl (fun w' hC => run_fa rfl (by exact rfl) fo_43_0) ?_
    refine q_op rfl rfl rfl (fun w' hC => run_ld1 rfl ag_9 (by exact rfl) ((hAb7.evo0 hC).cell 0 (by exact rfl))) ?_
    refine q_call rfl rfl rfl (fun w' hC => run_callf rfl (argcons (v := .slice _ _ _) (by exact rfl) (argcons (v := S _) (by exact rfl) (rfl))) Try.func80 rfl (by kernel_rfl)) (fun w' hC => (rnamed_calls (hS10.evo0 hC)).mono (fun e w'' h => ⟨h.1, evo_step0 hC h.2⟩)) ?_
    refine q_op rfl rfl rfl (fun w' hC => run_asg (v := .int _ _) rfl (by exact rfl)) ?_
    refine q_nil (fun w11 hE12 => ?_)
    have hs_w11 := (hE12).size
    replace hV := evo_step0 hV hE12
    replace hc := hc0.now hV
    replace hR6 := hR60 _ hV
    replace hbb7 := hbb7.evo0 hE12
    replace hAb7 := hAb7.evo0 hE12
    refine r_seq ?_
    refine r_region ?_
    refine r_op rfl rfl rfl (run_mv (v := .int _ _) rfl (by exact rfl)) ?_
    refine r_op rfl rfl rfl (run_neq rfl (by exact rfl) (by exact rfl)) ?_
    refine r_nil ?_
    refine r_cond (by exact rfl) (fun hc13 => ?_) (fun hc13 => ?_)
    ·skip
     refine r_seq ?_
     refine r_region ?_
     refine r_op rfl rfl rfl (run_mv (v := .int _ _) rfl (by exact rfl)) ?_
     refine r_op rfl rfl rfl (run_asg (v := .int _ _) rfl (by exact rfl)) ?_
     refine r_nil ?_
     refine r_ret (res1 (v := .int _ _) rfl (by exact rfl)) ?_
     exact ⟨ret_int (by rw [valid_at (by omega) hno (cls_named hc13) hc13 (by omega)]), hV⟩
    ·skip
     refine r_skip ?_
     refine r_seq ?_
     refine r_seq ?_
     refine r_region ?_
     refine r_op rfl rfl rfl (run_fa rfl (by exact rfl) fo_43_1) ?_
     refine r_op rfl rfl rfl (run_ld1 rfl ag_41 (by exact rfl) (hAb7.cell 1 (by exact rfl))) ?_
     refine r_op rfl rfl rfl (run_lenSl rfl (by exact rfl) Try.underlying41) ?_
     refine r_op rfl rfl rfl (run_gtr rfl (by exact rfl) (by exact rfl)) ?_
     refine r_nil ?_
     refine r_cond (by exact rfl) (fun hc14 => ?_) (fun hc14 => ?_)
     ·skip
      refine r_seq ?_
      refine r_region ?_
      refine r_op rfl rfl rfl (run_asg (v := .int _ _) rfl (by exact rfl)) ?_
      refine r_nil ?_
      refine r_ret (res1 (v := .int _ _) rfl (by exact rfl)) ?_
      exact ⟨ret_int (by rw [valid_at (by omega) hno (cls_many (Classical.not_not.1 (by assumption)) (by omega)) (by decide) (by omega)]), hV⟩
     ·skip
      refine r_skip ?_
      refine r_seq ?_
      refine r_region ?_
      refine r_op rfl rfl rfl (run_fa rfl (by exact rfl) fo_43_1) ?_
      refine r_op rfl rfl rfl (run_ld1 rfl ag_41 (by exact rfl) (hAb7.cell 1 (by exact rfl))) ?_
      refine r_op rfl rfl rfl (run_lenSl rfl (by exact rfl) Try.underlying41) ?_
      refine r_op rfl rfl rfl (run_mv (v := .int _ _) rfl (by exact rfl)) ?_
      refine r_nil ?_
      refine r_block ?_
      refine r_loop (α := Nat) [2, 6, 7, 8, 35, 36, 37, 38, 39, 40, 41, 42, 43, 44, 45, 46, 47, 48, 49] (fun k g w => g 35 = .int .i64 (k : Nat) ∧ k ≤ (c.getD i default).ends.length ∧ At w b7 0 [S (c.getD i default).name, .slice ao6 (c.getD i default).ends.length cap6] ∧ (∀ j, j < k → endedL ((c.getD i default).ends.take j) ((c.getD i default).ends.getD j default) = 0) ∧ w11.heap.size ≤ w.heap.size ∧ Evo w0 w []) (fun k => (c.getD i default).ends.length - k) 0 ?_ ?_
      ·refine ⟨(by first | exact rfl | exact congrArg (Value.int _) (by omega) | exact congrArg (Value.int _) (by dsimp only; omega) | exact congrArg (Value.int _) (by simp) | exact congrArg S (by simp)), (by first | assumption | omega | (dsimp only; omega) | (simp; done)), hAb7, (fun j h => by omega), (by first | assumption | omega | (dsimp only; omega) | (simp; done)), hV⟩
      ·rintro k g w16 ⟨hj17, hk_k, hAb7, hnk, hzl15, hV⟩
       have hs_w16hV := hV.size
       replace hc := hc0.now hV
       replace hA6 := hA60 _ hV
       replace hR6 := hR60 _ hV
       replace hS10 := hS100.now hV
       refine r_know (i := 35) (v := .int .i64 (k : Nat)) (by exact hj17) ?_
       have hbx := hcb _ (getD_in (show i < c.length by omega))
       refine r_seq ?_
       refine r_region ?_
       refine r_op rfl rfl rfl (run_lss rfl (by exact rfl) (by exact rfl)) ?_
       refine r_nil ?_
       refine r_seq ?_
       refine r_cond (by exact rfl) (fun hc18 => ?_) (fun hc18 => ?_)
       ·skip
        refine r_skip ?_
        refine r_seq ?_
        refine r_block ?_
        refine r_seq ?_
        refine r_region ?_
        refine r_op rfl rfl rfl (run_mv (v := .int _ _) rfl (by exact rfl)) ?_
        refine r_op rfl rfl rfl (run_ix (k) rfl Try.underlying41 ty_46 (by exact rfl) (by exact rfl) (by first | exact rfl | omega) (by omega) (hR6.addr (i := k) (by omega))) ?_
        have hA190 := fun (w' : World) (h : Evo w0 w' []) => (hR60 w' h).atD (k) (by omega)
        have hA19 := hA190 _ hV
        refine r_op rfl rfl rfl (run_ldN rfl ag_46 ty_46 (by exact rfl) rfl hA19) ?_
        refine r_alloc (zs := [_, _]) ty_46 (by exact rfl) rfl ?_
        intro b20 w21 heb20 hEw21 hbb20 hzb20
        have hs_w21 := (hEw21).size
        replace hV := evo_step0 hV hEw21
        replace hc := hc0.now hV
        replace hR6 := hR60 _ hV
        replace hAb7 := hAb7.evo0 hEw21
        replace hA19 := hA190 _ hV
        have hAb20 := hbb20.at
        refine r_op rfl rfl rfl (run_asg (v := .int _ _) rfl (by exact rfl)) ?_
        refine r_store (v := .agg _) (vs := [_, _]) (cs' := [_, _]) (by exact rfl) (by exact rfl) hbb20 ty_46 (by exact rfl) rfl (by exact rfl) rfl (by exact rfl) ?_
        intro w22 hEw22 hzw22 hb_new
        have hs_w22 := (hEw22).size
        replace hV := evo_step1 hV hEw22 (by first | exact .inl (by omega) | exact .inr (by simp))
        replace hc := hc0.now hV
        replace hR6 := hR60 _ hV
        replace hAb7 := hAb7.evo hEw22 (by simp; omega)
        replace hbb20 := hb_new
        have hAb20 := hbb20.at
        clear hb_new
        refine r_nil ?_
        refine r_seq ?_
        have hbk := hbx.2.1 _ (getD_in (show k < (c.getD i default).ends.length by omega))
        refine r_qregion (by kernel_rfl) (by kernel_rfl) ?_
        refine q_op rfl rfl rfl (fun w' hC => run_fa rfl (by exact rfl) fo_43_1) ?_
        refine q_op rfl rfl rfl (fun w' hC => run_ld1 rfl ag_41 (by exact rfl) ((hAb7.evo0 hC).cell 1 (by exact rfl))) ?_
        refine q_op rfl rfl rfl (fun w' hC => run_mv (v := .int _ _) rfl (by exact rfl)) ?_
        refine q_op rfl rfl rfl (fun w' hC => run_slE (0) (k) rfl Try.underlying41 ty_46 (by exact rfl) (hR6.evo0 hC) lo0 (at1 (by exact rfl) (by omega)) (by first | omega | (simp; omega)) (by first | omega | (simp; omega)) List.drop_zero) ?_
        have hS230 := fun (w' : World) (h : Evo w0 w' []) => (by have h9 := ((hR60 w' h).take (k)).drop (0); rw [List.drop_zero] at h9; exact h9)
        have hS23 := (by have h9 := (hR6.take (k)).drop (0); rw [List.drop_zero] at h9; exact h9)
        have hbd_hS23 := hS23.bd
        refine q_op rfl rfl rfl (fun w' hC => run_ldN rfl ag_46 ty_46 (by exact rfl) rfl (hAb20.evo0 hC)) ?_
        refine q_call rfl rfl rfl (fun w' hC => run_callf rfl (argcons (v := .slice _ _ _) (by exact rfl) (argcons (v := .agg _) (by exact rfl) (rfl))) Try.func81 rfl (by kernel_rfl)) (fun w' hC => (rended_calls (hS23.evo0 hC) (Nat.le_trans hbk.1 (by decide)) (Nat.le_trans hbk.2 (by decide))).mono (fun e w'' h => ⟨h.1, evo_step0 hC h.2⟩)) ?_
        refine q_op rfl rfl rfl (fun w' hC => run_asg (v := .int _ _) rfl (by exact rfl)) ?_
        refine q_nil (fun w24 hE25 => ?_)
        have hs_w24 := (hE25).size
        replace hV := evo_step0 hV hE25
        replace hc := hc0.now hV
        replace hR6 := hR60 _ hV
        replace hAb7 := hAb7.evo0 hE25
        refine r_seq ?_
        refine r_region ?_
        refine r_op rfl rfl rfl (run_mv (v := .int _ _) rfl (by exact rfl)) ?_
        refine r_op rfl rfl rfl (run_neq rfl (by exact rfl) (by exact rfl)) ?_
        refine r_nil ?_
        refine r_cond (by exact rfl) (fun hc26 => ?_) (fun hc26 => ?_)
        ·skip
         refine r_seq ?_
         refine r_region ?_
         refine r_op rfl rfl rfl (run_mv (v := .int _ _) rfl (by exact rfl)) ?_
         refine r_op rfl rfl rfl (run_asg (v := .int _ _) rfl (by exact rfl)) ?_
         refine r_nil ?_
         refine r_ret (res1 (v := .int _ _) rfl (by exact rfl)) ?_
         exact ⟨ret_int (by rw [valid_at (by omega) hno ((cls_ends (Classical.not_not.1 (by assumption)) (by omega)).trans (ends_err hnk hc26 (by omega))) hc26 (by omega)]), hV⟩
        ·skip
         refine r_skip ?_
         refine r_blk ?_
         refine r_region ?_
         refine r_op rfl rfl rfl (run_add rfl (by exact rfl) (by exact rfl) (by omega) (by omega)) ?_
         refine r_op rfl rfl rfl (run_mv (v := .int _ _) rfl (by exact rfl)) ?_
         refine r_nil ?_
         refine r_again (k + 1) ?_ ?_ ?_
         ·first | omega | (dsimp only; omega)
         ·refine ⟨(by first | exact rfl | exact congrArg (Value.int _) (by omega) | exact congrArg (Value.int _) (by dsimp only; omega) | exact congrArg (Value.int _) (by simp) | exact congrArg S (by simp)), (by first | assumption | omega | (dsimp only; omega) | (simp; done)), hAb7, (upto0 hnk (Classical.not_not.1 hc26)), (by first | assumption | omega | (dsimp only; omega) | (simp; done)), hV⟩
         ·repeat (first | (with_reducible exact Agree.merge _ _ _) | (with_reducible exact Agree.refl _ _) | (with_reducible refine Agree.upd ?_ _ _ rfl) | ((with_reducible refine Agree.inner ?_ ?_); (kernel_rfl)))
       ·skip
        refine r_exit rfl ?_
        refine r_blk ?_
        refine r_region ?_
        refine r_op rfl rfl rfl (run_add rfl (by exact rfl) (by exact rfl) (by omega) (by omega)) ?_
        refine r_op rfl rfl rfl (run_mv (v := .int _ _) rfl (by exact rfl)) ?_
        refine r_nil ?_
        refine r_again (i + 1) ?_ ?_ ?_
        ·first | omega | (dsimp only; omega)
        ·refine ⟨(by first | exact rfl | exact congrArg (Value.int _) (by omega) | exact congrArg (Value.int _) (by dsimp only; omega) | exact congrArg (Value.int _) (by simp) | exact congrArg S (by simp)), (by first | assumption | omega | (dsimp only; omega) | (simp; done)), (upto0 hno ((cls_ends (Classical.not_not.1 (by assumption)) (by omega)).trans (ends_ok hnk (by omega)))), (by first | assumption | omega | (dsimp only; omega) | (simp; done)), hV⟩
        ·repeat (first | (with_reducible exact Agree.merge _ _ _) | (with_reducible exact Agree.refl _ _) | (with_reducible refine Agree.upd ?_ _ _ rfl) | ((with_reducible refine Agree.inner ?_ ?_); (kernel_rfl)))
   ·skip
    refine r_exit rfl ?_
    refine r_seq ?_
    refine r_region ?_
    refine r_op rfl rfl rfl (run_asg (v := .int _ _) rfl (by exact rfl)) ?_
    refine r_nil ?_
    refine r_ret (res1 (v := .int _ _) rfl (by exact rfl)) ?_
    exact ⟨ret_int (by rw [valid_ok (by omega) hno (by omega)]), hV⟩

end Go.Proofs.Ytomklacppmaljaa
