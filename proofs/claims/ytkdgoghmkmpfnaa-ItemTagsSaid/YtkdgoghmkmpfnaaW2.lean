import Derived.Test.YtkdgoghmkmpfnaaW1
namespace Go.Proofs.Ytkdgoghmkmpfnaa
open Go.RowKit Go.Vc
theorem ag_26 : aggP Try.prog 26 = some true := by kernel_rfl
theorem ag_3 : aggP Try.prog 3 = some false := by kernel_rfl
theorem ag_9 : aggP Try.prog 9 = some false := by kernel_rfl
theorem fo_26_0 : fieldP Try.prog 26 0 = some 0 := by kernel_rfl
theorem fo_26_1 : fieldP Try.prog 26 1 = some 1 := by kernel_rfl
theorem fo_26_2 : fieldP Try.prog 26 2 = some 2 := by kernel_rfl
theorem ty_26 : tyP Try.prog 26 = some (3, 32, some (.agg #[(.int .i64 0), (.string ⟨#[]⟩), (.int .i64 0)])) := by kernel_rfl
theorem istag_calls {x : Vc.Item} {w0 : World}  :
    Calls Try.prog 65 #[.agg (Enc.enc x).toArray] w0 fun e w' => e = .returned (.bool (isTag x)) ∧ Evo w0 w' [] := by
 refine calls_enter (n := 16) (args := [.agg (Enc.enc x).toArray]) Try.func65 rfl Try.ntmps65 rfl ?_
 have hV : Evo w0 w0 [] := Evo.refl _ _
 refine r_seq ?_
 refine r_region ?_
 refine r_box (vs := [_, _, _]) (by exact rfl) (by exact rfl) rfl ?_
 intro b1 w2 heb1 hEw2 hbb1 hzb1
 have hs_w2 := (hEw2).size
 replace hV := evo_step0 hV hEw2
 have hAb1 := hbb1.at
 refine r_op rfl rfl rfl (run_asg (v := .bool _) rfl (by exact rfl)) ?_
 refine r_nil ?_
 refine r_seq ?_
 refine r_region ?_
 refine r_op rfl rfl rfl (run_fa rfl (by exact rfl) fo_26_0) ?_
 refine r_op rfl rfl rfl (run_ld1 rfl ag_3 (by exact rfl) (hAb1.cell 0 (by exact rfl))) ?_
 refine r_op rfl rfl rfl (run_eql rfl (by exact rfl) (by exact rfl)) ?_
 refine r_op rfl rfl rfl (run_mv (v := .bool _) rfl (by exact rfl)) ?_
 refine r_g rfl (wantF (by exact rfl)) rfl (fun hg => run_fa rfl (by exact rfl) fo_26_0) ?_
 refine r_g rfl (wantF (by exact rfl)) rfl (fun hg => run_ld1 rfl ag_3 (glv (by exact rfl) (fun h => h) hg) (hAb1.cell 0 (by exact rfl))) ?_
 refine r_g rfl (wantF (by exact rfl)) rfl (fun hg => run_eql rfl (glv (by exact rfl) (fun h => h) hg) (by exact rfl)) ?_
 refine r_op rfl rfl rfl (run_pick_or rfl (by exact rfl) rfl (fun hq => glv (by exact rfl) (fun h => h) hq)) ?_
 refine r_op rfl rfl rfl (run_mv (v := .bool _) rfl (by exact rfl)) ?_
 refine r_g rfl (wantF (by exact rfl)) rfl (fun hg => run_fa rfl (by exact rfl) fo_26_0) ?_
 refine r_g rfl (wantF (by exact rfl)) rfl (fun hg => run_ld1 rfl ag_3 (glv (by exact rfl) (fun h => h) hg) (hAb1.cell 0 (by exact rfl))) ?_
 refine r_g rfl (wantF (by exact rfl)) rfl (fun hg => run_eql rfl (glv (by exact rfl) (fun h => h) hg) (by exact rfl)) ?_
 refine r_op rfl rfl rfl (run_pick_or rfl (by exact rfl) rfl (fun hq => glv (by exact rfl) (fun h => h) hq)) ?_
 refine r_op rfl rfl rfl (run_asg (v := .bool _) rfl (by exact rfl)) ?_
 refine r_nil ?_
 refine r_ret (res1 (v := .bool _) rfl (by exact rfl)) ?_
 exact ⟨ret_bool (by rw [Bool.eq_iff_iff, decide_eq_true_iff, isTag_iff]), hV⟩

theorem ristag_calls {x : Vc.Item} {w0 : World}  :
    Calls Try.prog 75 #[.agg (Enc.enc x).toArray] w0 fun e w' => e = .returned (.bool (isTag x)) ∧ Evo w0 w' [] := by
 refine calls_enter (n := 16) (args := [.agg (Enc.enc x).toArray]) Try.func75 rfl Try.ntmps75 rfl ?_
 have hV : Evo w0 w0 [] := Evo.refl _ _
 refine r_seq ?_
 refine r_region ?_
 refine r_box (vs := [_, _, _]) (by exact rfl) (by exact rfl) rfl ?_
 intro b1 w2 heb1 hEw2 hbb1 hzb1
 have hs_w2 := (hEw2).size
 replace hV := evo_step0 hV hEw2
 have hAb1 := hbb1.at
 refine r_op rfl rfl rfl (run_asg (v := .bool _) rfl (by exact rfl)) ?_
 refine r_nil ?_
 refine r_seq ?_
 refine r_region ?_
 refine r_op rfl rfl rfl (run_fa rfl (by exact rfl) fo_26_0) ?_
 refine r_op rfl rfl rfl (run_ld1 rfl ag_3 (by exact rfl) (hAb1.cell 0 (by exact rfl))) ?_
 refine r_op rfl rfl rfl (run_eql rfl (by exact rfl) (by exact rfl)) ?_
 refine r_op rfl rfl rfl (run_mv (v := .bool _) rfl (by exact rfl)) ?_
 refine r_g rfl (wantF (by exact rfl)) rfl (fun hg => run_fa rfl (by exact rfl) fo_26_0) ?_
 refine r_g rfl (wantF (by exact rfl)) rfl (fun hg => run_ld1 rfl ag_3 (glv (by exact rfl) (fun h => h) hg) (hAb1.cell 0 (by exact rfl))) ?_
 refine r_g rfl (wantF (by exact rfl)) rfl (fun hg => run_eql rfl (glv (by exact rfl) (fun h => h) hg) (by exact rfl)) ?_
 refine r_op rfl rfl rfl (run_pick_or rfl (by exact rfl) rfl (fun hq => glv (by exact rfl) (fun h => h) hq)) ?_
 refine r_op rfl rfl rfl (run_mv (v := .bool _) rfl (by exact rfl)) ?_
 refine r_g rfl (wantF (by exact rfl)) rfl (fun hg => run_fa rfl (by exact rfl) fo_26_0) ?_
 refine r_g rfl (wantF (by exact rfl)) rfl (fun hg => run_ld1 rfl ag_3 (glv (by exact rfl) (fun h => h) hg) (hAb1.cell 0 (by exact rfl))) ?_
 refine r_g rfl (wantF (by exact rfl)) rfl (fun hg => run_eql rfl (glv (by exact rfl) (fun h => h) hg) (by exact rfl)) ?_
 refine r_op rfl rfl rfl (run_pick_or rfl (by exact rfl) rfl (fun hq => glv (by exact rfl) (fun h => h) hq)) ?_
 refine r_op rfl rfl rfl (run_asg (v := .bool _) rfl (by exact rfl)) ?_
 refine r_nil ?_
 refine r_ret (res1 (v := .bool _) rfl (by exact rfl)) ?_
 exact ⟨ret_bool (by rw [Bool.eq_iff_iff, decide_eq_true_iff, isTag_iff]), hV⟩

theorem width_calls {x : Vc.Item} {w0 : World}  :
    Calls Try.prog 70 #[.agg (Enc.enc x).toArray] w0 fun e w' => e = .returned (.int .i64 (widthL x)) ∧ Evo w0 w' [] := by
 refine calls_enter (n := 9) (args := [.agg (Enc.enc x).toArray]) Try.func70 rfl Try.ntmps70 rfl ?_
 have hV : Evo w0 w0 [] := Evo.refl _ _
 refine r_seq ?_
 refine r_region ?_
 refine r_box (vs := [_, _, _]) (by exact rfl) (by exact rfl) rfl ?_
 intro b1 w2 heb1 hEw2 hbb1 hzb1
 have hs_w2 := (hEw2).size
 replace hV := evo_step0 hV hEw2
 have hAb1 := hbb1.at
 refine r_op rfl rfl rfl (run_asg (v := .int _ _) rfl (by exact rfl)) ?_
 refine r_nil ?_
 refine r_seq ?_
 refine r_seq ?_
 refine r_region ?_
 refine r_op rfl rfl rfl (run_fa rfl (by exact rfl) fo_26_0) ?_
 refine r_op rfl rfl rfl (run_ld1 rfl ag_3 (by exact rfl) (hAb1.cell 0 (by exact rfl))) ?_
 refine r_op rfl rfl rfl (run_eql rfl (by exact rfl) (by exact rfl)) ?_
 refine r_nil ?_
 refine r_cond (by exact rfl) (fun hc3 => ?_) (fun hc3 => ?_)
 ·skip
  refine r_seq ?_
  refine r_region ?_
  refine r_op rfl rfl rfl (run_fa rfl (by exact rfl) fo_26_1) ?_
  refine r_op rfl rfl rfl (run_ld1 rfl ag_9 (by exact rfl) (hAb1.cell 1 (by exact rfl))) ?_
  refine r_op rfl rfl rfl (run_lenS rfl (by exact rfl) Try.underlying9) ?_
  refine r_op rfl rfl rfl (run_asg (v := .int _ _) rfl (by exact rfl)) ?_
  refine r_nil ?_
  refine r_ret (res1 (v := .int _ _) rfl (by exact rfl)) ?_
  exact ⟨by unfold widthL; rw [if_pos hc3], hV⟩
 ·skip
  refine r_skip ?_
  refine r_seq ?_
  refine r_region ?_
  refine r_op rfl rfl rfl (run_asg (v := .int _ _) rfl (by exact rfl)) ?_
  refine r_nil ?_
  refine r_ret (res1 (v := .int _ _) rfl (by exact rfl)) ?_
  exact ⟨by unfold widthL; rw [if_neg hc3], hV⟩

theorem length_calls {ao : Option Addr} {b off cap : Nat} {f : List Vc.Item} {w0 : World} (hf : RowE w0 ao b off cap f) (hsm : Small f) :
    Calls Try.prog 25 #[.slice ao f.length cap] w0 fun e w' => e = .returned (.int .i64 (lengthL f)) ∧ Evo w0 w' [] := by
 obtain ⟨hs1, hs2⟩ := hsm
 refine calls_enter (n := 18) (args := [.slice ao f.length cap]) Try.func25 rfl Try.ntmps25 rfl ?_
 have hV : Evo w0 w0 [] := Evo.refl _ _
 have hf0 := keepE hf
 have hbd_hf := hf.bd
 refine r_seq ?_
 refine r_region ?_
 refine r_op rfl rfl rfl (run_asg (v := .int _ _) rfl (by exact rfl)) ?_
 refine r_nil ?_
 refine r_seq ?_
 refine r_region ?_
 refine r_op rfl rfl rfl (run_asg (v := .int _ _) rfl (by exact rfl)) ?_
 refine r_nil ?_
 refine r_seq ?_
 refine r_seq ?_
 refine r_region ?_
 refine r_op rfl rfl rfl (run_mv (v := .slice _ _ _) rfl (by exact rfl)) ?_
 refine r_op rfl rfl rfl (run_lenSl rfl (by exact rfl) Try.underlying30) ?_
 refine r_op rfl rfl rfl (run_mv (v := .int _ _) rfl (by exact rfl)) ?_
 refine r_nil ?_
 refine r_block ?_
 refine r_loop (α := Nat) [3, 5, 8, 9, 10, 11, 12, 13, 14, 15, 16] (fun k g w => g 8 = .int .i64 (k : Nat) ∧ g 3 = .int .i64 (lengthL (f.take k)) ∧ k ≤ f.length ∧ w0.heap.size ≤ w.heap.size ∧ Evo w0 w []) (fun k => f.length - k) 0 ?_ ?_
 ·refine ⟨(by first | exact rfl | exact congrArg (Value.int _) (by omega) | exact congrArg (Value.int _) (by dsimp only; omega) | exact congrArg (Value.int _) (by simp) | exact congrArg S (by simp)), (by exact rfl), (by first | assumption | omega | (dsimp only; omega) | (simp; done)), (by first | assumption | omega | (dsimp only; omega) | (simp; done)), hV⟩
 ·rintro k g w2 ⟨hj3, hj4, hk_k, hzl1, hV⟩
  have hs_w2hV := hV.size
  replace hf := hf0 _ hV
  refine r_know (i := 8) (v := .int .i64 (k : Nat)) (by exact hj3) ?_
  refine r_know (i := 3) (v := .int .i64 (lengthL (f.take k))) (by exact hj4) ?_
  refine r_seq ?_
  refine r_region ?_
  refine r_op rfl rfl rfl (run_lss rfl (by exact rfl) (by exact rfl)) ?_
  refine r_nil ?_
  refine r_seq ?_
  refine r_cond (by exact rfl) (fun hc5 => ?_) (fun hc5 => ?_)
  ·skip
   refine r_skip ?_
   refine r_seq ?_
   refine r_block ?_
   refine r_seq ?_
   refine r_region ?_
   refine r_op rfl rfl rfl (run_ix (k) rfl Try.underlying30 ty_26 (by exact rfl) (by exact rfl) (by first | exact rfl | omega) (by omega) (hf.addr (i := k) (by omega))) ?_
   have hA60 := fun (w' : World) (h : Evo w0 w' []) => (hf0 w' h).atD (k) (by omega)
   have hA6 := hA60 _ hV
   refine r_op rfl rfl rfl (run_ldN rfl ag_26 ty_26 (by exact rfl) rfl hA6) ?_
   refine r_var (zs := [_, _, _]) (vs := [_, _, _]) ty_26 (by exact rfl) rfl (by exact rfl) (fun _ => rfl) (by exact rfl) rfl rfl (by exact rfl) ?_
   intro b7 w8 heb7 hEw8 hbb7 hzb7
   have hs_w8 := (hEw8).size
   replace hV := evo_step0 hV hEw8
   replace hf := hf0 _ hV
   have hAb7 := hbb7.at
   refine r_nil ?_
   have hb1 := lengthL_le (f.take k); have hb2 := sizeL_take f k; have hb3 := width_bd (f.getD k default); have hb4 := sizeL_at f k; have hb5 : (f.take k).length ≤ f.length := by rw [List.length_take]; omega
   refine r_region ?_
   refine r_op rfl rfl rfl (run_mv (v := .int _ _) rfl (by exact rfl)) ?_
   refine r_op rfl rfl rfl (run_ldN rfl ag_26 ty_26 (by exact rfl) rfl hAb7) ?_
   refine r_opcall rfl rfl rfl (run_callf (vs := [.agg _]) rfl (by exact rfl) Try.func70 rfl (by kernel_rfl)) width_calls ?_
   rintro e w9 ⟨rfl, hE9⟩
   refine ⟨_, rfl, ?_⟩
   have hs_w9 := (hE9).size
   replace hV := evo_step0 hV hE9
   replace hf := hf0 _ hV
   refine r_op rfl rfl rfl (run_add rfl (by exact rfl) (by exact rfl) (by omega) (by omega)) ?_
   refine r_op rfl rfl rfl (run_asg (v := .int _ _) rfl (by exact rfl)) ?_
   refine r_nil ?_
   refine r_blk ?_
   refine r_region ?_
   refine r_op rfl rfl rfl (run_add rfl (by exact rfl) (by exact rfl) (by omega) (by omega)) ?_
   refine r_op rfl rfl rfl (run_mv (v := .int _ _) rfl (by exact rfl)) ?_
   refine r_nil ?_
   refine r_again (k + 1) ?_ ?_ ?_
   ·first | omega | (dsimp only; omega)
   ·refine ⟨(by first | exact rfl | exact congrArg (Value.int _) (by omega) | exact congrArg (Value.int _) (by dsimp only; omega) | exact congrArg (Value.int _) (by simp) | exact congrArg S (by simp)), (congrArg (Value.int _) (by first | (rw [lengthL_succ f k (by omega)]; done) | (rw [lengthL_succ f k (by omega)]; unfold widthL; rw [if_pos (by assumption)]) | (rw [lengthL_succ f k (by omega)]; unfold widthL; rw [if_neg (by assumption)]))), (by first | assumption | omega | (dsimp only; omega) | (simp; done)), (by first | assumption | omega | (dsimp only; omega) | (simp; done)), hV⟩
   ·repeat (first | (with_reducible exact Agree.merge _ _ _) | (with_reducible exact Agree.refl _ _) | (with_reducible refine Agree.upd ?_ _ _ rfl) | ((with_reducible refine Agree.inner ?_ ?_); (kernel_rfl)))
  ·skip
   refine r_exit rfl ?_
   refine r_seq ?_
   refine r_region ?_
   refine r_op rfl rfl rfl (run_mv (v := .int _ _) rfl (by exact rfl)) ?_
   refine r_op rfl rfl rfl (run_asg (v := .int _ _) rfl (by exact rfl)) ?_
   refine r_nil ?_
   refine r_ret (res1 (v := .int _ _) rfl (by exact rfl)) ?_
   exact ⟨ret_int (by rw [List.take_of_length_le (by omega)]), hV⟩

theorem rlength_calls {ao : Option Addr} {b off cap : Nat} {f : List Vc.Item} {w0 : World} (hf : RowE w0 ao b off cap f) (hsm : Small f) :
    Calls Try.prog 47 #[.slice ao f.length cap] w0 fun e w' => e = .returned (.int .i64 (lengthL f)) ∧ Evo w0 w' [] := by
 obtain ⟨hs1, hs2⟩ := hsm
 refine calls_enter (n := 28) (args := [.slice ao f.length cap]) Try.func47 rfl Try.ntmps47 rfl ?_
 have hV : Evo w0 w0 [] := Evo.refl _ _
 have hf0 := keepE hf
 have hbd_hf := hf.bd
 refine r_seq ?_
 refine r_region ?_
 refine r_op rfl rfl rfl (run_asg (v := .int _ _) rfl (by exact rfl)) ?_
 refine r_nil ?_
 refine r_seq ?_
 refine r_region ?_
 refine r_op rfl rfl rfl (run_asg (v := .int _ _) rfl (by exact rfl)) ?_
 refine r_nil ?_
 refine r_seq ?_
 refine r_seq ?_
 refine r_region ?_
 refine r_op rfl rfl rfl (run_mv (v := .slice _ _ _) rfl (by exact rfl)) ?_
 refine r_op rfl rfl rfl (run_lenSl rfl (by exact rfl) Try.underlying30) ?_
 refine r_op rfl rfl rfl (run_mv (v := .int _ _) rfl (by exact rfl)) ?_
 refine r_nil ?_
 refine r_block ?_
 refine r_loop (α := Nat) [3, 4, 7, 8, 9, 10, 11, 12, 13, 14, 15, 16, 17, 18, 19, 20, 21, 22, 23, 24, 25, 26] (fun k g w => g 7 = .int .i64 (k : Nat) ∧ g 3 = .int .i64 (lengthL (f.take k)) ∧ k ≤ f.length ∧ w0.heap.size ≤ w.heap.size ∧ Evo w0 w []) (fun k => f.length - k) 0 ?_ ?_
 ·refine ⟨(by first | exact rfl | exact congrArg (Value.int _) (by omega) | exact congrArg (Value.int _) (by dsimp only; omega) | exact congrArg (Value.int _) (by simp) | exact congrArg S (by simp)), (by exact rfl), (by first | assumption | omega | (dsimp only; omega) | (simp; done)), (by first | assumption | omega | (dsimp only; omega) | (simp; done)), hV⟩
 ·rintro k g w2 ⟨hj3, hj4, hk_k, hzl1, hV⟩
  have hs_w2hV := hV.size
  replace hf := hf0 _ hV
  refine r_know (i := 7) (v := .int .i64 (k : Nat)) (by exact hj3) ?_
  refine r_know (i := 3) (v := .int .i64 (lengthL (f.take k))) (by exact hj4) ?_
  refine r_seq ?_
  refine r_region ?_
  refine r_op rfl rfl rfl (run_lss rfl (by exact rfl) (by exact rfl)) ?_
  refine r_nil ?_
  refine r_seq ?_
  refine r_cond (by exact rfl) (fun hc5 => ?_) (fun hc5 => ?_)
  ·skip
   refine r_skip ?_
   refine r_seq ?_
   refine r_block ?_
   refine r_seq ?_
   refine r_region ?_
   refine r_op rfl rfl rfl (run_mv (v := .int _ _) rfl (by exact rfl)) ?_
   refine r_op rfl rfl rfl (run_asg (v := .int _ _) rfl (by exact rfl)) ?_
   refine r_nil ?_
   refine r_seq ?_
   have hb1 := lengthL_le (f.take k); have hb2 := sizeL_take f k; have hb3 := width_bd (f.getD k default); have hb4 := sizeL_at f k; have hb5 : (f.take k).length ≤ f.length := by rw [List.length_take]; omega
   refine r_region ?_
   refine r_op rfl rfl rfl (run_mv (v := .slice _ _ _) rfl (by exact rfl)) ?_
   refine r_op rfl rfl rfl (run_mv (v := .int _ _) rfl (by exact rfl)) ?_
   refine r_op rfl rfl rfl (run_ix (k) rfl Try.underlying30 ty_26 (by exact rfl) (by exact rfl) (by first | exact rfl | omega) (by omega) (hf.addr (i := k) (by omega))) ?_
   have hA60 := fun (w' : World) (h : Evo w0 w' []) => (hf0 w' h).atD (k) (by omega)
   have hA6 := hA60 _ hV
   refine r_op rfl rfl rfl (run_fa rfl (by exact rfl) fo_26_0) ?_
   refine r_op rfl rfl rfl (run_ld1 rfl ag_3 (by exact rfl) (hA6.cell 0 (by exact rfl))) ?_
   refine r_op rfl rfl rfl (run_eql rfl (by exact rfl) (by exact rfl)) ?_
   refine r_nil ?_
   refine r_cond (by exact rfl) (fun hc7 => ?_) (fun hc7 => ?_)
   ·skip
    refine r_region ?_
    refine r_op rfl rfl rfl (run_mv (v := .int _ _) rfl (by exact rfl)) ?_
    refine r_op rfl rfl rfl (run_mv (v := .slice _ _ _) rfl (by exact rfl)) ?_
    refine r_op rfl rfl rfl (run_mv (v := .int _ _) rfl (by exact rfl)) ?_
    refine r_op rfl rfl rfl (run_ix (k) rfl Try.underlying30 ty_26 (by exact rfl) (by exact rfl) (by first | exact rfl | omega) (by omega) (hf.addr (i := k) (by omega))) ?_
    have hA80 := fun (w' : World) (h : Evo w0 w' []) => (hf0 w' h).atD (k) (by omega)
    have hA8 := hA80 _ hV
    refine r_op rfl rfl rfl (run_fa rfl (by exact rfl) fo_26_1) ?_
    refine r_op rfl rfl rfl (run_ld1 rfl ag_9 (by exact rfl) (hA8.cell 1 (by exact rfl))) ?_
    refine r_op rfl rfl rfl (run_lenS rfl (by exact rfl) Try.underlying9) ?_
    refine r_op rfl rfl rfl (run_add rfl (by exact rfl) (by exact rfl) (by omega) (by omega)) ?_
    refine r_op rfl rfl rfl (run_asg (v := .int _ _) rfl (by exact rfl)) ?_
    refine r_nil ?_
    refine r_blk ?_
    refine r_region ?_
    refine r_op rfl rfl rfl (run_add rfl (by exact rfl) (by exact rfl) (by omega) (by omega)) ?_
    refine r_op rfl rfl rfl (run_mv (v := .int _ _) rfl (by exact rfl)) ?_
    refine r_nil ?_
    refine r_again (k + 1) ?_ ?_ ?_
    ·first | omega | (dsimp only; omega)
    ·refine ⟨(by first | exact rfl | exact congrArg (Value.int _) (by omega) | exact congrArg (Value.int _) (by dsimp only; omega) | exact congrArg (Value.int _) (by simp) | exact congrArg S (by simp)), (congrArg (Value.int _) (by first | (rw [lengthL_succ f k (by omega)]; done) | (rw [lengthL_succ f k (by omega)]; unfold widthL; rw [if_pos (by assumption)]) | (rw [lengthL_succ f k (by omega)]; unfold widthL; rw [if_neg (by assumption)]))), (by first | assumption | omega | (dsimp only; omega) | (simp; done)), (by first | assumption | omega | (dsimp only; omega) | (simp; done)), hV⟩
    ·repeat (first | (with_reducible exact Agree.merge _ _ _) | (with_reducible exact Agree.refl _ _) | (with_reducible refine Agree.upd ?_ _ _ rfl) | ((with_reducible refine Agree.inner ?_ ?_); (kernel_rfl)))
   ·skip
    refine r_region ?_
    refine r_op rfl rfl rfl (run_mv (v := .int _ _) rfl (by exact rfl)) ?_
    refine r_op rfl rfl rfl (run_add rfl (by exact rfl) (by exact rfl) (by omega) (by omega)) ?_
    refine r_op rfl rfl rfl (run_asg (v := .int _ _) rfl (by exact rfl)) ?_
    refine r_nil ?_
    refine r_blk ?_
    refine r_region ?_
    refine r_op rfl rfl rfl (run_add rfl (by exact rfl) (by exact rfl) (by omega) (by omega)) ?_
    refine r_op rfl rfl rfl (run_mv (v := .int _ _) rfl (by exact rfl)) ?_
    refine r_nil ?_
    refine r_again (k + 1) ?_ ?_ ?_
    ·first | omega | (dsimp only; omega)
    ·refine ⟨(by first | exact rfl | exact congrArg (Value.int _) (by omega) | exact congrArg (Value.int _) (by dsimp only; omega) | exact congrArg (Value.int _) (by simp) | exact congrArg S (by simp)), (congrArg (Value.int _) (by first | (rw [lengthL_succ f k (by omega)]; done) | (rw [lengthL_succ f k (by omega)]; unfold widthL; rw [if_pos (by assumption)]) | (rw [lengthL_succ f k (by omega)]; unfold widthL; rw [if_neg (by assumption)]))), (by first | assumption | omega | (dsimp only; omega) | (simp; done)), (by first | assumption | omega | (dsimp only; omega) | (simp; done)), hV⟩
    ·repeat (first | (with_reducible exact Agree.merge _ _ _) | (with_reducible exact Agree.refl _ _) | (with_reducible refine Agree.upd ?_ _ _ rfl) | ((with_reducible refine Agree.inner ?_ ?_); (kernel_rfl)))
  ·skip
   refine r_exit rfl ?_
   refine r_seq ?_
   refine r_region ?_
   refine r_op rfl rfl rfl (run_mv (v := .int _ _) rfl (by exact rfl)) ?_
   refine r_op rfl rfl rfl (run_asg (v := .int _ _) rfl (by exact rfl)) ?_
   refine r_nil ?_
   refine r_ret (res1 (v := .int _ _) rfl (by exact rfl)) ?_
   exact ⟨ret_int (by rw [List.take_of_length_le (by omega)]), hV⟩

theorem few_calls {ao : Option Addr} {b off cap : Nat} {f : List Vc.Item} {w0 : World} (hf : RowE w0 ao b off cap f) (hT : ∀ k, (f.getD k default).text.length ≤ 140737488355328) :
    Calls Try.prog 22 #[.slice ao f.length cap] w0 fun e w' => ∃ x, e = .returned (.bool x) ∧ (x = true → f.length ≤ 60 ∧ sizeL f ≤ 2000) ∧ Evo w0 w' [] := by
 refine calls_enter (n := 26) (args := [.slice ao f.length cap]) Try.func22 rfl Try.ntmps22 rfl ?_
 have hV : Evo w0 w0 [] := Evo.refl _ _
 have hf0 := keepE hf
 have hbd_hf := hf.bd
 refine r_seq ?_
 refine r_region ?_
 refine r_op rfl rfl rfl (run_asg (v := .bool _) rfl (by exact rfl)) ?_
 refine r_nil ?_
 refine r_seq ?_
 refine r_region ?_
 refine r_op rfl rfl rfl (run_asg (v := .int _ _) rfl (by exact rfl)) ?_
 refine r_nil ?_
 refine r_seq ?_
 refine r_seq ?_
 refine r_region ?_
 refine r_op rfl rfl rfl (run_mv (v := .slice _ _ _) rfl (by exact rfl)) ?_
 refine r_op rfl rfl rfl (run_lenSl rfl (by exact rfl) Try.underlying30) ?_
 refine r_op rfl rfl rfl (run_mv (v := .int _ _) rfl (by exact rfl)) ?_
 refine r_nil ?_
 refine r_block ?_
 refine r_loop (α := Nat) [3, 4, 7, 8, 9, 10, 11, 12, 13, 14, 15, 16, 17, 18] (fun k g w => ∃ z : Int, g 7 = .int .i64 (k : Nat) ∧ g 3 = .int .i64 z ∧ k ≤ f.length ∧ (k ≤ 60 → z = (sizeL (f.take k) : Nat) ∧ z ≤ 140737488355328 * (k : Int)) ∧ w0.heap.size ≤ w.heap.size ∧ Evo w0 w []) (fun k => f.length - k) 0 ?_ ?_
 ·refine ⟨0, (by first | exact rfl | exact congrArg (Value.int _) (by omega) | exact congrArg (Value.int _) (by dsimp only; omega) | exact congrArg (Value.int _) (by simp) | exact congrArg S (by simp)), (by first | exact rfl | exact congrArg (Value.int _) (by omega) | exact congrArg (Value.int _) (by dsimp only; omega) | exact congrArg (Value.int _) (by simp) | exact congrArg S (by simp)), (by first | assumption | omega | (dsimp only; omega) | (simp; done)), (fun _ => ⟨rfl, by omega⟩), (by first | assumption | omega | (dsimp only; omega) | (simp; done)), hV⟩
 ·rintro k g w2 ⟨z, hj3, hj4, hk_k, hz, hzl1, hV⟩
  have hs_w2hV := hV.size
  replace hf := hf0 _ hV
  refine r_know (i := 7) (v := .int .i64 (k : Nat)) (by exact hj3) ?_
  refine r_know (i := 3) (v := .int .i64 z) (by exact hj4) ?_
  refine r_seq ?_
  refine r_region ?_
  refine r_op rfl rfl rfl (run_lss rfl (by exact rfl) (by exact rfl)) ?_
  refine r_nil ?_
  refine r_seq ?_
  refine r_cond (by exact rfl) (fun hc5 => ?_) (fun hc5 => ?_)
  ·skip
   refine r_skip ?_
   refine r_seq ?_
   refine r_block ?_
   refine r_seq ?_
   refine r_region ?_
   refine r_op rfl rfl rfl (run_mv (v := .int _ _) rfl (by exact rfl)) ?_
   refine r_op rfl rfl rfl (run_asg (v := .int _ _) rfl (by exact rfl)) ?_
   refine r_nil ?_
   have hb4 := hT k; have hb2 := sizeL_succ f k (by omega)
   refine r_region ?_
   refine r_op rfl rfl rfl (run_mv (v := .int _ _) rfl (by exact rfl)) ?_
   refine r_op rfl rfl rfl (run_mv (v := .slice _ _ _) rfl (by exact rfl)) ?_
   refine r_op rfl rfl rfl (run_mv (v := .int _ _) rfl (by exact rfl)) ?_
   refine r_op rfl rfl rfl (run_ix (k) rfl Try.underlying30 ty_26 (by exact rfl) (by exact rfl) (by first | exact rfl | omega) (by omega) (hf.addr (i := k) (by omega))) ?_
   have hA60 := fun (w' : World) (h : Evo w0 w' []) => (hf0 w' h).atD (k) (by omega)
   have hA6 := hA60 _ hV
   refine r_op rfl rfl rfl (run_fa rfl (by exact rfl) fo_26_1) ?_
   refine r_op rfl rfl rfl (run_ld1 rfl ag_9 (by exact rfl) (hA6.cell 1 (by exact rfl))) ?_
   refine r_op rfl rfl rfl (run_lenS rfl (by exact rfl) Try.underlying9) ?_
   refine r_op rfl rfl rfl (run_addw rfl (by exact rfl) (by exact rfl)) ?_
   refine r_op rfl rfl rfl (run_asg (v := .int _ _) rfl (by exact rfl)) ?_
   refine r_nil ?_
   refine r_blk ?_
   refine r_region ?_
   refine r_op rfl rfl rfl (run_add rfl (by exact rfl) (by exact rfl) (by omega) (by omega)) ?_
   refine r_op rfl rfl rfl (run_mv (v := .int _ _) rfl (by exact rfl)) ?_
   refine r_nil ?_
   refine r_again (k + 1) ?_ ?_ ?_
   ·first | omega | (dsimp only; omega)
   ·refine ⟨_, (by first | exact rfl | exact congrArg (Value.int _) (by omega) | exact congrArg (Value.int _) (by dsimp only; omega) | exact congrArg (Value.int _) (by simp) | exact congrArg S (by simp)), rfl, (by first | assumption | omega | (dsimp only; omega) | (simp; done)), (fun h => by have := hz (by omega); rw [wrap_in (by omega) (by omega), hb2]; omega), (by first | assumption | omega | (dsimp only; omega) | (simp; done)), hV⟩
   ·repeat (first | (with_reducible exact Agree.merge _ _ _) | (with_reducible exact Agree.refl _ _) | (with_reducible refine Agree.upd ?_ _ _ rfl) | ((with_reducible refine Agree.inner ?_ ?_); (kernel_rfl)))
  ·skip
   refine r_exit rfl ?_
   refine r_seq ?_
   refine r_region ?_
   refine r_op rfl rfl rfl (run_mv (v := .slice _ _ _) rfl (by exact rfl)) ?_
   refine r_op rfl rfl rfl (run_lenSl rfl (by exact rfl) Try.underlying30) ?_
   refine r_op rfl rfl rfl (run_leq rfl (by exact rfl) (by exact rfl)) ?_
   refine r_op rfl rfl rfl (run_mv (v := .bool _) rfl (by exact rfl)) ?_
   refine r_g rfl (wantT (by exact rfl)) rfl (fun hg => run_mv (v := .int _ _) rfl (by exact rfl)) ?_
   refine r_g rfl (wantT (by exact rfl)) rfl (fun hg => run_leq rfl (glv (by exact rfl) (fun h => h) hg) (by exact rfl)) ?_
   refine r_op rfl rfl rfl (run_pick_and rfl (by exact rfl) (fun hq => glv (by exact rfl) (fun h => h) hq) rfl) ?_
   refine r_op rfl rfl rfl (run_asg (v := .bool _) rfl (by exact rfl)) ?_
   refine r_nil ?_
   refine r_ret (res1 (v := .bool _) rfl (by exact rfl)) ?_
   exact ⟨_, rfl, fun h => by have h9 := of_decide_eq_true h; have := hz (by omega); rw [List.take_of_length_le (by omega)] at this; omega, hV⟩

theorem fits_calls {ao : Option Addr} {b off cap : Nat} {f : List Vc.Item} {x : Vc.Item} {w0 : World} (hf : RowE w0 ao b off cap f) (hsm : Small f) :
    Calls Try.prog 66 #[.slice ao f.length cap, .agg (Enc.enc x).toArray] w0 fun e w' => e = .returned (.bool (!(f.any (clash x)))) ∧ Evo w0 w' [] := by
 obtain ⟨hs1, hs2⟩ := hsm
 refine calls_enter (n := 40) (args := [.slice ao f.length cap, .agg (Enc.enc x).toArray]) Try.func66 rfl Try.ntmps66 rfl ?_
 have hV : Evo w0 w0 [] := Evo.refl _ _
 have hf0 := keepE hf
 have hbd_hf := hf.bd
 refine r_seq ?_
 refine r_region ?_
 refine r_box (vs := [_, _, _]) (by exact rfl) (by exact rfl) rfl ?_
 intro b1 w2 heb1 hEw2 hbb1 hzb1
 have hs_w2 := (hEw2).size
 replace hV := evo_step0 hV hEw2
 replace hf := hf0 _ hV
 have hAb1 := hbb1.at
 refine r_op rfl rfl rfl (run_asg (v := .bool _) rfl (by exact rfl)) ?_
 refine r_nil ?_
 refine r_seq ?_
 refine r_seq ?_
 refine r_region ?_
 refine r_op rfl rfl rfl (run_mv (v := .slice _ _ _) rfl (by exact rfl)) ?_
 refine r_op rfl rfl rfl (run_lenSl rfl (by exact rfl) Try.underlying30) ?_
 refine r_op rfl rfl rfl (run_mv (v := .int _ _) rfl (by exact rfl)) ?_
 refine r_nil ?_
 refine r_block ?_
 refine r_loop (α := Nat) [4, 6, 9, 10, 11, 12, 13, 14, 15, 16, 17, 18, 19, 20, 21, 22, 23, 24, 25, 26, 27, 28, 29, 30, 31, 32, 33, 34, 35, 36, 37, 38, 39] (fun k g w => g 9 = .int .i64 (k : Nat) ∧ k ≤ f.length ∧ Blk w b1 26 [.int .i64 x.kind, S x.text, .int .i64 x.id] ∧ At w b1 0 [.int .i64 x.kind, S x.text, .int .i64 x.id] ∧ (∀ j, j < k → clash x (f.getD j default) = false) ∧ w2.heap.size ≤ w.heap.size ∧ Evo w0 w []) (fun k => f.length - k) 0 ?_ ?_
 ·refine ⟨(by first | exact rfl | exact congrArg (Value.int _) (by omega) | exact congrArg (Value.int _) (by dsimp only; omega) | exact congrArg (Value.int _) (by simp) | exact congrArg S (by simp)), (by first | assumption | omega | (dsimp only; omega) | (simp; done)), hbb1, hAb1, (fun j h1 => by omega), (by first | assumption | omega | (dsimp only; omega) | (simp; done)), hV⟩
 ·rintro k g w4 ⟨hj5, hk_k, hbb1, hAb1, hall, hzl3, hV⟩
  have hs_w4hV := hV.size
  have hlt6 := hbb1.lt
  replace hf := hf0 _ hV
  refine r_know (i := 9) (v := .int .i64 (k : Nat)) (by exact hj5) ?_
  refine r_seq ?_
  refine r_region ?_
  refine r_op rfl rfl rfl (run_lss rfl (by exact rfl) (by exact rfl)) ?_
  refine r_nil ?_
  refine r_seq ?_
  refine r_cond (by exact rfl) (fun hc7 => ?_) (fun hc7 => ?_)
  ·skip
   refine r_skip ?_
   refine r_seq ?_
   refine r_block ?_
   refine r_seq ?_
   refine r_region ?_
   refine r_op rfl rfl rfl (run_ix (k) rfl Try.underlying30 ty_26 (by exact rfl) (by exact rfl) (by first | exact rfl | omega) (by omega) (hf.addr (i := k) (by omega))) ?_
   have hA80 := fun (w' : World) (h : Evo w0 w' []) => (hf0 w' h).atD (k) (by omega)
   have hA8 := hA80 _ hV
   refine r_op rfl rfl rfl (run_ldN rfl ag_26 ty_26 (by exact rfl) rfl hA8) ?_
   refine r_var (zs := [_, _, _]) (vs := [_, _, _]) ty_26 (by exact rfl) rfl (by exact rfl) (fun _ => rfl) (by exact rfl) rfl rfl (by exact rfl) ?_
   intro b9 w10 heb9 hEw10 hbb9 hzb9
   have hs_w10 := (hEw10).size
   replace hV := evo_step0 hV hEw10
   replace hf := hf0 _ hV
   replace hbb1 := hbb1.evo0 hEw10
   replace hAb1 := hAb1.evo0 hEw10
   have hAb9 := hbb9.at
   refine r_nil ?_
   refine r_seq ?_
   refine r_seq ?_
   have hb4 := sizeL_at f k
   refine r_region ?_
   refine r_op rfl rfl rfl (run_ldN rfl ag_26 ty_26 (by exact rfl) rfl hAb9) ?_
   refine r_opcall rfl rfl rfl (run_callf (vs := [.agg _]) rfl (by exact rfl) Try.func65 rfl (by kernel_rfl)) istag_calls ?_
   rintro e w11 ⟨rfl, hE11⟩
   refine ⟨_, rfl, ?_⟩
   have hs_w11 := (hE11).size
   replace hV := evo_step0 hV hE11
   replace hf := hf0 _ hV
   replace hbb1 := hbb1.evo0 hE11
   replace hAb1 := hAb1.evo0 hE11
   replace hbb9 := hbb9.evo0 hE11
   replace hAb9 := hAb9.evo0 hE11
   refine r_op rfl rfl rfl (run_notb rfl (by exact rfl)) ?_
   refine r_op rfl rfl rfl (run_mvb rfl (by exact rfl)) ?_
   refine r_g rfl (wantF (by exact rfl)) rfl (fun hg => run_fa rfl (by exact rfl) fo_26_2) ?_
   refine r_g rfl (wantF (by exact rfl)) rfl (fun hg => run_ld1 rfl ag_3 (glv (by exact rfl) (fun h => h) hg) (hAb9.cell 2 (by exact rfl))) ?_
   refine r_g rfl (wantF (by exact rfl)) rfl (fun hg => run_fa rfl (by exact rfl) fo_26_2) ?_
   refine r_g rfl (wantF (by exact rfl)) rfl (fun hg => run_ld1 rfl ag_3 (glv (by exact rfl) (fun h => h) hg) (hAb1.cell 2 (by exact rfl))) ?_
   refine r_g rfl (wantF (by exact rfl)) rfl (fun hg => run_neq rfl (glv (by exact rfl) (fun h => h) hg) (glv (by exact rfl) (fun h => h) hg)) ?_
   refine r_op rfl rfl rfl (run_pick_or rfl (by exact rfl) rfl (fun hq => glv (by exact rfl) (fun h => h) hq)) ?_
   refine r_nil ?_
   refine r_cond (by exact rfl) (fun hc12 => ?_) (fun hc12 => ?_)
   ·skip
    refine r_exit rfl ?_
    refine r_region ?_
    refine r_op rfl rfl rfl (run_add rfl (by exact rfl) (by exact rfl) (by omega) (by omega)) ?_
    refine r_op rfl rfl rfl (run_mv (v := .int _ _) rfl (by exact rfl)) ?_
    refine r_nil ?_
    refine r_again (k + 1) ?_ ?_ ?_
    ·first | omega | (dsimp only; omega)
    ·refine ⟨(by first | exact rfl | exact congrArg (Value.int _) (by omega) | exact congrArg (Value.int _) (by dsimp only; omega) | exact congrArg (Value.int _) (by simp) | exact congrArg S (by simp)), (by first | assumption | omega | (dsimp only; omega) | (simp; done)), hbb1, hAb1, (upto0 hall (by first | exact clash_no1 hc12 | exact clash_no2 hc12)), (by first | assumption | omega | (dsimp only; omega) | (simp; done)), hV⟩
    ·repeat (first | (with_reducible exact Agree.merge _ _ _) | (with_reducible exact Agree.refl _ _) | (with_reducible refine Agree.upd ?_ _ _ rfl) | ((with_reducible refine Agree.inner ?_ ?_); (kernel_rfl)))
   ·skip
    refine r_skip ?_
    refine r_seq ?_
    refine r_qregion (by kernel_rfl) (by kernel_rfl) ?_
    refine q_op rfl rfl rfl (fun w' hC => run_fa rfl (by exact rfl) fo_26_0) ?_
    refine q_op rfl rfl rfl (fun w' hC => run_ld1 rfl ag_3 (by exact rfl) ((hAb1.evo0 hC).cell 0 (by exact rfl))) ?_
    refine q_op rfl rfl rfl (fun w' hC => run_neq rfl (by exact rfl) (by exact rfl)) ?_
    refine q_op rfl rfl rfl (fun w' hC => run_mv (v := .bool _) rfl (by exact rfl)) ?_
    refine q_g rfl (wantF (by exact rfl)) rfl (fun hg w' hC => run_fa rfl (by exact rfl) fo_26_0) ?_
    refine q_g rfl (wantF (by exact rfl)) rfl (fun hg w' hC => run_ld1 rfl ag_3 (glv (by exact rfl) (fun h => h) hg) ((hAb9.evo0 hC).cell 0 (by exact rfl))) ?_
    refine q_g rfl (wantF (by exact rfl)) rfl (fun hg w' hC => run_neq rfl (glv (by exact rfl) (fun h => h) hg) (by exact rfl)) ?_
    refine q_op rfl rfl rfl (fun w' hC => run_pick_or rfl (by exact rfl) rfl (fun hq => glv (by exact rfl) (fun h => h) hq)) ?_
    refine q_op rfl rfl rfl (fun w' hC => run_mv (v := .bool _) rfl (by exact rfl)) ?_
    refine q_g rfl (wantF (by exact rfl)) rfl (fun hg w' hC => run_fa rfl (by exact rfl) fo_26_1) ?_
    refine q_g rfl (wantF (by exact rfl)) rfl (fun hg w' hC => run_ld1 rfl ag_9 (glv (by exact rfl) (fun h => h) hg) ((hAb9.evo0 hC).cell 1 (by exact rfl))) ?_
    refine q_gcall rfl (wantF (by exact rfl)) rfl (fun hg w' hC => run_callf rfl (argcons (v := S _) (glv (by exact rfl) (fun h => h) hg) (rfl)) Try.func88 rfl (by kernel_rfl)) (fun hg w' hC => (name_calls (by omega)).mono (fun e w'' h => ⟨h.1, evo_step0 hC h.2⟩)) ?_
    refine q_g rfl (wantF (by exact rfl)) rfl (fun hg w' hC => run_fa rfl (by exact rfl) fo_26_1) ?_
    refine q_g rfl (wantF (by exact rfl)) rfl (fun hg w' hC => run_ld1 rfl ag_9 (glv (by exact rfl) (fun h => h) hg) ((hAb1.evo0 hC).cell 1 (by exact rfl))) ?_
    refine q_g rfl (wantF (by exact rfl)) rfl (fun hg w' hC => run_sneq rfl (glv (by exact rfl) (fun h => h) hg) (glv (by exact rfl) (fun h => h) hg)) ?_
    refine q_op rfl rfl rfl (fun w' hC => run_pick_or rfl (by exact rfl) rfl (fun hq => glv (by exact rfl) (fun h => h) hq)) ?_
    refine q_nil (fun w13 hE14 => ?_)
    have hs_w13 := (hE14).size
    replace hV := evo_step0 hV hE14
    replace hf := hf0 _ hV
    replace hbb1 := hbb1.evo0 hE14
    replace hAb1 := hAb1.evo0 hE14
    refine r_cond (by exact rfl) (fun hc15 => ?_) (fun hc15 => ?_)
    ·skip
     refine r_seq ?_
     refine r_region ?_
     refine r_op rfl rfl rfl (run_asg (v := .bool _) rfl (by exact rfl)) ?_
     refine r_nil ?_
     refine r_ret (res1 (v := .bool _) rfl (by exact rfl)) ?_
     exact ⟨ret_bool (by rw [any_yes (d := default) k (by omega) (clash_yes (by assumption) hc15)]; rfl), hV⟩
    ·skip
     refine r_skip ?_
     refine r_blk ?_
     refine r_region ?_
     refine r_op rfl rfl rfl (run_add rfl (by exact rfl) (by exact rfl) (by omega) (by omega)) ?_
     refine r_op rfl rfl rfl (run_mv (v := .int _ _) rfl (by exact rfl)) ?_
     refine r_nil ?_
     refine r_again (k + 1) ?_ ?_ ?_
     ·first | omega | (dsimp only; omega)
     ·refine ⟨(by first | exact rfl | exact congrArg (Value.int _) (by omega) | exact congrArg (Value.int _) (by dsimp only; omega) | exact congrArg (Value.int _) (by simp) | exact congrArg S (by simp)), (by first | assumption | omega | (dsimp only; omega) | (simp; done)), hbb1, hAb1, (upto0 hall (by first | exact clash_no1 hc15 | exact clash_no2 hc15)), (by first | assumption | omega | (dsimp only; omega) | (simp; done)), hV⟩
     ·repeat (first | (with_reducible exact Agree.merge _ _ _) | (with_reducible exact Agree.refl _ _) | (with_reducible refine Agree.upd ?_ _ _ rfl) | ((with_reducible refine Agree.inner ?_ ?_); (kernel_rfl)))
  ·skip
   refine r_exit rfl ?_
   refine r_seq ?_
   refine r_region ?_
   refine r_op rfl rfl rfl (run_asg (v := .bool _) rfl (by exact rfl)) ?_
   refine r_nil ?_
   refine r_ret (res1 (v := .bool _) rfl (by exact rfl)) ?_
   exact ⟨ret_bool (by rw [any_no (d := default) (fun j hj => hall j (by omega))]; rfl), hV⟩

theorem wellformed_calls {ao : Option Addr} {b off cap : Nat} {f : List Vc.Item} {i : Nat} {w0 : World} (hf : RowE w0 ao b off cap f) (hi : i < f.length) :
    Calls Try.prog 64 #[.slice ao f.length cap, .int .i64 (i : Nat)] w0 fun e w' => e = .returned (.bool (formed (f.take i) (f.getD i default))) ∧ Evo w0 w' [] := by
 refine calls_enter (n := 76) (args := [.slice ao f.length cap, .int .i64 (i : Nat)]) Try.func64 rfl Try.ntmps64 rfl ?_
 have hV : Evo w0 w0 [] := Evo.refl _ _
 have hf0 := keepE hf
 have hbd_hf := hf.bd
 refine r_seq ?_
 refine r_region ?_
 refine r_op rfl rfl rfl (run_asg (v := .bool _) rfl (by exact rfl)) ?_
 refine r_nil ?_
 refine r_seq ?_
 refine r_region ?_
 refine r_op rfl rfl rfl (run_mv (v := .slice _ _ _) rfl (by exact rfl)) ?_
 refine r_op rfl rfl rfl (run_mv (v := .int _ _) rfl (by exact rfl)) ?_
 refine r_op rfl rfl rfl (run_ix (i) rfl Try.underlying30 ty_26 (by exact rfl) (by exact rfl) (by first | exact rfl | omega) (by omega) (hf.addr (i := i) (by omega))) ?_
 have hA10 := fun (w' : World) (h : Evo w0 w' []) => (hf0 w' h).atD (i) (by omega)
 have hA1 := hA10 _ hV
 refine r_op rfl rfl rfl (run_ldN rfl ag_26 ty_26 (by exact rfl) rfl hA1) ?_
 refine r_var (zs := [_, _, _]) (vs := [_, _, _]) ty_26 (by exact rfl) rfl (by exact rfl) (fun _ => rfl) (by exact rfl) rfl rfl (by exact rfl) ?_
 intro b2 w3 heb2 hEw3 hbb2 hzb2
 have hs_w3 := (hEw3).size
 replace hV := evo_step0 hV hEw3
 replace hf := hf0 _ hV
 have hAb2 := hbb2.at
 refine r_nil ?_
 refine r_seq ?_
 refine r_seq ?_
 refine r_region ?_
 refine r_op rfl rfl rfl (run_fa rfl (by exact rfl) fo_26_0) ?_
 refine r_op rfl rfl rfl (run_ld1 rfl ag_3 (by exact rfl) (hAb2.cell 0 (by exact rfl))) ?_
 refine r_nil ?_
 refine r_block ?_
 refine r_seq ?_
 refine r_region ?_
 refine r_op rfl rfl rfl (run_eql rfl (by exact rfl) (by exact rfl)) ?_
 refine r_op rfl rfl rfl (run_asg (v := .bool _) rfl (by exact rfl)) ?_
 refine r_nil ?_
 refine r_cond (by exact rfl) (fun hc4 => ?_) (fun hc4 => ?_)
 ·skip
  refine r_seq ?_
  refine r_region ?_
  refine r_op rfl rfl rfl (run_fa rfl (by exact rfl) fo_26_1) ?_
  refine r_op rfl rfl rfl (run_ld1 rfl ag_9 (by exact rfl) (hAb2.cell 1 (by exact rfl))) ?_
  refine r_op rfl rfl rfl (run_sneq rfl (by exact rfl) (by exact rfl)) ?_
  refine r_op rfl rfl rfl (run_mv (v := .bool _) rfl (by exact rfl)) ?_
  refine r_g rfl (wantT (by exact rfl)) rfl (fun hg => run_fa rfl (by exact rfl) fo_26_2) ?_
  refine r_g rfl (wantT (by exact rfl)) rfl (fun hg => run_ld1 rfl ag_3 (glv (by exact rfl) (fun h => h) hg) (hAb2.cell 2 (by exact rfl))) ?_
  refine r_g rfl (wantT (by exact rfl)) rfl (fun hg => run_eql rfl (glv (by exact rfl) (fun h => h) hg) (by exact rfl)) ?_
  refine r_op rfl rfl rfl (run_pick_and rfl (by exact rfl) (fun hq => glv (by exact rfl) (fun h => h) hq) rfl) ?_
  refine r_op rfl rfl rfl (run_mv (v := .bool _) rfl (by exact rfl)) ?_
  refine r_g rfl (wantT (by exact rfl)) rfl (fun hg => run_mv (v := .int _ _) rfl (by exact rfl)) ?_
  refine r_g rfl (wantT (by exact rfl)) rfl (fun hg => run_eql rfl (glv (by exact rfl) (fun h => h) hg) (by exact rfl)) ?_
  refine r_g rfl (wantT (by exact rfl)) rfl (fun hg => run_mv (v := .bool _) rfl (glv (by exact rfl) (fun h => h) hg)) ?_
  refine r_g rfl (wantFg (by exact rfl)) rfl (fun hg => run_mv (v := .slice _ _ _) rfl (by exact rfl)) ?_
  refine r_g rfl (wantFg (by exact rfl)) rfl (fun hg => run_mv (v := .int _ _) rfl (by exact rfl)) ?_
  refine r_g rfl (wantFg (by exact rfl)) rfl (fun hg => run_sub rfl (glv (by exact rfl) (fun h => h) hg) (by exact rfl) (by omega) (by omega)) ?_
  refine r_g rfl (wantFg (by exact rfl)) rfl (fun hg => run_ix ((i - 1)) rfl Try.underlying30 ty_26 (glv (by exact rfl) (fun h => h) hg) (glv (by exact rfl) (fun h => h) hg) (by omega) (by omega) (hf.addr (i := (i - 1)) (by omega))) ?_
  refine r_g rfl (wantFg (by exact rfl)) rfl (fun hg => run_fa rfl (glv (by exact rfl) (fun h => h) hg) fo_26_0) ?_
  refine r_g rfl (wantFg (by exact rfl)) rfl (fun hg => run_ld1 rfl ag_3 (glv (by exact rfl) (fun h => h) hg) ((hf.atD ((i - 1)) (by omega)).cell 0 (by exact rfl))) ?_
  refine r_g rfl (wantFg (by exact rfl)) rfl (fun hg => run_neq rfl (glv (by exact rfl) (fun h => h) hg) (by exact rfl)) ?_
  refine r_g rfl (wantT (by exact rfl)) rfl (fun hg => run_pick_or rfl (glv (by exact rfl) (fun h => h) hg) rfl (fun hq => glv (by exact rfl) (fun h => h) (And.intro hg hq))) ?_
  refine r_op rfl rfl rfl (run_pick_and rfl (by exact rfl) (fun hq => glv (by exact rfl) (fun h => h) hq) rfl) ?_
  refine r_op rfl rfl rfl (run_asg (v := .bool _) rfl (by exact rfl)) ?_
  refine r_nil ?_
  refine r_ret (res1 (v := .bool _) rfl (by exact rfl)) ?_
  exact ⟨ret_bool (by rw [Bool.eq_iff_iff, decide_eq_true_iff, formed_text hi (by assumption)]), hV⟩
 ·skip
  refine r_seq ?_
  refine r_region ?_
  refine r_op rfl rfl rfl (run_eql rfl (by exact rfl) (by exact rfl)) ?_
  refine r_op rfl rfl rfl (run_asg (v := .bool _) rfl (by exact rfl)) ?_
  refine r_nil ?_
  refine r_cond (by exact rfl) (fun hc5 => ?_) (fun hc5 => ?_)
  ·skip
   refine r_seq ?_
   refine r_region ?_
   refine r_op rfl rfl rfl (run_fa rfl (by exact rfl) fo_26_1) ?_
   refine r_op rfl rfl rfl (run_ld1 rfl ag_9 (by exact rfl) (hAb2.cell 1 (by exact rfl))) ?_
   refine r_opcall rfl rfl rfl (run_callf (vs := [S _]) rfl (by exact rfl) Try.func61 rfl (by kernel_rfl)) isname_calls ?_
   rintro e w6 ⟨rfl, hE6⟩
   refine ⟨_, rfl, ?_⟩
   have hs_w6 := (hE6).size
   replace hV := evo_step0 hV hE6
   replace hf := hf0 _ hV
   replace hbb2 := hbb2.evo0 hE6
   replace hAb2 := hAb2.evo0 hE6
   refine r_op rfl rfl rfl (run_mvb rfl (by exact rfl)) ?_
   refine r_g rfl (wantT (by exact rfl)) rfl (fun hg => run_fa rfl (by exact rfl) fo_26_2) ?_
   refine r_g rfl (wantT (by exact rfl)) rfl (fun hg => run_ld1 rfl ag_3 (glv (by exact rfl) (fun h => h) hg) (hAb2.cell 2 (by exact rfl))) ?_
   refine r_g rfl (wantT (by exact rfl)) rfl (fun hg => run_eql rfl (glv (by exact rfl) (fun h => h) hg) (by exact rfl)) ?_
   refine r_op rfl rfl rfl (run_pick_and rfl (by exact rfl) (fun hq => glv (by exact rfl) (fun h => h) hq) rfl) ?_
   refine r_op rfl rfl rfl (run_asg (v := .bool _) rfl (by exact rfl)) ?_
   refine r_nil ?_
   refine r_ret (res1 (v := .bool _) rfl (by exact rfl)) ?_
   exact ⟨ret_bool (by rw [Bool.eq_iff_iff, decide_eq_true_iff, formed_slot (by assumption)]), hV⟩
  ·skip
   refine r_seq ?_
   refine r_seq ?_
   refine r_region ?_
   refine r_op rfl rfl rfl (run_eql rfl (by exact rfl) (by exact rfl)) ?_
   refine r_op rfl rfl rfl (run_asg (v := .bool _) rfl (by exact rfl)) ?_
   refine r_nil ?_
   refine r_cond (by exact rfl) (fun hc7 => ?_) (fun hc7 => ?_)
   ·skip
    refine r_skip ?_
    refine r_condT (by exact rfl) hc7 ?_
    refine r_seq ?_
    refine r_region ?_
    refine r_op rfl rfl rfl (run_fa rfl (by exact rfl) fo_26_1) ?_
    refine r_op rfl rfl rfl (run_ld1 rfl ag_9 (by exact rfl) (hAb2.cell 1 (by exact rfl))) ?_
    refine r_opcall rfl rfl rfl (run_callf (vs := [S _]) rfl (by exact rfl) Try.func17 rfl (by kernel_rfl)) iscont_calls ?_
    rintro e w8 ⟨rfl, hE8⟩
    refine ⟨_, rfl, ?_⟩
    have hs_w8 := (hE8).size
    replace hV := evo_step0 hV hE8
    replace hf := hf0 _ hV
    replace hbb2 := hbb2.evo0 hE8
    replace hAb2 := hAb2.evo0 hE8
    refine r_op rfl rfl rfl (run_mvb rfl (by exact rfl)) ?_
    refine r_g rfl (wantT (by exact rfl)) rfl (fun hg => run_fa rfl (by exact rfl) fo_26_2) ?_
    refine r_g rfl (wantT (by exact rfl)) rfl (fun hg => run_ld1 rfl ag_3 (glv (by exact rfl) (fun h => h) hg) (hAb2.cell 2 (by exact rfl))) ?_
    refine r_g rfl (wantT (by exact rfl)) rfl (fun hg => run_geq rfl (glv (by exact rfl) (fun h => h) hg) (by exact rfl)) ?_
    refine r_op rfl rfl rfl (run_pick_and rfl (by exact rfl) (fun hq => glv (by exact rfl) (fun h => h) hq) rfl) ?_
    refine r_op rfl rfl rfl (run_mv (v := .bool _) rfl (by exact rfl)) ?_
    refine r_g rfl (wantT (by exact rfl)) rfl (fun hg => run_fa rfl (by exact rfl) fo_26_2) ?_
    refine r_g rfl (wantT (by exact rfl)) rfl (fun hg => run_ld1 rfl ag_3 (glv (by exact rfl) (fun h => h) hg) (hAb2.cell 2 (by exact rfl))) ?_
    refine r_g rfl (wantT (by exact rfl)) rfl (fun hg => run_leq rfl (glv (by exact rfl) (fun h => h) hg) (by exact rfl)) ?_
    refine r_op rfl rfl rfl (run_pick_and rfl (by exact rfl) (fun hq => glv (by exact rfl) (fun h => h) hq) rfl) ?_
    refine r_op rfl rfl rfl (run_asg (v := .bool _) rfl (by exact rfl)) ?_
    refine r_nil ?_
    refine r_ret (res1 (v := .bool _) rfl (by exact rfl)) ?_
    exact ⟨ret_bool (by rw [Bool.eq_iff_iff, decide_eq_true_iff, formed_open (.inl (by assumption))]), hV⟩
   ·skip
    refine r_region ?_
    refine r_op rfl rfl rfl (run_eql rfl (by exact rfl) (by exact rfl)) ?_
    refine r_op rfl rfl rfl (run_asg (v := .bool _) rfl (by exact rfl)) ?_
    refine r_nil ?_
    refine r_cond (by exact rfl) (fun hc9 => ?_) (fun hc9 => ?_)
    ·skip
     refine r_seq ?_
     refine r_region ?_
     refine r_op rfl rfl rfl (run_fa rfl (by exact rfl) fo_26_1) ?_
     refine r_op rfl rfl rfl (run_ld1 rfl ag_9 (by exact rfl) (hAb2.cell 1 (by exact rfl))) ?_
     refine r_opcall rfl rfl rfl (run_callf (vs := [S _]) rfl (by exact rfl) Try.func17 rfl (by kernel_rfl)) iscont_calls ?_
     rintro e w10 ⟨rfl, hE10⟩
     refine ⟨_, rfl, ?_⟩
     have hs_w10 := (hE10).size
     replace hV := evo_step0 hV hE10
     replace hf := hf0 _ hV
     replace hbb2 := hbb2.evo0 hE10
     replace hAb2 := hAb2.evo0 hE10
     refine r_op rfl rfl rfl (run_mvb rfl (by exact rfl)) ?_
     refine r_g rfl (wantT (by exact rfl)) rfl (fun hg => run_fa rfl (by exact rfl) fo_26_2) ?_
     refine r_g rfl (wantT (by exact rfl)) rfl (fun hg => run_ld1 rfl ag_3 (glv (by exact rfl) (fun h => h) hg) (hAb2.cell 2 (by exact rfl))) ?_
     refine r_g rfl (wantT (by exact rfl)) rfl (fun hg => run_geq rfl (glv (by exact rfl) (fun h => h) hg) (by exact rfl)) ?_
     refine r_op rfl rfl rfl (run_pick_and rfl (by exact rfl) (fun hq => glv (by exact rfl) (fun h => h) hq) rfl) ?_
     refine r_op rfl rfl rfl (run_mv (v := .bool _) rfl (by exact rfl)) ?_
     refine r_g rfl (wantT (by exact rfl)) rfl (fun hg => run_fa rfl (by exact rfl) fo_26_2) ?_
     refine r_g rfl (wantT (by exact rfl)) rfl (fun hg => run_ld1 rfl ag_3 (glv (by exact rfl) (fun h => h) hg) (hAb2.cell 2 (by exact rfl))) ?_
     refine r_g rfl (wantT (by exact rfl)) rfl (fun hg => run_leq rfl (glv (by exact rfl) (fun h => h) hg) (by exact rfl)) ?_
     refine r_op rfl rfl rfl (run_pick_and rfl (by exact rfl) (fun hq => glv (by exact rfl) (fun h => h) hq) rfl) ?_
     refine r_op rfl rfl rfl (run_asg (v := .bool _) rfl (by exact rfl)) ?_
     refine r_nil ?_
     refine r_ret (res1 (v := .bool _) rfl (by exact rfl)) ?_
     exact ⟨ret_bool (by rw [Bool.eq_iff_iff, decide_eq_true_iff, formed_open (.inr (by assumption))]), hV⟩
    ·skip
     refine r_seq ?_
     refine r_region ?_
     refine r_op rfl rfl rfl (run_eql rfl (by exact rfl) (by exact rfl)) ?_
     refine r_op rfl rfl rfl (run_asg (v := .bool _) rfl (by exact rfl)) ?_
     refine r_nil ?_
     refine r_cond (by exact rfl) (fun hc11 => ?_) (fun hc11 => ?_)
     ·skip
      refine r_seq ?_
      refine r_region ?_
      refine r_op rfl rfl rfl (run_fa rfl (by exact rfl) fo_26_1) ?_
      refine r_op rfl rfl rfl (run_ld1 rfl ag_9 (by exact rfl) (hAb2.cell 1 (by exact rfl))) ?_
      refine r_opcall rfl rfl rfl (run_callf (vs := [S _]) rfl (by exact rfl) Try.func61 rfl (by kernel_rfl)) isname_calls ?_
      rintro e w12 ⟨rfl, hE12⟩
      refine ⟨_, rfl, ?_⟩
      have hs_w12 := (hE12).size
      replace hV := evo_step0 hV hE12
      replace hf := hf0 _ hV
      replace hbb2 := hbb2.evo0 hE12
      replace hAb2 := hAb2.evo0 hE12
      refine r_op rfl rfl rfl (run_mvb rfl (by exact rfl)) ?_
      refine r_g rfl (wantT (by exact rfl)) rfl (fun hg => run_fa rfl (by exact rfl) fo_26_2) ?_
      refine r_g rfl (wantT (by exact rfl)) rfl (fun hg => run_ld1 rfl ag_3 (glv (by exact rfl) (fun h => h) hg) (hAb2.cell 2 (by exact rfl))) ?_
      refine r_g rfl (wantT (by exact rfl)) rfl (fun hg => run_geq rfl (glv (by exact rfl) (fun h => h) hg) (by exact rfl)) ?_
      refine r_op rfl rfl rfl (run_pick_and rfl (by exact rfl) (fun hq => glv (by exact rfl) (fun h => h) hq) rfl) ?_
      refine r_op rfl rfl rfl (run_mv (v := .bool _) rfl (by exact rfl)) ?_
      refine r_g rfl (wantT (by exact rfl)) rfl (fun hg => run_fa rfl (by exact rfl) fo_26_2) ?_
      refine r_g rfl (wantT (by exact rfl)) rfl (fun hg => run_ld1 rfl ag_3 (glv (by exact rfl) (fun h => h) hg) (hAb2.cell 2 (by exact rfl))) ?_
      refine r_g rfl (wantT (by exact rfl)) rfl (fun hg => run_leq rfl (glv (by exact rfl) (fun h => h) hg) (by exact rfl)) ?_
      refine r_op rfl rfl rfl (run_pick_and rfl (by exact rfl) (fun hq => glv (by exact rfl) (fun h => h) hq) rfl) ?_
      refine r_op rfl rfl rfl (run_asg (v := .bool _) rfl (by exact rfl)) ?_
      refine r_nil ?_
      refine r_ret (res1 (v := .bool _) rfl (by exact rfl)) ?_
      exact ⟨ret_bool (by rw [Bool.eq_iff_iff, decide_eq_true_iff, formed_close (by assumption)]), hV⟩
     ·skip
      refine r_skip ?_
      refine r_blk ?_
      refine r_seq ?_
      refine r_region ?_
      refine r_op rfl rfl rfl (run_asg (v := .bool _) rfl (by exact rfl)) ?_
      refine r_nil ?_
      refine r_ret (res1 (v := .bool _) rfl (by exact rfl)) ?_
      exact ⟨ret_bool (by rw [formed_other (by assumption) (by assumption) (by assumption) (by assumption) (by assumption)]), hV⟩

end Go.Proofs.Ytkdgoghmkmpfnaa
