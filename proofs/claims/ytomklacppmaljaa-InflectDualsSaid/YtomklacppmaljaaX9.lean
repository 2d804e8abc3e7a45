import Derived.Test.YtomklacppmaljaaX8
namespace Go.Proofs.Ytomklacppmaljaa
open Go.RowKit Go.Vc

def namedL (c : List Clas) (n : Str) : Int := if isName n = true then (if 0 ≤ findC c n then 5 else 0) else 4
theorem named_no {c : List Clas} {n : Str} (h : ¬ isName n = true) : namedL c n = 4 := if_neg h
theorem named_dup {c : List Clas} {n : Str} (h : isName n = true) (h2 : 0 ≤ findC c n) : namedL c n = 5 := by unfold namedL; rw [if_pos h, if_pos h2]
theorem named_ok {c : List Clas} {n : Str} (h : isName n = true) (h2 : ¬ 0 ≤ findC c n) : namedL c n = 0 := by unfold namedL; rw [if_pos h, if_neg h2]

theorem named_calls {ao : Option Addr} {b off cap : Nat} {c : List Clas} {n : Str} {w0 : World} (hc : RowR w0 ao b off cap c) :
    Calls Try.prog 78 #[.slice ao c.length cap, S n] w0 fun e w' => e = .returned (.int .i64 (namedL c n)) ∧ Evo w0 w' [] := by
 refine calls_enter (n := 14) (args := [.slice ao c.length cap, S n]) Try.func78 rfl Try.ntmps78 rfl ?_
 have hV : Evo w0 w0 [] := Evo.refl _ _
 have hc0 := hc.keep
 have hbd_hc := hc.bd
 refine r_seq ?_
 refine r_region ?_
 refine r_op rfl rfl rfl (run_asg (v := .int _ _) rfl (by exact rfl)) ?_
 refine r_nil ?_
 refine r_seq ?_
 refine r_block ?_
 refine r_seq ?_
 refine r_region ?_
 refine r_op rfl rfl rfl (run_mv (v := S _) rfl (by exact rfl)) ?_
 refine r_opcall rfl rfl rfl (run_callf (vs := [S _]) rfl (by exact rfl) Try.func116 rfl (by kernel_rfl)) isname_calls ?_
 rintro e w1 ⟨rfl, hE1⟩
 refine ⟨_, rfl, ?_⟩
 have hs_w1 := (hE1).size
 replace hV := evo_step0 hV hE1
 replace hc := hc0.now hV
 refine r_op rfl rfl rfl (run_notb rfl (by exact rfl)) ?_
 refine r_op rfl rfl rfl (run_asg (v := .bool _) rfl (by exact rfl)) ?_
 refine r_nil ?_
 refine r_condb (by exact rfl) (fun hc2 => ?_) (fun hc2 => ?_)
 ·skip
  refine r_seq ?_
  refine r_region ?_
  refine r_op rfl rfl rfl (run_asg (v := .int _ _) rfl (by exact rfl)) ?_
  refine r_nil ?_
  refine r_ret (res1 (v := .int _ _) rfl (by exact rfl)) ?_
  exact ⟨ret_int (by rw [named_no (by simp_all)]), hV⟩
 ·skip
  refine r_seq ?_
  refine r_region ?_
  refine r_op rfl rfl rfl (run_mv (v := .slice _ _ _) rfl (by exact rfl)) ?_
  refine r_op rfl rfl rfl (run_mv (v := S _) rfl (by exact rfl)) ?_
  refine r_opcall rfl rfl rfl (run_callf (vs := [.slice _ _ _, S _]) rfl (by exact rfl) Try.func26 rfl (by kernel_rfl)) (find_calls hc) ?_
  rintro e w3 ⟨rfl, hE3⟩
  refine ⟨_, rfl, ?_⟩
  have hs_w3 := (hE3).size
  replace hV := evo_step0 hV hE3
  replace hc := hc0.now hV
  refine r_op rfl rfl rfl (run_geq rfl (by exact rfl) (by exact rfl)) ?_
  refine r_op rfl rfl rfl (run_asg (v := .bool _) rfl (by exact rfl)) ?_
  refine r_nil ?_
  refine r_cond (by exact rfl) (fun hc4 => ?_) (fun hc4 => ?_)
  ·skip
   refine r_seq ?_
   refine r_region ?_
   refine r_op rfl rfl rfl (run_asg (v := .int _ _) rfl (by exact rfl)) ?_
   refine r_nil ?_
   refine r_ret (res1 (v := .int _ _) rfl (by exact rfl)) ?_
   exact ⟨ret_int (by rw [named_dup (by simp_all) (by omega)]), hV⟩
  ·skip
   refine r_skip ?_
   refine r_blk ?_
   refine r_seq ?_
   refine r_region ?_
   refine r_op rfl rfl rfl (run_asg (v := .int _ _) rfl (by exact rfl)) ?_
   refine r_nil ?_
   refine r_ret (res1 (v := .int _ _) rfl (by exact rfl)) ?_
   exact ⟨ret_int (by rw [named_ok (by simp_all) (by omega)]), hV⟩

theorem rnamed_calls {ao : Option Addr} {b off cap : Nat} {c : List Clas} {n : Str} {w0 : World} (hc : RowR w0 ao b off cap c) :
    Calls Try.prog 80 #[.slice ao c.length cap, S n] w0 fun e w' => e = .returned (.int .i64 (namedL c n)) ∧ Evo w0 w' [] := by
 refine calls_enter (n := 12) (args := [.slice ao c.length cap, S n]) Try.func80 rfl Try.ntmps80 rfl ?_
 have hV : Evo w0 w0 [] := Evo.refl _ _
 have hc0 := hc.keep
 have hbd_hc := hc.bd
 refine r_seq ?_
 refine r_region ?_
 refine r_op rfl rfl rfl (run_asg (v := .int _ _) rfl (by exact rfl)) ?_
 refine r_nil ?_
 refine r_seq ?_
 refine r_seq ?_
 refine r_region ?_
 refine r_op rfl rfl rfl (run_mv (v := S _) rfl (by exact rfl)) ?_
 refine r_opcall rfl rfl rfl (run_callf (vs := [S _]) rfl (by exact rfl) Try.func119 rfl (by kernel_rfl)) risname_calls ?_
 rintro e w1 ⟨rfl, hE1⟩
 refine ⟨_, rfl, ?_⟩
 have hs_w1 := (hE1).size
 replace hV := evo_step0 hV hE1
 replace hc := hc0.now hV
 refine r_op rfl rfl rfl (run_notb rfl (by exact rfl)) ?_
 refine r_nil ?_
 refine r_condb (by exact rfl) (fun hc2 => ?_) (fun hc2 => ?_)
 ·skip
  refine r_seq ?_
  refine r_region ?_
  refine r_op rfl rfl rfl (run_asg (v := .int _ _) rfl (by exact rfl)) ?_
  refine r_nil ?_
  refine r_ret (res1 (v := .int _ _) rfl (by exact rfl)) ?_
  exact ⟨ret_int (by rw [named_no (by simp_all)]), hV⟩
 ·skip
  refine r_skip ?_
  refine r_seq ?_
  refine r_seq ?_
  refine r_region ?_
  refine r_op rfl rfl rfl (run_mv (v := .slice _ _ _) rfl (by exact rfl)) ?_
  refine r_op rfl rfl rfl (run_mv (v := S _) rfl (by exact rfl)) ?_
  refine r_opcall rfl rfl rfl (run_callf (vs := [.slice _ _ _, S _]) rfl (by exact rfl) Try.func27 rfl (by kernel_rfl)) (rfind_calls hc) ?_
  rintro e w3 ⟨rfl, hE3⟩
  refine ⟨_, rfl, ?_⟩
  have hs_w3 := (hE3).size
  replace hV := evo_step0 hV hE3
  replace hc := hc0.now hV
  refine r_op rfl rfl rfl (run_geq rfl (by exact rfl) (by exact rfl)) ?_
  refine r_nil ?_
  refine r_cond (by exact rfl) (fun hc4 => ?_) (fun hc4 => ?_)
  ·skip
   refine r_seq ?_
   refine r_region ?_
   refine r_op rfl rfl rfl (run_asg (v := .int _ _) rfl (by exact rfl)) ?_
   refine r_nil ?_
   refine r_ret (res1 (v := .int _ _) rfl (by exact rfl)) ?_
   exact ⟨ret_int (by rw [named_dup (by simp_all) (by omega)]), hV⟩
  ·skip
   refine r_skip ?_
   refine r_seq ?_
   refine r_region ?_
   refine r_op rfl rfl rfl (run_asg (v := .int _ _) rfl (by exact rfl)) ?_
   refine r_nil ?_
   refine r_ret (res1 (v := .int _ _) rfl (by exact rfl)) ?_
   exact ⟨ret_int (by rw [named_ok (by simp_all) (by omega)]), hV⟩

theorem big_calls {ao : Option Addr} {b off cap : Nat} {c : List Clas} {w0 : World} (hc : RowR w0 ao b off cap c) :
    Calls Try.prog 22 #[.slice ao c.length cap] w0 fun e w' => ∃ x, e = .returned (.bool x) ∧ Evo w0 w' [] := by
 have hbdn := fun k => clas_bdD hc k
 refine calls_enter (n := 26) (args := [.slice ao c.length cap]) Try.func22 rfl Try.ntmps22 rfl ?_
 have hV : Evo w0 w0 [] := Evo.refl _ _
 have hc0 := hc.keep
 have hbd_hc := hc.bd
 refine r_seq ?_
 refine r_region ?_
 refine r_op rfl rfl rfl (run_asg (v := .bool _) rfl (by exact rfl)) ?_
 refine r_nil ?_
 refine r_seq ?_
 refine r_region ?_
 refine r_op rfl rfl rfl (run_mv (v := .slice _ _ _) rfl (by exact rfl)) ?_
 refine r_op rfl rfl rfl (run_lenSl rfl (by exact rfl) Try.underlying22) ?_
 refine r_op rfl rfl rfl (run_asg (v := .int _ _) rfl (by exact rfl)) ?_
 refine r_nil ?_
 refine r_seq ?_
 refine r_seq ?_
 refine r_region ?_
 refine r_op rfl rfl rfl (run_mv (v := .slice _ _ _) rfl (by exact rfl)) ?_
 refine r_op rfl rfl rfl (run_lenSl rfl (by exact rfl) Try.underlying22) ?_
 refine r_op rfl rfl rfl (run_mv (v := .int _ _) rfl (by exact rfl)) ?_
 refine r_nil ?_
 refine r_block ?_
 refine r_loop (α := Nat) [3, 5, 10, 11, 12, 13, 14, 15, 16, 17, 18, 19, 20, 21, 22, 23] (fun k g w => ∃ z : Int, g 10 = .int .i64 (k : Nat) ∧ g 3 = .int .i64 z ∧ k ≤ c.length ∧ w0.heap.size ≤ w.heap.size ∧ Evo w0 w []) (fun k => c.length - k) 0 ?_ ?_
 ·refine ⟨_, (by first | exact rfl | exact congrArg (Value.int _) (by omega) | exact congrArg (Value.int _) (by dsimp only; omega) | exact congrArg (Value.int _) (by simp) | exact congrArg S (by simp)), (by first | exact rfl | exact congrArg (Value.int _) (by omega) | exact congrArg (Value.int _) (by dsimp only; omega) | exact congrArg (Value.int _) (by simp) | exact congrArg S (by simp)), (by first | assumption | omega | (dsimp only; omega) | (simp; done)), (by first | assumption | omega | (dsimp only; omega) | (simp; done)), hV⟩
 ·rintro k g w2 ⟨z, hj3, hj4, hk_k, hzl1, hV⟩
  have hs_w2hV := hV.size
  replace hc := hc0.now hV
  refine r_know (i := 10) (v := .int .i64 (k : Nat)) (by exact hj3) ?_
  refine r_know (i := 3) (v := .int .i64 z) (by exact hj4) ?_
  refine r_seq ?_
  refine r_region ?_
  refine r_op rfl rfl rfl (run_lss rfl (by exact rfl) (by exact rfl)) ?_
  refine r_nil ?_
  refine r_seq ?_
  refine r_cond (by exact rfl) (fun hc5 => ?_) (fun hc5 => ?_)
  ·skip
   refine r_skip ?_
   refine r_seq ?_
   refine r_block ?_
   refine r_seq ?_
   refine r_region ?_
   refine r_op rfl rfl rfl (run_ix (k) rfl Try.underlying22 ty_43 (by exact rfl) (by exact rfl) (by first | exact rfl | omega) (by omega) (hc.addr (i := k) (by omega))) ?_
   obtain ⟨ao6, b6, off6, cap6, hX⟩ := clas_atK hc0 (k) (by omega)
   have hA60 := fun (w' : World) (h : Evo w0 w' []) => (hX w' h).1
   have hA6 := hA60 _ hV
   have hR60 := fun (w' : World) (h : Evo w0 w' []) => (hX w' h).2
   have hR6 := hR60 _ hV
   clear hX
   have hbd_hR6 := hR6.bd
   refine r_op rfl rfl rfl (run_ldN rfl ag_43 ty_43 (by exact rfl) rfl hA6) ?_
   refine r_var (zs := [_, _]) (vs := [_, _]) ty_43 (by exact rfl) rfl (by exact rfl) (fun _ => rfl) (by exact rfl) rfl rfl (by exact rfl) ?_
   intro b7 w8 heb7 hEw8 hbb7 hzb7
   have hs_w8 := (hEw8).size
   replace hV := evo_step0 hV hEw8
   replace hc := hc0.now hV
   replace hR6 := hR60 _ hV
   have hAb7 := hbb7.at
   refine r_nil ?_
   refine r_region ?_
   refine r_op rfl rfl rfl (run_mv (v := .int _ _) rfl (by exact rfl)) ?_
   refine r_op rfl rfl rfl (run_fa rfl (by exact rfl) fo_43_1) ?_
   refine r_op rfl rfl rfl (run_ld1 rfl ag_41 (by exact rfl) (hAb7.cell 1 (by exact rfl))) ?_
   refine r_op rfl rfl rfl (run_lenSl rfl (by exact rfl) Try.underlying41) ?_
   refine r_op rfl rfl rfl (run_fa rfl (by exact rfl) fo_43_0) ?_
   refine r_op rfl rfl rfl (run_ld1 rfl ag_9 (by exact rfl) (hAb7.cell 0 (by exact rfl))) ?_
   refine r_op rfl rfl rfl (run_lenS rfl (by exact rfl) Try.underlying9) ?_
   refine r_op rfl rfl rfl (run_addw rfl (by exact rfl) (by exact rfl)) ?_
   refine r_op rfl rfl rfl (run_addw rfl (by exact rfl) (by exact rfl)) ?_
   refine r_op rfl rfl rfl (run_asg (v := .int _ _) rfl (by exact rfl)) ?_
   refine r_nil ?_
   refine r_blk ?_
   refine r_region ?_
   refine r_op rfl rfl rfl (run_add rfl (by exact rfl) (by exact rfl) (by omega) (by omega)) ?_
   refine r_op rfl rfl rfl (run_mv (v := .int _ _) rfl (by exact rfl)) ?_
   refine r_nil ?_
   refine r_again (k + 1) ?_ ?_ ?_
   ·first | omega | (dsimp only; omega)
   ·refine ⟨_, (by first | exact rfl | exact congrArg (Value.int _) (by omega) | exact congrArg (Value.int _) (by dsimp only; omega) | exact congrArg (Value.int _) (by simp) | exact congrArg S (by simp)), (by first | exact rfl | exact congrArg (Value.int _) (by omega) | exact congrArg (Value.int _) (by dsimp only; omega) | exact congrArg (Value.int _) (by simp) | exact congrArg S (by simp)), (by first | assumption | omega | (dsimp only; omega) | (simp; done)), (by first | assumption | omega | (dsimp only; omega) | (simp; done)), hV⟩
   ·repeat (first | (with_reducible exact Agree.merge _ _ _) | (with_reducible exact Agree.refl _ _) | (with_reducible refine Agree.upd ?_ _ _ rfl) | ((with_reducible refine Agree.inner ?_ ?_); (kernel_rfl)))
  ·skip
   refine r_exit rfl ?_
   refine r_seq ?_
   refine r_region ?_
   refine r_op rfl rfl rfl (run_mv (v := .int _ _) rfl (by exact rfl)) ?_
   refine r_op rfl rfl rfl (run_gtr rfl (by exact rfl) (by exact rfl)) ?_
   refine r_op rfl rfl rfl (run_asg (v := .bool _) rfl (by exact rfl)) ?_
   refine r_nil ?_
   refine r_ret (res1 (v := .bool _) rfl (by exact rfl)) ?_
   exact ⟨_, rfl, hV⟩

end Go.Proofs.Ytomklacppmaljaa
