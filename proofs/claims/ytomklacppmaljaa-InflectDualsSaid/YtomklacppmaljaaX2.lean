import Derived.Test.YtomklacppmaljaaX1
import Derived.Test.YtomklacppmaljaaClr
namespace Go.Proofs.Ytomklacppmaljaa
open Go.RowKit Go.Vc
theorem ag_43 : aggP Try.prog 43 = some true := by kernel_rfl
theorem ag_9 : aggP Try.prog 9 = some false := by kernel_rfl
theorem fo_43_0 : fieldP Try.prog 43 0 = some 0 := by kernel_rfl
theorem ty_43 : tyP Try.prog 43 = some (2, 40, some (.agg #[(.string ⟨#[]⟩), (.slice none 0 0)])) := by kernel_rfl
theorem sl_hs_calls {s t : Str} {w0 : World} (hs : s.length ≤ 140737488355328) (ht : t.length ≤ 140737488355328) :
    Calls Try.prog 148 #[S s, S t] w0 fun e w' => e = .returned (.bool (decide (t <:+ s))) ∧ Evo w0 w' [] := by
 refine calls_enter (n := 21) (args := [S s, S t]) Try.func148 rfl Try.ntmps148 rfl ?_
 have hV : Evo w0 w0 [] := Evo.refl _ _
 refine r_seq ?_
 refine r_region ?_
 refine r_op rfl rfl rfl (run_asg (v := .bool _) rfl (by exact rfl)) ?_
 refine r_nil ?_
 refine r_seq ?_
 refine r_region ?_
 refine r_op rfl rfl rfl (run_mv (v := S _) rfl (by exact rfl)) ?_
 refine r_op rfl rfl rfl (run_lenS rfl (by exact rfl) Try.underlying9) ?_
 refine r_op rfl rfl rfl (run_mv (v := S _) rfl (by exact rfl)) ?_
 refine r_op rfl rfl rfl (run_lenS rfl (by exact rfl) Try.underlying9) ?_
 refine r_op rfl rfl rfl (run_geq rfl (by exact rfl) (by exact rfl)) ?_
 refine r_op rfl rfl rfl (run_mv (v := .bool _) rfl (by exact rfl)) ?_
 refine r_g rfl (wantT (by exact rfl)) rfl (fun hg => run_mv (v := S _) rfl (by exact rfl)) ?_
 refine r_g rfl (wantT (by exact rfl)) rfl (fun hg => run_mv (v := S _) rfl (by exact rfl)) ?_
 refine r_g rfl (wantT (by exact rfl)) rfl (fun hg => run_lenS rfl (glv (by exact rfl) (fun h => h) hg) Try.underlying9) ?_
 refine r_g rfl (wantT (by exact rfl)) rfl (fun hg => run_mv (v := S _) rfl (by exact rfl)) ?_
 refine r_g rfl (wantT (by exact rfl)) rfl (fun hg => run_lenS rfl (glv (by exact rfl) (fun h => h) hg) Try.underlying9) ?_
 refine r_g rfl (wantT (by exact rfl)) rfl (fun hg => run_sub rfl (glv (by exact rfl) (fun h => h) hg) (glv (by exact rfl) (fun h => h) hg) (by omega) (by omega)) ?_
 refine r_g rfl (wantT (by exact rfl)) rfl (fun hg => run_slS ((s.length - t.length)) (_) rfl Try.underlying9 (glv (by exact rfl) (fun h => h) hg) (at1 (glv (by exact rfl) (fun h => h) hg) (by omega)) hi0 (by first | omega | (simp; omega)) (by first | omega | (simp; omega))) ?_
 refine r_g rfl (wantT (by exact rfl)) rfl (fun hg => run_mv (v := S _) rfl (by exact rfl)) ?_
 refine r_g rfl (wantT (by exact rfl)) rfl (fun hg => run_seql rfl (glv (by exact rfl) (fun h => h) hg) (glv (by exact rfl) (fun h => h) hg)) ?_
 refine r_op rfl rfl rfl (run_pick_and rfl (by exact rfl) (fun hq => glv (by exact rfl) (fun h => h) hq) rfl) ?_
 refine r_op rfl rfl rfl (run_asg (v := .bool _) rfl (by exact rfl)) ?_
 refine r_nil ?_
 refine r_ret (res1 (v := .bool _) rfl (by exact rfl)) ?_
 exact ⟨ret_bool (by rw [Bool.eq_iff_iff, decide_eq_true_iff, decide_eq_true_iff, suffix_iff2]; first | omega | (constructor <;> (rintro ⟨h1, h2⟩; exact ⟨by omega, h2⟩))), hV⟩

theorem sl_cs_calls {s t : Str} {w0 : World} (hs : s.length ≤ 140737488355328) (ht : t.length ≤ 140737488355328) :
    Calls Try.prog 113 #[S s, S t] w0 fun e w' => e = .returned (.tuple #[S (if t <:+ s then s.take (s.length - t.length) else s), .bool (decide (t <:+ s))]) ∧ Evo w0 w' [] := by
 refine calls_enter (n := 18) (args := [S s, S t]) Try.func113 rfl Try.ntmps113 rfl ?_
 have hV : Evo w0 w0 [] := Evo.refl _ _
 refine r_seq ?_
 refine r_region ?_
 refine r_op rfl rfl rfl (run_asg (v := S _) rfl (by exact rfl)) ?_
 refine r_op rfl rfl rfl (run_asg (v := .bool _) rfl (by exact rfl)) ?_
 refine r_nil ?_
 refine r_seq ?_
 refine r_seq ?_
 refine r_region ?_
 refine r_op rfl rfl rfl (run_mv (v := S _) rfl (by exact rfl)) ?_
 refine r_op rfl rfl rfl (run_mv (v := S _) rfl (by exact rfl)) ?_
 refine r_opcall rfl rfl rfl (run_callf (vs := [S _, S _]) rfl (by exact rfl) Try.func148 rfl (by kernel_rfl)) (sl_hs_calls (by first | omega | (simp; omega)) (by first | omega | (simp; omega))) ?_
 rintro e w1 ⟨rfl, hE1⟩
 refine ⟨_, rfl, ?_⟩
 have hs_w1 := (hE1).size
 replace hV := evo_step0 hV hE1
 refine r_op rfl rfl rfl (run_notb rfl (by exact rfl)) ?_
 refine r_nil ?_
 refine r_condb (by exact rfl) (fun hc2 => ?_) (fun hc2 => ?_)
 ·skip
  refine r_seq ?_
  refine r_region ?_
  refine r_op rfl rfl rfl (run_mv (v := S _) rfl (by exact rfl)) ?_
  refine r_op rfl rfl rfl (run_asg (v := S _) rfl (by exact rfl)) ?_
  refine r_op rfl rfl rfl (run_asg (v := .bool _) rfl (by exact rfl)) ?_
  refine r_nil ?_
  refine r_ret (res2 (v := S _) (u := .bool _) rfl (by exact rfl) (by exact rfl)) ?_
  exact ⟨by rw [if_neg (by simpa using hc2)]; simp_all, hV⟩
 ·skip
  refine r_skip ?_
  refine r_seq ?_
  have hsx := (suffix_iff.1 (by simpa using hc2 : t <:+ s)).1
  refine r_region ?_
  refine r_op rfl rfl rfl (run_mv (v := S _) rfl (by exact rfl)) ?_
  refine r_op rfl rfl rfl (run_mv (v := S _) rfl (by exact rfl)) ?_
  refine r_op rfl rfl rfl (run_lenS rfl (by exact rfl) Try.underlying9) ?_
  refine r_op rfl rfl rfl (run_mv (v := S _) rfl (by exact rfl)) ?_
  refine r_op rfl rfl rfl (run_lenS rfl (by exact rfl) Try.underlying9) ?_
  refine r_op rfl rfl rfl (run_sub rfl (by exact rfl) (by exact rfl) (by omega) (by omega)) ?_
  refine r_op rfl rfl rfl (by exact run_slS (0) ((s.length - t.length)) rfl Try.underlying9 (by exact rfl) lo0 (at1 (by exact rfl) (by omega)) (by first | omega | (simp; omega)) (by first | omega | (simp; omega))) ?_
  refine r_op rfl rfl rfl (run_asg (v := S _) rfl (by exact rfl)) ?_
  refine r_op rfl rfl rfl (run_asg (v := .bool _) rfl (by exact rfl)) ?_
  refine r_nil ?_
  refine r_ret (res2 (v := S _) (u := .bool _) rfl (by exact rfl) (by exact rfl)) ?_
  exact ⟨by rw [if_pos (by simpa using hc2)]; simp_all, hV⟩

theorem s_cs_calls {s t : Str} {w0 : World} (hs : s.length ≤ 140737488355328) (ht : t.length ≤ 140737488355328) :
    Calls Try.prog 72 #[S s, S t] w0 fun e w' => e = .returned (.tuple #[S (if t <:+ s then s.take (s.length - t.length) else s), .bool (decide (t <:+ s))]) ∧ Evo w0 w' [] := by
 refine calls_enter (n := 11) (args := [S s, S t]) Try.func72 rfl Try.ntmps72 rfl ?_
 have hV : Evo w0 w0 [] := Evo.refl _ _
 refine r_seq ?_
 refine r_region ?_
 refine r_op rfl rfl rfl (run_asg (v := S _) rfl (by exact rfl)) ?_
 refine r_op rfl rfl rfl (run_asg (v := .bool _) rfl (by exact rfl)) ?_
 refine r_nil ?_
 refine r_seq ?_
 refine r_region ?_
 refine r_op rfl rfl rfl (run_mv (v := S _) rfl (by exact rfl)) ?_
 refine r_op rfl rfl rfl (run_mv (v := S _) rfl (by exact rfl)) ?_
 refine r_opcall rfl rfl rfl (run_callf (vs := [S _, S _]) rfl (by exact rfl) Try.func113 rfl (by kernel_rfl)) (sl_cs_calls (by first | omega | (simp; omega)) (by first | omega | (simp; omega))) ?_
 rintro e w1 ⟨rfl, hE1⟩
 refine ⟨_, rfl, ?_⟩
 have hs_w1 := (hE1).size
 replace hV := evo_step0 hV hE1
 refine r_op rfl rfl rfl (run_extract (v := S _) rfl (by exact rfl) (by exact rfl)) ?_
 refine r_op rfl rfl rfl (run_extract (v := .bool _) rfl (by exact rfl) (by exact rfl)) ?_
 refine r_op rfl rfl rfl (run_asg (v := S _) rfl (by exact rfl)) ?_
 refine r_op rfl rfl rfl (run_asg (v := .bool _) rfl (by exact rfl)) ?_
 refine r_nil ?_
 refine r_ret (res2 (v := S _) (u := .bool _) rfl (by exact rfl) (by exact rfl)) ?_
 exact ⟨rfl, hV⟩

theorem turned_calls {s t y : Str} {w0 : World} (hs : s.length ≤ 140737488355328) (ht : t.length ≤ 140737488355328) (hy : y.length ≤ 140737488355328) :
    Calls Try.prog 76 #[S s, S t, S y] w0 fun e w' => e = .returned (.tuple #[S ((turnL s t y).getD []), .bool (turnL s t y).isSome]) ∧ Evo w0 w' [] := by
 refine calls_enter (n := 28) (args := [S s, S t, S y]) Try.func76 rfl Try.ntmps76 rfl ?_
 have hV : Evo w0 w0 [] := Evo.refl _ _
 refine r_seq ?_
 refine r_region ?_
 refine r_op rfl rfl rfl (run_asg (v := S _) rfl (by exact rfl)) ?_
 refine r_op rfl rfl rfl (run_asg (v := .bool _) rfl (by exact rfl)) ?_
 refine r_nil ?_
 refine r_seq ?_
 refine r_region ?_
 refine r_op rfl rfl rfl (run_mv (v := S _) rfl (by exact rfl)) ?_
 refine r_op rfl rfl rfl (run_lenS rfl (by exact rfl) Try.underlying9) ?_
 refine r_op rfl rfl rfl (run_mv (v := S _) rfl (by exact rfl)) ?_
 refine r_op rfl rfl rfl (run_lenS rfl (by exact rfl) Try.underlying9) ?_
 refine r_op rfl rfl rfl (run_sub rfl (by exact rfl) (by exact rfl) (by omega) (by omega)) ?_
 refine r_op rfl rfl rfl (run_asg (v := .int _ _) rfl (by exact rfl)) ?_
 refine r_nil ?_
 refine r_seq ?_
 refine r_seq ?_
 refine r_region ?_
 refine r_op rfl rfl rfl (run_mv (v := .int _ _) rfl (by exact rfl)) ?_
 refine r_op rfl rfl rfl (run_lss rfl (by exact rfl) (by exact rfl)) ?_
 refine r_op rfl rfl rfl (run_mv (v := .bool _) rfl (by exact rfl)) ?_
 refine r_g rfl (wantF (by exact rfl)) rfl (fun hg => run_mv (v := S _) rfl (by exact rfl)) ?_
 refine r_g rfl (wantF (by exact rfl)) rfl (fun hg => run_mv (v := .int _ _) rfl (by exact rfl)) ?_
 refine r_g rfl (wantF (by exact rfl)) rfl (fun hg => run_slS ((s.length - t.length)) (_) rfl Try.underlying9 (glv (by exact rfl) (fun h => h) hg) (at1 (glv (by exact rfl) (fun h => h) hg) (by omega)) hi0 (by first | omega | (simp; omega)) (by first | omega | (simp; omega))) ?_
 refine r_g rfl (wantF (by exact rfl)) rfl (fun hg => run_mv (v := S _) rfl (by exact rfl)) ?_
 refine r_g rfl (wantF (by exact rfl)) rfl (fun hg => run_sneq rfl (glv (by exact rfl) (fun h => h) hg) (glv (by exact rfl) (fun h => h) hg)) ?_
 refine r_op rfl rfl rfl (run_pick_or rfl (by exact rfl) rfl (fun hq => glv (by exact rfl) (fun h => h) hq)) ?_
 refine r_nil ?_
 refine r_cond (by exact rfl) (fun hc1 => ?_) (fun hc1 => ?_)
 ·skip
  refine r_seq ?_
  refine r_region ?_
  refine r_op rfl rfl rfl (run_asg (v := S _) rfl (by exact rfl)) ?_
  refine r_op rfl rfl rfl (run_asg (v := .bool _) rfl (by exact rfl)) ?_
  refine r_nil ?_
  refine r_ret (res2 (v := S _) (u := .bool _) rfl (by exact rfl) (by exact rfl)) ?_
  exact ⟨by unfold turnL; rw [if_neg (by rw [suffix_iff2]; first | omega | (rintro ⟨h1, h2⟩; exact hc1.elim (fun h => by omega) (fun h => h h2)))]; rfl, hV⟩
 ·skip
  refine r_skip ?_
  refine r_seq ?_
  refine r_region ?_
  refine r_op rfl rfl rfl (run_mv (v := S _) rfl (by exact rfl)) ?_
  refine r_op rfl rfl rfl (run_mv (v := .int _ _) rfl (by exact rfl)) ?_
  refine r_op rfl rfl rfl (by exact run_slS (0) ((s.length - t.length)) rfl Try.underlying9 (by exact rfl) lo0 (at1 (by exact rfl) (by omega)) (by first | omega | (simp; omega)) (by first | omega | (simp; omega))) ?_
  refine r_op rfl rfl rfl (run_mv (v := S _) rfl (by exact rfl)) ?_
  refine r_op rfl rfl rfl (run_sadd rfl (by exact rfl) (by exact rfl) (by first | omega | (simp; omega))) ?_
  refine r_op rfl rfl rfl (run_asg (v := S _) rfl (by exact rfl)) ?_
  refine r_op rfl rfl rfl (run_asg (v := .bool _) rfl (by exact rfl)) ?_
  refine r_nil ?_
  refine r_ret (res2 (v := S _) (u := .bool _) rfl (by exact rfl) (by exact rfl)) ?_
  exact ⟨by unfold turnL; rw [if_pos (suffix_iff2.2 ⟨by omega, by have h9 := not_or.1 hc1; exact Classical.not_not.1 h9.2⟩)]; rfl, hV⟩

theorem rfind_calls {ao : Option Addr} {b off cap : Nat} {c : List Clas} {n : Str} {w0 : World} (hc : RowR w0 ao b off cap c) :
    Calls Try.prog 27 #[.slice ao c.length cap, S n] w0 fun e w' => e = .returned (.int .i64 (findC c n)) ∧ Evo w0 w' [] := by
 refine calls_enter (n := 20) (args := [.slice ao c.length cap, S n]) Try.func27 rfl Try.ntmps27 rfl ?_
 have hV : Evo w0 w0 [] := Evo.refl _ _
 have hc0 := hc.keep
 have hbd_hc := hc.bd
 refine r_seq ?_
 refine r_region ?_
 refine r_op rfl rfl rfl (run_asg (v := .int _ _) rfl (by exact rfl)) ?_
 refine r_nil ?_
 refine r_seq ?_
 refine r_seq ?_
 refine r_region ?_
 refine r_op rfl rfl rfl (run_mv (v := .slice _ _ _) rfl (by exact rfl)) ?_
 refine r_op rfl rfl rfl (run_lenSl rfl (by exact rfl) Try.underlying22) ?_
 refine r_op rfl rfl rfl (run_mv (v := .int _ _) rfl (by exact rfl)) ?_
 refine r_nil ?_
 refine r_block ?_
 refine r_loop (α := Nat) [4, 5, 6, 9, 10, 11, 12, 13, 14, 15, 16, 17, 18, 19] (fun k g w => g 9 = .int .i64 (k : Nat) ∧ k ≤ c.length ∧ (∀ j, j < k → ¬ (c.getD j default).name = n) ∧ w0.heap.size ≤ w.heap.size ∧ Evo w0 w []) (fun k => c.length - k) 0 ?_ ?_
 ·refine ⟨(by first | exact rfl | exact congrArg (Value.int _) (by omega) | exact congrArg (Value.int _) (by dsimp only; omega) | exact congrArg (Value.int _) (by simp) | exact congrArg S (by simp)), (by first | assumption | omega | (dsimp only; omega) | (simp; done)), (fun j h => by omega), (by first | assumption | omega | (dsimp only; omega) | (simp; done)), hV⟩
 ·rintro k g w2 ⟨hj3, hk_k, hno, hzl1, hV⟩
  have hs_w2hV := hV.size
  replace hc := hc0.now hV
  refine r_know (i := 9) (v := .int .i64 (k : Nat)) (by exact hj3) ?_
  refine r_seq ?_
  refine r_region ?_
  refine r_op rfl rfl rfl (run_lss rfl (by exact rfl) (by exact rfl)) ?_
  refine r_nil ?_
  refine r_seq ?_
  refine r_cond (by exact rfl) (fun hc4 => ?_) (fun hc4 => ?_)
  ·skip
   refine r_skip ?_
   refine r_seq ?_
   refine r_block ?_
   refine r_seq ?_
   refine r_region ?_
   refine r_op rfl rfl rfl (run_mv (v := .int _ _) rfl (by exact rfl)) ?_
   refine r_op rfl rfl rfl (run_ix (k) rfl Try.underlying22 ty_43 (by exact rfl) (by exact rfl) (by first | exact rfl | omega) (by omega) (hc.addr (i := k) (by omega))) ?_
   obtain ⟨ao5, b5, off5, cap5, hX⟩ := clas_atK hc0 (k) (by omega)
   have hA50 := fun (w' : World) (h : Evo w0 w' []) => (hX w' h).1
   have hA5 := hA50 _ hV
   have hR50 := fun (w' : World) (h : Evo w0 w' []) => (hX w' h).2
   have hR5 := hR50 _ hV
   clear hX
   have hbd_hR5 := hR5.bd
   refine r_op rfl rfl rfl (run_ldN rfl ag_43 ty_43 (by exact rfl) rfl hA5) ?_
   refine r_alloc (zs := [_, _]) ty_43 (by exact rfl) rfl ?_
   intro b6 w7 heb6 hEw7 hbb6 hzb6
   have hs_w7 := (hEw7).size
   replace hV := evo_step0 hV hEw7
   replace hc := hc0.now hV
   replace hA5 := hA50 _ hV
   replace hR5 := hR50 _ hV
   have hAb6 := hbb6.at
   refine r_op rfl rfl rfl (run_asg (v := .int _ _) rfl (by exact rfl)) ?_
   refine r_store (v := .agg _) (vs := [_, _]) (cs' := [_, _]) (by exact rfl) (by exact rfl) hbb6 ty_43 (by exact rfl) rfl (by exact rfl) rfl (by exact rfl) ?_
   intro w8 hEw8 hzw8 hb_new
   have hs_w8 := (hEw8).size
   replace hV := evo_step1 hV hEw8 (by first | exact .inl (by omega) | exact .inr (by simp))
   replace hc := hc0.now hV
   replace hbb6 := hb_new
   have hAb6 := hbb6.at
   clear hb_new
   refine r_nil ?_
   refine r_seq ?_
   refine r_region ?_
   refine r_op rfl rfl rfl (run_fa rfl (by exact rfl) fo_43_0) ?_
   refine r_op rfl rfl rfl (run_ld1 rfl ag_9 (by exact rfl) (hAb6.cell 0 (by exact rfl))) ?_
   refine r_op rfl rfl rfl (run_mv (v := S _) rfl (by exact rfl)) ?_
   refine r_op rfl rfl rfl (run_seql rfl (by exact rfl) (by exact rfl)) ?_
   refine r_nil ?_
   refine r_cond (by exact rfl) (fun hc9 => ?_) (fun hc9 => ?_)
   ·skip
    refine r_seq ?_
    refine r_region ?_
    refine r_op rfl rfl rfl (run_mv (v := .int _ _) rfl (by exact rfl)) ?_
    refine r_op rfl rfl rfl (run_asg (v := .int _ _) rfl (by exact rfl)) ?_
    refine r_nil ?_
    refine r_ret (res1 (v := .int _ _) rfl (by exact rfl)) ?_
    exact ⟨ret_int (by rw [findC_at (k := k) (by omega) hno hc9]), hV⟩
   ·skip
    refine r_skip ?_
    refine r_blk ?_
    refine r_region ?_
    refine r_op rfl rfl rfl (run_add rfl (by exact rfl) (by exact rfl) (by omega) (by omega)) ?_
    refine r_op rfl rfl rfl (run_mv (v := .int _ _) rfl (by exact rfl)) ?_
    refine r_nil ?_
    refine r_again (k + 1) ?_ ?_ ?_
    ·first | omega | (dsimp only; omega)
    ·refine ⟨(by first | exact rfl | exact congrArg (Value.int _) (by omega) | exact congrArg (Value.int _) (by dsimp only; omega) | exact congrArg (Value.int _) (by simp) | exact congrArg S (by simp)), (by first | assumption | omega | (dsimp only; omega) | (simp; done)), (upto0 hno (by assumption)), (by first | assumption | omega | (dsimp only; omega) | (simp; done)), hV⟩
    ·repeat (first | (with_reducible exact Agree.merge _ _ _) | (with_reducible exact Agree.refl _ _) | (with_reducible refine Agree.upd ?_ _ _ rfl) | ((with_reducible refine Agree.inner ?_ ?_); (kernel_rfl)))
  ·skip
   refine r_exit rfl ?_
   refine r_seq ?_
   refine r_region ?_
   refine r_op rfl rfl rfl (run_asg (v := .int _ _) rfl (by exact rfl)) ?_
   refine r_nil ?_
   refine r_ret (res1 (v := .int _ _) rfl (by exact rfl)) ?_
   exact ⟨ret_int (by rw [findC_none (fun j hj => hno j (by omega))]), hV⟩

end Go.Proofs.Ytomklacppmaljaa
