import Derived.Test.YtomklacppmaljaaX2
namespace Go.Proofs.Ytomklacppmaljaa
open Go.RowKit Go.Vc
theorem ty_9 : tyP Try.prog 9 = some (1, 16, some (.string ⟨#[]⟩)) := by kernel_rfl
theorem radd_calls {ao : Option Addr} {b off cap : Nat} {l : List Str} {x : Str} {w0 : World} (hl : RowE w0 ao b off cap l) (hs : l.length ≤ 4398046511104) :
    Calls Try.prog 77 #[.slice ao l.length cap, S x] w0 fun e w' => ∃ v, e = .returned v ∧ Evo w0 w' [] ∧ OwnE w' w0.heap.size 9 v (addS l x) := by
 refine calls_enter (n := 41) (args := [.slice ao l.length cap, S x]) Try.func77 rfl Try.ntmps77 rfl ?_
 have hV : Evo w0 w0 [] := Evo.refl _ _
 have hl0 := keepE hl
 have hbd_hl := hl.bd
 refine r_seq ?_
 refine r_region ?_
 refine r_op rfl rfl rfl (run_asg (v := .slice _ _ _) rfl (by exact rfl)) ?_
 refine r_nil ?_
 refine r_seq ?_
 refine r_region ?_
 refine r_op rfl rfl rfl (run_asg (v := .slice _ _ _) rfl (by exact rfl)) ?_
 refine r_nil ?_
 refine r_seq ?_
 refine r_region ?_
 refine r_op rfl rfl rfl (run_asg (v := .bool _) rfl (by exact rfl)) ?_
 refine r_nil ?_
 refine r_seq ?_
 refine r_seq ?_
 refine r_region ?_
 refine r_op rfl rfl rfl (run_mv (v := .slice _ _ _) rfl (by exact rfl)) ?_
 refine r_op rfl rfl rfl (run_lenSl rfl (by exact rfl) Try.underlying34) ?_
 refine r_op rfl rfl rfl (run_mv (v := .int _ _) rfl (by exact rfl)) ?_
 refine r_nil ?_
 refine r_block ?_
 refine r_loop (α := Nat) [5, 6, 8, 11, 12, 13, 14, 15, 16, 17, 18, 19, 20, 21, 22, 23, 24, 25, 26, 27, 28, 29, 30, 31, 32, 33] (fun k g w => ∃ vo : Value, ∃ d : Bool, ∃ o : List Str, g 11 = .int .i64 (k : Nat) ∧ g 5 = vo ∧ g 6 = .bool d ∧ k ≤ l.length ∧ OwnE w w0.heap.size 9 vo o ∧ AddR d o l x k ∧ w0.heap.size ≤ w.heap.size ∧ Evo w0 w []) (fun k => l.length - k) 0 ?_ ?_
 ·refine ⟨_, false, [], (by first | exact rfl | exact congrArg (Value.int _) (by omega) | exact congrArg (Value.int _) (by dsimp only; omega) | exact congrArg (Value.int _) (by simp) | exact congrArg S (by simp)), rfl, rfl, (by first | assumption | omega | (dsimp only; omega) | (simp; done)), (OwnE.nil _ _ _), addR_zero, (by first | assumption | omega | (dsimp only; omega) | (simp; done)), hV⟩
 ·rintro k g w2 ⟨vo, d, o, hj3, hj4, hj5, hk_k, hoo, hr, hzl1, hV⟩
  have hs_w2hV := hV.size
  replace hl := hl0 _ hV
  refine r_know (i := 11) (v := .int .i64 (k : Nat)) (by exact hj3) ?_
  refine r_know (i := 5) (v := vo) (by exact hj4) ?_
  refine r_know (i := 6) (v := .bool d) (by exact hj5) ?_
  have hol := addR_len hr (by omega)
  refine r_seq ?_
  refine r_region ?_
  refine r_op rfl rfl rfl (run_lss rfl (by exact rfl) (by exact rfl)) ?_
  refine r_nil ?_
  refine r_seq ?_
  refine r_cond (by exact rfl) (fun hc6 => ?_) (fun hc6 => ?_)
  ·skip
   refine r_skip ?_
   refine r_seq ?_
   refine r_block ?_
   refine r_seq ?_
   refine r_region ?_
   refine r_op rfl rfl rfl (run_ix (k) rfl Try.underlying34 ty_9 (by exact rfl) (by exact rfl) (by first | exact rfl | omega) (by omega) (hl.addr (i := k) (by omega))) ?_
   have hA70 := fun (w' : World) (h : Evo w0 w' []) => (hl0 w' h).atD (k) (by omega)
   have hA7 := hA70 _ hV
   refine r_op rfl rfl rfl (run_ld1 rfl ag_9 (by exact rfl) (hA7.cell 0 (by exact rfl))) ?_
   refine r_op rfl rfl rfl (run_asg (v := S _) rfl (by exact rfl)) ?_
   refine r_nil ?_
   refine r_seq ?_
   refine r_seq ?_
   refine r_region ?_
   refine r_op rfl rfl rfl (run_mvb rfl (by exact rfl)) ?_
   refine r_op rfl rfl rfl (run_not rfl (by exact rfl)) ?_
   refine r_op rfl rfl rfl (run_mv (v := .bool _) rfl (by exact rfl)) ?_
   refine r_g rfl (wantT (by exact rfl)) rfl (fun hg => run_mv (v := S _) rfl (by exact rfl)) ?_
   refine r_g rfl (wantT (by exact rfl)) rfl (fun hg => run_mv (v := S _) rfl (by exact rfl)) ?_
   refine r_g rfl (wantT (by exact rfl)) rfl (fun hg => run_sleqD rfl (glv (by exact rfl) (fun h => h) hg) (glv (by exact rfl) (fun h => h) hg)) ?_
   refine r_op rfl rfl rfl (run_pick_and rfl (by exact rfl) (fun hq => glv (by exact rfl) (fun h => h) hq) rfl) ?_
   refine r_nil ?_
   refine r_cond (by exact rfl) (fun hc8 => ?_) (fun hc8 => ?_)
   ·skip
    refine r_seq ?_
    refine r_seq ?_
    refine r_region ?_
    refine r_op rfl rfl rfl (run_mv (v := S _) rfl (by exact rfl)) ?_
    refine r_op rfl rfl rfl (run_mv (v := S _) rfl (by exact rfl)) ?_
    refine r_op rfl rfl rfl (run_slssD rfl (by exact rfl) (by exact rfl)) ?_
    refine r_nil ?_
    refine r_cond (by exact rfl) (fun hc9 => ?_) (fun hc9 => ?_)
    ·skip
     refine r_region ?_
     refine r_op rfl rfl rfl (run_mv (v := vo) rfl (by exact rfl)) ?_
     refine r_op rfl rfl rfl (run_mv (v := S _) rfl (by exact rfl)) ?_
     refine r_append1E (u := S _) (y := _) rfl rfl Try.underlying34 ty_9 (by exact rfl) hoo (fun _ => (by exact rfl)) (by exact rfl) (by first | exact rfl | (show _ = List.toArray [_]; first | (dsimp only; done) | exact rfl | (dsimp only; exact rfl))) ((by first | omega | (simp; omega))) ((by first | omega | (simp; omega))) (by omega) ?_
     intro q_v10 v10 w11 hEw11 hov10 hlv10
     have hs_w11 := (hEw11).size
     replace hV := evo_stepo hV hEw11 (fun g hg => .inl (by first | exact (hoo.block hg).1 | (have := hoo.block hg; omega)))
     replace hl := hl0 _ hV
     refine r_op rfl rfl rfl (run_asg (v := v10) rfl (by exact rfl)) ?_
     refine r_nil ?_
     refine r_region ?_
     refine r_op rfl rfl rfl (run_asg (v := .bool _) rfl (by exact rfl)) ?_
     refine r_nil ?_
     refine r_region ?_
     refine r_op rfl rfl rfl (run_mv (v := v10) rfl (by exact rfl)) ?_
     refine r_op rfl rfl rfl (run_mv (v := S _) rfl (by exact rfl)) ?_
     refine r_append1E (u := S _) (y := _) rfl rfl Try.underlying34 ty_9 (by exact rfl) hov10 (fun _ => (by exact rfl)) (by exact rfl) (by first | exact rfl | (show _ = List.toArray [_]; first | (dsimp only; done) | exact rfl | (dsimp only; exact rfl))) ((by first | omega | (simp; omega))) ((by first | omega | (simp; omega))) (by omega) ?_
     intro q_v12 v12 w13 hEw13 hov12 hlv12
     have hs_w13 := (hEw13).size
     replace hV := evo_stepo hV hEw13 (fun g hg => .inl (by first | exact (hov10.block hg).1 | (have := hov10.block hg; omega)))
     replace hl := hl0 _ hV
     refine r_op rfl rfl rfl (run_asg (v := v12) rfl (by exact rfl)) ?_
     refine r_nil ?_
     refine r_blk ?_
     refine r_region ?_
     refine r_op rfl rfl rfl (run_add rfl (by exact rfl) (by exact rfl) (by omega) (by omega)) ?_
     refine r_op rfl rfl rfl (run_mv (v := .int _ _) rfl (by exact rfl)) ?_
     refine r_nil ?_
     refine r_again (k + 1) ?_ ?_ ?_
     ·first | omega | (dsimp only; omega)
     ·refine ⟨_, _, _, (by first | exact rfl | exact congrArg (Value.int _) (by omega) | exact congrArg (Value.int _) (by dsimp only; omega) | exact congrArg (Value.int _) (by simp) | exact congrArg S (by simp)), rfl, rfl, (by first | assumption | omega | (dsimp only; omega) | (simp; done)), hov12, (by first | exact addR_ins2 hr (by omega) (by assumption) (by assumption) | exact addR_eq2 hr (by omega) (by assumption) (by assumption) | exact addR_go2 hr (by omega) (by assumption)), (by first | assumption | omega | (dsimp only; omega) | (simp; done)), hV⟩
     ·repeat (first | (with_reducible exact Agree.merge _ _ _) | (with_reducible exact Agree.refl _ _) | (with_reducible refine Agree.upd ?_ _ _ rfl) | ((with_reducible refine Agree.inner ?_ ?_); (kernel_rfl)))
    ·skip
     refine r_skip ?_
     refine r_region ?_
     refine r_op rfl rfl rfl (run_asg (v := .bool _) rfl (by exact rfl)) ?_
     refine r_nil ?_
     refine r_region ?_
     refine r_op rfl rfl rfl (run_mv (v := vo) rfl (by exact rfl)) ?_
     refine r_op rfl rfl rfl (run_mv (v := S _) rfl (by exact rfl)) ?_
     refine r_append1E (u := S _) (y := _) rfl rfl Try.underlying34 ty_9 (by exact rfl) hoo (fun _ => (by exact rfl)) (by exact rfl) (by first | exact rfl | (show _ = List.toArray [_]; first | (dsimp only; done) | exact rfl | (dsimp only; exact rfl))) ((by first | omega | (simp; omega))) ((by first | omega | (simp; omega))) (by omega) ?_
     intro q_v14 v14 w15 hEw15 hov14 hlv14
     have hs_w15 := (hEw15).size
     replace hV := evo_stepo hV hEw15 (fun g hg => .inl (by first | exact (hoo.block hg).1 | (have := hoo.block hg; omega)))
     replace hl := hl0 _ hV
     refine r_op rfl rfl rfl (run_asg (v := v14) rfl (by exact rfl)) ?_
     refine r_nil ?_
     refine r_blk ?_
     refine r_region ?_
     refine r_op rfl rfl rfl (run_add rfl (by exact rfl) (by exact rfl) (by omega) (by omega)) ?_
     refine r_op rfl rfl rfl (run_mv (v := .int _ _) rfl (by exact rfl)) ?_
     refine r_nil ?_
     refine r_again (k + 1) ?_ ?_ ?_
     ·first | omega | (dsimp only; omega)
     ·refine ⟨_, _, _, (by first | exact rfl | exact congrArg (Value.int _) (by omega) | exact congrArg (Value.int _) (by dsimp only; omega) | exact congrArg (Value.int _) (by simp) | exact congrArg S (by simp)), rfl, rfl, (by first | assumption | omega | (dsimp only; omega) | (simp; done)), hov14, (by first | exact addR_ins2 hr (by omega) (by assumption) (by assumption) | exact addR_eq2 hr (by omega) (by assumption) (by assumption) | exact addR_go2 hr (by omega) (by assumption)), (by first | assumption | omega | (dsimp only; omega) | (simp; done)), hV⟩
     ·repeat (first | (with_reducible exact Agree.merge _ _ _) | (with_reducible exact Agree.refl _ _) | (with_reducible refine Agree.upd ?_ _ _ rfl) | ((with_reducible refine Agree.inner ?_ ?_); (kernel_rfl)))
   ·skip
    refine r_skip ?_
    refine r_region ?_
    refine r_op rfl rfl rfl (run_mv (v := vo) rfl (by exact rfl)) ?_
    refine r_op rfl rfl rfl (run_mv (v := S _) rfl (by exact rfl)) ?_
    refine r_append1E (u := S _) (y := _) rfl rfl Try.underlying34 ty_9 (by exact rfl) hoo (fun _ => (by exact rfl)) (by exact rfl) (by first | exact rfl | (show _ = List.toArray [_]; first | (dsimp only; done) | exact rfl | (dsimp only; exact rfl))) ((by first | omega | (simp; omega))) ((by first | omega | (simp; omega))) (by omega) ?_
    intro q_v16 v16 w17 hEw17 hov16 hlv16
    have hs_w17 := (hEw17).size
    replace hV := evo_stepo hV hEw17 (fun g hg => .inl (by first | exact (hoo.block hg).1 | (have := hoo.block hg; omega)))
    replace hl := hl0 _ hV
    refine r_op rfl rfl rfl (run_asg (v := v16) rfl (by exact rfl)) ?_
    refine r_nil ?_
    refine r_blk ?_
    refine r_region ?_
    refine r_op rfl rfl rfl (run_add rfl (by exact rfl) (by exact rfl) (by omega) (by omega)) ?_
    refine r_op rfl rfl rfl (run_mv (v := .int _ _) rfl (by exact rfl)) ?_
    refine r_nil ?_
    refine r_again (k + 1) ?_ ?_ ?_
    ·first | omega | (dsimp only; omega)
    ·refine ⟨_, _, _, (by first | exact rfl | exact congrArg (Value.int _) (by omega) | exact congrArg (Value.int _) (by dsimp only; omega) | exact congrArg (Value.int _) (by simp) | exact congrArg S (by simp)), rfl, rfl, (by first | assumption | omega | (dsimp only; omega) | (simp; done)), hov16, (by first | exact addR_ins2 hr (by omega) (by assumption) (by assumption) | exact addR_eq2 hr (by omega) (by assumption) (by assumption) | exact addR_go2 hr (by omega) (by assumption)), (by first | assumption | omega | (dsimp only; omega) | (simp; done)), hV⟩
    ·repeat (first | (with_reducible exact Agree.merge _ _ _) | (with_reducible exact Agree.refl _ _) | (with_reducible refine Agree.upd ?_ _ _ rfl) | ((with_reducible refine Agree.inner ?_ ?_); (kernel_rfl)))
  ·skip
   refine r_exit rfl ?_
   refine r_seq ?_
   refine r_seq ?_
   refine r_region ?_
   refine r_op rfl rfl rfl (run_mvb rfl (by exact rfl)) ?_
   refine r_op rfl rfl rfl (run_not rfl (by exact rfl)) ?_
   refine r_nil ?_
   refine r_cond (by exact rfl) (fun hc18 => ?_) (fun hc18 => ?_)
   ·skip
    refine r_region ?_
    refine r_op rfl rfl rfl (run_mv (v := vo) rfl (by exact rfl)) ?_
    refine r_op rfl rfl rfl (run_mv (v := S _) rfl (by exact rfl)) ?_
    refine r_append1E (u := S _) (y := _) rfl rfl Try.underlying34 ty_9 (by exact rfl) hoo (fun _ => (by exact rfl)) (by exact rfl) (by first | exact rfl | (show _ = List.toArray [_]; first | (dsimp only; done) | exact rfl | (dsimp only; exact rfl))) ((by first | omega | (simp; omega))) ((by first | omega | (simp; omega))) (by omega) ?_
    intro q_v19 v19 w20 hEw20 hov19 hlv19
    have hs_w20 := (hEw20).size
    replace hV := evo_stepo hV hEw20 (fun g hg => .inl (by first | exact (hoo.block hg).1 | (have := hoo.block hg; omega)))
    replace hl := hl0 _ hV
    refine r_op rfl rfl rfl (run_asg (v := v19) rfl (by exact rfl)) ?_
    refine r_nil ?_
    refine r_seq ?_
    refine r_region ?_
    refine r_op rfl rfl rfl (run_mv (v := v19) rfl (by exact rfl)) ?_
    refine r_op rfl rfl rfl (run_asg (v := v19) rfl (by exact rfl)) ?_
    refine r_nil ?_
    refine r_ret (res1 (v := v19) rfl (by exact rfl)) ?_
    exact ⟨_, rfl, hV, by rw [← addR_last hr (by omega) (by simpa using hc18)]; exact hov19⟩
   ·skip
    refine r_skip ?_
    refine r_seq ?_
    refine r_region ?_
    refine r_op rfl rfl rfl (run_mv (v := vo) rfl (by exact rfl)) ?_
    refine r_op rfl rfl rfl (run_asg (v := vo) rfl (by exact rfl)) ?_
    refine r_nil ?_
    refine r_ret (res1 (v := vo) rfl (by exact rfl)) ?_
    exact ⟨_, rfl, hV, by rw [← addR_done hr (by omega) (by simpa using hc18)]; exact hoo⟩

end Go.Proofs.Ytomklacppmaljaa
