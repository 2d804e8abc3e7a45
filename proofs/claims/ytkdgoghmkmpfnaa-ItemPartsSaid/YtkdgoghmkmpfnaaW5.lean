import Derived.Test.YtkdgoghmkmpfnaaW4
import Derived.Test.YtkdgoghmkmpfnaaLb
namespace Go.Proofs.Ytkdgoghmkmpfnaa
open Go.RowKit Go.Vc
theorem ty_5 : tyP Try.prog 5 = some (1, 1, some (.int .u8 0)) := by kernel_rfl
theorem normalize_calls {ao : Option Addr} {b off cap : Nat} {f : List Vc.Item} {w0 : World} (hf : RowE w0 ao b off cap f) (hsm : Small f) :
    Calls Try.prog 34 #[.slice ao f.length cap] w0 fun e w' => ∃ v, e = .returned v ∧ Evo w0 w' [] ∧ OwnE w' w0.heap.size 26 v (normL f) := by
 have hs1 := hsm.1; have hs2 := hsm.2
 refine calls_enter (n := 56) (args := [.slice ao f.length cap]) Try.func34 rfl Try.ntmps34 rfl ?_
 have hV : Evo w0 w0 [] := Evo.refl _ _
 have hf0 := keepE hf
 have hbd_hf := hf.bd
 refine r_seq ?_
 refine r_region ?_
 refine r_op rfl rfl rfl (run_asg (v := .slice _ _ _) rfl (by exact rfl)) ?_
 refine r_nil ?_
 refine r_seq ?_
 refine r_region ?_
 refine r_op rfl rfl rfl (run_asg (v := .slice _ _ _) rfl (by exact rfl)) ?_
 refine r_nil ?_
 refine r_seq ?_
 refine r_seq ?_
 refine r_region ?_
 refine r_op rfl rfl rfl (run_asg (v := .int _ _) rfl (by exact rfl)) ?_
 refine r_nil ?_
 refine r_block ?_
 refine r_loop (α := Nat) [3, 4, 5, 6, 7, 8, 9, 10, 11, 12, 13, 14, 15, 16, 17, 18, 19, 20, 21, 22, 23, 24, 25, 26, 27, 28, 29, 30, 31, 32, 33, 34, 35, 36, 37, 38, 39, 40, 41, 42, 43, 44, 45, 46, 47, 48, 49, 50, 51, 52, 53, 54] (fun i0 g w => ∃ vo : Value, g 4 = .int .i64 (i0 : Nat) ∧ g 3 = vo ∧ OwnE w w0.heap.size 26 vo (normL (f.take i0)) ∧ i0 ≤ f.length ∧ (i0 < f.length → (f.getD i0 default).kind = 1 → lastNT (normL (f.take i0))) ∧ w0.heap.size ≤ w.heap.size ∧ Evo w0 w []) (fun i0 => f.length - i0) 0 ?_ ?_
 ·refine ⟨_, (by first | exact rfl | exact congrArg (Value.int _) (by omega) | exact congrArg (Value.int _) (by dsimp only; omega) | exact congrArg (Value.int _) (by simp) | exact congrArg S (by simp)), rfl, (OwnE.nil _ _ _), (by first | assumption | omega | (dsimp only; omega) | (simp; done)), (fun _ _ => lastNT_nil), (by first | assumption | omega | (dsimp only; omega) | (simp; done)), hV⟩
 ·rintro i0 g w2 ⟨vo, hj3, hj4, hoo, hi0, hnt, hzl1, hV⟩
  have hs_w2hV := hV.size
  replace hf := hf0 _ hV
  refine r_know (i := 4) (v := .int .i64 (i0 : Nat)) (by exact hj3) ?_
  refine r_know (i := 3) (v := vo) (by exact hj4) ?_
  refine r_seq ?_
  refine r_seq ?_
  refine r_region ?_
  refine r_op rfl rfl rfl (run_mv (v := .int _ _) rfl (by exact rfl)) ?_
  refine r_op rfl rfl rfl (run_mv (v := .slice _ _ _) rfl (by exact rfl)) ?_
  refine r_op rfl rfl rfl (run_lenSl rfl (by exact rfl) Try.underlying30) ?_
  refine r_op rfl rfl rfl (run_lss rfl (by exact rfl) (by exact rfl)) ?_
  refine r_nil ?_
  refine r_cond (by exact rfl) (fun hc5 => ?_) (fun hc5 => ?_)
  ·skip
   refine r_skip ?_
   refine r_block ?_
   refine r_seq ?_
   refine r_seq ?_
   have hn1 := normL_len (f.take i0); have hn2 : (f.take i0).length ≤ i0 := List.length_take_le _ _; have hn3 := sizeL_take f i0; have hn4 := sizeL_at f i0
   refine r_region ?_
   refine r_op rfl rfl rfl (run_mv (v := .slice _ _ _) rfl (by exact rfl)) ?_
   refine r_op rfl rfl rfl (run_mv (v := .int _ _) rfl (by exact rfl)) ?_
   refine r_op rfl rfl rfl (run_ix (i0) rfl Try.underlying30 ty_26 (by exact rfl) (by exact rfl) (by first | exact rfl | omega) (by omega) (hf.addr (i := i0) (by omega))) ?_
   have hA60 := fun (w' : World) (h : Evo w0 w' []) => (hf0 w' h).atD (i0) (by omega)
   have hA6 := hA60 _ hV
   refine r_op rfl rfl rfl (run_fa rfl (by exact rfl) fo_26_0) ?_
   refine r_op rfl rfl rfl (run_ld1 rfl ag_3 (by exact rfl) (hA6.cell 0 (by exact rfl))) ?_
   refine r_op rfl rfl rfl (run_neq rfl (by exact rfl) (by exact rfl)) ?_
   refine r_nil ?_
   refine r_cond (by exact rfl) (fun hc7 => ?_) (fun hc7 => ?_)
   ·skip
    refine r_seq ?_
    refine r_region ?_
    refine r_op rfl rfl rfl (run_mv (v := vo) rfl (by exact rfl)) ?_
    refine r_op rfl rfl rfl (run_mv (v := .slice _ _ _) rfl (by exact rfl)) ?_
    refine r_op rfl rfl rfl (run_mv (v := .int _ _) rfl (by exact rfl)) ?_
    refine r_op rfl rfl rfl (run_ix (i0) rfl Try.underlying30 ty_26 (by exact rfl) (by exact rfl) (by first | exact rfl | omega) (by omega) (hf.addr (i := i0) (by omega))) ?_
    have hA80 := fun (w' : World) (h : Evo w0 w' []) => (hf0 w' h).atD (i0) (by omega)
    have hA8 := hA80 _ hV
    refine r_op rfl rfl rfl (run_ldN rfl ag_26 ty_26 (by exact rfl) rfl hA8) ?_
    refine r_append1E (u := .agg _) (y := ⟨_, _, _⟩) rfl rfl Try.underlying30 ty_26 (by exact rfl) hoo (fun _ => (by exact rfl)) (by exact rfl) (by first | exact rfl | (show _ = List.toArray [_, _, _]; first | (dsimp only; done) | exact rfl | (dsimp only; exact rfl))) ((by first | omega | (simp; omega))) ((by first | omega | (simp; omega))) (by omega) ?_
    intro q_v9 v9 w10 hEw10 hov9 hlv9
    have hs_w10 := (hEw10).size
    replace hV := evo_stepo hV hEw10 (fun g hg => .inl (by first | exact (hoo.block hg).1 | (have := hoo.block hg; omega)))
    replace hf := hf0 _ hV
    refine r_op rfl rfl rfl (run_asg (v := v9) rfl (by exact rfl)) ?_
    refine r_nil ?_
    refine r_seq ?_
    refine r_region ?_
    refine r_op rfl rfl rfl (run_mv (v := .int _ _) rfl (by exact rfl)) ?_
    refine r_op rfl rfl rfl (run_add rfl (by exact rfl) (by exact rfl) (by omega) (by omega)) ?_
    refine r_op rfl rfl rfl (run_asg (v := .int _ _) rfl (by exact rfl)) ?_
    refine r_nil ?_
    refine r_exit rfl ?_
    refine r_again (i0 + 1) ?_ ?_ ?_
    ·first | omega | (dsimp only; omega)
    ·refine ⟨_, (by first | exact rfl | exact congrArg (Value.int _) (by omega) | exact congrArg (Value.int _) (by dsimp only; omega) | exact congrArg (Value.int _) (by simp) | exact congrArg S (by simp)), rfl, (by rw [normL_succ f i0 (by omega), norm_other (by assumption)]; exact hov9), (by first | assumption | omega | (dsimp only; omega) | (simp; done)), (fun _ _ => by rw [normL_succ f i0 (by omega), norm_other (by assumption)]; exact lastNT_snoc (by assumption)), (by first | assumption | omega | (dsimp only; omega) | (simp; done)), hV⟩
    ·repeat (first | (with_reducible exact Agree.merge _ _ _) | (with_reducible exact Agree.refl _ _) | (with_reducible refine Agree.upd ?_ _ _ rfl) | ((with_reducible refine Agree.inner ?_ ?_); (kernel_rfl)))
   ·skip
    refine r_skip ?_
    refine r_seq ?_
    have hobO := fun g hg => (hoo.block (g := g) hg).2
    have hlnt := hnt (by omega) (by omega)
    refine r_region ?_
    refine r_op rfl rfl rfl (run_asg (v := .slice _ _ _) rfl (by exact rfl)) ?_
    refine r_nil ?_
    refine r_seq ?_
    refine r_block ?_
    refine r_loop (α := Nat) [4, 5, 25, 26, 27, 28, 29, 30, 31, 32, 33, 34, 35, 36, 37, 38, 39, 40, 41, 42, 43, 44, 45] (fun i g w => ∃ vb : Value, ∃ bs : Str, g 4 = .int .i64 (i : Nat) ∧ g 5 = vb ∧ OwnE w w0.heap.size 26 vo (normL (f.take i0)) ∧ OwnE w w2.heap.size 5 vb bs ∧ i0 ≤ i ∧ i ≤ f.length ∧ bs.length ≤ sizeL (f.take i) ∧ (normL (f.take i)) = joinT (normL (f.take i0)) bs ∧ (i0 < i ∨ (i < f.length ∧ (f.getD i default).kind = 1)) ∧ w2.heap.size ≤ w.heap.size ∧ Evo w0 w []) (fun i => f.length - i) i0 ?_ ?_
    ·refine ⟨_, [], (by first | exact rfl | exact congrArg (Value.int _) (by omega) | exact congrArg (Value.int _) (by dsimp only; omega) | exact congrArg (Value.int _) (by simp) | exact congrArg S (by simp)), rfl, (by first | assumption | omega | (dsimp only; omega) | (simp; done)), (OwnE.nil _ _ _), (by first | assumption | omega | (dsimp only; omega) | (simp; done)), (by first | assumption | omega | (dsimp only; omega) | (simp; done)), (by simp), (joinT_nil _).symm, (.inr (by omega)), (by first | assumption | omega | (dsimp only; omega) | (simp; done)), hV⟩
    ·rintro i g w12 ⟨vb, bs, hj13, hj14, hoo, hbb, hii, hil, hbl, hjn, hgo, hzl11, hV⟩
     have hs_w12hV := hV.size
     replace hf := hf0 _ hV
     replace hA6 := hA60 _ hV
     refine r_know (i := 4) (v := .int .i64 (i : Nat)) (by exact hj13) ?_
     refine r_know (i := 5) (v := vb) (by exact hj14) ?_
     refine r_seq ?_
     refine r_seq ?_
     refine r_region ?_
     refine r_op rfl rfl rfl (run_mv (v := .int _ _) rfl (by exact rfl)) ?_
     refine r_op rfl rfl rfl (run_mv (v := .slice _ _ _) rfl (by exact rfl)) ?_
     refine r_op rfl rfl rfl (run_lenSl rfl (by exact rfl) Try.underlying30) ?_
     refine r_op rfl rfl rfl (run_lss rfl (by exact rfl) (by exact rfl)) ?_
     refine r_op rfl rfl rfl (run_mv (v := .bool _) rfl (by exact rfl)) ?_
     refine r_g rfl (wantT (by exact rfl)) rfl (fun hg => run_mv (v := .slice _ _ _) rfl (by exact rfl)) ?_
     refine r_g rfl (wantT (by exact rfl)) rfl (fun hg => run_mv (v := .int _ _) rfl (by exact rfl)) ?_
     refine r_g rfl (wantT (by exact rfl)) rfl (fun hg => run_ix (i) rfl Try.underlying30 ty_26 (glv (by exact rfl) (fun h => h) hg) (glv (by exact rfl) (fun h => h) hg) (by first | exact rfl | omega) (by omega) (hf.addr (i := i) (by omega))) ?_
     refine r_g rfl (wantT (by exact rfl)) rfl (fun hg => run_fa rfl (glv (by exact rfl) (fun h => h) hg) fo_26_0) ?_
     refine r_g rfl (wantT (by exact rfl)) rfl (fun hg => run_ld1 rfl ag_3 (glv (by exact rfl) (fun h => h) hg) ((hf.atD (i) (by omega)).cell 0 (by exact rfl))) ?_
     refine r_g rfl (wantT (by exact rfl)) rfl (fun hg => run_eql rfl (glv (by exact rfl) (fun h => h) hg) (by exact rfl)) ?_
     refine r_op rfl rfl rfl (run_pick_and rfl (by exact rfl) (fun hq => glv (by exact rfl) (fun h => h) hq) rfl) ?_
     refine r_nil ?_
     refine r_cond (by exact rfl) (fun hc15 => ?_) (fun hc15 => ?_)
     ·skip
      refine r_skip ?_
      refine r_block ?_
      refine r_seq ?_
      have hn3 := sizeL_take f (i + 1); have hn5 := sizeL_succ f i (by omega)
      refine r_region ?_
      refine r_op rfl rfl rfl (run_mv (v := vb) rfl (by exact rfl)) ?_
      refine r_op rfl rfl rfl (run_mv (v := .slice _ _ _) rfl (by exact rfl)) ?_
      refine r_op rfl rfl rfl (run_mv (v := .int _ _) rfl (by exact rfl)) ?_
      refine r_op rfl rfl rfl (run_ix (i) rfl Try.underlying30 ty_26 (by exact rfl) (by exact rfl) (by first | exact rfl | omega) (by omega) (hf.addr (i := i) (by omega))) ?_
      have hA160 := fun (w' : World) (h : Evo w0 w' []) => (hf0 w' h).atD (i) (by omega)
      have hA16 := hA160 _ hV
      refine r_op rfl rfl rfl (run_fa rfl (by exact rfl) fo_26_1) ?_
      refine r_op rfl rfl rfl (run_ld1 rfl ag_9 (by exact rfl) (hA16.cell 1 (by exact rfl))) ?_
      refine r_appendS rfl Try.underlying23 Try.underlying9 ty_5 rfl hbb (by exact rfl) (by exact rfl) (by first | omega | (simp; omega)) (by omega) ?_
      intro v17 w18 hEw18 hov17
      have hs_w18 := (hEw18).size
      replace hV := evo_stepo hV hEw18 (fun g hg => .inl (by first | exact (hbb.block hg).1 | (have := hbb.block hg; omega)))
      replace hf := hf0 _ hV
      replace hoo := hoo.evo hEw18 (by intro g hg hm; have hm2 := Option.mem_toList.1 hm; have h1 := hbb.block hm2; have h2 := hobO g hg; omega)
      refine r_op rfl rfl rfl (run_asg (v := v17) rfl (by exact rfl)) ?_
      refine r_nil ?_
      refine r_region ?_
      refine r_op rfl rfl rfl (run_mv (v := .int _ _) rfl (by exact rfl)) ?_
      refine r_op rfl rfl rfl (run_add rfl (by exact rfl) (by exact rfl) (by omega) (by omega)) ?_
      refine r_op rfl rfl rfl (run_asg (v := .int _ _) rfl (by exact rfl)) ?_
      refine r_nil ?_
      refine r_blk ?_
      refine r_again (i + 1) ?_ ?_ ?_
      ·first | omega | (dsimp only; omega)
      ·refine ⟨_, _, (by first | exact rfl | exact congrArg (Value.int _) (by omega) | exact congrArg (Value.int _) (by dsimp only; omega) | exact congrArg (Value.int _) (by simp) | exact congrArg S (by simp)), rfl, (by first | assumption | omega | (dsimp only; omega) | (simp; done)), hov17, (by first | assumption | omega | (dsimp only; omega) | (simp; done)), (by first | assumption | omega | (dsimp only; omega) | (simp; done)), (by rw [List.length_append, sizeL_succ f i (by omega)]; omega), (by rw [normL_succ f i (by omega), hjn, join_step hlnt (by omega)]), (.inl (by omega)), (by first | assumption | omega | (dsimp only; omega) | (simp; done)), hV⟩
      ·repeat (first | (with_reducible exact Agree.merge _ _ _) | (with_reducible exact Agree.refl _ _) | (with_reducible refine Agree.upd ?_ _ _ rfl) | ((with_reducible refine Agree.inner ?_ ?_); (kernel_rfl)))
     ·skip
      refine r_exit rfl ?_
      refine r_seq ?_
      have hlt0 : i0 < i := hgo.resolve_right (by omega)
      have hn1 := normL_len (f.take i0); have hn2 : (f.take i0).length ≤ i0 := List.length_take_le _ _; have hn3 := sizeL_take f i0; have hn4 := sizeL_at f i0
      refine r_region ?_
      refine r_op rfl rfl rfl (run_mv (v := vb) rfl (by exact rfl)) ?_
      refine r_op rfl rfl rfl (run_lenOE rfl (by exact rfl) Try.underlying23 hbb) ?_
      refine r_op rfl rfl rfl (run_gtr rfl (by exact rfl) (by exact rfl)) ?_
      refine r_nil ?_
      refine r_cond (by exact rfl) (fun hc19 => ?_) (fun hc19 => ?_)
      ·skip
       obtain ⟨ao20, g20, cp20, hv20, hr20, hg20⟩ := hbb.rowOf
       subst hv20
       refine r_region ?_
       refine r_op rfl rfl rfl (run_mv (v := vo) rfl (by exact rfl)) ?_
       refine r_op rfl rfl rfl (run_mv (v := .slice _ _ _) rfl (by exact rfl)) ?_
       refine r_op rfl rfl rfl (run_cvBS rfl Try.underlying23 Try.underlying5 Try.underlying9 (by exact rfl) (by first | rfl | simp) hr20) ?_
       refine r_op rfl rfl rfl (run_bld (pv := [(0, .int _ _), (1, S _)]) (zs := [_, _, _]) (cells := [_, _, _]) rfl ty_26 (by exact rfl) pl_26 (by exact rfl) (by exact rfl)) ?_
       refine r_append1E (u := .agg _) (y := ⟨_, _, _⟩) rfl rfl Try.underlying30 ty_26 (by exact rfl) hoo (fun _ => (by exact rfl)) (by exact rfl) (by first | exact rfl | (show _ = List.toArray [_, _, _]; first | (dsimp only; done) | exact rfl | (dsimp only; exact rfl))) ((by first | omega | (simp; omega))) ((by first | omega | (simp; omega))) (by omega) ?_
       intro q_v21 v21 w22 hEw22 hov21 hlv21
       have hs_w22 := (hEw22).size
       replace hV := evo_stepo hV hEw22 (fun g hg => .inl (by first | exact (hoo.block hg).1 | (have := hoo.block hg; omega)))
       replace hf := hf0 _ hV
       refine r_op rfl rfl rfl (run_asg (v := v21) rfl (by exact rfl)) ?_
       refine r_nil ?_
       refine r_blk ?_
       refine r_again i ?_ ?_ ?_
       ·first | omega | (dsimp only; omega)
       ·refine ⟨_, (by first | exact rfl | exact congrArg (Value.int _) (by omega) | exact congrArg (Value.int _) (by dsimp only; omega) | exact congrArg (Value.int _) (by simp) | exact congrArg S (by simp)), rfl, (by first | (rw [hjn, joinT_yes (by omega)]; exact hov21) | (rw [hjn, joinT_no (by omega)]; exact hov21)), (by first | assumption | omega | (dsimp only; omega) | (simp; done)), (fun h1 h2 => absurd h2 (by omega)), (by first | assumption | omega | (dsimp only; omega) | (simp; done)), hV⟩
       ·repeat (first | (with_reducible exact Agree.merge _ _ _) | (with_reducible exact Agree.refl _ _) | (with_reducible refine Agree.upd ?_ _ _ rfl) | ((with_reducible refine Agree.inner ?_ ?_); (kernel_rfl)))
      ·skip
       refine r_skip ?_
       refine r_blk ?_
       refine r_again i ?_ ?_ ?_
       ·first | omega | (dsimp only; omega)
       ·refine ⟨_, (by first | exact rfl | exact congrArg (Value.int _) (by omega) | exact congrArg (Value.int _) (by dsimp only; omega) | exact congrArg (Value.int _) (by simp) | exact congrArg S (by simp)), rfl, (by first | (rw [hjn, joinT_yes (by omega)]; exact hoo) | (rw [hjn, joinT_no (by omega)]; exact hoo)), (by first | assumption | omega | (dsimp only; omega) | (simp; done)), (fun h1 h2 => absurd h2 (by omega)), (by first | assumption | omega | (dsimp only; omega) | (simp; done)), hV⟩
       ·repeat (first | (with_reducible exact Agree.merge _ _ _) | (with_reducible exact Agree.refl _ _) | (with_reducible refine Agree.upd ?_ _ _ rfl) | ((with_reducible refine Agree.inner ?_ ?_); (kernel_rfl)))
  ·skip
   refine r_exit rfl ?_
   refine r_seq ?_
   refine r_region ?_
   refine r_op rfl rfl rfl (run_mv (v := vo) rfl (by exact rfl)) ?_
   refine r_op rfl rfl rfl (run_asg (v := vo) rfl (by exact rfl)) ?_
   refine r_nil ?_
   refine r_ret (res1 (v := vo) rfl (by exact rfl)) ?_
   exact ⟨_, rfl, hV, by rw [List.take_of_length_le (by omega)] at hoo; exact hoo⟩

end Go.Proofs.Ytkdgoghmkmpfnaa
