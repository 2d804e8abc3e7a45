import Derived.Test.YtkdgoghmkmpfnaaW22
namespace Go.Proofs.Ytkdgoghmkmpfnaa
open Go.RowKit Go.Vc

theorem pairs_law {aof : Option Addr} {bf offf capf : Nat} {f : List Vc.Item} {aou : Option Addr} {bu offu capu : Nat} {u : List Vc.Item} {aol : Option Addr} {bl offl capl : Nat} {l : List Int} {aom : Option Addr} {bm offm capm : Nat} {m : List Int} {w0 : World} (rf : RowE w0 aof bf offf capf f) (htf : ∀ x ∈ f, x.text.length ≤ reachBytes) (ru : RowE w0 aou bu offu capu u) (htu : ∀ x ∈ u, x.text.length ≤ reachBytes) (rl : RowE w0 aol bl offl capl l) (rm : RowE w0 aom bm offm capm m) :
    Calls Try.prog 12 #[.slice aof f.length capf, .slice aou u.length capu, .slice aol l.length capl, .slice aom m.length capm] w0 fun e w' => e = .returned (.bool true) ∧ Evo w0 w' [] := by
 refine calls_enter (n := 111) (args := [.slice aof f.length capf, .slice aou u.length capu, .slice aol l.length capl, .slice aom m.length capm]) Try.func12 rfl Try.ntmps12 rfl ?_
 have hV : Evo w0 w0 [] := Evo.refl _ _
 have rf0 := keepE rf
 have hbd_rf := rf.bd
 have ru0 := keepE ru
 have hbd_ru := ru.bd
 have rl0 := keepE rl
 have hbd_rl := rl.bd
 have rm0 := keepE rm
 have hbd_rm := rm.bd
 refine r_seq ?_
 refine r_region ?_
 refine r_op rfl rfl rfl (run_asg (v := .bool _) rfl (by exact rfl)) ?_
 refine r_nil ?_
 refine r_seq ?_
 refine r_seq ?_
 refine r_region ?_
 refine r_op rfl rfl rfl (run_mv (v := .slice _ _ _) rfl (by exact rfl)) ?_
 refine r_opcall rfl rfl rfl (run_callf (vs := [.slice _ _ _]) rfl (by exact rfl) Try.func22 rfl (by kernel_rfl)) (few_calls rf (texts_at htf)) ?_
 rintro e w1 ⟨lx1, rfl, hlx1, hE1⟩
 refine ⟨_, rfl, ?_⟩
 have hs_w1 := (hE1).size
 replace hV := evo_step0 hV hE1
 replace rf := rf0 _ hV
 replace ru := ru0 _ hV
 replace rl := rl0 _ hV
 replace rm := rm0 _ hV
 refine r_op rfl rfl rfl (run_notb rfl (by exact rfl)) ?_
 refine r_op rfl rfl rfl (run_mvb rfl (by exact rfl)) ?_
 refine r_g rfl (wantF (by exact rfl)) rfl (fun hg => run_mv (v := .slice _ _ _) rfl (by exact rfl)) ?_
 refine r_gcallB rfl (wantF (by exact rfl)) rfl (fun hg => run_callf rfl (argcons (v := .slice _ _ _) (glv (by exact rfl) (fun h => h) hg) (rfl)) Try.func22 rfl (by kernel_rfl)) (fun hg => (few_calls ru (texts_at htu))) ?_
 intro gx4 w2 hgx4 hE3
 have hs_w2 := (hE3).size
 replace hV := evo_step0 hV hE3
 replace rf := rf0 _ hV
 replace ru := ru0 _ hV
 replace rl := rl0 _ hV
 replace rm := rm0 _ hV
 refine r_g rfl (wantF (by exact rfl)) rfl (fun hg => run_not rfl (glv (by exact rfl) (fun h => h) hg)) ?_
 refine r_op rfl rfl rfl (run_pick_or rfl (by exact rfl) rfl (fun hq => glv (by exact rfl) (fun h => h) hq)) ?_
 refine r_op rfl rfl rfl (run_mv (v := .bool _) rfl (by exact rfl)) ?_
 refine r_g rfl (wantF (by exact rfl)) rfl (fun hg => run_mv (v := .slice _ _ _) rfl (by exact rfl)) ?_
 refine r_g rfl (wantF (by exact rfl)) rfl (fun hg => run_lenSl rfl (glv (by exact rfl) (fun h => h) hg) Try.underlying24) ?_
 refine r_g rfl (wantF (by exact rfl)) rfl (fun hg => run_gtr rfl (glv (by exact rfl) (fun h => h) hg) (by exact rfl)) ?_
 refine r_op rfl rfl rfl (run_pick_or rfl (by exact rfl) rfl (fun hq => glv (by exact rfl) (fun h => h) hq)) ?_
 refine r_op rfl rfl rfl (run_mv (v := .bool _) rfl (by exact rfl)) ?_
 refine r_g rfl (wantF (by exact rfl)) rfl (fun hg => run_mv (v := .slice _ _ _) rfl (by exact rfl)) ?_
 refine r_g rfl (wantF (by exact rfl)) rfl (fun hg => run_lenSl rfl (glv (by exact rfl) (fun h => h) hg) Try.underlying24) ?_
 refine r_g rfl (wantF (by exact rfl)) rfl (fun hg => run_gtr rfl (glv (by exact rfl) (fun h => h) hg) (by exact rfl)) ?_
 refine r_op rfl rfl rfl (run_pick_or rfl (by exact rfl) rfl (fun hq => glv (by exact rfl) (fun h => h) hq)) ?_
 refine r_nil ?_
 refine r_cond (by exact rfl) (fun hc5 => ?_) (fun hc5 => ?_)
 ·skip
  refine r_seq ?_
  refine r_region ?_
  refine r_opcall rfl rfl rfl (run_callf (vs := []) rfl (by exact rfl) Try.func21 rfl (by kernel_rfl)) known_calls ?_
  rintro e w6 ⟨rfl, hE6⟩
  refine ⟨_, rfl, ?_⟩
  have hs_w6 := (hE6).size
  replace hV := evo_step0 hV hE6
  replace rf := rf0 _ hV
  replace ru := ru0 _ hV
  replace rl := rl0 _ hV
  replace rm := rm0 _ hV
  refine r_op rfl rfl rfl (run_asg (v := .bool _) rfl (by exact rfl)) ?_
  refine r_nil ?_
  refine r_ret (res1 (v := .bool _) rfl (by exact rfl)) ?_
  exact ⟨rfl, hV⟩
 ·skip
  refine r_skip ?_
  refine r_seq ?_
  have b1 := hlx1 (by simp_all); have b2 := hgx4 (by simp_all) (by simp_all)
  have s1 : Small f := few_small b1; have s2 : Small u := few_small b2
  refine r_region ?_
  refine r_op rfl rfl rfl (run_mv (v := .slice _ _ _) rfl (by exact rfl)) ?_
  refine r_op rfl rfl rfl (run_mv (v := .slice _ _ _) rfl (by exact rfl)) ?_
  refine r_opcall rfl rfl rfl (run_callf (vs := [.slice _ _ _, .slice _ _ _]) rfl (by exact rfl) Try.func41 rfl (by kernel_rfl)) (pair_calls rf ru (by first | assumption | exact MF.small (by assumption) | exact kf_small | exact small_take (by assumption) _) (by first | assumption | exact MF.small (by assumption) | exact kf_small | exact small_take (by assumption) _)) ?_
  rintro e w7 ⟨vp7, vq7, rfl, hE7, hop7, hoq7⟩
  refine ⟨_, rfl, ?_⟩
  have hs_w7 := (hE7).size
  replace hV := evo_step0 hV hE7
  replace rf := rf0 _ hV
  replace ru := ru0 _ hV
  replace rl := rl0 _ hV
  replace rm := rm0 _ hV
  refine r_op rfl rfl rfl (run_mv (v := .tuple _) rfl (by exact rfl)) ?_
  refine r_op rfl rfl rfl (run_extract (v := vp7) rfl (by exact rfl) (by exact rfl)) ?_
  refine r_op rfl rfl rfl (run_extract (v := vq7) rfl (by exact rfl) (by exact rfl)) ?_
  refine r_op rfl rfl rfl (run_asg (v := vp7) rfl (by exact rfl)) ?_
  refine r_op rfl rfl rfl (run_asg (v := vq7) rfl (by exact rfl)) ?_
  refine r_nil ?_
  refine r_seq ?_
  refine r_region ?_
  refine r_op rfl rfl rfl (run_mv (v := .slice _ _ _) rfl (by exact rfl)) ?_
  refine r_op rfl rfl rfl (run_mv (v := .slice _ _ _) rfl (by exact rfl)) ?_
  refine r_opcall rfl rfl rfl (run_callf (vs := [.slice _ _ _, .slice _ _ _]) rfl (by exact rfl) Try.func42 rfl (by kernel_rfl)) (rpair_calls rf ru (by first | assumption | exact MF.small (by assumption) | exact kf_small | exact small_take (by assumption) _) (by first | assumption | exact MF.small (by assumption) | exact kf_small | exact small_take (by assumption) _)) ?_
  rintro e w8 ⟨vp8, vq8, rfl, hE8, hop8, hoq8⟩
  refine ⟨_, rfl, ?_⟩
  have hs_w8 := (hE8).size
  replace hV := evo_step0 hV hE8
  replace rf := rf0 _ hV
  replace ru := ru0 _ hV
  replace rl := rl0 _ hV
  replace rm := rm0 _ hV
  replace hop7 := hop7.evo0 hE8
  replace hoq7 := hoq7.evo0 hE8
  refine r_op rfl rfl rfl (run_mv (v := .tuple _) rfl (by exact rfl)) ?_
  refine r_op rfl rfl rfl (run_extract (v := vp8) rfl (by exact rfl) (by exact rfl)) ?_
  refine r_op rfl rfl rfl (run_extract (v := vq8) rfl (by exact rfl) (by exact rfl)) ?_
  refine r_op rfl rfl rfl (run_asg (v := vp8) rfl (by exact rfl)) ?_
  refine r_op rfl rfl rfl (run_asg (v := vq8) rfl (by exact rfl)) ?_
  refine r_nil ?_
  refine r_seq ?_
  refine r_seq ?_
  refine r_region ?_
  refine r_op rfl rfl rfl (run_mv (v := vp7) rfl (by exact rfl)) ?_
  refine r_op rfl rfl rfl (run_mv (v := vp8) rfl (by exact rfl)) ?_
  obtain ⟨ao9, g9, cp9, hv9, hr9, hg9⟩ := hop7.rowOf
  subst hv9
  obtain ⟨ao10, g10, cp10, hv10, hr10, hg10⟩ := hop8.rowOf
  subst hv10
  refine r_opcall rfl rfl rfl (run_callf (vs := [.slice _ _ _, .slice _ _ _]) rfl (by exact rfl) Try.func28 rfl (by kernel_rfl)) (sameints_calls hr9 hr10) ?_
  rintro e w11 ⟨rfl, hE11⟩
  refine ⟨_, rfl, ?_⟩
  have hs_w11 := (hE11).size
  replace hV := evo_step0 hV hE11
  replace rf := rf0 _ hV
  replace ru := ru0 _ hV
  replace rl := rl0 _ hV
  replace rm := rm0 _ hV
  replace hop7 := hop7.evo0 hE11
  replace hoq7 := hoq7.evo0 hE11
  replace hop8 := hop8.evo0 hE11
  replace hoq8 := hoq8.evo0 hE11
  replace hr9 := hr9.evo0 hE11
  replace hr10 := hr10.evo0 hE11
  refine r_op rfl rfl rfl (run_not rfl (by exact rfl)) ?_
  refine r_op rfl rfl rfl (run_mv (v := .bool _) rfl (by exact rfl)) ?_
  refine r_g rfl (wantF (by exact rfl)) rfl (fun hg => run_mv (v := vq7) rfl (by exact rfl)) ?_
  refine r_g rfl (wantF (by exact rfl)) rfl (fun hg => run_mv (v := vq8) rfl (by exact rfl)) ?_
  obtain ⟨ao12, g12, cp12, hv12, hr12, hg12⟩ := hoq7.rowOf
  subst hv12
  obtain ⟨ao13, g13, cp13, hv13, hr13, hg13⟩ := hoq8.rowOf
  subst hv13
  refine r_gcall rfl (wantF (by exact rfl)) rfl (fun hg => run_callf rfl (argcons (v := .slice _ _ _) (glv (by exact rfl) (fun h => h) hg) (argcons (v := .slice _ _ _) (glv (by exact rfl) (fun h => h) hg) (rfl))) Try.func28 rfl (by kernel_rfl)) (fun hg => (sameints_calls hr12 hr13).mono (fun e w' h => ⟨h.1, h.2⟩)) (fun w14 hE15 => ?_)
  have hs_w14 := (hE15).size
  replace hV := evo_step0 hV hE15
  replace rf := rf0 _ hV
  replace ru := ru0 _ hV
  replace rl := rl0 _ hV
  replace rm := rm0 _ hV
  replace hop7 := hop7.evo0 hE15
  replace hoq7 := hoq7.evo0 hE15
  replace hop8 := hop8.evo0 hE15
  replace hoq8 := hoq8.evo0 hE15
  replace hr9 := hr9.evo0 hE15
  replace hr10 := hr10.evo0 hE15
  replace hr12 := hr12.evo0 hE15
  replace hr13 := hr13.evo0 hE15
  refine r_g rfl (wantF (by exact rfl)) rfl (fun hg => run_not rfl (glv (by exact rfl) (fun h => h) hg)) ?_
  refine r_op rfl rfl rfl (run_pick_or rfl (by exact rfl) rfl (fun hq => glv (by exact rfl) (fun h => h) hq)) ?_
  refine r_op rfl rfl rfl (run_mv (v := .bool _) rfl (by exact rfl)) ?_
  refine r_g rfl (wantF (by exact rfl)) rfl (fun hg => run_mv (v := .slice _ _ _) rfl (by exact rfl)) ?_
  refine r_g rfl (wantF (by exact rfl)) rfl (fun hg => run_lenSl rfl (glv (by exact rfl) (fun h => h) hg) Try.underlying24) ?_
  refine r_g rfl (wantF (by exact rfl)) rfl (fun hg => run_mv (v := .slice _ _ _) rfl (by exact rfl)) ?_
  refine r_g rfl (wantF (by exact rfl)) rfl (fun hg => run_lenSl rfl (glv (by exact rfl) (fun h => h) hg) Try.underlying24) ?_
  refine r_g rfl (wantF (by exact rfl)) rfl (fun hg => run_neq rfl (glv (by exact rfl) (fun h => h) hg) (glv (by exact rfl) (fun h => h) hg)) ?_
  refine r_op rfl rfl rfl (run_pick_or rfl (by exact rfl) rfl (fun hq => glv (by exact rfl) (fun h => h) hq)) ?_
  refine r_nil ?_
  refine r_cond (by exact rfl) (fun hc16 => ?_) (fun hc16 => ?_)
  ·skip
   refine r_seq ?_
   refine r_region ?_
   refine r_op rfl rfl rfl (run_asg (v := .bool _) rfl (by exact rfl)) ?_
   refine r_nil ?_
   refine r_ret (res1 (v := .bool _) rfl (by exact rfl)) ?_
   exact absurd hc16 (by rw [(pairL_ok f u).len]; simp)
  ·skip
   refine r_skip ?_
   refine r_seq ?_
   refine r_seq ?_
   refine r_region ?_
   refine r_op rfl rfl rfl (run_mv (v := .slice _ _ _) rfl (by exact rfl)) ?_
   refine r_op rfl rfl rfl (run_lenSl rfl (by exact rfl) Try.underlying24) ?_
   refine r_op rfl rfl rfl (run_mv (v := .int _ _) rfl (by exact rfl)) ?_
   refine r_nil ?_
   refine r_block ?_
   have hpl := (pairL_ok f u).len; have hpl2 := (pairL_ok f u).le
   have hI17 : Evo w14 w14 [] := Evo.refl _ _
   have hr120 := keepE hr12
   refine r_loop (α := Nat) [8, 13, 67, 68, 69, 70, 71, 72, 73, 74, 75, 76, 77, 78] (fun k g w => g 67 = .int .i64 (k : Nat) ∧ k ≤ (pairL f u).2.length ∧ w14.heap.size ≤ w.heap.size ∧ Evo w0 w [] ∧ Evo w14 w []) (fun k => (pairL f u).2.length - k) 0 ?_ ?_
   ·refine ⟨(by first | exact rfl | exact congrArg (Value.int _) (by omega) | exact congrArg (Value.int _) (by dsimp only; omega) | exact congrArg (Value.int _) (by simp) | exact congrArg S (by simp)), (by first | assumption | omega | (dsimp only; omega) | (simp; done)), (by first | assumption | omega | (dsimp only; omega) | (simp; done)), hV, hI17⟩
   ·rintro k g w19 ⟨hj20, hk_k, hzl18, hV, hI17⟩
    have hs_w19hV := hV.size
    have hs_w19hI17 := hI17.size
    replace rf := rf0 _ hV
    replace ru := ru0 _ hV
    replace rl := rl0 _ hV
    replace rm := rm0 _ hV
    replace hr12 := hr120 _ hI17
    refine r_know (i := 67) (v := .int .i64 (k : Nat)) (by exact hj20) ?_
    refine r_seq ?_
    refine r_region ?_
    refine r_op rfl rfl rfl (run_lss rfl (by exact rfl) (by exact rfl)) ?_
    refine r_nil ?_
    refine r_seq ?_
    refine r_cond (by exact rfl) (fun hc21 => ?_) (fun hc21 => ?_)
    ·skip
     refine r_skip ?_
     refine r_seq ?_
     refine r_block ?_
     refine r_seq ?_
     refine r_region ?_
     refine r_op rfl rfl rfl (run_mv (v := .int _ _) rfl (by exact rfl)) ?_
     refine r_op rfl rfl rfl (run_asg (v := .int _ _) rfl (by exact rfl)) ?_
     refine r_nil ?_
     refine r_seq ?_
     refine r_qregion (by kernel_rfl) (by kernel_rfl) ?_
     refine q_op rfl rfl rfl (fun w' hC => run_mv (v := .slice _ _ _) rfl (by exact rfl)) ?_
     refine q_op rfl rfl rfl (fun w' hC => run_mv (v := .int _ _) rfl (by exact rfl)) ?_
     refine q_op rfl rfl rfl (fun w' hC => run_slE (0) (k) rfl Try.underlying24 ty_3 (by exact rfl) (hr12.evo0 hC) lo0 (at1 (by exact rfl) (by omega)) (by first | omega | (simp; omega)) (by first | omega | (simp; omega)) List.drop_zero) ?_
     have hS220 := fun (w' : World) (h : Evo w14 w' []) => (by have h9 := ((hr120 w' h).take (k)).drop (0); rw [List.drop_zero] at h9; exact h9)
     have hS22 := (by have h9 := (hr12.take (k)).drop (0); rw [List.drop_zero] at h9; exact h9)
     have hbd_hS22 := hS22.bd
     refine q_op rfl rfl rfl (fun w' hC => run_mv (v := .slice _ _ _) rfl (by exact rfl)) ?_
     refine q_op rfl rfl rfl (fun w' hC => run_mv (v := .int _ _) rfl (by exact rfl)) ?_
     refine q_op rfl rfl rfl (fun w' hC => run_ix (k) rfl Try.underlying24 ty_3 (by exact rfl) (by exact rfl) (by first | exact rfl | omega) (by omega) (hr12.addr (i := k) (by omega))) ?_
     have hA230 := fun (w' : World) (h : Evo w14 w' []) => (hr120 w' h).atD (k) (by omega)
     have hA23 := hA230 _ hI17
     refine q_op rfl rfl rfl (fun w' hC => run_ld1 rfl ag_3 (by exact rfl) ((hA23.evo0 hC).cell 0 (by exact rfl))) ?_
     refine q_call rfl rfl rfl (fun w' hC => run_callf rfl (argcons (v := .slice _ _ _) (by exact rfl) (argcons (v := .int _ _) (by exact rfl) (rfl))) Try.func43 rfl (by kernel_rfl)) (fun w' hC => (has_calls (hS22.evo0 hC)).mono (fun e w'' h => ⟨h.1, evo_step0 hC h.2⟩)) ?_
     refine q_nil (fun w24 hE25 => ?_)
     have hs_w24 := (hE25).size
     replace hV := evo_step0 hV hE25
     replace hI17 := evo_step0 hI17 hE25
     replace rf := rf0 _ hV
     replace ru := ru0 _ hV
     replace rl := rl0 _ hV
     replace rm := rm0 _ hV
     replace hr12 := hr120 _ hI17
     refine r_cond (by exact rfl) (fun hc26 => ?_) (fun hc26 => ?_)
     ·skip
      refine r_seq ?_
      refine r_region ?_
      refine r_op rfl rfl rfl (run_asg (v := .bool _) rfl (by exact rfl)) ?_
      refine r_nil ?_
      refine r_ret (res1 (v := .bool _) rfl (by exact rfl)) ?_
      exact absurd hc26 (has_prefix (pairL_ok f u).nd (by omega))
     ·skip
      refine r_skip ?_
      refine r_blk ?_
      refine r_region ?_
      refine r_op rfl rfl rfl (run_add rfl (by exact rfl) (by exact rfl) (by omega) (by omega)) ?_
      refine r_op rfl rfl rfl (run_mv (v := .int _ _) rfl (by exact rfl)) ?_
      refine r_nil ?_
      refine r_again (k + 1) ?_ ?_ ?_
      ·first | omega | (dsimp only; omega)
      ·refine ⟨(by first | exact rfl | exact congrArg (Value.int _) (by omega) | exact congrArg (Value.int _) (by dsimp only; omega) | exact congrArg (Value.int _) (by simp) | exact congrArg S (by simp)), (by first | assumption | omega | (dsimp only; omega) | (simp; done)), (by first | assumption | omega | (dsimp only; omega) | (simp; done)), hV, hI17⟩
      ·repeat (first | (with_reducible exact Agree.merge _ _ _) | (with_reducible exact Agree.refl _ _) | (with_reducible refine Agree.upd ?_ _ _ rfl) | ((with_reducible refine Agree.inner ?_ ?_); (kernel_rfl)))
    ·skip
     refine r_exit rfl ?_
     refine r_seq ?_
     refine r_region ?_
     refine r_op rfl rfl rfl (run_mv (v := .slice _ _ _) rfl (by exact rfl)) ?_
     refine r_opcall rfl rfl rfl (run_callf (vs := [.slice _ _ _, .bool _, .bool _]) rfl (by exact rfl) Try.func23 rfl (by kernel_rfl)) (made_calls rl) ?_
     rintro e w27 ⟨vg27, mf27, rfl, hM27, hE27, hog27⟩
     refine ⟨_, rfl, ?_⟩
     have hs_w27 := (hE27).size
     replace hV := evo_step0 hV hE27
     replace hI17 := evo_step0 hI17 hE27
     replace rf := rf0 _ hV
     replace ru := ru0 _ hV
     replace rl := rl0 _ hV
     replace rm := rm0 _ hV
     replace hr12 := hr120 _ hI17
     refine r_op rfl rfl rfl (run_asg (v := vg27) rfl (by exact rfl)) ?_
     refine r_nil ?_
     refine r_seq ?_
     have hmf := hM27; have hml := hmf.len; have hms := hmf.size; have hsv := hmf.small; have hnl := numsL_len mf27
     have hvf := (val_iff _).1 hmf.val; have hrm := renum_map hvf (by omega); have hgv : VF (renumL mf27) := by rw [hrm.1]; exact hrm.2
     have hgn : numsL (renumL mf27) = upL (numsL mf27).length := by rw [hrm.1]; exact renum_nums
     have hga : renumL (renumL mf27) = (renumL mf27) := renum_again hgv hgn
     have hgs : shapeL (renumL mf27) = mapS (renumR mf27) (shapeL mf27) := by rw [hrm.1]; exact mapT_shape _ (renum_inj _)
     have hgp : plainL mf27 = plainL (renumL mf27) := by rw [hrm.1]; exact (mapT_plain _ _).symm
     have hgl : (renumL mf27).length = mf27.length := by rw [hrm.1]; exact List.length_map _
     have hgb := renF_bd (numsL mf27) (upL (numsL mf27).length) mf27; have hgz : sizeL (renumL mf27) ≤ 240 := Nat.le_trans (normL_size _) (by omega)
     have hgm : Small (renumL mf27) := ⟨by omega, by omega⟩
     have hgw : validateL (renumL mf27) = 0 := by have h1 := (lengthL_le (renumL mf27)).2; unfold validateL; rw [if_neg (by omega)]; exact (val_iff _).2 hgv
     have hgnl : (numsL (renumL mf27)).length = (numsL mf27).length := by rw [hgn, upL_len]
     have hpp : pairL mf27 (renumL mf27) = (numsL mf27, upL (numsL mf27).length) := by rw [hrm.1]; exact pair_self mf27
     have hp1 : (pairL mf27 (renumL mf27)).1 = numsL mf27 := by rw [hpp]
     have hp2 : ((pairL mf27 (renumL mf27)).2.length : Int) = ((pairL mf27 (renumL mf27)).1.length : Nat) := by rw [hpp]; simp [upL_len]
     have hp3 : renL (pairL mf27 (renumL mf27)).1 (pairL mf27 (renumL mf27)).2 mf27 = renumL mf27 := by rw [hpp]; rfl
     have hp4 : (pairL mf27 (renumL mf27)).1.length ≤ 1000 ∧ (pairL mf27 (renumL mf27)).2.length ≤ 1000 := by have h1 := pairL_ok mf27 (renumL mf27); have h2 := h1.le; have h3 := h1.len; omega
     refine r_region ?_
     refine r_op rfl rfl rfl (run_mv (v := vg27) rfl (by exact rfl)) ?_
     refine r_op rfl rfl rfl (run_mv (v := vg27) rfl (by exact rfl)) ?_
     obtain ⟨ao28, g28, cp28, hv28, hr28, hg28⟩ := hog27.rowOf
     subst hv28
     refine r_opcall rfl rfl rfl (run_callf (vs := [.slice _ _ _]) rfl (by exact rfl) Try.func39 rfl (by kernel_rfl)) (renumber_calls hr28 (by first | assumption | exact MF.small (by assumption) | exact kf_small | exact small_take (by assumption) _)) ?_
     rintro e w29 ⟨vn29, rfl, hE29, hon29⟩
     refine ⟨_, rfl, ?_⟩
     have hs_w29 := (hE29).size
     replace hV := evo_step0 hV hE29
     replace hI17 := evo_step0 hI17 hE29
     replace rf := rf0 _ hV
     replace ru := ru0 _ hV
     replace rl := rl0 _ hV
     replace rm := rm0 _ hV
     replace hr12 := hr120 _ hI17
     replace hog27 := hog27.evo0 hE29
     replace hr28 := hr28.evo0 hE29
     obtain ⟨ao30, g30, cp30, hv30, hr30, hg30⟩ := hon29.rowOf
     subst hv30
     refine r_opcall rfl rfl rfl (run_callf (vs := [.slice _ _ _, .slice _ _ _]) rfl (by exact rfl) Try.func41 rfl (by kernel_rfl)) (pair_calls hr28 hr30 (by first | assumption | exact MF.small (by assumption) | exact kf_small | exact small_take (by assumption) _) (by first | assumption | exact MF.small (by assumption) | exact kf_small | exact small_take (by assumption) _)) ?_
     rintro e w31 ⟨vp31, vq31, rfl, hE31, hop31, hoq31⟩
     refine ⟨_, rfl, ?_⟩
     have hs_w31 := (hE31).size
     replace hV := evo_step0 hV hE31
     replace hI17 := evo_step0 hI17 hE31
     replace rf := rf0 _ hV
     replace ru := ru0 _ hV
     replace rl := rl0 _ hV
     replace rm := rm0 _ hV
     replace hr12 := hr120 _ hI17
     replace hog27 := hog27.evo0 hE31
     replace hr28 := hr28.evo0 hE31
     replace hon29 := hon29.evo0 hE31
     replace hr30 := hr30.evo0 hE31
     refine r_op rfl rfl rfl (run_mv (v := .tuple _) rfl (by exact rfl)) ?_
     refine r_op rfl rfl rfl (run_extract (v := vp31) rfl (by exact rfl) (by exact rfl)) ?_
     refine r_op rfl rfl rfl (run_extract (v := vq31) rfl (by exact rfl) (by exact rfl)) ?_
     refine r_op rfl rfl rfl (run_asg (v := vp31) rfl (by exact rfl)) ?_
     refine r_op rfl rfl rfl (run_asg (v := vq31) rfl (by exact rfl)) ?_
     refine r_nil ?_
     refine r_seq ?_
     refine r_region ?_
     refine r_op rfl rfl rfl (run_mv (v := vp31) rfl (by exact rfl)) ?_
     refine r_op rfl rfl rfl (run_mv (v := .slice _ _ _) rfl (by exact rfl)) ?_
     refine r_opcall rfl rfl rfl (run_callf (vs := [.slice _ _ _]) rfl (by exact rfl) Try.func40 rfl (by kernel_rfl)) (numbers_calls hr28 (by first | assumption | exact MF.small (by assumption) | exact kf_small | exact small_take (by assumption) _)) ?_
     rintro e w32 ⟨vu32, rfl, hE32, hou32⟩
     refine ⟨_, rfl, ?_⟩
     have hs_w32 := (hE32).size
     replace hV := evo_step0 hV hE32
     replace hI17 := evo_step0 hI17 hE32
     replace rf := rf0 _ hV
     replace ru := ru0 _ hV
     replace rl := rl0 _ hV
     replace rm := rm0 _ hV
     replace hr12 := hr120 _ hI17
     replace hog27 := hog27.evo0 hE32
     replace hr28 := hr28.evo0 hE32
     replace hon29 := hon29.evo0 hE32
     replace hr30 := hr30.evo0 hE32
     replace hop31 := hop31.evo0 hE32
     replace hoq31 := hoq31.evo0 hE32
     obtain ⟨ao33, g33, cp33, hv33, hr33, hg33⟩ := hop31.rowOf
     subst hv33
     obtain ⟨ao34, g34, cp34, hv34, hr34, hg34⟩ := hou32.rowOf
     subst hv34
     refine r_opcall rfl rfl rfl (run_callf (vs := [.slice _ _ _, .slice _ _ _]) rfl (by exact rfl) Try.func28 rfl (by kernel_rfl)) (sameints_calls hr33 hr34) ?_
     rintro e w35 ⟨rfl, hE35⟩
     refine ⟨_, rfl, ?_⟩
     have hs_w35 := (hE35).size
     replace hV := evo_step0 hV hE35
     replace hI17 := evo_step0 hI17 hE35
     replace rf := rf0 _ hV
     replace ru := ru0 _ hV
     replace rl := rl0 _ hV
     replace rm := rm0 _ hV
     replace hr12 := hr120 _ hI17
     replace hog27 := hog27.evo0 hE35
     replace hr28 := hr28.evo0 hE35
     replace hon29 := hon29.evo0 hE35
     replace hr30 := hr30.evo0 hE35
     replace hop31 := hop31.evo0 hE35
     replace hoq31 := hoq31.evo0 hE35
     replace hou32 := hou32.evo0 hE35
     replace hr33 := hr33.evo0 hE35
     replace hr34 := hr34.evo0 hE35
     refine r_op rfl rfl rfl (run_mv (v := .bool _) rfl (by exact rfl)) ?_
     refine r_gyes rfl (wantT (by exact rfl)) (by exact hp1) ?_
     refine r_op rfl rfl rfl (run_mv (v := vq31) rfl (by exact rfl)) ?_
     refine r_gyes rfl (wantT (by exact rfl)) (by exact hp1) ?_
     refine r_op rfl rfl rfl (run_lenOE rfl (by exact rfl) Try.underlying24 hoq31) ?_
     refine r_gyes rfl (wantT (by exact rfl)) (by exact hp1) ?_
     refine r_op rfl rfl rfl (run_mv (v := .slice _ _ _) rfl (by exact rfl)) ?_
     refine r_gyes rfl (wantT (by exact rfl)) (by exact hp1) ?_
     refine r_op rfl rfl rfl (run_lenSl rfl (by exact rfl) Try.underlying24) ?_
     refine r_gyes rfl (wantT (by exact rfl)) (by exact hp1) ?_
     refine r_op rfl rfl rfl (run_eql rfl (by exact rfl) (by exact rfl)) ?_
     refine r_op rfl rfl rfl (run_pick_and rfl (by exact rfl) (fun _ => (by exact rfl)) rfl) ?_
     refine r_op rfl rfl rfl (run_mv (v := .bool _) rfl (by exact rfl)) ?_
     refine r_gyes rfl (wantT (by exact rfl)) (by exact ⟨hp1, hp2⟩) ?_
     refine r_op rfl rfl rfl (run_mv (v := .slice _ _ _) rfl (by exact rfl)) ?_
     refine r_gyes rfl (wantT (by exact rfl)) (by exact ⟨hp1, hp2⟩) ?_
     refine r_op rfl rfl rfl (run_mv (v := .slice _ _ _) rfl (by exact rfl)) ?_
     refine r_gyes rfl (wantT (by exact rfl)) (by exact ⟨hp1, hp2⟩) ?_
     refine r_op rfl rfl rfl (run_mv (v := vq31) rfl (by exact rfl)) ?_
     refine r_gyes rfl (wantT (by exact rfl)) (by exact ⟨hp1, hp2⟩) ?_
     obtain ⟨ao36, g36, cp36, hv36, hr36, hg36⟩ := hoq31.rowOf
     subst hv36
     refine r_opcall rfl rfl rfl (run_callf (vs := [.slice _ _ _, .slice _ _ _, .slice _ _ _]) rfl (by exact rfl) Try.func37 rfl (by kernel_rfl)) (rename_calls hr28 hr33 hr36 (by first | assumption | exact MF.small (by assumption) | exact kf_small | exact small_take (by assumption) _) (by omega) (by omega)) ?_
     rintro e w37 ⟨vn37, rfl, hE37, hon37⟩
     refine ⟨_, rfl, ?_⟩
     have hs_w37 := (hE37).size
     replace hV := evo_step0 hV hE37
     replace hI17 := evo_step0 hI17 hE37
     replace rf := rf0 _ hV
     replace ru := ru0 _ hV
     replace rl := rl0 _ hV
     replace rm := rm0 _ hV
     replace hr12 := hr120 _ hI17
     replace hog27 := hog27.evo0 hE37
     replace hr28 := hr28.evo0 hE37
     replace hon29 := hon29.evo0 hE37
     replace hr30 := hr30.evo0 hE37
     replace hop31 := hop31.evo0 hE37
     replace hoq31 := hoq31.evo0 hE37
     replace hou32 := hou32.evo0 hE37
     replace hr33 := hr33.evo0 hE37
     replace hr34 := hr34.evo0 hE37
     replace hr36 := hr36.evo0 hE37
     refine r_gyes rfl (wantT (by exact rfl)) (by exact ⟨hp1, hp2⟩) ?_
     refine r_op rfl rfl rfl (run_mv (v := .slice _ _ _) rfl (by exact rfl)) ?_
     refine r_gyes rfl (wantT (by exact rfl)) (by exact ⟨hp1, hp2⟩) ?_
     refine r_opcall rfl rfl rfl (run_callf (vs := [.slice _ _ _]) rfl (by exact rfl) Try.func39 rfl (by kernel_rfl)) (renumber_calls hr28 (by first | assumption | exact MF.small (by assumption) | exact kf_small | exact small_take (by assumption) _)) ?_
     rintro e w38 ⟨vn38, rfl, hE38, hon38⟩
     refine ⟨_, rfl, ?_⟩
     have hs_w38 := (hE38).size
     replace hV := evo_step0 hV hE38
     replace hI17 := evo_step0 hI17 hE38
     replace rf := rf0 _ hV
     replace ru := ru0 _ hV
     replace rl := rl0 _ hV
     replace rm := rm0 _ hV
     replace hr12 := hr120 _ hI17
     replace hog27 := hog27.evo0 hE38
     replace hr28 := hr28.evo0 hE38
     replace hon29 := hon29.evo0 hE38
     replace hr30 := hr30.evo0 hE38
     replace hop31 := hop31.evo0 hE38
     replace hoq31 := hoq31.evo0 hE38
     replace hou32 := hou32.evo0 hE38
     replace hr33 := hr33.evo0 hE38
     replace hr34 := hr34.evo0 hE38
     replace hr36 := hr36.evo0 hE38
     replace hon37 := hon37.evo0 hE38
     refine r_gyes rfl (wantT (by exact rfl)) (by exact ⟨hp1, hp2⟩) ?_
     obtain ⟨ao39, g39, cp39, hv39, hr39, hg39⟩ := hon37.rowOf
     subst hv39
     obtain ⟨ao40, g40, cp40, hv40, hr40, hg40⟩ := hon38.rowOf
     subst hv40
     refine r_opcall rfl rfl rfl (run_callf (vs := [.slice _ _ _, .slice _ _ _]) rfl (by exact rfl) Try.func31 rfl (by kernel_rfl)) (same_calls hr39 hr40) ?_
     rintro e w41 ⟨rfl, hE41⟩
     refine ⟨_, rfl, ?_⟩
     have hs_w41 := (hE41).size
     replace hV := evo_step0 hV hE41
     replace hI17 := evo_step0 hI17 hE41
     replace rf := rf0 _ hV
     replace ru := ru0 _ hV
     replace rl := rl0 _ hV
     replace rm := rm0 _ hV
     replace hr12 := hr120 _ hI17
     replace hog27 := hog27.evo0 hE41
     replace hr28 := hr28.evo0 hE41
     replace hon29 := hon29.evo0 hE41
     replace hr30 := hr30.evo0 hE41
     replace hop31 := hop31.evo0 hE41
     replace hoq31 := hoq31.evo0 hE41
     replace hou32 := hou32.evo0 hE41
     replace hr33 := hr33.evo0 hE41
     replace hr34 := hr34.evo0 hE41
     replace hr36 := hr36.evo0 hE41
     replace hon37 := hon37.evo0 hE41
     replace hon38 := hon38.evo0 hE41
     replace hr39 := hr39.evo0 hE41
     replace hr40 := hr40.evo0 hE41
     refine r_op rfl rfl rfl (run_pick_and rfl (by exact rfl) (fun _ => (by exact rfl)) rfl) ?_
     refine r_op rfl rfl rfl (run_mv (v := .bool _) rfl (by exact rfl)) ?_
     refine r_gyes rfl (wantT (by exact rfl)) (by exact ⟨⟨hp1, hp2⟩, hp3⟩) ?_
     refine r_opcall rfl rfl rfl (run_callf (vs := []) rfl (by exact rfl) Try.func21 rfl (by kernel_rfl)) known_calls ?_
     rintro e w42 ⟨rfl, hE42⟩
     refine ⟨_, rfl, ?_⟩
     have hs_w42 := (hE42).size
     replace hV := evo_step0 hV hE42
     replace hI17 := evo_step0 hI17 hE42
     replace rf := rf0 _ hV
     replace ru := ru0 _ hV
     replace rl := rl0 _ hV
     replace rm := rm0 _ hV
     replace hr12 := hr120 _ hI17
     replace hog27 := hog27.evo0 hE42
     replace hr28 := hr28.evo0 hE42
     replace hon29 := hon29.evo0 hE42
     replace hr30 := hr30.evo0 hE42
     replace hop31 := hop31.evo0 hE42
     replace hoq31 := hoq31.evo0 hE42
     replace hou32 := hou32.evo0 hE42
     replace hr33 := hr33.evo0 hE42
     replace hr34 := hr34.evo0 hE42
     replace hr36 := hr36.evo0 hE42
     replace hon37 := hon37.evo0 hE42
     replace hon38 := hon38.evo0 hE42
     replace hr39 := hr39.evo0 hE42
     replace hr40 := hr40.evo0 hE42
     refine r_op rfl rfl rfl (run_pick_and rfl (by exact rfl) (fun _ => (by exact rfl)) rfl) ?_
     refine r_op rfl rfl rfl (run_asg (v := .bool _) rfl (by exact rfl)) ?_
     refine r_nil ?_
     refine r_ret (res1 (v := .bool _) rfl (by exact rfl)) ?_
     exact ⟨ret_bool (decide_eq_true ⟨⟨⟨hp1, hp2⟩, hp3⟩, trivial⟩), hV⟩

end Go.Proofs.Ytkdgoghmkmpfnaa
