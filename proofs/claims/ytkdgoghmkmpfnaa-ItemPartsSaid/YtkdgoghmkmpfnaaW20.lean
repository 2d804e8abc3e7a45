import Derived.Test.YtkdgoghmkmpfnaaW16
import Derived.Test.YtkdgoghmkmpfnaaPa
import Derived.Test.YtkdgoghmkmpfnaaLb
namespace Go.Proofs.Ytkdgoghmkmpfnaa
open Go.RowKit Go.Vc

theorem renumber_calls {ao : Option Addr} {b off cap : Nat} {f : List Vc.Item} {w0 : World} (hf : RowE w0 ao b off cap f) (hsm : Small f) :
    Calls Try.prog 39 #[.slice ao f.length cap] w0 fun e w' => ∃ v, e = .returned v ∧ Evo w0 w' [] ∧ OwnE w' w0.heap.size 26 v (renumL f) := by
 have hs1 := hsm.1; have hq1 := numsL_len f; have hq2 := upL_len (numsL f).length
 refine calls_enter (n := 12) (args := [.slice ao f.length cap]) Try.func39 rfl Try.ntmps39 rfl ?_
 have hV : Evo w0 w0 [] := Evo.refl _ _
 have hf0 := keepE hf
 have hbd_hf := hf.bd
 refine r_seq ?_
 refine r_region ?_
 refine r_op rfl rfl rfl (run_asg (v := .slice _ _ _) rfl (by exact rfl)) ?_
 refine r_nil ?_
 refine r_seq ?_
 refine r_region ?_
 refine r_op rfl rfl rfl (run_mv (v := .slice _ _ _) rfl (by exact rfl)) ?_
 refine r_opcall rfl rfl rfl (run_callf (vs := [.slice _ _ _]) rfl (by exact rfl) Try.func40 rfl (by kernel_rfl)) (numbers_calls hf (by first | assumption | exact MF.small (by assumption) | exact kf_small | exact small_take (by assumption) _)) ?_
 rintro e w1 ⟨vu1, rfl, hE1, hou1⟩
 refine ⟨_, rfl, ?_⟩
 have hs_w1 := (hE1).size
 replace hV := evo_step0 hV hE1
 replace hf := hf0 _ hV
 refine r_op rfl rfl rfl (run_asg (v := vu1) rfl (by exact rfl)) ?_
 refine r_nil ?_
 refine r_seq ?_
 refine r_region ?_
 refine r_op rfl rfl rfl (run_mv (v := .slice _ _ _) rfl (by exact rfl)) ?_
 refine r_op rfl rfl rfl (run_mv (v := vu1) rfl (by exact rfl)) ?_
 refine r_op rfl rfl rfl (run_mv (v := vu1) rfl (by exact rfl)) ?_
 refine r_op rfl rfl rfl (run_lenOE rfl (by exact rfl) Try.underlying24 hou1) ?_
 refine r_opcall rfl rfl rfl (run_callf (vs := [.int _ _]) rfl (by exact rfl) Try.func73 rfl (by kernel_rfl)) (counting_calls (by omega)) ?_
 rintro e w2 ⟨vr2, rfl, hE2, ao2, br2, cr2, rfl, hr2⟩
 refine ⟨_, rfl, ?_⟩
 have hs_w2 := (hE2).size
 replace hV := evo_step0 hV hE2
 replace hf := hf0 _ hV
 replace hou1 := hou1.evo0 hE2
 obtain ⟨ao3, g3, cp3, hv3, hr3, hg3⟩ := hou1.rowOf
 subst hv3
 refine r_opcall rfl rfl rfl (run_callf (vs := [.slice _ _ _, .slice _ _ _, .slice _ _ _]) rfl (by exact rfl) Try.func37 rfl (by kernel_rfl)) (rename_calls hf hr3 hr2 (by first | assumption | exact MF.small (by assumption) | exact kf_small | exact small_take (by assumption) _) (by omega) (by omega)) ?_
 rintro e w4 ⟨vn4, rfl, hE4, hon4⟩
 refine ⟨_, rfl, ?_⟩
 have hs_w4 := (hE4).size
 replace hV := evo_step0 hV hE4
 replace hf := hf0 _ hV
 replace hou1 := hou1.evo0 hE4
 replace hr2 := hr2.evo0 hE4
 replace hr3 := hr3.evo0 hE4
 refine r_op rfl rfl rfl (run_asg (v := vn4) rfl (by exact rfl)) ?_
 refine r_nil ?_
 refine r_ret (res1 (v := vn4) rfl (by exact rfl)) ?_
 exact ⟨_, rfl, hV, by have h9 := hon4; exact h9.base_le (by omega)⟩

theorem rrenumber_calls {ao : Option Addr} {b off cap : Nat} {f : List Vc.Item} {w0 : World} (hf : RowE w0 ao b off cap f) (hsm : Small f) :
    Calls Try.prog 56 #[.slice ao f.length cap] w0 fun e w' => ∃ v, e = .returned v ∧ Evo w0 w' [] ∧ OwnE w' w0.heap.size 26 v (renumL f) := by
 have hs1 := hsm.1; have hq1 := numsL_len f; have hq2 := upL_len (numsL f).length
 refine calls_enter (n := 12) (args := [.slice ao f.length cap]) Try.func56 rfl Try.ntmps56 rfl ?_
 have hV : Evo w0 w0 [] := Evo.refl _ _
 have hf0 := keepE hf
 have hbd_hf := hf.bd
 refine r_seq ?_
 refine r_region ?_
 refine r_op rfl rfl rfl (run_asg (v := .slice _ _ _) rfl (by exact rfl)) ?_
 refine r_nil ?_
 refine r_seq ?_
 refine r_region ?_
 refine r_op rfl rfl rfl (run_mv (v := .slice _ _ _) rfl (by exact rfl)) ?_
 refine r_opcall rfl rfl rfl (run_callf (vs := [.slice _ _ _]) rfl (by exact rfl) Try.func55 rfl (by kernel_rfl)) (rnumbers_calls hf (by first | assumption | exact MF.small (by assumption) | exact kf_small | exact small_take (by assumption) _)) ?_
 rintro e w1 ⟨vu1, rfl, hE1, hou1⟩
 refine ⟨_, rfl, ?_⟩
 have hs_w1 := (hE1).size
 replace hV := evo_step0 hV hE1
 replace hf := hf0 _ hV
 refine r_op rfl rfl rfl (run_asg (v := vu1) rfl (by exact rfl)) ?_
 refine r_nil ?_
 refine r_seq ?_
 refine r_region ?_
 refine r_op rfl rfl rfl (run_mv (v := .slice _ _ _) rfl (by exact rfl)) ?_
 refine r_op rfl rfl rfl (run_mv (v := vu1) rfl (by exact rfl)) ?_
 refine r_op rfl rfl rfl (run_mv (v := vu1) rfl (by exact rfl)) ?_
 refine r_op rfl rfl rfl (run_lenOE rfl (by exact rfl) Try.underlying24 hou1) ?_
 refine r_opcall rfl rfl rfl (run_callf (vs := [.int _ _]) rfl (by exact rfl) Try.func74 rfl (by kernel_rfl)) (upto_calls (by omega)) ?_
 rintro e w2 ⟨vu2, rfl, hE2, hou2⟩
 refine ⟨_, rfl, ?_⟩
 have hs_w2 := (hE2).size
 replace hV := evo_step0 hV hE2
 replace hf := hf0 _ hV
 replace hou1 := hou1.evo0 hE2
 obtain ⟨ao3, g3, cp3, hv3, hr3, hg3⟩ := hou1.rowOf
 subst hv3
 obtain ⟨ao4, g4, cp4, hv4, hr4, hg4⟩ := hou2.rowOf
 subst hv4
 refine r_opcall rfl rfl rfl (run_callf (vs := [.slice _ _ _, .slice _ _ _, .slice _ _ _]) rfl (by exact rfl) Try.func38 rfl (by kernel_rfl)) (rrename_calls hf hr3 hr4 (by first | assumption | exact MF.small (by assumption) | exact kf_small | exact small_take (by assumption) _) (by omega) (by omega)) ?_
 rintro e w5 ⟨vn5, rfl, hE5, hon5⟩
 refine ⟨_, rfl, ?_⟩
 have hs_w5 := (hE5).size
 replace hV := evo_step0 hV hE5
 replace hf := hf0 _ hV
 replace hou1 := hou1.evo0 hE5
 replace hou2 := hou2.evo0 hE5
 replace hr3 := hr3.evo0 hE5
 replace hr4 := hr4.evo0 hE5
 refine r_op rfl rfl rfl (run_asg (v := vn5) rfl (by exact rfl)) ?_
 refine r_nil ?_
 refine r_ret (res1 (v := vn5) rfl (by exact rfl)) ?_
 exact ⟨_, rfl, hV, by have h9 := hon5; exact h9.base_le (by omega)⟩

theorem mapS_some (r : Int → Int) (o : Option (List Int × List Int)) : (mapS r o).isSome = o.isSome ∧ ((mapS r o).getD ([], [])).1.length = (o.getD ([], [])).1.length ∧ ((mapS r o).getD ([], [])).2.length = (o.getD ([], [])).2.length := by
  cases o with
  | none => exact ⟨rfl, rfl, rfl⟩
  | some p => exact ⟨rfl, List.length_map _, List.length_map _⟩
theorem sh_map {f g : List Vc.Item} {r : Int → Int} (h : shapeL g = mapS r (shapeL f)) : (shapeL f).isSome = (shapeL g).isSome ∧ (shC f).length = (shC g).length ∧ (shO f).length = (shO g).length := by
  have h2 := mapS_some r (shapeL f)
  unfold shC shO
  rw [h]
  exact ⟨h2.1.symm, h2.2.1.symm, h2.2.2.symm⟩

theorem renumbers_law {ao : Option Addr} {b off cap : Nat} {l : List Int} {w0 : World} (hl : RowE w0 ao b off cap l) :
    Calls Try.prog 11 #[.slice ao l.length cap] w0 fun e w' => e = .returned (.bool true) ∧ Evo w0 w' [] := by
 refine calls_enter (n := 94) (args := [.slice ao l.length cap]) Try.func11 rfl Try.ntmps11 rfl ?_
 have hV : Evo w0 w0 [] := Evo.refl _ _
 have hl0 := keepE hl
 have hbd_hl := hl.bd
 refine r_seq ?_
 refine r_region ?_
 refine r_op rfl rfl rfl (run_asg (v := .bool _) rfl (by exact rfl)) ?_
 refine r_nil ?_
 refine r_seq ?_
 refine r_seq ?_
 refine r_region ?_
 refine r_op rfl rfl rfl (run_mv (v := .slice _ _ _) rfl (by exact rfl)) ?_
 refine r_op rfl rfl rfl (run_lenSl rfl (by exact rfl) Try.underlying24) ?_
 refine r_op rfl rfl rfl (run_gtr rfl (by exact rfl) (by exact rfl)) ?_
 refine r_nil ?_
 refine r_cond (by exact rfl) (fun hc1 => ?_) (fun hc1 => ?_)
 ·skip
  refine r_seq ?_
  refine r_region ?_
  refine r_opcall rfl rfl rfl (run_callf (vs := []) rfl (by exact rfl) Try.func21 rfl (by kernel_rfl)) known_calls ?_
  rintro e w2 ⟨rfl, hE2⟩
  refine ⟨_, rfl, ?_⟩
  have hs_w2 := (hE2).size
  replace hV := evo_step0 hV hE2
  replace hl := hl0 _ hV
  refine r_op rfl rfl rfl (run_asg (v := .bool _) rfl (by exact rfl)) ?_
  refine r_nil ?_
  refine r_ret (res1 (v := .bool _) rfl (by exact rfl)) ?_
  exact ⟨rfl, hV⟩
 ·skip
  refine r_skip ?_
  refine r_seq ?_
  refine r_region ?_
  refine r_op rfl rfl rfl (run_mv (v := .slice _ _ _) rfl (by exact rfl)) ?_
  refine r_opcall rfl rfl rfl (run_callf (vs := [.slice _ _ _, .bool _, .bool _]) rfl (by exact rfl) Try.func23 rfl (by kernel_rfl)) (made_calls hl) ?_
  rintro e w3 ⟨vg3, mf3, rfl, hM3, hE3, hog3⟩
  refine ⟨_, rfl, ?_⟩
  have hs_w3 := (hE3).size
  replace hV := evo_step0 hV hE3
  replace hl := hl0 _ hV
  refine r_op rfl rfl rfl (run_asg (v := vg3) rfl (by exact rfl)) ?_
  refine r_nil ?_
  refine r_seq ?_
  have hmf := hM3; have hml := hmf.len; have hms := hmf.size; have hsv := hmf.small; have hnl := numsL_len mf3
  have hvf := (val_iff _).1 hmf.val; have hrm := renum_map hvf (by omega); have hgv : VF (renumL mf3) := by rw [hrm.1]; exact hrm.2
  have hgn : numsL (renumL mf3) = upL (numsL mf3).length := by rw [hrm.1]; exact renum_nums
  have hga : renumL (renumL mf3) = (renumL mf3) := renum_again hgv hgn
  have hgs : shapeL (renumL mf3) = mapS (renumR mf3) (shapeL mf3) := by rw [hrm.1]; exact mapT_shape _ (renum_inj _)
  have hgp : plainL mf3 = plainL (renumL mf3) := by rw [hrm.1]; exact (mapT_plain _ _).symm
  have hgl : (renumL mf3).length = mf3.length := by rw [hrm.1]; exact List.length_map _
  have hgb := renF_bd (numsL mf3) (upL (numsL mf3).length) mf3; have hgz : sizeL (renumL mf3) ≤ 240 := Nat.le_trans (normL_size _) (by omega)
  have hgm : Small (renumL mf3) := ⟨by omega, by omega⟩
  have hgw : validateL (renumL mf3) = 0 := by have h1 := (lengthL_le (renumL mf3)).2; unfold validateL; rw [if_neg (by omega)]; exact (val_iff _).2 hgv
  have hgnl : (numsL (renumL mf3)).length = (numsL mf3).length := by rw [hgn, upL_len]
  refine r_region ?_
  refine r_op rfl rfl rfl (run_mv (v := vg3) rfl (by exact rfl)) ?_
  obtain ⟨ao4, g4, cp4, hv4, hr4, hg4⟩ := hog3.rowOf
  subst hv4
  refine r_opcall rfl rfl rfl (run_callf (vs := [.slice _ _ _]) rfl (by exact rfl) Try.func39 rfl (by kernel_rfl)) (renumber_calls hr4 (by first | assumption | exact MF.small (by assumption) | exact kf_small | exact small_take (by assumption) _)) ?_
  rintro e w5 ⟨vn5, rfl, hE5, hon5⟩
  refine ⟨_, rfl, ?_⟩
  have hs_w5 := (hE5).size
  replace hV := evo_step0 hV hE5
  replace hl := hl0 _ hV
  replace hog3 := hog3.evo0 hE5
  replace hr4 := hr4.evo0 hE5
  refine r_op rfl rfl rfl (run_asg (v := vn5) rfl (by exact rfl)) ?_
  refine r_nil ?_
  refine r_seq ?_
  refine r_region ?_
  refine r_op rfl rfl rfl (run_mv (v := vn5) rfl (by exact rfl)) ?_
  obtain ⟨ao6, g6, cp6, hv6, hr6, hg6⟩ := hon5.rowOf
  subst hv6
  refine r_opcall rfl rfl rfl (run_callf (vs := [.slice _ _ _]) rfl (by exact rfl) Try.func40 rfl (by kernel_rfl)) (numbers_calls hr6 (by first | assumption | exact MF.small (by assumption) | exact kf_small | exact small_take (by assumption) _)) ?_
  rintro e w7 ⟨vu7, rfl, hE7, hou7⟩
  refine ⟨_, rfl, ?_⟩
  have hs_w7 := (hE7).size
  replace hV := evo_step0 hV hE7
  replace hl := hl0 _ hV
  replace hog3 := hog3.evo0 hE7
  replace hr4 := hr4.evo0 hE7
  replace hon5 := hon5.evo0 hE7
  replace hr6 := hr6.evo0 hE7
  refine r_op rfl rfl rfl (run_asg (v := vu7) rfl (by exact rfl)) ?_
  refine r_nil ?_
  refine r_seq ?_
  refine r_seq ?_
  refine r_region ?_
  refine r_op rfl rfl rfl (run_mv (v := vu7) rfl (by exact rfl)) ?_
  refine r_op rfl rfl rfl (run_lenOE rfl (by exact rfl) Try.underlying24 hou7) ?_
  refine r_op rfl rfl rfl (run_mv (v := .int _ _) rfl (by exact rfl)) ?_
  refine r_nil ?_
  refine r_block ?_
  have hI8 : Evo w7 w7 [] := Evo.refl _ _
  have hr40 := keepE hr4
  have hr60 := keepE hr6
  obtain ⟨ao9, g9, cp9, hv9, hr9, hg9⟩ := hou7.rowOf
  subst hv9
  have hr90 := keepE hr9
  refine r_loop (α := Nat) [2, 6, 25, 26, 27, 28, 29, 30, 31, 32, 33, 34, 35] (fun k g w => g 25 = .int .i64 (k : Nat) ∧ k ≤ (numsL (renumL mf3)).length ∧ w7.heap.size ≤ w.heap.size ∧ Evo w0 w [] ∧ Evo w7 w []) (fun k => (numsL (renumL mf3)).length - k) 0 ?_ ?_
  ·refine ⟨(by first | exact rfl | exact congrArg (Value.int _) (by omega) | exact congrArg (Value.int _) (by dsimp only; omega) | exact congrArg (Value.int _) (by simp) | exact congrArg S (by simp)), (by first | assumption | omega | (dsimp only; omega) | (simp; done)), (by first | assumption | omega | (dsimp only; omega) | (simp; done)), hV, hI8⟩
  ·rintro k g w11 ⟨hj12, hk_k, hzl10, hV, hI8⟩
   have hs_w11hV := hV.size
   have hs_w11hI8 := hI8.size
   replace hl := hl0 _ hV
   replace hr4 := hr40 _ hI8
   replace hr6 := hr60 _ hI8
   replace hr9 := hr90 _ hI8
   refine r_know (i := 25) (v := .int .i64 (k : Nat)) (by exact hj12) ?_
   refine r_seq ?_
   refine r_region ?_
   refine r_op rfl rfl rfl (run_lss rfl (by exact rfl) (by exact rfl)) ?_
   refine r_nil ?_
   refine r_seq ?_
   refine r_cond (by exact rfl) (fun hc13 => ?_) (fun hc13 => ?_)
   ·skip
    refine r_skip ?_
    refine r_seq ?_
    refine r_block ?_
    refine r_seq ?_
    refine r_region ?_
    refine r_op rfl rfl rfl (run_mv (v := .int _ _) rfl (by exact rfl)) ?_
    refine r_op rfl rfl rfl (run_asg (v := .int _ _) rfl (by exact rfl)) ?_
    refine r_nil ?_
    refine r_seq ?_
    refine r_region ?_
    refine r_op rfl rfl rfl (run_mv (v := .slice _ _ _) rfl (by exact rfl)) ?_
    refine r_op rfl rfl rfl (run_mv (v := .int _ _) rfl (by exact rfl)) ?_
    refine r_op rfl rfl rfl (run_ix (k) rfl Try.underlying24 ty_3 (by exact rfl) (by exact rfl) (by first | exact rfl | omega) (by omega) (hr9.addr (i := k) (by omega))) ?_
    have hA140 := fun (w' : World) (h : Evo w7 w' []) => (hr90 w' h).atD (k) (by omega)
    have hA14 := hA140 _ hI8
    refine r_op rfl rfl rfl (run_ld1 rfl ag_3 (by exact rfl) (hA14.cell 0 (by exact rfl))) ?_
    refine r_op rfl rfl rfl (run_mv (v := .int _ _) rfl (by exact rfl)) ?_
    refine r_op rfl rfl rfl (run_add rfl (by exact rfl) (by exact rfl) (by omega) (by omega)) ?_
    refine r_op rfl rfl rfl (run_neq rfl (by exact rfl) (by exact rfl)) ?_
    refine r_nil ?_
    refine r_cond (by exact rfl) (fun hc15 => ?_) (fun hc15 => ?_)
    ·skip
     refine r_seq ?_
     refine r_region ?_
     refine r_op rfl rfl rfl (run_asg (v := .bool _) rfl (by exact rfl)) ?_
     refine r_nil ?_
     refine r_ret (res1 (v := .bool _) rfl (by exact rfl)) ?_
     exact absurd (show (numsL (renumL mf3)).getD k default = (k : Int) + 1 by rw [hgn]; exact upL_at (by omega)) hc15
    ·skip
     refine r_skip ?_
     refine r_blk ?_
     refine r_region ?_
     refine r_op rfl rfl rfl (run_add rfl (by exact rfl) (by exact rfl) (by omega) (by omega)) ?_
     refine r_op rfl rfl rfl (run_mv (v := .int _ _) rfl (by exact rfl)) ?_
     refine r_nil ?_
     refine r_again (k + 1) ?_ ?_ ?_
     ·first | omega | (dsimp only; omega)
     ·refine ⟨(by first | exact rfl | exact congrArg (Value.int _) (by omega) | exact congrArg (Value.int _) (by dsimp only; omega) | exact congrArg (Value.int _) (by simp) | exact congrArg S (by simp)), (by first | assumption | omega | (dsimp only; omega) | (simp; done)), (by first | assumption | omega | (dsimp only; omega) | (simp; done)), hV, hI8⟩
     ·repeat (first | (with_reducible exact Agree.merge _ _ _) | (with_reducible exact Agree.refl _ _) | (with_reducible refine Agree.upd ?_ _ _ rfl) | ((with_reducible refine Agree.inner ?_ ?_); (kernel_rfl)))
   ·skip
    refine r_exit rfl ?_
    refine r_seq ?_
    have hgq := sh_map hgs
    refine r_region ?_
    refine r_op rfl rfl rfl (run_mv (v := .slice _ _ _) rfl (by exact rfl)) ?_
    refine r_opcall rfl rfl rfl (run_callf (vs := [.slice _ _ _]) rfl (by exact rfl) Try.func26 rfl (by kernel_rfl)) (shape_calls hr4 (by first | assumption | exact MF.small (by assumption) | exact kf_small | exact small_take (by assumption) _)) ?_
    rintro e w16 ⟨vp16, vq16, rfl, hE16, hop16, hoq16⟩
    refine ⟨_, rfl, ?_⟩
    have hs_w16 := (hE16).size
    replace hV := evo_step0 hV hE16
    replace hI8 := evo_step0 hI8 hE16
    replace hl := hl0 _ hV
    replace hr4 := hr40 _ hI8
    replace hr6 := hr60 _ hI8
    replace hr9 := hr90 _ hI8
    refine r_op rfl rfl rfl (run_mv (v := .tuple _) rfl (by exact rfl)) ?_
    refine r_op rfl rfl rfl (run_extract (v := vp16) rfl (by exact rfl) (by exact rfl)) ?_
    refine r_op rfl rfl rfl (run_extract (v := vq16) rfl (by exact rfl) (by exact rfl)) ?_
    refine r_op rfl rfl rfl (run_extract (v := .bool _) rfl (by exact rfl) (by exact rfl)) ?_
    refine r_op rfl rfl rfl (run_asg (v := vp16) rfl (by exact rfl)) ?_
    refine r_op rfl rfl rfl (run_asg (v := vq16) rfl (by exact rfl)) ?_
    refine r_op rfl rfl rfl (run_asg (v := .bool _) rfl (by exact rfl)) ?_
    refine r_nil ?_
    refine r_seq ?_
    refine r_region ?_
    refine r_op rfl rfl rfl (run_mv (v := .slice _ _ _) rfl (by exact rfl)) ?_
    refine r_opcall rfl rfl rfl (run_callf (vs := [.slice _ _ _]) rfl (by exact rfl) Try.func26 rfl (by kernel_rfl)) (shape_calls hr6 (by first | assumption | exact MF.small (by assumption) | exact kf_small | exact small_take (by assumption) _)) ?_
    rintro e w17 ⟨vp17, vq17, rfl, hE17, hop17, hoq17⟩
    refine ⟨_, rfl, ?_⟩
    have hs_w17 := (hE17).size
    replace hV := evo_step0 hV hE17
    replace hI8 := evo_step0 hI8 hE17
    replace hl := hl0 _ hV
    replace hr4 := hr40 _ hI8
    replace hr6 := hr60 _ hI8
    replace hr9 := hr90 _ hI8
    replace hop16 := hop16.evo0 hE17
    replace hoq16 := hoq16.evo0 hE17
    refine r_op rfl rfl rfl (run_mv (v := .tuple _) rfl (by exact rfl)) ?_
    refine r_op rfl rfl rfl (run_extract (v := vp17) rfl (by exact rfl) (by exact rfl)) ?_
    refine r_op rfl rfl rfl (run_extract (v := vq17) rfl (by exact rfl) (by exact rfl)) ?_
    refine r_op rfl rfl rfl (run_extract (v := .bool _) rfl (by exact rfl) (by exact rfl)) ?_
    refine r_op rfl rfl rfl (run_asg (v := vp17) rfl (by exact rfl)) ?_
    refine r_op rfl rfl rfl (run_asg (v := vq17) rfl (by exact rfl)) ?_
    refine r_op rfl rfl rfl (run_asg (v := .bool _) rfl (by exact rfl)) ?_
    refine r_nil ?_
    refine r_seq ?_
    refine r_region ?_
    refine r_op rfl rfl rfl (run_mv (v := .slice _ _ _) rfl (by exact rfl)) ?_
    refine r_opcall rfl rfl rfl (run_callf (vs := [.slice _ _ _]) rfl (by exact rfl) Try.func19 rfl (by kernel_rfl)) (validate_calls hr6 (by first | assumption | exact kf_small | exact small_take (by assumption) _ | exact small_norm (by assumption) | (rw [flat2]; assumption))) ?_
    rintro e w18 ⟨rfl, hE18⟩
    refine ⟨_, rfl, ?_⟩
    have hs_w18 := (hE18).size
    replace hV := evo_step0 hV hE18
    replace hI8 := evo_step0 hI8 hE18
    replace hl := hl0 _ hV
    replace hr4 := hr40 _ hI8
    replace hr6 := hr60 _ hI8
    replace hr9 := hr90 _ hI8
    replace hop16 := hop16.evo0 hE18
    replace hoq16 := hoq16.evo0 hE18
    replace hop17 := hop17.evo0 hE18
    replace hoq17 := hoq17.evo0 hE18
    refine r_op rfl rfl rfl (run_eql rfl (by exact rfl) (by exact rfl)) ?_
    refine r_op rfl rfl rfl (run_mv (v := .bool _) rfl (by exact rfl)) ?_
    refine r_gyes rfl (wantT (by exact rfl)) (by exact hgw) ?_
    refine r_op rfl rfl rfl (run_mv (v := .slice _ _ _) rfl (by exact rfl)) ?_
    refine r_gyes rfl (wantT (by exact rfl)) (by exact hgw) ?_
    refine r_op rfl rfl rfl (run_lenSl rfl (by exact rfl) Try.underlying24) ?_
    refine r_gyes rfl (wantT (by exact rfl)) (by exact hgw) ?_
    refine r_op rfl rfl rfl (run_mv (v := .slice _ _ _) rfl (by exact rfl)) ?_
    refine r_gyes rfl (wantT (by exact rfl)) (by exact hgw) ?_
    refine r_opcall rfl rfl rfl (run_callf (vs := [.slice _ _ _]) rfl (by exact rfl) Try.func40 rfl (by kernel_rfl)) (numbers_calls hr4 (by first | assumption | exact MF.small (by assumption) | exact kf_small | exact small_take (by assumption) _)) ?_
    rintro e w19 ⟨vu19, rfl, hE19, hou19⟩
    refine ⟨_, rfl, ?_⟩
    have hs_w19 := (hE19).size
    replace hV := evo_step0 hV hE19
    replace hI8 := evo_step0 hI8 hE19
    replace hl := hl0 _ hV
    replace hr4 := hr40 _ hI8
    replace hr6 := hr60 _ hI8
    replace hr9 := hr90 _ hI8
    replace hop16 := hop16.evo0 hE19
    replace hoq16 := hoq16.evo0 hE19
    replace hop17 := hop17.evo0 hE19
    replace hoq17 := hoq17.evo0 hE19
    refine r_gyes rfl (wantT (by exact rfl)) (by exact hgw) ?_
    refine r_op rfl rfl rfl (run_lenOE rfl (by exact rfl) Try.underlying24 hou19) ?_
    refine r_gyes rfl (wantT (by exact rfl)) (by exact hgw) ?_
    refine r_op rfl rfl rfl (run_eql rfl (by exact rfl) (by exact rfl)) ?_
    refine r_op rfl rfl rfl (run_pick_and rfl (by exact rfl) (fun _ => (by exact rfl)) rfl) ?_
    refine r_op rfl rfl rfl (run_mv (v := .bool _) rfl (by exact rfl)) ?_
    refine r_gyes rfl (wantT (by exact rfl)) (by exact ⟨hgw, (by exact congrArg Nat.cast hgnl)⟩) ?_
    refine r_op rfl rfl rfl (run_mv (v := .slice _ _ _) rfl (by exact rfl)) ?_
    refine r_gyes rfl (wantT (by exact rfl)) (by exact ⟨hgw, (by exact congrArg Nat.cast hgnl)⟩) ?_
    refine r_opcall rfl rfl rfl (run_callf (vs := [.slice _ _ _]) rfl (by exact rfl) Try.func39 rfl (by kernel_rfl)) (renumber_calls hr6 (by first | assumption | exact MF.small (by assumption) | exact kf_small | exact small_take (by assumption) _)) ?_
    rintro e w20 ⟨vn20, rfl, hE20, hon20⟩
    refine ⟨_, rfl, ?_⟩
    have hs_w20 := (hE20).size
    replace hV := evo_step0 hV hE20
    replace hI8 := evo_step0 hI8 hE20
    replace hl := hl0 _ hV
    replace hr4 := hr40 _ hI8
    replace hr6 := hr60 _ hI8
    replace hr9 := hr90 _ hI8
    replace hop16 := hop16.evo0 hE20
    replace hoq16 := hoq16.evo0 hE20
    replace hop17 := hop17.evo0 hE20
    replace hoq17 := hoq17.evo0 hE20
    replace hou19 := hou19.evo0 hE20
    refine r_gyes rfl (wantT (by exact rfl)) (by exact ⟨hgw, (by exact congrArg Nat.cast hgnl)⟩) ?_
    refine r_op rfl rfl rfl (run_mv (v := .slice _ _ _) rfl (by exact rfl)) ?_
    refine r_gyes rfl (wantT (by exact rfl)) (by exact ⟨hgw, (by exact congrArg Nat.cast hgnl)⟩) ?_
    obtain ⟨ao21, g21, cp21, hv21, hr21, hg21⟩ := hon20.rowOf
    subst hv21
    refine r_opcall rfl rfl rfl (run_callf (vs := [.slice _ _ _, .slice _ _ _]) rfl (by exact rfl) Try.func31 rfl (by kernel_rfl)) (same_calls hr21 hr6) ?_
    rintro e w22 ⟨rfl, hE22⟩
    refine ⟨_, rfl, ?_⟩
    have hs_w22 := (hE22).size
    replace hV := evo_step0 hV hE22
    replace hI8 := evo_step0 hI8 hE22
    replace hl := hl0 _ hV
    replace hr4 := hr40 _ hI8
    replace hr6 := hr60 _ hI8
    replace hr9 := hr90 _ hI8
    replace hop16 := hop16.evo0 hE22
    replace hoq16 := hoq16.evo0 hE22
    replace hop17 := hop17.evo0 hE22
    replace hoq17 := hoq17.evo0 hE22
    replace hou19 := hou19.evo0 hE22
    replace hon20 := hon20.evo0 hE22
    replace hr21 := hr21.evo0 hE22
    refine r_op rfl rfl rfl (run_pick_and rfl (by exact rfl) (fun _ => (by exact rfl)) rfl) ?_
    refine r_op rfl rfl rfl (run_mv (v := .bool _) rfl (by exact rfl)) ?_
    refine r_gyes rfl (wantT (by exact rfl)) (by exact ⟨⟨hgw, (by exact congrArg Nat.cast hgnl)⟩, hga⟩) ?_
    refine r_op rfl rfl rfl (run_mvb rfl (by exact rfl)) ?_
    refine r_gyes rfl (wantT (by exact rfl)) (by exact ⟨⟨hgw, (by exact congrArg Nat.cast hgnl)⟩, hga⟩) ?_
    refine r_op rfl rfl rfl (run_mvb rfl (by exact rfl)) ?_
    refine r_gyes rfl (wantT (by exact rfl)) (by exact ⟨⟨hgw, (by exact congrArg Nat.cast hgnl)⟩, hga⟩) ?_
    refine r_op rfl rfl rfl (run_beql rfl Try.underlying4 (by exact rfl) (by exact rfl)) ?_
    refine r_op rfl rfl rfl (run_pick_and rfl (by exact rfl) (fun _ => (by exact rfl)) rfl) ?_
    refine r_op rfl rfl rfl (run_mv (v := .bool _) rfl (by exact rfl)) ?_
    refine r_gyes rfl (wantT (by exact rfl)) (by exact ⟨⟨⟨hgw, (by exact congrArg Nat.cast hgnl)⟩, hga⟩, (by rw [hgq.1])⟩) ?_
    refine r_op rfl rfl rfl (run_mv (v := vp16) rfl (by exact rfl)) ?_
    refine r_gyes rfl (wantT (by exact rfl)) (by exact ⟨⟨⟨hgw, (by exact congrArg Nat.cast hgnl)⟩, hga⟩, (by rw [hgq.1])⟩) ?_
    refine r_op rfl rfl rfl (run_lenOE rfl (by exact rfl) Try.underlying24 hop16) ?_
    refine r_gyes rfl (wantT (by exact rfl)) (by exact ⟨⟨⟨hgw, (by exact congrArg Nat.cast hgnl)⟩, hga⟩, (by rw [hgq.1])⟩) ?_
    refine r_op rfl rfl rfl (run_mv (v := vp17) rfl (by exact rfl)) ?_
    refine r_gyes rfl (wantT (by exact rfl)) (by exact ⟨⟨⟨hgw, (by exact congrArg Nat.cast hgnl)⟩, hga⟩, (by rw [hgq.1])⟩) ?_
    refine r_op rfl rfl rfl (run_lenOE rfl (by exact rfl) Try.underlying24 hop17) ?_
    refine r_gyes rfl (wantT (by exact rfl)) (by exact ⟨⟨⟨hgw, (by exact congrArg Nat.cast hgnl)⟩, hga⟩, (by rw [hgq.1])⟩) ?_
    refine r_op rfl rfl rfl (run_eql rfl (by exact rfl) (by exact rfl)) ?_
    refine r_op rfl rfl rfl (run_pick_and rfl (by exact rfl) (fun _ => (by exact rfl)) rfl) ?_
    refine r_op rfl rfl rfl (run_mv (v := .bool _) rfl (by exact rfl)) ?_
    refine r_gyes rfl (wantT (by exact rfl)) (by exact ⟨⟨⟨⟨hgw, (by exact congrArg Nat.cast hgnl)⟩, hga⟩, (by rw [hgq.1])⟩, (by exact congrArg Nat.cast hgq.2.1)⟩) ?_
    refine r_op rfl rfl rfl (run_mv (v := vq16) rfl (by exact rfl)) ?_
    refine r_gyes rfl (wantT (by exact rfl)) (by exact ⟨⟨⟨⟨hgw, (by exact congrArg Nat.cast hgnl)⟩, hga⟩, (by rw [hgq.1])⟩, (by exact congrArg Nat.cast hgq.2.1)⟩) ?_
    refine r_op rfl rfl rfl (run_lenOE rfl (by exact rfl) Try.underlying24 hoq16) ?_
    refine r_gyes rfl (wantT (by exact rfl)) (by exact ⟨⟨⟨⟨hgw, (by exact congrArg Nat.cast hgnl)⟩, hga⟩, (by rw [hgq.1])⟩, (by exact congrArg Nat.cast hgq.2.1)⟩) ?_
    refine r_op rfl rfl rfl (run_mv (v := vq17) rfl (by exact rfl)) ?_
    refine r_gyes rfl (wantT (by exact rfl)) (by exact ⟨⟨⟨⟨hgw, (by exact congrArg Nat.cast hgnl)⟩, hga⟩, (by rw [hgq.1])⟩, (by exact congrArg Nat.cast hgq.2.1)⟩) ?_
    refine r_op rfl rfl rfl (run_lenOE rfl (by exact rfl) Try.underlying24 hoq17) ?_
    refine r_gyes rfl (wantT (by exact rfl)) (by exact ⟨⟨⟨⟨hgw, (by exact congrArg Nat.cast hgnl)⟩, hga⟩, (by rw [hgq.1])⟩, (by exact congrArg Nat.cast hgq.2.1)⟩) ?_
    refine r_op rfl rfl rfl (run_eql rfl (by exact rfl) (by exact rfl)) ?_
    refine r_op rfl rfl rfl (run_pick_and rfl (by exact rfl) (fun _ => (by exact rfl)) rfl) ?_
    refine r_op rfl rfl rfl (run_mv (v := .bool _) rfl (by exact rfl)) ?_
    refine r_gyes rfl (wantT (by exact rfl)) (by exact ⟨⟨⟨⟨⟨hgw, (by exact congrArg Nat.cast hgnl)⟩, hga⟩, (by rw [hgq.1])⟩, (by exact congrArg Nat.cast hgq.2.1)⟩, (by exact congrArg Nat.cast hgq.2.2)⟩) ?_
    refine r_op rfl rfl rfl (run_mv (v := .slice _ _ _) rfl (by exact rfl)) ?_
    refine r_gyes rfl (wantT (by exact rfl)) (by exact ⟨⟨⟨⟨⟨hgw, (by exact congrArg Nat.cast hgnl)⟩, hga⟩, (by rw [hgq.1])⟩, (by exact congrArg Nat.cast hgq.2.1)⟩, (by exact congrArg Nat.cast hgq.2.2)⟩) ?_
    refine r_opcall rfl rfl rfl (run_callf (vs := [.slice _ _ _]) rfl (by exact rfl) Try.func33 rfl (by kernel_rfl)) (plain_calls hr4 (by first | assumption | exact kf_small | exact small_take (by assumption) _ | exact small_norm (by assumption) | (rw [flat2]; assumption))) ?_
    rintro e w23 ⟨rfl, hE23⟩
    refine ⟨_, rfl, ?_⟩
    have hs_w23 := (hE23).size
    replace hV := evo_step0 hV hE23
    replace hI8 := evo_step0 hI8 hE23
    replace hl := hl0 _ hV
    replace hr4 := hr40 _ hI8
    replace hr6 := hr60 _ hI8
    replace hr9 := hr90 _ hI8
    replace hop16 := hop16.evo0 hE23
    replace hoq16 := hoq16.evo0 hE23
    replace hop17 := hop17.evo0 hE23
    replace hoq17 := hoq17.evo0 hE23
    replace hou19 := hou19.evo0 hE23
    replace hon20 := hon20.evo0 hE23
    replace hr21 := hr21.evo0 hE23
    refine r_gyes rfl (wantT (by exact rfl)) (by exact ⟨⟨⟨⟨⟨hgw, (by exact congrArg Nat.cast hgnl)⟩, hga⟩, (by rw [hgq.1])⟩, (by exact congrArg Nat.cast hgq.2.1)⟩, (by exact congrArg Nat.cast hgq.2.2)⟩) ?_
    refine r_op rfl rfl rfl (run_mv (v := .slice _ _ _) rfl (by exact rfl)) ?_
    refine r_gyes rfl (wantT (by exact rfl)) (by exact ⟨⟨⟨⟨⟨hgw, (by exact congrArg Nat.cast hgnl)⟩, hga⟩, (by rw [hgq.1])⟩, (by exact congrArg Nat.cast hgq.2.1)⟩, (by exact congrArg Nat.cast hgq.2.2)⟩) ?_
    refine r_opcall rfl rfl rfl (run_callf (vs := [.slice _ _ _]) rfl (by exact rfl) Try.func33 rfl (by kernel_rfl)) (plain_calls hr6 (by first | assumption | exact kf_small | exact small_take (by assumption) _ | exact small_norm (by assumption) | (rw [flat2]; assumption))) ?_
    rintro e w24 ⟨rfl, hE24⟩
    refine ⟨_, rfl, ?_⟩
    have hs_w24 := (hE24).size
    replace hV := evo_step0 hV hE24
    replace hI8 := evo_step0 hI8 hE24
    replace hl := hl0 _ hV
    replace hr4 := hr40 _ hI8
    replace hr6 := hr60 _ hI8
    replace hr9 := hr90 _ hI8
    replace hop16 := hop16.evo0 hE24
    replace hoq16 := hoq16.evo0 hE24
    replace hop17 := hop17.evo0 hE24
    replace hoq17 := hoq17.evo0 hE24
    replace hou19 := hou19.evo0 hE24
    replace hon20 := hon20.evo0 hE24
    replace hr21 := hr21.evo0 hE24
    refine r_gyes rfl (wantT (by exact rfl)) (by exact ⟨⟨⟨⟨⟨hgw, (by exact congrArg Nat.cast hgnl)⟩, hga⟩, (by rw [hgq.1])⟩, (by exact congrArg Nat.cast hgq.2.1)⟩, (by exact congrArg Nat.cast hgq.2.2)⟩) ?_
    refine r_op rfl rfl rfl (run_seql rfl (by exact rfl) (by exact rfl)) ?_
    refine r_op rfl rfl rfl (run_pick_and rfl (by exact rfl) (fun _ => (by exact rfl)) rfl) ?_
    refine r_op rfl rfl rfl (run_mv (v := .bool _) rfl (by exact rfl)) ?_
    refine r_gyes rfl (wantT (by exact rfl)) (by exact ⟨⟨⟨⟨⟨⟨hgw, (by exact congrArg Nat.cast hgnl)⟩, hga⟩, (by rw [hgq.1])⟩, (by exact congrArg Nat.cast hgq.2.1)⟩, (by exact congrArg Nat.cast hgq.2.2)⟩, hgp⟩) ?_
    refine r_opcall rfl rfl rfl (run_callf (vs := []) rfl (by exact rfl) Try.func21 rfl (by kernel_rfl)) known_calls ?_
    rintro e w25 ⟨rfl, hE25⟩
    refine ⟨_, rfl, ?_⟩
    have hs_w25 := (hE25).size
    replace hV := evo_step0 hV hE25
    replace hI8 := evo_step0 hI8 hE25
    replace hl := hl0 _ hV
    replace hr4 := hr40 _ hI8
    replace hr6 := hr60 _ hI8
    replace hr9 := hr90 _ hI8
    replace hop16 := hop16.evo0 hE25
    replace hoq16 := hoq16.evo0 hE25
    replace hop17 := hop17.evo0 hE25
    replace hoq17 := hoq17.evo0 hE25
    replace hou19 := hou19.evo0 hE25
    replace hon20 := hon20.evo0 hE25
    replace hr21 := hr21.evo0 hE25
    refine r_op rfl rfl rfl (run_pick_and rfl (by exact rfl) (fun _ => (by exact rfl)) rfl) ?_
    refine r_op rfl rfl rfl (run_asg (v := .bool _) rfl (by exact rfl)) ?_
    refine r_nil ?_
    refine r_ret (res1 (v := .bool _) rfl (by exact rfl)) ?_
    exact ⟨ret_bool (decide_eq_true (by rw [hgw, hga, hgp, hgnl, hgq.1, hgq.2.1, hgq.2.2]; simp)), hV⟩

end Go.Proofs.Ytkdgoghmkmpfnaa
