import Derived.Test.YtkdgoghmkmpfnaaW16
namespace Go.Proofs.Ytkdgoghmkmpfnaa
open Go.RowKit Go.Vc

theorem shapes_law {aof : Option Addr} {bf offf capf : Nat} {f : List Vc.Item} {ao : Option Addr} {b off cap : Nat} {l : List Int} {w0 : World} (rf : RowE w0 aof bf offf capf f) (htf : ∀ x ∈ f, x.text.length ≤ reachBytes) (hl : RowE w0 ao b off cap l) :
    Calls Try.prog 7 #[.slice aof f.length capf, .slice ao l.length cap] w0 fun e w' => e = .returned (.bool true) ∧ Evo w0 w' [] := by
 refine calls_enter (n := 107) (args := [.slice aof f.length capf, .slice ao l.length cap]) Try.func7 rfl Try.ntmps7 rfl ?_
 have hV : Evo w0 w0 [] := Evo.refl _ _
 have rf0 := keepE rf
 have hbd_rf := rf.bd
 have hl0 := keepE hl
 have hbd_hl := hl.bd
 refine r_seq ?_
 refine r_region ?_
 refine r_op rfl rfl rfl (run_asg (v := .bool _) rfl (by exact rfl)) ?_
 refine r_nil ?_
 refine r_seq ?_
 refine r_seq ?_
 refine r_region ?_
 refine r_op rfl rfl rfl (run_mv (v := .slice _ _ _) rfl (by exact rfl)) ?_
 refine r_opcall rfl rfl rfl (run_callf (vs := [.slice _ _ _]) rfl (by exact rfl) Try.func22 rfl (by kernel_rfl)) (few_calls rf (texts_at htf)) ?_
 rintro e w1 ⟨lx1, rfl, hlx1, hE1⟩
 refine ⟨_, rfl, ?_⟩
 have hs_w1 := (hE1).size
 replace hV := evo_step0 hV hE1
 replace rf := rf0 _ hV
 replace hl := hl0 _ hV
 refine r_op rfl rfl rfl (run_notb rfl (by exact rfl)) ?_
 refine r_op rfl rfl rfl (run_mvb rfl (by exact rfl)) ?_
 refine r_g rfl (wantF (by exact rfl)) rfl (fun hg => run_mv (v := .slice _ _ _) rfl (by exact rfl)) ?_
 refine r_g rfl (wantF (by exact rfl)) rfl (fun hg => run_lenSl rfl (glv (by exact rfl) (fun h => h) hg) Try.underlying24) ?_
 refine r_g rfl (wantF (by exact rfl)) rfl (fun hg => run_gtr rfl (glv (by exact rfl) (fun h => h) hg) (by exact rfl)) ?_
 refine r_op rfl rfl rfl (run_pick_or rfl (by exact rfl) rfl (fun hq => glv (by exact rfl) (fun h => h) hq)) ?_
 refine r_nil ?_
 refine r_cond (by exact rfl) (fun hc2 => ?_) (fun hc2 => ?_)
 ·skip
  refine r_seq ?_
  refine r_region ?_
  refine r_opcall rfl rfl rfl (run_callf (vs := []) rfl (by exact rfl) Try.func21 rfl (by kernel_rfl)) known_calls ?_
  rintro e w3 ⟨rfl, hE3⟩
  refine ⟨_, rfl, ?_⟩
  have hs_w3 := (hE3).size
  replace hV := evo_step0 hV hE3
  replace rf := rf0 _ hV
  replace hl := hl0 _ hV
  refine r_op rfl rfl rfl (run_asg (v := .bool _) rfl (by exact rfl)) ?_
  refine r_nil ?_
  refine r_ret (res1 (v := .bool _) rfl (by exact rfl)) ?_
  exact ⟨rfl, hV⟩
 ·skip
  refine r_skip ?_
  refine r_seq ?_
  have b1 := hlx1 (by simp_all)
  have s1 : Small f := few_small b1
  refine r_region ?_
  refine r_op rfl rfl rfl (run_mv (v := .slice _ _ _) rfl (by exact rfl)) ?_
  refine r_opcall rfl rfl rfl (run_callf (vs := [.slice _ _ _]) rfl (by exact rfl) Try.func26 rfl (by kernel_rfl)) (shape_calls rf (by first | assumption | exact MF.small (by assumption))) ?_
  rintro e w4 ⟨vp4, vq4, rfl, hE4, hop4, hoq4⟩
  refine ⟨_, rfl, ?_⟩
  have hs_w4 := (hE4).size
  replace hV := evo_step0 hV hE4
  replace rf := rf0 _ hV
  replace hl := hl0 _ hV
  refine r_op rfl rfl rfl (run_mv (v := .tuple _) rfl (by exact rfl)) ?_
  refine r_op rfl rfl rfl (run_extract (v := vp4) rfl (by exact rfl) (by exact rfl)) ?_
  refine r_op rfl rfl rfl (run_extract (v := vq4) rfl (by exact rfl) (by exact rfl)) ?_
  refine r_op rfl rfl rfl (run_extract (v := .bool _) rfl (by exact rfl) (by exact rfl)) ?_
  refine r_op rfl rfl rfl (run_asg (v := vp4) rfl (by exact rfl)) ?_
  refine r_op rfl rfl rfl (run_asg (v := vq4) rfl (by exact rfl)) ?_
  refine r_op rfl rfl rfl (run_asg (v := .bool _) rfl (by exact rfl)) ?_
  refine r_nil ?_
  refine r_seq ?_
  refine r_region ?_
  refine r_op rfl rfl rfl (run_mv (v := .slice _ _ _) rfl (by exact rfl)) ?_
  refine r_opcall rfl rfl rfl (run_callf (vs := [.slice _ _ _]) rfl (by exact rfl) Try.func27 rfl (by kernel_rfl)) (rshape_calls rf (by first | assumption | exact MF.small (by assumption))) ?_
  rintro e w5 ⟨vp5, vq5, rfl, hE5, hop5, hoq5⟩
  refine ⟨_, rfl, ?_⟩
  have hs_w5 := (hE5).size
  replace hV := evo_step0 hV hE5
  replace rf := rf0 _ hV
  replace hl := hl0 _ hV
  replace hop4 := hop4.evo0 hE5
  replace hoq4 := hoq4.evo0 hE5
  refine r_op rfl rfl rfl (run_mv (v := .tuple _) rfl (by exact rfl)) ?_
  refine r_op rfl rfl rfl (run_extract (v := vp5) rfl (by exact rfl) (by exact rfl)) ?_
  refine r_op rfl rfl rfl (run_extract (v := vq5) rfl (by exact rfl) (by exact rfl)) ?_
  refine r_op rfl rfl rfl (run_extract (v := .bool _) rfl (by exact rfl) (by exact rfl)) ?_
  refine r_op rfl rfl rfl (run_asg (v := vp5) rfl (by exact rfl)) ?_
  refine r_op rfl rfl rfl (run_asg (v := vq5) rfl (by exact rfl)) ?_
  refine r_op rfl rfl rfl (run_asg (v := .bool _) rfl (by exact rfl)) ?_
  refine r_nil ?_
  refine r_seq ?_
  refine r_seq ?_
  refine r_region ?_
  refine r_op rfl rfl rfl (run_mvb rfl (by exact rfl)) ?_
  refine r_op rfl rfl rfl (run_mvb rfl (by exact rfl)) ?_
  refine r_op rfl rfl rfl (run_bneq rfl Try.underlying4 (by exact rfl) (by exact rfl)) ?_
  refine r_op rfl rfl rfl (run_mv (v := .bool _) rfl (by exact rfl)) ?_
  refine r_g rfl (wantF (by exact rfl)) rfl (fun hg => run_mv (v := vp4) rfl (by exact rfl)) ?_
  refine r_g rfl (wantF (by exact rfl)) rfl (fun hg => run_mv (v := vp5) rfl (by exact rfl)) ?_
  obtain ⟨ao6, g6, cp6, hv6, hr6, hg6⟩ := hop4.rowOf
  subst hv6
  obtain ⟨ao7, g7, cp7, hv7, hr7, hg7⟩ := hop5.rowOf
  subst hv7
  refine r_gcall rfl (wantF (by exact rfl)) rfl (fun hg => run_callf rfl (argcons (v := .slice _ _ _) (glv (by exact rfl) (fun h => h) hg) (argcons (v := .slice _ _ _) (glv (by exact rfl) (fun h => h) hg) (rfl))) Try.func28 rfl (by kernel_rfl)) (fun hg => (sameints_calls hr6 hr7).mono (fun e w' h => ⟨h.1, h.2⟩)) (fun w8 hE9 => ?_)
  have hs_w8 := (hE9).size
  replace hV := evo_step0 hV hE9
  replace rf := rf0 _ hV
  replace hl := hl0 _ hV
  replace hop4 := hop4.evo0 hE9
  replace hoq4 := hoq4.evo0 hE9
  replace hop5 := hop5.evo0 hE9
  replace hoq5 := hoq5.evo0 hE9
  replace hr6 := hr6.evo0 hE9
  replace hr7 := hr7.evo0 hE9
  refine r_g rfl (wantF (by exact rfl)) rfl (fun hg => run_not rfl (glv (by exact rfl) (fun h => h) hg)) ?_
  refine r_op rfl rfl rfl (run_pick_or rfl (by exact rfl) rfl (fun hq => glv (by exact rfl) (fun h => h) hq)) ?_
  refine r_op rfl rfl rfl (run_mv (v := .bool _) rfl (by exact rfl)) ?_
  refine r_g rfl (wantF (by exact rfl)) rfl (fun hg => run_mv (v := vq4) rfl (by exact rfl)) ?_
  refine r_g rfl (wantF (by exact rfl)) rfl (fun hg => run_mv (v := vq5) rfl (by exact rfl)) ?_
  obtain ⟨ao10, g10, cp10, hv10, hr10, hg10⟩ := hoq4.rowOf
  subst hv10
  obtain ⟨ao11, g11, cp11, hv11, hr11, hg11⟩ := hoq5.rowOf
  subst hv11
  refine r_gcall rfl (wantF (by exact rfl)) rfl (fun hg => run_callf rfl (argcons (v := .slice _ _ _) (glv (by exact rfl) (fun h => h) hg) (argcons (v := .slice _ _ _) (glv (by exact rfl) (fun h => h) hg) (rfl))) Try.func28 rfl (by kernel_rfl)) (fun hg => (sameints_calls hr10 hr11).mono (fun e w' h => ⟨h.1, h.2⟩)) (fun w12 hE13 => ?_)
  have hs_w12 := (hE13).size
  replace hV := evo_step0 hV hE13
  replace rf := rf0 _ hV
  replace hl := hl0 _ hV
  replace hop4 := hop4.evo0 hE13
  replace hoq4 := hoq4.evo0 hE13
  replace hop5 := hop5.evo0 hE13
  replace hoq5 := hoq5.evo0 hE13
  replace hr6 := hr6.evo0 hE13
  replace hr7 := hr7.evo0 hE13
  replace hr10 := hr10.evo0 hE13
  replace hr11 := hr11.evo0 hE13
  refine r_g rfl (wantF (by exact rfl)) rfl (fun hg => run_not rfl (glv (by exact rfl) (fun h => h) hg)) ?_
  refine r_op rfl rfl rfl (run_pick_or rfl (by exact rfl) rfl (fun hq => glv (by exact rfl) (fun h => h) hq)) ?_
  refine r_nil ?_
  refine r_cond (by exact rfl) (fun hc14 => ?_) (fun hc14 => ?_)
  ·skip
   refine r_seq ?_
   refine r_region ?_
   refine r_op rfl rfl rfl (run_asg (v := .bool _) rfl (by exact rfl)) ?_
   refine r_nil ?_
   refine r_ret (res1 (v := .bool _) rfl (by exact rfl)) ?_
   exact absurd hc14 (by simp)
  ·skip
   refine r_skip ?_
   refine r_seq ?_
   refine r_region ?_
   refine r_op rfl rfl rfl (run_mv (v := .slice _ _ _) rfl (by exact rfl)) ?_
   refine r_opcall rfl rfl rfl (run_callf (vs := [.slice _ _ _, .bool _, .bool _]) rfl (by exact rfl) Try.func23 rfl (by kernel_rfl)) (made_calls hl) ?_
   rintro e w15 ⟨vg15, mf15, rfl, hM15, hE15, hog15⟩
   refine ⟨_, rfl, ?_⟩
   have hs_w15 := (hE15).size
   replace hV := evo_step0 hV hE15
   replace rf := rf0 _ hV
   replace hl := hl0 _ hV
   replace hop4 := hop4.evo0 hE15
   replace hoq4 := hoq4.evo0 hE15
   replace hop5 := hop5.evo0 hE15
   replace hoq5 := hoq5.evo0 hE15
   replace hr6 := hr6.evo0 hE15
   replace hr7 := hr7.evo0 hE15
   replace hr10 := hr10.evo0 hE15
   replace hr11 := hr11.evo0 hE15
   obtain ⟨ao16, g16, cp16, hv16, hr16, hg16⟩ := hog15.rowOf
   subst hv16
   refine r_opcall rfl rfl rfl (run_callf (vs := [.slice _ _ _]) rfl (by exact rfl) Try.func26 rfl (by kernel_rfl)) (shape_calls hr16 (by first | assumption | exact MF.small (by assumption))) ?_
   rintro e w17 ⟨vp17, vq17, rfl, hE17, hop17, hoq17⟩
   refine ⟨_, rfl, ?_⟩
   have hs_w17 := (hE17).size
   replace hV := evo_step0 hV hE17
   replace rf := rf0 _ hV
   replace hl := hl0 _ hV
   replace hop4 := hop4.evo0 hE17
   replace hoq4 := hoq4.evo0 hE17
   replace hop5 := hop5.evo0 hE17
   replace hoq5 := hoq5.evo0 hE17
   replace hr6 := hr6.evo0 hE17
   replace hr7 := hr7.evo0 hE17
   replace hr10 := hr10.evo0 hE17
   replace hr11 := hr11.evo0 hE17
   replace hog15 := hog15.evo0 hE17
   replace hr16 := hr16.evo0 hE17
   refine r_op rfl rfl rfl (run_mv (v := .tuple _) rfl (by exact rfl)) ?_
   refine r_op rfl rfl rfl (run_extract (v := vp17) rfl (by exact rfl) (by exact rfl)) ?_
   refine r_op rfl rfl rfl (run_extract (v := vq17) rfl (by exact rfl) (by exact rfl)) ?_
   refine r_op rfl rfl rfl (run_extract (v := .bool _) rfl (by exact rfl) (by exact rfl)) ?_
   refine r_op rfl rfl rfl (run_asg (v := vp17) rfl (by exact rfl)) ?_
   refine r_op rfl rfl rfl (run_asg (v := vq17) rfl (by exact rfl)) ?_
   refine r_op rfl rfl rfl (run_asg (v := .bool _) rfl (by exact rfl)) ?_
   refine r_nil ?_
   refine r_seq ?_
   have hsp := sh_some (hM15.shp rfl)
   refine r_region ?_
   refine r_op rfl rfl rfl (run_mv (v := .slice _ _ _) rfl (by exact rfl)) ?_
   refine r_opcall rfl rfl rfl (run_callf (vs := [.slice _ _ _, .bool _, .bool _]) rfl (by exact rfl) Try.func23 rfl (by kernel_rfl)) (made_calls hl) ?_
   rintro e w18 ⟨vg18, mf18, rfl, hM18, hE18, hog18⟩
   refine ⟨_, rfl, ?_⟩
   have hs_w18 := (hE18).size
   replace hV := evo_step0 hV hE18
   replace rf := rf0 _ hV
   replace hl := hl0 _ hV
   replace hop4 := hop4.evo0 hE18
   replace hoq4 := hoq4.evo0 hE18
   replace hop5 := hop5.evo0 hE18
   replace hoq5 := hoq5.evo0 hE18
   replace hr6 := hr6.evo0 hE18
   replace hr7 := hr7.evo0 hE18
   replace hr10 := hr10.evo0 hE18
   replace hr11 := hr11.evo0 hE18
   replace hog15 := hog15.evo0 hE18
   replace hr16 := hr16.evo0 hE18
   replace hop17 := hop17.evo0 hE18
   replace hoq17 := hoq17.evo0 hE18
   refine r_op rfl rfl rfl (run_asg (v := vg18) rfl (by exact rfl)) ?_
   refine r_nil ?_
   refine r_seq ?_
   refine r_region ?_
   refine r_op rfl rfl rfl (run_mv (v := vg18) rfl (by exact rfl)) ?_
   obtain ⟨ao19, g19, cp19, hv19, hr19, hg19⟩ := hog18.rowOf
   subst hv19
   refine r_opcall rfl rfl rfl (run_callf (vs := [.slice _ _ _]) rfl (by exact rfl) Try.func26 rfl (by kernel_rfl)) (shape_calls hr19 (by first | assumption | exact MF.small (by assumption))) ?_
   rintro e w20 ⟨vp20, vq20, rfl, hE20, hop20, hoq20⟩
   refine ⟨_, rfl, ?_⟩
   have hs_w20 := (hE20).size
   replace hV := evo_step0 hV hE20
   replace rf := rf0 _ hV
   replace hl := hl0 _ hV
   replace hop4 := hop4.evo0 hE20
   replace hoq4 := hoq4.evo0 hE20
   replace hop5 := hop5.evo0 hE20
   replace hoq5 := hoq5.evo0 hE20
   replace hr6 := hr6.evo0 hE20
   replace hr7 := hr7.evo0 hE20
   replace hr10 := hr10.evo0 hE20
   replace hr11 := hr11.evo0 hE20
   replace hog15 := hog15.evo0 hE20
   replace hr16 := hr16.evo0 hE20
   replace hop17 := hop17.evo0 hE20
   replace hoq17 := hoq17.evo0 hE20
   replace hog18 := hog18.evo0 hE20
   replace hr19 := hr19.evo0 hE20
   refine r_op rfl rfl rfl (run_mv (v := .tuple _) rfl (by exact rfl)) ?_
   refine r_op rfl rfl rfl (run_extract (v := vp20) rfl (by exact rfl) (by exact rfl)) ?_
   refine r_op rfl rfl rfl (run_extract (v := vq20) rfl (by exact rfl) (by exact rfl)) ?_
   refine r_op rfl rfl rfl (run_extract (v := .bool _) rfl (by exact rfl) (by exact rfl)) ?_
   refine r_op rfl rfl rfl (run_asg (v := vp20) rfl (by exact rfl)) ?_
   refine r_op rfl rfl rfl (run_asg (v := vq20) rfl (by exact rfl)) ?_
   refine r_op rfl rfl rfl (run_asg (v := .bool _) rfl (by exact rfl)) ?_
   refine r_nil ?_
   refine r_seq ?_
   refine r_region ?_
   refine r_op rfl rfl rfl (run_mv (v := .slice _ _ _) rfl (by exact rfl)) ?_
   refine r_opcall rfl rfl rfl (run_callf (vs := [.slice _ _ _]) rfl (by exact rfl) Try.func27 rfl (by kernel_rfl)) (rshape_calls hr19 (by first | assumption | exact MF.small (by assumption))) ?_
   rintro e w21 ⟨vp21, vq21, rfl, hE21, hop21, hoq21⟩
   refine ⟨_, rfl, ?_⟩
   have hs_w21 := (hE21).size
   replace hV := evo_step0 hV hE21
   replace rf := rf0 _ hV
   replace hl := hl0 _ hV
   replace hop4 := hop4.evo0 hE21
   replace hoq4 := hoq4.evo0 hE21
   replace hop5 := hop5.evo0 hE21
   replace hoq5 := hoq5.evo0 hE21
   replace hr6 := hr6.evo0 hE21
   replace hr7 := hr7.evo0 hE21
   replace hr10 := hr10.evo0 hE21
   replace hr11 := hr11.evo0 hE21
   replace hog15 := hog15.evo0 hE21
   replace hr16 := hr16.evo0 hE21
   replace hop17 := hop17.evo0 hE21
   replace hoq17 := hoq17.evo0 hE21
   replace hog18 := hog18.evo0 hE21
   replace hr19 := hr19.evo0 hE21
   replace hop20 := hop20.evo0 hE21
   replace hoq20 := hoq20.evo0 hE21
   refine r_op rfl rfl rfl (run_mv (v := .tuple _) rfl (by exact rfl)) ?_
   refine r_op rfl rfl rfl (run_extract (v := vp21) rfl (by exact rfl) (by exact rfl)) ?_
   refine r_op rfl rfl rfl (run_extract (v := vq21) rfl (by exact rfl) (by exact rfl)) ?_
   refine r_op rfl rfl rfl (run_extract (v := .bool _) rfl (by exact rfl) (by exact rfl)) ?_
   refine r_op rfl rfl rfl (run_asg (v := vp21) rfl (by exact rfl)) ?_
   refine r_op rfl rfl rfl (run_asg (v := vq21) rfl (by exact rfl)) ?_
   refine r_op rfl rfl rfl (run_asg (v := .bool _) rfl (by exact rfl)) ?_
   refine r_nil ?_
   refine r_seq ?_
   refine r_region ?_
   refine r_op rfl rfl rfl (run_mvb rfl (by exact rfl)) ?_
   refine r_op rfl rfl rfl (run_mv (v := .bool _) rfl (by exact rfl)) ?_
   refine r_g rfl (wantT (by exact rfl)) rfl (fun hg => run_mv (v := vp17) rfl (by exact rfl)) ?_
   refine r_g rfl (wantT (by exact rfl)) rfl (fun hg => run_lenOE rfl (glv (by exact rfl) (fun h => h) hg) Try.underlying24 hop17) ?_
   refine r_g rfl (wantT (by exact rfl)) rfl (fun hg => run_eql rfl (glv (by exact rfl) (fun h => h) hg) (by exact rfl)) ?_
   refine r_op rfl rfl rfl (run_pick_and rfl (by exact rfl) (fun hq => glv (by exact rfl) (fun h => h) hq) rfl) ?_
   refine r_op rfl rfl rfl (run_mv (v := .bool _) rfl (by exact rfl)) ?_
   refine r_g rfl (wantT (by exact rfl)) rfl (fun hg => run_mv (v := vq17) rfl (by exact rfl)) ?_
   refine r_g rfl (wantT (by exact rfl)) rfl (fun hg => run_lenOE rfl (glv (by exact rfl) (fun h => h) hg) Try.underlying24 hoq17) ?_
   refine r_g rfl (wantT (by exact rfl)) rfl (fun hg => run_eql rfl (glv (by exact rfl) (fun h => h) hg) (by exact rfl)) ?_
   refine r_op rfl rfl rfl (run_pick_and rfl (by exact rfl) (fun hq => glv (by exact rfl) (fun h => h) hq) rfl) ?_
   refine r_op rfl rfl rfl (run_mv (v := .bool _) rfl (by exact rfl)) ?_
   refine r_g rfl (wantT (by exact rfl)) rfl (fun hg => run_mvb rfl (by exact rfl)) ?_
   refine r_g rfl (wantT (by exact rfl)) rfl (fun hg => run_mvb rfl (by exact rfl)) ?_
   refine r_g rfl (wantT (by exact rfl)) rfl (fun hg => run_beql rfl Try.underlying4 (glv (by exact rfl) (fun h => h) hg) (glv (by exact rfl) (fun h => h) hg)) ?_
   refine r_op rfl rfl rfl (run_pick_and rfl (by exact rfl) (fun hq => glv (by exact rfl) (fun h => h) hq) rfl) ?_
   refine r_op rfl rfl rfl (run_mv (v := .bool _) rfl (by exact rfl)) ?_
   refine r_g rfl (wantT (by exact rfl)) rfl (fun hg => run_mv (v := vp20) rfl (by exact rfl)) ?_
   refine r_g rfl (wantT (by exact rfl)) rfl (fun hg => run_mv (v := vp21) rfl (by exact rfl)) ?_
   obtain ⟨ao22, g22, cp22, hv22, hr22, hg22⟩ := hop20.rowOf
   subst hv22
   obtain ⟨ao23, g23, cp23, hv23, hr23, hg23⟩ := hop21.rowOf
   subst hv23
   refine r_gcall rfl (wantT (by exact rfl)) rfl (fun hg => run_callf rfl (argcons (v := .slice _ _ _) (glv (by exact rfl) (fun h => h) hg) (argcons (v := .slice _ _ _) (glv (by exact rfl) (fun h => h) hg) (rfl))) Try.func28 rfl (by kernel_rfl)) (fun hg => (sameints_calls hr22 hr23).mono (fun e w' h => ⟨h.1, h.2⟩)) (fun w24 hE25 => ?_)
   have hs_w24 := (hE25).size
   replace hV := evo_step0 hV hE25
   replace rf := rf0 _ hV
   replace hl := hl0 _ hV
   replace hop4 := hop4.evo0 hE25
   replace hoq4 := hoq4.evo0 hE25
   replace hop5 := hop5.evo0 hE25
   replace hoq5 := hoq5.evo0 hE25
   replace hr6 := hr6.evo0 hE25
   replace hr7 := hr7.evo0 hE25
   replace hr10 := hr10.evo0 hE25
   replace hr11 := hr11.evo0 hE25
   replace hog15 := hog15.evo0 hE25
   replace hr16 := hr16.evo0 hE25
   replace hop17 := hop17.evo0 hE25
   replace hoq17 := hoq17.evo0 hE25
   replace hog18 := hog18.evo0 hE25
   replace hr19 := hr19.evo0 hE25
   replace hop20 := hop20.evo0 hE25
   replace hoq20 := hoq20.evo0 hE25
   replace hop21 := hop21.evo0 hE25
   replace hoq21 := hoq21.evo0 hE25
   replace hr22 := hr22.evo0 hE25
   replace hr23 := hr23.evo0 hE25
   refine r_op rfl rfl rfl (run_pick_and rfl (by exact rfl) (fun hq => glv (by exact rfl) (fun h => h) hq) rfl) ?_
   refine r_op rfl rfl rfl (run_mv (v := .bool _) rfl (by exact rfl)) ?_
   refine r_g rfl (wantT (by exact rfl)) rfl (fun hg => run_mv (v := vq20) rfl (by exact rfl)) ?_
   refine r_g rfl (wantT (by exact rfl)) rfl (fun hg => run_mv (v := vq21) rfl (by exact rfl)) ?_
   obtain ⟨ao26, g26, cp26, hv26, hr26, hg26⟩ := hoq20.rowOf
   subst hv26
   obtain ⟨ao27, g27, cp27, hv27, hr27, hg27⟩ := hoq21.rowOf
   subst hv27
   refine r_gcall rfl (wantT (by exact rfl)) rfl (fun hg => run_callf rfl (argcons (v := .slice _ _ _) (glv (by exact rfl) (fun h => h) hg) (argcons (v := .slice _ _ _) (glv (by exact rfl) (fun h => h) hg) (rfl))) Try.func28 rfl (by kernel_rfl)) (fun hg => (sameints_calls hr26 hr27).mono (fun e w' h => ⟨h.1, h.2⟩)) (fun w28 hE29 => ?_)
   have hs_w28 := (hE29).size
   replace hV := evo_step0 hV hE29
   replace rf := rf0 _ hV
   replace hl := hl0 _ hV
   replace hop4 := hop4.evo0 hE29
   replace hoq4 := hoq4.evo0 hE29
   replace hop5 := hop5.evo0 hE29
   replace hoq5 := hoq5.evo0 hE29
   replace hr6 := hr6.evo0 hE29
   replace hr7 := hr7.evo0 hE29
   replace hr10 := hr10.evo0 hE29
   replace hr11 := hr11.evo0 hE29
   replace hog15 := hog15.evo0 hE29
   replace hr16 := hr16.evo0 hE29
   replace hop17 := hop17.evo0 hE29
   replace hoq17 := hoq17.evo0 hE29
   replace hog18 := hog18.evo0 hE29
   replace hr19 := hr19.evo0 hE29
   replace hop20 := hop20.evo0 hE29
   replace hoq20 := hoq20.evo0 hE29
   replace hop21 := hop21.evo0 hE29
   replace hoq21 := hoq21.evo0 hE29
   replace hr22 := hr22.evo0 hE29
   replace hr23 := hr23.evo0 hE29
   replace hr26 := hr26.evo0 hE29
   replace hr27 := hr27.evo0 hE29
   refine r_op rfl rfl rfl (run_pick_and rfl (by exact rfl) (fun hq => glv (by exact rfl) (fun h => h) hq) rfl) ?_
   refine r_op rfl rfl rfl (run_mv (v := .bool _) rfl (by exact rfl)) ?_
   refine r_gcall rfl (wantT (by exact rfl)) rfl (fun hg => run_callf rfl (rfl) Try.func21 rfl (by kernel_rfl)) (fun hg => (known_calls ).mono (fun e w' h => ⟨h.1, h.2⟩)) (fun w30 hE31 => ?_)
   have hs_w30 := (hE31).size
   replace hV := evo_step0 hV hE31
   replace rf := rf0 _ hV
   replace hl := hl0 _ hV
   replace hop4 := hop4.evo0 hE31
   replace hoq4 := hoq4.evo0 hE31
   replace hop5 := hop5.evo0 hE31
   replace hoq5 := hoq5.evo0 hE31
   replace hr6 := hr6.evo0 hE31
   replace hr7 := hr7.evo0 hE31
   replace hr10 := hr10.evo0 hE31
   replace hr11 := hr11.evo0 hE31
   replace hog15 := hog15.evo0 hE31
   replace hr16 := hr16.evo0 hE31
   replace hop17 := hop17.evo0 hE31
   replace hoq17 := hoq17.evo0 hE31
   replace hog18 := hog18.evo0 hE31
   replace hr19 := hr19.evo0 hE31
   replace hop20 := hop20.evo0 hE31
   replace hoq20 := hoq20.evo0 hE31
   replace hop21 := hop21.evo0 hE31
   replace hoq21 := hoq21.evo0 hE31
   replace hr22 := hr22.evo0 hE31
   replace hr23 := hr23.evo0 hE31
   replace hr26 := hr26.evo0 hE31
   replace hr27 := hr27.evo0 hE31
   refine r_op rfl rfl rfl (run_pick_and rfl (by exact rfl) (fun hq => glv (by exact rfl) (fun h => h) hq) rfl) ?_
   refine r_op rfl rfl rfl (run_asg (v := .bool _) rfl (by exact rfl)) ?_
   refine r_nil ?_
   refine r_ret (res1 (v := .bool _) rfl (by exact rfl)) ?_
   exact ⟨ret_bool (decide_eq_true (by rw [hsp.1, hsp.2.1, hsp.2.2]; simp)), hV⟩

end Go.Proofs.Ytkdgoghmkmpfnaa
