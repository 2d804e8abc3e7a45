import Derived.Test.YtkdgoghmkmpfnaaW27
import Derived.Test.YtkdgoghmkmpfnaaPt
namespace Go.Proofs.Ytkdgoghmkmpfnaa
open Go.RowKit Go.Vc

theorem joins_law {aol : Option Addr} {bl offl capl : Nat} {l : List Int} {aom : Option Addr} {bm offm capm : Nat} {m : List Int} {at_ : Int} {w0 : World} (rl : RowE w0 aol bl offl capl l) (rm : RowE w0 aom bm offm capm m) :
    Calls Try.prog 14 #[.slice aol l.length capl, .slice aom m.length capm, .int .i64 at_] w0 fun e w' => e = .returned (.bool true) ∧ Evo w0 w' [] := by
 refine calls_enter (n := 81) (args := [.slice aol l.length capl, .slice aom m.length capm, .int .i64 at_]) Try.func14 rfl Try.ntmps14 rfl ?_
 have hV : Evo w0 w0 [] := Evo.refl _ _
 have rl0 := keepE rl
 have hbd_rl := rl.bd
 have rm0 := keepE rm
 have hbd_rm := rm.bd
 refine r_seq ?_
 refine r_region ?_
 refine r_op rfl rfl rfl (run_asg (v := .bool _) rfl (by exact rfl)) ?_
 refine r_nil ?_
 refine r_seq ?_
 refine r_seq ?_
 refine r_region ?_
 refine r_op rfl rfl rfl (run_mv (v := .slice _ _ _) rfl (by exact rfl)) ?_
 refine r_op rfl rfl rfl (run_lenSl rfl (by exact rfl) Try.underlying24) ?_
 refine r_op rfl rfl rfl (run_gtr rfl (by exact rfl) (by exact rfl)) ?_
 refine r_op rfl rfl rfl (run_mv (v := .bool _) rfl (by exact rfl)) ?_
 refine r_g rfl (wantF (by exact rfl)) rfl (fun hg => run_mv (v := .slice _ _ _) rfl (by exact rfl)) ?_
 refine r_g rfl (wantF (by exact rfl)) rfl (fun hg => run_lenSl rfl (glv (by exact rfl) (fun h => h) hg) Try.underlying24) ?_
 refine r_g rfl (wantF (by exact rfl)) rfl (fun hg => run_gtr rfl (glv (by exact rfl) (fun h => h) hg) (by exact rfl)) ?_
 refine r_op rfl rfl rfl (run_pick_or rfl (by exact rfl) rfl (fun hq => glv (by exact rfl) (fun h => h) hq)) ?_
 refine r_nil ?_
 refine r_cond (by exact rfl) (fun hc1 => ?_) (fun hc1 => ?_)
 ·skip
  refine r_seq ?_
  refine r_region ?_
  refine r_opcall rfl rfl rfl (run_callf (vs := []) rfl (by exact rfl) Try.func21 rfl (by kernel_rfl)) known_calls ?_
  rintro e w2 ⟨rfl, hE2⟩
  refine ⟨_, rfl, ?_⟩
  have hs_w2 := (hE2).size
  replace hV := evo_step0 hV hE2
  replace rl := rl0 _ hV
  replace rm := rm0 _ hV
  refine r_op rfl rfl rfl (run_asg (v := .bool _) rfl (by exact rfl)) ?_
  refine r_nil ?_
  refine r_ret (res1 (v := .bool _) rfl (by exact rfl)) ?_
  exact ⟨rfl, hV⟩
 ·skip
  refine r_skip ?_
  refine r_seq ?_
  refine r_region ?_
  refine r_op rfl rfl rfl (run_mv (v := .slice _ _ _) rfl (by exact rfl)) ?_
  refine r_opcall rfl rfl rfl (run_callf (vs := [.slice _ _ _, .bool _, .bool _]) rfl (by exact rfl) Try.func23 rfl (by kernel_rfl)) (made_calls rl) ?_
  rintro e w3 ⟨vg3, mf3, rfl, hM3, hE3, hog3⟩
  refine ⟨_, rfl, ?_⟩
  have hs_w3 := (hE3).size
  replace hV := evo_step0 hV hE3
  replace rl := rl0 _ hV
  replace rm := rm0 _ hV
  refine r_op rfl rfl rfl (run_asg (v := vg3) rfl (by exact rfl)) ?_
  refine r_nil ?_
  refine r_seq ?_
  have hmf := hM3; have hml := hmf.len; have hms := hmf.size; have hsv := hmf.small; have hll := lengthL_le mf3
  have hI : Evo w3 w3 [] := Evo.refl _ _
  obtain ⟨ao4, g4, cp4, hv4, hr4, hg4⟩ := hog3.rowOf
  subst hv4
  have hr40 := keepE hr4
  refine r_region ?_
  refine r_op rfl rfl rfl (run_mv (v := .slice _ _ _) rfl (by exact rfl)) ?_
  refine r_op rfl rfl rfl (run_bld (pv := [(0, .slice _ _ _)]) (zs := [_, _]) (cells := [_, _]) rfl ty_38 (by exact rfl) pl_38 (by exact rfl) (by exact rfl)) ?_
  refine r_box (vs := [_, _]) (by exact rfl) (by exact rfl) rfl ?_
  intro b5 w6 heb5 hEw6 hbb5 hzb5
  have hs_w6 := (hEw6).size
  replace hV := evo_step0 hV hEw6
  replace hI := evo_step0 hI hEw6
  replace rl := rl0 _ hV
  replace rm := rm0 _ hV
  replace hr4 := hr40 _ hI
  have hAb5 := hbb5.at
  refine r_op rfl rfl rfl (run_asg (v := .pointer _) rfl (by exact rfl)) ?_
  refine r_nil ?_
  refine r_seq ?_
  replace hbb5 : Blk w6 b5 38 [.slice aom m.length capm, .int .i64 ((0 : Nat) : Int)] := hbb5
  have i0 := Int.emod_nonneg at_ (show lengthL mf3 + 1 ≠ 0 by omega); have i1 := Int.emod_lt_of_pos at_ (show 0 < lengthL mf3 + 1 by omega)
  refine r_region ?_
  refine r_op rfl rfl rfl (run_mv (v := .int _ _) rfl (by exact rfl)) ?_
  refine r_op rfl rfl rfl (run_mv (v := .slice _ _ _) rfl (by exact rfl)) ?_
  refine r_opcall rfl rfl rfl (run_callf (vs := [.slice _ _ _]) rfl (by exact rfl) Try.func47 rfl (by kernel_rfl)) (rlength_calls hr4 (by first | assumption | exact MF.small (by assumption) | exact kf_small | exact small_take (by assumption) _)) ?_
  rintro e w7 ⟨rfl, hE7⟩
  refine ⟨_, rfl, ?_⟩
  have hs_w7 := (hE7).size
  replace hV := evo_step0 hV hE7
  replace hI := evo_step0 hI hE7
  replace rl := rl0 _ hV
  replace rm := rm0 _ hV
  replace hr4 := hr40 _ hI
  replace hbb5 := hbb5.evo0 hE7
  replace hAb5 := hAb5.evo0 hE7
  refine r_op rfl rfl rfl (run_add rfl (by exact rfl) (by exact rfl) (by omega) (by omega)) ?_
  refine r_opcall rfl rfl rfl (run_callf (vs := [.int _ _, .int _ _]) rfl (by exact rfl) Try.func16 rfl (by kernel_rfl)) (place_calls _ _ (by omega) (by omega)) ?_
  rintro e w8 ⟨rfl, rfl⟩
  refine ⟨_, rfl, ?_⟩
  refine r_op rfl rfl rfl (run_asg (v := .int _ _) rfl (by exact rfl)) ?_
  refine r_nil ?_
  refine r_seq ?_
  have e0 : sliceL mf3 0 (at_ % (lengthL mf3 + 1)) = (pieces mf3 0 0 (at_ % (lengthL mf3 + 1)), true) := sliceL_in (by omega) (by omega) (by omega)
  have z0 : (sliceL mf3 0 (at_ % (lengthL mf3 + 1))).1.length ≤ 16 ∧ sizeL (sliceL mf3 0 (at_ % (lengthL mf3 + 1))).1 ≤ 240 := by rw [e0]; have h1 := pieces_len2 mf3 0 (at_ % (lengthL mf3 + 1)); have h2 := pieces_size 0 (at_ % (lengthL mf3 + 1)) mf3 0; dsimp only; omega
  have m0 : Small (sliceL mf3 0 (at_ % (lengthL mf3 + 1))).1 := ⟨by omega, by omega⟩
  have e1 : sliceL mf3 (at_ % (lengthL mf3 + 1)) (lengthL mf3) = (pieces mf3 0 (at_ % (lengthL mf3 + 1)) (lengthL mf3), true) := sliceL_in (by omega) (by omega) (by omega)
  have z1 : (sliceL mf3 (at_ % (lengthL mf3 + 1)) (lengthL mf3)).1.length ≤ 16 ∧ sizeL (sliceL mf3 (at_ % (lengthL mf3 + 1)) (lengthL mf3)).1 ≤ 240 := by rw [e1]; have h1 := pieces_len2 mf3 (at_ % (lengthL mf3 + 1)) (lengthL mf3); have h2 := pieces_size (at_ % (lengthL mf3 + 1)) (lengthL mf3) mf3 0; dsimp only; omega
  have m1 : Small (sliceL mf3 (at_ % (lengthL mf3 + 1)) (lengthL mf3)).1 := ⟨by omega, by omega⟩
  have hj : Eqv ((sliceL mf3 0 (at_ % (lengthL mf3 + 1))).1 ++ (sliceL mf3 (at_ % (lengthL mf3 + 1)) (lengthL mf3)).1) mf3 := by rw [e0, e1]; exact slices_two mf3 (by omega) (by omega) rfl
  have f0 : (sliceL mf3 0 (at_ % (lengthL mf3 + 1))).2 = true := by rw [e0]
  have f1 : (sliceL mf3 (at_ % (lengthL mf3 + 1)) (lengthL mf3)).2 = true := by rw [e1]
  refine r_region ?_
  refine r_op rfl rfl rfl (run_mv (v := .slice _ _ _) rfl (by exact rfl)) ?_
  refine r_op rfl rfl rfl (run_mv (v := .int _ _) rfl (by exact rfl)) ?_
  refine r_opcall rfl rfl rfl (run_callf (vs := [.slice _ _ _, .int _ _, .int _ _]) rfl (by exact rfl) Try.func29 rfl (by kernel_rfl)) (slice_calls hr4 (by first | assumption | exact MF.small (by assumption) | exact kf_small | exact small_take (by assumption) _)) ?_
  rintro e w9 ⟨vs9, rfl, hE9, hos9⟩
  refine ⟨_, rfl, ?_⟩
  have hs_w9 := (hE9).size
  replace hV := evo_step0 hV hE9
  replace hI := evo_step0 hI hE9
  replace rl := rl0 _ hV
  replace rm := rm0 _ hV
  replace hr4 := hr40 _ hI
  replace hbb5 := hbb5.evo0 hE9
  replace hAb5 := hAb5.evo0 hE9
  refine r_op rfl rfl rfl (run_mv (v := .tuple _) rfl (by exact rfl)) ?_
  refine r_op rfl rfl rfl (run_extract (v := vs9) rfl (by exact rfl) (by exact rfl)) ?_
  refine r_op rfl rfl rfl (run_extract (v := .bool _) rfl (by exact rfl) (by exact rfl)) ?_
  refine r_op rfl rfl rfl (run_asg (v := vs9) rfl (by exact rfl)) ?_
  refine r_op rfl rfl rfl (run_asg (v := .bool _) rfl (by exact rfl)) ?_
  refine r_nil ?_
  refine r_seq ?_
  refine r_region ?_
  refine r_op rfl rfl rfl (run_mv (v := .slice _ _ _) rfl (by exact rfl)) ?_
  refine r_op rfl rfl rfl (run_mv (v := .int _ _) rfl (by exact rfl)) ?_
  refine r_op rfl rfl rfl (run_mv (v := .slice _ _ _) rfl (by exact rfl)) ?_
  refine r_opcall rfl rfl rfl (run_callf (vs := [.slice _ _ _]) rfl (by exact rfl) Try.func47 rfl (by kernel_rfl)) (rlength_calls hr4 (by first | assumption | exact MF.small (by assumption) | exact kf_small | exact small_take (by assumption) _)) ?_
  rintro e w10 ⟨rfl, hE10⟩
  refine ⟨_, rfl, ?_⟩
  have hs_w10 := (hE10).size
  replace hV := evo_step0 hV hE10
  replace hI := evo_step0 hI hE10
  replace rl := rl0 _ hV
  replace rm := rm0 _ hV
  replace hr4 := hr40 _ hI
  replace hbb5 := hbb5.evo0 hE10
  replace hAb5 := hAb5.evo0 hE10
  replace hos9 := hos9.evo0 hE10
  refine r_opcall rfl rfl rfl (run_callf (vs := [.slice _ _ _, .int _ _, .int _ _]) rfl (by exact rfl) Try.func29 rfl (by kernel_rfl)) (slice_calls hr4 (by first | assumption | exact MF.small (by assumption) | exact kf_small | exact small_take (by assumption) _)) ?_
  rintro e w11 ⟨vs11, rfl, hE11, hos11⟩
  refine ⟨_, rfl, ?_⟩
  have hs_w11 := (hE11).size
  replace hV := evo_step0 hV hE11
  replace hI := evo_step0 hI hE11
  replace rl := rl0 _ hV
  replace rm := rm0 _ hV
  replace hr4 := hr40 _ hI
  replace hbb5 := hbb5.evo0 hE11
  replace hAb5 := hAb5.evo0 hE11
  replace hos9 := hos9.evo0 hE11
  refine r_op rfl rfl rfl (run_mv (v := .tuple _) rfl (by exact rfl)) ?_
  refine r_op rfl rfl rfl (run_extract (v := vs11) rfl (by exact rfl) (by exact rfl)) ?_
  refine r_op rfl rfl rfl (run_extract (v := .bool _) rfl (by exact rfl) (by exact rfl)) ?_
  refine r_op rfl rfl rfl (run_asg (v := vs11) rfl (by exact rfl)) ?_
  refine r_op rfl rfl rfl (run_asg (v := .bool _) rfl (by exact rfl)) ?_
  refine r_nil ?_
  refine r_seq ?_
  refine r_region ?_
  refine r_op rfl rfl rfl (run_mv (v := .pointer _) rfl (by exact rfl)) ?_
  refine r_op rfl rfl rfl (run_mv (v := vs9) rfl (by exact rfl)) ?_
  obtain ⟨ao12, g12, cp12, hv12, hr12, hg12⟩ := hos9.rowOf
  subst hv12
  refine r_opcall rfl rfl rfl (run_callf (vs := [.pointer _, .slice _ _ _]) rfl (by exact rfl) Try.func44 rfl (by kernel_rfl)) (target_calls hbb5 (fun w9 h9 => rm0 _ (evo_step1 hV h9 (.inl (by omega)))) (by omega) (fun w9 h9 => row_keep hr12 h9 (fun hne hm => by have h2 := (hg12 hne).2.1; simp at hm; omega)) (by omega) (by omega)) ?_
  rintro e w13 ⟨vt13, tf13, Nt13, rfl, hT13, hNt13, hE13, hn13, hot13⟩
  refine ⟨_, rfl, ?_⟩
  have hs_w13 := (hE13).size
  replace hV := evo_step1 hV hE13 (by first | exact .inl (by omega) | exact .inr (by simp))
  replace hI := evo_step1 hI hE13 (by first | exact .inl (by omega) | exact .inr (by simp))
  replace rl := rl0 _ hV
  replace rm := rm0 _ hV
  replace hr4 := hr40 _ hI
  replace hos9 := hos9.evo hE13 (by intro g hg hm; simp at hm; subst hm; have := hos9.block hg; omega)
  replace hos11 := hos11.evo hE13 (by intro g hg hm; simp at hm; subst hm; have := hos11.block hg; omega)
  replace hbb5 := hn13
  clear hn13
  have hAb5 := hbb5.at
  refine r_op rfl rfl rfl (run_mv (v := .pointer _) rfl (by exact rfl)) ?_
  refine r_op rfl rfl rfl (run_mv (v := vs11) rfl (by exact rfl)) ?_
  obtain ⟨ao14, g14, cp14, hv14, hr14, hg14⟩ := hos11.rowOf
  subst hv14
  refine r_opcall rfl rfl rfl (run_callf (vs := [.pointer _, .slice _ _ _]) rfl (by exact rfl) Try.func44 rfl (by kernel_rfl)) (target_calls hbb5 (fun w9 h9 => rm0 _ (evo_step1 hV h9 (.inl (by omega)))) (by omega) (fun w9 h9 => row_keep hr14 h9 (fun hne hm => by have h2 := (hg14 hne).2.1; simp at hm; omega)) (by omega) (by omega)) ?_
  rintro e w15 ⟨vt15, tf15, Nt15, rfl, hT15, hNt15, hE15, hn15, hot15⟩
  refine ⟨_, rfl, ?_⟩
  have hs_w15 := (hE15).size
  replace hV := evo_step1 hV hE15 (by first | exact .inl (by omega) | exact .inr (by simp))
  replace hI := evo_step1 hI hE15 (by first | exact .inl (by omega) | exact .inr (by simp))
  replace rl := rl0 _ hV
  replace rm := rm0 _ hV
  replace hr4 := hr40 _ hI
  replace hos9 := hos9.evo hE15 (by intro g hg hm; simp at hm; subst hm; have := hos9.block hg; omega)
  replace hos11 := hos11.evo hE15 (by intro g hg hm; simp at hm; subst hm; have := hos11.block hg; omega)
  replace hot13 := hot13.evo hE15 (by intro g hg hm; simp at hm; subst hm; have := hot13.block hg; omega)
  replace hbb5 := hn15
  clear hn15
  have hAb5 := hbb5.at
  refine r_op rfl rfl rfl (run_asg (v := vt13) rfl (by exact rfl)) ?_
  refine r_op rfl rfl rfl (run_asg (v := vt15) rfl (by exact rfl)) ?_
  refine r_nil ?_
  refine r_seq ?_
  refine r_seq ?_
  have hu13 := hT13.2.1; have hv13 := hT13.2.2; have hts13 : Small tf13 := ⟨by omega, by omega⟩
  have hu15 := hT15.2.1; have hv15 := hT15.2.2; have hts15 : Small tf15 := ⟨by omega, by omega⟩
  have hjo := join_ok hj (hmf.shp rfl) hT13.1 hT15.1; have c1 := hjo.1; have c2 := hjo.2.1; have c3 := hjo.2.2
  have mst : Small (tf13 ++ tf15) := small_app (by omega) (by omega) (by omega) (by omega); have mnt : Small (normL (tf13 ++ tf15)) := small_norm mst
  refine r_region ?_
  refine r_op rfl rfl rfl (run_mvb rfl (by exact rfl)) ?_
  refine r_op rfl rfl rfl (run_not rfl (by exact rfl)) ?_
  refine r_op rfl rfl rfl (run_mv (v := .bool _) rfl (by exact rfl)) ?_
  refine r_g rfl (wantF (by exact rfl)) rfl (fun hg => run_mvb rfl (by exact rfl)) ?_
  refine r_g rfl (wantF (by exact rfl)) rfl (fun hg => run_not rfl (glv (by exact rfl) (fun h => h) hg)) ?_
  refine r_op rfl rfl rfl (run_pick_or rfl (by exact rfl) rfl (fun hq => glv (by exact rfl) (fun h => h) hq)) ?_
  refine r_op rfl rfl rfl (run_mv (v := .bool _) rfl (by exact rfl)) ?_
  refine r_g rfl (wantF (by exact rfl)) rfl (fun hg => run_mv (v := .slice _ _ _) rfl (by exact rfl)) ?_
  refine r_g rfl (wantF (by exact rfl)) rfl (fun hg => run_mv (v := vt13) rfl (by exact rfl)) ?_
  obtain ⟨ao16, g16, cp16, hv16, hr16, hg16⟩ := hos9.rowOf
  injection hv16 with ha16 hx16 hc16
  subst ha16; subst hc16
  obtain ⟨ao17, g17, cp17, hv17, hr17, hg17⟩ := hot13.rowOf
  subst hv17
  refine r_gcall rfl (wantF (by exact rfl)) rfl (fun hg => run_callf rfl (argcons (v := .slice _ _ _) (glv (by exact rfl) (fun h => h) hg) (argcons (v := .slice _ _ _) (glv (by exact rfl) (fun h => h) hg) (rfl))) Try.func45 rfl (by kernel_rfl)) (fun hg => (compatible_callsD hr16 hr17 (by first | assumption | exact MF.small (by assumption) | exact kf_small | exact small_take (by assumption) _) (by first | assumption | exact MF.small (by assumption) | exact kf_small | exact small_take (by assumption) _)).mono (fun e w' h => ⟨h.1, h.2⟩)) (fun w18 hE19 => ?_)
  have hs_w18 := (hE19).size
  replace hV := evo_step0 hV hE19
  replace hI := evo_step0 hI hE19
  replace rl := rl0 _ hV
  replace rm := rm0 _ hV
  replace hr4 := hr40 _ hI
  replace hos9 := hos9.evo0 hE19
  replace hos11 := hos11.evo0 hE19
  replace hot13 := hot13.evo0 hE19
  replace hot15 := hot15.evo0 hE19
  replace hr16 := hr16.evo0 hE19
  replace hr17 := hr17.evo0 hE19
  refine r_g rfl (wantF (by exact rfl)) rfl (fun hg => run_not rfl (glv (by exact rfl) (fun h => h) hg)) ?_
  refine r_op rfl rfl rfl (run_pick_or rfl (by exact rfl) rfl (fun hq => glv (by exact rfl) (fun h => h) hq)) ?_
  refine r_op rfl rfl rfl (run_mv (v := .bool _) rfl (by exact rfl)) ?_
  refine r_g rfl (wantF (by exact rfl)) rfl (fun hg => run_mv (v := .slice _ _ _) rfl (by exact rfl)) ?_
  refine r_g rfl (wantF (by exact rfl)) rfl (fun hg => run_mv (v := vt15) rfl (by exact rfl)) ?_
  obtain ⟨ao20, g20, cp20, hv20, hr20, hg20⟩ := hos11.rowOf
  injection hv20 with ha20 hx20 hc20
  subst ha20; subst hc20
  obtain ⟨ao21, g21, cp21, hv21, hr21, hg21⟩ := hot15.rowOf
  subst hv21
  refine r_gcall rfl (wantF (by exact rfl)) rfl (fun hg => run_callf rfl (argcons (v := .slice _ _ _) (glv (by exact rfl) (fun h => h) hg) (argcons (v := .slice _ _ _) (glv (by exact rfl) (fun h => h) hg) (rfl))) Try.func45 rfl (by kernel_rfl)) (fun hg => (compatible_callsD hr20 hr21 (by first | assumption | exact MF.small (by assumption) | exact kf_small | exact small_take (by assumption) _) (by first | assumption | exact MF.small (by assumption) | exact kf_small | exact small_take (by assumption) _)).mono (fun e w' h => ⟨h.1, h.2⟩)) (fun w22 hE23 => ?_)
  have hs_w22 := (hE23).size
  replace hV := evo_step0 hV hE23
  replace hI := evo_step0 hI hE23
  replace rl := rl0 _ hV
  replace rm := rm0 _ hV
  replace hr4 := hr40 _ hI
  replace hos9 := hos9.evo0 hE23
  replace hos11 := hos11.evo0 hE23
  replace hot13 := hot13.evo0 hE23
  replace hot15 := hot15.evo0 hE23
  replace hr16 := hr16.evo0 hE23
  replace hr17 := hr17.evo0 hE23
  replace hr20 := hr20.evo0 hE23
  replace hr21 := hr21.evo0 hE23
  refine r_g rfl (wantF (by exact rfl)) rfl (fun hg => run_not rfl (glv (by exact rfl) (fun h => h) hg)) ?_
  refine r_op rfl rfl rfl (run_pick_or rfl (by exact rfl) rfl (fun hq => glv (by exact rfl) (fun h => h) hq)) ?_
  refine r_nil ?_
  refine r_cond (by exact rfl) (fun hc24 => ?_) (fun hc24 => ?_)
  ·skip
   refine r_seq ?_
   refine r_region ?_
   refine r_op rfl rfl rfl (run_asg (v := .bool _) rfl (by exact rfl)) ?_
   refine r_nil ?_
   refine r_ret (res1 (v := .bool _) rfl (by exact rfl)) ?_
   exact absurd hc24 (by simp [c1, c2, f0, f1])
  ·skip
   refine r_skip ?_
   refine r_seq ?_
   refine r_region ?_
   refine r_op rfl rfl rfl (run_mv (v := .slice _ _ _) rfl (by exact rfl)) ?_
   refine r_op rfl rfl rfl (run_mv (v := .slice _ _ _) rfl (by exact rfl)) ?_
   refine r_op rfl rfl rfl (run_mv (v := .slice _ _ _) rfl (by exact rfl)) ?_
   refine r_opcall rfl rfl rfl (run_callf (vs := [.slice _ _ _, .slice _ _ _]) rfl (by exact rfl) Try.func32 rfl (by kernel_rfl)) (concat_calls hr17 hr21 (by assumption)) ?_
   rintro e w25 ⟨vn25, rfl, hE25, hon25⟩
   refine ⟨_, rfl, ?_⟩
   have hs_w25 := (hE25).size
   replace hV := evo_step0 hV hE25
   replace hI := evo_step0 hI hE25
   replace rl := rl0 _ hV
   replace rm := rm0 _ hV
   replace hr4 := hr40 _ hI
   replace hos9 := hos9.evo0 hE25
   replace hos11 := hos11.evo0 hE25
   replace hot13 := hot13.evo0 hE25
   replace hot15 := hot15.evo0 hE25
   replace hr16 := hr16.evo0 hE25
   replace hr17 := hr17.evo0 hE25
   replace hr20 := hr20.evo0 hE25
   replace hr21 := hr21.evo0 hE25
   obtain ⟨ao26, g26, cp26, hv26, hr26, hg26⟩ := hon25.rowOf
   subst hv26
   refine r_opcall rfl rfl rfl (run_callf (vs := [.slice _ _ _, .slice _ _ _]) rfl (by exact rfl) Try.func45 rfl (by kernel_rfl)) (compatible_callsD hr4 hr26 (by first | assumption | exact MF.small (by assumption) | exact kf_small | exact small_take (by assumption) _) (by first | assumption | exact MF.small (by assumption) | exact kf_small | exact small_take (by assumption) _)) ?_
   rintro e w27 ⟨rfl, hE27⟩
   refine ⟨_, rfl, ?_⟩
   have hs_w27 := (hE27).size
   replace hV := evo_step0 hV hE27
   replace hI := evo_step0 hI hE27
   replace rl := rl0 _ hV
   replace rm := rm0 _ hV
   replace hr4 := hr40 _ hI
   replace hos9 := hos9.evo0 hE27
   replace hos11 := hos11.evo0 hE27
   replace hot13 := hot13.evo0 hE27
   replace hot15 := hot15.evo0 hE27
   replace hr16 := hr16.evo0 hE27
   replace hr17 := hr17.evo0 hE27
   replace hr20 := hr20.evo0 hE27
   replace hr21 := hr21.evo0 hE27
   replace hon25 := hon25.evo0 hE27
   replace hr26 := hr26.evo0 hE27
   refine r_op rfl rfl rfl (run_mv (v := .bool _) rfl (by exact rfl)) ?_
   refine r_gyes rfl (wantT (by exact rfl)) (by exact c3) ?_
   refine r_opcall rfl rfl rfl (run_callf (vs := []) rfl (by exact rfl) Try.func21 rfl (by kernel_rfl)) known_calls ?_
   rintro e w28 ⟨rfl, hE28⟩
   refine ⟨_, rfl, ?_⟩
   have hs_w28 := (hE28).size
   replace hV := evo_step0 hV hE28
   replace hI := evo_step0 hI hE28
   replace rl := rl0 _ hV
   replace rm := rm0 _ hV
   replace hr4 := hr40 _ hI
   replace hos9 := hos9.evo0 hE28
   replace hos11 := hos11.evo0 hE28
   replace hot13 := hot13.evo0 hE28
   replace hot15 := hot15.evo0 hE28
   replace hr16 := hr16.evo0 hE28
   replace hr17 := hr17.evo0 hE28
   replace hr20 := hr20.evo0 hE28
   replace hr21 := hr21.evo0 hE28
   replace hon25 := hon25.evo0 hE28
   replace hr26 := hr26.evo0 hE28
   refine r_op rfl rfl rfl (run_pick_and rfl (by exact rfl) (fun _ => (by exact rfl)) rfl) ?_
   refine r_op rfl rfl rfl (run_asg (v := .bool _) rfl (by exact rfl)) ?_
   refine r_nil ?_
   refine r_ret (res1 (v := .bool _) rfl (by exact rfl)) ?_
   exact ⟨ret_bool (decide_eq_true ⟨c3, trivial⟩), hV⟩

end Go.Proofs.Ytkdgoghmkmpfnaa
