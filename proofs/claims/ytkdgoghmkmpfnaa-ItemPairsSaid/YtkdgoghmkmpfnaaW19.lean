import Derived.Test.YtkdgoghmkmpfnaaW18
import Derived.Test.YtkdgoghmkmpfnaaW17
namespace Go.Proofs.Ytkdgoghmkmpfnaa
open Go.RowKit Go.Vc

theorem slices_law {aof : Option Addr} {bf offf capf : Nat} {f : List Vc.Item} {ao : Option Addr} {b off cap : Nat} {l : List Int} {fr to_ : Int} {w0 : World} (rf : RowE w0 aof bf offf capf f) (htf : ∀ x ∈ f, x.text.length ≤ reachBytes) (hl : RowE w0 ao b off cap l) :
    Calls Try.prog 8 #[.slice aof f.length capf, .slice ao l.length cap, .int .i64 fr, .int .i64 to_] w0 fun e w' => e = .returned (.bool true) ∧ Evo w0 w' [] := by
 refine calls_enter (n := 145) (args := [.slice aof f.length capf, .slice ao l.length cap, .int .i64 fr, .int .i64 to_]) Try.func8 rfl Try.ntmps8 rfl ?_
 have hV : Evo w0 w0 [] := Evo.refl _ _
 have rf0 := keepE rf
 have hbd_rf := rf.bd
 have hl0 := keepE hl
 have hbd_hl := hl.bd
 refine r_seq ?_
 refine r_region ?_
 refine r_op rfl rfl rfl (run_asg (v := .bool _) rfl (by exact rfl)) ?_
 refine r_nil ?_
 refine r_seq ?_
 refine r_seq ?_
 refine r_region ?_
 refine r_op rfl rfl rfl (run_mv (v := .slice _ _ _) rfl (by exact rfl)) ?_
 refine r_opcall rfl rfl rfl (run_callf (vs := [.slice _ _ _]) rfl (by exact rfl) Try.func22 rfl (by kernel_rfl)) (few_calls rf (texts_at htf)) ?_
 rintro e w1 ⟨lx1, rfl, hlx1, hE1⟩
 refine ⟨_, rfl, ?_⟩
 have hs_w1 := (hE1).size
 replace hV := evo_step0 hV hE1
 replace rf := rf0 _ hV
 replace hl := hl0 _ hV
 refine r_op rfl rfl rfl (run_notb rfl (by exact rfl)) ?_
 refine r_op rfl rfl rfl (run_mvb rfl (by exact rfl)) ?_
 refine r_g rfl (wantF (by exact rfl)) rfl (fun hg => run_mv (v := .slice _ _ _) rfl (by exact rfl)) ?_
 refine r_g rfl (wantF (by exact rfl)) rfl (fun hg => run_lenSl rfl (glv (by exact rfl) (fun h => h) hg) Try.underlying24) ?_
 refine r_g rfl (wantF (by exact rfl)) rfl (fun hg => run_gtr rfl (glv (by exact rfl) (fun h => h) hg) (by exact rfl)) ?_
 refine r_op rfl rfl rfl (run_pick_or rfl (by exact rfl) rfl (fun hq => glv (by exact rfl) (fun h => h) hq)) ?_
 refine r_nil ?_
 refine r_cond (by exact rfl) (fun hc2 => ?_) (fun hc2 => ?_)
 ·skip
  refine r_seq ?_
  refine r_region ?_
  refine r_opcall rfl rfl rfl (run_callf (vs := []) rfl (by exact rfl) Try.func21 rfl (by kernel_rfl)) known_calls ?_
  rintro e w3 ⟨rfl, hE3⟩
  refine ⟨_, rfl, ?_⟩
  have hs_w3 := (hE3).size
  replace hV := evo_step0 hV hE3
  replace rf := rf0 _ hV
  replace hl := hl0 _ hV
  refine r_op rfl rfl rfl (run_asg (v := .bool _) rfl (by exact rfl)) ?_
  refine r_nil ?_
  refine r_ret (res1 (v := .bool _) rfl (by exact rfl)) ?_
  exact ⟨rfl, hV⟩
 ·skip
  refine r_skip ?_
  refine r_seq ?_
  have b1 := hlx1 (by simp_all)
  have s1 : Small f := few_small b1
  refine r_region ?_
  refine r_op rfl rfl rfl (run_mv (v := .slice _ _ _) rfl (by exact rfl)) ?_
  refine r_op rfl rfl rfl (run_mv (v := .int _ _) rfl (by exact rfl)) ?_
  refine r_op rfl rfl rfl (run_mv (v := .int _ _) rfl (by exact rfl)) ?_
  refine r_opcall rfl rfl rfl (run_callf (vs := [.slice _ _ _, .int _ _, .int _ _]) rfl (by exact rfl) Try.func29 rfl (by kernel_rfl)) (slice_calls rf (by first | assumption | exact MF.small (by assumption) | exact kf_small | exact small_take (by assumption) _)) ?_
  rintro e w4 ⟨vs4, rfl, hE4, hos4⟩
  refine ⟨_, rfl, ?_⟩
  have hs_w4 := (hE4).size
  replace hV := evo_step0 hV hE4
  replace rf := rf0 _ hV
  replace hl := hl0 _ hV
  refine r_op rfl rfl rfl (run_mv (v := .tuple _) rfl (by exact rfl)) ?_
  refine r_op rfl rfl rfl (run_extract (v := vs4) rfl (by exact rfl) (by exact rfl)) ?_
  refine r_op rfl rfl rfl (run_extract (v := .bool _) rfl (by exact rfl) (by exact rfl)) ?_
  refine r_op rfl rfl rfl (run_asg (v := vs4) rfl (by exact rfl)) ?_
  refine r_op rfl rfl rfl (run_asg (v := .bool _) rfl (by exact rfl)) ?_
  refine r_nil ?_
  refine r_seq ?_
  refine r_region ?_
  refine r_op rfl rfl rfl (run_mv (v := .slice _ _ _) rfl (by exact rfl)) ?_
  refine r_op rfl rfl rfl (run_mv (v := .int _ _) rfl (by exact rfl)) ?_
  refine r_op rfl rfl rfl (run_mv (v := .int _ _) rfl (by exact rfl)) ?_
  refine r_opcall rfl rfl rfl (run_callf (vs := [.slice _ _ _, .int _ _, .int _ _]) rfl (by exact rfl) Try.func30 rfl (by kernel_rfl)) (rslice_calls rf (by first | assumption | exact MF.small (by assumption) | exact kf_small | exact small_take (by assumption) _)) ?_
  rintro e w5 ⟨vs5, rfl, hE5, hos5⟩
  refine ⟨_, rfl, ?_⟩
  have hs_w5 := (hE5).size
  replace hV := evo_step0 hV hE5
  replace rf := rf0 _ hV
  replace hl := hl0 _ hV
  replace hos4 := hos4.evo0 hE5
  refine r_op rfl rfl rfl (run_mv (v := .tuple _) rfl (by exact rfl)) ?_
  refine r_op rfl rfl rfl (run_extract (v := vs5) rfl (by exact rfl) (by exact rfl)) ?_
  refine r_op rfl rfl rfl (run_extract (v := .bool _) rfl (by exact rfl) (by exact rfl)) ?_
  refine r_op rfl rfl rfl (run_asg (v := vs5) rfl (by exact rfl)) ?_
  refine r_op rfl rfl rfl (run_asg (v := .bool _) rfl (by exact rfl)) ?_
  refine r_nil ?_
  refine r_seq ?_
  refine r_seq ?_
  refine r_region ?_
  refine r_op rfl rfl rfl (run_mvb rfl (by exact rfl)) ?_
  refine r_op rfl rfl rfl (run_mvb rfl (by exact rfl)) ?_
  refine r_op rfl rfl rfl (run_bneq rfl Try.underlying4 (by exact rfl) (by exact rfl)) ?_
  refine r_op rfl rfl rfl (run_mv (v := .bool _) rfl (by exact rfl)) ?_
  refine r_g rfl (wantF (by exact rfl)) rfl (fun hg => run_mv (v := vs4) rfl (by exact rfl)) ?_
  refine r_g rfl (wantF (by exact rfl)) rfl (fun hg => run_mv (v := vs5) rfl (by exact rfl)) ?_
  obtain ⟨ao6, g6, cp6, hv6, hr6, hg6⟩ := hos4.rowOf
  subst hv6
  obtain ⟨ao7, g7, cp7, hv7, hr7, hg7⟩ := hos5.rowOf
  subst hv7
  refine r_gcall rfl (wantF (by exact rfl)) rfl (fun hg => run_callf rfl (argcons (v := .slice _ _ _) (glv (by exact rfl) (fun h => h) hg) (argcons (v := .slice _ _ _) (glv (by exact rfl) (fun h => h) hg) (rfl))) Try.func31 rfl (by kernel_rfl)) (fun hg => (same_calls hr6 hr7).mono (fun e w' h => ⟨h.1, h.2⟩)) (fun w8 hE9 => ?_)
  have hs_w8 := (hE9).size
  replace hV := evo_step0 hV hE9
  replace rf := rf0 _ hV
  replace hl := hl0 _ hV
  replace hos4 := hos4.evo0 hE9
  replace hos5 := hos5.evo0 hE9
  replace hr6 := hr6.evo0 hE9
  replace hr7 := hr7.evo0 hE9
  refine r_g rfl (wantF (by exact rfl)) rfl (fun hg => run_not rfl (glv (by exact rfl) (fun h => h) hg)) ?_
  refine r_op rfl rfl rfl (run_pick_or rfl (by exact rfl) rfl (fun hq => glv (by exact rfl) (fun h => h) hq)) ?_
  refine r_nil ?_
  refine r_cond (by exact rfl) (fun hc10 => ?_) (fun hc10 => ?_)
  ·skip
   refine r_seq ?_
   refine r_region ?_
   refine r_op rfl rfl rfl (run_asg (v := .bool _) rfl (by exact rfl)) ?_
   refine r_nil ?_
   refine r_ret (res1 (v := .bool _) rfl (by exact rfl)) ?_
   exact absurd hc10 (by simp)
  ·skip
   refine r_skip ?_
   refine r_seq ?_
   refine r_region ?_
   refine r_op rfl rfl rfl (run_mv (v := .slice _ _ _) rfl (by exact rfl)) ?_
   refine r_opcall rfl rfl rfl (run_callf (vs := [.slice _ _ _, .bool _, .bool _]) rfl (by exact rfl) Try.func23 rfl (by kernel_rfl)) (made_calls hl) ?_
   rintro e w11 ⟨vg11, mf11, rfl, hM11, hE11, hog11⟩
   refine ⟨_, rfl, ?_⟩
   have hs_w11 := (hE11).size
   replace hV := evo_step0 hV hE11
   replace rf := rf0 _ hV
   replace hl := hl0 _ hV
   replace hos4 := hos4.evo0 hE11
   replace hos5 := hos5.evo0 hE11
   replace hr6 := hr6.evo0 hE11
   replace hr7 := hr7.evo0 hE11
   refine r_op rfl rfl rfl (run_asg (v := vg11) rfl (by exact rfl)) ?_
   refine r_nil ?_
   refine r_seq ?_
   have hmf := hM11; have hml := hmf.len; have hms := hmf.size; have hsv := hmf.small; have hll := lengthL_le mf11
   refine r_region ?_
   refine r_op rfl rfl rfl (run_mv (v := vg11) rfl (by exact rfl)) ?_
   obtain ⟨ao12, g12, cp12, hv12, hr12, hg12⟩ := hog11.rowOf
   subst hv12
   refine r_opcall rfl rfl rfl (run_callf (vs := [.slice _ _ _]) rfl (by exact rfl) Try.func25 rfl (by kernel_rfl)) (length_calls hr12 (by first | assumption | exact MF.small (by assumption) | exact kf_small | exact small_take (by assumption) _)) ?_
   rintro e w13 ⟨rfl, hE13⟩
   refine ⟨_, rfl, ?_⟩
   have hs_w13 := (hE13).size
   replace hV := evo_step0 hV hE13
   replace rf := rf0 _ hV
   replace hl := hl0 _ hV
   replace hos4 := hos4.evo0 hE13
   replace hos5 := hos5.evo0 hE13
   replace hr6 := hr6.evo0 hE13
   replace hr7 := hr7.evo0 hE13
   replace hog11 := hog11.evo0 hE13
   replace hr12 := hr12.evo0 hE13
   refine r_op rfl rfl rfl (run_asg (v := .int _ _) rfl (by exact rfl)) ?_
   refine r_nil ?_
   refine r_seq ?_
   refine r_region ?_
   refine r_op rfl rfl rfl (run_mv (v := .int _ _) rfl (by exact rfl)) ?_
   refine r_op rfl rfl rfl (run_mv (v := .int _ _) rfl (by exact rfl)) ?_
   refine r_op rfl rfl rfl (run_add rfl (by exact rfl) (by exact rfl) (by omega) (by omega)) ?_
   refine r_opcall rfl rfl rfl (run_callf (vs := [.int _ _, .int _ _]) rfl (by exact rfl) Try.func16 rfl (by kernel_rfl)) (place_calls _ _ (by omega) (by omega)) ?_
   rintro e w14 ⟨rfl, rfl⟩
   refine ⟨_, rfl, ?_⟩
   refine r_op rfl rfl rfl (run_asg (v := .int _ _) rfl (by exact rfl)) ?_
   refine r_nil ?_
   refine r_seq ?_
   have i0 := Int.emod_nonneg fr (show lengthL mf11 + 1 ≠ 0 by omega); have i1 := Int.emod_lt_of_pos fr (show 0 < lengthL mf11 + 1 by omega)
   have j0 := Int.emod_nonneg to_ (show lengthL mf11 - (fr % (lengthL mf11 + 1)) + 1 ≠ 0 by omega); have j1 := Int.emod_lt_of_pos to_ (show 0 < lengthL mf11 - (fr % (lengthL mf11 + 1)) + 1 by omega)
   refine r_region ?_
   refine r_op rfl rfl rfl (run_mv (v := .int _ _) rfl (by exact rfl)) ?_
   refine r_op rfl rfl rfl (run_mv (v := .int _ _) rfl (by exact rfl)) ?_
   refine r_op rfl rfl rfl (run_mv (v := .int _ _) rfl (by exact rfl)) ?_
   refine r_op rfl rfl rfl (run_mv (v := .int _ _) rfl (by exact rfl)) ?_
   refine r_op rfl rfl rfl (run_sub rfl (by exact rfl) (by exact rfl) (by omega) (by omega)) ?_
   refine r_op rfl rfl rfl (run_add rfl (by exact rfl) (by exact rfl) (by omega) (by omega)) ?_
   refine r_opcall rfl rfl rfl (run_callf (vs := [.int _ _, .int _ _]) rfl (by exact rfl) Try.func16 rfl (by kernel_rfl)) (place_calls _ _ (by omega) (by omega)) ?_
   rintro e w15 ⟨rfl, rfl⟩
   refine ⟨_, rfl, ?_⟩
   refine r_op rfl rfl rfl (run_add rfl (by exact rfl) (by exact rfl) (by omega) (by omega)) ?_
   refine r_op rfl rfl rfl (run_asg (v := .int _ _) rfl (by exact rfl)) ?_
   refine r_nil ?_
   refine r_seq ?_
   have e0 : sliceL mf11 0 (fr % (lengthL mf11 + 1)) = (pieces mf11 0 0 (fr % (lengthL mf11 + 1)), true) := sliceL_in (by omega) (by omega) (by omega)
   have v0 : validateL (sliceL mf11 0 (fr % (lengthL mf11 + 1))).1 = 0 := by rw [e0]; exact slice_valid hmf.val (by omega) (by omega) (by omega) (by omega) (by omega)
   have z0 : (sliceL mf11 0 (fr % (lengthL mf11 + 1))).1.length ≤ 16 ∧ sizeL (sliceL mf11 0 (fr % (lengthL mf11 + 1))).1 ≤ 240 := by rw [e0]; have h1 := pieces_len2 mf11 0 (fr % (lengthL mf11 + 1)); have h2 := pieces_size 0 (fr % (lengthL mf11 + 1)) mf11 0; dsimp only; omega
   have m0 : Small (sliceL mf11 0 (fr % (lengthL mf11 + 1))).1 := ⟨by omega, by omega⟩
   have p0 := plainL_len (sliceL mf11 0 (fr % (lengthL mf11 + 1))).1
   have e1 : sliceL mf11 (fr % (lengthL mf11 + 1)) ((fr % (lengthL mf11 + 1)) + (to_ % (lengthL mf11 - (fr % (lengthL mf11 + 1)) + 1))) = (pieces mf11 0 (fr % (lengthL mf11 + 1)) ((fr % (lengthL mf11 + 1)) + (to_ % (lengthL mf11 - (fr % (lengthL mf11 + 1)) + 1))), true) := sliceL_in (by omega) (by omega) (by omega)
   have v1 : validateL (sliceL mf11 (fr % (lengthL mf11 + 1)) ((fr % (lengthL mf11 + 1)) + (to_ % (lengthL mf11 - (fr % (lengthL mf11 + 1)) + 1)))).1 = 0 := by rw [e1]; exact slice_valid hmf.val (by omega) (by omega) (by omega) (by omega) (by omega)
   have z1 : (sliceL mf11 (fr % (lengthL mf11 + 1)) ((fr % (lengthL mf11 + 1)) + (to_ % (lengthL mf11 - (fr % (lengthL mf11 + 1)) + 1)))).1.length ≤ 16 ∧ sizeL (sliceL mf11 (fr % (lengthL mf11 + 1)) ((fr % (lengthL mf11 + 1)) + (to_ % (lengthL mf11 - (fr % (lengthL mf11 + 1)) + 1)))).1 ≤ 240 := by rw [e1]; have h1 := pieces_len2 mf11 (fr % (lengthL mf11 + 1)) ((fr % (lengthL mf11 + 1)) + (to_ % (lengthL mf11 - (fr % (lengthL mf11 + 1)) + 1))); have h2 := pieces_size (fr % (lengthL mf11 + 1)) ((fr % (lengthL mf11 + 1)) + (to_ % (lengthL mf11 - (fr % (lengthL mf11 + 1)) + 1))) mf11 0; dsimp only; omega
   have m1 : Small (sliceL mf11 (fr % (lengthL mf11 + 1)) ((fr % (lengthL mf11 + 1)) + (to_ % (lengthL mf11 - (fr % (lengthL mf11 + 1)) + 1)))).1 := ⟨by omega, by omega⟩
   have p1 := plainL_len (sliceL mf11 (fr % (lengthL mf11 + 1)) ((fr % (lengthL mf11 + 1)) + (to_ % (lengthL mf11 - (fr % (lengthL mf11 + 1)) + 1)))).1
   have e2 : sliceL mf11 ((fr % (lengthL mf11 + 1)) + (to_ % (lengthL mf11 - (fr % (lengthL mf11 + 1)) + 1))) (lengthL mf11) = (pieces mf11 0 ((fr % (lengthL mf11 + 1)) + (to_ % (lengthL mf11 - (fr % (lengthL mf11 + 1)) + 1))) (lengthL mf11), true) := sliceL_in (by omega) (by omega) (by omega)
   have v2 : validateL (sliceL mf11 ((fr % (lengthL mf11 + 1)) + (to_ % (lengthL mf11 - (fr % (lengthL mf11 + 1)) + 1))) (lengthL mf11)).1 = 0 := by rw [e2]; exact slice_valid hmf.val (by omega) (by omega) (by omega) (by omega) (by omega)
   have z2 : (sliceL mf11 ((fr % (lengthL mf11 + 1)) + (to_ % (lengthL mf11 - (fr % (lengthL mf11 + 1)) + 1))) (lengthL mf11)).1.length ≤ 16 ∧ sizeL (sliceL mf11 ((fr % (lengthL mf11 + 1)) + (to_ % (lengthL mf11 - (fr % (lengthL mf11 + 1)) + 1))) (lengthL mf11)).1 ≤ 240 := by rw [e2]; have h1 := pieces_len2 mf11 ((fr % (lengthL mf11 + 1)) + (to_ % (lengthL mf11 - (fr % (lengthL mf11 + 1)) + 1))) (lengthL mf11); have h2 := pieces_size ((fr % (lengthL mf11 + 1)) + (to_ % (lengthL mf11 - (fr % (lengthL mf11 + 1)) + 1))) (lengthL mf11) mf11 0; dsimp only; omega
   have m2 : Small (sliceL mf11 ((fr % (lengthL mf11 + 1)) + (to_ % (lengthL mf11 - (fr % (lengthL mf11 + 1)) + 1))) (lengthL mf11)).1 := ⟨by omega, by omega⟩
   have p2 := plainL_len (sliceL mf11 ((fr % (lengthL mf11 + 1)) + (to_ % (lengthL mf11 - (fr % (lengthL mf11 + 1)) + 1))) (lengthL mf11)).1
   have m4 : Small ((sliceL mf11 0 (fr % (lengthL mf11 + 1))).1 ++ (sliceL mf11 (fr % (lengthL mf11 + 1)) ((fr % (lengthL mf11 + 1)) + (to_ % (lengthL mf11 - (fr % (lengthL mf11 + 1)) + 1)))).1) := small_app (by omega) (by omega) (by omega) (by omega)
   have n1 := normL_len ((sliceL mf11 0 (fr % (lengthL mf11 + 1))).1 ++ (sliceL mf11 (fr % (lengthL mf11 + 1)) ((fr % (lengthL mf11 + 1)) + (to_ % (lengthL mf11 - (fr % (lengthL mf11 + 1)) + 1)))).1); have n2 := normL_size ((sliceL mf11 0 (fr % (lengthL mf11 + 1))).1 ++ (sliceL mf11 (fr % (lengthL mf11 + 1)) ((fr % (lengthL mf11 + 1)) + (to_ % (lengthL mf11 - (fr % (lengthL mf11 + 1)) + 1)))).1); rw [List.length_append] at n1; rw [sizeL_append] at n2
   have m5 : Small (normL ((sliceL mf11 0 (fr % (lengthL mf11 + 1))).1 ++ (sliceL mf11 (fr % (lengthL mf11 + 1)) ((fr % (lengthL mf11 + 1)) + (to_ % (lengthL mf11 - (fr % (lengthL mf11 + 1)) + 1)))).1) ++ (sliceL mf11 ((fr % (lengthL mf11 + 1)) + (to_ % (lengthL mf11 - (fr % (lengthL mf11 + 1)) + 1))) (lengthL mf11)).1) := small_app (by omega) (by omega) (by omega) (by omega)
   have hj : Eqv ((sliceL mf11 0 (fr % (lengthL mf11 + 1))).1 ++ (sliceL mf11 (fr % (lengthL mf11 + 1)) ((fr % (lengthL mf11 + 1)) + (to_ % (lengthL mf11 - (fr % (lengthL mf11 + 1)) + 1)))).1 ++ (sliceL mf11 ((fr % (lengthL mf11 + 1)) + (to_ % (lengthL mf11 - (fr % (lengthL mf11 + 1)) + 1))) (lengthL mf11)).1) mf11 := by rw [e0, e1, e2]; exact slices_three mf11 (by omega) (by omega) (by omega) rfl
   have hln : lengthL (sliceL mf11 (fr % (lengthL mf11 + 1)) ((fr % (lengthL mf11 + 1)) + (to_ % (lengthL mf11 - (fr % (lengthL mf11 + 1)) + 1)))).1 = ((fr % (lengthL mf11 + 1)) + (to_ % (lengthL mf11 - (fr % (lengthL mf11 + 1)) + 1))) - (fr % (lengthL mf11 + 1)) := by rw [e1]; exact slice_length mf11 (by omega) (by omega) (by omega)
   have hjn : normL (normL ((sliceL mf11 0 (fr % (lengthL mf11 + 1))).1 ++ (sliceL mf11 (fr % (lengthL mf11 + 1)) ((fr % (lengthL mf11 + 1)) + (to_ % (lengthL mf11 - (fr % (lengthL mf11 + 1)) + 1)))).1) ++ (sliceL mf11 ((fr % (lengthL mf11 + 1)) + (to_ % (lengthL mf11 - (fr % (lengthL mf11 + 1)) + 1))) (lengthL mf11)).1) = mf11 := by rw [normL_left, hj.norm]; exact val_norm _ hmf.val
   have hjp : plainL (sliceL mf11 0 (fr % (lengthL mf11 + 1))).1 ++ plainL (sliceL mf11 (fr % (lengthL mf11 + 1)) ((fr % (lengthL mf11 + 1)) + (to_ % (lengthL mf11 - (fr % (lengthL mf11 + 1)) + 1)))).1 ++ plainL (sliceL mf11 ((fr % (lengthL mf11 + 1)) + (to_ % (lengthL mf11 - (fr % (lengthL mf11 + 1)) + 1))) (lengthL mf11)).1 = plainL mf11 := by rw [← plainL_append, ← plainL_append]; exact eqv_plain hj
   refine r_region ?_
   refine r_op rfl rfl rfl (run_mv (v := .slice _ _ _) rfl (by exact rfl)) ?_
   refine r_op rfl rfl rfl (run_mv (v := .int _ _) rfl (by exact rfl)) ?_
   refine r_opcall rfl rfl rfl (run_callf (vs := [.slice _ _ _, .int _ _, .int _ _]) rfl (by exact rfl) Try.func29 rfl (by kernel_rfl)) (slice_calls hr12 (by first | assumption | exact MF.small (by assumption) | exact kf_small | exact small_take (by assumption) _)) ?_
   rintro e w16 ⟨vs16, rfl, hE16, hos16⟩
   refine ⟨_, rfl, ?_⟩
   have hs_w16 := (hE16).size
   replace hV := evo_step0 hV hE16
   replace rf := rf0 _ hV
   replace hl := hl0 _ hV
   replace hos4 := hos4.evo0 hE16
   replace hos5 := hos5.evo0 hE16
   replace hr6 := hr6.evo0 hE16
   replace hr7 := hr7.evo0 hE16
   replace hog11 := hog11.evo0 hE16
   replace hr12 := hr12.evo0 hE16
   refine r_op rfl rfl rfl (run_mv (v := .tuple _) rfl (by exact rfl)) ?_
   refine r_op rfl rfl rfl (run_extract (v := vs16) rfl (by exact rfl) (by exact rfl)) ?_
   refine r_op rfl rfl rfl (run_extract (v := .bool _) rfl (by exact rfl) (by exact rfl)) ?_
   refine r_op rfl rfl rfl (run_asg (v := vs16) rfl (by exact rfl)) ?_
   refine r_op rfl rfl rfl (run_asg (v := .bool _) rfl (by exact rfl)) ?_
   refine r_nil ?_
   refine r_seq ?_
   refine r_region ?_
   refine r_op rfl rfl rfl (run_mv (v := .slice _ _ _) rfl (by exact rfl)) ?_
   refine r_op rfl rfl rfl (run_mv (v := .int _ _) rfl (by exact rfl)) ?_
   refine r_op rfl rfl rfl (run_mv (v := .int _ _) rfl (by exact rfl)) ?_
   refine r_opcall rfl rfl rfl (run_callf (vs := [.slice _ _ _, .int _ _, .int _ _]) rfl (by exact rfl) Try.func29 rfl (by kernel_rfl)) (slice_calls hr12 (by first | assumption | exact MF.small (by assumption) | exact kf_small | exact small_take (by assumption) _)) ?_
   rintro e w17 ⟨vs17, rfl, hE17, hos17⟩
   refine ⟨_, rfl, ?_⟩
   have hs_w17 := (hE17).size
   replace hV := evo_step0 hV hE17
   replace rf := rf0 _ hV
   replace hl := hl0 _ hV
   replace hos4 := hos4.evo0 hE17
   replace hos5 := hos5.evo0 hE17
   replace hr6 := hr6.evo0 hE17
   replace hr7 := hr7.evo0 hE17
   replace hog11 := hog11.evo0 hE17
   replace hr12 := hr12.evo0 hE17
   replace hos16 := hos16.evo0 hE17
   refine r_op rfl rfl rfl (run_mv (v := .tuple _) rfl (by exact rfl)) ?_
   refine r_op rfl rfl rfl (run_extract (v := vs17) rfl (by exact rfl) (by exact rfl)) ?_
   refine r_op rfl rfl rfl (run_extract (v := .bool _) rfl (by exact rfl) (by exact rfl)) ?_
   refine r_op rfl rfl rfl (run_asg (v := vs17) rfl (by exact rfl)) ?_
   refine r_op rfl rfl rfl (run_asg (v := .bool _) rfl (by exact rfl)) ?_
   refine r_nil ?_
   refine r_seq ?_
   refine r_region ?_
   refine r_op rfl rfl rfl (run_mv (v := .slice _ _ _) rfl (by exact rfl)) ?_
   refine r_op rfl rfl rfl (run_mv (v := .int _ _) rfl (by exact rfl)) ?_
   refine r_op rfl rfl rfl (run_mv (v := .int _ _) rfl (by exact rfl)) ?_
   refine r_opcall rfl rfl rfl (run_callf (vs := [.slice _ _ _, .int _ _, .int _ _]) rfl (by exact rfl) Try.func29 rfl (by kernel_rfl)) (slice_calls hr12 (by first | assumption | exact MF.small (by assumption) | exact kf_small | exact small_take (by assumption) _)) ?_
   rintro e w18 ⟨vs18, rfl, hE18, hos18⟩
   refine ⟨_, rfl, ?_⟩
   have hs_w18 := (hE18).size
   replace hV := evo_step0 hV hE18
   replace rf := rf0 _ hV
   replace hl := hl0 _ hV
   replace hos4 := hos4.evo0 hE18
   replace hos5 := hos5.evo0 hE18
   replace hr6 := hr6.evo0 hE18
   replace hr7 := hr7.evo0 hE18
   replace hog11 := hog11.evo0 hE18
   replace hr12 := hr12.evo0 hE18
   replace hos16 := hos16.evo0 hE18
   replace hos17 := hos17.evo0 hE18
   refine r_op rfl rfl rfl (run_mv (v := .tuple _) rfl (by exact rfl)) ?_
   refine r_op rfl rfl rfl (run_extract (v := vs18) rfl (by exact rfl) (by exact rfl)) ?_
   refine r_op rfl rfl rfl (run_extract (v := .bool _) rfl (by exact rfl) (by exact rfl)) ?_
   refine r_op rfl rfl rfl (run_asg (v := vs18) rfl (by exact rfl)) ?_
   refine r_op rfl rfl rfl (run_asg (v := .bool _) rfl (by exact rfl)) ?_
   refine r_nil ?_
   refine r_seq ?_
   refine r_seq ?_
   refine r_region ?_
   refine r_op rfl rfl rfl (run_mvb rfl (by exact rfl)) ?_
   refine r_op rfl rfl rfl (run_not rfl (by exact rfl)) ?_
   refine r_op rfl rfl rfl (run_mv (v := .bool _) rfl (by exact rfl)) ?_
   refine r_g rfl (wantF (by exact rfl)) rfl (fun hg => run_mvb rfl (by exact rfl)) ?_
   refine r_g rfl (wantF (by exact rfl)) rfl (fun hg => run_not rfl (glv (by exact rfl) (fun h => h) hg)) ?_
   refine r_op rfl rfl rfl (run_pick_or rfl (by exact rfl) rfl (fun hq => glv (by exact rfl) (fun h => h) hq)) ?_
   refine r_op rfl rfl rfl (run_mv (v := .bool _) rfl (by exact rfl)) ?_
   refine r_g rfl (wantF (by exact rfl)) rfl (fun hg => run_mvb rfl (by exact rfl)) ?_
   refine r_g rfl (wantF (by exact rfl)) rfl (fun hg => run_not rfl (glv (by exact rfl) (fun h => h) hg)) ?_
   refine r_op rfl rfl rfl (run_pick_or rfl (by exact rfl) rfl (fun hq => glv (by exact rfl) (fun h => h) hq)) ?_
   refine r_op rfl rfl rfl (run_mv (v := .bool _) rfl (by exact rfl)) ?_
   refine r_g rfl (wantF (by exact rfl)) rfl (fun hg => run_mv (v := vs16) rfl (by exact rfl)) ?_
   obtain ⟨ao19, g19, cp19, hv19, hr19, hg19⟩ := hos16.rowOf
   subst hv19
   refine r_gcall rfl (wantF (by exact rfl)) rfl (fun hg => run_callf rfl (argcons (v := .slice _ _ _) (glv (by exact rfl) (fun h => h) hg) (rfl)) Try.func19 rfl (by kernel_rfl)) (fun hg => (validate_calls hr19 (by first | assumption | exact MF.small (by assumption) | exact kf_small | exact small_take (by assumption) _)).mono (fun e w' h => ⟨h.1, h.2⟩)) (fun w20 hE21 => ?_)
   have hs_w20 := (hE21).size
   replace hV := evo_step0 hV hE21
   replace rf := rf0 _ hV
   replace hl := hl0 _ hV
   replace hos4 := hos4.evo0 hE21
   replace hos5 := hos5.evo0 hE21
   replace hr6 := hr6.evo0 hE21
   replace hr7 := hr7.evo0 hE21
   replace hog11 := hog11.evo0 hE21
   replace hr12 := hr12.evo0 hE21
   replace hos16 := hos16.evo0 hE21
   replace hos17 := hos17.evo0 hE21
   replace hos18 := hos18.evo0 hE21
   replace hr19 := hr19.evo0 hE21
   refine r_g rfl (wantF (by exact rfl)) rfl (fun hg => run_neq rfl (glv (by exact rfl) (fun h => h) hg) (by exact rfl)) ?_
   refine r_op rfl rfl rfl (run_pick_or rfl (by exact rfl) rfl (fun hq => glv (by exact rfl) (fun h => h) hq)) ?_
   refine r_op rfl rfl rfl (run_mv (v := .bool _) rfl (by exact rfl)) ?_
   refine r_g rfl (wantF (by exact rfl)) rfl (fun hg => run_mv (v := vs17) rfl (by exact rfl)) ?_
   obtain ⟨ao22, g22, cp22, hv22, hr22, hg22⟩ := hos17.rowOf
   subst hv22
   refine r_gcall rfl (wantF (by exact rfl)) rfl (fun hg => run_callf rfl (argcons (v := .slice _ _ _) (glv (by exact rfl) (fun h => h) hg) (rfl)) Try.func19 rfl (by kernel_rfl)) (fun hg => (validate_calls hr22 (by first | assumption | exact MF.small (by assumption) | exact kf_small | exact small_take (by assumption) _)).mono (fun e w' h => ⟨h.1, h.2⟩)) (fun w23 hE24 => ?_)
   have hs_w23 := (hE24).size
   replace hV := evo_step0 hV hE24
   replace rf := rf0 _ hV
   replace hl := hl0 _ hV
   replace hos4 := hos4.evo0 hE24
   replace hos5 := hos5.evo0 hE24
   replace hr6 := hr6.evo0 hE24
   replace hr7 := hr7.evo0 hE24
   replace hog11 := hog11.evo0 hE24
   replace hr12 := hr12.evo0 hE24
   replace hos16 := hos16.evo0 hE24
   replace hos17 := hos17.evo0 hE24
   replace hos18 := hos18.evo0 hE24
   replace hr19 := hr19.evo0 hE24
   replace hr22 := hr22.evo0 hE24
   refine r_g rfl (wantF (by exact rfl)) rfl (fun hg => run_neq rfl (glv (by exact rfl) (fun h => h) hg) (by exact rfl)) ?_
   refine r_op rfl rfl rfl (run_pick_or rfl (by exact rfl) rfl (fun hq => glv (by exact rfl) (fun h => h) hq)) ?_
   refine r_op rfl rfl rfl (run_mv (v := .bool _) rfl (by exact rfl)) ?_
   refine r_g rfl (wantF (by exact rfl)) rfl (fun hg => run_mv (v := vs18) rfl (by exact rfl)) ?_
   obtain ⟨ao25, g25, cp25, hv25, hr25, hg25⟩ := hos18.rowOf
   subst hv25
   refine r_gcall rfl (wantF (by exact rfl)) rfl (fun hg => run_callf rfl (argcons (v := .slice _ _ _) (glv (by exact rfl) (fun h => h) hg) (rfl)) Try.func19 rfl (by kernel_rfl)) (fun hg => (validate_calls hr25 (by first | assumption | exact MF.small (by assumption) | exact kf_small | exact small_take (by assumption) _)).mono (fun e w' h => ⟨h.1, h.2⟩)) (fun w26 hE27 => ?_)
   have hs_w26 := (hE27).size
   replace hV := evo_step0 hV hE27
   replace rf := rf0 _ hV
   replace hl := hl0 _ hV
   replace hos4 := hos4.evo0 hE27
   replace hos5 := hos5.evo0 hE27
   replace hr6 := hr6.evo0 hE27
   replace hr7 := hr7.evo0 hE27
   replace hog11 := hog11.evo0 hE27
   replace hr12 := hr12.evo0 hE27
   replace hos16 := hos16.evo0 hE27
   replace hos17 := hos17.evo0 hE27
   replace hos18 := hos18.evo0 hE27
   replace hr19 := hr19.evo0 hE27
   replace hr22 := hr22.evo0 hE27
   replace hr25 := hr25.evo0 hE27
   refine r_g rfl (wantF (by exact rfl)) rfl (fun hg => run_neq rfl (glv (by exact rfl) (fun h => h) hg) (by exact rfl)) ?_
   refine r_op rfl rfl rfl (run_pick_or rfl (by exact rfl) rfl (fun hq => glv (by exact rfl) (fun h => h) hq)) ?_
   refine r_op rfl rfl rfl (run_mv (v := .bool _) rfl (by exact rfl)) ?_
   refine r_g rfl (wantF (by exact rfl)) rfl (fun hg => run_mv (v := .slice _ _ _) rfl (by exact rfl)) ?_
   refine r_gcall rfl (wantF (by exact rfl)) rfl (fun hg => run_callf rfl (argcons (v := .slice _ _ _) (glv (by exact rfl) (fun h => h) hg) (rfl)) Try.func25 rfl (by kernel_rfl)) (fun hg => (length_calls hr22 (by first | assumption | exact MF.small (by assumption) | exact kf_small | exact small_take (by assumption) _)).mono (fun e w' h => ⟨h.1, h.2⟩)) (fun w28 hE29 => ?_)
   have hs_w28 := (hE29).size
   replace hV := evo_step0 hV hE29
   replace rf := rf0 _ hV
   replace hl := hl0 _ hV
   replace hos4 := hos4.evo0 hE29
   replace hos5 := hos5.evo0 hE29
   replace hr6 := hr6.evo0 hE29
   replace hr7 := hr7.evo0 hE29
   replace hog11 := hog11.evo0 hE29
   replace hr12 := hr12.evo0 hE29
   replace hos16 := hos16.evo0 hE29
   replace hos17 := hos17.evo0 hE29
   replace hos18 := hos18.evo0 hE29
   replace hr19 := hr19.evo0 hE29
   replace hr22 := hr22.evo0 hE29
   replace hr25 := hr25.evo0 hE29
   refine r_g rfl (wantF (by exact rfl)) rfl (fun hg => run_mv (v := .int _ _) rfl (by exact rfl)) ?_
   refine r_g rfl (wantF (by exact rfl)) rfl (fun hg => run_mv (v := .int _ _) rfl (by exact rfl)) ?_
   refine r_g rfl (wantF (by exact rfl)) rfl (fun hg => run_sub rfl (glv (by exact rfl) (fun h => h) hg) (glv (by exact rfl) (fun h => h) hg) (by omega) (by omega)) ?_
   refine r_g rfl (wantF (by exact rfl)) rfl (fun hg => run_neq rfl (glv (by exact rfl) (fun h => h) hg) (glv (by exact rfl) (fun h => h) hg)) ?_
   refine r_op rfl rfl rfl (run_pick_or rfl (by exact rfl) rfl (fun hq => glv (by exact rfl) (fun h => h) hq)) ?_
   refine r_nil ?_
   refine r_cond (by exact rfl) (fun hc30 => ?_) (fun hc30 => ?_)
   ·skip
    refine r_seq ?_
    refine r_region ?_
    refine r_op rfl rfl rfl (run_asg (v := .bool _) rfl (by exact rfl)) ?_
    refine r_nil ?_
    refine r_ret (res1 (v := .bool _) rfl (by exact rfl)) ?_
    exact absurd hc30 (by rw [v0, v1, v2, hln, e0, e1, e2]; simp)
   ·skip
    refine r_skip ?_
    refine r_seq ?_
    refine r_region ?_
    refine r_op rfl rfl rfl (run_mv (v := .slice _ _ _) rfl (by exact rfl)) ?_
    refine r_op rfl rfl rfl (run_mv (v := .slice _ _ _) rfl (by exact rfl)) ?_
    refine r_opcall rfl rfl rfl (run_callf (vs := [.slice _ _ _, .slice _ _ _]) rfl (by exact rfl) Try.func32 rfl (by kernel_rfl)) (concat_calls hr19 hr22 (by assumption)) ?_
    rintro e w31 ⟨vn31, rfl, hE31, hon31⟩
    refine ⟨_, rfl, ?_⟩
    have hs_w31 := (hE31).size
    replace hV := evo_step0 hV hE31
    replace rf := rf0 _ hV
    replace hl := hl0 _ hV
    replace hos4 := hos4.evo0 hE31
    replace hos5 := hos5.evo0 hE31
    replace hr6 := hr6.evo0 hE31
    replace hr7 := hr7.evo0 hE31
    replace hog11 := hog11.evo0 hE31
    replace hr12 := hr12.evo0 hE31
    replace hos16 := hos16.evo0 hE31
    replace hos17 := hos17.evo0 hE31
    replace hos18 := hos18.evo0 hE31
    replace hr19 := hr19.evo0 hE31
    replace hr22 := hr22.evo0 hE31
    replace hr25 := hr25.evo0 hE31
    refine r_op rfl rfl rfl (run_mv (v := .slice _ _ _) rfl (by exact rfl)) ?_
    obtain ⟨ao32, g32, cp32, hv32, hr32, hg32⟩ := hon31.rowOf
    subst hv32
    refine r_opcall rfl rfl rfl (run_callf (vs := [.slice _ _ _, .slice _ _ _]) rfl (by exact rfl) Try.func32 rfl (by kernel_rfl)) (concat_calls hr32 hr25 (by assumption)) ?_
    rintro e w33 ⟨vn33, rfl, hE33, hon33⟩
    refine ⟨_, rfl, ?_⟩
    have hs_w33 := (hE33).size
    replace hV := evo_step0 hV hE33
    replace rf := rf0 _ hV
    replace hl := hl0 _ hV
    replace hos4 := hos4.evo0 hE33
    replace hos5 := hos5.evo0 hE33
    replace hr6 := hr6.evo0 hE33
    replace hr7 := hr7.evo0 hE33
    replace hog11 := hog11.evo0 hE33
    replace hr12 := hr12.evo0 hE33
    replace hos16 := hos16.evo0 hE33
    replace hos17 := hos17.evo0 hE33
    replace hos18 := hos18.evo0 hE33
    replace hr19 := hr19.evo0 hE33
    replace hr22 := hr22.evo0 hE33
    replace hr25 := hr25.evo0 hE33
    replace hon31 := hon31.evo0 hE33
    replace hr32 := hr32.evo0 hE33
    refine r_op rfl rfl rfl (run_mv (v := .slice _ _ _) rfl (by exact rfl)) ?_
    obtain ⟨ao34, g34, cp34, hv34, hr34, hg34⟩ := hon33.rowOf
    subst hv34
    refine r_opcall rfl rfl rfl (run_callf (vs := [.slice _ _ _, .slice _ _ _]) rfl (by exact rfl) Try.func31 rfl (by kernel_rfl)) (same_calls hr34 hr12) ?_
    rintro e w35 ⟨rfl, hE35⟩
    refine ⟨_, rfl, ?_⟩
    have hs_w35 := (hE35).size
    replace hV := evo_step0 hV hE35
    replace rf := rf0 _ hV
    replace hl := hl0 _ hV
    replace hos4 := hos4.evo0 hE35
    replace hos5 := hos5.evo0 hE35
    replace hr6 := hr6.evo0 hE35
    replace hr7 := hr7.evo0 hE35
    replace hog11 := hog11.evo0 hE35
    replace hr12 := hr12.evo0 hE35
    replace hos16 := hos16.evo0 hE35
    replace hos17 := hos17.evo0 hE35
    replace hos18 := hos18.evo0 hE35
    replace hr19 := hr19.evo0 hE35
    replace hr22 := hr22.evo0 hE35
    replace hr25 := hr25.evo0 hE35
    replace hon31 := hon31.evo0 hE35
    replace hr32 := hr32.evo0 hE35
    replace hon33 := hon33.evo0 hE35
    replace hr34 := hr34.evo0 hE35
    refine r_op rfl rfl rfl (run_mv (v := .bool _) rfl (by exact rfl)) ?_
    refine r_g rfl (wantT (by exact rfl)) rfl (fun hg => run_mv (v := .slice _ _ _) rfl (by exact rfl)) ?_
    refine r_gcall rfl (wantT (by exact rfl)) rfl (fun hg => run_callf rfl (argcons (v := .slice _ _ _) (glv (by exact rfl) (fun h => h) hg) (rfl)) Try.func33 rfl (by kernel_rfl)) (fun hg => (plain_calls hr19 (by first | assumption | exact MF.small (by assumption) | exact kf_small | exact small_take (by assumption) _)).mono (fun e w' h => ⟨h.1, h.2⟩)) (fun w36 hE37 => ?_)
    have hs_w36 := (hE37).size
    replace hV := evo_step0 hV hE37
    replace rf := rf0 _ hV
    replace hl := hl0 _ hV
    replace hos4 := hos4.evo0 hE37
    replace hos5 := hos5.evo0 hE37
    replace hr6 := hr6.evo0 hE37
    replace hr7 := hr7.evo0 hE37
    replace hog11 := hog11.evo0 hE37
    replace hr12 := hr12.evo0 hE37
    replace hos16 := hos16.evo0 hE37
    replace hos17 := hos17.evo0 hE37
    replace hos18 := hos18.evo0 hE37
    replace hr19 := hr19.evo0 hE37
    replace hr22 := hr22.evo0 hE37
    replace hr25 := hr25.evo0 hE37
    replace hon31 := hon31.evo0 hE37
    replace hr32 := hr32.evo0 hE37
    replace hon33 := hon33.evo0 hE37
    replace hr34 := hr34.evo0 hE37
    refine r_g rfl (wantT (by exact rfl)) rfl (fun hg => run_mv (v := .slice _ _ _) rfl (by exact rfl)) ?_
    refine r_gcall rfl (wantT (by exact rfl)) rfl (fun hg => run_callf rfl (argcons (v := .slice _ _ _) (glv (by exact rfl) (fun h => h) hg) (rfl)) Try.func33 rfl (by kernel_rfl)) (fun hg => (plain_calls hr22 (by first | assumption | exact MF.small (by assumption) | exact kf_small | exact small_take (by assumption) _)).mono (fun e w' h => ⟨h.1, h.2⟩)) (fun w38 hE39 => ?_)
    have hs_w38 := (hE39).size
    replace hV := evo_step0 hV hE39
    replace rf := rf0 _ hV
    replace hl := hl0 _ hV
    replace hos4 := hos4.evo0 hE39
    replace hos5 := hos5.evo0 hE39
    replace hr6 := hr6.evo0 hE39
    replace hr7 := hr7.evo0 hE39
    replace hog11 := hog11.evo0 hE39
    replace hr12 := hr12.evo0 hE39
    replace hos16 := hos16.evo0 hE39
    replace hos17 := hos17.evo0 hE39
    replace hos18 := hos18.evo0 hE39
    replace hr19 := hr19.evo0 hE39
    replace hr22 := hr22.evo0 hE39
    replace hr25 := hr25.evo0 hE39
    replace hon31 := hon31.evo0 hE39
    replace hr32 := hr32.evo0 hE39
    replace hon33 := hon33.evo0 hE39
    replace hr34 := hr34.evo0 hE39
    refine r_g rfl (wantT (by exact rfl)) rfl (fun hg => run_sadd rfl (glv (by exact rfl) (fun h => h) hg) (glv (by exact rfl) (fun h => h) hg) (by first | omega | (simp; omega))) ?_
    refine r_g rfl (wantT (by exact rfl)) rfl (fun hg => run_mv (v := .slice _ _ _) rfl (by exact rfl)) ?_
    refine r_gcall rfl (wantT (by exact rfl)) rfl (fun hg => run_callf rfl (argcons (v := .slice _ _ _) (glv (by exact rfl) (fun h => h) hg) (rfl)) Try.func33 rfl (by kernel_rfl)) (fun hg => (plain_calls hr25 (by first | assumption | exact MF.small (by assumption) | exact kf_small | exact small_take (by assumption) _)).mono (fun e w' h => ⟨h.1, h.2⟩)) (fun w40 hE41 => ?_)
    have hs_w40 := (hE41).size
    replace hV := evo_step0 hV hE41
    replace rf := rf0 _ hV
    replace hl := hl0 _ hV
    replace hos4 := hos4.evo0 hE41
    replace hos5 := hos5.evo0 hE41
    replace hr6 := hr6.evo0 hE41
    replace hr7 := hr7.evo0 hE41
    replace hog11 := hog11.evo0 hE41
    replace hr12 := hr12.evo0 hE41
    replace hos16 := hos16.evo0 hE41
    replace hos17 := hos17.evo0 hE41
    replace hos18 := hos18.evo0 hE41
    replace hr19 := hr19.evo0 hE41
    replace hr22 := hr22.evo0 hE41
    replace hr25 := hr25.evo0 hE41
    replace hon31 := hon31.evo0 hE41
    replace hr32 := hr32.evo0 hE41
    replace hon33 := hon33.evo0 hE41
    replace hr34 := hr34.evo0 hE41
    refine r_g rfl (wantT (by exact rfl)) rfl (fun hg => run_sadd rfl (glv (by exact rfl) (fun h => h) hg) (glv (by exact rfl) (fun h => h) hg) (by first | omega | (simp; omega))) ?_
    refine r_g rfl (wantT (by exact rfl)) rfl (fun hg => run_mv (v := .slice _ _ _) rfl (by exact rfl)) ?_
    refine r_gcall rfl (wantT (by exact rfl)) rfl (fun hg => run_callf rfl (argcons (v := .slice _ _ _) (glv (by exact rfl) (fun h => h) hg) (rfl)) Try.func33 rfl (by kernel_rfl)) (fun hg => (plain_calls hr12 (by first | assumption | exact MF.small (by assumption) | exact kf_small | exact small_take (by assumption) _)).mono (fun e w' h => ⟨h.1, h.2⟩)) (fun w42 hE43 => ?_)
    have hs_w42 := (hE43).size
    replace hV := evo_step0 hV hE43
    replace rf := rf0 _ hV
    replace hl := hl0 _ hV
    replace hos4 := hos4.evo0 hE43
    replace hos5 := hos5.evo0 hE43
    replace hr6 := hr6.evo0 hE43
    replace hr7 := hr7.evo0 hE43
    replace hog11 := hog11.evo0 hE43
    replace hr12 := hr12.evo0 hE43
    replace hos16 := hos16.evo0 hE43
    replace hos17 := hos17.evo0 hE43
    replace hos18 := hos18.evo0 hE43
    replace hr19 := hr19.evo0 hE43
    replace hr22 := hr22.evo0 hE43
    replace hr25 := hr25.evo0 hE43
    replace hon31 := hon31.evo0 hE43
    replace hr32 := hr32.evo0 hE43
    replace hon33 := hon33.evo0 hE43
    replace hr34 := hr34.evo0 hE43
    refine r_g rfl (wantT (by exact rfl)) rfl (fun hg => run_seql rfl (glv (by exact rfl) (fun h => h) hg) (glv (by exact rfl) (fun h => h) hg)) ?_
    refine r_op rfl rfl rfl (run_pick_and rfl (by exact rfl) (fun hq => glv (by exact rfl) (fun h => h) hq) rfl) ?_
    refine r_op rfl rfl rfl (run_mv (v := .bool _) rfl (by exact rfl)) ?_
    refine r_gcall rfl (wantT (by exact rfl)) rfl (fun hg => run_callf rfl (rfl) Try.func21 rfl (by kernel_rfl)) (fun hg => (known_calls ).mono (fun e w' h => ⟨h.1, h.2⟩)) (fun w44 hE45 => ?_)
    have hs_w44 := (hE45).size
    replace hV := evo_step0 hV hE45
    replace rf := rf0 _ hV
    replace hl := hl0 _ hV
    replace hos4 := hos4.evo0 hE45
    replace hos5 := hos5.evo0 hE45
    replace hr6 := hr6.evo0 hE45
    replace hr7 := hr7.evo0 hE45
    replace hog11 := hog11.evo0 hE45
    replace hr12 := hr12.evo0 hE45
    replace hos16 := hos16.evo0 hE45
    replace hos17 := hos17.evo0 hE45
    replace hos18 := hos18.evo0 hE45
    replace hr19 := hr19.evo0 hE45
    replace hr22 := hr22.evo0 hE45
    replace hr25 := hr25.evo0 hE45
    replace hon31 := hon31.evo0 hE45
    replace hr32 := hr32.evo0 hE45
    replace hon33 := hon33.evo0 hE45
    replace hr34 := hr34.evo0 hE45
    refine r_op rfl rfl rfl (run_pick_and rfl (by exact rfl) (fun hq => glv (by exact rfl) (fun h => h) hq) rfl) ?_
    refine r_op rfl rfl rfl (run_asg (v := .bool _) rfl (by exact rfl)) ?_
    refine r_nil ?_
    refine r_ret (res1 (v := .bool _) rfl (by exact rfl)) ?_
    exact ⟨ret_bool (decide_eq_true ⟨⟨hjn, hjp⟩, trivial⟩), hV⟩

end Go.Proofs.Ytkdgoghmkmpfnaa
