import Derived.Test.YtkdgoghmkmpfnaaW26
namespace Go.Proofs.Ytkdgoghmkmpfnaa
open Go.RowKit Go.Vc

theorem compatible_callsD {aoa aob : Option Addr} {ba offa capa bb offb capb : Nat} {a b : List Vc.Item} {w0 : World} (ha : RowE w0 aoa ba offa capa a) (hb : RowE w0 aob bb offb capb b) (hsa : Small a) (hsb : Small b) : Calls Try.prog 45 #[.slice aoa a.length capa, .slice aob b.length capb] w0 fun e w' => e = .returned (.bool (decide (compatL a b = true))) ∧ Evo w0 w' [] :=
  (compatible_calls ha hb hsa hsb).mono fun e w' h => ⟨h.1.trans (by rw [Bool.decide_eq_true]), h.2⟩

theorem rcompatible_callsD {aoa aob : Option Addr} {ba offa capa bb offb capb : Nat} {a b : List Vc.Item} {w0 : World} (ha : RowE w0 aoa ba offa capa a) (hb : RowE w0 aob bb offb capb b) (hsa : Small a) (hsb : Small b) : Calls Try.prog 46 #[.slice aoa a.length capa, .slice aob b.length capb] w0 fun e w' => e = .returned (.bool (decide (compatL a b = true))) ∧ Evo w0 w' [] :=
  (rcompatible_calls ha hb hsa hsb).mono fun e w' h => ⟨h.1.trans (by rw [Bool.decide_eq_true]), h.2⟩

theorem fits_law {aof : Option Addr} {bf offf capf : Nat} {f : List Vc.Item} {aou : Option Addr} {bu offu capu : Nat} {u : List Vc.Item} {aol : Option Addr} {bl offl capl : Nat} {l : List Int} {aom : Option Addr} {bm offm capm : Nat} {m : List Int} {w0 : World} (rf : RowE w0 aof bf offf capf f) (htf : ∀ x ∈ f, x.text.length ≤ reachBytes) (ru : RowE w0 aou bu offu capu u) (htu : ∀ x ∈ u, x.text.length ≤ reachBytes) (rl : RowE w0 aol bl offl capl l) (rm : RowE w0 aom bm offm capm m) :
    Calls Try.prog 13 #[.slice aof f.length capf, .slice aou u.length capu, .slice aol l.length capl, .slice aom m.length capm] w0 fun e w' => e = .returned (.bool true) ∧ Evo w0 w' [] := by
 refine calls_enter (n := 70) (args := [.slice aof f.length capf, .slice aou u.length capu, .slice aol l.length capl, .slice aom m.length capm]) Try.func13 rfl Try.ntmps13 rfl ?_
 have hV : Evo w0 w0 [] := Evo.refl _ _
 have rf0 := keepE rf
 have hbd_rf := rf.bd
 have ru0 := keepE ru
 have hbd_ru := ru.bd
 have rl0 := keepE rl
 have hbd_rl := rl.bd
 have rm0 := keepE rm
 have hbd_rm := rm.bd
 refine r_seq ?_
 refine r_region ?_
 refine r_op rfl rfl rfl (run_asg (v := .bool _) rfl (by exact rfl)) ?_
 refine r_nil ?_
 refine r_seq ?_
 refine r_seq ?_
 refine r_region ?_
 refine r_op rfl rfl rfl (run_mv (v := .slice _ _ _) rfl (by exact rfl)) ?_
 refine r_opcall rfl rfl rfl (run_callf (vs := [.slice _ _ _]) rfl (by exact rfl) Try.func22 rfl (by kernel_rfl)) (few_calls rf (texts_at htf)) ?_
 rintro e w1 ⟨lx1, rfl, hlx1, hE1⟩
 refine ⟨_, rfl, ?_⟩
 have hs_w1 := (hE1).size
 replace hV := evo_step0 hV hE1
 replace rf := rf0 _ hV
 replace ru := ru0 _ hV
 replace rl := rl0 _ hV
 replace rm := rm0 _ hV
 refine r_op rfl rfl rfl (run_notb rfl (by exact rfl)) ?_
 refine r_op rfl rfl rfl (run_mvb rfl (by exact rfl)) ?_
 refine r_g rfl (wantF (by exact rfl)) rfl (fun hg => run_mv (v := .slice _ _ _) rfl (by exact rfl)) ?_
 refine r_gcallB rfl (wantF (by exact rfl)) rfl (fun hg => run_callf rfl (argcons (v := .slice _ _ _) (glv (by exact rfl) (fun h => h) hg) (rfl)) Try.func22 rfl (by kernel_rfl)) (fun hg => (few_calls ru (texts_at htu))) ?_
 intro gx4 w2 hgx4 hE3
 have hs_w2 := (hE3).size
 replace hV := evo_step0 hV hE3
 replace rf := rf0 _ hV
 replace ru := ru0 _ hV
 replace rl := rl0 _ hV
 replace rm := rm0 _ hV
 refine r_g rfl (wantF (by exact rfl)) rfl (fun hg => run_not rfl (glv (by exact rfl) (fun h => h) hg)) ?_
 refine r_op rfl rfl rfl (run_pick_or rfl (by exact rfl) rfl (fun hq => glv (by exact rfl) (fun h => h) hq)) ?_
 refine r_op rfl rfl rfl (run_mv (v := .bool _) rfl (by exact rfl)) ?_
 refine r_g rfl (wantF (by exact rfl)) rfl (fun hg => run_mv (v := .slice _ _ _) rfl (by exact rfl)) ?_
 refine r_g rfl (wantF (by exact rfl)) rfl (fun hg => run_lenSl rfl (glv (by exact rfl) (fun h => h) hg) Try.underlying24) ?_
 refine r_g rfl (wantF (by exact rfl)) rfl (fun hg => run_gtr rfl (glv (by exact rfl) (fun h => h) hg) (by exact rfl)) ?_
 refine r_op rfl rfl rfl (run_pick_or rfl (by exact rfl) rfl (fun hq => glv (by exact rfl) (fun h => h) hq)) ?_
 refine r_op rfl rfl rfl (run_mv (v := .bool _) rfl (by exact rfl)) ?_
 refine r_g rfl (wantF (by exact rfl)) rfl (fun hg => run_mv (v := .slice _ _ _) rfl (by exact rfl)) ?_
 refine r_g rfl (wantF (by exact rfl)) rfl (fun hg => run_lenSl rfl (glv (by exact rfl) (fun h => h) hg) Try.underlying24) ?_
 refine r_g rfl (wantF (by exact rfl)) rfl (fun hg => run_gtr rfl (glv (by exact rfl) (fun h => h) hg) (by exact rfl)) ?_
 refine r_op rfl rfl rfl (run_pick_or rfl (by exact rfl) rfl (fun hq => glv (by exact rfl) (fun h => h) hq)) ?_
 refine r_nil ?_
 refine r_cond (by exact rfl) (fun hc5 => ?_) (fun hc5 => ?_)
 ·skip
  refine r_seq ?_
  refine r_region ?_
  refine r_opcall rfl rfl rfl (run_callf (vs := []) rfl (by exact rfl) Try.func21 rfl (by kernel_rfl)) known_calls ?_
  rintro e w6 ⟨rfl, hE6⟩
  refine ⟨_, rfl, ?_⟩
  have hs_w6 := (hE6).size
  replace hV := evo_step0 hV hE6
  replace rf := rf0 _ hV
  replace ru := ru0 _ hV
  replace rl := rl0 _ hV
  replace rm := rm0 _ hV
  refine r_op rfl rfl rfl (run_asg (v := .bool _) rfl (by exact rfl)) ?_
  refine r_nil ?_
  refine r_ret (res1 (v := .bool _) rfl (by exact rfl)) ?_
  exact ⟨rfl, hV⟩
 ·skip
  refine r_skip ?_
  refine r_seq ?_
  have b1 := hlx1 (by simp_all); have b2 := hgx4 (by simp_all) (by simp_all)
  have s1 : Small f := few_small b1; have s2 : Small u := few_small b2
  refine r_region ?_
  refine r_op rfl rfl rfl (run_mv (v := .slice _ _ _) rfl (by exact rfl)) ?_
  refine r_opcall rfl rfl rfl (run_callf (vs := [.slice _ _ _, .bool _, .bool _]) rfl (by exact rfl) Try.func23 rfl (by kernel_rfl)) (made_calls rl) ?_
  rintro e w7 ⟨vg7, mf7, rfl, hM7, hE7, hog7⟩
  refine ⟨_, rfl, ?_⟩
  have hs_w7 := (hE7).size
  replace hV := evo_step0 hV hE7
  replace rf := rf0 _ hV
  replace ru := ru0 _ hV
  replace rl := rl0 _ hV
  replace rm := rm0 _ hV
  refine r_op rfl rfl rfl (run_asg (v := vg7) rfl (by exact rfl)) ?_
  refine r_nil ?_
  refine r_seq ?_
  have hmf := hM7; have hml := hmf.len; have hms := hmf.size; have hsv := hmf.small
  have hI : Evo w7 w7 [] := Evo.refl _ _
  obtain ⟨ao8, g8, cp8, hv8, hr8, hg8⟩ := hog7.rowOf
  subst hv8
  have hr80 := keepE hr8
  refine r_region ?_
  refine r_op rfl rfl rfl (run_mv (v := .slice _ _ _) rfl (by exact rfl)) ?_
  refine r_op rfl rfl rfl (run_bld (pv := [(0, .slice _ _ _)]) (zs := [_, _]) (cells := [_, _]) rfl ty_38 (by exact rfl) pl_38 (by exact rfl) (by exact rfl)) ?_
  refine r_box (vs := [_, _]) (by exact rfl) (by exact rfl) rfl ?_
  intro b9 w10 heb9 hEw10 hbb9 hzb9
  have hs_w10 := (hEw10).size
  replace hV := evo_step0 hV hEw10
  replace hI := evo_step0 hI hEw10
  replace rf := rf0 _ hV
  replace ru := ru0 _ hV
  replace rl := rl0 _ hV
  replace rm := rm0 _ hV
  replace hr8 := hr80 _ hI
  have hAb9 := hbb9.at
  refine r_op rfl rfl rfl (run_mv (v := .slice _ _ _) rfl (by exact rfl)) ?_
  refine r_opcall rfl rfl rfl (run_callf (vs := [.pointer _, .slice _ _ _]) rfl (by exact rfl) Try.func44 rfl (by kernel_rfl)) (target_calls (N := 0) (show Blk _ _ _ [_, .int .i64 ((0 : Nat) : Int)] from hbb9) (fun w9 h9 => rm0 _ (evo_step1 hV h9 (.inl (by omega)))) (by omega) (fun w9 h9 => hr80 _ (evo_step1 hI h9 (.inl (by omega)))) (by omega) (by omega)) ?_
  rintro e w11 ⟨vt11, tf11, Nt11, rfl, hT11, hNt11, hE11, hn11, hot11⟩
  refine ⟨_, rfl, ?_⟩
  have hs_w11 := (hE11).size
  replace hV := evo_step1 hV hE11 (by first | exact .inl (by omega) | exact .inr (by simp))
  replace hI := evo_step1 hI hE11 (by first | exact .inl (by omega) | exact .inr (by simp))
  replace rf := rf0 _ hV
  replace ru := ru0 _ hV
  replace rl := rl0 _ hV
  replace rm := rm0 _ hV
  replace hr8 := hr80 _ hI
  replace hbb9 := hn11
  clear hn11
  have hAb9 := hbb9.at
  refine r_op rfl rfl rfl (run_asg (v := vt11) rfl (by exact rfl)) ?_
  refine r_nil ?_
  refine r_seq ?_
  have ht1 := hT11.1; have ht2 := hT11.2.1; have ht3 := hT11.2.2; have hts : Small tf11 := ⟨by omega, by omega⟩
  have hc1 : compatL mf7 tf11 = (shapeL mf7).isSome := compat_skel ht1.symm; have hc2 : compatL tf11 mf7 = (shapeL mf7).isSome := (compat_skel ht1).trans (by rw [← shape_skel tf11, ht1, shape_skel])
  refine r_region ?_
  refine r_op rfl rfl rfl (run_mv (v := .slice _ _ _) rfl (by exact rfl)) ?_
  refine r_opcall rfl rfl rfl (run_callf (vs := [.slice _ _ _]) rfl (by exact rfl) Try.func27 rfl (by kernel_rfl)) (rshape_calls hr8 (by first | assumption | exact MF.small (by assumption) | exact kf_small | exact small_take (by assumption) _)) ?_
  rintro e w12 ⟨vp12, vq12, rfl, hE12, hop12, hoq12⟩
  refine ⟨_, rfl, ?_⟩
  have hs_w12 := (hE12).size
  replace hV := evo_step0 hV hE12
  replace hI := evo_step0 hI hE12
  replace rf := rf0 _ hV
  replace ru := ru0 _ hV
  replace rl := rl0 _ hV
  replace rm := rm0 _ hV
  replace hr8 := hr80 _ hI
  replace hot11 := hot11.evo0 hE12
  refine r_op rfl rfl rfl (run_mv (v := .tuple _) rfl (by exact rfl)) ?_
  refine r_op rfl rfl rfl (run_extract (v := vp12) rfl (by exact rfl) (by exact rfl)) ?_
  refine r_op rfl rfl rfl (run_extract (v := vq12) rfl (by exact rfl) (by exact rfl)) ?_
  refine r_op rfl rfl rfl (run_extract (v := .bool _) rfl (by exact rfl) (by exact rfl)) ?_
  refine r_op rfl rfl rfl (run_asg (v := vp12) rfl (by exact rfl)) ?_
  refine r_op rfl rfl rfl (run_asg (v := vq12) rfl (by exact rfl)) ?_
  refine r_op rfl rfl rfl (run_asg (v := .bool _) rfl (by exact rfl)) ?_
  refine r_nil ?_
  refine r_seq ?_
  refine r_region ?_
  refine r_op rfl rfl rfl (run_mv (v := .slice _ _ _) rfl (by exact rfl)) ?_
  refine r_op rfl rfl rfl (run_mv (v := .slice _ _ _) rfl (by exact rfl)) ?_
  refine r_opcall rfl rfl rfl (run_callf (vs := [.slice _ _ _, .slice _ _ _]) rfl (by exact rfl) Try.func45 rfl (by kernel_rfl)) (compatible_callsD rf ru (by first | assumption | exact MF.small (by assumption) | exact kf_small | exact small_take (by assumption) _) (by first | assumption | exact MF.small (by assumption) | exact kf_small | exact small_take (by assumption) _)) ?_
  rintro e w13 ⟨rfl, hE13⟩
  refine ⟨_, rfl, ?_⟩
  have hs_w13 := (hE13).size
  replace hV := evo_step0 hV hE13
  replace hI := evo_step0 hI hE13
  replace rf := rf0 _ hV
  replace ru := ru0 _ hV
  replace rl := rl0 _ hV
  replace rm := rm0 _ hV
  replace hr8 := hr80 _ hI
  replace hot11 := hot11.evo0 hE13
  replace hop12 := hop12.evo0 hE13
  replace hoq12 := hoq12.evo0 hE13
  refine r_op rfl rfl rfl (run_mv (v := .slice _ _ _) rfl (by exact rfl)) ?_
  refine r_op rfl rfl rfl (run_mv (v := .slice _ _ _) rfl (by exact rfl)) ?_
  refine r_opcall rfl rfl rfl (run_callf (vs := [.slice _ _ _, .slice _ _ _]) rfl (by exact rfl) Try.func46 rfl (by kernel_rfl)) (rcompatible_callsD rf ru (by first | assumption | exact MF.small (by assumption) | exact kf_small | exact small_take (by assumption) _) (by first | assumption | exact MF.small (by assumption) | exact kf_small | exact small_take (by assumption) _)) ?_
  rintro e w14 ⟨rfl, hE14⟩
  refine ⟨_, rfl, ?_⟩
  have hs_w14 := (hE14).size
  replace hV := evo_step0 hV hE14
  replace hI := evo_step0 hI hE14
  replace rf := rf0 _ hV
  replace ru := ru0 _ hV
  replace rl := rl0 _ hV
  replace rm := rm0 _ hV
  replace hr8 := hr80 _ hI
  replace hot11 := hot11.evo0 hE14
  replace hop12 := hop12.evo0 hE14
  replace hoq12 := hoq12.evo0 hE14
  refine r_op rfl rfl rfl (run_beql rfl Try.underlying4 (by exact rfl) (by exact rfl)) ?_
  refine r_op rfl rfl rfl (run_mv (v := .bool _) rfl (by exact rfl)) ?_
  refine r_gyes rfl (wantT (by exact rfl)) (by exact Iff.rfl) ?_
  refine r_op rfl rfl rfl (run_mv (v := .slice _ _ _) rfl (by exact rfl)) ?_
  refine r_gyes rfl (wantT (by exact rfl)) (by exact Iff.rfl) ?_
  refine r_op rfl rfl rfl (run_mv (v := vt11) rfl (by exact rfl)) ?_
  refine r_gyes rfl (wantT (by exact rfl)) (by exact Iff.rfl) ?_
  obtain ⟨ao15, g15, cp15, hv15, hr15, hg15⟩ := hot11.rowOf
  subst hv15
  refine r_opcall rfl rfl rfl (run_callf (vs := [.slice _ _ _, .slice _ _ _]) rfl (by exact rfl) Try.func45 rfl (by kernel_rfl)) (compatible_callsD hr8 hr15 (by first | assumption | exact MF.small (by assumption) | exact kf_small | exact small_take (by assumption) _) (by first | assumption | exact MF.small (by assumption) | exact kf_small | exact small_take (by assumption) _)) ?_
  rintro e w16 ⟨rfl, hE16⟩
  refine ⟨_, rfl, ?_⟩
  have hs_w16 := (hE16).size
  replace hV := evo_step0 hV hE16
  replace hI := evo_step0 hI hE16
  replace rf := rf0 _ hV
  replace ru := ru0 _ hV
  replace rl := rl0 _ hV
  replace rm := rm0 _ hV
  replace hr8 := hr80 _ hI
  replace hot11 := hot11.evo0 hE16
  replace hop12 := hop12.evo0 hE16
  replace hoq12 := hoq12.evo0 hE16
  replace hr15 := hr15.evo0 hE16
  refine r_gyes rfl (wantT (by exact rfl)) (by exact Iff.rfl) ?_
  refine r_op rfl rfl rfl (run_mvb rfl (by exact rfl)) ?_
  refine r_gyes rfl (wantT (by exact rfl)) (by exact Iff.rfl) ?_
  refine r_op rfl rfl rfl (run_beql rfl Try.underlying4 (by exact rfl) (by exact rfl)) ?_
  refine r_op rfl rfl rfl (run_pick_and rfl (by exact rfl) (fun _ => (by exact rfl)) rfl) ?_
  refine r_op rfl rfl rfl (run_mv (v := .bool _) rfl (by exact rfl)) ?_
  refine r_gyes rfl (wantT (by exact rfl)) (by exact ⟨Iff.rfl, (by rw [hc1])⟩) ?_
  refine r_op rfl rfl rfl (run_mv (v := .slice _ _ _) rfl (by exact rfl)) ?_
  refine r_gyes rfl (wantT (by exact rfl)) (by exact ⟨Iff.rfl, (by rw [hc1])⟩) ?_
  refine r_op rfl rfl rfl (run_mv (v := .slice _ _ _) rfl (by exact rfl)) ?_
  refine r_gyes rfl (wantT (by exact rfl)) (by exact ⟨Iff.rfl, (by rw [hc1])⟩) ?_
  refine r_opcall rfl rfl rfl (run_callf (vs := [.slice _ _ _, .slice _ _ _]) rfl (by exact rfl) Try.func45 rfl (by kernel_rfl)) (compatible_callsD hr15 hr8 (by first | assumption | exact MF.small (by assumption) | exact kf_small | exact small_take (by assumption) _) (by first | assumption | exact MF.small (by assumption) | exact kf_small | exact small_take (by assumption) _)) ?_
  rintro e w17 ⟨rfl, hE17⟩
  refine ⟨_, rfl, ?_⟩
  have hs_w17 := (hE17).size
  replace hV := evo_step0 hV hE17
  replace hI := evo_step0 hI hE17
  replace rf := rf0 _ hV
  replace ru := ru0 _ hV
  replace rl := rl0 _ hV
  replace rm := rm0 _ hV
  replace hr8 := hr80 _ hI
  replace hot11 := hot11.evo0 hE17
  replace hop12 := hop12.evo0 hE17
  replace hoq12 := hoq12.evo0 hE17
  replace hr15 := hr15.evo0 hE17
  refine r_gyes rfl (wantT (by exact rfl)) (by exact ⟨Iff.rfl, (by rw [hc1])⟩) ?_
  refine r_op rfl rfl rfl (run_mvb rfl (by exact rfl)) ?_
  refine r_gyes rfl (wantT (by exact rfl)) (by exact ⟨Iff.rfl, (by rw [hc1])⟩) ?_
  refine r_op rfl rfl rfl (run_beql rfl Try.underlying4 (by exact rfl) (by exact rfl)) ?_
  refine r_op rfl rfl rfl (run_pick_and rfl (by exact rfl) (fun _ => (by exact rfl)) rfl) ?_
  refine r_op rfl rfl rfl (run_mv (v := .bool _) rfl (by exact rfl)) ?_
  refine r_gyes rfl (wantT (by exact rfl)) (by exact ⟨⟨Iff.rfl, (by rw [hc1])⟩, (by rw [hc2])⟩) ?_
  refine r_opcall rfl rfl rfl (run_callf (vs := []) rfl (by exact rfl) Try.func21 rfl (by kernel_rfl)) known_calls ?_
  rintro e w18 ⟨rfl, hE18⟩
  refine ⟨_, rfl, ?_⟩
  have hs_w18 := (hE18).size
  replace hV := evo_step0 hV hE18
  replace hI := evo_step0 hI hE18
  replace rf := rf0 _ hV
  replace ru := ru0 _ hV
  replace rl := rl0 _ hV
  replace rm := rm0 _ hV
  replace hr8 := hr80 _ hI
  replace hot11 := hot11.evo0 hE18
  replace hop12 := hop12.evo0 hE18
  replace hoq12 := hoq12.evo0 hE18
  replace hr15 := hr15.evo0 hE18
  refine r_op rfl rfl rfl (run_pick_and rfl (by exact rfl) (fun _ => (by exact rfl)) rfl) ?_
  refine r_op rfl rfl rfl (run_asg (v := .bool _) rfl (by exact rfl)) ?_
  refine r_nil ?_
  refine r_ret (res1 (v := .bool _) rfl (by exact rfl)) ?_
  exact ⟨ret_bool (decide_eq_true (by rw [hc1, hc2]; simp)), hV⟩

end Go.Proofs.Ytkdgoghmkmpfnaa
