import Derived.Test.YtkdgoghmkmpfnaaW6
namespace Go.Proofs.Ytkdgoghmkmpfnaa
open Go.RowKit Go.Vc

theorem texts_at {f : List Vc.Item} (h : ∀ x ∈ f, x.text.length ≤ reachBytes) (k : Nat) : (f.getD k default).text.length ≤ 140737488355328 := by
  rcases Nat.lt_or_ge k f.length with h1 | h1
  · have e : f.getD k default = f[k] := by simp [List.getD, h1]
    rw [e]
    have := h _ (List.getElem_mem h1)
    have h5 := reachBytes_lt
    omega
  · have e : f.getD k default = default := by simp [List.getD, List.getElem?_eq_none h1]
    rw [e]; exact Nat.zero_le _
theorem small_app {a b : List Vc.Item} (h1 : a.length ≤ 1000) (h2 : b.length ≤ 1000) (h3 : sizeL a ≤ 10000) (h4 : sizeL b ≤ 10000) : Small (a ++ b) := ⟨by rw [List.length_append]; omega, by rw [sizeL_append]; omega⟩

theorem concats_law {aof : Option Addr} {bf offf capf : Nat} {f : List Vc.Item} {aog : Option Addr} {bg offg capg : Nat} {g : List Vc.Item} {aoh : Option Addr} {bh offh caph : Nat} {h : List Vc.Item} {w0 : World} (rf : RowE w0 aof bf offf capf f) (htf : ∀ x ∈ f, x.text.length ≤ reachBytes) (rg : RowE w0 aog bg offg capg g) (htg : ∀ x ∈ g, x.text.length ≤ reachBytes) (rh : RowE w0 aoh bh offh caph h) (hth : ∀ x ∈ h, x.text.length ≤ reachBytes) :
    Calls Try.prog 9 #[.slice aof f.length capf, .slice aog g.length capg, .slice aoh h.length caph] w0 fun e w' => e = .returned (.bool true) ∧ Evo w0 w' [] := by
 refine calls_enter (n := 72) (args := [.slice aof f.length capf, .slice aog g.length capg, .slice aoh h.length caph]) Try.func9 rfl Try.ntmps9 rfl ?_
 have hV : Evo w0 w0 [] := Evo.refl _ _
 have rf0 := keepE rf
 have hbd_rf := rf.bd
 have rg0 := keepE rg
 have hbd_rg := rg.bd
 have rh0 := keepE rh
 have hbd_rh := rh.bd
 refine r_seq ?_
 refine r_region ?_
 refine r_op rfl rfl rfl (run_asg (v := .bool _) rfl (by exact rfl)) ?_
 refine r_nil ?_
 refine r_seq ?_
 refine r_seq ?_
 refine r_region ?_
 refine r_op rfl rfl rfl (run_mv (v := .slice _ _ _) rfl (by exact rfl)) ?_
 refine r_opcall rfl rfl rfl (run_callf (vs := [.slice _ _ _]) rfl (by exact rfl) Try.func22 rfl (by kernel_rfl)) (few_calls rf (texts_at htf)) ?_
 rintro e w1 ⟨lx1, rfl, hlx1, hE1⟩
 refine ⟨_, rfl, ?_⟩
 have hs_w1 := (hE1).size
 replace hV := evo_step0 hV hE1
 replace rf := rf0 _ hV
 replace rg := rg0 _ hV
 replace rh := rh0 _ hV
 refine r_op rfl rfl rfl (run_notb rfl (by exact rfl)) ?_
 refine r_op rfl rfl rfl (run_mvb rfl (by exact rfl)) ?_
 refine r_g rfl (wantF (by exact rfl)) rfl (fun hg => run_mv (v := .slice _ _ _) rfl (by exact rfl)) ?_
 refine r_gcallB rfl (wantF (by exact rfl)) rfl (fun hg => run_callf rfl (argcons (v := .slice _ _ _) (glv (by exact rfl) (fun h => h) hg) (rfl)) Try.func22 rfl (by kernel_rfl)) (fun hg => (few_calls rg (texts_at htg))) ?_
 intro gx4 w2 hgx4 hE3
 have hs_w2 := (hE3).size
 replace hV := evo_step0 hV hE3
 replace rf := rf0 _ hV
 replace rg := rg0 _ hV
 replace rh := rh0 _ hV
 refine r_g rfl (wantF (by exact rfl)) rfl (fun hg => run_not rfl (glv (by exact rfl) (fun h => h) hg)) ?_
 refine r_op rfl rfl rfl (run_pick_or rfl (by exact rfl) rfl (fun hq => glv (by exact rfl) (fun h => h) hq)) ?_
 refine r_op rfl rfl rfl (run_mv (v := .bool _) rfl (by exact rfl)) ?_
 refine r_g rfl (wantF (by exact rfl)) rfl (fun hg => run_mv (v := .slice _ _ _) rfl (by exact rfl)) ?_
 refine r_gcallB rfl (wantF (by exact rfl)) rfl (fun hg => run_callf rfl (argcons (v := .slice _ _ _) (glv (by exact rfl) (fun h => h) hg) (rfl)) Try.func22 rfl (by kernel_rfl)) (fun hg => (few_calls rh (texts_at hth))) ?_
 intro gx7 w5 hgx7 hE6
 have hs_w5 := (hE6).size
 replace hV := evo_step0 hV hE6
 replace rf := rf0 _ hV
 replace rg := rg0 _ hV
 replace rh := rh0 _ hV
 refine r_g rfl (wantF (by exact rfl)) rfl (fun hg => run_not rfl (glv (by exact rfl) (fun h => h) hg)) ?_
 refine r_op rfl rfl rfl (run_pick_or rfl (by exact rfl) rfl (fun hq => glv (by exact rfl) (fun h => h) hq)) ?_
 refine r_nil ?_
 refine r_cond (by exact rfl) (fun hc8 => ?_) (fun hc8 => ?_)
 ·skip
  refine r_seq ?_
  refine r_region ?_
  refine r_opcall rfl rfl rfl (run_callf (vs := []) rfl (by exact rfl) Try.func21 rfl (by kernel_rfl)) known_calls ?_
  rintro e w9 ⟨rfl, hE9⟩
  refine ⟨_, rfl, ?_⟩
  have hs_w9 := (hE9).size
  replace hV := evo_step0 hV hE9
  replace rf := rf0 _ hV
  replace rg := rg0 _ hV
  replace rh := rh0 _ hV
  refine r_op rfl rfl rfl (run_asg (v := .bool _) rfl (by exact rfl)) ?_
  refine r_nil ?_
  refine r_ret (res1 (v := .bool _) rfl (by exact rfl)) ?_
  exact ⟨rfl, hV⟩
 ·skip
  refine r_skip ?_
  refine r_seq ?_
  have b1 := hlx1 (by simp_all); have b2 := hgx4 (by simp_all) (by simp_all); have b3 := hgx7 (by simp_all) (by simp_all)
  have n1 := normL_len (f ++ g); have n2 := normL_size (f ++ g); have n3 := normL_len (g ++ h); have n4 := normL_size (g ++ h)
  rw [List.length_append] at n1 n3; rw [sizeL_append] at n2 n4
  have s1 : Small f := few_small b1; have s2 : Small g := few_small b2; have s3 : Small h := few_small b3; have s4 : Small (f ++ g) := small_app (by omega) (by omega) (by omega) (by omega); have s5 : Small (g ++ h) := small_app (by omega) (by omega) (by omega) (by omega)
  have s6 : Small (normL (f ++ g) ++ h) := small_app (by omega) (by omega) (by omega) (by omega); have s7 : Small (f ++ normL (g ++ h)) := small_app (by omega) (by omega) (by omega) (by omega); have s8 : Small (f ++ []) := by rw [List.append_nil]; exact s1
  have l1 := lengthL_le f; have l2 := lengthL_le g; have l3 := lengthL_le h; have p1 := plainL_len f; have p2 := plainL_len g; have p3 := plainL_len h
  refine r_region ?_
  refine r_op rfl rfl rfl (run_mv (v := .slice _ _ _) rfl (by exact rfl)) ?_
  refine r_op rfl rfl rfl (run_mv (v := .slice _ _ _) rfl (by exact rfl)) ?_
  refine r_opcall rfl rfl rfl (run_callf (vs := [.slice _ _ _, .slice _ _ _]) rfl (by exact rfl) Try.func32 rfl (by kernel_rfl)) (concat_calls rf rg (by assumption)) ?_
  rintro e w10 ⟨vn10, rfl, hE10, hon10⟩
  refine ⟨_, rfl, ?_⟩
  have hs_w10 := (hE10).size
  replace hV := evo_step0 hV hE10
  replace rf := rf0 _ hV
  replace rg := rg0 _ hV
  replace rh := rh0 _ hV
  refine r_op rfl rfl rfl (run_mv (v := .slice _ _ _) rfl (by exact rfl)) ?_
  obtain ⟨ao11, g11, cp11, hv11, hr11, hg11⟩ := hon10.rowOf
  subst hv11
  refine r_opcall rfl rfl rfl (run_callf (vs := [.slice _ _ _, .slice _ _ _]) rfl (by exact rfl) Try.func32 rfl (by kernel_rfl)) (concat_calls hr11 rh (by assumption)) ?_
  rintro e w12 ⟨vn12, rfl, hE12, hon12⟩
  refine ⟨_, rfl, ?_⟩
  have hs_w12 := (hE12).size
  replace hV := evo_step0 hV hE12
  replace rf := rf0 _ hV
  replace rg := rg0 _ hV
  replace rh := rh0 _ hV
  replace hon10 := hon10.evo0 hE12
  replace hr11 := hr11.evo0 hE12
  refine r_op rfl rfl rfl (run_asg (v := vn12) rfl (by exact rfl)) ?_
  refine r_nil ?_
  refine r_seq ?_
  refine r_region ?_
  refine r_op rfl rfl rfl (run_mv (v := .slice _ _ _) rfl (by exact rfl)) ?_
  refine r_op rfl rfl rfl (run_mv (v := .slice _ _ _) rfl (by exact rfl)) ?_
  refine r_op rfl rfl rfl (run_mv (v := .slice _ _ _) rfl (by exact rfl)) ?_
  refine r_opcall rfl rfl rfl (run_callf (vs := [.slice _ _ _, .slice _ _ _]) rfl (by exact rfl) Try.func32 rfl (by kernel_rfl)) (concat_calls rg rh (by assumption)) ?_
  rintro e w13 ⟨vn13, rfl, hE13, hon13⟩
  refine ⟨_, rfl, ?_⟩
  have hs_w13 := (hE13).size
  replace hV := evo_step0 hV hE13
  replace rf := rf0 _ hV
  replace rg := rg0 _ hV
  replace rh := rh0 _ hV
  replace hon10 := hon10.evo0 hE13
  replace hr11 := hr11.evo0 hE13
  replace hon12 := hon12.evo0 hE13
  obtain ⟨ao14, g14, cp14, hv14, hr14, hg14⟩ := hon13.rowOf
  subst hv14
  refine r_opcall rfl rfl rfl (run_callf (vs := [.slice _ _ _, .slice _ _ _]) rfl (by exact rfl) Try.func32 rfl (by kernel_rfl)) (concat_calls rf hr14 (by assumption)) ?_
  rintro e w15 ⟨vn15, rfl, hE15, hon15⟩
  refine ⟨_, rfl, ?_⟩
  have hs_w15 := (hE15).size
  replace hV := evo_step0 hV hE15
  replace rf := rf0 _ hV
  replace rg := rg0 _ hV
  replace rh := rh0 _ hV
  replace hon10 := hon10.evo0 hE15
  replace hr11 := hr11.evo0 hE15
  replace hon12 := hon12.evo0 hE15
  replace hon13 := hon13.evo0 hE15
  replace hr14 := hr14.evo0 hE15
  refine r_op rfl rfl rfl (run_asg (v := vn15) rfl (by exact rfl)) ?_
  refine r_nil ?_
  refine r_seq ?_
  refine r_region ?_
  refine r_op rfl rfl rfl (run_mv (v := vn12) rfl (by exact rfl)) ?_
  refine r_op rfl rfl rfl (run_mv (v := vn15) rfl (by exact rfl)) ?_
  obtain ⟨ao16, g16, cp16, hv16, hr16, hg16⟩ := hon12.rowOf
  subst hv16
  obtain ⟨ao17, g17, cp17, hv17, hr17, hg17⟩ := hon15.rowOf
  subst hv17
  refine r_opcall rfl rfl rfl (run_callf (vs := [.slice _ _ _, .slice _ _ _]) rfl (by exact rfl) Try.func31 rfl (by kernel_rfl)) (same_calls hr16 hr17) ?_
  rintro e w18 ⟨rfl, hE18⟩
  refine ⟨_, rfl, ?_⟩
  have hs_w18 := (hE18).size
  replace hV := evo_step0 hV hE18
  replace rf := rf0 _ hV
  replace rg := rg0 _ hV
  replace rh := rh0 _ hV
  replace hon10 := hon10.evo0 hE18
  replace hr11 := hr11.evo0 hE18
  replace hon12 := hon12.evo0 hE18
  replace hon13 := hon13.evo0 hE18
  replace hr14 := hr14.evo0 hE18
  replace hon15 := hon15.evo0 hE18
  replace hr16 := hr16.evo0 hE18
  replace hr17 := hr17.evo0 hE18
  refine r_op rfl rfl rfl (run_mv (v := .bool _) rfl (by exact rfl)) ?_
  refine r_gyes rfl (wantT (by exact rfl)) (by exact (norm_assoc f g h)) ?_
  refine r_op rfl rfl rfl (run_mv (v := .slice _ _ _) rfl (by exact rfl)) ?_
  refine r_gyes rfl (wantT (by exact rfl)) (by exact (norm_assoc f g h)) ?_
  refine r_opcall rfl rfl rfl (run_callf (vs := [.slice _ _ _, .slice _ _ _]) rfl (by exact rfl) Try.func32 rfl (by kernel_rfl)) (concat_calls rf (RowE.nil _ none 0 0 0) (by assumption)) ?_
  rintro e w19 ⟨vn19, rfl, hE19, hon19⟩
  refine ⟨_, rfl, ?_⟩
  have hs_w19 := (hE19).size
  replace hV := evo_step0 hV hE19
  replace rf := rf0 _ hV
  replace rg := rg0 _ hV
  replace rh := rh0 _ hV
  replace hon10 := hon10.evo0 hE19
  replace hr11 := hr11.evo0 hE19
  replace hon12 := hon12.evo0 hE19
  replace hon13 := hon13.evo0 hE19
  replace hr14 := hr14.evo0 hE19
  replace hon15 := hon15.evo0 hE19
  replace hr16 := hr16.evo0 hE19
  replace hr17 := hr17.evo0 hE19
  refine r_gyes rfl (wantT (by exact rfl)) (by exact (norm_assoc f g h)) ?_
  refine r_op rfl rfl rfl (run_mv (v := .slice _ _ _) rfl (by exact rfl)) ?_
  refine r_gyes rfl (wantT (by exact rfl)) (by exact (norm_assoc f g h)) ?_
  refine r_opcall rfl rfl rfl (run_callf (vs := [.slice _ _ _]) rfl (by exact rfl) Try.func34 rfl (by kernel_rfl)) (normalize_calls rf (by first | assumption | exact kf_small | exact small_take (by assumption) _ | exact small_norm (by assumption) | (rw [flat2]; assumption))) ?_
  rintro e w20 ⟨vn20, rfl, hE20, hon20⟩
  refine ⟨_, rfl, ?_⟩
  have hs_w20 := (hE20).size
  replace hV := evo_step0 hV hE20
  replace rf := rf0 _ hV
  replace rg := rg0 _ hV
  replace rh := rh0 _ hV
  replace hon10 := hon10.evo0 hE20
  replace hr11 := hr11.evo0 hE20
  replace hon12 := hon12.evo0 hE20
  replace hon13 := hon13.evo0 hE20
  replace hr14 := hr14.evo0 hE20
  replace hon15 := hon15.evo0 hE20
  replace hr16 := hr16.evo0 hE20
  replace hr17 := hr17.evo0 hE20
  replace hon19 := hon19.evo0 hE20
  refine r_gyes rfl (wantT (by exact rfl)) (by exact (norm_assoc f g h)) ?_
  obtain ⟨ao21, g21, cp21, hv21, hr21, hg21⟩ := hon19.rowOf
  subst hv21
  obtain ⟨ao22, g22, cp22, hv22, hr22, hg22⟩ := hon20.rowOf
  subst hv22
  refine r_opcall rfl rfl rfl (run_callf (vs := [.slice _ _ _, .slice _ _ _]) rfl (by exact rfl) Try.func31 rfl (by kernel_rfl)) (same_calls hr21 hr22) ?_
  rintro e w23 ⟨rfl, hE23⟩
  refine ⟨_, rfl, ?_⟩
  have hs_w23 := (hE23).size
  replace hV := evo_step0 hV hE23
  replace rf := rf0 _ hV
  replace rg := rg0 _ hV
  replace rh := rh0 _ hV
  replace hon10 := hon10.evo0 hE23
  replace hr11 := hr11.evo0 hE23
  replace hon12 := hon12.evo0 hE23
  replace hon13 := hon13.evo0 hE23
  replace hr14 := hr14.evo0 hE23
  replace hon15 := hon15.evo0 hE23
  replace hr16 := hr16.evo0 hE23
  replace hr17 := hr17.evo0 hE23
  replace hon19 := hon19.evo0 hE23
  replace hon20 := hon20.evo0 hE23
  replace hr21 := hr21.evo0 hE23
  replace hr22 := hr22.evo0 hE23
  refine r_op rfl rfl rfl (run_pick_and rfl (by exact rfl) (fun _ => (by exact rfl)) rfl) ?_
  refine r_op rfl rfl rfl (run_mv (v := .bool _) rfl (by exact rfl)) ?_
  refine r_gyes rfl (wantT (by exact rfl)) (by exact ⟨(norm_assoc f g h), by rw [List.append_nil]⟩) ?_
  refine r_op rfl rfl rfl (run_mv (v := .slice _ _ _) rfl (by exact rfl)) ?_
  refine r_gyes rfl (wantT (by exact rfl)) (by exact ⟨(norm_assoc f g h), by rw [List.append_nil]⟩) ?_
  refine r_opcall rfl rfl rfl (run_callf (vs := [.slice _ _ _]) rfl (by exact rfl) Try.func25 rfl (by kernel_rfl)) (length_calls hr16 (by first | assumption | exact kf_small | exact small_take (by assumption) _ | exact small_norm (by assumption) | (rw [flat2]; assumption))) ?_
  rintro e w24 ⟨rfl, hE24⟩
  refine ⟨_, rfl, ?_⟩
  have hs_w24 := (hE24).size
  replace hV := evo_step0 hV hE24
  replace rf := rf0 _ hV
  replace rg := rg0 _ hV
  replace rh := rh0 _ hV
  replace hon10 := hon10.evo0 hE24
  replace hr11 := hr11.evo0 hE24
  replace hon12 := hon12.evo0 hE24
  replace hon13 := hon13.evo0 hE24
  replace hr14 := hr14.evo0 hE24
  replace hon15 := hon15.evo0 hE24
  replace hr16 := hr16.evo0 hE24
  replace hr17 := hr17.evo0 hE24
  replace hon19 := hon19.evo0 hE24
  replace hon20 := hon20.evo0 hE24
  replace hr21 := hr21.evo0 hE24
  replace hr22 := hr22.evo0 hE24
  refine r_gyes rfl (wantT (by exact rfl)) (by exact ⟨(norm_assoc f g h), by rw [List.append_nil]⟩) ?_
  refine r_op rfl rfl rfl (run_mv (v := .slice _ _ _) rfl (by exact rfl)) ?_
  refine r_gyes rfl (wantT (by exact rfl)) (by exact ⟨(norm_assoc f g h), by rw [List.append_nil]⟩) ?_
  refine r_opcall rfl rfl rfl (run_callf (vs := [.slice _ _ _]) rfl (by exact rfl) Try.func25 rfl (by kernel_rfl)) (length_calls rf (by first | assumption | exact kf_small | exact small_take (by assumption) _ | exact small_norm (by assumption) | (rw [flat2]; assumption))) ?_
  rintro e w25 ⟨rfl, hE25⟩
  refine ⟨_, rfl, ?_⟩
  have hs_w25 := (hE25).size
  replace hV := evo_step0 hV hE25
  replace rf := rf0 _ hV
  replace rg := rg0 _ hV
  replace rh := rh0 _ hV
  replace hon10 := hon10.evo0 hE25
  replace hr11 := hr11.evo0 hE25
  replace hon12 := hon12.evo0 hE25
  replace hon13 := hon13.evo0 hE25
  replace hr14 := hr14.evo0 hE25
  replace hon15 := hon15.evo0 hE25
  replace hr16 := hr16.evo0 hE25
  replace hr17 := hr17.evo0 hE25
  replace hon19 := hon19.evo0 hE25
  replace hon20 := hon20.evo0 hE25
  replace hr21 := hr21.evo0 hE25
  replace hr22 := hr22.evo0 hE25
  refine r_gyes rfl (wantT (by exact rfl)) (by exact ⟨(norm_assoc f g h), by rw [List.append_nil]⟩) ?_
  refine r_op rfl rfl rfl (run_mv (v := .slice _ _ _) rfl (by exact rfl)) ?_
  refine r_gyes rfl (wantT (by exact rfl)) (by exact ⟨(norm_assoc f g h), by rw [List.append_nil]⟩) ?_
  refine r_opcall rfl rfl rfl (run_callf (vs := [.slice _ _ _]) rfl (by exact rfl) Try.func25 rfl (by kernel_rfl)) (length_calls rg (by first | assumption | exact kf_small | exact small_take (by assumption) _ | exact small_norm (by assumption) | (rw [flat2]; assumption))) ?_
  rintro e w26 ⟨rfl, hE26⟩
  refine ⟨_, rfl, ?_⟩
  have hs_w26 := (hE26).size
  replace hV := evo_step0 hV hE26
  replace rf := rf0 _ hV
  replace rg := rg0 _ hV
  replace rh := rh0 _ hV
  replace hon10 := hon10.evo0 hE26
  replace hr11 := hr11.evo0 hE26
  replace hon12 := hon12.evo0 hE26
  replace hon13 := hon13.evo0 hE26
  replace hr14 := hr14.evo0 hE26
  replace hon15 := hon15.evo0 hE26
  replace hr16 := hr16.evo0 hE26
  replace hr17 := hr17.evo0 hE26
  replace hon19 := hon19.evo0 hE26
  replace hon20 := hon20.evo0 hE26
  replace hr21 := hr21.evo0 hE26
  replace hr22 := hr22.evo0 hE26
  refine r_gyes rfl (wantT (by exact rfl)) (by exact ⟨(norm_assoc f g h), by rw [List.append_nil]⟩) ?_
  refine r_op rfl rfl rfl (run_add rfl (by exact rfl) (by exact rfl) (by omega) (by omega)) ?_
  refine r_gyes rfl (wantT (by exact rfl)) (by exact ⟨(norm_assoc f g h), by rw [List.append_nil]⟩) ?_
  refine r_op rfl rfl rfl (run_mv (v := .slice _ _ _) rfl (by exact rfl)) ?_
  refine r_gyes rfl (wantT (by exact rfl)) (by exact ⟨(norm_assoc f g h), by rw [List.append_nil]⟩) ?_
  refine r_opcall rfl rfl rfl (run_callf (vs := [.slice _ _ _]) rfl (by exact rfl) Try.func25 rfl (by kernel_rfl)) (length_calls rh (by first | assumption | exact kf_small | exact small_take (by assumption) _ | exact small_norm (by assumption) | (rw [flat2]; assumption))) ?_
  rintro e w27 ⟨rfl, hE27⟩
  refine ⟨_, rfl, ?_⟩
  have hs_w27 := (hE27).size
  replace hV := evo_step0 hV hE27
  replace rf := rf0 _ hV
  replace rg := rg0 _ hV
  replace rh := rh0 _ hV
  replace hon10 := hon10.evo0 hE27
  replace hr11 := hr11.evo0 hE27
  replace hon12 := hon12.evo0 hE27
  replace hon13 := hon13.evo0 hE27
  replace hr14 := hr14.evo0 hE27
  replace hon15 := hon15.evo0 hE27
  replace hr16 := hr16.evo0 hE27
  replace hr17 := hr17.evo0 hE27
  replace hon19 := hon19.evo0 hE27
  replace hon20 := hon20.evo0 hE27
  replace hr21 := hr21.evo0 hE27
  replace hr22 := hr22.evo0 hE27
  refine r_gyes rfl (wantT (by exact rfl)) (by exact ⟨(norm_assoc f g h), by rw [List.append_nil]⟩) ?_
  refine r_op rfl rfl rfl (run_add rfl (by exact rfl) (by exact rfl) (by omega) (by omega)) ?_
  refine r_gyes rfl (wantT (by exact rfl)) (by exact ⟨(norm_assoc f g h), by rw [List.append_nil]⟩) ?_
  refine r_op rfl rfl rfl (run_eql rfl (by exact rfl) (by exact rfl)) ?_
  refine r_op rfl rfl rfl (run_pick_and rfl (by exact rfl) (fun _ => (by exact rfl)) rfl) ?_
  refine r_op rfl rfl rfl (run_mv (v := .bool _) rfl (by exact rfl)) ?_
  refine r_gyes rfl (wantT (by exact rfl)) (by exact ⟨⟨(norm_assoc f g h), by rw [List.append_nil]⟩, (by rw [normL_length, lengthL_append, normL_length, lengthL_append])⟩) ?_
  refine r_op rfl rfl rfl (run_mv (v := .slice _ _ _) rfl (by exact rfl)) ?_
  refine r_gyes rfl (wantT (by exact rfl)) (by exact ⟨⟨(norm_assoc f g h), by rw [List.append_nil]⟩, (by rw [normL_length, lengthL_append, normL_length, lengthL_append])⟩) ?_
  refine r_opcall rfl rfl rfl (run_callf (vs := [.slice _ _ _]) rfl (by exact rfl) Try.func33 rfl (by kernel_rfl)) (plain_calls hr16 (by first | assumption | exact kf_small | exact small_take (by assumption) _ | exact small_norm (by assumption) | (rw [flat2]; assumption))) ?_
  rintro e w28 ⟨rfl, hE28⟩
  refine ⟨_, rfl, ?_⟩
  have hs_w28 := (hE28).size
  replace hV := evo_step0 hV hE28
  replace rf := rf0 _ hV
  replace rg := rg0 _ hV
  replace rh := rh0 _ hV
  replace hon10 := hon10.evo0 hE28
  replace hr11 := hr11.evo0 hE28
  replace hon12 := hon12.evo0 hE28
  replace hon13 := hon13.evo0 hE28
  replace hr14 := hr14.evo0 hE28
  replace hon15 := hon15.evo0 hE28
  replace hr16 := hr16.evo0 hE28
  replace hr17 := hr17.evo0 hE28
  replace hon19 := hon19.evo0 hE28
  replace hon20 := hon20.evo0 hE28
  replace hr21 := hr21.evo0 hE28
  replace hr22 := hr22.evo0 hE28
  refine r_gyes rfl (wantT (by exact rfl)) (by exact ⟨⟨(norm_assoc f g h), by rw [List.append_nil]⟩, (by rw [normL_length, lengthL_append, normL_length, lengthL_append])⟩) ?_
  refine r_op rfl rfl rfl (run_mv (v := .slice _ _ _) rfl (by exact rfl)) ?_
  refine r_gyes rfl (wantT (by exact rfl)) (by exact ⟨⟨(norm_assoc f g h), by rw [List.append_nil]⟩, (by rw [normL_length, lengthL_append, normL_length, lengthL_append])⟩) ?_
  refine r_opcall rfl rfl rfl (run_callf (vs := [.slice _ _ _]) rfl (by exact rfl) Try.func33 rfl (by kernel_rfl)) (plain_calls rf (by first | assumption | exact kf_small | exact small_take (by assumption) _ | exact small_norm (by assumption) | (rw [flat2]; assumption))) ?_
  rintro e w29 ⟨rfl, hE29⟩
  refine ⟨_, rfl, ?_⟩
  have hs_w29 := (hE29).size
  replace hV := evo_step0 hV hE29
  replace rf := rf0 _ hV
  replace rg := rg0 _ hV
  replace rh := rh0 _ hV
  replace hon10 := hon10.evo0 hE29
  replace hr11 := hr11.evo0 hE29
  replace hon12 := hon12.evo0 hE29
  replace hon13 := hon13.evo0 hE29
  replace hr14 := hr14.evo0 hE29
  replace hon15 := hon15.evo0 hE29
  replace hr16 := hr16.evo0 hE29
  replace hr17 := hr17.evo0 hE29
  replace hon19 := hon19.evo0 hE29
  replace hon20 := hon20.evo0 hE29
  replace hr21 := hr21.evo0 hE29
  replace hr22 := hr22.evo0 hE29
  refine r_gyes rfl (wantT (by exact rfl)) (by exact ⟨⟨(norm_assoc f g h), by rw [List.append_nil]⟩, (by rw [normL_length, lengthL_append, normL_length, lengthL_append])⟩) ?_
  refine r_op rfl rfl rfl (run_mv (v := .slice _ _ _) rfl (by exact rfl)) ?_
  refine r_gyes rfl (wantT (by exact rfl)) (by exact ⟨⟨(norm_assoc f g h), by rw [List.append_nil]⟩, (by rw [normL_length, lengthL_append, normL_length, lengthL_append])⟩) ?_
  refine r_opcall rfl rfl rfl (run_callf (vs := [.slice _ _ _]) rfl (by exact rfl) Try.func33 rfl (by kernel_rfl)) (plain_calls rg (by first | assumption | exact kf_small | exact small_take (by assumption) _ | exact small_norm (by assumption) | (rw [flat2]; assumption))) ?_
  rintro e w30 ⟨rfl, hE30⟩
  refine ⟨_, rfl, ?_⟩
  have hs_w30 := (hE30).size
  replace hV := evo_step0 hV hE30
  replace rf := rf0 _ hV
  replace rg := rg0 _ hV
  replace rh := rh0 _ hV
  replace hon10 := hon10.evo0 hE30
  replace hr11 := hr11.evo0 hE30
  replace hon12 := hon12.evo0 hE30
  replace hon13 := hon13.evo0 hE30
  replace hr14 := hr14.evo0 hE30
  replace hon15 := hon15.evo0 hE30
  replace hr16 := hr16.evo0 hE30
  replace hr17 := hr17.evo0 hE30
  replace hon19 := hon19.evo0 hE30
  replace hon20 := hon20.evo0 hE30
  replace hr21 := hr21.evo0 hE30
  replace hr22 := hr22.evo0 hE30
  refine r_gyes rfl (wantT (by exact rfl)) (by exact ⟨⟨(norm_assoc f g h), by rw [List.append_nil]⟩, (by rw [normL_length, lengthL_append, normL_length, lengthL_append])⟩) ?_
  refine r_op rfl rfl rfl (run_sadd rfl (by exact rfl) (by exact rfl) (by first | omega | (simp; omega))) ?_
  refine r_gyes rfl (wantT (by exact rfl)) (by exact ⟨⟨(norm_assoc f g h), by rw [List.append_nil]⟩, (by rw [normL_length, lengthL_append, normL_length, lengthL_append])⟩) ?_
  refine r_op rfl rfl rfl (run_mv (v := .slice _ _ _) rfl (by exact rfl)) ?_
  refine r_gyes rfl (wantT (by exact rfl)) (by exact ⟨⟨(norm_assoc f g h), by rw [List.append_nil]⟩, (by rw [normL_length, lengthL_append, normL_length, lengthL_append])⟩) ?_
  refine r_opcall rfl rfl rfl (run_callf (vs := [.slice _ _ _]) rfl (by exact rfl) Try.func33 rfl (by kernel_rfl)) (plain_calls rh (by first | assumption | exact kf_small | exact small_take (by assumption) _ | exact small_norm (by assumption) | (rw [flat2]; assumption))) ?_
  rintro e w31 ⟨rfl, hE31⟩
  refine ⟨_, rfl, ?_⟩
  have hs_w31 := (hE31).size
  replace hV := evo_step0 hV hE31
  replace rf := rf0 _ hV
  replace rg := rg0 _ hV
  replace rh := rh0 _ hV
  replace hon10 := hon10.evo0 hE31
  replace hr11 := hr11.evo0 hE31
  replace hon12 := hon12.evo0 hE31
  replace hon13 := hon13.evo0 hE31
  replace hr14 := hr14.evo0 hE31
  replace hon15 := hon15.evo0 hE31
  replace hr16 := hr16.evo0 hE31
  replace hr17 := hr17.evo0 hE31
  replace hon19 := hon19.evo0 hE31
  replace hon20 := hon20.evo0 hE31
  replace hr21 := hr21.evo0 hE31
  replace hr22 := hr22.evo0 hE31
  refine r_gyes rfl (wantT (by exact rfl)) (by exact ⟨⟨(norm_assoc f g h), by rw [List.append_nil]⟩, (by rw [normL_length, lengthL_append, normL_length, lengthL_append])⟩) ?_
  refine r_op rfl rfl rfl (run_sadd rfl (by exact rfl) (by exact rfl) (by first | omega | (simp; omega))) ?_
  refine r_gyes rfl (wantT (by exact rfl)) (by exact ⟨⟨(norm_assoc f g h), by rw [List.append_nil]⟩, (by rw [normL_length, lengthL_append, normL_length, lengthL_append])⟩) ?_
  refine r_op rfl rfl rfl (run_seql rfl (by exact rfl) (by exact rfl)) ?_
  refine r_op rfl rfl rfl (run_pick_and rfl (by exact rfl) (fun _ => (by exact rfl)) rfl) ?_
  refine r_op rfl rfl rfl (run_mv (v := .bool _) rfl (by exact rfl)) ?_
  refine r_gyes rfl (wantT (by exact rfl)) (by exact ⟨⟨⟨(norm_assoc f g h), by rw [List.append_nil]⟩, (by rw [normL_length, lengthL_append, normL_length, lengthL_append])⟩, (by rw [normL_plain, plainL_append, normL_plain, plainL_append])⟩) ?_
  refine r_opcall rfl rfl rfl (run_callf (vs := []) rfl (by exact rfl) Try.func21 rfl (by kernel_rfl)) known_calls ?_
  rintro e w32 ⟨rfl, hE32⟩
  refine ⟨_, rfl, ?_⟩
  have hs_w32 := (hE32).size
  replace hV := evo_step0 hV hE32
  replace rf := rf0 _ hV
  replace rg := rg0 _ hV
  replace rh := rh0 _ hV
  replace hon10 := hon10.evo0 hE32
  replace hr11 := hr11.evo0 hE32
  replace hon12 := hon12.evo0 hE32
  replace hon13 := hon13.evo0 hE32
  replace hr14 := hr14.evo0 hE32
  replace hon15 := hon15.evo0 hE32
  replace hr16 := hr16.evo0 hE32
  replace hr17 := hr17.evo0 hE32
  replace hon19 := hon19.evo0 hE32
  replace hon20 := hon20.evo0 hE32
  replace hr21 := hr21.evo0 hE32
  replace hr22 := hr22.evo0 hE32
  refine r_op rfl rfl rfl (run_pick_and rfl (by exact rfl) (fun _ => (by exact rfl)) rfl) ?_
  refine r_op rfl rfl rfl (run_asg (v := .bool _) rfl (by exact rfl)) ?_
  refine r_nil ?_
  refine r_ret (res1 (v := .bool _) rfl (by exact rfl)) ?_
  exact ⟨ret_bool (decide_eq_true ⟨⟨⟨⟨(norm_assoc f g h), by rw [List.append_nil]⟩, (by rw [normL_length, lengthL_append, normL_length, lengthL_append])⟩, (by rw [normL_plain, plainL_append, normL_plain, plainL_append])⟩, trivial⟩), hV⟩

end Go.Proofs.Ytkdgoghmkmpfnaa
