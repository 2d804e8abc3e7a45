import Derived.Test.YtkdgoghmkmpfnaaW3
namespace Go.Proofs.Ytkdgoghmkmpfnaa
open Go.RowKit Go.Vc
theorem pl_26 : placesP Try.prog 26 = some [(0, 1), (1, 1), (2, 1)] := by kernel_rfl
def KF : List Vc.Item := [⟨2, [98], 1⟩, ⟨1, [97, 98], 0⟩, ⟨3, [98], 1⟩]
theorem kf_small : Small KF := by unfold Small; decide +kernel
theorem kf_v : validateL KF = 0 := by decide +kernel
theorem kf_l : lengthL KF = 4 := by decide +kernel
theorem kf_s : sliceL KF 2 4 = ([⟨1, [98], 0⟩, ⟨3, [98], 1⟩], true) := by decide +kernel

theorem known_calls  {w0 : World}  :
    Calls Try.prog 21 #[] w0 fun e w' => e = .returned (.bool (decide True)) ∧ Evo w0 w' [] := by
 refine calls_enter (n := 33) (args := []) Try.func21 rfl Try.ntmps21 rfl ?_
 have hV : Evo w0 w0 [] := Evo.refl _ _
 refine r_seq ?_
 refine r_region ?_
 refine r_op rfl rfl rfl (run_asg (v := .bool _) rfl (by exact rfl)) ?_
 refine r_nil ?_
 refine r_seq ?_
 refine r_region ?_
 refine r_op rfl rfl rfl (run_bld (pv := [(0, .int _ _), (1, S _), (2, .int _ _)]) (zs := [_, _, _]) (cells := [_, _, _]) rfl ty_26 (by exact rfl) pl_26 (by exact rfl) (by exact rfl)) ?_
 refine r_op rfl rfl rfl (run_bld (pv := [(0, .int _ _), (1, S _)]) (zs := [_, _, _]) (cells := [_, _, _]) rfl ty_26 (by exact rfl) pl_26 (by exact rfl) (by exact rfl)) ?_
 refine r_op rfl rfl rfl (run_bld (pv := [(0, .int _ _), (1, S _), (2, .int _ _)]) (zs := [_, _, _]) (cells := [_, _, _]) rfl ty_26 (by exact rfl) pl_26 (by exact rfl) (by exact rfl)) ?_
 refine r_bslice (pv := [(0, .agg _), (1, .agg _), (2, .agg _)]) (zs := [_, _, _]) (cs := [_, _, _, _, _, _, _, _, _]) Try.underlying30 ty_26 (by exact rfl) rfl (by exact rfl) rfl (by exact rfl) ?_
 intro b1 w2 heb1 hEw2 hbb1 hzb1
 have hs_w2 := (hEw2).size
 replace hV := evo_step0 hV hEw2
 have hAb1 := hbb1.at
 have hrb1 : RowE w2 (some ⟨b1, 0, none⟩) b1 0 3 KF := rowLit KF hbb1 rfl rfl
 refine r_op rfl rfl rfl (run_asg (v := .slice (some ⟨b1, 0, none⟩) _ _) rfl (by exact rfl)) ?_
 refine r_nil ?_
 refine r_seq ?_
 refine r_region ?_
 refine r_op rfl rfl rfl (run_mv (v := .slice (some ⟨b1, 0, none⟩) _ _) rfl (by exact rfl)) ?_
 refine r_opcall rfl rfl rfl (run_callf (vs := [.slice (some ⟨b1, 0, none⟩) _ _, .int _ _, .int _ _]) rfl (by exact rfl) Try.func29 rfl (by kernel_rfl)) (slice_calls hrb1 (by first | assumption | exact kf_small | exact small_take (by assumption) _)) ?_
 rintro e w3 ⟨vs3, rfl, hE3, hos3⟩
 refine ⟨_, rfl, ?_⟩
 have hs_w3 := (hE3).size
 replace hV := evo_step0 hV hE3
 replace hrb1 := hrb1.evo0 hE3
 refine r_op rfl rfl rfl (run_mv (v := .tuple _) rfl (by exact rfl)) ?_
 refine r_op rfl rfl rfl (run_extract (v := vs3) rfl (by exact rfl) (by exact rfl)) ?_
 refine r_op rfl rfl rfl (run_extract (v := .bool _) rfl (by exact rfl) (by exact rfl)) ?_
 refine r_op rfl rfl rfl (run_asg (v := vs3) rfl (by exact rfl)) ?_
 refine r_op rfl rfl rfl (run_asg (v := .bool _) rfl (by exact rfl)) ?_
 refine r_nil ?_
 refine r_seq ?_
 refine r_region ?_
 refine r_op rfl rfl rfl (run_mv (v := .slice (some ⟨b1, 0, none⟩) _ _) rfl (by exact rfl)) ?_
 refine r_opcall rfl rfl rfl (run_callf (vs := [.slice (some ⟨b1, 0, none⟩) _ _]) rfl (by exact rfl) Try.func19 rfl (by kernel_rfl)) (validate_calls hrb1 (by first | assumption | exact kf_small | exact small_take (by assumption) _)) ?_
 rintro e w4 ⟨rfl, hE4⟩
 refine ⟨_, rfl, ?_⟩
 have hs_w4 := (hE4).size
 replace hV := evo_step0 hV hE4
 replace hrb1 := hrb1.evo0 hE4
 replace hos3 := hos3.evo0 hE4
 refine r_op rfl rfl rfl (run_eql rfl (by exact rfl) (by exact rfl)) ?_
 refine r_op rfl rfl rfl (run_mv (v := .bool _) rfl (by exact rfl)) ?_
 refine r_g rfl (wantT (by exact rfl)) rfl (fun hg => run_mv (v := .slice (some ⟨b1, 0, none⟩) _ _) rfl (by exact rfl)) ?_
 refine r_gcall rfl (wantT (by exact rfl)) rfl (fun hg => run_callf rfl (argcons (v := .slice (some ⟨b1, 0, none⟩) _ _) (glv (by exact rfl) (fun h => h) hg) (rfl)) Try.func25 rfl (by kernel_rfl)) (fun hg => (length_calls hrb1 (by first | assumption | exact kf_small | exact small_take (by assumption) _)).mono (fun e w' h => ⟨h.1, h.2⟩)) (fun w5 hE6 => ?_)
 have hs_w5 := (hE6).size
 replace hV := evo_step0 hV hE6
 replace hrb1 := hrb1.evo0 hE6
 replace hos3 := hos3.evo0 hE6
 refine r_g rfl (wantT (by exact rfl)) rfl (fun hg => run_eql rfl (glv (by exact rfl) (fun h => h) hg) (by exact rfl)) ?_
 refine r_op rfl rfl rfl (run_pick_and rfl (by exact rfl) (fun hq => glv (by exact rfl) (fun h => h) hq) rfl) ?_
 refine r_op rfl rfl rfl (run_mv (v := .bool _) rfl (by exact rfl)) ?_
 refine r_g rfl (wantT (by exact rfl)) rfl (fun hg => run_mvb rfl (by exact rfl)) ?_
 refine r_op rfl rfl rfl (run_pick_and rfl (by exact rfl) (fun hq => glv (by exact rfl) (fun h => h) hq) rfl) ?_
 refine r_op rfl rfl rfl (run_mv (v := .bool _) rfl (by exact rfl)) ?_
 refine r_gyes rfl (wantT (by exact rfl)) (by exact ⟨⟨kf_v, kf_l⟩, by rw [kf_s]⟩) ?_
 refine r_op rfl rfl rfl (run_mv (v := vs3) rfl (by exact rfl)) ?_
 refine r_gyes rfl (wantT (by exact rfl)) (by exact ⟨⟨kf_v, kf_l⟩, by rw [kf_s]⟩) ?_
 refine r_op rfl rfl rfl (run_bld (pv := [(0, .int _ _), (1, S _)]) (zs := [_, _, _]) (cells := [_, _, _]) rfl ty_26 (by exact rfl) pl_26 (by exact rfl) (by exact rfl)) ?_
 refine r_gyes rfl (wantT (by exact rfl)) (by exact ⟨⟨kf_v, kf_l⟩, by rw [kf_s]⟩) ?_
 refine r_op rfl rfl rfl (run_mv (v := .slice (some ⟨b1, 0, none⟩) _ _) rfl (by exact rfl)) ?_
 refine r_gyes rfl (wantT (by exact rfl)) (by exact ⟨⟨kf_v, kf_l⟩, by rw [kf_s]⟩) ?_
 refine r_op rfl rfl rfl (run_ix (2) rfl Try.underlying30 ty_26 (by exact rfl) (by exact rfl) (by first | exact rfl | omega) (by decide) (hrb1.addr (i := 2) (by decide))) ?_
 have hA7 := hrb1.atD (2) (by decide)
 refine r_gyes rfl (wantT (by exact rfl)) (by exact ⟨⟨kf_v, kf_l⟩, by rw [kf_s]⟩) ?_
 refine r_op rfl rfl rfl (run_ldN rfl ag_26 ty_26 (by exact rfl) rfl hA7) ?_
 refine r_gyes rfl (wantT (by exact rfl)) (by exact ⟨⟨kf_v, kf_l⟩, by rw [kf_s]⟩) ?_
 refine r_bslice (pv := [(0, .agg _), (1, .agg _)]) (zs := [_, _, _]) (cs := [_, _, _, _, _, _]) Try.underlying30 ty_26 (by exact rfl) rfl (by exact rfl) rfl (by exact rfl) ?_
 intro b8 w9 heb8 hEw9 hbb8 hzb8
 have hs_w9 := (hEw9).size
 replace hV := evo_step0 hV hEw9
 replace hrb1 := hrb1.evo0 hEw9
 replace hos3 := hos3.evo0 hEw9
 have hAb8 := hbb8.at
 have hrb8 : RowE w9 (some ⟨b8, 0, none⟩) b8 0 2 ([⟨1, [98], 0⟩, ⟨3, [98], 1⟩] : List Vc.Item) := rowLit ([⟨1, [98], 0⟩, ⟨3, [98], 1⟩] : List Vc.Item) hbb8 rfl rfl
 refine r_gyes rfl (wantT (by exact rfl)) (by exact ⟨⟨kf_v, kf_l⟩, by rw [kf_s]⟩) ?_
 obtain ⟨ao10, g10, cp10, hv10, hr10, hg10⟩ := hos3.rowOf
 subst hv10
 refine r_opcall rfl rfl rfl (run_callf (vs := [.slice _ _ _, .slice (some ⟨b8, 0, none⟩) _ _]) rfl (by exact rfl) Try.func31 rfl (by kernel_rfl)) (same_calls hr10 hrb8) ?_
 rintro e w11 ⟨rfl, hE11⟩
 refine ⟨_, rfl, ?_⟩
 have hs_w11 := (hE11).size
 replace hV := evo_step0 hV hE11
 replace hrb1 := hrb1.evo0 hE11
 replace hos3 := hos3.evo0 hE11
 replace hrb8 := hrb8.evo0 hE11
 replace hr10 := hr10.evo0 hE11
 refine r_op rfl rfl rfl (run_pick_and rfl (by exact rfl) (fun _ => (by exact rfl)) rfl) ?_
 refine r_op rfl rfl rfl (run_asg (v := .bool _) rfl (by exact rfl)) ?_
 refine r_nil ?_
 refine r_ret (res1 (v := .bool _) rfl (by exact rfl)) ?_
 exact ⟨ret_bool (decide_eq_decide.2 ⟨fun _ => trivial, fun _ => ⟨⟨⟨kf_v, kf_l⟩, by rw [kf_s]⟩, by rw [kf_s]⟩⟩), hV⟩

theorem contents_law {s : Str} {w0 : World}  :
    Calls Try.prog 4 #[S s] w0 fun e w' => e = .returned (.bool true) ∧ Evo w0 w' [] := by
 refine calls_enter (n := 11) (args := [S s]) Try.func4 rfl Try.ntmps4 rfl ?_
 have hV : Evo w0 w0 [] := Evo.refl _ _
 refine r_seq ?_
 refine r_region ?_
 refine r_op rfl rfl rfl (run_asg (v := .bool _) rfl (by exact rfl)) ?_
 refine r_nil ?_
 refine r_seq ?_
 refine r_region ?_
 refine r_op rfl rfl rfl (run_mv (v := S _) rfl (by exact rfl)) ?_
 refine r_opcall rfl rfl rfl (run_callf (vs := [S _]) rfl (by exact rfl) Try.func17 rfl (by kernel_rfl)) iscont_calls ?_
 rintro e w1 ⟨rfl, hE1⟩
 refine ⟨_, rfl, ?_⟩
 have hs_w1 := (hE1).size
 replace hV := evo_step0 hV hE1
 refine r_op rfl rfl rfl (run_mv (v := S _) rfl (by exact rfl)) ?_
 refine r_opcall rfl rfl rfl (run_callf (vs := [S _]) rfl (by exact rfl) Try.func18 rfl (by kernel_rfl)) riscont_calls ?_
 rintro e w2 ⟨rfl, hE2⟩
 refine ⟨_, rfl, ?_⟩
 have hs_w2 := (hE2).size
 replace hV := evo_step0 hV hE2
 refine r_op rfl rfl rfl (run_beqlB rfl Try.underlying4 (by exact rfl) (by exact rfl)) ?_
 refine r_op rfl rfl rfl (run_mv (v := .bool _) rfl (by exact rfl)) ?_
 refine r_gcall rfl (wantT (by exact rfl)) rfl (fun hg => run_callf rfl (rfl) Try.func21 rfl (by kernel_rfl)) (fun hg => (known_calls ).mono (fun e w' h => ⟨h.1, h.2⟩)) (fun w3 hE4 => ?_)
 have hs_w3 := (hE4).size
 replace hV := evo_step0 hV hE4
 refine r_op rfl rfl rfl (run_pick_and rfl (by exact rfl) (fun hq => glv (by exact rfl) (fun h => h) hq) rfl) ?_
 refine r_op rfl rfl rfl (run_asg (v := .bool _) rfl (by exact rfl)) ?_
 refine r_nil ?_
 refine r_ret (res1 (v := .bool _) rfl (by exact rfl)) ?_
 exact ⟨ret_bool (decide_eq_true ⟨rfl, trivial⟩), hV⟩

end Go.Proofs.Ytkdgoghmkmpfnaa
