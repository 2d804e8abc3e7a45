import Derived.Test.YtomklacppmaljaaX13
namespace Go.Proofs.Ytomklacppmaljaa
open Go.RowKit Go.Vc
theorem pl_33 : placesP Try.prog 33 = some [(0, 1), (1, 1)] := by kernel_rfl
theorem pl_43 : placesP Try.prog 43 = some [(0, 1), (1, 1)] := by kernel_rfl
theorem pl_46 : placesP Try.prog 46 = some [(0, 1), (1, 1)] := by kernel_rfl
theorem ty_33 : tyP Try.prog 33 = some (2, 32, some (.agg #[(.string ⟨#[]⟩), (.string ⟨#[]⟩)])) := by kernel_rfl
def knownC : List Clas := ([⟨[110, 111, 117, 110], ([⟨[], [115]⟩, ⟨[121], [105, 101, 115]⟩] : List Ende)⟩] : List Clas)
theorem known_bd : BdC ⟨[110, 111, 117, 110], ([⟨[], [115]⟩, ⟨[121], [105, 101, 115]⟩] : List Ende)⟩ := by
  refine ⟨by decide, fun y hy => ?_, by decide⟩
  rcases List.mem_cons.1 hy with rfl | hy
  · exact ⟨by decide, by decide⟩
  · rcases List.mem_cons.1 hy with rfl | hy
    · exact ⟨by decide, by decide⟩
    · cases hy
theorem known_forms : formsC knownC [67, 105, 116, 121] [110, 111, 117, 110] = ([[99, 105, 116, 105, 101, 115], [99, 105, 116, 121], [99, 105, 116, 121, 115]] : List Str) := by decide
theorem known_stems : stemsC knownC [110, 111, 117, 110] [99, 105, 116, 105, 101, 115] = ([[99, 105, 116, 105, 101], [99, 105, 116, 105, 101, 115], [99, 105, 116, 121]] : List Str) := by decide
theorem known_ends (k : Nat) : BdE ((endsL knownC [110, 111, 117, 110]).getD k default) := ends_bd (fun x hx => by
  rcases List.mem_cons.1 hx with rfl | hx
  · exact known_bd
  · cases hx) _ k

theorem known_calls  {w0 : World}  :
    Calls Try.prog 23 #[] w0 fun e w' => e = .returned (.bool true) ∧ Evo w0 w' [] := by
 refine calls_enter (n := 18) (args := []) Try.func23 rfl Try.ntmps23 rfl ?_
 have hV : Evo w0 w0 [] := Evo.refl _ _
 refine r_seq ?_
 refine r_region ?_
 refine r_op rfl rfl rfl (run_asg (v := .bool _) rfl (by exact rfl)) ?_
 refine r_nil ?_
 refine r_seq ?_
 refine r_region ?_
 refine r_op rfl rfl rfl (run_bld (pv := [(1, S _)]) (zs := [_, _]) (cells := [_, _]) rfl ty_46 (by exact rfl) pl_46 (by exact rfl) (by exact rfl)) ?_
 refine r_op rfl rfl rfl (run_bld (pv := [(0, S _), (1, S _)]) (zs := [_, _]) (cells := [_, _]) rfl ty_46 (by exact rfl) pl_46 (by exact rfl) (by exact rfl)) ?_
 refine r_bslice (pv := [(0, .agg _), (1, .agg _)]) (zs := [_, _]) (cs := [_, _, _, _]) Try.underlying41 ty_46 (by exact rfl) rfl (by exact rfl) rfl (by exact rfl) ?_
 intro b1 w2 heb1 hEw2 hbb1 hzb1
 have hs_w2 := (hEw2).size
 replace hV := evo_step0 hV hEw2
 have hAb1 := hbb1.at
 have hrb1 : RowE w2 (some ⟨b1, 0, none⟩) b1 0 2 ([⟨[], [115]⟩, ⟨[121], [105, 101, 115]⟩] : List Ende) := rowLit ([⟨[], [115]⟩, ⟨[121], [105, 101, 115]⟩] : List Ende) hbb1 rfl rfl
 refine r_op rfl rfl rfl (run_bld (pv := [(0, S _), (1, .slice (some ⟨b1, 0, none⟩) _ _)]) (zs := [_, _]) (cells := [_, _]) rfl ty_43 (by exact rfl) pl_43 (by exact rfl) (by exact rfl)) ?_
 refine r_bslice (pv := [(0, .agg _)]) (zs := [_, _]) (cs := [_, _]) Try.underlying22 ty_43 (by exact rfl) rfl (by exact rfl) rfl (by exact rfl) ?_
 intro b3 w4 heb3 hEw4 hbb3 hzb3
 have hs_w4 := (hEw4).size
 replace hV := evo_step0 hV hEw4
 replace hrb1 := hrb1.evo0 hEw4
 have hAb3 := hbb3.at
 have hrb3 : RowR w4 (some ⟨b3, 0, none⟩) b3 0 1 knownC := rowLitR [[_, _]] knownC hbb3 rfl (RepL.one (clas_lit hrb1 rfl known_bd)) rfl
 refine r_op rfl rfl rfl (run_asg (v := .slice (some ⟨b3, 0, none⟩) _ _) rfl (by exact rfl)) ?_
 refine r_nil ?_
 refine r_seq ?_
 refine r_region ?_
 refine r_op rfl rfl rfl (run_mv (v := .slice (some ⟨b3, 0, none⟩) _ _) rfl (by exact rfl)) ?_
 refine r_op rfl rfl rfl (run_bld (pv := [(0, S _), (1, S _)]) (zs := [_, _]) (cells := [_, _]) rfl ty_33 (by exact rfl) pl_33 (by exact rfl) (by exact rfl)) ?_
 refine r_opcall rfl rfl rfl (run_callf (vs := [.slice (some ⟨b3, 0, none⟩) _ _, .agg _]) rfl (by exact rfl) Try.func29 rfl (by kernel_rfl)) (forms_calls hrb3 (by decide) known_ends (by decide) (by decide)) ?_
 rintro e w5 ⟨ao5, b5, off5, cap5, rfl, hE5, hr5⟩
 refine ⟨_, rfl, ?_⟩
 have hs_w5 := (hE5).size
 replace hV := evo_step0 hV hE5
 replace hrb1 := hrb1.evo0 hE5
 replace hrb3 := hrb3.evo0 hE5
 refine r_bslice (pv := [(0, S _), (1, S _), (2, S _)]) (zs := [_]) (cs := [_, _, _]) Try.underlying34 ty_9 (by exact rfl) rfl (by exact rfl) rfl (by exact rfl) ?_
 intro b6 w7 heb6 hEw7 hbb6 hzb6
 have hs_w7 := (hEw7).size
 replace hV := evo_step0 hV hEw7
 replace hrb1 := hrb1.evo0 hEw7
 replace hrb3 := hrb3.evo0 hEw7
 replace hr5 := hr5.evo0 hEw7
 have hAb6 := hbb6.at
 have hrb6 : RowE w7 (some ⟨b6, 0, none⟩) b6 0 3 ([[99, 105, 116, 105, 101, 115], [99, 105, 116, 121], [99, 105, 116, 121, 115]] : List Str) := rowLit ([[99, 105, 116, 105, 101, 115], [99, 105, 116, 121], [99, 105, 116, 121, 115]] : List Str) hbb6 rfl rfl
 refine r_opcall rfl rfl rfl (run_callf (vs := [.slice _ _ _, .slice (some ⟨b6, 0, none⟩) _ _]) rfl (by exact rfl) Try.func28 rfl (by kernel_rfl)) (sametexts_calls hr5 hrb6) ?_
 rintro e w8 ⟨rfl, hE8⟩
 refine ⟨_, rfl, ?_⟩
 have hs_w8 := (hE8).size
 replace hV := evo_step0 hV hE8
 replace hrb1 := hrb1.evo0 hE8
 replace hrb3 := hrb3.evo0 hE8
 replace hr5 := hr5.evo0 hE8
 replace hrb6 := hrb6.evo0 hE8
 refine r_op rfl rfl rfl (run_mvb rfl (by exact rfl)) ?_
 refine r_splitL (i := 12) (by exact rfl) (fun hs9 => ?_) (fun hs9 => ?_)
 ·skip
  refine r_guard_yes (by exact rfl) (by exact rfl) ?_
  refine r_op rfl rfl rfl (run_mv (v := .slice (some ⟨b3, 0, none⟩) _ _) rfl (by exact rfl)) ?_
  refine r_guard_yes (by exact rfl) (by exact rfl) ?_
  refine r_opcall rfl rfl rfl (run_callf (vs := [.slice (some ⟨b3, 0, none⟩) _ _, S _, S _]) rfl (by exact rfl) Try.func31 rfl (by kernel_rfl)) (stems_calls hrb3 (by decide) known_ends (by decide) (by decide)) ?_
  rintro e w10 ⟨ao10, b10, off10, cap10, rfl, hE10, hr10⟩
  refine ⟨_, rfl, ?_⟩
  have hs_w10 := (hE10).size
  replace hV := evo_step0 hV hE10
  replace hrb1 := hrb1.evo0 hE10
  replace hrb3 := hrb3.evo0 hE10
  replace hr5 := hr5.evo0 hE10
  replace hrb6 := hrb6.evo0 hE10
  refine r_guard_yes (by exact rfl) (by exact rfl) ?_
  refine r_bslice (pv := [(0, S _), (1, S _), (2, S _)]) (zs := [_]) (cs := [_, _, _]) Try.underlying34 ty_9 (by exact rfl) rfl (by exact rfl) rfl (by exact rfl) ?_
  intro b11 w12 heb11 hEw12 hbb11 hzb11
  have hs_w12 := (hEw12).size
  replace hV := evo_step0 hV hEw12
  replace hrb1 := hrb1.evo0 hEw12
  replace hrb3 := hrb3.evo0 hEw12
  replace hr5 := hr5.evo0 hEw12
  replace hrb6 := hrb6.evo0 hEw12
  replace hr10 := hr10.evo0 hEw12
  have hAb11 := hbb11.at
  have hrb11 : RowE w12 (some ⟨b11, 0, none⟩) b11 0 3 ([[99, 105, 116, 105, 101], [99, 105, 116, 105, 101, 115], [99, 105, 116, 121]] : List Str) := rowLit ([[99, 105, 116, 105, 101], [99, 105, 116, 105, 101, 115], [99, 105, 116, 121]] : List Str) hbb11 rfl rfl
  refine r_guard_yes (by exact rfl) (by exact rfl) ?_
  refine r_opcall rfl rfl rfl (run_callf (vs := [.slice _ _ _, .slice (some ⟨b11, 0, none⟩) _ _]) rfl (by exact rfl) Try.func28 rfl (by kernel_rfl)) (sametexts_calls hr10 hrb11) ?_
  rintro e w13 ⟨rfl, hE13⟩
  refine ⟨_, rfl, ?_⟩
  have hs_w13 := (hE13).size
  replace hV := evo_step0 hV hE13
  replace hrb1 := hrb1.evo0 hE13
  replace hrb3 := hrb3.evo0 hE13
  replace hr5 := hr5.evo0 hE13
  replace hrb6 := hrb6.evo0 hE13
  replace hr10 := hr10.evo0 hE13
  replace hrb11 := hrb11.evo0 hE13
  refine r_op rfl rfl rfl (run_pick_yes (v := .bool true) rfl (by exact rfl) (by exact rfl)) ?_
  refine r_op rfl rfl rfl (run_asg (v := .bool _) rfl (by exact rfl)) ?_
  refine r_nil ?_
  refine r_ret (res1 (v := .bool _) rfl (by exact rfl)) ?_
  exact ⟨ret_bool (decide_eq_true known_stems), hV⟩
 ·skip
  refine r_guard_no (by exact rfl) (by exact rfl) rfl rfl ?_
  refine r_guard_no (by exact rfl) (by exact rfl) rfl rfl ?_
  refine r_guard_no (by exact rfl) (by exact rfl) rfl rfl ?_
  refine r_guard_no (by exact rfl) (by exact rfl) rfl rfl ?_
  refine r_op rfl rfl rfl (run_pick_no (v := .bool _) rfl (by exact rfl) (by exact rfl)) ?_
  refine r_op rfl rfl rfl (run_asg (v := .bool _) rfl (by exact rfl)) ?_
  refine r_nil ?_
  refine r_ret (res1 (v := .bool _) rfl (by exact rfl)) ?_
  exact absurd known_forms (by simpa using hs9)

end Go.Proofs.Ytomklacppmaljaa
