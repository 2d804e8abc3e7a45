import Derived.Test.YthfahceagabhiaaW5
namespace Go.Proofs.Ythfahceagabhiaa
open Go.RowKit Go.Vc

theorem known1 : ourCost [⟨10, [[55]]⟩] [⟨13, [[55]]⟩] = (30, true) := by decide +kernel
theorem known2 : alignL [⟨9, []⟩] [⟨4, []⟩, ⟨5, []⟩] = ([⟨0, 1, 0, 2⟩], 150, 0) := by decide +kernel

theorem known_calls  {w0 : World}  :
    Calls Try.prog 12 #[] w0 fun e w' => e = .returned (.bool true) ∧ Evo w0 w' [] := by
  refine calls_enter (n := 44) (args := []) Try.func12 rfl Try.ntmps12 rfl ?_
  have hV : Evo w0 w0 [] := Evo.refl _ _
  refine r_seq ?_
  refine r_region ?_
  refine r_op rfl rfl rfl (run_asg (v := .bool _) rfl (by exact rfl)) ?_
  refine r_nil ?_
  refine r_seq ?_
  refine r_region ?_
  refine r_bslice (pv := [(0, S _)]) (zs := [_]) (cs := [_]) Try.underlying65 ty_9 (by exact rfl) rfl (by exact rfl) rfl (by exact rfl) ?_
  intro b1 w2 heb1 hEw2 hbb1 hzb1
  have hs_w2 := (hEw2).size
  replace hV := evo_step0 hV hEw2
  have hAb1 := hbb1.at
  have hrb1 : RowE w2 (some ⟨b1, 0, none⟩) b1 0 1 ([[55]] : List Str) := rowLit ([[55]] : List Str) hbb1 rfl rfl
  refine r_op rfl rfl rfl (run_bld (pv := [(0, .int _ _), (1, .slice (some ⟨b1, 0, none⟩) _ _)]) (zs := [_, _]) (cells := [_, _]) rfl ty_67 (by exact rfl) pl_67 (by exact rfl) (by exact rfl)) ?_
  refine r_bslice (pv := [(0, .agg _)]) (zs := [_, _]) (cs := [_, _]) Try.underlying22 ty_67 (by exact rfl) rfl (by exact rfl) rfl (by exact rfl) ?_
  intro b3 w4 heb3 hEw4 hbb3 hzb3
  have hs_w4 := (hEw4).size
  replace hV := evo_step0 hV hEw4
  replace hrb1 := hrb1.evo0 hEw4
  have hAb3 := hbb3.at
  have hrb3 : RowR w4 (some ⟨b3, 0, none⟩) b3 0 1 ([⟨10, [[55]]⟩] : List Side) := rowLitR [[_, _]] ([⟨10, [[55]]⟩] : List Side) hbb3 rfl (RepL.one (side_lit _ hrb1 rfl)) rfl
  refine r_bslice (pv := [(0, S _)]) (zs := [_]) (cs := [_]) Try.underlying65 ty_9 (by exact rfl) rfl (by exact rfl) rfl (by exact rfl) ?_
  intro b5 w6 heb5 hEw6 hbb5 hzb5
  have hs_w6 := (hEw6).size
  replace hV := evo_step0 hV hEw6
  replace hrb1 := hrb1.evo0 hEw6
  replace hrb3 := hrb3.evo0 hEw6
  have hAb5 := hbb5.at
  have hrb5 : RowE w6 (some ⟨b5, 0, none⟩) b5 0 1 ([[55]] : List Str) := rowLit ([[55]] : List Str) hbb5 rfl rfl
  refine r_op rfl rfl rfl (run_bld (pv := [(0, .int _ _), (1, .slice (some ⟨b5, 0, none⟩) _ _)]) (zs := [_, _]) (cells := [_, _]) rfl ty_67 (by exact rfl) pl_67 (by exact rfl) (by exact rfl)) ?_
  refine r_bslice (pv := [(0, .agg _)]) (zs := [_, _]) (cs := [_, _]) Try.underlying22 ty_67 (by exact rfl) rfl (by exact rfl) rfl (by exact rfl) ?_
  intro b7 w8 heb7 hEw8 hbb7 hzb7
  have hs_w8 := (hEw8).size
  replace hV := evo_step0 hV hEw8
  replace hrb1 := hrb1.evo0 hEw8
  replace hrb3 := hrb3.evo0 hEw8
  replace hrb5 := hrb5.evo0 hEw8
  have hAb7 := hbb7.at
  have hrb7 : RowR w8 (some ⟨b7, 0, none⟩) b7 0 1 ([⟨13, [[55]]⟩] : List Side) := rowLitR [[_, _]] ([⟨13, [[55]]⟩] : List Side) hbb7 rfl (RepL.one (side_lit _ hrb5 rfl)) rfl
  refine r_opcall rfl rfl rfl (run_callf (vs := [.slice (some ⟨b3, 0, none⟩) _ _, .slice (some ⟨b7, 0, none⟩) _ _]) rfl (by exact rfl) Try.func14 rfl (by kernel_rfl)) (cost_calls hrb3 hrb7) ?_
  rintro e w9 ⟨rfl, hE9⟩
  refine ⟨_, rfl, ?_⟩
  have hs_w9 := (hE9).size
  replace hV := evo_step0 hV hE9
  replace hrb1 := hrb1.evo0 hE9
  replace hrb3 := hrb3.evo0 hE9
  replace hrb5 := hrb5.evo0 hE9
  replace hrb7 := hrb7.evo0 hE9
  refine r_op rfl rfl rfl (run_mv (v := .tuple _) rfl (by exact rfl)) ?_
  refine r_op rfl rfl rfl (run_extract (v := .int _ _) rfl (by exact rfl) (by exact rfl)) ?_
  refine r_op rfl rfl rfl (run_extract (v := .bool _) rfl (by exact rfl) (by exact rfl)) ?_
  refine r_op rfl rfl rfl (run_asg (v := .int _ _) rfl (by exact rfl)) ?_
  refine r_op rfl rfl rfl (run_asg (v := .bool _) rfl (by exact rfl)) ?_
  refine r_nil ?_
  refine r_seq ?_
  refine r_region ?_
  refine r_op rfl rfl rfl (run_bld (pv := [(0, .int _ _)]) (zs := [_, _]) (cells := [_, _]) rfl ty_67 (by exact rfl) pl_67 (by exact rfl) (by exact rfl)) ?_
  refine r_bslice (pv := [(0, .agg _)]) (zs := [_, _]) (cs := [_, _]) Try.underlying22 ty_67 (by exact rfl) rfl (by exact rfl) rfl (by exact rfl) ?_
  intro b10 w11 heb10 hEw11 hbb10 hzb10
  have hs_w11 := (hEw11).size
  replace hV := evo_step0 hV hEw11
  replace hrb1 := hrb1.evo0 hEw11
  replace hrb3 := hrb3.evo0 hEw11
  replace hrb5 := hrb5.evo0 hEw11
  replace hrb7 := hrb7.evo0 hEw11
  have hAb10 := hbb10.at
  have hrb10 : RowR w11 (some ⟨b10, 0, none⟩) b10 0 1 ([⟨9, []⟩] : List Side) := rowLitR [[_, _]] ([⟨9, []⟩] : List Side) hbb10 rfl (RepL.one (side_nil _ _)) rfl
  refine r_op rfl rfl rfl (run_bld (pv := [(0, .int _ _)]) (zs := [_, _]) (cells := [_, _]) rfl ty_67 (by exact rfl) pl_67 (by exact rfl) (by exact rfl)) ?_
  refine r_op rfl rfl rfl (run_bld (pv := [(0, .int _ _)]) (zs := [_, _]) (cells := [_, _]) rfl ty_67 (by exact rfl) pl_67 (by exact rfl) (by exact rfl)) ?_
  refine r_bslice (pv := [(0, .agg _), (1, .agg _)]) (zs := [_, _]) (cs := [_, _, _, _]) Try.underlying22 ty_67 (by exact rfl) rfl (by exact rfl) rfl (by exact rfl) ?_
  intro b12 w13 heb12 hEw13 hbb12 hzb12
  have hs_w13 := (hEw13).size
  replace hV := evo_step0 hV hEw13
  replace hrb1 := hrb1.evo0 hEw13
  replace hrb3 := hrb3.evo0 hEw13
  replace hrb5 := hrb5.evo0 hEw13
  replace hrb7 := hrb7.evo0 hEw13
  replace hrb10 := hrb10.evo0 hEw13
  have hAb12 := hbb12.at
  have hrb12 : RowR w13 (some ⟨b12, 0, none⟩) b12 0 2 ([⟨4, []⟩, ⟨5, []⟩] : List Side) := rowLitR [[_, _], [_, _]] ([⟨4, []⟩, ⟨5, []⟩] : List Side) hbb12 rfl (RepL.append (RepL.one (side_nil _ _)) (RepL.one (side_nil _ _))) rfl
  refine r_opcall rfl rfl rfl (run_callf (vs := [.slice (some ⟨b10, 0, none⟩) _ _, .slice (some ⟨b12, 0, none⟩) _ _]) rfl (by exact rfl) Try.func17 rfl (by kernel_rfl)) (align_calls hrb10 hrb12) ?_
  rintro e w14 ⟨va14, rfl, hE14, ho14⟩
  refine ⟨_, rfl, ?_⟩
  have hs_w14 := (hE14).size
  replace hV := evo_step0 hV hE14
  replace hrb1 := hrb1.evo0 hE14
  replace hrb3 := hrb3.evo0 hE14
  replace hrb5 := hrb5.evo0 hE14
  replace hrb7 := hrb7.evo0 hE14
  replace hrb10 := hrb10.evo0 hE14
  replace hrb12 := hrb12.evo0 hE14
  refine r_op rfl rfl rfl (run_mv (v := .tuple _) rfl (by exact rfl)) ?_
  refine r_op rfl rfl rfl (run_extract (v := va14) rfl (by exact rfl) (by exact rfl)) ?_
  refine r_op rfl rfl rfl (run_extract (v := .int _ _) rfl (by exact rfl) (by exact rfl)) ?_
  refine r_op rfl rfl rfl (run_extract (v := .int _ _) rfl (by exact rfl) (by exact rfl)) ?_
  refine r_op rfl rfl rfl (run_asg (v := va14) rfl (by exact rfl)) ?_
  refine r_op rfl rfl rfl (run_asg (v := .int _ _) rfl (by exact rfl)) ?_
  refine r_op rfl rfl rfl (run_asg (v := .int _ _) rfl (by exact rfl)) ?_
  refine r_nil ?_
  refine r_seq ?_
  refine r_region ?_
  refine r_op rfl rfl rfl (run_mvb rfl (by exact rfl)) ?_
  refine r_op rfl rfl rfl (run_mv (v := .bool _) rfl (by exact rfl)) ?_
  refine r_g rfl (wantT (by exact rfl)) rfl (fun hg => run_mv (v := .int _ _) rfl (by exact rfl)) ?_
  refine r_g rfl (wantT (by exact rfl)) rfl (fun hg => run_eql rfl (glv (by exact rfl) (fun h => h) hg) (by exact rfl)) ?_
  refine r_op rfl rfl rfl (run_pick_and rfl (by exact rfl) (fun hq => glv (by exact rfl) (fun h => h) hq) rfl) ?_
  refine r_op rfl rfl rfl (run_mv (v := .bool _) rfl (by exact rfl)) ?_
  refine r_g rfl (wantT (by exact rfl)) rfl (fun hg => run_mv (v := .int _ _) rfl (by exact rfl)) ?_
  refine r_g rfl (wantT (by exact rfl)) rfl (fun hg => run_eql rfl (glv (by exact rfl) (fun h => h) hg) (by exact rfl)) ?_
  refine r_op rfl rfl rfl (run_pick_and rfl (by exact rfl) (fun hq => glv (by exact rfl) (fun h => h) hq) rfl) ?_
  refine r_op rfl rfl rfl (run_mv (v := .bool _) rfl (by exact rfl)) ?_
  refine r_g rfl (wantT (by exact rfl)) rfl (fun hg => run_mv (v := .int _ _) rfl (by exact rfl)) ?_
  refine r_g rfl (wantT (by exact rfl)) rfl (fun hg => run_eql rfl (glv (by exact rfl) (fun h => h) hg) (by exact rfl)) ?_
  refine r_op rfl rfl rfl (run_pick_and rfl (by exact rfl) (fun hq => glv (by exact rfl) (fun h => h) hq) rfl) ?_
  refine r_op rfl rfl rfl (run_mv (v := .bool _) rfl (by exact rfl)) ?_
  refine r_g rfl (wantT (by exact rfl)) rfl (fun hg => run_mv (v := va14) rfl (by exact rfl)) ?_
  refine r_g rfl (wantT (by exact rfl)) rfl (fun hg => run_lenOE rfl (glv (by exact rfl) (fun h => h) hg) Try.underlying33 ho14) ?_
  refine r_g rfl (wantT (by exact rfl)) rfl (fun hg => run_eql rfl (glv (by exact rfl) (fun h => h) hg) (by exact rfl)) ?_
  refine r_op rfl rfl rfl (run_pick_and rfl (by exact rfl) (fun hq => glv (by exact rfl) (fun h => h) hq) rfl) ?_
  refine r_op rfl rfl rfl (run_asg (v := .bool _) rfl (by exact rfl)) ?_
  refine r_nil ?_
  refine r_ret (res1 (v := .bool _) rfl (by exact rfl)) ?_
  exact ⟨ret_bool (by rw [known1, known2]; rfl), hV⟩

end Go.Proofs.Ythfahceagabhiaa
