/-
  Library, plain laws and walks that the statements reach (joined by a program out of smaller texts).
-/
import Derived.Test.YtkklomiipkipnaaGreatDoorKh
import Derived.Test.YtkklomiipkipnaaGreatDoorKe
import Derived.Test.YtkklomiipkipnaaGreatDoorKb
namespace Go.Proofs.YtkklomiipkipnaaGreatDoor
open Go.RowKit Go.Vc
theorem pl_60 : placesP Tryz.prog 60 = some [(0, 1), (1, 1)] := by kernel_rfl
theorem ty_39 : tyP Tryz.prog 39 = some (1, 24, some (.slice none 0 0)) := by kernel_rfl
end Go.Proofs.YtkklomiipkipnaaGreatDoor
namespace Go.Proofs.YtkklomiipkipnaaGreatDoor
open Go.RowKit Go.Vc
theorem pl_42 : placesP Tryz.prog 42 = some [(0, 1), (1, 1), (2, 1)] := by kernel_rfl
def knownT : List TermL := [⟨([⟨[100, 97, 116, 97], []⟩] : List Ende), [], []⟩, ⟨([⟨[100, 97, 116, 97], []⟩, ⟨[98, 97, 110, 107], []⟩] : List Ende), ([[68, 97, 116, 101, 110, 98, 97, 110, 107]] : List Str), []⟩]
def knownF : List Vc.Item := ([⟨1, [68, 97, 116, 97, 32], 0⟩, ⟨2, [98], 1⟩, ⟨1, [98, 97, 110, 107, 44, 32, 100, 97, 116, 97], 0⟩] : List Vc.Item)
theorem term_lit {w : World} {ao1 ao2 ao3 : Option Addr} {b1 o1 b2 o2 b3 o3 c1 c2 c3 : Nat} (x : TermL) (h1 : RowE w ao1 b1 o1 c1 x.words) (h2 : RowE w ao2 b2 o2 c2 x.req) (h3 : RowE w ao3 b3 o3 c3 x.forb) (hb : x.words.length ≤ 4398046510976 ∧ ∀ y ∈ x.words, BdE y) :
    Rep.rep w [.slice ao1 x.words.length c1, .slice ao2 x.req.length c2, .slice ao3 x.forb.length c3] x := ⟨⟨_, _, _, _, _, _, _, _, _, _, _, _, rfl, h1, h2, h3⟩, hb⟩
theorem known_bd1 : (([⟨[100, 97, 116, 97], []⟩] : List Ende)).length ≤ 4398046510976 ∧ ∀ y ∈ ([⟨[100, 97, 116, 97], []⟩] : List Ende), BdE y := ⟨by decide, fun y hy => by
  rcases List.mem_cons.1 hy with rfl | hy
  · exact ⟨by decide, by decide⟩
  · cases hy⟩
theorem known_bd2 : (([⟨[100, 97, 116, 97], []⟩, ⟨[98, 97, 110, 107], []⟩] : List Ende)).length ≤ 4398046510976 ∧ ∀ y ∈ ([⟨[100, 97, 116, 97], []⟩, ⟨[98, 97, 110, 107], []⟩] : List Ende), BdE y := ⟨by decide, fun y hy => by
  rcases List.mem_cons.1 hy with rfl | hy
  · exact ⟨by decide, by decide⟩
  · rcases List.mem_cons.1 hy with rfl | hy
    · exact ⟨by decide, by decide⟩
    · cases hy⟩
theorem known_toks : ∀ x ∈ toks knownF, x.text.length ≤ 140737488355328 := by decide +kernel
theorem known_toksl : (toks knownF).length ≤ 4398046510976 := by decide +kernel
theorem known_spots : spotsF (toks knownF) (fsT [] knownT) 0 = ([⟨1, 0, 4⟩, ⟨0, 6, 7⟩] : List Spt) := by decide +kernel
theorem known_miss : natI (missN [] knownT (foundN knownT.length (spotsF (toks knownF) (fsT [] knownT) 0))) = [1] := by decide +kernel
theorem known_has1 : hasB [100, 97, 116, 97, 32, 66, 65, 78, 75] (toks knownF) = true := by decide +kernel
theorem known_has2 : hasB [98, 97, 110, 107, 32, 100, 97, 116, 97] (toks knownF) = false := by decide +kernel
set_option maxHeartbeats 2000000 in
theorem known_calls  {w0 : World}  :
    Calls Tryz.prog 13 #[] w0 fun e w' => e = .returned (.bool true) ∧ Evo w0 w' [] := by
 refine calls_enter (n := 48) (args := []) Tryz.func13 rfl Tryz.ntmps13 rfl ?_
 have hV : Evo w0 w0 [] := Evo.refl _ _
 refine r_seq ?_
 refine r_region ?_
 refine r_op rfl rfl rfl (run_asg (v := .bool _) rfl (by exact rfl)) ?_
 refine r_nil ?_
 refine r_seq ?_
 refine r_region ?_
 refine r_op rfl rfl rfl (run_bld (pv := [(0, S _)]) (zs := [_, _]) (cells := [_, _]) rfl ty_60 (by exact rfl) pl_60 (by exact rfl) (by exact rfl)) ?_
 refine r_bslice (pv := [(0, .agg _)]) (zs := [_, _]) (cs := [_, _]) Tryz.underlying39 ty_60 (by exact rfl) rfl (by exact rfl) rfl (by exact rfl) ?_
 intro b1 w2 heb1 hEw2 hbb1 hzb1
 have hs_w2 := (hEw2).size
 replace hV := evo_step0 hV hEw2
 have hAb1 := hbb1.at
 have hrb1 : RowE w2 (some ⟨b1, 0, none⟩) b1 0 1 ([⟨[100, 97, 116, 97], []⟩] : List Ende) := rowLit ([⟨[100, 97, 116, 97], []⟩] : List Ende) hbb1 rfl rfl
 refine r_op rfl rfl rfl (run_bld (pv := [(0, .slice (some ⟨b1, 0, none⟩) _ _)]) (zs := [_, _, _]) (cells := [_, _, _]) rfl ty_42 (by exact rfl) pl_42 (by exact rfl) (by exact rfl)) ?_
 refine r_op rfl rfl rfl (run_bld (pv := [(0, S _)]) (zs := [_, _]) (cells := [_, _]) rfl ty_60 (by exact rfl) pl_60 (by exact rfl) (by exact rfl)) ?_
 refine r_op rfl rfl rfl (run_bld (pv := [(0, S _)]) (zs := [_, _]) (cells := [_, _]) rfl ty_60 (by exact rfl) pl_60 (by exact rfl) (by exact rfl)) ?_
 refine r_bslice (pv := [(0, .agg _), (1, .agg _)]) (zs := [_, _]) (cs := [_, _, _, _]) Tryz.underlying39 ty_60 (by exact rfl) rfl (by exact rfl) rfl (by exact rfl) ?_
 intro b3 w4 heb3 hEw4 hbb3 hzb3
 have hs_w4 := (hEw4).size
 replace hV := evo_step0 hV hEw4
 replace hrb1 := hrb1.evo0 hEw4
 have hAb3 := hbb3.at
 have hrb3 : RowE w4 (some ⟨b3, 0, none⟩) b3 0 2 ([⟨[100, 97, 116, 97], []⟩, ⟨[98, 97, 110, 107], []⟩] : List Ende) := rowLit ([⟨[100, 97, 116, 97], []⟩, ⟨[98, 97, 110, 107], []⟩] : List Ende) hbb3 rfl rfl
 refine r_bslice (pv := [(0, S _)]) (zs := [_]) (cs := [_]) Tryz.underlying40 ty_9 (by exact rfl) rfl (by exact rfl) rfl (by exact rfl) ?_
 intro b5 w6 heb5 hEw6 hbb5 hzb5
 have hs_w6 := (hEw6).size
 replace hV := evo_step0 hV hEw6
 replace hrb1 := hrb1.evo0 hEw6
 replace hrb3 := hrb3.evo0 hEw6
 have hAb5 := hbb5.at
 have hrb5 : RowE w6 (some ⟨b5, 0, none⟩) b5 0 1 ([[68, 97, 116, 101, 110, 98, 97, 110, 107]] : List Str) := rowLit ([[68, 97, 116, 101, 110, 98, 97, 110, 107]] : List Str) hbb5 rfl rfl
 refine r_op rfl rfl rfl (run_bld (pv := [(0, .slice (some ⟨b3, 0, none⟩) _ _), (1, .slice (some ⟨b5, 0, none⟩) _ _)]) (zs := [_, _, _]) (cells := [_, _, _]) rfl ty_42 (by exact rfl) pl_42 (by exact rfl) (by exact rfl)) ?_
 refine r_bslice (pv := [(0, .agg _), (1, .agg _)]) (zs := [_, _, _]) (cs := [_, _, _, _, _, _]) Tryz.underlying22 ty_42 (by exact rfl) rfl (by exact rfl) rfl (by exact rfl) ?_
 intro b7 w8 heb7 hEw8 hbb7 hzb7
 have hs_w8 := (hEw8).size
 replace hV := evo_step0 hV hEw8
 replace hrb1 := hrb1.evo0 hEw8
 replace hrb3 := hrb3.evo0 hEw8
 replace hrb5 := hrb5.evo0 hEw8
 have hAb7 := hbb7.at
 have hrb7 : RowR w8 (some ⟨b7, 0, none⟩) b7 0 2 knownT := rowLitR [[_, _, _], [_, _, _]] knownT hbb7 rfl ((RepL.one (term_lit ⟨([⟨[100, 97, 116, 97], []⟩] : List Ende), [], []⟩ hrb1 (RowE.nil _ _ 0 0 _) (RowE.nil _ _ 0 0 _) known_bd1)).append (RepL.one (term_lit ⟨([⟨[100, 97, 116, 97], []⟩, ⟨[98, 97, 110, 107], []⟩] : List Ende), ([[68, 97, 116, 101, 110, 98, 97, 110, 107]] : List Str), []⟩ hrb3 hrb5 (RowE.nil _ _ 0 0 _) known_bd2))) rfl
 refine r_op rfl rfl rfl (run_asg (v := .slice (some ⟨b7, 0, none⟩) _ _) rfl (by exact rfl)) ?_
 refine r_nil ?_
 refine r_seq ?_
 refine r_region ?_
 refine r_op rfl rfl rfl (run_bld (pv := [(0, .int _ _), (1, S _)]) (zs := [_, _, _]) (cells := [_, _, _]) rfl ty_52 (by exact rfl) pl_52 (by exact rfl) (by exact rfl)) ?_
 refine r_op rfl rfl rfl (run_bld (pv := [(0, .int _ _), (1, S _), (2, .int _ _)]) (zs := [_, _, _]) (cells := [_, _, _]) rfl ty_52 (by exact rfl) pl_52 (by exact rfl) (by exact rfl)) ?_
 refine r_op rfl rfl rfl (run_bld (pv := [(0, .int _ _), (1, S _)]) (zs := [_, _, _]) (cells := [_, _, _]) rfl ty_52 (by exact rfl) pl_52 (by exact rfl) (by exact rfl)) ?_
 refine r_bslice (pv := [(0, .agg _), (1, .agg _), (2, .agg _)]) (zs := [_, _, _]) (cs := [_, _, _, _, _, _, _, _, _]) Tryz.underlying53 ty_52 (by exact rfl) rfl (by exact rfl) rfl (by exact rfl) ?_
 intro b9 w10 heb9 hEw10 hbb9 hzb9
 have hs_w10 := (hEw10).size
 replace hV := evo_step0 hV hEw10
 replace hrb1 := hrb1.evo0 hEw10
 replace hrb3 := hrb3.evo0 hEw10
 replace hrb5 := hrb5.evo0 hEw10
 replace hrb7 := hrb7.evo0 hEw10
 have hAb9 := hbb9.at
 have hrb9 : RowE w10 (some ⟨b9, 0, none⟩) b9 0 3 knownF := rowLit knownF hbb9 rfl rfl
 refine r_opcall rfl rfl rfl (run_callf (vs := [.slice (some ⟨b9, 0, none⟩) _ _]) rfl (by exact rfl) Tryz.func23 rfl (by kernel_rfl)) (rtokens_calls hrb9 (by decide +kernel)) ?_
 rintro e w11 ⟨vk11, rfl, hE11, hok11⟩
 refine ⟨_, rfl, ?_⟩
 have hs_w11 := (hE11).size
 replace hV := evo_step0 hV hE11
 replace hrb1 := hrb1.evo0 hE11
 replace hrb3 := hrb3.evo0 hE11
 replace hrb5 := hrb5.evo0 hE11
 replace hrb7 := hrb7.evo0 hE11
 replace hrb9 := hrb9.evo0 hE11
 refine r_op rfl rfl rfl (run_asg (v := vk11) rfl (by exact rfl)) ?_
 refine r_nil ?_
 refine r_seq ?_
 refine r_region ?_
 refine r_op rfl rfl rfl (run_mv (v := .slice (some ⟨b7, 0, none⟩) _ _) rfl (by exact rfl)) ?_
 refine r_op rfl rfl rfl (run_mv (v := vk11) rfl (by exact rfl)) ?_
 obtain ⟨ao12, g12, cp12, hv12, hr12, hg12⟩ := hok11.rowOf
 subst hv12
 refine r_opcall rfl rfl rfl (run_callf (vs := [.slice (some ⟨b7, 0, none⟩) _ _, .slice _ _ _, .slice _ _ _, .slice _ _ _]) rfl (by exact rfl) Tryz.func24 rfl (by kernel_rfl)) (missing_calls hrb7 (RowR.nil _ _ 0 0 _) hr12 known_toks known_toksl (by decide) (RowE.nil _ _ 0 0 _) (fun x hx => absurd hx List.not_mem_nil) (Nat.zero_le _)) ?_
 rintro e w13 ⟨vM13, rfl, hE13, hoM13⟩
 refine ⟨_, rfl, ?_⟩
 have hs_w13 := (hE13).size
 replace hV := evo_step0 hV hE13
 replace hrb1 := hrb1.evo0 hE13
 replace hrb3 := hrb3.evo0 hE13
 replace hrb5 := hrb5.evo0 hE13
 replace hrb7 := hrb7.evo0 hE13
 replace hrb9 := hrb9.evo0 hE13
 replace hok11 := hok11.evo0 hE13
 replace hr12 := hr12.evo0 hE13
 rw [known_miss] at hoM13
 refine r_op rfl rfl rfl (run_asg (v := vM13) rfl (by exact rfl)) ?_
 refine r_nil ?_
 refine r_seq ?_
 obtain ⟨ao14, g14, cp14, hv14, hr14, hg14⟩ := hoM13.rowOf
 subst hv14
 refine r_region ?_
 refine r_op rfl rfl rfl (run_mv (v := .slice (some ⟨b7, 0, none⟩) _ _) rfl (by exact rfl)) ?_
 refine r_op rfl rfl rfl (run_mv (v := .slice _ _ _) rfl (by exact rfl)) ?_
 refine r_opcall rfl rfl rfl (run_callf (vs := [.slice (some ⟨b7, 0, none⟩) _ _, .slice _ _ _, .slice _ _ _]) rfl (by exact rfl) Tryz.func16 rfl (by kernel_rfl)) (spots_calls hrb7 (RowR.nil _ _ 0 0 _) hr12 known_toks known_toksl (by decide)) ?_
 rintro e w15 ⟨vS15, rfl, hE15, hoS15⟩
 refine ⟨_, rfl, ?_⟩
 have hs_w15 := (hE15).size
 replace hV := evo_step0 hV hE15
 replace hrb1 := hrb1.evo0 hE15
 replace hrb3 := hrb3.evo0 hE15
 replace hrb5 := hrb5.evo0 hE15
 replace hrb7 := hrb7.evo0 hE15
 replace hrb9 := hrb9.evo0 hE15
 replace hok11 := hok11.evo0 hE15
 replace hr12 := hr12.evo0 hE15
 replace hoM13 := hoM13.evo0 hE15
 replace hr14 := hr14.evo0 hE15
 refine r_op rfl rfl rfl (run_bld (pv := [(0, .int _ _), (1, .int _ _), (2, .int _ _)]) (zs := [_, _, _]) (cells := [_, _, _]) rfl ty_36 (by exact rfl) pl_36 (by exact rfl) (by exact rfl)) ?_
 refine r_op rfl rfl rfl (run_bld (pv := [(0, .int _ _), (1, .int _ _), (2, .int _ _)]) (zs := [_, _, _]) (cells := [_, _, _]) rfl ty_36 (by exact rfl) pl_36 (by exact rfl) (by exact rfl)) ?_
 refine r_bslice (pv := [(0, .agg _), (1, .agg _)]) (zs := [_, _, _]) (cs := [_, _, _, _, _, _]) Tryz.underlying32 ty_36 (by exact rfl) rfl (by exact rfl) rfl (by exact rfl) ?_
 intro b16 w17 heb16 hEw17 hbb16 hzb16
 have hs_w17 := (hEw17).size
 replace hV := evo_step0 hV hEw17
 replace hrb1 := hrb1.evo0 hEw17
 replace hrb3 := hrb3.evo0 hEw17
 replace hrb5 := hrb5.evo0 hEw17
 replace hrb7 := hrb7.evo0 hEw17
 replace hrb9 := hrb9.evo0 hEw17
 replace hok11 := hok11.evo0 hEw17
 replace hr12 := hr12.evo0 hEw17
 replace hoM13 := hoM13.evo0 hEw17
 replace hr14 := hr14.evo0 hEw17
 replace hoS15 := hoS15.evo0 hEw17
 have hAb16 := hbb16.at
 have hrb16 : RowE w17 (some ⟨b16, 0, none⟩) b16 0 2 ([⟨1, 0, 4⟩, ⟨0, 6, 7⟩] : List Spt) := rowLit ([⟨1, 0, 4⟩, ⟨0, 6, 7⟩] : List Spt) hbb16 rfl rfl
 obtain ⟨ao18, g18, cp18, hv18, hr18, hg18⟩ := hoS15.rowOf
 subst hv18
 refine r_opcall rfl rfl rfl (run_callf (vs := [.slice _ _ _, .slice (some ⟨b16, 0, none⟩) _ _]) rfl (by exact rfl) Tryz.func15 rfl (by kernel_rfl)) (samespots_calls hr18 hrb16) ?_
 rintro e w19 ⟨rfl, hE19⟩
 refine ⟨_, rfl, ?_⟩
 have hs_w19 := (hE19).size
 replace hV := evo_step0 hV hE19
 replace hrb1 := hrb1.evo0 hE19
 replace hrb3 := hrb3.evo0 hE19
 replace hrb5 := hrb5.evo0 hE19
 replace hrb7 := hrb7.evo0 hE19
 replace hrb9 := hrb9.evo0 hE19
 replace hok11 := hok11.evo0 hE19
 replace hr12 := hr12.evo0 hE19
 replace hoM13 := hoM13.evo0 hE19
 replace hr14 := hr14.evo0 hE19
 replace hoS15 := hoS15.evo0 hE19
 replace hrb16 := hrb16.evo0 hE19
 replace hr18 := hr18.evo0 hE19
 refine r_knowL (i := 27) (v := .bool true) (congrArg Value.bool (decide_eq_true known_spots)) ?_
 refine r_op rfl rfl rfl (run_mvb rfl (by exact rfl)) ?_
 refine r_gyes rfl (wantT (by exact rfl)) (by exact rfl) ?_
 refine r_op rfl rfl rfl (run_mv (v := .slice _ _ _) rfl (by exact rfl)) ?_
 refine r_gyes rfl (wantT (by exact rfl)) (by exact rfl) ?_
 refine r_op rfl rfl rfl (run_lenSl rfl (by exact rfl) Tryz.underlying25) ?_
 refine r_gyes rfl (wantT (by exact rfl)) (by exact rfl) ?_
 refine r_op rfl rfl rfl (run_eql rfl (by exact rfl) (by exact rfl)) ?_
 refine r_op rfl rfl rfl (run_pick_and rfl (by exact rfl) (fun _ => (by exact rfl)) rfl) ?_
 refine r_op rfl rfl rfl (run_mv (v := .bool _) rfl (by exact rfl)) ?_
 refine r_gyes rfl (wantT (by exact rfl)) (by exact ⟨rfl, rfl⟩) ?_
 refine r_op rfl rfl rfl (run_mv (v := .slice _ _ _) rfl (by exact rfl)) ?_
 refine r_gyes rfl (wantT (by exact rfl)) (by exact ⟨rfl, rfl⟩) ?_
 refine r_op rfl rfl rfl (run_ix (0) rfl Tryz.underlying25 ty_3 (by exact rfl) (by exact rfl) rfl (by decide) (hr14.addr (i := 0) (by decide))) ?_
 have hA20 := hr14.atD (0) (by decide)
 refine r_gyes rfl (wantT (by exact rfl)) (by exact ⟨rfl, rfl⟩) ?_
 refine r_op rfl rfl rfl (run_ld1 rfl ag_3 (by exact rfl) (hA20.cell 0 (by exact rfl))) ?_
 refine r_gyes rfl (wantT (by exact rfl)) (by exact ⟨rfl, rfl⟩) ?_
 refine r_op rfl rfl rfl (run_eql rfl (by exact rfl) (by exact rfl)) ?_
 refine r_op rfl rfl rfl (run_pick_and rfl (by exact rfl) (fun _ => (by exact rfl)) rfl) ?_
 refine r_op rfl rfl rfl (run_mv (v := .bool _) rfl (by exact rfl)) ?_
 refine r_gyes rfl (wantT (by exact rfl)) (by exact ⟨⟨rfl, rfl⟩, rfl⟩) ?_
 refine r_op rfl rfl rfl (run_mv (v := .slice _ _ _) rfl (by exact rfl)) ?_
 refine r_gyes rfl (wantT (by exact rfl)) (by exact ⟨⟨rfl, rfl⟩, rfl⟩) ?_
 refine r_opcall rfl rfl rfl (run_callf (vs := [S _, .slice _ _ _]) rfl (by exact rfl) Tryz.func21 rfl (by kernel_rfl)) (has_calls hr12 known_toks known_toksl) ?_
 rintro e w21 ⟨rfl, hE21⟩
 refine ⟨_, rfl, ?_⟩
 have hs_w21 := (hE21).size
 replace hV := evo_step0 hV hE21
 replace hrb1 := hrb1.evo0 hE21
 replace hrb3 := hrb3.evo0 hE21
 replace hrb5 := hrb5.evo0 hE21
 replace hrb7 := hrb7.evo0 hE21
 replace hrb9 := hrb9.evo0 hE21
 replace hok11 := hok11.evo0 hE21
 replace hr12 := hr12.evo0 hE21
 replace hoM13 := hoM13.evo0 hE21
 replace hr14 := hr14.evo0 hE21
 replace hoS15 := hoS15.evo0 hE21
 replace hrb16 := hrb16.evo0 hE21
 replace hr18 := hr18.evo0 hE21
 refine r_op rfl rfl rfl (run_pick_andB rfl (by exact rfl) (fun _ => (by exact rfl)) rfl) ?_
 refine r_op rfl rfl rfl (run_mv (v := .bool _) rfl (by exact rfl)) ?_
 refine r_gyes rfl (wantT (by exact rfl)) (by exact ⟨⟨⟨rfl, rfl⟩, rfl⟩, known_has1⟩) ?_
 refine r_op rfl rfl rfl (run_mv (v := .slice _ _ _) rfl (by exact rfl)) ?_
 refine r_gyes rfl (wantT (by exact rfl)) (by exact ⟨⟨⟨rfl, rfl⟩, rfl⟩, known_has1⟩) ?_
 refine r_opcall rfl rfl rfl (run_callf (vs := [S _, .slice _ _ _]) rfl (by exact rfl) Tryz.func21 rfl (by kernel_rfl)) (has_calls hr12 known_toks known_toksl) ?_
 rintro e w22 ⟨rfl, hE22⟩
 refine ⟨_, rfl, ?_⟩
 have hs_w22 := (hE22).size
 replace hV := evo_step0 hV hE22
 replace hrb1 := hrb1.evo0 hE22
 replace hrb3 := hrb3.evo0 hE22
 replace hrb5 := hrb5.evo0 hE22
 replace hrb7 := hrb7.evo0 hE22
 replace hrb9 := hrb9.evo0 hE22
 replace hok11 := hok11.evo0 hE22
 replace hr12 := hr12.evo0 hE22
 replace hoM13 := hoM13.evo0 hE22
 replace hr14 := hr14.evo0 hE22
 replace hoS15 := hoS15.evo0 hE22
 replace hrb16 := hrb16.evo0 hE22
 replace hr18 := hr18.evo0 hE22
 refine r_gyes rfl (wantT (by exact rfl)) (by exact ⟨⟨⟨rfl, rfl⟩, rfl⟩, known_has1⟩) ?_
 refine r_op rfl rfl rfl (run_notb rfl (by exact rfl)) ?_
 refine r_op rfl rfl rfl (run_pick_andB rfl (by exact rfl) (fun _ => (by exact rfl)) rfl) ?_
 refine r_op rfl rfl rfl (run_asg (v := .bool _) rfl (by exact rfl)) ?_
 refine r_nil ?_
 refine r_ret (res1 (v := .bool _) rfl (by exact rfl)) ?_
 exact ⟨ret_bool (decide_eq_true ⟨⟨⟨⟨rfl, rfl⟩, rfl⟩, known_has1⟩, by rw [known_has2]; rfl⟩), hV⟩
end Go.Proofs.YtkklomiipkipnaaGreatDoor
