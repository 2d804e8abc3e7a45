import Derived.Test.YtomklacppmaljaaX18
namespace Go.Proofs.Ytomklacppmaljaa
open Go.RowKit Go.Vc

theorem stems_law {ao : Option Addr} {b off cap : Nat} {c : List Clas} {q p : Str} {aol : Option Addr} {bl offl capl : Nat} {l : List Int} {w0 : World} (hc : RowR w0 ao b off cap c) (hq : q.length ≤ 140737488351232) (hl : RowE w0 aol bl offl capl l) :
    Calls Try.prog 5 #[.slice ao c.length cap, S q, S p, .slice aol l.length capl] w0 fun e w' => e = .returned (.bool true) ∧ Evo w0 w' [] := by
 refine calls_enter (n := 57) (args := [.slice ao c.length cap, S q, S p, .slice aol l.length capl]) Try.func5 rfl Try.ntmps5 rfl ?_
 have hV : Evo w0 w0 [] := Evo.refl _ _
 have hc0 := hc.keep
 have hbd_hc := hc.bd
 have hl0 := keepE hl
 have hbd_hl := hl.bd
 refine r_seq ?_
 refine r_region ?_
 refine r_op rfl rfl rfl (run_asg (v := .bool _) rfl (by exact rfl)) ?_
 refine r_nil ?_
 refine r_seq ?_
 refine r_seq ?_
 refine r_region ?_
 refine r_op rfl rfl rfl (run_mv (v := .slice _ _ _) rfl (by exact rfl)) ?_
 refine r_bslice (pv := [(0, .slice _ _ _)]) (zs := [_]) (cs := [_]) Try.underlying101 ty_23 (by exact rfl) rfl (by exact rfl) rfl (by exact rfl) ?_
 intro b1 w2 heb1 hEw2 hbb1 hzb1
 have hs_w2 := (hEw2).size
 replace hV := evo_step0 hV hEw2
 replace hc := hc0.now hV
 replace hl := hl0 _ hV
 have hAb1 := hbb1.at
 have hrb1 : RowR w2 (some ⟨b1, 0, none⟩) b1 0 1 ([l] : List (List Int)) := rowLitR [[_]] ([l] : List (List Int)) hbb1 rfl (RepL.one (sl_rep hl)) rfl
 refine r_opcall rfl rfl rfl (run_callf (vs := [.slice (some ⟨b1, 0, none⟩) _ _]) rfl (by exact rfl) Try.func21 rfl (by kernel_rfl)) (long_calls hrb1 (by simp only [List.flatten_cons, List.flatten_nil, List.append_nil]; omega)) ?_
 rintro e w3 ⟨rfl, hE3⟩
 refine ⟨_, rfl, ?_⟩
 have hs_w3 := (hE3).size
 replace hV := evo_step0 hV hE3
 replace hc := hc0.now hV
 replace hl := hl0 _ hV
 replace hrb1 := hrb1.evo0 hE3
 refine r_op rfl rfl rfl (run_mvb rfl (by exact rfl)) ?_
 refine r_g rfl (wantF (by exact rfl)) rfl (fun hg => run_mv (v := .slice _ _ _) rfl (by exact rfl)) ?_
 refine r_gcallB rfl (wantF (by exact rfl)) rfl (fun hg => run_callf rfl (argcons (v := .slice _ _ _) (glv (by exact rfl) (fun h => h) hg) (rfl)) Try.func22 rfl (by kernel_rfl)) (fun hg => (bigx_calls hc)) ?_
 intro gx6 w4 hgx6 hE5
 have hs_w4 := (hE5).size
 replace hV := evo_step0 hV hE5
 replace hc := hc0.now hV
 replace hl := hl0 _ hV
 replace hrb1 := hrb1.evo0 hE5
 refine r_op rfl rfl rfl (run_pick_or rfl (by exact rfl) rfl (fun hq => glv (by exact rfl) (fun h => h) hq)) ?_
 refine r_op rfl rfl rfl (run_mv (v := .bool _) rfl (by exact rfl)) ?_
 refine r_g rfl (wantF (by exact rfl)) rfl (fun hg => run_mv (v := S _) rfl (by exact rfl)) ?_
 refine r_g rfl (wantF (by exact rfl)) rfl (fun hg => run_lenS rfl (glv (by exact rfl) (fun h => h) hg) Try.underlying9) ?_
 refine r_g rfl (wantF (by exact rfl)) rfl (fun hg => run_gtr rfl (glv (by exact rfl) (fun h => h) hg) (by exact rfl)) ?_
 refine r_op rfl rfl rfl (run_pick_or rfl (by exact rfl) rfl (fun hq => glv (by exact rfl) (fun h => h) hq)) ?_
 refine r_nil ?_
 refine r_cond (by exact rfl) (fun hc7 => ?_) (fun hc7 => ?_)
 ·skip
  refine r_seq ?_
  refine r_region ?_
  refine r_opcall rfl rfl rfl (run_callf (vs := []) rfl (by exact rfl) Try.func23 rfl (by kernel_rfl)) known_calls ?_
  rintro e w8 ⟨rfl, hE8⟩
  refine ⟨_, rfl, ?_⟩
  have hs_w8 := (hE8).size
  replace hV := evo_step0 hV hE8
  replace hc := hc0.now hV
  replace hl := hl0 _ hV
  replace hrb1 := hrb1.evo0 hE8
  refine r_op rfl rfl rfl (run_asg (v := .bool _) rfl (by exact rfl)) ?_
  refine r_nil ?_
  refine r_ret (res1 (v := .bool _) rfl (by exact rfl)) ?_
  first | exact ⟨rfl, hV⟩ | exact absurd hc7 (by simp)
 ·skip
  refine r_skip ?_
  refine r_seq ?_
  refine r_region ?_
  refine r_op rfl rfl rfl (run_mv (v := .slice _ _ _) rfl (by exact rfl)) ?_
  refine r_opcall rfl rfl rfl (run_callf (vs := [.slice _ _ _]) rfl (by exact rfl) Try.func25 rfl (by kernel_rfl)) from_calls ?_
  rintro e w9 ⟨bs9, rfl, hbs9, hE9, hbn9, hbA9⟩
  refine ⟨_, rfl, ?_⟩
  have hs_w9 := (hE9).size
  replace hV := evo_step0 hV hE9
  replace hc := hc0.now hV
  replace hl := hl0 _ hV
  replace hrb1 := hrb1.evo0 hE9
  refine r_opcall rfl rfl rfl (run_callf (vs := [.pointer _, .int _ _]) rfl (by exact rfl) Try.func24 rfl (by kernel_rfl)) (classes_calls (N := 0) (show Blk _ _ _ [_, .int .i64 ((0 : Nat) : Int)] from hbn9) (fun w9 h9 => hl0 _ (evo_step1 hV h9 (.inl (by omega)))) (by omega) (by omega) (by omega)) ?_
  rintro e w10 ⟨vc10, cl10, mc10, Nc10, rfl, hMC10, hNc10, hE10, hn10, hoC10⟩
  refine ⟨_, rfl, ?_⟩
  have hs_w10 := (hE10).size
  replace hV := evo_step1 hV hE10 (by first | exact .inl (by omega) | exact .inr (by simp))
  replace hc := hc0.now hV
  replace hl := hl0 _ hV
  replace hbn9 := hn10
  clear hn10
  have hbA9 := hbn9.at
  refine r_op rfl rfl rfl (run_asg (v := vc10) rfl (by exact rfl)) ?_
  refine r_nil ?_
  refine r_seq ?_
  refine r_seq ?_
  have hcb := clas_bd hc; have hmb := hMC10.1.bd (by omega)
  refine r_region ?_
  refine r_op rfl rfl rfl (run_mv (v := S _) rfl (by exact rfl)) ?_
  refine r_bslice (pv := [(0, S _), (1, S _), (2, S _), (3, S _), (4, S _)]) (zs := [_]) (cs := [_, _, _, _, _]) Try.underlying34 ty_9 (by exact rfl) rfl (by exact rfl) rfl (by exact rfl) ?_
  intro b11 w12 heb11 hEw12 hbb11 hzb11
  have hs_w12 := (hEw12).size
  replace hV := evo_step0 hV hEw12
  replace hc := hc0.now hV
  replace hl := hl0 _ hV
  replace hoC10 := hoC10.evo0 hEw12
  have hAb11 := hbb11.at
  have hrb11 : RowE w12 (some ⟨b11, 0, none⟩) b11 0 5 ([p, [99, 105, 116, 105, 101, 115], [67, 97, 114, 115], [105, 101, 115], [115]] : List Str) := rowLit ([p, [99, 105, 116, 105, 101, 115], [67, 97, 114, 115], [105, 101, 115], [115]] : List Str) hbb11 rfl rfl
  refine r_op rfl rfl rfl (run_lenSl rfl (by exact rfl) Try.underlying34) ?_
  refine r_op rfl rfl rfl (run_mv (v := .int _ _) rfl (by exact rfl)) ?_
  refine r_nil ?_
  refine r_block ?_
  have hI13 : Evo w12 w12 [] := Evo.refl _ _
  have hrb110 := keepE hrb11
  obtain ⟨ao14, g14, cp14, hv14, hr14⟩ := hoC10.rowOf
  subst hv14
  have hbd_hr14 := hr14.bd
  have hr140 := hr14.keep
  refine r_loop (α := Nat) [8, 11, 31, 32, 33, 34, 35, 36, 37, 38, 39, 40, 41, 42, 43, 44, 45, 46, 47, 48, 49, 50, 51, 52, 53, 54, 55] (fun k g w => g 31 = .int .i64 (k : Nat) ∧ k ≤ 5 ∧ w12.heap.size ≤ w.heap.size ∧ Evo w0 w [] ∧ Evo w12 w []) (fun k => 5 - k) 0 ?_ ?_
  ·refine ⟨(by first | exact rfl | exact congrArg (Value.int _) (by omega) | exact congrArg (Value.int _) (by dsimp only; omega) | exact congrArg (Value.int _) (by simp) | exact congrArg S (by simp)), (by first | assumption | omega | (dsimp only; omega) | (simp; done)), (by first | assumption | omega | (dsimp only; omega) | (simp; done)), hV, hI13⟩
  ·rintro k g w16 ⟨hj17, hk_k, hzl15, hV, hI13⟩
   have hs_w16hV := hV.size
   have hs_w16hI13 := hI13.size
   replace hc := hc0.now hV
   replace hl := hl0 _ hV
   replace hrb11 := hrb110 _ hI13
   replace hr14 := hr140.now hI13
   refine r_know (i := 31) (v := .int .i64 (k : Nat)) (by exact hj17) ?_
   refine r_seq ?_
   refine r_region ?_
   refine r_op rfl rfl rfl (run_lss rfl (by exact rfl) (by exact rfl)) ?_
   refine r_nil ?_
   refine r_seq ?_
   refine r_cond (by exact rfl) (fun hc18 => ?_) (fun hc18 => ?_)
   ·skip
    refine r_skip ?_
    refine r_seq ?_
    refine r_block ?_
    refine r_seq ?_
    refine r_region ?_
    refine r_op rfl rfl rfl (run_ix (k) rfl Try.underlying34 ty_9 (by exact rfl) (by exact rfl) (by first | exact rfl | omega) (by show _ < 5; omega) (hrb11.addr (i := k) (by show _ < 5; omega))) ?_
    have hA190 := fun (w' : World) (h : Evo w12 w' []) => (hrb110 w' h).atD (k) (by show _ < 5; omega)
    have hA19 := hA190 _ hI13
    refine r_op rfl rfl rfl (run_ld1 rfl ag_9 (by exact rfl) (hA19.cell 0 (by exact rfl))) ?_
    refine r_op rfl rfl rfl (run_asg (v := S _) rfl (by exact rfl)) ?_
    refine r_nil ?_
    refine r_seq ?_
    have hsl := in_len (l := ([p, [99, 105, 116, 105, 101, 115], [67, 97, 114, 115], [105, 101, 115], [115]] : List Str)) (n := 200) (by intro x hx; simp only [List.mem_cons, List.not_mem_nil, or_false] at hx; rcases hx with rfl | rfl | rfl | rfl | rfl <;> first | assumption | omega | decide) k
    refine r_region ?_
    refine r_op rfl rfl rfl (run_mv (v := .slice _ _ _) rfl (by exact rfl)) ?_
    refine r_op rfl rfl rfl (run_mv (v := S _) rfl (by exact rfl)) ?_
    refine r_op rfl rfl rfl (run_mv (v := S _) rfl (by exact rfl)) ?_
    refine r_opcall rfl rfl rfl (run_callf (vs := [.slice _ _ _, S _, S _]) rfl (by exact rfl) Try.func31 rfl (by kernel_rfl)) (stems_calls hc (ends_len hcb _) (ends_bd hcb _) (by omega) (by omega)) ?_
    rintro e w20 ⟨ao20, b20, off20, cap20, rfl, hE20, hr20⟩
    refine ⟨_, rfl, ?_⟩
    have hs_w20 := (hE20).size
    replace hV := evo_step0 hV hE20
    replace hI13 := evo_step0 hI13 hE20
    replace hc := hc0.now hV
    replace hl := hl0 _ hV
    replace hrb11 := hrb110 _ hI13
    replace hr14 := hr140.now hI13
    refine r_op rfl rfl rfl (run_mv (v := .slice _ _ _) rfl (by exact rfl)) ?_
    refine r_op rfl rfl rfl (run_mv (v := S _) rfl (by exact rfl)) ?_
    refine r_op rfl rfl rfl (run_mv (v := S _) rfl (by exact rfl)) ?_
    refine r_opcall rfl rfl rfl (run_callf (vs := [.slice _ _ _, S _, S _]) rfl (by exact rfl) Try.func32 rfl (by kernel_rfl)) (rstems_calls hc (ends_len hcb _) (ends_bd hcb _) (by omega) (by omega)) ?_
    rintro e w21 ⟨ao21, b21, off21, cap21, rfl, hE21, hr21⟩
    refine ⟨_, rfl, ?_⟩
    have hs_w21 := (hE21).size
    replace hV := evo_step0 hV hE21
    replace hI13 := evo_step0 hI13 hE21
    replace hc := hc0.now hV
    replace hl := hl0 _ hV
    replace hrb11 := hrb110 _ hI13
    replace hr14 := hr140.now hI13
    replace hr20 := hr20.evo0 hE21
    refine r_opcall rfl rfl rfl (run_callf (vs := [.slice _ _ _, .slice _ _ _]) rfl (by exact rfl) Try.func28 rfl (by kernel_rfl)) (sametexts_calls hr20 hr21) ?_
    rintro e w22 ⟨rfl, hE22⟩
    refine ⟨_, rfl, ?_⟩
    have hs_w22 := (hE22).size
    replace hV := evo_step0 hV hE22
    replace hI13 := evo_step0 hI13 hE22
    replace hc := hc0.now hV
    replace hl := hl0 _ hV
    replace hrb11 := hrb110 _ hI13
    replace hr14 := hr140.now hI13
    replace hr20 := hr20.evo0 hE22
    replace hr21 := hr21.evo0 hE22
    refine r_op rfl rfl rfl (run_notb rfl (by exact rfl)) ?_
    refine r_op rfl rfl rfl (run_mvb rfl (by exact rfl)) ?_
    refine r_gyes rfl (wantF (by exact rfl)) (by exact (by simp)) ?_
    refine r_op rfl rfl rfl (run_mv (v := .slice _ _ _) rfl (by exact rfl)) ?_
    refine r_gyes rfl (wantF (by exact rfl)) (by exact (by simp)) ?_
    refine r_op rfl rfl rfl (run_mv (v := S _) rfl (by exact rfl)) ?_
    refine r_gyes rfl (wantF (by exact rfl)) (by exact (by simp)) ?_
    refine r_opcall rfl rfl rfl (run_callf (vs := [.slice _ _ _, S _, S _]) rfl (by exact rfl) Try.func31 rfl (by kernel_rfl)) (stems_calls hr14 (ends_len hmb _) (ends_bd hmb _) (by omega) (by decide)) ?_
    rintro e w23 ⟨ao23, b23, off23, cap23, rfl, hE23, hr23⟩
    refine ⟨_, rfl, ?_⟩
    have hs_w23 := (hE23).size
    replace hV := evo_step0 hV hE23
    replace hI13 := evo_step0 hI13 hE23
    replace hc := hc0.now hV
    replace hl := hl0 _ hV
    replace hrb11 := hrb110 _ hI13
    replace hr14 := hr140.now hI13
    replace hr20 := hr20.evo0 hE23
    replace hr21 := hr21.evo0 hE23
    refine r_gyes rfl (wantF (by exact rfl)) (by exact (by simp)) ?_
    refine r_op rfl rfl rfl (run_mv (v := .slice _ _ _) rfl (by exact rfl)) ?_
    refine r_gyes rfl (wantF (by exact rfl)) (by exact (by simp)) ?_
    refine r_op rfl rfl rfl (run_mv (v := S _) rfl (by exact rfl)) ?_
    refine r_gyes rfl (wantF (by exact rfl)) (by exact (by simp)) ?_
    refine r_opcall rfl rfl rfl (run_callf (vs := [.slice _ _ _, S _, S _]) rfl (by exact rfl) Try.func32 rfl (by kernel_rfl)) (rstems_calls hr14 (ends_len hmb _) (ends_bd hmb _) (by omega) (by decide)) ?_
    rintro e w24 ⟨ao24, b24, off24, cap24, rfl, hE24, hr24⟩
    refine ⟨_, rfl, ?_⟩
    have hs_w24 := (hE24).size
    replace hV := evo_step0 hV hE24
    replace hI13 := evo_step0 hI13 hE24
    replace hc := hc0.now hV
    replace hl := hl0 _ hV
    replace hrb11 := hrb110 _ hI13
    replace hr14 := hr140.now hI13
    replace hr20 := hr20.evo0 hE24
    replace hr21 := hr21.evo0 hE24
    replace hr23 := hr23.evo0 hE24
    refine r_gyes rfl (wantF (by exact rfl)) (by exact (by simp)) ?_
    refine r_opcall rfl rfl rfl (run_callf (vs := [.slice _ _ _, .slice _ _ _]) rfl (by exact rfl) Try.func28 rfl (by kernel_rfl)) (sametexts_calls hr23 hr24) ?_
    rintro e w25 ⟨rfl, hE25⟩
    refine ⟨_, rfl, ?_⟩
    have hs_w25 := (hE25).size
    replace hV := evo_step0 hV hE25
    replace hI13 := evo_step0 hI13 hE25
    replace hc := hc0.now hV
    replace hl := hl0 _ hV
    replace hrb11 := hrb110 _ hI13
    replace hr14 := hr140.now hI13
    replace hr20 := hr20.evo0 hE25
    replace hr21 := hr21.evo0 hE25
    replace hr23 := hr23.evo0 hE25
    replace hr24 := hr24.evo0 hE25
    refine r_gyes rfl (wantF (by exact rfl)) (by exact (by simp)) ?_
    refine r_op rfl rfl rfl (run_notb rfl (by exact rfl)) ?_
    refine r_op rfl rfl rfl (run_pick_orB rfl (by exact rfl) rfl (fun _ => (by exact rfl))) ?_
    refine r_nil ?_
    refine r_cond (by exact rfl) (fun hc26 => ?_) (fun hc26 => ?_)
    ·skip
     refine r_seq ?_
     refine r_region ?_
     refine r_op rfl rfl rfl (run_asg (v := .bool _) rfl (by exact rfl)) ?_
     refine r_nil ?_
     refine r_ret (res1 (v := .bool _) rfl (by exact rfl)) ?_
     first | exact ⟨rfl, hV⟩ | exact absurd hc26 (by simp)
    ·skip
     refine r_skip ?_
     refine r_blk ?_
     refine r_region ?_
     refine r_op rfl rfl rfl (run_add rfl (by exact rfl) (by exact rfl) (by omega) (by omega)) ?_
     refine r_op rfl rfl rfl (run_mv (v := .int _ _) rfl (by exact rfl)) ?_
     refine r_nil ?_
     refine r_again (k + 1) ?_ ?_ ?_
     ·first | omega | (dsimp only; omega)
     ·refine ⟨(by first | exact rfl | exact congrArg (Value.int _) (by omega) | exact congrArg (Value.int _) (by dsimp only; omega) | exact congrArg (Value.int _) (by simp) | exact congrArg S (by simp)), (by first | assumption | omega | (dsimp only; omega) | (simp; done)), (by first | assumption | omega | (dsimp only; omega) | (simp; done)), hV, hI13⟩
     ·repeat (first | (with_reducible exact Agree.merge _ _ _) | (with_reducible exact Agree.refl _ _) | (with_reducible refine Agree.upd ?_ _ _ rfl) | ((with_reducible refine Agree.inner ?_ ?_); (kernel_rfl)))
   ·skip
    refine r_exit rfl ?_
    refine r_seq ?_
    refine r_region ?_
    refine r_opcall rfl rfl rfl (run_callf (vs := []) rfl (by exact rfl) Try.func23 rfl (by kernel_rfl)) known_calls ?_
    rintro e w27 ⟨rfl, hE27⟩
    refine ⟨_, rfl, ?_⟩
    have hs_w27 := (hE27).size
    replace hV := evo_step0 hV hE27
    replace hI13 := evo_step0 hI13 hE27
    replace hc := hc0.now hV
    replace hl := hl0 _ hV
    replace hrb11 := hrb110 _ hI13
    replace hr14 := hr140.now hI13
    refine r_op rfl rfl rfl (run_asg (v := .bool _) rfl (by exact rfl)) ?_
    refine r_nil ?_
    refine r_ret (res1 (v := .bool _) rfl (by exact rfl)) ?_
    first | exact ⟨rfl, hV⟩ | exact absurd hc18 (by simp)

end Go.Proofs.Ytomklacppmaljaa
