import Derived.Test.YtomklacppmaljaaX17
namespace Go.Proofs.Ytomklacppmaljaa
open Go.RowKit Go.Vc
theorem ag_33 : aggP Try.prog 33 = some true := by kernel_rfl
theorem bigx_calls {w0 : World} {ao : Option Addr} {b off cap : Nat} {c : List Clas} (hc : RowR w0 ao b off cap c) :
    Calls Try.prog 22 #[.slice ao c.length cap] w0 fun e w' => ∃ x, e = .returned (.bool x) ∧ True ∧ Evo w0 w' [] := (big_calls hc).mono fun e w' ⟨x, h1, h2⟩ => ⟨x, h1, trivial, h2⟩

theorem finds_law {ao : Option Addr} {b off cap : Nat} {c : List Clas} {n : Str} {aol : Option Addr} {bl offl capl : Nat} {l : List Int} {w0 : World} (hc : RowR w0 ao b off cap c) (hl : RowE w0 aol bl offl capl l) :
    Calls Try.prog 3 #[.slice ao c.length cap, S n, .slice aol l.length capl] w0 fun e w' => e = .returned (.bool true) ∧ Evo w0 w' [] := by
 refine calls_enter (n := 36) (args := [.slice ao c.length cap, S n, .slice aol l.length capl]) Try.func3 rfl Try.ntmps3 rfl ?_
 have hV : Evo w0 w0 [] := Evo.refl _ _
 have hc0 := hc.keep
 have hbd_hc := hc.bd
 have hl0 := keepE hl
 have hbd_hl := hl.bd
 refine r_seq ?_
 refine r_region ?_
 refine r_op rfl rfl rfl (run_asg (v := .bool _) rfl (by exact rfl)) ?_
 refine r_nil ?_
 refine r_seq ?_
 refine r_seq ?_
 refine r_region ?_
 refine r_op rfl rfl rfl (run_mv (v := .slice _ _ _) rfl (by exact rfl)) ?_
 refine r_bslice (pv := [(0, .slice _ _ _)]) (zs := [_]) (cs := [_]) Try.underlying101 ty_23 (by exact rfl) rfl (by exact rfl) rfl (by exact rfl) ?_
 intro b1 w2 heb1 hEw2 hbb1 hzb1
 have hs_w2 := (hEw2).size
 replace hV := evo_step0 hV hEw2
 replace hc := hc0.now hV
 replace hl := hl0 _ hV
 have hAb1 := hbb1.at
 have hrb1 : RowR w2 (some ⟨b1, 0, none⟩) b1 0 1 ([l] : List (List Int)) := rowLitR [[_]] ([l] : List (List Int)) hbb1 rfl (RepL.one (sl_rep hl)) rfl
 refine r_opcall rfl rfl rfl (run_callf (vs := [.slice (some ⟨b1, 0, none⟩) _ _]) rfl (by exact rfl) Try.func21 rfl (by kernel_rfl)) (long_calls hrb1 (by simp only [List.flatten_cons, List.flatten_nil, List.append_nil]; omega)) ?_
 rintro e w3 ⟨rfl, hE3⟩
 refine ⟨_, rfl, ?_⟩
 have hs_w3 := (hE3).size
 replace hV := evo_step0 hV hE3
 replace hc := hc0.now hV
 replace hl := hl0 _ hV
 replace hrb1 := hrb1.evo0 hE3
 refine r_op rfl rfl rfl (run_mvb rfl (by exact rfl)) ?_
 refine r_g rfl (wantF (by exact rfl)) rfl (fun hg => run_mv (v := .slice _ _ _) rfl (by exact rfl)) ?_
 refine r_gcallB rfl (wantF (by exact rfl)) rfl (fun hg => run_callf rfl (argcons (v := .slice _ _ _) (glv (by exact rfl) (fun h => h) hg) (rfl)) Try.func22 rfl (by kernel_rfl)) (fun hg => (bigx_calls hc)) ?_
 intro gx6 w4 hgx6 hE5
 have hs_w4 := (hE5).size
 replace hV := evo_step0 hV hE5
 replace hc := hc0.now hV
 replace hl := hl0 _ hV
 replace hrb1 := hrb1.evo0 hE5
 refine r_op rfl rfl rfl (run_pick_or rfl (by exact rfl) rfl (fun hq => glv (by exact rfl) (fun h => h) hq)) ?_
 refine r_nil ?_
 refine r_cond (by exact rfl) (fun hc7 => ?_) (fun hc7 => ?_)
 ·skip
  refine r_seq ?_
  refine r_region ?_
  refine r_opcall rfl rfl rfl (run_callf (vs := []) rfl (by exact rfl) Try.func23 rfl (by kernel_rfl)) known_calls ?_
  rintro e w8 ⟨rfl, hE8⟩
  refine ⟨_, rfl, ?_⟩
  have hs_w8 := (hE8).size
  replace hV := evo_step0 hV hE8
  replace hc := hc0.now hV
  replace hl := hl0 _ hV
  replace hrb1 := hrb1.evo0 hE8
  refine r_op rfl rfl rfl (run_asg (v := .bool _) rfl (by exact rfl)) ?_
  refine r_nil ?_
  refine r_ret (res1 (v := .bool _) rfl (by exact rfl)) ?_
  exact ⟨rfl, hV⟩
 ·skip
  refine r_skip ?_
  refine r_seq ?_
  refine r_region ?_
  refine r_op rfl rfl rfl (run_mv (v := .slice _ _ _) rfl (by exact rfl)) ?_
  refine r_opcall rfl rfl rfl (run_callf (vs := [.slice _ _ _]) rfl (by exact rfl) Try.func25 rfl (by kernel_rfl)) from_calls ?_
  rintro e w9 ⟨bs9, rfl, hbs9, hE9, hbn9, hbA9⟩
  refine ⟨_, rfl, ?_⟩
  have hs_w9 := (hE9).size
  replace hV := evo_step0 hV hE9
  replace hc := hc0.now hV
  replace hl := hl0 _ hV
  replace hrb1 := hrb1.evo0 hE9
  refine r_opcall rfl rfl rfl (run_callf (vs := [.pointer _, .int _ _]) rfl (by exact rfl) Try.func24 rfl (by kernel_rfl)) (classes_calls (N := 0) (show Blk _ _ _ [_, .int .i64 ((0 : Nat) : Int)] from hbn9) (fun w9 h9 => hl0 _ (evo_step1 hV h9 (.inl (by omega)))) (by omega) (by omega) (by omega)) ?_
  rintro e w10 ⟨vc10, cl10, mc10, Nc10, rfl, hMC10, hNc10, hE10, hn10, hoC10⟩
  refine ⟨_, rfl, ?_⟩
  have hs_w10 := (hE10).size
  replace hV := evo_step1 hV hE10 (by first | exact .inl (by omega) | exact .inr (by simp))
  replace hc := hc0.now hV
  replace hl := hl0 _ hV
  replace hbn9 := hn10
  clear hn10
  have hbA9 := hbn9.at
  refine r_op rfl rfl rfl (run_asg (v := vc10) rfl (by exact rfl)) ?_
  refine r_nil ?_
  refine r_seq ?_
  refine r_region ?_
  refine r_op rfl rfl rfl (run_mv (v := .slice _ _ _) rfl (by exact rfl)) ?_
  refine r_op rfl rfl rfl (run_mv (v := S _) rfl (by exact rfl)) ?_
  refine r_opcall rfl rfl rfl (run_callf (vs := [.slice _ _ _, S _]) rfl (by exact rfl) Try.func26 rfl (by kernel_rfl)) (find_calls hc) ?_
  rintro e w11 ⟨rfl, hE11⟩
  refine ⟨_, rfl, ?_⟩
  have hs_w11 := (hE11).size
  replace hV := evo_step0 hV hE11
  replace hc := hc0.now hV
  replace hl := hl0 _ hV
  replace hoC10 := hoC10.evo0 hE11
  refine r_op rfl rfl rfl (run_mv (v := .slice _ _ _) rfl (by exact rfl)) ?_
  refine r_op rfl rfl rfl (run_mv (v := S _) rfl (by exact rfl)) ?_
  refine r_opcall rfl rfl rfl (run_callf (vs := [.slice _ _ _, S _]) rfl (by exact rfl) Try.func27 rfl (by kernel_rfl)) (rfind_calls hc) ?_
  rintro e w12 ⟨rfl, hE12⟩
  refine ⟨_, rfl, ?_⟩
  have hs_w12 := (hE12).size
  replace hV := evo_step0 hV hE12
  replace hc := hc0.now hV
  replace hl := hl0 _ hV
  replace hoC10 := hoC10.evo0 hE12
  refine r_op rfl rfl rfl (run_eql rfl (by exact rfl) (by exact rfl)) ?_
  refine r_op rfl rfl rfl (run_mv (v := .bool _) rfl (by exact rfl)) ?_
  refine r_gyes rfl (wantT (by exact rfl)) (by exact rfl) ?_
  refine r_op rfl rfl rfl (run_mv (v := vc10) rfl (by exact rfl)) ?_
  refine r_gyes rfl (wantT (by exact rfl)) (by exact rfl) ?_
  obtain ⟨ao13, g13, cp13, hv13, hr13⟩ := hoC10.rowOf
  subst hv13
  have hbd_hr13 := hr13.bd
  refine r_opcall rfl rfl rfl (run_callf (vs := [.slice _ _ _, S _]) rfl (by exact rfl) Try.func26 rfl (by kernel_rfl)) (find_calls hr13) ?_
  rintro e w14 ⟨rfl, hE14⟩
  refine ⟨_, rfl, ?_⟩
  have hs_w14 := (hE14).size
  replace hV := evo_step0 hV hE14
  replace hc := hc0.now hV
  replace hl := hl0 _ hV
  replace hoC10 := hoC10.evo0 hE14
  replace hr13 := hr13.evo0 hE14
  refine r_gyes rfl (wantT (by exact rfl)) (by exact rfl) ?_
  refine r_op rfl rfl rfl (run_mv (v := .slice _ _ _) rfl (by exact rfl)) ?_
  refine r_gyes rfl (wantT (by exact rfl)) (by exact rfl) ?_
  refine r_opcall rfl rfl rfl (run_callf (vs := [.slice _ _ _, S _]) rfl (by exact rfl) Try.func27 rfl (by kernel_rfl)) (rfind_calls hr13) ?_
  rintro e w15 ⟨rfl, hE15⟩
  refine ⟨_, rfl, ?_⟩
  have hs_w15 := (hE15).size
  replace hV := evo_step0 hV hE15
  replace hc := hc0.now hV
  replace hl := hl0 _ hV
  replace hoC10 := hoC10.evo0 hE15
  replace hr13 := hr13.evo0 hE15
  refine r_gyes rfl (wantT (by exact rfl)) (by exact rfl) ?_
  refine r_op rfl rfl rfl (run_eql rfl (by exact rfl) (by exact rfl)) ?_
  refine r_op rfl rfl rfl (run_pick_and rfl (by exact rfl) (fun _ => (by exact rfl)) rfl) ?_
  refine r_op rfl rfl rfl (run_mv (v := .bool _) rfl (by exact rfl)) ?_
  refine r_gyes rfl (wantT (by exact rfl)) (by exact ⟨rfl, rfl⟩) ?_
  refine r_opcall rfl rfl rfl (run_callf (vs := []) rfl (by exact rfl) Try.func23 rfl (by kernel_rfl)) known_calls ?_
  rintro e w16 ⟨rfl, hE16⟩
  refine ⟨_, rfl, ?_⟩
  have hs_w16 := (hE16).size
  replace hV := evo_step0 hV hE16
  replace hc := hc0.now hV
  replace hl := hl0 _ hV
  replace hoC10 := hoC10.evo0 hE16
  replace hr13 := hr13.evo0 hE16
  refine r_op rfl rfl rfl (run_pick_andB rfl (by exact rfl) (fun _ => (by exact rfl)) rfl) ?_
  refine r_op rfl rfl rfl (run_asg (v := .bool _) rfl (by exact rfl)) ?_
  refine r_nil ?_
  refine r_ret (res1 (v := .bool _) rfl (by exact rfl)) ?_
  exact ⟨ret_bool (decide_eq_true ⟨⟨rfl, rfl⟩, rfl⟩), hV⟩

theorem forms_law {ao : Option Addr} {b off cap : Nat} {c : List Clas} {p q : Str} {aol : Option Addr} {bl offl capl : Nat} {l : List Int} {w0 : World} (hc : RowR w0 ao b off cap c) (hq : q.length ≤ 140737488351232) (hl : RowE w0 aol bl offl capl l) :
    Calls Try.prog 4 #[.slice ao c.length cap, (.agg #[S p, S q]), .slice aol l.length capl] w0 fun e w' => e = .returned (.bool true) ∧ Evo w0 w' [] := by
 refine calls_enter (n := 70) (args := [.slice ao c.length cap, (.agg #[S p, S q]), .slice aol l.length capl]) Try.func4 rfl Try.ntmps4 rfl ?_
 have hV : Evo w0 w0 [] := Evo.refl _ _
 have hc0 := hc.keep
 have hbd_hc := hc.bd
 have hl0 := keepE hl
 have hbd_hl := hl.bd
 refine r_seq ?_
 refine r_region ?_
 refine r_box (vs := [_, _]) (by exact rfl) (by exact rfl) rfl ?_
 intro b1 w2 heb1 hEw2 hbb1 hzb1
 have hs_w2 := (hEw2).size
 replace hV := evo_step0 hV hEw2
 replace hc := hc0.now hV
 replace hl := hl0 _ hV
 have hAb1 := hbb1.at
 refine r_op rfl rfl rfl (run_asg (v := .bool _) rfl (by exact rfl)) ?_
 refine r_nil ?_
 refine r_seq ?_
 refine r_seq ?_
 refine r_region ?_
 refine r_op rfl rfl rfl (run_mv (v := .slice _ _ _) rfl (by exact rfl)) ?_
 refine r_bslice (pv := [(0, .slice _ _ _)]) (zs := [_]) (cs := [_]) Try.underlying101 ty_23 (by exact rfl) rfl (by exact rfl) rfl (by exact rfl) ?_
 intro b3 w4 heb3 hEw4 hbb3 hzb3
 have hs_w4 := (hEw4).size
 replace hV := evo_step0 hV hEw4
 replace hc := hc0.now hV
 replace hl := hl0 _ hV
 replace hbb1 := hbb1.evo0 hEw4
 replace hAb1 := hAb1.evo0 hEw4
 have hAb3 := hbb3.at
 have hrb3 : RowR w4 (some ⟨b3, 0, none⟩) b3 0 1 ([l] : List (List Int)) := rowLitR [[_]] ([l] : List (List Int)) hbb3 rfl (RepL.one (sl_rep hl)) rfl
 refine r_opcall rfl rfl rfl (run_callf (vs := [.slice (some ⟨b3, 0, none⟩) _ _]) rfl (by exact rfl) Try.func21 rfl (by kernel_rfl)) (long_calls hrb3 (by simp only [List.flatten_cons, List.flatten_nil, List.append_nil]; omega)) ?_
 rintro e w5 ⟨rfl, hE5⟩
 refine ⟨_, rfl, ?_⟩
 have hs_w5 := (hE5).size
 replace hV := evo_step0 hV hE5
 replace hc := hc0.now hV
 replace hl := hl0 _ hV
 replace hbb1 := hbb1.evo0 hE5
 replace hAb1 := hAb1.evo0 hE5
 replace hrb3 := hrb3.evo0 hE5
 refine r_op rfl rfl rfl (run_mvb rfl (by exact rfl)) ?_
 refine r_g rfl (wantF (by exact rfl)) rfl (fun hg => run_mv (v := .slice _ _ _) rfl (by exact rfl)) ?_
 refine r_gcallB rfl (wantF (by exact rfl)) rfl (fun hg => run_callf rfl (argcons (v := .slice _ _ _) (glv (by exact rfl) (fun h => h) hg) (rfl)) Try.func22 rfl (by kernel_rfl)) (fun hg => (bigx_calls hc)) ?_
 intro gx8 w6 hgx8 hE7
 have hs_w6 := (hE7).size
 replace hV := evo_step0 hV hE7
 replace hc := hc0.now hV
 replace hl := hl0 _ hV
 replace hbb1 := hbb1.evo0 hE7
 replace hAb1 := hAb1.evo0 hE7
 replace hrb3 := hrb3.evo0 hE7
 refine r_op rfl rfl rfl (run_pick_or rfl (by exact rfl) rfl (fun hq => glv (by exact rfl) (fun h => h) hq)) ?_
 refine r_op rfl rfl rfl (run_mv (v := .bool _) rfl (by exact rfl)) ?_
 refine r_g rfl (wantF (by exact rfl)) rfl (fun hg => run_fa rfl (by exact rfl) fo_33_0) ?_
 refine r_g rfl (wantF (by exact rfl)) rfl (fun hg => run_ld1 rfl ag_9 (glv (by exact rfl) (fun h => h) hg) (hAb1.cell 0 (by exact rfl))) ?_
 refine r_g rfl (wantF (by exact rfl)) rfl (fun hg => run_lenS rfl (glv (by exact rfl) (fun h => h) hg) Try.underlying9) ?_
 refine r_g rfl (wantF (by exact rfl)) rfl (fun hg => run_gtr rfl (glv (by exact rfl) (fun h => h) hg) (by exact rfl)) ?_
 refine r_op rfl rfl rfl (run_pick_or rfl (by exact rfl) rfl (fun hq => glv (by exact rfl) (fun h => h) hq)) ?_
 refine r_nil ?_
 refine r_cond (by exact rfl) (fun hc9 => ?_) (fun hc9 => ?_)
 ·skip
  refine r_seq ?_
  refine r_region ?_
  refine r_opcall rfl rfl rfl (run_callf (vs := []) rfl (by exact rfl) Try.func23 rfl (by kernel_rfl)) known_calls ?_
  rintro e w10 ⟨rfl, hE10⟩
  refine ⟨_, rfl, ?_⟩
  have hs_w10 := (hE10).size
  replace hV := evo_step0 hV hE10
  replace hc := hc0.now hV
  replace hl := hl0 _ hV
  replace hbb1 := hbb1.evo0 hE10
  replace hAb1 := hAb1.evo0 hE10
  replace hrb3 := hrb3.evo0 hE10
  refine r_op rfl rfl rfl (run_asg (v := .bool _) rfl (by exact rfl)) ?_
  refine r_nil ?_
  refine r_ret (res1 (v := .bool _) rfl (by exact rfl)) ?_
  first | exact ⟨rfl, hV⟩ | exact absurd hc9 (by simp)
 ·skip
  refine r_skip ?_
  refine r_seq ?_
  refine r_region ?_
  refine r_op rfl rfl rfl (run_mv (v := .slice _ _ _) rfl (by exact rfl)) ?_
  refine r_opcall rfl rfl rfl (run_callf (vs := [.slice _ _ _]) rfl (by exact rfl) Try.func25 rfl (by kernel_rfl)) from_calls ?_
  rintro e w11 ⟨bs11, rfl, hbs11, hE11, hbn11, hbA11⟩
  refine ⟨_, rfl, ?_⟩
  have hs_w11 := (hE11).size
  replace hV := evo_step0 hV hE11
  replace hc := hc0.now hV
  replace hl := hl0 _ hV
  replace hbb1 := hbb1.evo0 hE11
  replace hAb1 := hAb1.evo0 hE11
  replace hrb3 := hrb3.evo0 hE11
  refine r_opcall rfl rfl rfl (run_callf (vs := [.pointer _, .int _ _]) rfl (by exact rfl) Try.func24 rfl (by kernel_rfl)) (classes_calls (N := 0) (show Blk _ _ _ [_, .int .i64 ((0 : Nat) : Int)] from hbn11) (fun w9 h9 => hl0 _ (evo_step1 hV h9 (.inl (by omega)))) (by omega) (by omega) (by omega)) ?_
  rintro e w12 ⟨vc12, cl12, mc12, Nc12, rfl, hMC12, hNc12, hE12, hn12, hoC12⟩
  refine ⟨_, rfl, ?_⟩
  have hs_w12 := (hE12).size
  replace hV := evo_step1 hV hE12 (by first | exact .inl (by omega) | exact .inr (by simp))
  replace hc := hc0.now hV
  replace hl := hl0 _ hV
  replace hbb1 := hbb1.evo hE12 (by simp; omega)
  replace hAb1 := hAb1.evo hE12 (by simp; omega)
  replace hbn11 := hn12
  clear hn12
  have hbA11 := hbn11.at
  refine r_op rfl rfl rfl (run_asg (v := vc12) rfl (by exact rfl)) ?_
  refine r_nil ?_
  refine r_seq ?_
  refine r_seq ?_
  have hcb := clas_bd hc; have hmb := hMC12.1.bd (by omega)
  refine r_region ?_
  refine r_op rfl rfl rfl (run_fa rfl (by exact rfl) fo_33_0) ?_
  refine r_op rfl rfl rfl (run_ld1 rfl ag_9 (by exact rfl) (hAb1.cell 0 (by exact rfl))) ?_
  refine r_bslice (pv := [(0, S _), (1, S _), (2, S _), (3, S _)]) (zs := [_]) (cs := [_, _, _, _]) Try.underlying34 ty_9 (by exact rfl) rfl (by exact rfl) rfl (by exact rfl) ?_
  intro b13 w14 heb13 hEw14 hbb13 hzb13
  have hs_w14 := (hEw14).size
  replace hV := evo_step0 hV hEw14
  replace hc := hc0.now hV
  replace hl := hl0 _ hV
  replace hbb1 := hbb1.evo0 hEw14
  replace hAb1 := hAb1.evo0 hEw14
  replace hoC12 := hoC12.evo0 hEw14
  have hAb13 := hbb13.at
  have hrb13 : RowE w14 (some ⟨b13, 0, none⟩) b13 0 4 ([p, [99, 105, 116, 121], [67, 97, 114, 115], [97]] : List Str) := rowLit ([p, [99, 105, 116, 121], [67, 97, 114, 115], [97]] : List Str) hbb13 rfl rfl
  refine r_op rfl rfl rfl (run_lenSl rfl (by exact rfl) Try.underlying34) ?_
  refine r_op rfl rfl rfl (run_mv (v := .int _ _) rfl (by exact rfl)) ?_
  refine r_nil ?_
  refine r_block ?_
  have hI15 : Evo w14 w14 [] := Evo.refl _ _
  have hrb130 := keepE hrb13
  obtain ⟨ao16, g16, cp16, hv16, hr16⟩ := hoC12.rowOf
  subst hv16
  have hbd_hr16 := hr16.bd
  have hr160 := hr16.keep
  refine r_loop (α := Nat) [6, 9, 11, 12, 34, 35, 36, 37, 38, 39, 40, 41, 42, 43, 44, 45, 46, 47, 48, 49, 50, 51, 52, 53, 54, 55, 56, 57, 58, 59, 60, 61, 62, 63, 64, 65, 66, 67, 68] (fun kk g w => g 34 = .int .i64 (kk : Nat) ∧ kk ≤ 4 ∧ At w b1 0 [S p, S q] ∧ w14.heap.size ≤ w.heap.size ∧ Evo w0 w [] ∧ Evo w14 w []) (fun kk => 4 - kk) 0 ?_ ?_
  ·refine ⟨(by first | exact rfl | exact congrArg (Value.int _) (by omega) | exact congrArg (Value.int _) (by dsimp only; omega) | exact congrArg (Value.int _) (by simp) | exact congrArg S (by simp)), (by first | assumption | omega | (dsimp only; omega) | (simp; done)), hAb1, (by first | assumption | omega | (dsimp only; omega) | (simp; done)), hV, hI15⟩
  ·rintro kk g w18 ⟨hj19, hk_kk, hAb1, hzl17, hV, hI15⟩
   have hs_w18hV := hV.size
   have hs_w18hI15 := hI15.size
   replace hc := hc0.now hV
   replace hl := hl0 _ hV
   replace hrb13 := hrb130 _ hI15
   replace hr16 := hr160.now hI15
   refine r_know (i := 34) (v := .int .i64 (kk : Nat)) (by exact hj19) ?_
   refine r_seq ?_
   refine r_region ?_
   refine r_op rfl rfl rfl (run_lss rfl (by exact rfl) (by exact rfl)) ?_
   refine r_nil ?_
   refine r_seq ?_
   refine r_cond (by exact rfl) (fun hc20 => ?_) (fun hc20 => ?_)
   ·skip
    refine r_skip ?_
    refine r_seq ?_
    refine r_block ?_
    refine r_seq ?_
    refine r_region ?_
    refine r_op rfl rfl rfl (run_ix (kk) rfl Try.underlying34 ty_9 (by exact rfl) (by exact rfl) (by first | exact rfl | omega) (by show _ < 4; omega) (hrb13.addr (i := kk) (by show _ < 4; omega))) ?_
    have hA210 := fun (w' : World) (h : Evo w14 w' []) => (hrb130 w' h).atD (kk) (by show _ < 4; omega)
    have hA21 := hA210 _ hI15
    refine r_op rfl rfl rfl (run_ld1 rfl ag_9 (by exact rfl) (hA21.cell 0 (by exact rfl))) ?_
    refine r_op rfl rfl rfl (run_asg (v := S _) rfl (by exact rfl)) ?_
    refine r_nil ?_
    refine r_seq ?_
    refine r_region ?_
    refine r_op rfl rfl rfl (run_fa rfl (by exact rfl) fo_33_1) ?_
    refine r_op rfl rfl rfl (run_ld1 rfl ag_9 (by exact rfl) (hAb1.cell 1 (by exact rfl))) ?_
    refine r_bslice (pv := [(0, S _), (1, S _), (2, S _)]) (zs := [_]) (cs := [_, _, _]) Try.underlying34 ty_9 (by exact rfl) rfl (by exact rfl) rfl (by exact rfl) ?_
    intro b22 w23 heb22 hEw23 hbb22 hzb22
    have hs_w23 := (hEw23).size
    replace hV := evo_step0 hV hEw23
    replace hI15 := evo_step0 hI15 hEw23
    replace hc := hc0.now hV
    replace hl := hl0 _ hV
    replace hrb13 := hrb130 _ hI15
    replace hr16 := hr160.now hI15
    replace hAb1 := hAb1.evo0 hEw23
    have hAb22 := hbb22.at
    have hrb22 : RowE w23 (some ⟨b22, 0, none⟩) b22 0 3 ([q, [99, 49], [99, 50]] : List Str) := rowLit ([q, [99, 49], [99, 50]] : List Str) hbb22 rfl rfl
    refine r_op rfl rfl rfl (run_lenSl rfl (by exact rfl) Try.underlying34) ?_
    refine r_op rfl rfl rfl (run_mv (v := .int _ _) rfl (by exact rfl)) ?_
    refine r_nil ?_
    refine r_block ?_
    have hI24 : Evo w23 w23 [] := Evo.refl _ _
    have hrb220 := keepE hrb22
    refine r_loop (α := Nat) [6, 11, 12, 42, 43, 44, 45, 46, 47, 48, 49, 50, 51, 52, 53, 54, 55, 56, 57, 58, 59, 60, 61, 62, 63, 64, 65, 66, 67] (fun k g w => g 42 = .int .i64 (k : Nat) ∧ k ≤ 3 ∧ At w b1 0 [S p, S q] ∧ w23.heap.size ≤ w.heap.size ∧ Evo w0 w [] ∧ Evo w14 w [] ∧ Evo w23 w []) (fun k => 3 - k) 0 ?_ ?_
    ·refine ⟨(by first | exact rfl | exact congrArg (Value.int _) (by omega) | exact congrArg (Value.int _) (by dsimp only; omega) | exact congrArg (Value.int _) (by simp) | exact congrArg S (by simp)), (by first | assumption | omega | (dsimp only; omega) | (simp; done)), hAb1, (by first | assumption | omega | (dsimp only; omega) | (simp; done)), hV, hI15, hI24⟩
    ·rintro k g w26 ⟨hj27, hk_k, hAb1, hzl25, hV, hI15, hI24⟩
     have hs_w26hV := hV.size
     have hs_w26hI15 := hI15.size
     have hs_w26hI24 := hI24.size
     replace hc := hc0.now hV
     replace hl := hl0 _ hV
     replace hrb13 := hrb130 _ hI15
     replace hr16 := hr160.now hI15
     replace hA21 := hA210 _ hI15
     replace hrb22 := hrb220 _ hI24
     refine r_know (i := 42) (v := .int .i64 (k : Nat)) (by exact hj27) ?_
     refine r_seq ?_
     refine r_region ?_
     refine r_op rfl rfl rfl (run_lss rfl (by exact rfl) (by exact rfl)) ?_
     refine r_nil ?_
     refine r_seq ?_
     refine r_cond (by exact rfl) (fun hc28 => ?_) (fun hc28 => ?_)
     ·skip
      refine r_skip ?_
      refine r_seq ?_
      refine r_block ?_
      refine r_seq ?_
      refine r_region ?_
      refine r_op rfl rfl rfl (run_ix (k) rfl Try.underlying34 ty_9 (by exact rfl) (by exact rfl) (by first | exact rfl | omega) (by show _ < 3; omega) (hrb22.addr (i := k) (by show _ < 3; omega))) ?_
      have hA290 := fun (w' : World) (h : Evo w23 w' []) => (hrb220 w' h).atD (k) (by show _ < 3; omega)
      have hA29 := hA290 _ hI24
      refine r_op rfl rfl rfl (run_ld1 rfl ag_9 (by exact rfl) (hA29.cell 0 (by exact rfl))) ?_
      refine r_op rfl rfl rfl (run_asg (v := S _) rfl (by exact rfl)) ?_
      refine r_nil ?_
      refine r_seq ?_
      refine r_region ?_
      refine r_op rfl rfl rfl (run_mv (v := S _) rfl (by exact rfl)) ?_
      refine r_op rfl rfl rfl (run_mv (v := S _) rfl (by exact rfl)) ?_
      refine r_op rfl rfl rfl (run_bld (pv := [(0, S _), (1, S _)]) (zs := [_, _]) (cells := [_, _]) rfl ty_33 (by exact rfl) pl_33 (by exact rfl) (by exact rfl)) ?_
      refine r_var (zs := [_, _]) (vs := [_, _]) ty_33 (by exact rfl) rfl (by exact rfl) (fun _ => rfl) (by exact rfl) rfl rfl (by exact rfl) ?_
      intro b30 w31 heb30 hEw31 hbb30 hzb30
      have hs_w31 := (hEw31).size
      replace hV := evo_step0 hV hEw31
      replace hI15 := evo_step0 hI15 hEw31
      replace hI24 := evo_step0 hI24 hEw31
      replace hc := hc0.now hV
      replace hl := hl0 _ hV
      replace hrb13 := hrb130 _ hI15
      replace hr16 := hr160.now hI15
      replace hrb22 := hrb220 _ hI24
      replace hAb1 := hAb1.evo0 hEw31
      have hAb30 := hbb30.at
      refine r_nil ?_
      refine r_seq ?_
      have hsl := in_len (l := ([p, [99, 105, 116, 121], [67, 97, 114, 115], [97]] : List Str)) (n := 200) (by intro x hx; simp only [List.mem_cons, List.not_mem_nil, or_false] at hx; rcases hx with rfl | rfl | rfl | rfl <;> first | assumption | omega | decide) kk; have hnl := in_len (l := ([q, [99, 49], [99, 50]] : List Str)) (n := 140737488351232) (by intro x hx; simp only [List.mem_cons, List.not_mem_nil, or_false] at hx; rcases hx with rfl | rfl | rfl <;> first | assumption | omega | decide) k
      have hbb30_q := hbb30
      have hAb30_q := hAb30
      have hV_q := hV
      have hI15_q := hI15
      have hI24_q := hI24
      refine h_region ([]) (by kernel_rfl) ?_
      intro w32 hE33 hCst11
      have hs_w32 := (hE33).size
      replace hV := evo_step0 hV hE33
      replace hI15 := evo_step0 hI15 hE33
      replace hI24 := evo_step0 hI24 hE33
      replace hc := hc0.now hV
      replace hl := hl0 _ hV
      replace hrb13 := hrb130 _ hI15
      replace hr16 := hr160.now hI15
      replace hrb22 := hrb220 _ hI24
      replace hAb1 := hAb1.evo0 hE33
      replace hbb30 := hbb30.evo0 hE33
      replace hAb30 := hAb30.evo0 hE33
      refine h_take (i := 0) (by exact rfl) rfl rfl rfl (by kernel_rfl) (fun w' hC => run_mv (v := .slice _ _ _) rfl (by exact rfl)) hCst11 ?_
      refine h_take (i := 1) (by exact rfl) rfl rfl rfl (by kernel_rfl) (fun w' hC => run_ldN rfl ag_33 ty_33 (by exact rfl) rfl (hAb30_q.evo0 hC)) hCst11 ?_
      refine h_take (i := 3) (by exact rfl) rfl rfl rfl (by kernel_rfl) (fun w' hC => run_mv (v := .slice _ _ _) rfl (by exact rfl)) hCst11 ?_
      refine h_take (i := 4) (by exact rfl) rfl rfl rfl (by kernel_rfl) (fun w' hC => run_ldN rfl ag_33 ty_33 (by exact rfl) rfl (hAb30_q.evo0 hC)) hCst11 ?_
      refine h_one (i := 2) (by kernel_rfl) ?_
      refine h_do (by exact rfl) ?_
      refine r_opcall rfl rfl rfl (run_callf (vs := [.slice _ _ _, .agg _]) rfl (by exact rfl) Try.func29 rfl (by kernel_rfl)) (forms_calls hc (ends_len hcb _) (ends_bd hcb _) (by omega) (by omega)) ?_
      rintro e w34 ⟨ao34, b34, off34, cap34, rfl, hE34, hr34⟩
      refine ⟨_, rfl, ?_⟩
      have hs_w34 := (hE34).size
      replace hV := evo_step0 hV hE34
      replace hI15 := evo_step0 hI15 hE34
      replace hI24 := evo_step0 hI24 hE34
      replace hCst11 := evo_step0 hCst11 hE34
      replace hc := hc0.now hV
      replace hl := hl0 _ hV
      replace hrb13 := hrb130 _ hI15
      replace hr16 := hr160.now hI15
      replace hrb22 := hrb220 _ hI24
      replace hAb1 := hAb1.evo0 hE34
      replace hbb30 := hbb30.evo0 hE34
      replace hAb30 := hAb30.evo0 hE34
      refine h_next hCst11 ?_
      refine h_one (i := 5) (by kernel_rfl) ?_
      refine h_do (by exact rfl) ?_
      refine r_opcall rfl rfl rfl (run_callf (vs := [.slice _ _ _, .agg _]) rfl (by exact rfl) Try.func30 rfl (by kernel_rfl)) (rforms_calls hc (ends_len hcb _) (ends_bd hcb _) (by omega) (by omega)) ?_
      rintro e w35 ⟨ao35, b35, off35, cap35, rfl, hE35, hr35⟩
      refine ⟨_, rfl, ?_⟩
      have hs_w35 := (hE35).size
      replace hV := evo_step0 hV hE35
      replace hI15 := evo_step0 hI15 hE35
      replace hI24 := evo_step0 hI24 hE35
      replace hCst11 := evo_step0 hCst11 hE35
      replace hc := hc0.now hV
      replace hl := hl0 _ hV
      replace hrb13 := hrb130 _ hI15
      replace hr16 := hr160.now hI15
      replace hrb22 := hrb220 _ hI24
      replace hAb1 := hAb1.evo0 hE35
      replace hbb30 := hbb30.evo0 hE35
      replace hAb30 := hAb30.evo0 hE35
      replace hr34 := hr34.evo0 hE35
      refine h_next hCst11 ?_
      refine h_one (i := 6) (by kernel_rfl) ?_
      refine h_do (by exact rfl) ?_
      refine r_opcall rfl rfl rfl (run_callf (vs := [.slice _ _ _, .slice _ _ _]) rfl (by exact rfl) Try.func28 rfl (by kernel_rfl)) (sametexts_calls hr34 hr35) ?_
      rintro e w36 ⟨rfl, hE36⟩
      refine ⟨_, rfl, ?_⟩
      have hs_w36 := (hE36).size
      replace hV := evo_step0 hV hE36
      replace hI15 := evo_step0 hI15 hE36
      replace hI24 := evo_step0 hI24 hE36
      replace hCst11 := evo_step0 hCst11 hE36
      replace hc := hc0.now hV
      replace hl := hl0 _ hV
      replace hrb13 := hrb130 _ hI15
      replace hr16 := hr160.now hI15
      replace hrb22 := hrb220 _ hI24
      replace hAb1 := hAb1.evo0 hE36
      replace hbb30 := hbb30.evo0 hE36
      replace hAb30 := hAb30.evo0 hE36
      replace hr34 := hr34.evo0 hE36
      replace hr35 := hr35.evo0 hE36
      refine h_next hCst11 ?_
      refine h_take (i := 7) (by exact rfl) rfl rfl rfl (by kernel_rfl) (fun w' hC => run_notb rfl (by exact rfl)) hCst11 ?_
      refine h_take (i := 8) (by exact rfl) rfl rfl rfl (by kernel_rfl) (fun w' hC => run_mvb rfl (by exact rfl)) hCst11 ?_
      refine h_takeY (i := 9) (by exact rfl) (by exact rfl) rfl (wantF (by exact rfl)) (by exact (by simp)) rfl rfl (by kernel_rfl) (fun w' hC => run_mv (v := .slice _ _ _) rfl (by exact rfl)) hCst11 ?_
      refine h_takeY (i := 10) (by exact rfl) (by exact rfl) rfl (wantF (by exact rfl)) (by exact (by simp)) rfl rfl (by kernel_rfl) (fun w' hC => run_ldN rfl ag_33 ty_33 (by exact rfl) rfl (hAb30_q.evo0 hC)) hCst11 ?_
      refine h_takeY (i := 12) (by exact rfl) (by exact rfl) rfl (wantF (by exact rfl)) (by exact (by simp)) rfl rfl (by kernel_rfl) (fun w' hC => run_mv (v := .slice _ _ _) rfl (by exact rfl)) hCst11 ?_
      refine h_takeY (i := 13) (by exact rfl) (by exact rfl) rfl (wantF (by exact rfl)) (by exact (by simp)) rfl rfl (by kernel_rfl) (fun w' hC => run_ldN rfl ag_33 ty_33 (by exact rfl) rfl (hAb30_q.evo0 hC)) hCst11 ?_
      refine h_one (i := 11) (by kernel_rfl) ?_
      refine h_do (by exact rfl) ?_
      refine r_gyes rfl (wantF (by exact rfl)) (by exact (by simp)) ?_
      refine r_opcall rfl rfl rfl (run_callf (vs := [.slice _ _ _, .agg _]) rfl (by exact rfl) Try.func29 rfl (by kernel_rfl)) (forms_calls hr16 (ends_len hmb _) (ends_bd hmb _) (by omega) (by omega)) ?_
      rintro e w37 ⟨ao37, b37, off37, cap37, rfl, hE37, hr37⟩
      refine ⟨_, rfl, ?_⟩
      have hs_w37 := (hE37).size
      replace hV := evo_step0 hV hE37
      replace hI15 := evo_step0 hI15 hE37
      replace hI24 := evo_step0 hI24 hE37
      replace hCst11 := evo_step0 hCst11 hE37
      replace hc := hc0.now hV
      replace hl := hl0 _ hV
      replace hrb13 := hrb130 _ hI15
      replace hr16 := hr160.now hI15
      replace hrb22 := hrb220 _ hI24
      replace hAb1 := hAb1.evo0 hE37
      replace hbb30 := hbb30.evo0 hE37
      replace hAb30 := hAb30.evo0 hE37
      replace hr34 := hr34.evo0 hE37
      replace hr35 := hr35.evo0 hE37
      refine h_next hCst11 ?_
      refine h_one (i := 14) (by kernel_rfl) ?_
      refine h_do (by exact rfl) ?_
      refine r_gyes rfl (wantF (by exact rfl)) (by exact (by simp)) ?_
      refine r_opcall rfl rfl rfl (run_callf (vs := [.slice _ _ _, .agg _]) rfl (by exact rfl) Try.func30 rfl (by kernel_rfl)) (rforms_calls hr16 (ends_len hmb _) (ends_bd hmb _) (by omega) (by omega)) ?_
      rintro e w38 ⟨ao38, b38, off38, cap38, rfl, hE38, hr38⟩
      refine ⟨_, rfl, ?_⟩
      have hs_w38 := (hE38).size
      replace hV := evo_step0 hV hE38
      replace hI15 := evo_step0 hI15 hE38
      replace hI24 := evo_step0 hI24 hE38
      replace hCst11 := evo_step0 hCst11 hE38
      replace hc := hc0.now hV
      replace hl := hl0 _ hV
      replace hrb13 := hrb130 _ hI15
      replace hr16 := hr160.now hI15
      replace hrb22 := hrb220 _ hI24
      replace hAb1 := hAb1.evo0 hE38
      replace hr34 := hr34.evo0 hE38
      replace hr35 := hr35.evo0 hE38
      replace hr37 := hr37.evo0 hE38
      refine h_next hCst11 ?_
      refine h_one (i := 15) (by kernel_rfl) ?_
      refine h_do (by exact rfl) ?_
      refine r_gyes rfl (wantF (by exact rfl)) (by exact (by simp)) ?_
      refine r_opcall rfl rfl rfl (run_callf (vs := [.slice _ _ _, .slice _ _ _]) rfl (by exact rfl) Try.func28 rfl (by kernel_rfl)) (sametexts_calls hr37 hr38) ?_
      rintro e w39 ⟨rfl, hE39⟩
      refine ⟨_, rfl, ?_⟩
      have hs_w39 := (hE39).size
      replace hV := evo_step0 hV hE39
      replace hI15 := evo_step0 hI15 hE39
      replace hI24 := evo_step0 hI24 hE39
      replace hCst11 := evo_step0 hCst11 hE39
      replace hc := hc0.now hV
      replace hl := hl0 _ hV
      replace hrb13 := hrb130 _ hI15
      replace hr16 := hr160.now hI15
      replace hrb22 := hrb220 _ hI24
      replace hAb1 := hAb1.evo0 hE39
      replace hr34 := hr34.evo0 hE39
      replace hr35 := hr35.evo0 hE39
      replace hr37 := hr37.evo0 hE39
      replace hr38 := hr38.evo0 hE39
      refine h_next hCst11 ?_
      refine h_takeY (i := 16) (by exact rfl) (by exact rfl) rfl (wantF (by exact rfl)) (by exact (by simp)) rfl rfl (by kernel_rfl) (fun w' hC => run_notb rfl (by exact rfl)) hCst11 ?_
      refine h_take (i := 17) (by exact rfl) rfl rfl rfl (by kernel_rfl) (fun w' hC => run_pick_orB rfl (by exact rfl) rfl (fun _ => (by exact rfl))) hCst11 ?_
      refine h_done (by kernel_rfl) ?_
      refine r_cond (by exact rfl) (fun hc40 => ?_) (fun hc40 => ?_)
      ·skip
       refine r_seq ?_
       refine r_region ?_
       refine r_op rfl rfl rfl (run_asg (v := .bool _) rfl (by exact rfl)) ?_
       refine r_nil ?_
       refine r_ret (res1 (v := .bool _) rfl (by exact rfl)) ?_
       first | exact ⟨rfl, hV⟩ | exact absurd hc40 (by simp)
      ·skip
       refine r_skip ?_
       refine r_blk ?_
       refine r_region ?_
       refine r_op rfl rfl rfl (run_add rfl (by exact rfl) (by exact rfl) (by omega) (by omega)) ?_
       refine r_op rfl rfl rfl (run_mv (v := .int _ _) rfl (by exact rfl)) ?_
       refine r_nil ?_
       refine r_again (k + 1) ?_ ?_ ?_
       ·first | omega | (dsimp only; omega)
       ·refine ⟨(by first | exact rfl | exact congrArg (Value.int _) (by omega) | exact congrArg (Value.int _) (by dsimp only; omega) | exact congrArg (Value.int _) (by simp) | exact congrArg S (by simp)), (by first | assumption | omega | (dsimp only; omega) | (simp; done)), hAb1, (by first | assumption | omega | (dsimp only; omega) | (simp; done)), hV, hI15, hI24⟩
       ·repeat (first | (with_reducible exact Agree.merge _ _ _) | (with_reducible exact Agree.refl _ _) | (with_reducible refine Agree.upd ?_ _ _ rfl) | ((with_reducible refine Agree.inner ?_ ?_); (kernel_rfl)))
     ·skip
      refine r_exit rfl ?_
      refine r_blk ?_
      refine r_region ?_
      refine r_op rfl rfl rfl (run_add rfl (by exact rfl) (by exact rfl) (by omega) (by omega)) ?_
      refine r_op rfl rfl rfl (run_mv (v := .int _ _) rfl (by exact rfl)) ?_
      refine r_nil ?_
      refine r_again (kk + 1) ?_ ?_ ?_
      ·first | omega | (dsimp only; omega)
      ·refine ⟨(by first | exact rfl | exact congrArg (Value.int _) (by omega) | exact congrArg (Value.int _) (by dsimp only; omega) | exact congrArg (Value.int _) (by simp) | exact congrArg S (by simp)), (by first | assumption | omega | (dsimp only; omega) | (simp; done)), hAb1, (by first | assumption | omega | (dsimp only; omega) | (simp; done)), hV, hI15⟩
      ·repeat (first | (with_reducible exact Agree.merge _ _ _) | (with_reducible exact Agree.refl _ _) | (with_reducible refine Agree.upd ?_ _ _ rfl) | ((with_reducible refine Agree.inner ?_ ?_); (kernel_rfl)))
   ·skip
    refine r_exit rfl ?_
    refine r_seq ?_
    refine r_region ?_
    refine r_opcall rfl rfl rfl (run_callf (vs := []) rfl (by exact rfl) Try.func23 rfl (by kernel_rfl)) known_calls ?_
    rintro e w41 ⟨rfl, hE41⟩
    refine ⟨_, rfl, ?_⟩
    have hs_w41 := (hE41).size
    replace hV := evo_step0 hV hE41
    replace hI15 := evo_step0 hI15 hE41
    replace hc := hc0.now hV
    replace hl := hl0 _ hV
    replace hrb13 := hrb130 _ hI15
    replace hr16 := hr160.now hI15
    refine r_op rfl rfl rfl (run_asg (v := .bool _) rfl (by exact rfl)) ?_
    refine r_nil ?_
    refine r_ret (res1 (v := .bool _) rfl (by exact rfl)) ?_
    first | exact ⟨rfl, hV⟩ | exact absurd hc20 (by simp)

end Go.Proofs.Ytomklacppmaljaa
