import Derived.Test.YtomklacppmaljaaX19
import Derived.Test.YtomklacppmaljaaApk
namespace Go.Proofs.Ytomklacppmaljaa
open Go.RowKit Go.Vc

def wordsD : List Str := ([[99, 105, 116, 121], [99, 105, 116, 105, 101, 115], [99, 105, 116], [99, 105, 116, 121, 115], [99, 97, 114], [99, 97, 114, 115], [99, 97, 114, 101, 115], [97], [115], [105, 101, 115], [99, 97, 114, 97], [99, 97, 114, 101, 114]] : List Str)
theorem wordsD_ok (j : Nat) (h : j < 12) : (wordsD.getD j default) ≠ [] ∧ lowS (wordsD.getD j default) = wordsD.getD j default ∧ (wordsD.getD j default).length ≤ 6 := by
  have : ∀ j, j < 12 → (wordsD.getD j default) ≠ [] ∧ lowS (wordsD.getD j default) = wordsD.getD j default ∧ (wordsD.getD j default).length ≤ 6 := by decide
  exact this j h
theorem none_bd : BdC ⟨[110, 111, 110, 101], []⟩ := ⟨by decide, by simp, by decide⟩
theorem mem_takeO {α : Type} [Inhabited α] {x : α} {l : List α} {k : Nat} (h : k < l.length) : (x ∈ l.take k ∨ l.getD k default = x) ↔ x ∈ l.take (k + 1) := by
  rw [take_succD l k h, List.mem_append, List.mem_singleton, eq_comm (a := x)]
theorem snoc_bd {c : List Clas} {y : Clas} (h : ∀ x ∈ c, BdC x) (hy : BdC y) : ∀ x ∈ c ++ [y], BdC x := fun x hx => by
  rcases List.mem_append.1 hx with h1 | h1
  · exact h x h1
  · have : x = y := by simpa using h1
    rw [this]; exact hy
theorem nm_len {c : List Clas} (h : ∀ x ∈ c, BdC x) (k : Nat) (hk : k < c.length) : (c.getD k default).name.length ≤ 140737488355328 := Nat.le_trans (h _ (getD_in hk)).1 (by decide)

theorem duals_law {aol : Option Addr} {bl offl capl : Nat} {l : List Int} {a b2 : Int} {w0 : World} (hl : RowE w0 aol bl offl capl l) :
    Calls Try.prog 6 #[.slice aol l.length capl, .int .i64 a, .int .i64 b2] w0 fun e w' => e = .returned (.bool true) ∧ Evo w0 w' [] := by
 refine calls_enter (n := 90) (args := [.slice aol l.length capl, .int .i64 a, .int .i64 b2]) Try.func6 rfl Try.ntmps6 rfl ?_
 have hV : Evo w0 w0 [] := Evo.refl _ _
 have hl0 := keepE hl
 have hbd_hl := hl.bd
 refine r_seq ?_
 refine r_region ?_
 refine r_op rfl rfl rfl (run_asg (v := .bool _) rfl (by exact rfl)) ?_
 refine r_nil ?_
 refine r_seq ?_
 refine r_seq ?_
 refine r_region ?_
 refine r_op rfl rfl rfl (run_mv (v := .slice _ _ _) rfl (by exact rfl)) ?_
 refine r_bslice (pv := [(0, .slice _ _ _)]) (zs := [_]) (cs := [_]) Try.underlying101 ty_23 (by exact rfl) rfl (by exact rfl) rfl (by exact rfl) ?_
 intro b1 w2 heb1 hEw2 hbb1 hzb1
 have hs_w2 := (hEw2).size
 replace hV := evo_step0 hV hEw2
 replace hl := hl0 _ hV
 have hAb1 := hbb1.at
 have hrb1 : RowR w2 (some ⟨b1, 0, none⟩) b1 0 1 ([l] : List (List Int)) := rowLitR [[_]] ([l] : List (List Int)) hbb1 rfl (RepL.one (sl_rep hl)) rfl
 refine r_opcall rfl rfl rfl (run_callf (vs := [.slice (some ⟨b1, 0, none⟩) _ _]) rfl (by exact rfl) Try.func21 rfl (by kernel_rfl)) (long_calls hrb1 (by simp only [List.flatten_cons, List.flatten_nil, List.append_nil]; omega)) ?_
 rintro e w3 ⟨rfl, hE3⟩
 refine ⟨_, rfl, ?_⟩
 have hs_w3 := (hE3).size
 replace hV := evo_step0 hV hE3
 replace hl := hl0 _ hV
 replace hrb1 := hrb1.evo0 hE3
 refine r_nil ?_
 refine r_condb (by exact rfl) (fun hc4 => ?_) (fun hc4 => ?_)
 ·skip
  refine r_seq ?_
  refine r_region ?_
  refine r_opcall rfl rfl rfl (run_callf (vs := []) rfl (by exact rfl) Try.func23 rfl (by kernel_rfl)) known_calls ?_
  rintro e w5 ⟨rfl, hE5⟩
  refine ⟨_, rfl, ?_⟩
  have hs_w5 := (hE5).size
  replace hV := evo_step0 hV hE5
  replace hl := hl0 _ hV
  replace hrb1 := hrb1.evo0 hE5
  refine r_op rfl rfl rfl (run_asg (v := .bool _) rfl (by exact rfl)) ?_
  refine r_nil ?_
  refine r_ret (res1 (v := .bool _) rfl (by exact rfl)) ?_
  first | exact ⟨rfl, hV⟩ | (exfalso; have h9 := hc4; rw [List.take_of_length_le (by omega), List.take_of_length_le (by omega)] at h9; exact h9 ((decide_eq_true_iff.trans (forms_stems sw.1 fw.1 sw.2.1 fw.2.1)).trans decide_eq_true_iff.symm))
 ·skip
  refine r_skip ?_
  refine r_seq ?_
  refine r_region ?_
  refine r_bslice (pv := [(0, S _), (1, S _), (2, S _), (3, S _), (4, S _), (5, S _), (6, S _), (7, S _), (8, S _), (9, S _), (10, S _), (11, S _)]) (zs := [_]) (cs := [_, _, _, _, _, _, _, _, _, _, _, _]) Try.underlying34 ty_9 (by exact rfl) rfl (by exact rfl) rfl (by exact rfl) ?_
  intro b6 w7 heb6 hEw7 hbb6 hzb6
  have hs_w7 := (hEw7).size
  replace hV := evo_step0 hV hEw7
  replace hl := hl0 _ hV
  replace hrb1 := hrb1.evo0 hEw7
  have hAb6 := hbb6.at
  have hrb6 : RowE w7 (some ⟨b6, 0, none⟩) b6 0 12 wordsD := rowLit wordsD hbb6 rfl rfl
  refine r_op rfl rfl rfl (run_asg (v := .slice (some ⟨b6, 0, none⟩) _ _) rfl (by exact rfl)) ?_
  refine r_nil ?_
  refine r_seq ?_
  have ha0 := Int.emod_nonneg a (show (12 : Int) ≠ 0 by decide); have ha1 := Int.emod_lt_of_pos a (show (0 : Int) < 12 by decide); have hb0 := Int.emod_nonneg b2 (show (12 : Int) ≠ 0 by decide); have hb1 := Int.emod_lt_of_pos b2 (show (0 : Int) < 12 by decide)
  refine r_region ?_
  refine r_op rfl rfl rfl (run_mv (v := .slice _ _ _) rfl (by exact rfl)) ?_
  refine r_opcall rfl rfl rfl (run_callf (vs := [.slice _ _ _]) rfl (by exact rfl) Try.func25 rfl (by kernel_rfl)) from_calls ?_
  rintro e w8 ⟨bs8, rfl, hbs8, hE8, hbn8, hbA8⟩
  refine ⟨_, rfl, ?_⟩
  have hs_w8 := (hE8).size
  replace hV := evo_step0 hV hE8
  replace hl := hl0 _ hV
  replace hrb1 := hrb1.evo0 hE8
  replace hrb6 := hrb6.evo0 hE8
  refine r_opcall rfl rfl rfl (run_callf (vs := [.pointer _, .int _ _]) rfl (by exact rfl) Try.func24 rfl (by kernel_rfl)) (classes_calls (N := 0) (show Blk _ _ _ [_, .int .i64 ((0 : Nat) : Int)] from hbn8) (fun w9 h9 => hl0 _ (evo_step1 hV h9 (.inl (by omega)))) (by omega) (by omega) (by omega)) ?_
  rintro e w9 ⟨vc9, cl9, mc9, Nc9, rfl, hMC9, hNc9, hE9, hn9, hoC9⟩
  refine ⟨_, rfl, ?_⟩
  have hs_w9 := (hE9).size
  replace hV := evo_step1 hV hE9 (by first | exact .inl (by omega) | exact .inr (by simp))
  replace hl := hl0 _ hV
  replace hrb6 := hrb6.evo hE9 (by simp; omega)
  replace hbn8 := hn9
  clear hn9
  have hbA8 := hbn8.at
  refine r_op rfl rfl rfl (run_asg (v := vc9) rfl (by exact rfl)) ?_
  refine r_nil ?_
  refine r_seq ?_
  refine r_qregion (by kernel_rfl) (by kernel_rfl) ?_
  refine q_op rfl rfl rfl (fun w' hC => run_mv (v := .slice (some ⟨b6, 0, none⟩) _ _) rfl (by exact rfl)) ?_
  refine q_op rfl rfl rfl (fun w' hC => run_mv (v := .int _ _) rfl (by exact rfl)) ?_
  refine q_op rfl rfl rfl (fun w' hC => run_mv (v := .slice (some ⟨b6, 0, none⟩) _ _) rfl (by exact rfl)) ?_
  refine q_op rfl rfl rfl (fun w' hC => run_lenSl rfl (by exact rfl) Try.underlying34) ?_
  refine q_call rfl rfl rfl (fun w' hC => run_callf rfl (argcons (v := .int _ _) (by exact rfl) (argcons (v := .int _ _) (by exact rfl) (rfl))) Try.func33 rfl (by kernel_rfl)) (fun w' hC => (place_calls _ _ (by omega) (by omega)).mono (fun e w'' h => ⟨h.1, by rw [← h.2]; exact hC⟩)) ?_
  refine q_op rfl rfl rfl (fun w' hC => run_ix ((a % 12).toNat) rfl Try.underlying34 ty_9 (by exact rfl) (by exact rfl) (by omega) (by show _ < 12; omega) (hrb6.addr (i := (a % 12).toNat) (by show _ < 12; omega))) ?_
  have hA10 := hrb6.atD ((a % 12).toNat) (by show _ < 12; omega)
  refine q_op rfl rfl rfl (fun w' hC => run_ld1 rfl ag_9 (by exact rfl) ((hA10.evo0 hC).cell 0 (by exact rfl))) ?_
  refine q_op rfl rfl rfl (fun w' hC => run_mv (v := .slice (some ⟨b6, 0, none⟩) _ _) rfl (by exact rfl)) ?_
  refine q_op rfl rfl rfl (fun w' hC => run_mv (v := .int _ _) rfl (by exact rfl)) ?_
  refine q_op rfl rfl rfl (fun w' hC => run_mv (v := .slice (some ⟨b6, 0, none⟩) _ _) rfl (by exact rfl)) ?_
  refine q_op rfl rfl rfl (fun w' hC => run_lenSl rfl (by exact rfl) Try.underlying34) ?_
  refine q_call rfl rfl rfl (fun w' hC => run_callf rfl (argcons (v := .int _ _) (by exact rfl) (argcons (v := .int _ _) (by exact rfl) (rfl))) Try.func33 rfl (by kernel_rfl)) (fun w' hC => (place_calls _ _ (by omega) (by omega)).mono (fun e w'' h => ⟨h.1, by rw [← h.2]; exact hC⟩)) ?_
  refine q_op rfl rfl rfl (fun w' hC => run_ix ((b2 % 12).toNat) rfl Try.underlying34 ty_9 (by exact rfl) (by exact rfl) (by omega) (by show _ < 12; omega) (hrb6.addr (i := (b2 % 12).toNat) (by show _ < 12; omega))) ?_
  have hA11 := hrb6.atD ((b2 % 12).toNat) (by show _ < 12; omega)
  refine q_op rfl rfl rfl (fun w' hC => run_ld1 rfl ag_9 (by exact rfl) ((hA11.evo0 hC).cell 0 (by exact rfl))) ?_
  refine q_op rfl rfl rfl (fun w' hC => run_asg (v := S _) rfl (by exact rfl)) ?_
  refine q_op rfl rfl rfl (fun w' hC => run_asg (v := S _) rfl (by exact rfl)) ?_
  refine q_nil (fun w12 hE13 => ?_)
  have hs_w12 := (hE13).size
  replace hV := evo_step0 hV hE13
  replace hl := hl0 _ hV
  replace hrb6 := hrb6.evo0 hE13
  replace hoC9 := hoC9.evo0 hE13
  refine r_seq ?_
  refine r_seq ?_
  have hmb := hMC9.1.bd (by omega); have hxb := snoc_bd hmb none_bd; have hcll := hMC9.1.1
  obtain ⟨ao14, cp14, hv14⟩ := hoC9.shape
  subst hv14
  refine r_region ?_
  refine r_op rfl rfl rfl (run_mv (v := .slice _ _ _) rfl (by exact rfl)) ?_
  refine r_op rfl rfl rfl (run_bld (pv := [(0, S _)]) (zs := [_, _]) (cells := [_, _]) rfl ty_43 (by exact rfl) pl_43 (by exact rfl) (by exact rfl)) ?_
  refine r_append1RK (u := .agg _) (us := [_, _]) rfl rfl Try.underlying22 ty_43 (by exact rfl) rfl rfl hoC9 (fun _ => (by exact rfl)) (by exact rfl) (by exact rfl) rfl (by exact rfl) (fun w9 _ => clas_nil w9 none_bd) ((by first | omega | (simp; omega))) ((by first | omega | (simp; omega))) (by omega) ?_
  intro q_v15 v15 w16 hEw16 hov15 hlv15 hkpv15
  have hs_w16 := (hEw16).size
  replace hV := evo_stepo hV hEw16 (fun g hg => .inl (by first | exact (hoC9.block hg).1 | (have := hoC9.block hg; omega)))
  replace hl := hl0 _ hV
  obtain ⟨gkv15, hrv15⟩ := hkpv15 _ _ rfl
  have hbd_hrv15 := hrv15.bd
  refine r_op rfl rfl rfl (run_lenOR rfl (by exact rfl) Try.underlying22 hov15) ?_
  refine r_op rfl rfl rfl (run_mv (v := .int _ _) rfl (by exact rfl)) ?_
  refine r_nil ?_
  refine r_block ?_
  have hI17 : Evo w16 w16 [] := Evo.refl _ _
  have sw := wordsD_ok (a % 12).toNat (by omega); have fw := wordsD_ok (b2 % 12).toNat (by omega)
  have hrv150 := hrv15.keep
  obtain ⟨ao18, g18, cp18, hv18, hr18⟩ := hov15.rowOf
  subst hv18
  have hbd_hr18 := hr18.bd
  have hr180 := hr18.keep
  refine r_loop (α := Nat) [6, 12, 13, 14, 16, 18, 46, 47, 48, 49, 50, 51, 52, 53, 54, 55, 56, 57, 58, 59, 60, 61, 62, 63, 64, 65, 66, 67, 68, 69, 70, 71, 72, 73, 74, 75, 76, 77, 78, 79, 80, 81, 82, 83, 84, 85, 86, 87, 88] (fun kk g w => g 46 = .int .i64 (kk : Nat) ∧ kk ≤ (cl9 ++ [(⟨[110, 111, 110, 101], []⟩ : Clas)]).length ∧ w16.heap.size ≤ w.heap.size ∧ Evo w0 w [] ∧ Evo w16 w []) (fun kk => (cl9 ++ [(⟨[110, 111, 110, 101], []⟩ : Clas)]).length - kk) 0 ?_ ?_
  ·refine ⟨(by first | exact rfl | exact congrArg (Value.int _) (by omega) | exact congrArg (Value.int _) (by dsimp only; omega) | exact congrArg (Value.int _) (by simp) | exact congrArg S (by simp)), (by first | assumption | omega | (dsimp only; omega) | (simp; done)), (by first | assumption | omega | (dsimp only; omega) | (simp; done)), hV, hI17⟩
  ·rintro kk g w20 ⟨hj21, hk_kk, hzl19, hV, hI17⟩
   have hs_w20hV := hV.size
   have hs_w20hI17 := hI17.size
   replace hl := hl0 _ hV
   replace hrv15 := hrv150.now hI17
   replace hr18 := hr180.now hI17
   refine r_know (i := 46) (v := .int .i64 (kk : Nat)) (by exact hj21) ?_
   refine r_seq ?_
   refine r_region ?_
   refine r_op rfl rfl rfl (run_lss rfl (by exact rfl) (by exact rfl)) ?_
   refine r_nil ?_
   refine r_seq ?_
   refine r_cond (by exact rfl) (fun hc22 => ?_) (fun hc22 => ?_)
   ·skip
    refine r_skip ?_
    refine r_seq ?_
    refine r_block ?_
    refine r_seq ?_
    refine r_region ?_
    refine r_op rfl rfl rfl (run_ix (kk) rfl Try.underlying22 ty_43 (by exact rfl) (by exact rfl) (by first | exact rfl | omega) (by omega) (hr18.addr (i := kk) (by omega))) ?_
    obtain ⟨ao23, b23, off23, cap23, hX⟩ := clas_atK hr180 (kk) (by omega)
    have hA230 := fun (w' : World) (h : Evo w16 w' []) => (hX w' h).1
    have hA23 := hA230 _ hI17
    have hR230 := fun (w' : World) (h : Evo w16 w' []) => (hX w' h).2
    have hR23 := hR230 _ hI17
    clear hX
    have hbd_hR23 := hR23.bd
    refine r_op rfl rfl rfl (run_ldN rfl ag_43 ty_43 (by exact rfl) rfl hA23) ?_
    refine r_var (zs := [_, _]) (vs := [_, _]) ty_43 (by exact rfl) rfl (by exact rfl) (fun _ => rfl) (by exact rfl) rfl rfl (by exact rfl) ?_
    intro b24 w25 heb24 hEw25 hbb24 hzb24
    have hs_w25 := (hEw25).size
    replace hV := evo_step0 hV hEw25
    replace hI17 := evo_step0 hI17 hEw25
    replace hl := hl0 _ hV
    replace hrv15 := hrv150.now hI17
    replace hr18 := hr180.now hI17
    replace hR23 := hR230 _ hI17
    have hAb24 := hbb24.at
    refine r_nil ?_
    refine r_seq ?_
    refine r_region ?_
    refine r_op rfl rfl rfl (run_asg (v := .bool _) rfl (by exact rfl)) ?_
    refine r_op rfl rfl rfl (run_asg (v := .bool _) rfl (by exact rfl)) ?_
    refine r_nil ?_
    refine r_seq ?_
    refine r_seq ?_
    refine r_region ?_
    refine r_op rfl rfl rfl (run_mv (v := .slice _ _ _) rfl (by exact rfl)) ?_
    refine r_op rfl rfl rfl (run_mv (v := S _) rfl (by exact rfl)) ?_
    refine r_op rfl rfl rfl (run_fa rfl (by exact rfl) fo_43_0) ?_
    refine r_op rfl rfl rfl (run_ld1 rfl ag_9 (by exact rfl) (hAb24.cell 0 (by exact rfl))) ?_
    refine r_op rfl rfl rfl (run_bld (pv := [(0, S _), (1, S _)]) (zs := [_, _]) (cells := [_, _]) rfl ty_33 (by exact rfl) pl_33 (by exact rfl) (by exact rfl)) ?_
    refine r_opcall rfl rfl rfl (run_callf (vs := [.slice _ _ _, .agg _]) rfl (by exact rfl) Try.func29 rfl (by kernel_rfl)) (forms_calls hrv15 (ends_len hmb _) (ends_bd hmb _) (by omega) (nm_len hxb kk (by omega))) ?_
    rintro e w26 ⟨ao26, b26, off26, cap26, rfl, hE26, hr26⟩
    refine ⟨_, rfl, ?_⟩
    have hs_w26 := (hE26).size
    replace hV := evo_step0 hV hE26
    replace hI17 := evo_step0 hI17 hE26
    replace hl := hl0 _ hV
    replace hrv15 := hrv150.now hI17
    replace hr18 := hr180.now hI17
    replace hR23 := hR230 _ hI17
    replace hbb24 := hbb24.evo0 hE26
    replace hAb24 := hAb24.evo0 hE26
    refine r_op rfl rfl rfl (run_lenSl rfl (by exact rfl) Try.underlying34) ?_
    refine r_op rfl rfl rfl (run_mv (v := .int _ _) rfl (by exact rfl)) ?_
    refine r_nil ?_
    refine r_block ?_
    have hbd9f := hr26.bd
    have hI27 : Evo w26 w26 [] := Evo.refl _ _
    have hr260 := keepE hr26
    refine r_loop (α := Nat) [13, 16, 57, 58, 59, 60, 61, 62, 63, 64, 65, 66, 67] (fun k1 g w => g 57 = .int .i64 (k1 : Nat) ∧ g 13 = .bool (decide ((wordsD.getD (b2 % 12).toNat default) ∈ (formsC cl9 (wordsD.getD (a % 12).toNat default) ((cl9 ++ [(⟨[110, 111, 110, 101], []⟩ : Clas)]).getD kk default).name).take k1)) ∧ k1 ≤ (formsC cl9 (wordsD.getD (a % 12).toNat default) ((cl9 ++ [(⟨[110, 111, 110, 101], []⟩ : Clas)]).getD kk default).name).length ∧ At w b24 0 [S ((cl9 ++ [(⟨[110, 111, 110, 101], []⟩ : Clas)]).getD kk default).name] ∧ w26.heap.size ≤ w.heap.size ∧ Evo w0 w [] ∧ Evo w16 w [] ∧ Evo w26 w []) (fun k1 => (formsC cl9 (wordsD.getD (a % 12).toNat default) ((cl9 ++ [(⟨[110, 111, 110, 101], []⟩ : Clas)]).getD kk default).name).length - k1) 0 ?_ ?_
    ·refine ⟨(by first | exact rfl | exact congrArg (Value.int _) (by omega) | exact congrArg (Value.int _) (by dsimp only; omega) | exact congrArg (Value.int _) (by simp) | exact congrArg S (by simp)), (congrArg Value.bool (by simp)), (by first | assumption | omega | (dsimp only; omega) | (simp; done)), (hAb24.part 0 1 (ds := [_]) (by exact rfl)), (by first | assumption | omega | (dsimp only; omega) | (simp; done)), hV, hI17, hI27⟩
    ·rintro k1 g w29 ⟨hj30, hj31, hk_k1, hAb24, hzl28, hV, hI17, hI27⟩
     have hs_w29hV := hV.size
     have hs_w29hI17 := hI17.size
     have hs_w29hI27 := hI27.size
     replace hl := hl0 _ hV
     replace hrv15 := hrv150.now hI17
     replace hr18 := hr180.now hI17
     replace hA23 := hA230 _ hI17
     replace hR23 := hR230 _ hI17
     replace hr26 := hr260 _ hI27
     refine r_know (i := 57) (v := .int .i64 (k1 : Nat)) (by exact hj30) ?_
     refine r_know (i := 13) (v := .bool (decide ((wordsD.getD (b2 % 12).toNat default) ∈ (formsC cl9 (wordsD.getD (a % 12).toNat default) ((cl9 ++ [(⟨[110, 111, 110, 101], []⟩ : Clas)]).getD kk default).name).take k1))) (by exact hj31) ?_
     refine r_seq ?_
     refine r_region ?_
     refine r_op rfl rfl rfl (run_lss rfl (by exact rfl) (by exact rfl)) ?_
     refine r_nil ?_
     refine r_seq ?_
     refine r_cond (by exact rfl) (fun hc32 => ?_) (fun hc32 => ?_)
     ·skip
      refine r_skip ?_
      refine r_seq ?_
      refine r_block ?_
      refine r_seq ?_
      refine r_region ?_
      refine r_op rfl rfl rfl (run_ix (k1) rfl Try.underlying34 ty_9 (by exact rfl) (by exact rfl) (by first | exact rfl | omega) (by omega) (hr26.addr (i := k1) (by omega))) ?_
      have hA330 := fun (w' : World) (h : Evo w26 w' []) => (hr260 w' h).atD (k1) (by omega)
      have hA33 := hA330 _ hI27
      refine r_op rfl rfl rfl (run_ld1 rfl ag_9 (by exact rfl) (hA33.cell 0 (by exact rfl))) ?_
      refine r_op rfl rfl rfl (run_asg (v := S _) rfl (by exact rfl)) ?_
      refine r_nil ?_
      refine r_region ?_
      refine r_op rfl rfl rfl (run_mvb rfl (by exact rfl)) ?_
      refine r_op rfl rfl rfl (run_mv (v := .bool _) rfl (by exact rfl)) ?_
      refine r_g rfl (wantF (by exact rfl)) rfl (fun hg => run_mv (v := S _) rfl (by exact rfl)) ?_
      refine r_g rfl (wantF (by exact rfl)) rfl (fun hg => run_mv (v := S _) rfl (by exact rfl)) ?_
      refine r_g rfl (wantF (by exact rfl)) rfl (fun hg => run_seql rfl (glv (by exact rfl) (fun h => h) hg) (glv (by exact rfl) (fun h => h) hg)) ?_
      refine r_op rfl rfl rfl (run_pick_or rfl (by exact rfl) rfl (fun hq => glv (by exact rfl) (fun h => h) hq)) ?_
      refine r_op rfl rfl rfl (run_asg (v := .bool _) rfl (by exact rfl)) ?_
      refine r_nil ?_
      refine r_blk ?_
      refine r_region ?_
      refine r_op rfl rfl rfl (run_add rfl (by exact rfl) (by exact rfl) (by omega) (by omega)) ?_
      refine r_op rfl rfl rfl (run_mv (v := .int _ _) rfl (by exact rfl)) ?_
      refine r_nil ?_
      refine r_again (k1 + 1) ?_ ?_ ?_
      ·first | omega | (dsimp only; omega)
      ·refine ⟨(by first | exact rfl | exact congrArg (Value.int _) (by omega) | exact congrArg (Value.int _) (by dsimp only; omega) | exact congrArg (Value.int _) (by simp) | exact congrArg S (by simp)), (congrArg Value.bool (decide_eq_decide.2 ((or_congr_left decide_eq_true_iff).trans (mem_takeO (by omega))))), (by first | assumption | omega | (dsimp only; omega) | (simp; done)), hAb24, (by first | assumption | omega | (dsimp only; omega) | (simp; done)), hV, hI17, hI27⟩
      ·repeat (first | (with_reducible exact Agree.merge _ _ _) | (with_reducible exact Agree.refl _ _) | (with_reducible refine Agree.upd ?_ _ _ rfl) | ((with_reducible refine Agree.inner ?_ ?_); (kernel_rfl)))
     ·skip
      refine r_exit rfl ?_
      refine r_seq ?_
      refine r_seq ?_
      refine r_region ?_
      refine r_op rfl rfl rfl (run_mv (v := .slice _ _ _) rfl (by exact rfl)) ?_
      refine r_op rfl rfl rfl (run_fa rfl (by exact rfl) fo_43_0) ?_
      refine r_op rfl rfl rfl (run_ld1 rfl ag_9 (by exact rfl) (hAb24.cell 0 (by exact rfl))) ?_
      refine r_op rfl rfl rfl (run_mv (v := S _) rfl (by exact rfl)) ?_
      refine r_opcall rfl rfl rfl (run_callf (vs := [.slice _ _ _, S _, S _]) rfl (by exact rfl) Try.func31 rfl (by kernel_rfl)) (stems_calls hrv15 (ends_len hmb _) (ends_bd hmb _) (by omega) (nm_len hxb kk (by omega))) ?_
      rintro e w34 ⟨ao34, b34, off34, cap34, rfl, hE34, hr34⟩
      refine ⟨_, rfl, ?_⟩
      have hs_w34 := (hE34).size
      replace hV := evo_step0 hV hE34
      replace hI17 := evo_step0 hI17 hE34
      replace hI27 := evo_step0 hI27 hE34
      replace hl := hl0 _ hV
      replace hrv15 := hrv150.now hI17
      replace hr18 := hr180.now hI17
      replace hr26 := hr260 _ hI27
      refine r_op rfl rfl rfl (run_lenSl rfl (by exact rfl) Try.underlying34) ?_
      refine r_op rfl rfl rfl (run_mv (v := .int _ _) rfl (by exact rfl)) ?_
      refine r_nil ?_
      refine r_block ?_
      have hbd9s := hr34.bd
      have hI35 : Evo w34 w34 [] := Evo.refl _ _
      have hr340 := keepE hr34
      refine r_loop (α := Nat) [14, 18, 74, 75, 76, 77, 78, 79, 80, 81, 82, 83, 84] (fun k2 g w => g 74 = .int .i64 (k2 : Nat) ∧ g 14 = .bool (decide ((wordsD.getD (a % 12).toNat default) ∈ (stemsC cl9 ((cl9 ++ [(⟨[110, 111, 110, 101], []⟩ : Clas)]).getD kk default).name (wordsD.getD (b2 % 12).toNat default)).take k2)) ∧ k2 ≤ (stemsC cl9 ((cl9 ++ [(⟨[110, 111, 110, 101], []⟩ : Clas)]).getD kk default).name (wordsD.getD (b2 % 12).toNat default)).length ∧ w34.heap.size ≤ w.heap.size ∧ Evo w0 w [] ∧ Evo w16 w [] ∧ Evo w26 w [] ∧ Evo w34 w []) (fun k2 => (stemsC cl9 ((cl9 ++ [(⟨[110, 111, 110, 101], []⟩ : Clas)]).getD kk default).name (wordsD.getD (b2 % 12).toNat default)).length - k2) 0 ?_ ?_
      ·refine ⟨(by first | exact rfl | exact congrArg (Value.int _) (by omega) | exact congrArg (Value.int _) (by dsimp only; omega) | exact congrArg (Value.int _) (by simp) | exact congrArg S (by simp)), (congrArg Value.bool (by simp)), (by first | assumption | omega | (dsimp only; omega) | (simp; done)), (by first | assumption | omega | (dsimp only; omega) | (simp; done)), hV, hI17, hI27, hI35⟩
      ·rintro k2 g w37 ⟨hj38, hj39, hk_k2, hzl36, hV, hI17, hI27, hI35⟩
       have hs_w37hV := hV.size
       have hs_w37hI17 := hI17.size
       have hs_w37hI27 := hI27.size
       have hs_w37hI35 := hI35.size
       replace hl := hl0 _ hV
       replace hrv15 := hrv150.now hI17
       replace hr18 := hr180.now hI17
       replace hA23 := hA230 _ hI17
       replace hR23 := hR230 _ hI17
       replace hr26 := hr260 _ hI27
       replace hr34 := hr340 _ hI35
       refine r_know (i := 74) (v := .int .i64 (k2 : Nat)) (by exact hj38) ?_
       refine r_know (i := 14) (v := .bool (decide ((wordsD.getD (a % 12).toNat default) ∈ (stemsC cl9 ((cl9 ++ [(⟨[110, 111, 110, 101], []⟩ : Clas)]).getD kk default).name (wordsD.getD (b2 % 12).toNat default)).take k2))) (by exact hj39) ?_
       refine r_seq ?_
       refine r_region ?_
       refine r_op rfl rfl rfl (run_lss rfl (by exact rfl) (by exact rfl)) ?_
       refine r_nil ?_
       refine r_seq ?_
       refine r_cond (by exact rfl) (fun hc40 => ?_) (fun hc40 => ?_)
       ·skip
        refine r_skip ?_
        refine r_seq ?_
        refine r_block ?_
        refine r_seq ?_
        refine r_region ?_
        refine r_op rfl rfl rfl (run_ix (k2) rfl Try.underlying34 ty_9 (by exact rfl) (by exact rfl) (by first | exact rfl | omega) (by omega) (hr34.addr (i := k2) (by omega))) ?_
        have hA410 := fun (w' : World) (h : Evo w34 w' []) => (hr340 w' h).atD (k2) (by omega)
        have hA41 := hA410 _ hI35
        refine r_op rfl rfl rfl (run_ld1 rfl ag_9 (by exact rfl) (hA41.cell 0 (by exact rfl))) ?_
        refine r_op rfl rfl rfl (run_asg (v := S _) rfl (by exact rfl)) ?_
        refine r_nil ?_
        refine r_region ?_
        refine r_op rfl rfl rfl (run_mvb rfl (by exact rfl)) ?_
        refine r_op rfl rfl rfl (run_mv (v := .bool _) rfl (by exact rfl)) ?_
        refine r_g rfl (wantF (by exact rfl)) rfl (fun hg => run_mv (v := S _) rfl (by exact rfl)) ?_
        refine r_g rfl (wantF (by exact rfl)) rfl (fun hg => run_mv (v := S _) rfl (by exact rfl)) ?_
        refine r_g rfl (wantF (by exact rfl)) rfl (fun hg => run_seql rfl (glv (by exact rfl) (fun h => h) hg) (glv (by exact rfl) (fun h => h) hg)) ?_
        refine r_op rfl rfl rfl (run_pick_or rfl (by exact rfl) rfl (fun hq => glv (by exact rfl) (fun h => h) hq)) ?_
        refine r_op rfl rfl rfl (run_asg (v := .bool _) rfl (by exact rfl)) ?_
        refine r_nil ?_
        refine r_blk ?_
        refine r_region ?_
        refine r_op rfl rfl rfl (run_add rfl (by exact rfl) (by exact rfl) (by omega) (by omega)) ?_
        refine r_op rfl rfl rfl (run_mv (v := .int _ _) rfl (by exact rfl)) ?_
        refine r_nil ?_
        refine r_again (k2 + 1) ?_ ?_ ?_
        ·first | omega | (dsimp only; omega)
        ·refine ⟨(by first | exact rfl | exact congrArg (Value.int _) (by omega) | exact congrArg (Value.int _) (by dsimp only; omega) | exact congrArg (Value.int _) (by simp) | exact congrArg S (by simp)), (congrArg Value.bool (decide_eq_decide.2 ((or_congr_left decide_eq_true_iff).trans (mem_takeO (by omega))))), (by first | assumption | omega | (dsimp only; omega) | (simp; done)), (by first | assumption | omega | (dsimp only; omega) | (simp; done)), hV, hI17, hI27, hI35⟩
        ·repeat (first | (with_reducible exact Agree.merge _ _ _) | (with_reducible exact Agree.refl _ _) | (with_reducible refine Agree.upd ?_ _ _ rfl) | ((with_reducible refine Agree.inner ?_ ?_); (kernel_rfl)))
       ·skip
        refine r_exit rfl ?_
        refine r_seq ?_
        refine r_region ?_
        refine r_op rfl rfl rfl (run_mvb rfl (by exact rfl)) ?_
        refine r_op rfl rfl rfl (run_mvb rfl (by exact rfl)) ?_
        refine r_op rfl rfl rfl (run_bneq rfl Try.underlying4 (by exact rfl) (by exact rfl)) ?_
        refine r_nil ?_
        refine r_cond (by exact rfl) (fun hc42 => ?_) (fun hc42 => ?_)
        ·skip
         refine r_seq ?_
         refine r_region ?_
         refine r_op rfl rfl rfl (run_asg (v := .bool _) rfl (by exact rfl)) ?_
         refine r_nil ?_
         refine r_ret (res1 (v := .bool _) rfl (by exact rfl)) ?_
         first | exact ⟨rfl, hV⟩ | (exfalso; have h9 := hc42; rw [List.take_of_length_le (by omega), List.take_of_length_le (by omega)] at h9; exact h9 ((decide_eq_true_iff.trans (forms_stems sw.1 fw.1 sw.2.1 fw.2.1)).trans decide_eq_true_iff.symm))
        ·skip
         refine r_skip ?_
         refine r_blk ?_
         refine r_region ?_
         refine r_op rfl rfl rfl (run_add rfl (by exact rfl) (by exact rfl) (by omega) (by omega)) ?_
         refine r_op rfl rfl rfl (run_mv (v := .int _ _) rfl (by exact rfl)) ?_
         refine r_nil ?_
         refine r_again (kk + 1) ?_ ?_ ?_
         ·first | omega | (dsimp only; omega)
         ·refine ⟨(by first | exact rfl | exact congrArg (Value.int _) (by omega) | exact congrArg (Value.int _) (by dsimp only; omega) | exact congrArg (Value.int _) (by simp) | exact congrArg S (by simp)), (by first | assumption | omega | (dsimp only; omega) | (simp; done)), (by first | assumption | omega | (dsimp only; omega) | (simp; done)), hV, hI17⟩
         ·repeat (first | (with_reducible exact Agree.merge _ _ _) | (with_reducible exact Agree.refl _ _) | (with_reducible refine Agree.upd ?_ _ _ rfl) | ((with_reducible refine Agree.inner ?_ ?_); (kernel_rfl)))
   ·skip
    refine r_exit rfl ?_
    refine r_seq ?_
    refine r_region ?_
    refine r_opcall rfl rfl rfl (run_callf (vs := []) rfl (by exact rfl) Try.func23 rfl (by kernel_rfl)) known_calls ?_
    rintro e w43 ⟨rfl, hE43⟩
    refine ⟨_, rfl, ?_⟩
    have hs_w43 := (hE43).size
    replace hV := evo_step0 hV hE43
    replace hI17 := evo_step0 hI17 hE43
    replace hl := hl0 _ hV
    replace hrv15 := hrv150.now hI17
    replace hr18 := hr180.now hI17
    refine r_op rfl rfl rfl (run_asg (v := .bool _) rfl (by exact rfl)) ?_
    refine r_nil ?_
    refine r_ret (res1 (v := .bool _) rfl (by exact rfl)) ?_
    first | exact ⟨rfl, hV⟩ | (exfalso; have h9 := hc22; rw [List.take_of_length_le (by omega), List.take_of_length_le (by omega)] at h9; exact h9 ((decide_eq_true_iff.trans (forms_stems sw.1 fw.1 sw.2.1 fw.2.1)).trans decide_eq_true_iff.symm))

end Go.Proofs.Ytomklacppmaljaa
