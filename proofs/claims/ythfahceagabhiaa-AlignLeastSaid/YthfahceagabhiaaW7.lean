import Derived.Test.YthfahceagabhiaaW6
namespace Go.Proofs.Ythfahceagabhiaa
open Go.RowKit Go.Vc
theorem ag_22 : aggP Try.prog 22 = some false := by kernel_rfl
theorem ag_26 : aggP Try.prog 26 = some true := by kernel_rfl
theorem pl_26 : placesP Try.prog 26 = some [(0, 1), (1, 1)] := by kernel_rfl
theorem pl_28 : placesP Try.prog 28 = some [(0, 2), (2, 2)] := by kernel_rfl
theorem ty_22 : tyP Try.prog 22 = some (1, 24, some (.slice none 0 0)) := by kernel_rfl
theorem ty_26 : tyP Try.prog 26 = some (2, 48, some (.agg #[(.slice none 0 0), (.slice none 0 0)])) := by kernel_rfl
theorem ty_28 : tyP Try.prog 28 = some (4, 96, some (.agg #[(.slice none 0 0), (.slice none 0 0), (.slice none 0 0), (.slice none 0 0)])) := by kernel_rfl
theorem pair_rows {w : World} {ao1 ao2 ao3 ao4 : Option Addr} {b1 b2 b3 b4 o1 o2 o3 o4 c1 c2 c3 c4 : Nat} {l1 l2 l3 l4 : List Side} (h1 : RowR w ao1 b1 o1 c1 l1) (h2 : RowR w ao2 b2 o2 c2 l2) (h3 : RowR w ao3 b3 o3 c3 l3) (h4 : RowR w ao4 b4 o4 c4 l4)
    (n1 : l1.length ≤ 20) (n2 : l2.length ≤ 20) (n3 : l3.length ≤ 20) (n4 : l4.length ≤ 20) (x : Nat) (hx : x < 2) :
    ∃ ao ao' b b' o o' c c', ∃ l l' : List Side, (([.slice ao1 l1.length c1, .slice ao2 l2.length c2, .slice ao3 l3.length c3, .slice ao4 l4.length c4] : List Value).drop (x * 2)).take 2 = [.slice ao l.length c, .slice ao' l'.length c'] ∧ RowR w ao b o c l ∧ RowR w ao' b' o' c' l' ∧ l.length ≤ 20 ∧ l'.length ≤ 20 := by
  match x, hx with
  | 0, _ => exact ⟨_, _, _, _, _, _, _, _, l1, l2, rfl, h1, h2, n1, n2⟩
  | 1, _ => exact ⟨_, _, _, _, _, _, _, _, l3, l4, rfl, h3, h4, n3, n4⟩

theorem cost_sym (a b : List Side) : ourCost b a = ourCost a b := by
  rw [cost_same, cost_same]
  unfold refCost
  have h : baseL (b.length : Int) (a.length : Int) = baseL a.length b.length := by
    unfold baseL
    (repeat' split) <;> first | rfl | (exfalso; omega)
  rw [h]
  split
  · rw [show max (lenSum b - lenSum a) (-(lenSum b - lenSum a)) = max (lenSum a - lenSum b) (-(lenSum a - lenSum b)) by omega, Int.add_comm (missL (anch b) (anch a))]
  · rfl

theorem costs_law {aoa aob aol aom : Option Addr} {ba offa capa bb offb capb bl offl capl bm offm capm : Nat} {a b : List Side} {l m : List Int} {w0 : World} (ha : RowR w0 aoa ba offa capa a) (hb : RowR w0 aob bb offb capb b) (hl : RowE w0 aol bl offl capl l) (hm : RowE w0 aom bm offm capm m) :
    Calls Try.prog 3 #[.slice aoa a.length capa, .slice aob b.length capb, .slice aol l.length capl, .slice aom m.length capm] w0 fun e w' => e = .returned (.bool true) ∧ Evo w0 w' [] := by
  refine calls_enter (n := 92) (args := [.slice aoa a.length capa, .slice aob b.length capb, .slice aol l.length capl, .slice aom m.length capm]) Try.func3 rfl Try.ntmps3 rfl ?_
  have hV : Evo w0 w0 [] := Evo.refl _ _
  have ha0 := ha.keep
  have hbd_ha := ha.bd
  have hb0 := hb.keep
  have hbd_hb := hb.bd
  have hl0 := keepE hl
  have hbd_hl := hl.bd
  have hm0 := keepE hm
  have hbd_hm := hm.bd
  refine r_seq ?_
  refine r_region ?_
  refine r_op rfl rfl rfl (run_asg (v := .bool _) rfl (by exact rfl)) ?_
  refine r_nil ?_
  refine r_seq ?_
  refine r_seq ?_
  refine r_region ?_
  refine r_op rfl rfl rfl (run_mv (v := .slice _ _ _) rfl (by exact rfl)) ?_
  refine r_opcall rfl rfl rfl (run_callf (vs := [.slice _ _ _]) rfl (by exact rfl) Try.func11 rfl (by kernel_rfl)) (light_calls ha) ?_
  rintro e w1 ⟨lx1, rfl, hlx1, hE1⟩
  refine ⟨_, rfl, ?_⟩
  have hs_w1 := (hE1).size
  replace hV := evo_step0 hV hE1
  replace ha := ha0.now hV
  replace hb := hb0.now hV
  replace hl := hl0 _ hV
  replace hm := hm0 _ hV
  refine r_op rfl rfl rfl (run_notb rfl (by exact rfl)) ?_
  refine r_op rfl rfl rfl (run_mvb rfl (by exact rfl)) ?_
  refine r_g rfl (wantF (by exact rfl)) rfl (fun hg => run_mv (v := .slice _ _ _) rfl (by exact rfl)) ?_
  refine r_gcallB rfl (wantF (by exact rfl)) rfl (fun hg => run_callf rfl (argcons (v := .slice _ _ _) (glv (by exact rfl) (fun h => h) hg) (rfl)) Try.func11 rfl (by kernel_rfl)) (fun hg => (light_calls hb)) ?_
  intro gx4 w2 hgx4 hE3
  have hs_w2 := (hE3).size
  replace hV := evo_step0 hV hE3
  replace ha := ha0.now hV
  replace hb := hb0.now hV
  replace hl := hl0 _ hV
  replace hm := hm0 _ hV
  refine r_g rfl (wantF (by exact rfl)) rfl (fun hg => run_not rfl (glv (by exact rfl) (fun h => h) hg)) ?_
  refine r_op rfl rfl rfl (run_pick_or rfl (by exact rfl) rfl (fun hq => glv (by exact rfl) (fun h => h) hq)) ?_
  refine r_op rfl rfl rfl (run_mv (v := .bool _) rfl (by exact rfl)) ?_
  refine r_g rfl (wantF (by exact rfl)) rfl (fun hg => run_mv (v := .slice _ _ _) rfl (by exact rfl)) ?_
  refine r_g rfl (wantF (by exact rfl)) rfl (fun hg => run_lenSl rfl (glv (by exact rfl) (fun h => h) hg) Try.underlying23) ?_
  refine r_g rfl (wantF (by exact rfl)) rfl (fun hg => run_gtr rfl (glv (by exact rfl) (fun h => h) hg) (by exact rfl)) ?_
  refine r_op rfl rfl rfl (run_pick_or rfl (by exact rfl) rfl (fun hq => glv (by exact rfl) (fun h => h) hq)) ?_
  refine r_op rfl rfl rfl (run_mv (v := .bool _) rfl (by exact rfl)) ?_
  refine r_g rfl (wantF (by exact rfl)) rfl (fun hg => run_mv (v := .slice _ _ _) rfl (by exact rfl)) ?_
  refine r_g rfl (wantF (by exact rfl)) rfl (fun hg => run_lenSl rfl (glv (by exact rfl) (fun h => h) hg) Try.underlying23) ?_
  refine r_g rfl (wantF (by exact rfl)) rfl (fun hg => run_gtr rfl (glv (by exact rfl) (fun h => h) hg) (by exact rfl)) ?_
  refine r_op rfl rfl rfl (run_pick_or rfl (by exact rfl) rfl (fun hq => glv (by exact rfl) (fun h => h) hq)) ?_
  refine r_nil ?_
  refine r_cond (by exact rfl) (fun hc5 => ?_) (fun hc5 => ?_)
  · skip
    refine r_seq ?_
    refine r_region ?_
    refine r_opcall rfl rfl rfl (run_callf (vs := []) rfl (by exact rfl) Try.func12 rfl (by kernel_rfl)) known_calls ?_
    rintro e w6 ⟨rfl, hE6⟩
    refine ⟨_, rfl, ?_⟩
    have hs_w6 := (hE6).size
    replace hV := evo_step0 hV hE6
    replace ha := ha0.now hV
    replace hb := hb0.now hV
    replace hl := hl0 _ hV
    replace hm := hm0 _ hV
    refine r_op rfl rfl rfl (run_asg (v := .bool _) rfl (by exact rfl)) ?_
    refine r_nil ?_
    refine r_ret (res1 (v := .bool _) rfl (by exact rfl)) ?_
    exact ⟨rfl, hV⟩
  · skip
    refine r_skip ?_
    refine r_seq ?_
    refine r_seq ?_
    have hla : a.length ≤ 12 := hlx1 (by simp_all)
    have hlb : b.length ≤ 12 := hgx4 (by simp_all) (by simp_all)
    refine r_region ?_
    refine r_op rfl rfl rfl (run_mv (v := .slice _ _ _) rfl (by exact rfl)) ?_
    refine r_op rfl rfl rfl (run_mv (v := .slice _ _ _) rfl (by exact rfl)) ?_
    refine r_op rfl rfl rfl (run_bld (pv := [(0, .slice _ _ _), (1, .slice _ _ _)]) (zs := [_, _]) (cells := [_, _]) rfl ty_26 (by exact rfl) pl_26 (by exact rfl) (by exact rfl)) ?_
    refine r_op rfl rfl rfl (run_mv (v := .slice _ _ _) rfl (by exact rfl)) ?_
    refine r_opcall rfl rfl rfl (run_callf (vs := [.slice _ _ _, .int _ _]) rfl (by exact rfl) Try.func13 rfl (by kernel_rfl)) (made_calls hl (by omega) (by omega)) ?_
    rintro e w7 ⟨vm7, sm7, rfl, hE7, hsm7, hor7⟩
    refine ⟨_, rfl, ?_⟩
    have hs_w7 := (hE7).size
    replace hV := evo_step0 hV hE7
    replace ha := ha0.now hV
    replace hb := hb0.now hV
    replace hl := hl0 _ hV
    replace hm := hm0 _ hV
    refine r_op rfl rfl rfl (run_mv (v := .slice _ _ _) rfl (by exact rfl)) ?_
    refine r_opcall rfl rfl rfl (run_callf (vs := [.slice _ _ _, .int _ _]) rfl (by exact rfl) Try.func13 rfl (by kernel_rfl)) (made_calls hm (by omega) (by omega)) ?_
    rintro e w8 ⟨vm8, sm8, rfl, hE8, hsm8, hor8⟩
    refine ⟨_, rfl, ?_⟩
    have hs_w8 := (hE8).size
    replace hV := evo_step0 hV hE8
    replace ha := ha0.now hV
    replace hb := hb0.now hV
    replace hl := hl0 _ hV
    replace hm := hm0 _ hV
    replace hor7 := hor7.evo0 hE8
    obtain ⟨ao9, g9, cp9, hv9, hr9⟩ := hor7.rowOf
    subst hv9
    have hbd_hr9 := hr9.bd
    obtain ⟨ao10, g10, cp10, hv10, hr10⟩ := hor8.rowOf
    subst hv10
    have hbd_hr10 := hr10.bd
    refine r_op rfl rfl rfl (run_bld (pv := [(0, .slice _ _ _), (1, .slice _ _ _)]) (zs := [_, _]) (cells := [_, _]) rfl ty_26 (by exact rfl) pl_26 (by exact rfl) (by exact rfl)) ?_
    refine r_op rfl rfl rfl (run_bld (pv := [(0, .agg _), (1, .agg _)]) (zs := [_, _, _, _]) (cells := [_, _, _, _]) rfl ty_28 (by exact rfl) pl_28 (by exact rfl) (by exact rfl)) ?_
    refine r_op rfl rfl rfl (run_mv (v := .int _ _) rfl (by exact rfl)) ?_
    refine r_nil ?_
    refine r_block ?_
    have hQ : Evo w8 w8 [] := Evo.refl _ _
    have hpr := pair_rows ha hb hr9 hr10 (by omega) (by omega) (by omega) (by omega)
    refine r_loop (α := Nat) [8, 10, 11, 12, 13, 14, 15, 16, 45, 46, 47, 48, 49, 50, 51, 52, 53, 54, 55, 56, 57, 58, 59, 60, 61, 62, 63, 64, 65, 66, 67, 68, 69, 70, 71, 72, 73, 74, 75, 76, 77, 78, 79, 80, 81, 82, 83, 84, 85, 86, 87, 88, 89, 90] (fun x g w => g 45 = .int .i64 (x : Nat) ∧ x ≤ 2 ∧ w8.heap.size ≤ w.heap.size ∧ Evo w0 w [] ∧ Evo w8 w []) (fun x => 2 - x) 0 ?_ ?_
    · refine ⟨(by first | exact rfl | exact congrArg (Value.int _) (by omega) | exact congrArg (Value.int _) (by dsimp only; omega) | exact congrArg (Value.int _) (by simp) | exact congrArg S (by simp)), (by first | assumption | omega | (dsimp only; omega) | (simp; done)), (by first | assumption | omega | (dsimp only; omega) | (simp; done)), hV, hQ⟩
    · rintro x g w12 ⟨hj13, hk_x, hzl11, hV, hQ⟩
      have hs_w12hV := hV.size
      have hs_w12hQ := hQ.size
      replace ha := ha0.now hV
      replace hb := hb0.now hV
      replace hl := hl0 _ hV
      replace hm := hm0 _ hV
      refine r_know (i := 45) (v := .int .i64 (x : Nat)) (by exact hj13) ?_
      refine r_seq ?_
      refine r_region ?_
      refine r_op rfl rfl rfl (run_lss rfl (by exact rfl) (by exact rfl)) ?_
      refine r_nil ?_
      refine r_seq ?_
      refine r_cond (by exact rfl) (fun hc14 => ?_) (fun hc14 => ?_)
      · skip
        refine r_skip ?_
        refine r_seq ?_
        refine r_block ?_
        refine r_seq ?_
        obtain ⟨aoL, aoR, bL, bR, oL, oR, cL, cR, lL, lR, hcs, hL00, hR00, hnL, hnR⟩ := hpr x (by omega)
        have hL0 := hL00.keep
        have hL := hL0.now hQ
        have hR0 := hR00.keep
        have hR := hR0.now hQ
        refine r_region ?_
        refine r_op rfl rfl rfl (run_ixAg (ds := [_, _]) (x) rfl Try.underlying28 ty_26 ag_26 (by exact rfl) (by exact rfl) (by first | exact rfl | omega) (by omega) hcs) ?_
        refine r_var (zs := [_, _]) (vs := [_, _]) ty_26 (by exact rfl) rfl (by exact rfl) (fun _ => rfl) (by exact rfl) rfl rfl (by exact rfl) ?_
        intro b15 w16 heb15 hEw16 hbb15 hzb15
        have hs_w16 := (hEw16).size
        replace hV := evo_step0 hV hEw16
        replace hQ := evo_step0 hQ hEw16
        replace ha := ha0.now hV
        replace hb := hb0.now hV
        replace hl := hl0 _ hV
        replace hm := hm0 _ hV
        replace hL := hL0.now hQ
        replace hR := hR0.now hQ
        have hAb15 := hbb15.at
        refine r_nil ?_
        refine r_seq ?_
        refine r_region ?_
        refine r_op rfl rfl rfl (run_ixP (0) rfl Try.underlying26 ty_22 (by exact rfl) (by exact rfl) (by exact rfl) (by omega)) ?_
        refine r_op rfl rfl rfl (run_ld1 rfl ag_22 (by exact rfl) (hAb15.cell 0 (by exact rfl))) ?_
        refine r_op rfl rfl rfl (run_ixP (1) rfl Try.underlying26 ty_22 (by exact rfl) (by exact rfl) (by exact rfl) (by omega)) ?_
        refine r_op rfl rfl rfl (run_ld1 rfl ag_22 (by exact rfl) (hAb15.cell 1 (by exact rfl))) ?_
        refine r_opcall rfl rfl rfl (run_callf (vs := [.slice _ _ _, .slice _ _ _]) rfl (by exact rfl) Try.func14 rfl (by kernel_rfl)) (cost_calls hL hR) ?_
        rintro e w17 ⟨rfl, hE17⟩
        refine ⟨_, rfl, ?_⟩
        have hs_w17 := (hE17).size
        replace hV := evo_step0 hV hE17
        replace hQ := evo_step0 hQ hE17
        replace ha := ha0.now hV
        replace hb := hb0.now hV
        replace hl := hl0 _ hV
        replace hm := hm0 _ hV
        replace hL := hL0.now hQ
        replace hR := hR0.now hQ
        replace hbb15 := hbb15.evo0 hE17
        replace hAb15 := hAb15.evo0 hE17
        refine r_op rfl rfl rfl (run_mv (v := .tuple _) rfl (by exact rfl)) ?_
        refine r_op rfl rfl rfl (run_extract (v := .int _ _) rfl (by exact rfl) (by exact rfl)) ?_
        refine r_op rfl rfl rfl (run_extract (v := .bool _) rfl (by exact rfl) (by exact rfl)) ?_
        refine r_op rfl rfl rfl (run_asg (v := .int _ _) rfl (by exact rfl)) ?_
        refine r_op rfl rfl rfl (run_asg (v := .bool _) rfl (by exact rfl)) ?_
        refine r_nil ?_
        refine r_seq ?_
        refine r_region ?_
        refine r_op rfl rfl rfl (run_ixP (0) rfl Try.underlying26 ty_22 (by exact rfl) (by exact rfl) (by exact rfl) (by omega)) ?_
        refine r_op rfl rfl rfl (run_ld1 rfl ag_22 (by exact rfl) (hAb15.cell 0 (by exact rfl))) ?_
        refine r_op rfl rfl rfl (run_ixP (1) rfl Try.underlying26 ty_22 (by exact rfl) (by exact rfl) (by exact rfl) (by omega)) ?_
        refine r_op rfl rfl rfl (run_ld1 rfl ag_22 (by exact rfl) (hAb15.cell 1 (by exact rfl))) ?_
        refine r_opcall rfl rfl rfl (run_callf (vs := [.slice _ _ _, .slice _ _ _]) rfl (by exact rfl) Try.func15 rfl (by kernel_rfl)) (rcost2_calls hL hR) ?_
        rintro e w18 ⟨rfl, hE18⟩
        refine ⟨_, rfl, ?_⟩
        have hs_w18 := (hE18).size
        replace hV := evo_step0 hV hE18
        replace hQ := evo_step0 hQ hE18
        replace ha := ha0.now hV
        replace hb := hb0.now hV
        replace hl := hl0 _ hV
        replace hm := hm0 _ hV
        replace hL := hL0.now hQ
        replace hR := hR0.now hQ
        replace hbb15 := hbb15.evo0 hE18
        replace hAb15 := hAb15.evo0 hE18
        refine r_op rfl rfl rfl (run_mv (v := .tuple _) rfl (by exact rfl)) ?_
        refine r_op rfl rfl rfl (run_extract (v := .int _ _) rfl (by exact rfl) (by exact rfl)) ?_
        refine r_op rfl rfl rfl (run_extract (v := .bool _) rfl (by exact rfl) (by exact rfl)) ?_
        refine r_op rfl rfl rfl (run_asg (v := .int _ _) rfl (by exact rfl)) ?_
        refine r_op rfl rfl rfl (run_asg (v := .bool _) rfl (by exact rfl)) ?_
        refine r_nil ?_
        refine r_seq ?_
        refine r_region ?_
        refine r_op rfl rfl rfl (run_ixP (1) rfl Try.underlying26 ty_22 (by exact rfl) (by exact rfl) (by exact rfl) (by omega)) ?_
        refine r_op rfl rfl rfl (run_ld1 rfl ag_22 (by exact rfl) (hAb15.cell 1 (by exact rfl))) ?_
        refine r_op rfl rfl rfl (run_ixP (0) rfl Try.underlying26 ty_22 (by exact rfl) (by exact rfl) (by exact rfl) (by omega)) ?_
        refine r_op rfl rfl rfl (run_ld1 rfl ag_22 (by exact rfl) (hAb15.cell 0 (by exact rfl))) ?_
        refine r_opcall rfl rfl rfl (run_callf (vs := [.slice _ _ _, .slice _ _ _]) rfl (by exact rfl) Try.func14 rfl (by kernel_rfl)) (cost_calls hR hL) ?_
        rintro e w19 ⟨rfl, hE19⟩
        refine ⟨_, rfl, ?_⟩
        have hs_w19 := (hE19).size
        replace hV := evo_step0 hV hE19
        replace hQ := evo_step0 hQ hE19
        replace ha := ha0.now hV
        replace hb := hb0.now hV
        replace hl := hl0 _ hV
        replace hm := hm0 _ hV
        replace hL := hL0.now hQ
        replace hR := hR0.now hQ
        refine r_op rfl rfl rfl (run_mv (v := .tuple _) rfl (by exact rfl)) ?_
        refine r_op rfl rfl rfl (run_extract (v := .int _ _) rfl (by exact rfl) (by exact rfl)) ?_
        refine r_op rfl rfl rfl (run_extract (v := .bool _) rfl (by exact rfl) (by exact rfl)) ?_
        refine r_op rfl rfl rfl (run_asg (v := .int _ _) rfl (by exact rfl)) ?_
        refine r_op rfl rfl rfl (run_asg (v := .bool _) rfl (by exact rfl)) ?_
        refine r_nil ?_
        refine r_seq ?_
        refine r_region ?_
        refine r_op rfl rfl rfl (run_mv (v := .int _ _) rfl (by exact rfl)) ?_
        refine r_op rfl rfl rfl (run_mv (v := .int _ _) rfl (by exact rfl)) ?_
        refine r_op rfl rfl rfl (run_neq rfl (by exact rfl) (by exact rfl)) ?_
        refine r_op rfl rfl rfl (run_mv (v := .bool _) rfl (by exact rfl)) ?_
        refine r_g rfl (wantF (by exact rfl)) rfl (fun hg => run_mvb rfl (by exact rfl)) ?_
        refine r_g rfl (wantF (by exact rfl)) rfl (fun hg => run_mvb rfl (by exact rfl)) ?_
        refine r_g rfl (wantF (by exact rfl)) rfl (fun hg => run_bneq rfl Try.underlying4 (glv (by exact rfl) (fun h => h) hg) (glv (by exact rfl) (fun h => h) hg)) ?_
        refine r_op rfl rfl rfl (run_pick_or rfl (by exact rfl) rfl (fun hq => glv (by exact rfl) (fun h => h) hq)) ?_
        refine r_op rfl rfl rfl (run_mv (v := .bool _) rfl (by exact rfl)) ?_
        refine r_g rfl (wantF (by exact rfl)) rfl (fun hg => run_mv (v := .int _ _) rfl (by exact rfl)) ?_
        refine r_g rfl (wantF (by exact rfl)) rfl (fun hg => run_mv (v := .int _ _) rfl (by exact rfl)) ?_
        refine r_g rfl (wantF (by exact rfl)) rfl (fun hg => run_neq rfl (glv (by exact rfl) (fun h => h) hg) (glv (by exact rfl) (fun h => h) hg)) ?_
        refine r_op rfl rfl rfl (run_pick_or rfl (by exact rfl) rfl (fun hq => glv (by exact rfl) (fun h => h) hq)) ?_
        refine r_op rfl rfl rfl (run_mv (v := .bool _) rfl (by exact rfl)) ?_
        refine r_g rfl (wantF (by exact rfl)) rfl (fun hg => run_mvb rfl (by exact rfl)) ?_
        refine r_g rfl (wantF (by exact rfl)) rfl (fun hg => run_mvb rfl (by exact rfl)) ?_
        refine r_g rfl (wantF (by exact rfl)) rfl (fun hg => run_bneq rfl Try.underlying4 (glv (by exact rfl) (fun h => h) hg) (glv (by exact rfl) (fun h => h) hg)) ?_
        refine r_op rfl rfl rfl (run_pick_or rfl (by exact rfl) rfl (fun hq => glv (by exact rfl) (fun h => h) hq)) ?_
        refine r_nil ?_
        refine r_cond (by exact rfl) (fun hc20 => ?_) (fun hc20 => ?_)
        · skip
          exfalso; rw [cost_sym lL lR] at hc20; simp at hc20
        · skip
          refine r_skip ?_
          refine r_blk ?_
          refine r_region ?_
          refine r_op rfl rfl rfl (run_add rfl (by exact rfl) (by exact rfl) (by omega) (by omega)) ?_
          refine r_op rfl rfl rfl (run_mv (v := .int _ _) rfl (by exact rfl)) ?_
          refine r_nil ?_
          refine r_again (x + 1) ?_ ?_ ?_
          · first | omega | (dsimp only; omega)
          · refine ⟨(by first | exact rfl | exact congrArg (Value.int _) (by omega) | exact congrArg (Value.int _) (by dsimp only; omega) | exact congrArg (Value.int _) (by simp) | exact congrArg S (by simp)), (by first | assumption | omega | (dsimp only; omega) | (simp; done)), (by first | assumption | omega | (dsimp only; omega) | (simp; done)), hV, hQ⟩
          · repeat (first | (with_reducible exact Agree.merge _ _ _) | (with_reducible exact Agree.refl _ _) | (with_reducible refine Agree.upd ?_ _ _ rfl) | ((with_reducible refine Agree.inner ?_ ?_); (kernel_rfl)))
      · skip
        refine r_exit rfl ?_
        refine r_seq ?_
        refine r_region ?_
        refine r_opcall rfl rfl rfl (run_callf (vs := []) rfl (by exact rfl) Try.func12 rfl (by kernel_rfl)) known_calls ?_
        rintro e w21 ⟨rfl, hE21⟩
        refine ⟨_, rfl, ?_⟩
        have hs_w21 := (hE21).size
        replace hV := evo_step0 hV hE21
        replace hQ := evo_step0 hQ hE21
        replace ha := ha0.now hV
        replace hb := hb0.now hV
        replace hl := hl0 _ hV
        replace hm := hm0 _ hV
        refine r_op rfl rfl rfl (run_asg (v := .bool _) rfl (by exact rfl)) ?_
        refine r_nil ?_
        refine r_ret (res1 (v := .bool _) rfl (by exact rfl)) ?_
        exact ⟨rfl, hV⟩

end Go.Proofs.Ythfahceagabhiaa
