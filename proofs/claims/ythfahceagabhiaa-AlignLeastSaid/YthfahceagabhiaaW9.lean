import Derived.Test.YthfahceagabhiaaW8
namespace Go.Proofs.Ythfahceagabhiaa
open Go.RowKit Go.Vc
theorem ag_39 : aggP Try.prog 39 = some true := by kernel_rfl
theorem ag_41 : aggP Try.prog 41 = some true := by kernel_rfl
theorem iz_3 : EqI Try.prog 1 3 1 false := EqI.int Try.underlying3 ag_3 ty_3
theorem iz_39 : EqI Try.prog 2 39 2 true := EqI.struct Try.underlying39 Try.stoodInHeld39 ag_39 ty_39 ⟨by decide, rfl, 1, false, iz_3, by decide, ⟨by decide, rfl, 1, false, iz_3, by decide, rfl⟩⟩
theorem iz_41 : EqI Try.prog 3 41 4 true := EqI.struct Try.underlying41 Try.stoodInHeld41 ag_41 ty_41 ⟨by decide, rfl, 2, true, iz_39, by decide, ⟨by decide, rfl, 2, true, iz_39, by decide, rfl⟩⟩
theorem bead_ext {x y : Bead} (h : [x.alo, x.ahi, x.blo, x.bhi] = [y.alo, y.ahi, y.blo, y.bhi]) : x = y := by
  cases x; cases y; simp at h; simp [h]
theorem take_both {α : Type} [Inhabited α] {a b : List α} {k : Nat} (hp : a.take k = b.take k) (ha : k < a.length) (hb : k < b.length) (h : a.getD k default = b.getD k default) : a.take (k + 1) = b.take (k + 1) := by
  rw [take_succD a k ha, take_succD b k hb, hp, h]
theorem pair_rows2 {w : World} {ao1 ao2 ao3 ao4 : Option Addr} {b1 b2 b3 b4 o1 o2 o3 o4 c1 c2 c3 c4 : Nat} {l1 l2 l3 l4 : List Side} (h1 : RowR w ao1 b1 o1 c1 l1) (h2 : RowR w ao2 b2 o2 c2 l2) (h3 : RowR w ao3 b3 o3 c3 l3) (h4 : RowR w ao4 b4 o4 c4 l4) (x : Nat) (hx : x < 2) :
    ∃ ao ao' b b' o o' c c', ∃ l l' : List Side, (([.slice ao1 l1.length c1, .slice ao2 l2.length c2, .slice ao3 l3.length c3, .slice ao4 l4.length c4] : List Value).drop (x * 2)).take 2 = [.slice ao l.length c, .slice ao' l'.length c'] ∧ RowR w ao b o c l ∧ RowR w ao' b' o' c' l' := by
  match x, hx with
  | 0, _ => exact ⟨_, _, _, _, _, _, _, _, l1, l2, rfl, h1, h2⟩
  | 1, _ => exact ⟨_, _, _, _, _, _, _, _, l3, l4, rfl, h3, h4⟩

theorem same_calls {aoa aob : Option Addr} {ba offa capa bb offb capb : Nat} {a b : List Bead} {w0 : World} (ha : RowE w0 aoa ba offa capa a) (hb : RowE w0 aob bb offb capb b) :
    Calls Try.prog 19 #[.slice aoa a.length capa, .slice aob b.length capb] w0 fun e w' => e = .returned (.bool (decide (a = b))) ∧ Evo w0 w' [] := by
  refine calls_enter (n := 26) (args := [.slice aoa a.length capa, .slice aob b.length capb]) Try.func19 rfl Try.ntmps19 rfl ?_
  have hV : Evo w0 w0 [] := Evo.refl _ _
  have ha0 := keepE ha
  have hbd_ha := ha.bd
  have hb0 := keepE hb
  have hbd_hb := hb.bd
  refine r_seq ?_
  refine r_region ?_
  refine r_op rfl rfl rfl (run_asg (v := .bool _) rfl (by exact rfl)) ?_
  refine r_nil ?_
  refine r_seq ?_
  refine r_seq ?_
  refine r_region ?_
  refine r_op rfl rfl rfl (run_mv (v := .slice _ _ _) rfl (by exact rfl)) ?_
  refine r_op rfl rfl rfl (run_lenSl rfl (by exact rfl) Try.underlying33) ?_
  refine r_op rfl rfl rfl (run_mv (v := .slice _ _ _) rfl (by exact rfl)) ?_
  refine r_op rfl rfl rfl (run_lenSl rfl (by exact rfl) Try.underlying33) ?_
  refine r_op rfl rfl rfl (run_neq rfl (by exact rfl) (by exact rfl)) ?_
  refine r_nil ?_
  refine r_cond (by exact rfl) (fun hc1 => ?_) (fun hc1 => ?_)
  · skip
    refine r_seq ?_
    refine r_region ?_
    refine r_op rfl rfl rfl (run_asg (v := .bool _) rfl (by exact rfl)) ?_
    refine r_nil ?_
    refine r_ret (res1 (v := .bool _) rfl (by exact rfl)) ?_
    exact ⟨by rw [decide_eq_false (fun h => by subst h; omega)], hV⟩
  · skip
    refine r_skip ?_
    refine r_seq ?_
    refine r_seq ?_
    refine r_region ?_
    refine r_op rfl rfl rfl (run_mv (v := .slice _ _ _) rfl (by exact rfl)) ?_
    refine r_op rfl rfl rfl (run_lenSl rfl (by exact rfl) Try.underlying33) ?_
    refine r_op rfl rfl rfl (run_mv (v := .int _ _) rfl (by exact rfl)) ?_
    refine r_nil ?_
    refine r_block ?_
    refine r_loop (α := Nat) [4, 5, 13, 14, 15, 16, 17, 18, 19, 20, 21, 22, 23, 24, 25] (fun k g w => g 13 = .int .i64 (k : Nat) ∧ k ≤ a.length ∧ a.take k = b.take k ∧ w0.heap.size ≤ w.heap.size ∧ Evo w0 w []) (fun k => a.length - k) 0 ?_ ?_
    · refine ⟨(by first | exact rfl | exact congrArg (Value.int _) (by omega) | exact congrArg (Value.int _) (by dsimp only; omega) | exact congrArg (Value.int _) (by simp) | exact congrArg S (by simp)), (by first | assumption | omega | (dsimp only; omega) | (simp; done)), (by simp), (by first | assumption | omega | (dsimp only; omega) | (simp; done)), hV⟩
    · rintro k g w3 ⟨hj4, hk_k, hpre, hzl2, hV⟩
      have hs_w3hV := hV.size
      replace ha := ha0 _ hV
      replace hb := hb0 _ hV
      refine r_know (i := 13) (v := .int .i64 (k : Nat)) (by exact hj4) ?_
      refine r_seq ?_
      refine r_region ?_
      refine r_op rfl rfl rfl (run_lss rfl (by exact rfl) (by exact rfl)) ?_
      refine r_nil ?_
      refine r_seq ?_
      refine r_cond (by exact rfl) (fun hc5 => ?_) (fun hc5 => ?_)
      · skip
        refine r_skip ?_
        refine r_seq ?_
        refine r_block ?_
        refine r_seq ?_
        refine r_region ?_
        refine r_op rfl rfl rfl (run_mv (v := .int _ _) rfl (by exact rfl)) ?_
        refine r_op rfl rfl rfl (run_asg (v := .int _ _) rfl (by exact rfl)) ?_
        refine r_nil ?_
        refine r_seq ?_
        refine r_qregion (by kernel_rfl) (by kernel_rfl) ?_
        refine q_op rfl rfl rfl (fun w' hC => run_mv (v := .slice _ _ _) rfl (by exact rfl)) ?_
        refine q_op rfl rfl rfl (fun w' hC => run_mv (v := .int _ _) rfl (by exact rfl)) ?_
        refine q_op rfl rfl rfl (fun w' hC => run_ix (k) rfl Try.underlying33 ty_41 (by exact rfl) (by exact rfl) (by first | exact rfl | omega) (by omega) (ha.addr (i := k) (by omega))) ?_
        have hA60 := fun (w' : World) (h : Evo w0 w' []) => (ha0 w' h).atD (k) (by omega)
        have hA6 := hA60 _ hV
        refine q_op rfl rfl rfl (fun w' hC => run_ldN rfl ag_41 ty_41 (by exact rfl) rfl (hA6.evo0 hC)) ?_
        refine q_op rfl rfl rfl (fun w' hC => run_mv (v := .slice _ _ _) rfl (by exact rfl)) ?_
        refine q_op rfl rfl rfl (fun w' hC => run_mv (v := .int _ _) rfl (by exact rfl)) ?_
        refine q_op rfl rfl rfl (fun w' hC => run_ix (k) rfl Try.underlying33 ty_41 (by exact rfl) (by exact rfl) (by first | exact rfl | omega) (by omega) (hb.addr (i := k) (by omega))) ?_
        have hA70 := fun (w' : World) (h : Evo w0 w' []) => (hb0 w' h).atD (k) (by omega)
        have hA7 := hA70 _ hV
        refine q_op rfl rfl rfl (fun w' hC => run_ldN rfl ag_41 ty_41 (by exact rfl) rfl (hA7.evo0 hC)) ?_
        refine q_op rfl rfl rfl (fun w' hC => run_neqZ [_, _, _, _] [_, _, _, _] rfl Try.eqGuardType41 iz_41 rfl (by exact rfl) (by exact rfl) rfl rfl) ?_
        refine q_nil (fun w8 hE9 => ?_)
        have hs_w8 := (hE9).size
        replace hV := evo_step0 hV hE9
        replace ha := ha0 _ hV
        replace hb := hb0 _ hV
        refine r_cond (by exact rfl) (fun hc10 => ?_) (fun hc10 => ?_)
        · skip
          refine r_seq ?_
          refine r_region ?_
          refine r_op rfl rfl rfl (run_asg (v := .bool _) rfl (by exact rfl)) ?_
          refine r_nil ?_
          refine r_ret (res1 (v := .bool _) rfl (by exact rfl)) ?_
          exact ⟨by rw [decide_eq_false (fun h => by subst h; exact hc10 rfl)], hV⟩
        · skip
          refine r_skip ?_
          refine r_blk ?_
          refine r_region ?_
          refine r_op rfl rfl rfl (run_add rfl (by exact rfl) (by exact rfl) (by omega) (by omega)) ?_
          refine r_op rfl rfl rfl (run_mv (v := .int _ _) rfl (by exact rfl)) ?_
          refine r_nil ?_
          refine r_again (k + 1) ?_ ?_ ?_
          · first | omega | (dsimp only; omega)
          · refine ⟨(by first | exact rfl | exact congrArg (Value.int _) (by omega) | exact congrArg (Value.int _) (by dsimp only; omega) | exact congrArg (Value.int _) (by simp) | exact congrArg S (by simp)), (by first | assumption | omega | (dsimp only; omega) | (simp; done)), (take_both hpre (by omega) (by omega) (bead_ext (Classical.not_not.1 hc10))), (by first | assumption | omega | (dsimp only; omega) | (simp; done)), hV⟩
          · repeat (first | (with_reducible exact Agree.merge _ _ _) | (with_reducible exact Agree.refl _ _) | (with_reducible refine Agree.upd ?_ _ _ rfl) | ((with_reducible refine Agree.inner ?_ ?_); (kernel_rfl)))
      · skip
        refine r_exit rfl ?_
        refine r_seq ?_
        refine r_region ?_
        refine r_op rfl rfl rfl (run_asg (v := .bool _) rfl (by exact rfl)) ?_
        refine r_nil ?_
        refine r_ret (res1 (v := .bool _) rfl (by exact rfl)) ?_
        exact ⟨by rw [decide_eq_true (by rw [List.take_of_length_le (by omega), List.take_of_length_le (by omega)] at hpre; exact hpre)], hV⟩

theorem says_law {aoa aob aol aom : Option Addr} {ba offa capa bb offb capb bl offl capl bm offm capm : Nat} {a b : List Side} {l m : List Int} {w0 : World} (ha : RowR w0 aoa ba offa capa a) (hb : RowR w0 aob bb offb capb b) (hl : RowE w0 aol bl offl capl l) (hm : RowE w0 aom bm offm capm m) :
    Calls Try.prog 4 #[.slice aoa a.length capa, .slice aob b.length capb, .slice aol l.length capl, .slice aom m.length capm] w0 fun e w' => e = .returned (.bool true) ∧ Evo w0 w' [] := by
  refine calls_enter (n := 85) (args := [.slice aoa a.length capa, .slice aob b.length capb, .slice aol l.length capl, .slice aom m.length capm]) Try.func4 rfl Try.ntmps4 rfl ?_
  have hV : Evo w0 w0 [] := Evo.refl _ _
  have ha0 := ha.keep
  have hbd_ha := ha.bd
  have hb0 := hb.keep
  have hbd_hb := hb.bd
  have hl0 := keepE hl
  have hbd_hl := hl.bd
  have hm0 := keepE hm
  have hbd_hm := hm.bd
  refine r_seq ?_
  refine r_region ?_
  refine r_op rfl rfl rfl (run_asg (v := .bool _) rfl (by exact rfl)) ?_
  refine r_nil ?_
  refine r_seq ?_
  refine r_seq ?_
  refine r_region ?_
  refine r_op rfl rfl rfl (run_mv (v := .slice _ _ _) rfl (by exact rfl)) ?_
  refine r_opcall rfl rfl rfl (run_callf (vs := [.slice _ _ _]) rfl (by exact rfl) Try.func11 rfl (by kernel_rfl)) (light_calls ha) ?_
  rintro e w1 ⟨lx1, rfl, hlx1, hE1⟩
  refine ⟨_, rfl, ?_⟩
  have hs_w1 := (hE1).size
  replace hV := evo_step0 hV hE1
  replace ha := ha0.now hV
  replace hb := hb0.now hV
  replace hl := hl0 _ hV
  replace hm := hm0 _ hV
  refine r_op rfl rfl rfl (run_notb rfl (by exact rfl)) ?_
  refine r_op rfl rfl rfl (run_mvb rfl (by exact rfl)) ?_
  refine r_g rfl (wantF (by exact rfl)) rfl (fun hg => run_mv (v := .slice _ _ _) rfl (by exact rfl)) ?_
  refine r_gcallB rfl (wantF (by exact rfl)) rfl (fun hg => run_callf rfl (argcons (v := .slice _ _ _) (glv (by exact rfl) (fun h => h) hg) (rfl)) Try.func11 rfl (by kernel_rfl)) (fun hg => (light_calls hb)) ?_
  intro gx4 w2 hgx4 hE3
  have hs_w2 := (hE3).size
  replace hV := evo_step0 hV hE3
  replace ha := ha0.now hV
  replace hb := hb0.now hV
  replace hl := hl0 _ hV
  replace hm := hm0 _ hV
  refine r_g rfl (wantF (by exact rfl)) rfl (fun hg => run_not rfl (glv (by exact rfl) (fun h => h) hg)) ?_
  refine r_op rfl rfl rfl (run_pick_or rfl (by exact rfl) rfl (fun hq => glv (by exact rfl) (fun h => h) hq)) ?_
  refine r_op rfl rfl rfl (run_mv (v := .bool _) rfl (by exact rfl)) ?_
  refine r_g rfl (wantF (by exact rfl)) rfl (fun hg => run_mv (v := .slice _ _ _) rfl (by exact rfl)) ?_
  refine r_g rfl (wantF (by exact rfl)) rfl (fun hg => run_lenSl rfl (glv (by exact rfl) (fun h => h) hg) Try.underlying23) ?_
  refine r_g rfl (wantF (by exact rfl)) rfl (fun hg => run_gtr rfl (glv (by exact rfl) (fun h => h) hg) (by exact rfl)) ?_
  refine r_op rfl rfl rfl (run_pick_or rfl (by exact rfl) rfl (fun hq => glv (by exact rfl) (fun h => h) hq)) ?_
  refine r_op rfl rfl rfl (run_mv (v := .bool _) rfl (by exact rfl)) ?_
  refine r_g rfl (wantF (by exact rfl)) rfl (fun hg => run_mv (v := .slice _ _ _) rfl (by exact rfl)) ?_
  refine r_g rfl (wantF (by exact rfl)) rfl (fun hg => run_lenSl rfl (glv (by exact rfl) (fun h => h) hg) Try.underlying23) ?_
  refine r_g rfl (wantF (by exact rfl)) rfl (fun hg => run_gtr rfl (glv (by exact rfl) (fun h => h) hg) (by exact rfl)) ?_
  refine r_op rfl rfl rfl (run_pick_or rfl (by exact rfl) rfl (fun hq => glv (by exact rfl) (fun h => h) hq)) ?_
  refine r_nil ?_
  refine r_cond (by exact rfl) (fun hc5 => ?_) (fun hc5 => ?_)
  · skip
    refine r_seq ?_
    refine r_region ?_
    refine r_opcall rfl rfl rfl (run_callf (vs := []) rfl (by exact rfl) Try.func12 rfl (by kernel_rfl)) known_calls ?_
    rintro e w6 ⟨rfl, hE6⟩
    refine ⟨_, rfl, ?_⟩
    have hs_w6 := (hE6).size
    replace hV := evo_step0 hV hE6
    replace ha := ha0.now hV
    replace hb := hb0.now hV
    replace hl := hl0 _ hV
    replace hm := hm0 _ hV
    refine r_op rfl rfl rfl (run_asg (v := .bool _) rfl (by exact rfl)) ?_
    refine r_nil ?_
    refine r_ret (res1 (v := .bool _) rfl (by exact rfl)) ?_
    exact ⟨rfl, hV⟩
  · skip
    refine r_skip ?_
    refine r_seq ?_
    refine r_region ?_
    refine r_op rfl rfl rfl (run_mv (v := .slice _ _ _) rfl (by exact rfl)) ?_
    refine r_opcall rfl rfl rfl (run_callf (vs := [.slice _ _ _, .int _ _]) rfl (by exact rfl) Try.func13 rfl (by kernel_rfl)) (made_calls hl (by omega) (by omega)) ?_
    rintro e w7 ⟨vm7, sm7, rfl, hE7, hsm7, hor7⟩
    refine ⟨_, rfl, ?_⟩
    have hs_w7 := (hE7).size
    replace hV := evo_step0 hV hE7
    replace ha := ha0.now hV
    replace hb := hb0.now hV
    replace hl := hl0 _ hV
    replace hm := hm0 _ hV
    refine r_op rfl rfl rfl (run_asg (v := vm7) rfl (by exact rfl)) ?_
    refine r_nil ?_
    refine r_seq ?_
    refine r_seq ?_
    refine r_region ?_
    refine r_op rfl rfl rfl (run_mv (v := .slice _ _ _) rfl (by exact rfl)) ?_
    refine r_op rfl rfl rfl (run_mv (v := .slice _ _ _) rfl (by exact rfl)) ?_
    refine r_op rfl rfl rfl (run_bld (pv := [(0, .slice _ _ _), (1, .slice _ _ _)]) (zs := [_, _]) (cells := [_, _]) rfl ty_26 (by exact rfl) pl_26 (by exact rfl) (by exact rfl)) ?_
    refine r_op rfl rfl rfl (run_mv (v := vm7) rfl (by exact rfl)) ?_
    refine r_op rfl rfl rfl (run_mv (v := vm7) rfl (by exact rfl)) ?_
    refine r_op rfl rfl rfl (run_mv (v := .slice _ _ _) rfl (by exact rfl)) ?_
    obtain ⟨ao8, g8, cp8, hv8, hr8⟩ := hor7.rowOf
    subst hv8
    have hbd_hr8 := hr8.bd
    refine r_opcall rfl rfl rfl (run_callf (vs := [.slice _ _ _, .slice _ _ _]) rfl (by exact rfl) Try.func16 rfl (by kernel_rfl)) (near_calls hr8 hm (by omega)) ?_
    rintro e w9 ⟨vn9, sn9, rfl, hE9, hsn9, hor9⟩
    refine ⟨_, rfl, ?_⟩
    have hs_w9 := (hE9).size
    replace hV := evo_step0 hV hE9
    replace ha := ha0.now hV
    replace hb := hb0.now hV
    replace hl := hl0 _ hV
    replace hm := hm0 _ hV
    replace hor7 := hor7.evo0 hE9
    replace hr8 := hr8.evo0 hE9
    obtain ⟨ao10, g10, cp10, hv10, hr10⟩ := hor9.rowOf
    subst hv10
    have hbd_hr10 := hr10.bd
    refine r_op rfl rfl rfl (run_bld (pv := [(0, .slice _ _ _), (1, .slice _ _ _)]) (zs := [_, _]) (cells := [_, _]) rfl ty_26 (by exact rfl) pl_26 (by exact rfl) (by exact rfl)) ?_
    refine r_op rfl rfl rfl (run_bld (pv := [(0, .agg _), (1, .agg _)]) (zs := [_, _, _, _]) (cells := [_, _, _, _]) rfl ty_28 (by exact rfl) pl_28 (by exact rfl) (by exact rfl)) ?_
    refine r_op rfl rfl rfl (run_mv (v := .int _ _) rfl (by exact rfl)) ?_
    refine r_nil ?_
    refine r_block ?_
    have hQ : Evo w9 w9 [] := Evo.refl _ _
    have hpr := pair_rows2 ha hb hr8 hr10
    refine r_loop (α := Nat) [8, 11, 12, 13, 14, 15, 16, 17, 48, 49, 50, 51, 52, 53, 54, 55, 56, 57, 58, 59, 60, 61, 62, 63, 64, 65, 66, 67, 68, 69, 70, 71, 72, 73, 74, 75, 76, 77, 78, 79, 80, 81, 82, 83] (fun x g w => g 48 = .int .i64 (x : Nat) ∧ x ≤ 2 ∧ w9.heap.size ≤ w.heap.size ∧ Evo w0 w [] ∧ Evo w9 w []) (fun x => 2 - x) 0 ?_ ?_
    · refine ⟨(by first | exact rfl | exact congrArg (Value.int _) (by omega) | exact congrArg (Value.int _) (by dsimp only; omega) | exact congrArg (Value.int _) (by simp) | exact congrArg S (by simp)), (by first | assumption | omega | (dsimp only; omega) | (simp; done)), (by first | assumption | omega | (dsimp only; omega) | (simp; done)), hV, hQ⟩
    · rintro x g w12 ⟨hj13, hk_x, hzl11, hV, hQ⟩
      have hs_w12hV := hV.size
      have hs_w12hQ := hQ.size
      replace ha := ha0.now hV
      replace hb := hb0.now hV
      replace hl := hl0 _ hV
      replace hm := hm0 _ hV
      refine r_know (i := 48) (v := .int .i64 (x : Nat)) (by exact hj13) ?_
      refine r_seq ?_
      refine r_region ?_
      refine r_op rfl rfl rfl (run_lss rfl (by exact rfl) (by exact rfl)) ?_
      refine r_nil ?_
      refine r_seq ?_
      refine r_cond (by exact rfl) (fun hc14 => ?_) (fun hc14 => ?_)
      · skip
        refine r_skip ?_
        refine r_seq ?_
        refine r_block ?_
        refine r_seq ?_
        obtain ⟨aoL, aoR, bL, bR, oL, oR, cL, cR, lL, lR, hcs, hL00, hR00⟩ := hpr x (by omega)
        have hL0 := hL00.keep
        have hL := hL0.now hQ
        have hR0 := hR00.keep
        have hR := hR0.now hQ
        refine r_region ?_
        refine r_op rfl rfl rfl (run_ixAg (ds := [_, _]) (x) rfl Try.underlying28 ty_26 ag_26 (by exact rfl) (by exact rfl) (by first | exact rfl | omega) (by omega) hcs) ?_
        refine r_var (zs := [_, _]) (vs := [_, _]) ty_26 (by exact rfl) rfl (by exact rfl) (fun _ => rfl) (by exact rfl) rfl rfl (by exact rfl) ?_
        intro b15 w16 heb15 hEw16 hbb15 hzb15
        have hs_w16 := (hEw16).size
        replace hV := evo_step0 hV hEw16
        replace hQ := evo_step0 hQ hEw16
        replace ha := ha0.now hV
        replace hb := hb0.now hV
        replace hl := hl0 _ hV
        replace hm := hm0 _ hV
        replace hL := hL0.now hQ
        replace hR := hR0.now hQ
        have hAb15 := hbb15.at
        refine r_nil ?_
        refine r_seq ?_
        refine r_region ?_
        refine r_op rfl rfl rfl (run_ixP (0) rfl Try.underlying26 ty_22 (by exact rfl) (by exact rfl) (by exact rfl) (by omega)) ?_
        refine r_op rfl rfl rfl (run_ld1 rfl ag_22 (by exact rfl) (hAb15.cell 0 (by exact rfl))) ?_
        refine r_op rfl rfl rfl (run_ixP (1) rfl Try.underlying26 ty_22 (by exact rfl) (by exact rfl) (by exact rfl) (by omega)) ?_
        refine r_op rfl rfl rfl (run_ld1 rfl ag_22 (by exact rfl) (hAb15.cell 1 (by exact rfl))) ?_
        refine r_opcall rfl rfl rfl (run_callf (vs := [.slice _ _ _, .slice _ _ _]) rfl (by exact rfl) Try.func17 rfl (by kernel_rfl)) (align_calls hL hR) ?_
        rintro e w17 ⟨va17, rfl, hE17, hx17⟩
        refine ⟨_, rfl, ?_⟩
        have hs_w17 := (hE17).size
        replace hV := evo_step0 hV hE17
        replace hQ := evo_step0 hQ hE17
        replace ha := ha0.now hV
        replace hb := hb0.now hV
        replace hl := hl0 _ hV
        replace hm := hm0 _ hV
        replace hL := hL0.now hQ
        replace hR := hR0.now hQ
        replace hbb15 := hbb15.evo0 hE17
        replace hAb15 := hAb15.evo0 hE17
        refine r_op rfl rfl rfl (run_mv (v := .tuple _) rfl (by exact rfl)) ?_
        refine r_op rfl rfl rfl (run_extract (v := va17) rfl (by exact rfl) (by exact rfl)) ?_
        refine r_op rfl rfl rfl (run_extract (v := .int _ _) rfl (by exact rfl) (by exact rfl)) ?_
        refine r_op rfl rfl rfl (run_extract (v := .int _ _) rfl (by exact rfl) (by exact rfl)) ?_
        refine r_op rfl rfl rfl (run_asg (v := va17) rfl (by exact rfl)) ?_
        refine r_op rfl rfl rfl (run_asg (v := .int _ _) rfl (by exact rfl)) ?_
        refine r_op rfl rfl rfl (run_asg (v := .int _ _) rfl (by exact rfl)) ?_
        refine r_nil ?_
        refine r_seq ?_
        refine r_region ?_
        refine r_op rfl rfl rfl (run_ixP (0) rfl Try.underlying26 ty_22 (by exact rfl) (by exact rfl) (by exact rfl) (by omega)) ?_
        refine r_op rfl rfl rfl (run_ld1 rfl ag_22 (by exact rfl) (hAb15.cell 0 (by exact rfl))) ?_
        refine r_op rfl rfl rfl (run_ixP (1) rfl Try.underlying26 ty_22 (by exact rfl) (by exact rfl) (by exact rfl) (by omega)) ?_
        refine r_op rfl rfl rfl (run_ld1 rfl ag_22 (by exact rfl) (hAb15.cell 1 (by exact rfl))) ?_
        refine r_opcall rfl rfl rfl (run_callf (vs := [.slice _ _ _, .slice _ _ _]) rfl (by exact rfl) Try.func18 rfl (by kernel_rfl)) (ralign_calls hL hR) ?_
        rintro e w18 ⟨va18, rfl, hE18, hx18⟩
        refine ⟨_, rfl, ?_⟩
        have hs_w18 := (hE18).size
        replace hV := evo_step0 hV hE18
        replace hQ := evo_step0 hQ hE18
        replace ha := ha0.now hV
        replace hb := hb0.now hV
        replace hl := hl0 _ hV
        replace hm := hm0 _ hV
        replace hL := hL0.now hQ
        replace hR := hR0.now hQ
        replace hx17 := hx17.evo0 hE18
        refine r_op rfl rfl rfl (run_mv (v := .tuple _) rfl (by exact rfl)) ?_
        refine r_op rfl rfl rfl (run_extract (v := va18) rfl (by exact rfl) (by exact rfl)) ?_
        refine r_op rfl rfl rfl (run_extract (v := .int _ _) rfl (by exact rfl) (by exact rfl)) ?_
        refine r_op rfl rfl rfl (run_extract (v := .int _ _) rfl (by exact rfl) (by exact rfl)) ?_
        refine r_op rfl rfl rfl (run_asg (v := va18) rfl (by exact rfl)) ?_
        refine r_op rfl rfl rfl (run_asg (v := .int _ _) rfl (by exact rfl)) ?_
        refine r_op rfl rfl rfl (run_asg (v := .int _ _) rfl (by exact rfl)) ?_
        refine r_nil ?_
        refine r_seq ?_
        refine r_region ?_
        refine r_op rfl rfl rfl (run_mv (v := .int _ _) rfl (by exact rfl)) ?_
        refine r_op rfl rfl rfl (run_mv (v := .int _ _) rfl (by exact rfl)) ?_
        refine r_op rfl rfl rfl (run_neq rfl (by exact rfl) (by exact rfl)) ?_
        refine r_op rfl rfl rfl (run_mv (v := .bool _) rfl (by exact rfl)) ?_
        refine r_g rfl (wantF (by exact rfl)) rfl (fun hg => run_mv (v := .int _ _) rfl (by exact rfl)) ?_
        refine r_g rfl (wantF (by exact rfl)) rfl (fun hg => run_mv (v := .int _ _) rfl (by exact rfl)) ?_
        refine r_g rfl (wantF (by exact rfl)) rfl (fun hg => run_neq rfl (glv (by exact rfl) (fun h => h) hg) (glv (by exact rfl) (fun h => h) hg)) ?_
        refine r_op rfl rfl rfl (run_pick_or rfl (by exact rfl) rfl (fun hq => glv (by exact rfl) (fun h => h) hq)) ?_
        refine r_op rfl rfl rfl (run_mv (v := .bool _) rfl (by exact rfl)) ?_
        refine r_g rfl (wantF (by exact rfl)) rfl (fun hg => run_mv (v := va17) rfl (by exact rfl)) ?_
        refine r_g rfl (wantF (by exact rfl)) rfl (fun hg => run_mv (v := va18) rfl (by exact rfl)) ?_
        obtain ⟨ao19, g19, cp19, hv19, hr19, hg19⟩ := hx17.rowOf
        subst hv19
        obtain ⟨ao20, g20, cp20, hv20, hr20, hg20⟩ := hx18.rowOf
        subst hv20
        refine r_gcall rfl (wantF (by exact rfl)) rfl (fun hg => run_callf rfl (argcons (v := .slice _ _ _) (glv (by exact rfl) (fun h => h) hg) (argcons (v := .slice _ _ _) (glv (by exact rfl) (fun h => h) hg) (rfl))) Try.func19 rfl (by kernel_rfl)) (fun hg => (same_calls hr19 hr20).mono (fun e w' h => ⟨h.1, h.2⟩)) (fun w21 hE22 => ?_)
        have hs_w21 := (hE22).size
        replace hV := evo_step0 hV hE22
        replace hQ := evo_step0 hQ hE22
        replace ha := ha0.now hV
        replace hb := hb0.now hV
        replace hl := hl0 _ hV
        replace hm := hm0 _ hV
        replace hL := hL0.now hQ
        replace hR := hR0.now hQ
        replace hx17 := hx17.evo0 hE22
        replace hx18 := hx18.evo0 hE22
        replace hr19 := hr19.evo0 hE22
        replace hr20 := hr20.evo0 hE22
        refine r_g rfl (wantF (by exact rfl)) rfl (fun hg => run_not rfl (glv (by exact rfl) (fun h => h) hg)) ?_
        refine r_op rfl rfl rfl (run_pick_or rfl (by exact rfl) rfl (fun hq => glv (by exact rfl) (fun h => h) hq)) ?_
        refine r_nil ?_
        refine r_cond (by exact rfl) (fun hc23 => ?_) (fun hc23 => ?_)
        · skip
          exfalso; simp at hc23
        · skip
          refine r_skip ?_
          refine r_blk ?_
          refine r_region ?_
          refine r_op rfl rfl rfl (run_add rfl (by exact rfl) (by exact rfl) (by omega) (by omega)) ?_
          refine r_op rfl rfl rfl (run_mv (v := .int _ _) rfl (by exact rfl)) ?_
          refine r_nil ?_
          refine r_again (x + 1) ?_ ?_ ?_
          · first | omega | (dsimp only; omega)
          · refine ⟨(by first | exact rfl | exact congrArg (Value.int _) (by omega) | exact congrArg (Value.int _) (by dsimp only; omega) | exact congrArg (Value.int _) (by simp) | exact congrArg S (by simp)), (by first | assumption | omega | (dsimp only; omega) | (simp; done)), (by first | assumption | omega | (dsimp only; omega) | (simp; done)), hV, hQ⟩
          · repeat (first | (with_reducible exact Agree.merge _ _ _) | (with_reducible exact Agree.refl _ _) | (with_reducible refine Agree.upd ?_ _ _ rfl) | ((with_reducible refine Agree.inner ?_ ?_); (kernel_rfl)))
      · skip
        refine r_exit rfl ?_
        refine r_seq ?_
        refine r_region ?_
        refine r_opcall rfl rfl rfl (run_callf (vs := []) rfl (by exact rfl) Try.func12 rfl (by kernel_rfl)) known_calls ?_
        rintro e w24 ⟨rfl, hE24⟩
        refine ⟨_, rfl, ?_⟩
        have hs_w24 := (hE24).size
        replace hV := evo_step0 hV hE24
        replace hQ := evo_step0 hQ hE24
        replace ha := ha0.now hV
        replace hb := hb0.now hV
        replace hl := hl0 _ hV
        replace hm := hm0 _ hV
        refine r_op rfl rfl rfl (run_asg (v := .bool _) rfl (by exact rfl)) ?_
        refine r_nil ?_
        refine r_ret (res1 (v := .bool _) rfl (by exact rfl)) ?_
        exact ⟨rfl, hV⟩

end Go.Proofs.Ythfahceagabhiaa
