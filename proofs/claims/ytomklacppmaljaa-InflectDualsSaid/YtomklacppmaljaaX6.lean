import Derived.Test.YtomklacppmaljaaX5
namespace Go.Proofs.Ytomklacppmaljaa
open Go.RowKit Go.Vc

theorem rstems_calls {ao : Option Addr} {b off cap : Nat} {c : List Clas} {p q : Str} {w0 : World} (hc : RowR w0 ao b off cap c) (hen : (endsL c q).length ≤ 4398046510976) (hbe : ∀ k, BdE ((endsL c q).getD k default)) (hp : p.length ≤ 4000) (hq : q.length ≤ 140737488355328) :
    Calls Try.prog 32 #[.slice ao c.length cap, S q, S p] w0 fun e w' => ∃ ao' b' off' cap', e = .returned (.slice ao' (stemsC c q p).length cap') ∧ Evo w0 w' [] ∧ RowE w' ao' b' off' cap' (stemsC c q p) := by
 refine calls_enter (n := 55) (args := [.slice ao c.length cap, S q, S p]) Try.func32 rfl Try.ntmps32 rfl ?_
 have hV : Evo w0 w0 [] := Evo.refl _ _
 have hc0 := hc.keep
 have hbd_hc := hc.bd
 refine r_seq ?_
 refine r_region ?_
 refine r_op rfl rfl rfl (run_asg (v := .slice _ _ _) rfl (by exact rfl)) ?_
 refine r_nil ?_
 refine r_seq ?_
 refine r_seq ?_
 refine r_region ?_
 refine r_op rfl rfl rfl (run_mv (v := S _) rfl (by exact rfl)) ?_
 refine r_op rfl rfl rfl (run_seql rfl (by exact rfl) (by exact rfl)) ?_
 refine r_nil ?_
 refine r_cond (by exact rfl) (fun hc1 => ?_) (fun hc1 => ?_)
 ·skip
  refine r_seq ?_
  refine r_region ?_
  refine r_op rfl rfl rfl (run_asg (v := .slice _ _ _) rfl (by exact rfl)) ?_
  refine r_nil ?_
  refine r_ret (res1 (v := .slice _ _ _) rfl (by exact rfl)) ?_
  exact ⟨none, 0, 0, 0, by unfold stemsC; rw [if_pos hc1]; rfl, hV, by unfold stemsC; rw [if_pos hc1]; exact RowE.nil _ _ _ _ _⟩
 ·skip
  refine r_skip ?_
  refine r_seq ?_
  refine r_region ?_
  refine r_op rfl rfl rfl (run_mv (v := S _) rfl (by exact rfl)) ?_
  refine r_opcall rfl rfl rfl (run_callf (vs := [S _]) rfl (by exact rfl) Try.func74 rfl (by kernel_rfl)) (rlower_calls (by first | omega | (simp; omega))) ?_
  rintro e w2 ⟨rfl, hE2⟩
  refine ⟨_, rfl, ?_⟩
  have hs_w2 := (hE2).size
  replace hV := evo_step0 hV hE2
  replace hc := hc0.now hV
  refine r_op rfl rfl rfl (run_asg (v := S _) rfl (by exact rfl)) ?_
  refine r_nil ?_
  refine r_seq ?_
  refine r_region ?_
  refine r_op rfl rfl rfl (run_mv (v := S _) rfl (by exact rfl)) ?_
  refine r_bslice (pv := [(0, S _)]) (zs := [_]) (cs := [_]) Try.underlying34 ty_9 (by exact rfl) rfl (by exact rfl) rfl (by exact rfl) ?_
  intro b3 w4 heb3 hEw4 hbb3 hzb3
  have hs_w4 := (hEw4).size
  replace hV := evo_step0 hV hEw4
  replace hc := hc0.now hV
  have hAb3 := hbb3.at
  have hrb3 : RowE w4 (some ⟨b3, 0, none⟩) b3 0 1 ([lowS p] : List Str) := rowLit ([lowS p] : List Str) hbb3 rfl rfl
  refine r_op rfl rfl rfl (run_asg (v := .slice (some ⟨b3, 0, none⟩) _ _) rfl (by exact rfl)) ?_
  refine r_nil ?_
  refine r_seq ?_
  refine r_seq ?_
  refine r_region ?_
  refine r_op rfl rfl rfl (run_mv (v := S _) rfl (by exact rfl)) ?_
  refine r_op rfl rfl rfl (run_seql rfl (by exact rfl) (by exact rfl)) ?_
  refine r_nil ?_
  refine r_cond (by exact rfl) (fun hc5 => ?_) (fun hc5 => ?_)
  ·skip
   refine r_seq ?_
   refine r_region ?_
   refine r_op rfl rfl rfl (run_mv (v := .slice (some ⟨b3, 0, none⟩) _ _) rfl (by exact rfl)) ?_
   refine r_op rfl rfl rfl (run_asg (v := .slice (some ⟨b3, 0, none⟩) _ _) rfl (by exact rfl)) ?_
   refine r_nil ?_
   refine r_ret (res1 (v := .slice (some ⟨b3, 0, none⟩) _ _) rfl (by exact rfl)) ?_
   exact ⟨_, _, _, _, by rw [stems_none (by assumption) hc5]; rfl, hV, by rw [stems_none (by assumption) hc5]; exact hrb3⟩
  ·skip
   refine r_skip ?_
   refine r_seq ?_
   refine r_seq ?_
   refine r_region ?_
   refine r_op rfl rfl rfl (run_mv (v := .slice _ _ _) rfl (by exact rfl)) ?_
   refine r_op rfl rfl rfl (run_mv (v := S _) rfl (by exact rfl)) ?_
   refine r_opcall rfl rfl rfl (run_callf (vs := [.slice _ _ _, S _]) rfl (by exact rfl) Try.func75 rfl (by kernel_rfl)) (rends_calls hc0 hV) ?_
   rintro e w6 ⟨ao6, b6, off6, cap6, rfl, hE6, hr60⟩
   refine ⟨_, rfl, ?_⟩
   have hs_w6 := (hE6).size
   replace hV := evo_step0 hV hE6
   replace hc := hc0.now hV
   replace hrb3 := hrb3.evo0 hE6
   have hr6 := hr60 _ hV
   have hbd_hr6 := hr6.bd
   refine r_op rfl rfl rfl (run_lenSl rfl (by exact rfl) Try.underlying41) ?_
   refine r_op rfl rfl rfl (run_mv (v := .int _ _) rfl (by exact rfl)) ?_
   refine r_nil ?_
   refine r_block ?_
   refine r_loop (α := Nat) [8, 10, 11, 12, 26, 27, 28, 29, 30, 31, 32, 33, 34, 35, 36, 37, 38, 39, 40, 41, 42, 43, 44, 45, 46, 47, 48, 49, 50, 51, 52, 53] (fun k g w => ∃ ao6 : Option Addr, ∃ b6 : Nat, ∃ of6 : Nat, ∃ cp6 : Nat, g 26 = .int .i64 (k : Nat) ∧ g 8 = .slice ao6 (foldF isLow (lowS p) bwd ((endsL c q).take k)).length cp6 ∧ k ≤ (endsL c q).length ∧ RowE w ao6 b6 of6 cp6 (foldF isLow (lowS p) bwd ((endsL c q).take k)) ∧ w6.heap.size ≤ w.heap.size ∧ Evo w0 w []) (fun k => (endsL c q).length - k) 0 ?_ ?_
   ·refine ⟨_, _, _, _, (by first | exact rfl | exact congrArg (Value.int _) (by omega) | exact congrArg (Value.int _) (by dsimp only; omega) | exact congrArg (Value.int _) (by simp) | exact congrArg S (by simp)), rfl, (by first | assumption | omega | (dsimp only; omega) | (simp; done)), hrb3, (by first | assumption | omega | (dsimp only; omega) | (simp; done)), hV⟩
   ·rintro k g w8 ⟨ao6, b6, of6, cp6, hj9, hj10, hk_k, hro, hzl7, hV⟩
    have hs_w8hV := hV.size
    replace hc := hc0.now hV
    replace hr6 := hr60 _ hV
    refine r_know (i := 26) (v := .int .i64 (k : Nat)) (by exact hj9) ?_
    refine r_know (i := 8) (v := .slice ao6 (foldF isLow (lowS p) bwd ((endsL c q).take k)).length cp6) (by exact hj10) ?_
    have hfl := foldF_len isLow (lowS p) bwd ((endsL c q).take k)
    have hft : ((endsL c q).take k).length ≤ k := List.length_take_le _ _
    have hbk := hbe k
    have hb1 := hbk.1
    have hb2 := hbk.2
    refine r_seq ?_
    refine r_region ?_
    refine r_op rfl rfl rfl (run_lss rfl (by exact rfl) (by exact rfl)) ?_
    refine r_nil ?_
    refine r_seq ?_
    refine r_cond (by exact rfl) (fun hc11 => ?_) (fun hc11 => ?_)
    ·skip
     refine r_skip ?_
     refine r_seq ?_
     refine r_block ?_
     refine r_seq ?_
     refine r_region ?_
     refine r_op rfl rfl rfl (run_ix (k) rfl Try.underlying41 ty_46 (by exact rfl) (by exact rfl) (by first | exact rfl | omega) (by omega) (hr6.addr (i := k) (by omega))) ?_
     have hA120 := fun (w' : World) (h : Evo w0 w' []) => (hr60 w' h).atD (k) (by omega)
     have hA12 := hA120 _ hV
     refine r_op rfl rfl rfl (run_ldN rfl ag_46 ty_46 (by exact rfl) rfl hA12) ?_
     refine r_var (zs := [_, _]) (vs := [_, _]) ty_46 (by exact rfl) rfl (by exact rfl) (fun _ => rfl) (by exact rfl) rfl rfl (by exact rfl) ?_
     intro b13 w14 heb13 hEw14 hbb13 hzb13
     have hs_w14 := (hEw14).size
     replace hV := evo_step0 hV hEw14
     replace hc := hc0.now hV
     replace hro := hro.evo0 hEw14
     have hAb13 := hbb13.at
     refine r_nil ?_
     refine r_seq ?_
     refine r_region ?_
     refine r_op rfl rfl rfl (run_mv (v := S _) rfl (by exact rfl)) ?_
     refine r_op rfl rfl rfl (run_fa rfl (by exact rfl) fo_46_1) ?_
     refine r_op rfl rfl rfl (run_ld1 rfl ag_9 (by exact rfl) (hAb13.cell 1 (by exact rfl))) ?_
     refine r_op rfl rfl rfl (run_fa rfl (by exact rfl) fo_46_0) ?_
     refine r_op rfl rfl rfl (run_ld1 rfl ag_9 (by exact rfl) (hAb13.cell 0 (by exact rfl))) ?_
     refine r_opcall rfl rfl rfl (run_callf (vs := [S _, S _, S _]) rfl (by exact rfl) Try.func76 rfl (by kernel_rfl)) (turned_calls (by first | omega | (simp; omega)) (by first | omega | (simp; omega)) (by first | omega | (simp; omega))) ?_
     rintro e w15 ⟨rfl, hE15⟩
     refine ⟨_, rfl, ?_⟩
     have hs_w15 := (hE15).size
     replace hV := evo_step0 hV hE15
     replace hc := hc0.now hV
     replace hro := hro.evo0 hE15
     refine r_op rfl rfl rfl (run_mv (v := .tuple _) rfl (by exact rfl)) ?_
     refine r_op rfl rfl rfl (run_extract (v := S _) rfl (by exact rfl) (by exact rfl)) ?_
     refine r_op rfl rfl rfl (run_extract (v := .bool _) rfl (by exact rfl) (by exact rfl)) ?_
     refine r_op rfl rfl rfl (run_asg (v := S _) rfl (by exact rfl)) ?_
     refine r_op rfl rfl rfl (run_asg (v := .bool _) rfl (by exact rfl)) ?_
     refine r_nil ?_
     refine r_seq ?_
     have htl := turn_len (lowS p) ((endsL c q).getD k default).add ((endsL c q).getD k default).strip; rw [lowS_len] at htl
     refine r_region ?_
     refine r_op rfl rfl rfl (run_mvb rfl (by exact rfl)) ?_
     refine r_op rfl rfl rfl (run_mv (v := .bool _) rfl (by exact rfl)) ?_
     refine r_g rfl (wantT (by exact rfl)) rfl (fun hg => run_mv (v := S _) rfl (by exact rfl)) ?_
     refine r_g rfl (wantT (by exact rfl)) rfl (fun hg => run_sneq rfl (glv (by exact rfl) (fun h => h) hg) (by exact rfl)) ?_
     refine r_op rfl rfl rfl (run_pick_and rfl (by exact rfl) (fun hq => glv (by exact rfl) (fun h => h) hq) rfl) ?_
     refine r_op rfl rfl rfl (run_mv (v := .bool _) rfl (by exact rfl)) ?_
     refine r_g rfl (wantT (by exact rfl)) rfl (fun hg => run_mv (v := S _) rfl (by exact rfl)) ?_
     refine r_gcall rfl (wantT (by exact rfl)) rfl (fun hg => run_callf rfl (argcons (v := S _) (glv (by exact rfl) (fun h => h) hg) (rfl)) Try.func74 rfl (by kernel_rfl)) (fun hg => (rlower_calls (by first | omega | (simp; omega))).mono (fun e w' h => ⟨h.1, h.2⟩)) (fun w16 hE17 => ?_)
     have hs_w16 := (hE17).size
     replace hV := evo_step0 hV hE17
     replace hc := hc0.now hV
     replace hro := hro.evo0 hE17
     refine r_g rfl (wantT (by exact rfl)) rfl (fun hg => run_mv (v := S _) rfl (by exact rfl)) ?_
     refine r_g rfl (wantT (by exact rfl)) rfl (fun hg => run_seql rfl (glv (by exact rfl) (fun h => h) hg) (glv (by exact rfl) (fun h => h) hg)) ?_
     refine r_op rfl rfl rfl (run_pick_and rfl (by exact rfl) (fun hq => glv (by exact rfl) (fun h => h) hq) rfl) ?_
     refine r_nil ?_
     refine r_cond (by exact rfl) (fun hc18 => ?_) (fun hc18 => ?_)
     ·skip
      refine r_region ?_
      refine r_op rfl rfl rfl (run_mv (v := .slice _ _ _) rfl (by exact rfl)) ?_
      refine r_op rfl rfl rfl (run_mv (v := S _) rfl (by exact rfl)) ?_
      refine r_opcall rfl rfl rfl (run_callf (vs := [.slice _ _ _, S _]) rfl (by exact rfl) Try.func77 rfl (by kernel_rfl)) (radd_calls hro (by omega)) ?_
      rintro e w19 ⟨vi19, rfl, hE19, hi19⟩
      refine ⟨_, rfl, ?_⟩
      have hs_w19 := (hE19).size
      replace hV := evo_step0 hV hE19
      replace hc := hc0.now hV
      replace hro := hro.evo0 hE19
      refine r_op rfl rfl rfl (run_asg (v := vi19) rfl (by exact rfl)) ?_
      refine r_nil ?_
      refine r_blk ?_
      obtain ⟨ao20, g20, cp20, hv20, hr20, hg20⟩ := hi19.rowOf
      subst hv20
      refine r_region ?_
      refine r_op rfl rfl rfl (run_add rfl (by exact rfl) (by exact rfl) (by omega) (by omega)) ?_
      refine r_op rfl rfl rfl (run_mv (v := .int _ _) rfl (by exact rfl)) ?_
      refine r_nil ?_
      refine r_again (k + 1) ?_ ?_ ?_
      ·first | omega | (dsimp only; omega)
      ·refine ⟨_, _, _, _, (by first | exact rfl | exact congrArg (Value.int _) (by omega) | exact congrArg (Value.int _) (by dsimp only; omega) | exact congrArg (Value.int _) (by simp) | exact congrArg S (by simp)), (by first | (rw [fold_yes (ok := isLow) (b := bwd) (by omega) hc18.1 (decide_eq_true hc18.2)]; exact rfl) | (rw [fold_no (ok := isLow) (b := bwd) (by omega) (fun h => hc18 ⟨h.1, of_decide_eq_true h.2⟩)]; exact rfl)), (by first | assumption | omega | (dsimp only; omega) | (simp; done)), (by first | (rw [fold_yes (ok := isLow) (b := bwd) (by omega) hc18.1 (decide_eq_true hc18.2)]; exact hr20) | (rw [fold_no (ok := isLow) (b := bwd) (by omega) (fun h => hc18 ⟨h.1, of_decide_eq_true h.2⟩)]; exact hr20)), (by first | assumption | omega | (dsimp only; omega) | (simp; done)), hV⟩
      ·repeat (first | (with_reducible exact Agree.merge _ _ _) | (with_reducible exact Agree.refl _ _) | (with_reducible refine Agree.upd ?_ _ _ rfl) | ((with_reducible refine Agree.inner ?_ ?_); (kernel_rfl)))
     ·skip
      refine r_skip ?_
      refine r_blk ?_
      refine r_region ?_
      refine r_op rfl rfl rfl (run_add rfl (by exact rfl) (by exact rfl) (by omega) (by omega)) ?_
      refine r_op rfl rfl rfl (run_mv (v := .int _ _) rfl (by exact rfl)) ?_
      refine r_nil ?_
      refine r_again (k + 1) ?_ ?_ ?_
      ·first | omega | (dsimp only; omega)
      ·refine ⟨_, _, _, _, (by first | exact rfl | exact congrArg (Value.int _) (by omega) | exact congrArg (Value.int _) (by dsimp only; omega) | exact congrArg (Value.int _) (by simp) | exact congrArg S (by simp)), (by first | (rw [fold_yes (ok := isLow) (b := bwd) (by omega) hc18.1 (decide_eq_true hc18.2)]; exact rfl) | (rw [fold_no (ok := isLow) (b := bwd) (by omega) (fun h => hc18 ⟨h.1, of_decide_eq_true h.2⟩)]; exact rfl)), (by first | assumption | omega | (dsimp only; omega) | (simp; done)), (by first | (rw [fold_yes (ok := isLow) (b := bwd) (by omega) hc18.1 (decide_eq_true hc18.2)]; exact hro) | (rw [fold_no (ok := isLow) (b := bwd) (by omega) (fun h => hc18 ⟨h.1, of_decide_eq_true h.2⟩)]; exact hro)), (by first | assumption | omega | (dsimp only; omega) | (simp; done)), hV⟩
      ·repeat (first | (with_reducible exact Agree.merge _ _ _) | (with_reducible exact Agree.refl _ _) | (with_reducible refine Agree.upd ?_ _ _ rfl) | ((with_reducible refine Agree.inner ?_ ?_); (kernel_rfl)))
    ·skip
     refine r_exit rfl ?_
     refine r_seq ?_
     refine r_region ?_
     refine r_op rfl rfl rfl (run_mv (v := .slice _ _ _) rfl (by exact rfl)) ?_
     refine r_op rfl rfl rfl (run_asg (v := .slice _ _ _) rfl (by exact rfl)) ?_
     refine r_nil ?_
     refine r_ret (res1 (v := .slice _ _ _) rfl (by exact rfl)) ?_
     exact ⟨_, _, _, _, by rw [stems_end (k := k) (by assumption) (by assumption) (by omega)], hV, by rw [stems_end (k := k) (by assumption) (by assumption) (by omega)]; exact hro⟩

end Go.Proofs.Ytomklacppmaljaa
