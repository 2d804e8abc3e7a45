import Derived.Test.YtomklacppmaljaaX4
namespace Go.Proofs.Ytomklacppmaljaa
open Go.RowKit Go.Vc
theorem ag_46 : aggP Try.prog 46 = some true := by kernel_rfl
theorem fo_33_0 : fieldP Try.prog 33 0 = some 0 := by kernel_rfl
theorem fo_33_1 : fieldP Try.prog 33 1 = some 1 := by kernel_rfl
theorem fo_46_0 : fieldP Try.prog 46 0 = some 0 := by kernel_rfl
theorem fo_46_1 : fieldP Try.prog 46 1 = some 1 := by kernel_rfl
theorem ty_46 : tyP Try.prog 46 = some (2, 32, some (.agg #[(.string ⟨#[]⟩), (.string ⟨#[]⟩)])) := by kernel_rfl
theorem rforms_calls {ao : Option Addr} {b off cap : Nat} {c : List Clas} {p q : Str} {w0 : World} (hc : RowR w0 ao b off cap c) (hen : (endsL c q).length ≤ 4398046510976) (hbe : ∀ k, BdE ((endsL c q).getD k default)) (hp : p.length ≤ 140737488355328) (hq : q.length ≤ 140737488355328) :
    Calls Try.prog 30 #[.slice ao c.length cap, (.agg #[S p, S q])] w0 fun e w' => ∃ ao' b' off' cap', e = .returned (.slice ao' (formsC c p q).length cap') ∧ Evo w0 w' [] ∧ RowE w' ao' b' off' cap' (formsC c p q) := by
 refine calls_enter (n := 51) (args := [.slice ao c.length cap, (.agg #[S p, S q])]) Try.func30 rfl Try.ntmps30 rfl ?_
 have hV : Evo w0 w0 [] := Evo.refl _ _
 have hc0 := hc.keep
 have hbd_hc := hc.bd
 refine r_seq ?_
 refine r_region ?_
 refine r_box (vs := [_, _]) (by exact rfl) (by exact rfl) rfl ?_
 intro b1 w2 heb1 hEw2 hbb1 hzb1
 have hs_w2 := (hEw2).size
 replace hV := evo_step0 hV hEw2
 replace hc := hc0.now hV
 have hAb1 := hbb1.at
 refine r_op rfl rfl rfl (run_asg (v := .slice _ _ _) rfl (by exact rfl)) ?_
 refine r_nil ?_
 refine r_seq ?_
 refine r_seq ?_
 refine r_region ?_
 refine r_op rfl rfl rfl (run_fa rfl (by exact rfl) fo_33_0) ?_
 refine r_op rfl rfl rfl (run_ld1 rfl ag_9 (by exact rfl) (hAb1.cell 0 (by exact rfl))) ?_
 refine r_op rfl rfl rfl (run_seql rfl (by exact rfl) (by exact rfl)) ?_
 refine r_nil ?_
 refine r_cond (by exact rfl) (fun hc3 => ?_) (fun hc3 => ?_)
 ·skip
  refine r_seq ?_
  refine r_region ?_
  refine r_op rfl rfl rfl (run_asg (v := .slice _ _ _) rfl (by exact rfl)) ?_
  refine r_nil ?_
  refine r_ret (res1 (v := .slice _ _ _) rfl (by exact rfl)) ?_
  exact ⟨none, 0, 0, 0, by unfold formsC; rw [if_pos hc3]; rfl, hV, by unfold formsC; rw [if_pos hc3]; exact RowE.nil _ _ _ _ _⟩
 ·skip
  refine r_skip ?_
  refine r_seq ?_
  refine r_region ?_
  refine r_op rfl rfl rfl (run_fa rfl (by exact rfl) fo_33_0) ?_
  refine r_op rfl rfl rfl (run_ld1 rfl ag_9 (by exact rfl) (hAb1.cell 0 (by exact rfl))) ?_
  refine r_opcall rfl rfl rfl (run_callf (vs := [S _]) rfl (by exact rfl) Try.func74 rfl (by kernel_rfl)) (rlower_calls (by first | omega | (simp; omega))) ?_
  rintro e w4 ⟨rfl, hE4⟩
  refine ⟨_, rfl, ?_⟩
  have hs_w4 := (hE4).size
  replace hV := evo_step0 hV hE4
  replace hc := hc0.now hV
  replace hbb1 := hbb1.evo0 hE4
  replace hAb1 := hAb1.evo0 hE4
  refine r_op rfl rfl rfl (run_asg (v := S _) rfl (by exact rfl)) ?_
  refine r_nil ?_
  refine r_seq ?_
  refine r_region ?_
  refine r_op rfl rfl rfl (run_mv (v := S _) rfl (by exact rfl)) ?_
  refine r_bslice (pv := [(0, S _)]) (zs := [_]) (cs := [_]) Try.underlying34 ty_9 (by exact rfl) rfl (by exact rfl) rfl (by exact rfl) ?_
  intro b5 w6 heb5 hEw6 hbb5 hzb5
  have hs_w6 := (hEw6).size
  replace hV := evo_step0 hV hEw6
  replace hc := hc0.now hV
  replace hbb1 := hbb1.evo0 hEw6
  replace hAb1 := hAb1.evo0 hEw6
  have hAb5 := hbb5.at
  have hrb5 : RowE w6 (some ⟨b5, 0, none⟩) b5 0 1 ([lowS p] : List Str) := rowLit ([lowS p] : List Str) hbb5 rfl rfl
  refine r_op rfl rfl rfl (run_asg (v := .slice (some ⟨b5, 0, none⟩) _ _) rfl (by exact rfl)) ?_
  refine r_nil ?_
  refine r_seq ?_
  refine r_seq ?_
  refine r_region ?_
  refine r_op rfl rfl rfl (run_fa rfl (by exact rfl) fo_33_1) ?_
  refine r_op rfl rfl rfl (run_ld1 rfl ag_9 (by exact rfl) (hAb1.cell 1 (by exact rfl))) ?_
  refine r_op rfl rfl rfl (run_seql rfl (by exact rfl) (by exact rfl)) ?_
  refine r_nil ?_
  refine r_cond (by exact rfl) (fun hc7 => ?_) (fun hc7 => ?_)
  ·skip
   refine r_seq ?_
   refine r_region ?_
   refine r_op rfl rfl rfl (run_mv (v := .slice (some ⟨b5, 0, none⟩) _ _) rfl (by exact rfl)) ?_
   refine r_op rfl rfl rfl (run_asg (v := .slice (some ⟨b5, 0, none⟩) _ _) rfl (by exact rfl)) ?_
   refine r_nil ?_
   refine r_ret (res1 (v := .slice (some ⟨b5, 0, none⟩) _ _) rfl (by exact rfl)) ?_
   exact ⟨_, _, _, _, by rw [forms_none (by assumption) hc7]; rfl, hV, by rw [forms_none (by assumption) hc7]; exact hrb5⟩
  ·skip
   refine r_skip ?_
   refine r_seq ?_
   refine r_seq ?_
   refine r_region ?_
   refine r_op rfl rfl rfl (run_mv (v := .slice _ _ _) rfl (by exact rfl)) ?_
   refine r_op rfl rfl rfl (run_fa rfl (by exact rfl) fo_33_1) ?_
   refine r_op rfl rfl rfl (run_ld1 rfl ag_9 (by exact rfl) (hAb1.cell 1 (by exact rfl))) ?_
   refine r_opcall rfl rfl rfl (run_callf (vs := [.slice _ _ _, S _]) rfl (by exact rfl) Try.func75 rfl (by kernel_rfl)) (rends_calls hc0 hV) ?_
   rintro e w8 ⟨ao8, b8, off8, cap8, rfl, hE8, hr80⟩
   refine ⟨_, rfl, ?_⟩
   have hs_w8 := (hE8).size
   replace hV := evo_step0 hV hE8
   replace hc := hc0.now hV
   replace hrb5 := hrb5.evo0 hE8
   have hr8 := hr80 _ hV
   have hbd_hr8 := hr8.bd
   refine r_op rfl rfl rfl (run_lenSl rfl (by exact rfl) Try.underlying41) ?_
   refine r_op rfl rfl rfl (run_mv (v := .int _ _) rfl (by exact rfl)) ?_
   refine r_nil ?_
   refine r_block ?_
   refine r_loop (α := Nat) [6, 8, 9, 10, 28, 29, 30, 31, 32, 33, 34, 35, 36, 37, 38, 39, 40, 41, 42, 43, 44, 45, 46, 47, 48, 49] (fun k g w => ∃ ao6 : Option Addr, ∃ b6 : Nat, ∃ of6 : Nat, ∃ cp6 : Nat, g 28 = .int .i64 (k : Nat) ∧ g 6 = .slice ao6 (foldF (fun _ => true) (lowS p) fwd ((endsL c q).take k)).length cp6 ∧ k ≤ (endsL c q).length ∧ RowE w ao6 b6 of6 cp6 (foldF (fun _ => true) (lowS p) fwd ((endsL c q).take k)) ∧ w8.heap.size ≤ w.heap.size ∧ Evo w0 w []) (fun k => (endsL c q).length - k) 0 ?_ ?_
   ·refine ⟨_, _, _, _, (by first | exact rfl | exact congrArg (Value.int _) (by omega) | exact congrArg (Value.int _) (by dsimp only; omega) | exact congrArg (Value.int _) (by simp) | exact congrArg S (by simp)), rfl, (by first | assumption | omega | (dsimp only; omega) | (simp; done)), hrb5, (by first | assumption | omega | (dsimp only; omega) | (simp; done)), hV⟩
   ·rintro k g w10 ⟨ao6, b6, of6, cp6, hj11, hj12, hk_k, hro, hzl9, hV⟩
    have hs_w10hV := hV.size
    replace hc := hc0.now hV
    replace hr8 := hr80 _ hV
    refine r_know (i := 28) (v := .int .i64 (k : Nat)) (by exact hj11) ?_
    refine r_know (i := 6) (v := .slice ao6 (foldF (fun _ => true) (lowS p) fwd ((endsL c q).take k)).length cp6) (by exact hj12) ?_
    have hfl := foldF_len (fun _ => true) (lowS p) fwd ((endsL c q).take k)
    have hft : ((endsL c q).take k).length ≤ k := List.length_take_le _ _
    have hbk := hbe k
    have hb1 := hbk.1
    have hb2 := hbk.2
    refine r_seq ?_
    refine r_region ?_
    refine r_op rfl rfl rfl (run_lss rfl (by exact rfl) (by exact rfl)) ?_
    refine r_nil ?_
    refine r_seq ?_
    refine r_cond (by exact rfl) (fun hc13 => ?_) (fun hc13 => ?_)
    ·skip
     refine r_skip ?_
     refine r_seq ?_
     refine r_block ?_
     refine r_seq ?_
     refine r_region ?_
     refine r_op rfl rfl rfl (run_ix (k) rfl Try.underlying41 ty_46 (by exact rfl) (by exact rfl) (by first | exact rfl | omega) (by omega) (hr8.addr (i := k) (by omega))) ?_
     have hA140 := fun (w' : World) (h : Evo w0 w' []) => (hr80 w' h).atD (k) (by omega)
     have hA14 := hA140 _ hV
     refine r_op rfl rfl rfl (run_ldN rfl ag_46 ty_46 (by exact rfl) rfl hA14) ?_
     refine r_var (zs := [_, _]) (vs := [_, _]) ty_46 (by exact rfl) rfl (by exact rfl) (fun _ => rfl) (by exact rfl) rfl rfl (by exact rfl) ?_
     intro b15 w16 heb15 hEw16 hbb15 hzb15
     have hs_w16 := (hEw16).size
     replace hV := evo_step0 hV hEw16
     replace hc := hc0.now hV
     replace hro := hro.evo0 hEw16
     have hAb15 := hbb15.at
     refine r_nil ?_
     refine r_seq ?_
     refine r_region ?_
     refine r_op rfl rfl rfl (run_mv (v := S _) rfl (by exact rfl)) ?_
     refine r_op rfl rfl rfl (run_fa rfl (by exact rfl) fo_46_0) ?_
     refine r_op rfl rfl rfl (run_ld1 rfl ag_9 (by exact rfl) (hAb15.cell 0 (by exact rfl))) ?_
     refine r_op rfl rfl rfl (run_fa rfl (by exact rfl) fo_46_1) ?_
     refine r_op rfl rfl rfl (run_ld1 rfl ag_9 (by exact rfl) (hAb15.cell 1 (by exact rfl))) ?_
     refine r_opcall rfl rfl rfl (run_callf (vs := [S _, S _, S _]) rfl (by exact rfl) Try.func76 rfl (by kernel_rfl)) (turned_calls (by first | omega | (simp; omega)) (by first | omega | (simp; omega)) (by first | omega | (simp; omega))) ?_
     rintro e w17 ⟨rfl, hE17⟩
     refine ⟨_, rfl, ?_⟩
     have hs_w17 := (hE17).size
     replace hV := evo_step0 hV hE17
     replace hc := hc0.now hV
     replace hro := hro.evo0 hE17
     refine r_op rfl rfl rfl (run_mv (v := .tuple _) rfl (by exact rfl)) ?_
     refine r_op rfl rfl rfl (run_extract (v := S _) rfl (by exact rfl) (by exact rfl)) ?_
     refine r_op rfl rfl rfl (run_extract (v := .bool _) rfl (by exact rfl) (by exact rfl)) ?_
     refine r_op rfl rfl rfl (run_asg (v := S _) rfl (by exact rfl)) ?_
     refine r_op rfl rfl rfl (run_asg (v := .bool _) rfl (by exact rfl)) ?_
     refine r_nil ?_
     refine r_seq ?_
     refine r_region ?_
     refine r_op rfl rfl rfl (run_mvb rfl (by exact rfl)) ?_
     refine r_op rfl rfl rfl (run_mv (v := .bool _) rfl (by exact rfl)) ?_
     refine r_g rfl (wantT (by exact rfl)) rfl (fun hg => run_mv (v := S _) rfl (by exact rfl)) ?_
     refine r_g rfl (wantT (by exact rfl)) rfl (fun hg => run_sneq rfl (glv (by exact rfl) (fun h => h) hg) (by exact rfl)) ?_
     refine r_op rfl rfl rfl (run_pick_and rfl (by exact rfl) (fun hq => glv (by exact rfl) (fun h => h) hq) rfl) ?_
     refine r_nil ?_
     refine r_cond (by exact rfl) (fun hc18 => ?_) (fun hc18 => ?_)
     ·skip
      refine r_region ?_
      refine r_op rfl rfl rfl (run_mv (v := .slice _ _ _) rfl (by exact rfl)) ?_
      refine r_op rfl rfl rfl (run_mv (v := S _) rfl (by exact rfl)) ?_
      refine r_opcall rfl rfl rfl (run_callf (vs := [.slice _ _ _, S _]) rfl (by exact rfl) Try.func77 rfl (by kernel_rfl)) (radd_calls hro (by omega)) ?_
      rintro e w19 ⟨vi19, rfl, hE19, hi19⟩
      refine ⟨_, rfl, ?_⟩
      have hs_w19 := (hE19).size
      replace hV := evo_step0 hV hE19
      replace hc := hc0.now hV
      replace hro := hro.evo0 hE19
      refine r_op rfl rfl rfl (run_asg (v := vi19) rfl (by exact rfl)) ?_
      refine r_nil ?_
      refine r_blk ?_
      obtain ⟨ao20, g20, cp20, hv20, hr20, hg20⟩ := hi19.rowOf
      subst hv20
      refine r_region ?_
      refine r_op rfl rfl rfl (run_add rfl (by exact rfl) (by exact rfl) (by omega) (by omega)) ?_
      refine r_op rfl rfl rfl (run_mv (v := .int _ _) rfl (by exact rfl)) ?_
      refine r_nil ?_
      refine r_again (k + 1) ?_ ?_ ?_
      ·first | omega | (dsimp only; omega)
      ·refine ⟨_, _, _, _, (by first | exact rfl | exact congrArg (Value.int _) (by omega) | exact congrArg (Value.int _) (by dsimp only; omega) | exact congrArg (Value.int _) (by simp) | exact congrArg S (by simp)), (by first | (rw [fold_yes (ok := fun _ => true) (b := fwd) (by omega) hc18 rfl]; exact rfl) | (rw [fold_no (ok := fun _ => true) (b := fwd) (by omega) (fun h => hc18 h.1)]; exact rfl)), (by first | assumption | omega | (dsimp only; omega) | (simp; done)), (by first | (rw [fold_yes (ok := fun _ => true) (b := fwd) (by omega) hc18 rfl]; exact hr20) | (rw [fold_no (ok := fun _ => true) (b := fwd) (by omega) (fun h => hc18 h.1)]; exact hr20)), (by first | assumption | omega | (dsimp only; omega) | (simp; done)), hV⟩
      ·repeat (first | (with_reducible exact Agree.merge _ _ _) | (with_reducible exact Agree.refl _ _) | (with_reducible refine Agree.upd ?_ _ _ rfl) | ((with_reducible refine Agree.inner ?_ ?_); (kernel_rfl)))
     ·skip
      refine r_skip ?_
      refine r_blk ?_
      refine r_region ?_
      refine r_op rfl rfl rfl (run_add rfl (by exact rfl) (by exact rfl) (by omega) (by omega)) ?_
      refine r_op rfl rfl rfl (run_mv (v := .int _ _) rfl (by exact rfl)) ?_
      refine r_nil ?_
      refine r_again (k + 1) ?_ ?_ ?_
      ·first | omega | (dsimp only; omega)
      ·refine ⟨_, _, _, _, (by first | exact rfl | exact congrArg (Value.int _) (by omega) | exact congrArg (Value.int _) (by dsimp only; omega) | exact congrArg (Value.int _) (by simp) | exact congrArg S (by simp)), (by first | (rw [fold_yes (ok := fun _ => true) (b := fwd) (by omega) hc18 rfl]; exact rfl) | (rw [fold_no (ok := fun _ => true) (b := fwd) (by omega) (fun h => hc18 h.1)]; exact rfl)), (by first | assumption | omega | (dsimp only; omega) | (simp; done)), (by first | (rw [fold_yes (ok := fun _ => true) (b := fwd) (by omega) hc18 rfl]; exact hro) | (rw [fold_no (ok := fun _ => true) (b := fwd) (by omega) (fun h => hc18 h.1)]; exact hro)), (by first | assumption | omega | (dsimp only; omega) | (simp; done)), hV⟩
      ·repeat (first | (with_reducible exact Agree.merge _ _ _) | (with_reducible exact Agree.refl _ _) | (with_reducible refine Agree.upd ?_ _ _ rfl) | ((with_reducible refine Agree.inner ?_ ?_); (kernel_rfl)))
    ·skip
     refine r_exit rfl ?_
     refine r_seq ?_
     refine r_region ?_
     refine r_op rfl rfl rfl (run_mv (v := .slice _ _ _) rfl (by exact rfl)) ?_
     refine r_op rfl rfl rfl (run_asg (v := .slice _ _ _) rfl (by exact rfl)) ?_
     refine r_nil ?_
     refine r_ret (res1 (v := .slice _ _ _) rfl (by exact rfl)) ?_
     exact ⟨_, _, _, _, by rw [forms_end (k := k) (by assumption) (by assumption) (by omega)], hV, by rw [forms_end (k := k) (by assumption) (by assumption) (by omega)]; exact hro⟩

end Go.Proofs.Ytomklacppmaljaa
