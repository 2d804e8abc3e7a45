import Derived.Test.YtkdgoghmkmpfnaaW16
import Derived.Test.YtkdgoghmkmpfnaaPa
namespace Go.Proofs.Ytkdgoghmkmpfnaa
open Go.RowKit Go.Vc

theorem rpiece_text {x : Vc.Item} {at_ fr to_ : Int} (h : max fr at_ < min to_ (at_ + widthL x)) (hk : x.kind = 1) :
    piece x at_ fr to_ = [⟨1, (x.text.drop (max fr at_ - at_).toNat).take ((min to_ (at_ + widthL x) - at_).toNat - (max fr at_ - at_).toNat), x.id⟩] := by rw [piece_text h hk, hk]

theorem rslice_calls {ao : Option Addr} {b off cap : Nat} {f : List Vc.Item} {fr to_ : Int} {w0 : World} (hf : RowE w0 ao b off cap f) (hsm : Small f) :
    Calls Try.prog 30 #[.slice ao f.length cap, .int .i64 fr, .int .i64 to_] w0 fun e w' => ∃ v, e = .returned (.tuple #[v, .bool (sliceL f fr to_).2]) ∧ Evo w0 w' [] ∧ OwnE w' w0.heap.size 26 v (sliceL f fr to_).1 := by
 have hs1 := hsm.1; have hs2 := hsm.2
 refine calls_enter (n := 88) (args := [.slice ao f.length cap, .int .i64 fr, .int .i64 to_]) Try.func30 rfl Try.ntmps30 rfl ?_
 have hV : Evo w0 w0 [] := Evo.refl _ _
 have hf0 := keepE hf
 have hbd_hf := hf.bd
 refine r_seq ?_
 refine r_region ?_
 refine r_op rfl rfl rfl (run_asg (v := .slice _ _ _) rfl (by exact rfl)) ?_
 refine r_op rfl rfl rfl (run_asg (v := .bool _) rfl (by exact rfl)) ?_
 refine r_nil ?_
 refine r_seq ?_
 refine r_seq ?_
 refine r_region ?_
 refine r_op rfl rfl rfl (run_mv (v := .int _ _) rfl (by exact rfl)) ?_
 refine r_op rfl rfl rfl (run_lss rfl (by exact rfl) (by exact rfl)) ?_
 refine r_op rfl rfl rfl (run_mv (v := .bool _) rfl (by exact rfl)) ?_
 refine r_g rfl (wantF (by exact rfl)) rfl (fun hg => run_mv (v := .int _ _) rfl (by exact rfl)) ?_
 refine r_g rfl (wantF (by exact rfl)) rfl (fun hg => run_mv (v := .int _ _) rfl (by exact rfl)) ?_
 refine r_g rfl (wantF (by exact rfl)) rfl (fun hg => run_lss rfl (glv (by exact rfl) (fun h => h) hg) (glv (by exact rfl) (fun h => h) hg)) ?_
 refine r_op rfl rfl rfl (run_pick_or rfl (by exact rfl) rfl (fun hq => glv (by exact rfl) (fun h => h) hq)) ?_
 refine r_op rfl rfl rfl (run_mv (v := .bool _) rfl (by exact rfl)) ?_
 refine r_g rfl (wantF (by exact rfl)) rfl (fun hg => run_mv (v := .int _ _) rfl (by exact rfl)) ?_
 refine r_g rfl (wantF (by exact rfl)) rfl (fun hg => run_mv (v := .slice _ _ _) rfl (by exact rfl)) ?_
 refine r_gcall rfl (wantF (by exact rfl)) rfl (fun hg => run_callf rfl (argcons (v := .slice _ _ _) (glv (by exact rfl) (fun h => h) hg) (rfl)) Try.func47 rfl (by kernel_rfl)) (fun hg => (rlength_calls hf (by first | assumption | exact kf_small | exact small_take (by assumption) _ | exact small_norm (by assumption) | (rw [flat2]; assumption))).mono (fun e w' h => ⟨h.1, h.2⟩)) (fun w1 hE2 => ?_)
 have hs_w1 := (hE2).size
 replace hV := evo_step0 hV hE2
 replace hf := hf0 _ hV
 refine r_g rfl (wantF (by exact rfl)) rfl (fun hg => run_gtr rfl (glv (by exact rfl) (fun h => h) hg) (glv (by exact rfl) (fun h => h) hg)) ?_
 refine r_op rfl rfl rfl (run_pick_or rfl (by exact rfl) rfl (fun hq => glv (by exact rfl) (fun h => h) hq)) ?_
 refine r_nil ?_
 refine r_cond (by exact rfl) (fun hc3 => ?_) (fun hc3 => ?_)
 ·skip
  refine r_seq ?_
  refine r_region ?_
  refine r_op rfl rfl rfl (run_asg (v := .slice _ _ _) rfl (by exact rfl)) ?_
  refine r_op rfl rfl rfl (run_asg (v := .bool _) rfl (by exact rfl)) ?_
  refine r_nil ?_
  refine r_ret (res2 (v := .slice _ _ _) (u := .bool _) rfl (by exact rfl) (by exact rfl)) ?_
  exact ⟨_, by unfold sliceL; rw [if_pos (by omega)], hV, by unfold sliceL; rw [if_pos (by omega)]; exact OwnE.nil _ _ _⟩
 ·skip
  refine r_skip ?_
  refine r_seq ?_
  refine r_region ?_
  refine r_op rfl rfl rfl (run_asg (v := .slice _ _ _) rfl (by exact rfl)) ?_
  refine r_nil ?_
  refine r_seq ?_
  refine r_region ?_
  refine r_op rfl rfl rfl (run_asg (v := .int _ _) rfl (by exact rfl)) ?_
  refine r_nil ?_
  refine r_seq ?_
  refine r_seq ?_
  refine r_region ?_
  refine r_op rfl rfl rfl (run_mv (v := .slice _ _ _) rfl (by exact rfl)) ?_
  refine r_op rfl rfl rfl (run_lenSl rfl (by exact rfl) Try.underlying30) ?_
  refine r_op rfl rfl rfl (run_mv (v := .int _ _) rfl (by exact rfl)) ?_
  refine r_nil ?_
  refine r_block ?_
  refine r_loop (α := Nat) [8, 9, 10, 11, 12, 13, 29, 30, 31, 32, 33, 34, 35, 36, 37, 38, 39, 40, 41, 42, 43, 44, 45, 46, 47, 48, 49, 50, 51, 52, 53, 54, 55, 56, 57, 58, 59, 60, 61, 62, 63, 64, 65, 66, 67, 68, 69, 70, 71, 72, 73, 74, 75, 76, 77, 78, 79, 80, 81, 82, 83, 84, 85, 86] (fun k g w => ∃ vo : Value, g 29 = .int .i64 (k : Nat) ∧ g 8 = vo ∧ g 9 = .int .i64 (lengthL (f.take k)) ∧ k ≤ f.length ∧ OwnE w w0.heap.size 26 vo (pieces (f.take k) 0 fr to_) ∧ (pieces (f.take k) 0 fr to_).length ≤ k ∧ w1.heap.size ≤ w.heap.size ∧ Evo w0 w []) (fun k => f.length - k) 0 ?_ ?_
  ·refine ⟨_, (by first | exact rfl | exact congrArg (Value.int _) (by omega) | exact congrArg (Value.int _) (by dsimp only; omega) | exact congrArg (Value.int _) (by simp) | exact congrArg S (by simp)), rfl, rfl, (by first | assumption | omega | (dsimp only; omega) | (simp; done)), (OwnE.nil _ _ _), (by simp [pieces]), (by first | assumption | omega | (dsimp only; omega) | (simp; done)), hV⟩
  ·rintro k g w5 ⟨vo, hj6, hj7, hj8, hk_k, hoo, hlp, hzl4, hV⟩
   have hs_w5hV := hV.size
   replace hf := hf0 _ hV
   refine r_know (i := 29) (v := .int .i64 (k : Nat)) (by exact hj6) ?_
   refine r_know (i := 8) (v := vo) (by exact hj7) ?_
   refine r_know (i := 9) (v := .int .i64 (lengthL (f.take k))) (by exact hj8) ?_
   refine r_seq ?_
   refine r_region ?_
   refine r_op rfl rfl rfl (run_lss rfl (by exact rfl) (by exact rfl)) ?_
   refine r_nil ?_
   refine r_seq ?_
   refine r_cond (by exact rfl) (fun hc9 => ?_) (fun hc9 => ?_)
   ·skip
    refine r_skip ?_
    refine r_seq ?_
    refine r_block ?_
    refine r_seq ?_
    refine r_region ?_
    refine r_op rfl rfl rfl (run_mv (v := .int _ _) rfl (by exact rfl)) ?_
    refine r_op rfl rfl rfl (run_asg (v := .int _ _) rfl (by exact rfl)) ?_
    refine r_nil ?_
    refine r_seq ?_
    have hobO := fun g hg => (hoo.block (g := g) hg).2
    refine r_region ?_
    refine r_op rfl rfl rfl (run_mv (v := .slice _ _ _) rfl (by exact rfl)) ?_
    refine r_op rfl rfl rfl (run_mv (v := .int _ _) rfl (by exact rfl)) ?_
    refine r_op rfl rfl rfl (run_ix (k) rfl Try.underlying30 ty_26 (by exact rfl) (by exact rfl) (by first | exact rfl | omega) (by omega) (hf.addr (i := k) (by omega))) ?_
    have hA100 := fun (w' : World) (h : Evo w0 w' []) => (hf0 w' h).atD (k) (by omega)
    have hA10 := hA100 _ hV
    refine r_op rfl rfl rfl (run_ldN rfl ag_26 ty_26 (by exact rfl) rfl hA10) ?_
    have hob11 := fun g hg => (hoo.block (g := g) hg).2
    refine r_var (zs := [_, _, _]) (vs := [_, _, _]) ty_26 (by exact rfl) rfl (by exact rfl) (fun _ => rfl) (by exact rfl) rfl rfl (by exact rfl) ?_
    intro b12 w13 heb12 hEw13 hbb12 hzb12
    have hs_w13 := (hEw13).size
    replace hV := evo_step0 hV hEw13
    replace hf := hf0 _ hV
    replace hoo := hoo.evo0 hEw13
    have hAb12 := hbb12.at
    refine r_nil ?_
    refine r_seq ?_
    refine r_seq ?_
    have hb1 := lengthL_le (f.take k); have hb2 := sizeL_take f k; have hb3 := width_bd (f.getD k default); have hb4 := sizeL_at f k; have hb5 : (f.take k).length ≤ f.length := by rw [List.length_take]; omega
    have hb6 := lengthL_le f
    refine r_region ?_
    refine r_op rfl rfl rfl (run_fa rfl (by exact rfl) fo_26_0) ?_
    refine r_op rfl rfl rfl (run_ld1 rfl ag_3 (by exact rfl) (hAb12.cell 0 (by exact rfl))) ?_
    refine r_op rfl rfl rfl (run_neq rfl (by exact rfl) (by exact rfl)) ?_
    refine r_nil ?_
    refine r_cond (by exact rfl) (fun hc14 => ?_) (fun hc14 => ?_)
    ·skip
     refine r_seq ?_
     refine r_seq ?_
     have hwt := width_other (x := (f.getD k default)) (by omega)
     refine r_region ?_
     refine r_op rfl rfl rfl (run_mv (v := .int _ _) rfl (by exact rfl)) ?_
     refine r_op rfl rfl rfl (run_mv (v := .int _ _) rfl (by exact rfl)) ?_
     refine r_op rfl rfl rfl (run_geq rfl (by exact rfl) (by exact rfl)) ?_
     refine r_op rfl rfl rfl (run_mv (v := .bool _) rfl (by exact rfl)) ?_
     refine r_g rfl (wantT (by exact rfl)) rfl (fun hg => run_mv (v := .int _ _) rfl (by exact rfl)) ?_
     refine r_g rfl (wantT (by exact rfl)) rfl (fun hg => run_mv (v := .int _ _) rfl (by exact rfl)) ?_
     refine r_g rfl (wantT (by exact rfl)) rfl (fun hg => run_lss rfl (glv (by exact rfl) (fun h => h) hg) (glv (by exact rfl) (fun h => h) hg)) ?_
     refine r_op rfl rfl rfl (run_pick_and rfl (by exact rfl) (fun hq => glv (by exact rfl) (fun h => h) hq) rfl) ?_
     refine r_nil ?_
     refine r_cond (by exact rfl) (fun hc15 => ?_) (fun hc15 => ?_)
     ·skip
      refine r_region ?_
      refine r_op rfl rfl rfl (run_mv (v := vo) rfl (by exact rfl)) ?_
      refine r_op rfl rfl rfl (run_ldN rfl ag_26 ty_26 (by exact rfl) rfl hAb12) ?_
      refine r_append1E (u := .agg _) (y := ⟨_, _, _⟩) rfl rfl Try.underlying30 ty_26 (by exact rfl) hoo (fun _ => (by exact rfl)) (by exact rfl) (by first | exact rfl | (show _ = List.toArray [_, _, _]; first | (dsimp only; done) | exact rfl | (dsimp only; exact rfl))) ((by first | omega | (simp; omega))) ((by first | omega | (simp; omega))) (by omega) ?_
      intro q_v16 v16 w17 hEw17 hov16 hlv16
      have hs_w17 := (hEw17).size
      replace hV := evo_stepo hV hEw17 (fun g hg => .inl (by first | exact (hoo.block hg).1 | (have := hoo.block hg; omega)))
      replace hf := hf0 _ hV
      replace hbb12 := hbb12.evo hEw17 (by intro hm; have hm2 := Option.mem_toList.1 hm; have := hob11 _ hm2; omega)
      replace hAb12 := hAb12.evo hEw17 (by intro hm; have hm2 := Option.mem_toList.1 hm; have := hob11 _ hm2; omega)
      refine r_op rfl rfl rfl (run_asg (v := v16) rfl (by exact rfl)) ?_
      refine r_nil ?_
      refine r_seq ?_
      refine r_region ?_
      refine r_op rfl rfl rfl (run_mv (v := .int _ _) rfl (by exact rfl)) ?_
      refine r_op rfl rfl rfl (run_add rfl (by exact rfl) (by exact rfl) (by omega) (by omega)) ?_
      refine r_op rfl rfl rfl (run_asg (v := .int _ _) rfl (by exact rfl)) ?_
      refine r_nil ?_
      refine r_exit rfl ?_
      refine r_region ?_
      refine r_op rfl rfl rfl (run_add rfl (by exact rfl) (by exact rfl) (by omega) (by omega)) ?_
      refine r_op rfl rfl rfl (run_mv (v := .int _ _) rfl (by exact rfl)) ?_
      refine r_nil ?_
      refine r_again (k + 1) ?_ ?_ ?_
      ·first | omega | (dsimp only; omega)
      ·refine ⟨_, (by first | exact rfl | exact congrArg (Value.int _) (by omega) | exact congrArg (Value.int _) (by dsimp only; omega) | exact congrArg (Value.int _) (by simp) | exact congrArg S (by simp)), rfl, (congrArg (Value.int _) (by rw [lengthL_succ f k (by omega)]; omega)), (by first | assumption | omega | (dsimp only; omega) | (simp; done)), (by first | (rw [pieces_succ f k fr to_ (by omega), rpiece_text (by omega) (by omega)]; exact hov16) | (rw [pieces_succ f k fr to_ (by omega), piece_other (by omega) (by assumption)]; exact hov16) | (rw [pieces_succ f k fr to_ (by omega), piece_none (by omega), List.append_nil]; exact hov16)), (pieces_len f (k + 1) fr to_), (by first | assumption | omega | (dsimp only; omega) | (simp; done)), hV⟩
      ·repeat (first | (with_reducible exact Agree.merge _ _ _) | (with_reducible exact Agree.refl _ _) | (with_reducible refine Agree.upd ?_ _ _ rfl) | ((with_reducible refine Agree.inner ?_ ?_); (kernel_rfl)))
     ·skip
      refine r_skip ?_
      refine r_seq ?_
      refine r_region ?_
      refine r_op rfl rfl rfl (run_mv (v := .int _ _) rfl (by exact rfl)) ?_
      refine r_op rfl rfl rfl (run_add rfl (by exact rfl) (by exact rfl) (by omega) (by omega)) ?_
      refine r_op rfl rfl rfl (run_asg (v := .int _ _) rfl (by exact rfl)) ?_
      refine r_nil ?_
      refine r_exit rfl ?_
      refine r_region ?_
      refine r_op rfl rfl rfl (run_add rfl (by exact rfl) (by exact rfl) (by omega) (by omega)) ?_
      refine r_op rfl rfl rfl (run_mv (v := .int _ _) rfl (by exact rfl)) ?_
      refine r_nil ?_
      refine r_again (k + 1) ?_ ?_ ?_
      ·first | omega | (dsimp only; omega)
      ·refine ⟨_, (by first | exact rfl | exact congrArg (Value.int _) (by omega) | exact congrArg (Value.int _) (by dsimp only; omega) | exact congrArg (Value.int _) (by simp) | exact congrArg S (by simp)), rfl, (congrArg (Value.int _) (by rw [lengthL_succ f k (by omega)]; omega)), (by first | assumption | omega | (dsimp only; omega) | (simp; done)), (by first | (rw [pieces_succ f k fr to_ (by omega), rpiece_text (by omega) (by omega)]; exact hoo) | (rw [pieces_succ f k fr to_ (by omega), piece_other (by omega) (by assumption)]; exact hoo) | (rw [pieces_succ f k fr to_ (by omega), piece_none (by omega), List.append_nil]; exact hoo)), (pieces_len f (k + 1) fr to_), (by first | assumption | omega | (dsimp only; omega) | (simp; done)), hV⟩
      ·repeat (first | (with_reducible exact Agree.merge _ _ _) | (with_reducible exact Agree.refl _ _) | (with_reducible refine Agree.upd ?_ _ _ rfl) | ((with_reducible refine Agree.inner ?_ ?_); (kernel_rfl)))
    ·skip
     refine r_skip ?_
     refine r_seq ?_
     have hwt := width_text (x := (f.getD k default)) (by omega)
     refine r_qregion (by kernel_rfl) (by kernel_rfl) ?_
     refine q_op rfl rfl rfl (fun w' hC => run_mv (v := .int _ _) rfl (by exact rfl)) ?_
     refine q_op rfl rfl rfl (fun w' hC => run_mv (v := .int _ _) rfl (by exact rfl)) ?_
     refine q_op rfl rfl rfl (fun w' hC => run_max rfl (by exact rfl) (by exact rfl)) ?_
     refine q_op rfl rfl rfl (fun w' hC => run_mv (v := .int _ _) rfl (by exact rfl)) ?_
     refine q_op rfl rfl rfl (fun w' hC => run_sub rfl (by exact rfl) (by exact rfl) (by omega) (by omega)) ?_
     refine q_op rfl rfl rfl (fun w' hC => run_mv (v := .int _ _) rfl (by exact rfl)) ?_
     refine q_op rfl rfl rfl (fun w' hC => run_mv (v := .int _ _) rfl (by exact rfl)) ?_
     refine q_op rfl rfl rfl (fun w' hC => run_fa rfl (by exact rfl) fo_26_1) ?_
     refine q_op rfl rfl rfl (fun w' hC => run_ld1 rfl ag_9 (by exact rfl) ((hAb12.evo0 hC).cell 1 (by exact rfl))) ?_
     refine q_op rfl rfl rfl (fun w' hC => run_lenS rfl (by exact rfl) Try.underlying9) ?_
     refine q_op rfl rfl rfl (fun w' hC => run_add rfl (by exact rfl) (by exact rfl) (by omega) (by omega)) ?_
     refine q_op rfl rfl rfl (fun w' hC => run_min rfl (by exact rfl) (by exact rfl)) ?_
     refine q_op rfl rfl rfl (fun w' hC => run_mv (v := .int _ _) rfl (by exact rfl)) ?_
     refine q_op rfl rfl rfl (fun w' hC => run_sub rfl (by exact rfl) (by exact rfl) (by omega) (by omega)) ?_
     refine q_op rfl rfl rfl (fun w' hC => run_asg (v := .int _ _) rfl (by exact rfl)) ?_
     refine q_op rfl rfl rfl (fun w' hC => run_asg (v := .int _ _) rfl (by exact rfl)) ?_
     refine q_nil (fun w18 hE19 => ?_)
     have hs_w18 := (hE19).size
     replace hV := evo_step0 hV hE19
     replace hf := hf0 _ hV
     replace hoo := hoo.evo0 hE19
     replace hbb12 := hbb12.evo0 hE19
     replace hAb12 := hAb12.evo0 hE19
     refine r_seq ?_
     refine r_seq ?_
     refine r_region ?_
     refine r_op rfl rfl rfl (run_mv (v := .int _ _) rfl (by exact rfl)) ?_
     refine r_op rfl rfl rfl (run_mv (v := .int _ _) rfl (by exact rfl)) ?_
     refine r_op rfl rfl rfl (run_lss rfl (by exact rfl) (by exact rfl)) ?_
     refine r_nil ?_
     refine r_cond (by exact rfl) (fun hc20 => ?_) (fun hc20 => ?_)
     ·skip
      have hbb12_q := hbb12
      have hAb12_q := hAb12
      have hV_q := hV
      refine h_region ([]) (by kernel_rfl) ?_
      intro w21 hE22 hC23
      have hs_w21 := (hE22).size
      replace hV := evo_step0 hV hE22
      replace hf := hf0 _ hV
      replace hoo := hoo.evo0 hE22
      replace hbb12 := hbb12.evo0 hE22
      replace hAb12 := hAb12.evo0 hE22
      refine h_take (i := 0) (by exact rfl) rfl rfl rfl (by kernel_rfl) (fun w' hC => run_mv (v := vo) rfl (by exact rfl)) hC23 ?_
      refine h_take (i := 1) (by exact rfl) rfl rfl rfl (by kernel_rfl) (fun w' hC => run_fa rfl (by exact rfl) fo_26_1) hC23 ?_
      refine h_take (i := 2) (by exact rfl) rfl rfl rfl (by kernel_rfl) (fun w' hC => run_ld1 rfl ag_9 (by exact rfl) ((hAb12_q.evo0 hC).cell 1 (by exact rfl))) hC23 ?_
      refine h_take (i := 3) (by exact rfl) rfl rfl rfl (by kernel_rfl) (fun w' hC => run_mv (v := .int _ _) rfl (by exact rfl)) hC23 ?_
      refine h_take (i := 4) (by exact rfl) rfl rfl rfl (by kernel_rfl) (fun w' hC => run_mv (v := .int _ _) rfl (by exact rfl)) hC23 ?_
      refine h_take (i := 5) (by exact rfl) rfl rfl rfl (by kernel_rfl) (fun w' hC => by exact run_slS ((max fr (lengthL (f.take k)) - (lengthL (f.take k))).toNat) ((min to_ ((lengthL (f.take k)) + widthL (f.getD k default)) - (lengthL (f.take k))).toNat) rfl Try.underlying9 (by exact rfl) (at1 (by exact rfl) (by omega)) (at1 (by exact rfl) (by omega)) (by first | omega | (simp; omega)) (by first | omega | (simp; omega))) hC23 ?_
      refine h_take (i := 6) (by exact rfl) rfl rfl rfl (by kernel_rfl) (fun w' hC => run_fa rfl (by exact rfl) fo_26_2) hC23 ?_
      refine h_take (i := 7) (by exact rfl) rfl rfl rfl (by kernel_rfl) (fun w' hC => run_ld1 rfl ag_3 (by exact rfl) ((hAb12_q.evo0 hC).cell 2 (by exact rfl))) hC23 ?_
      refine h_take (i := 8) (by exact rfl) rfl rfl rfl (by kernel_rfl) (fun w' hC => run_bld (pv := [(0, .int _ _), (1, S _), (2, .int _ _)]) (zs := [_, _, _]) (cells := [_, _, _]) rfl ty_26 (by exact rfl) pl_26 (by exact rfl) (by exact rfl)) hC23 ?_
      refine h_one (i := 9) (by kernel_rfl) ?_
      refine h_do (by exact rfl) ?_
      refine r_bslice (pv := [(0, .agg _)]) (zs := [_, _, _]) (cs := [_, _, _]) Try.underlying30 ty_26 (by exact rfl) rfl (by exact rfl) rfl (by exact rfl) ?_
      intro b24 w25 heb24 hEw25 hbb24 hzb24
      have hs_w25 := (hEw25).size
      replace hV := evo_step0 hV hEw25
      replace hC23 := evo_step0 hC23 hEw25
      replace hf := hf0 _ hV
      replace hoo := hoo.evo0 hEw25
      replace hbb12 := hbb12.evo0 hEw25
      replace hAb12 := hAb12.evo0 hEw25
      have hAb24 := hbb24.at
      have hrb24 := rowLit (α := Vc.Item) [⟨_, _, _⟩] hbb24 (by show [_, _, _] = [_, _, _]; first | (dsimp only; done) | exact rfl | (dsimp only; exact rfl)) rfl
      refine h_next hC23 ?_
      refine h_one (i := 10) (by kernel_rfl) ?_
      refine h_do (by exact rfl) ?_
      refine r_appendE rfl Try.underlying30 ty_26 (by exact rfl) hoo (by exact rfl) (by exact rfl) hrb24 rfl ((by first | omega | (simp; omega))) ((by first | omega | (simp; omega))) (by omega) ?_
      intro v26 w27 hEw27 hov26 hlv26
      have hs_w27 := (hEw27).size
      replace hV := evo_stepo hV hEw27 (fun g hg => .inl (by first | exact (hoo.block hg).1 | (have := hoo.block hg; omega)))
      replace hf := hf0 _ hV
      replace hbb12 := hbb12.evo hEw27 (by intro hm; have hm2 := Option.mem_toList.1 hm; have := hob11 _ hm2; omega)
      replace hAb12 := hAb12.evo hEw27 (by intro hm; have hm2 := Option.mem_toList.1 hm; have := hob11 _ hm2; omega)
      refine h_last (by kernel_rfl) ?_
      refine h_one (i := 11) (by kernel_rfl) ?_
      refine h_do (by exact rfl) ?_
      refine r_op rfl rfl rfl (run_asg (v := v26) rfl (by exact rfl)) ?_
      refine h_last (by kernel_rfl) ?_
      refine h_done (by kernel_rfl) ?_
      refine r_region ?_
      refine r_op rfl rfl rfl (run_mv (v := .int _ _) rfl (by exact rfl)) ?_
      refine r_op rfl rfl rfl (run_fa rfl (by exact rfl) fo_26_1) ?_
      refine r_op rfl rfl rfl (run_ld1 rfl ag_9 (by exact rfl) (hAb12.cell 1 (by exact rfl))) ?_
      refine r_op rfl rfl rfl (run_lenS rfl (by exact rfl) Try.underlying9) ?_
      refine r_op rfl rfl rfl (run_add rfl (by exact rfl) (by exact rfl) (by omega) (by omega)) ?_
      refine r_op rfl rfl rfl (run_asg (v := .int _ _) rfl (by exact rfl)) ?_
      refine r_nil ?_
      refine r_blk ?_
      refine r_region ?_
      refine r_op rfl rfl rfl (run_add rfl (by exact rfl) (by exact rfl) (by omega) (by omega)) ?_
      refine r_op rfl rfl rfl (run_mv (v := .int _ _) rfl (by exact rfl)) ?_
      refine r_nil ?_
      refine r_again (k + 1) ?_ ?_ ?_
      ·first | omega | (dsimp only; omega)
      ·refine ⟨_, (by first | exact rfl | exact congrArg (Value.int _) (by omega) | exact congrArg (Value.int _) (by dsimp only; omega) | exact congrArg (Value.int _) (by simp) | exact congrArg S (by simp)), rfl, (congrArg (Value.int _) (by rw [lengthL_succ f k (by omega)]; omega)), (by first | assumption | omega | (dsimp only; omega) | (simp; done)), (by first | (rw [pieces_succ f k fr to_ (by omega), rpiece_text (by omega) (by omega)]; exact hov26) | (rw [pieces_succ f k fr to_ (by omega), piece_other (by omega) (by assumption)]; exact hov26) | (rw [pieces_succ f k fr to_ (by omega), piece_none (by omega), List.append_nil]; exact hov26)), (pieces_len f (k + 1) fr to_), (by first | assumption | omega | (dsimp only; omega) | (simp; done)), hV⟩
      ·repeat (first | (with_reducible exact Agree.merge _ _ _) | (with_reducible exact Agree.refl _ _) | (with_reducible refine Agree.upd ?_ _ _ rfl) | ((with_reducible refine Agree.inner ?_ ?_); (kernel_rfl)))
     ·skip
      refine r_skip ?_
      refine r_region ?_
      refine r_op rfl rfl rfl (run_mv (v := .int _ _) rfl (by exact rfl)) ?_
      refine r_op rfl rfl rfl (run_fa rfl (by exact rfl) fo_26_1) ?_
      refine r_op rfl rfl rfl (run_ld1 rfl ag_9 (by exact rfl) (hAb12.cell 1 (by exact rfl))) ?_
      refine r_op rfl rfl rfl (run_lenS rfl (by exact rfl) Try.underlying9) ?_
      refine r_op rfl rfl rfl (run_add rfl (by exact rfl) (by exact rfl) (by omega) (by omega)) ?_
      refine r_op rfl rfl rfl (run_asg (v := .int _ _) rfl (by exact rfl)) ?_
      refine r_nil ?_
      refine r_blk ?_
      refine r_region ?_
      refine r_op rfl rfl rfl (run_add rfl (by exact rfl) (by exact rfl) (by omega) (by omega)) ?_
      refine r_op rfl rfl rfl (run_mv (v := .int _ _) rfl (by exact rfl)) ?_
      refine r_nil ?_
      refine r_again (k + 1) ?_ ?_ ?_
      ·first | omega | (dsimp only; omega)
      ·refine ⟨_, (by first | exact rfl | exact congrArg (Value.int _) (by omega) | exact congrArg (Value.int _) (by dsimp only; omega) | exact congrArg (Value.int _) (by simp) | exact congrArg S (by simp)), rfl, (congrArg (Value.int _) (by rw [lengthL_succ f k (by omega)]; omega)), (by first | assumption | omega | (dsimp only; omega) | (simp; done)), (by first | (rw [pieces_succ f k fr to_ (by omega), rpiece_text (by omega) (by omega)]; exact hoo) | (rw [pieces_succ f k fr to_ (by omega), piece_other (by omega) (by assumption)]; exact hoo) | (rw [pieces_succ f k fr to_ (by omega), piece_none (by omega), List.append_nil]; exact hoo)), (pieces_len f (k + 1) fr to_), (by first | assumption | omega | (dsimp only; omega) | (simp; done)), hV⟩
      ·repeat (first | (with_reducible exact Agree.merge _ _ _) | (with_reducible exact Agree.refl _ _) | (with_reducible refine Agree.upd ?_ _ _ rfl) | ((with_reducible refine Agree.inner ?_ ?_); (kernel_rfl)))
   ·skip
    refine r_exit rfl ?_
    refine r_seq ?_
    refine r_region ?_
    refine r_op rfl rfl rfl (run_mv (v := vo) rfl (by exact rfl)) ?_
    refine r_op rfl rfl rfl (run_asg (v := vo) rfl (by exact rfl)) ?_
    refine r_op rfl rfl rfl (run_asg (v := .bool _) rfl (by exact rfl)) ?_
    refine r_nil ?_
    refine r_ret (res2 (v := vo) (u := .bool _) rfl (by exact rfl) (by exact rfl)) ?_
    exact ⟨_, by unfold sliceL; rw [if_neg (by omega)], hV, by unfold sliceL; rw [if_neg (by omega)]; rw [List.take_of_length_le (by omega)] at hoo; exact hoo⟩

end Go.Proofs.Ytkdgoghmkmpfnaa
