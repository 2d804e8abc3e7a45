import Derived.Test.YtkdgoghmkmpfnaaW2
import Derived.Test.YtkdgoghmkmpfnaaLb
namespace Go.Proofs.Ytkdgoghmkmpfnaa
open Go.RowKit Go.Vc
theorem ty_9 : tyP Try.prog 9 = some (1, 16, some (.string ⟨#[]⟩)) := by kernel_rfl
theorem ei_26 : ∀ (w : World) (x y : Vc.Item), (Op.equalIn 10000 26 (.agg (Enc.enc x).toArray) (.agg (Enc.enc y).toArray)).run Try.prog w = .ok (decide (x = y)) w := fun w x y => equalIn_item 9998 Try.underlying26 Try.stoodInHeld26 (by decide) (by decide) (by decide) rfl rfl rfl Try.underlying3 Try.underlying9 Try.underlying3 ag_3 ag_9 ag_3 x y
theorem check_calls {ao : Option Addr} {b off cap : Nat} {f : List Vc.Item} {x : Vc.Item} {w0 : World} (hf : RowE w0 ao b off cap f) (hsm : Small f) :
    Calls Try.prog 67 #[.slice ao f.length cap, .agg (Enc.enc x).toArray] w0 fun e w' => e = .returned (.int .i64 (checkL f x)) ∧ Evo w0 w' [] := by
 have hs1 := hsm.1; have hs2 := hsm.2
 refine calls_enter (n := 114) (args := [.slice ao f.length cap, .agg (Enc.enc x).toArray]) Try.func67 rfl Try.ntmps67 rfl ?_
 have hV : Evo w0 w0 [] := Evo.refl _ _
 have hf0 := keepE hf
 have hbd_hf := hf.bd
 refine r_seq ?_
 refine r_region ?_
 refine r_box (vs := [_, _, _]) (by exact rfl) (by exact rfl) rfl ?_
 intro b1 w2 heb1 hEw2 hbb1 hzb1
 have hs_w2 := (hEw2).size
 replace hV := evo_step0 hV hEw2
 replace hf := hf0 _ hV
 have hAb1 := hbb1.at
 refine r_op rfl rfl rfl (run_asg (v := .int _ _) rfl (by exact rfl)) ?_
 refine r_nil ?_
 refine r_seq ?_
 refine r_seq ?_
 refine r_region ?_
 refine r_op rfl rfl rfl (run_fa rfl (by exact rfl) fo_26_0) ?_
 refine r_op rfl rfl rfl (run_ld1 rfl ag_3 (by exact rfl) (hAb1.cell 0 (by exact rfl))) ?_
 refine r_nil ?_
 refine r_block ?_
 refine r_seq ?_
 refine r_region ?_
 refine r_op rfl rfl rfl (run_eql rfl (by exact rfl) (by exact rfl)) ?_
 refine r_op rfl rfl rfl (run_asg (v := .bool _) rfl (by exact rfl)) ?_
 refine r_nil ?_
 refine r_cut [4, 11, 12, 13, 14, 15, 16, 17, 18, 19, 20, 21, 22, 23, 24, 25, 26, 27, 28, 29, 30, 31, 32, 33, 34, 35, 36, 37, 38, 39, 40, 41, 42, 43, 44, 45, 46, 47, 48, 49, 50, 51, 52, 53, 54, 55, 56, 57, 58, 59, 60, 61, 62, 63, 64, 65, 66, 67, 68, 69, 70, 71, 72, 73, 74, 75, 76, 77] (fun g w => Blk w b1 26 [.int .i64 x.kind, S x.text, .int .i64 x.id] ∧ At w b1 0 [.int .i64 x.kind, S x.text, .int .i64 x.id] ∧ (formed f x = true ∧ isTag x = true) ∧ w2.heap.size ≤ w.heap.size ∧ Evo w0 w []) ?_ ?_
 ·skip
  refine r_cond (by exact rfl) (fun hc4 => ?_) (fun hc4 => ?_)
  ·skip
   refine r_seq ?_
   refine r_seq ?_
   refine r_region ?_
   refine r_op rfl rfl rfl (run_fa rfl (by exact rfl) fo_26_1) ?_
   refine r_op rfl rfl rfl (run_ld1 rfl ag_9 (by exact rfl) (hAb1.cell 1 (by exact rfl))) ?_
   refine r_op rfl rfl rfl (run_seql rfl (by exact rfl) (by exact rfl)) ?_
   refine r_op rfl rfl rfl (run_mv (v := .bool _) rfl (by exact rfl)) ?_
   refine r_g rfl (wantF (by exact rfl)) rfl (fun hg => run_fa rfl (by exact rfl) fo_26_2) ?_
   refine r_g rfl (wantF (by exact rfl)) rfl (fun hg => run_ld1 rfl ag_3 (glv (by exact rfl) (fun h => h) hg) (hAb1.cell 2 (by exact rfl))) ?_
   refine r_g rfl (wantF (by exact rfl)) rfl (fun hg => run_neq rfl (glv (by exact rfl) (fun h => h) hg) (by exact rfl)) ?_
   refine r_op rfl rfl rfl (run_pick_or rfl (by exact rfl) rfl (fun hq => glv (by exact rfl) (fun h => h) hq)) ?_
   refine r_op rfl rfl rfl (run_mv (v := .bool _) rfl (by exact rfl)) ?_
   refine r_g rfl (wantF (by exact rfl)) rfl (fun hg => run_mv (v := .slice _ _ _) rfl (by exact rfl)) ?_
   refine r_g rfl (wantF (by exact rfl)) rfl (fun hg => run_lenSl rfl (glv (by exact rfl) (fun h => h) hg) Try.underlying30) ?_
   refine r_g rfl (wantF (by exact rfl)) rfl (fun hg => run_gtr rfl (glv (by exact rfl) (fun h => h) hg) (by exact rfl)) ?_
   refine r_g rfl (wantF (by exact rfl)) rfl (fun hg => run_mv (v := .bool _) rfl (glv (by exact rfl) (fun h => h) hg)) ?_
   refine r_g rfl (wantTg (by exact rfl)) rfl (fun hg => run_mv (v := .slice _ _ _) rfl (by exact rfl)) ?_
   refine r_g rfl (wantTg (by exact rfl)) rfl (fun hg => run_mv (v := .slice _ _ _) rfl (by exact rfl)) ?_
   refine r_g rfl (wantTg (by exact rfl)) rfl (fun hg => run_lenSl rfl (glv (by exact rfl) (fun h => h) hg) Try.underlying30) ?_
   refine r_g rfl (wantTg (by exact rfl)) rfl (fun hg => run_sub rfl (glv (by exact rfl) (fun h => h) hg) (by exact rfl) (by omega) (by omega)) ?_
   refine r_g rfl (wantTg (by exact rfl)) rfl (fun hg => run_ix ((f.length - 1)) rfl Try.underlying30 ty_26 (glv (by exact rfl) (fun h => h) hg) (glv (by exact rfl) (fun h => h) hg) (by omega) (by omega) (hf.addr (i := (f.length - 1)) (by omega))) ?_
   refine r_g rfl (wantTg (by exact rfl)) rfl (fun hg => run_fa rfl (glv (by exact rfl) (fun h => h) hg) fo_26_0) ?_
   refine r_g rfl (wantTg (by exact rfl)) rfl (fun hg => run_ld1 rfl ag_3 (glv (by exact rfl) (fun h => h) hg) ((hf.atD ((f.length - 1)) (by omega)).cell 0 (by exact rfl))) ?_
   refine r_g rfl (wantTg (by exact rfl)) rfl (fun hg => run_eql rfl (glv (by exact rfl) (fun h => h) hg) (by exact rfl)) ?_
   refine r_g rfl (wantF (by exact rfl)) rfl (fun hg => run_pick_and rfl (glv (by exact rfl) (fun h => h) hg) (fun hq => glv (by exact rfl) (fun h => h) (And.intro hg hq)) rfl) ?_
   refine r_op rfl rfl rfl (run_pick_or rfl (by exact rfl) rfl (fun hq => glv (by exact rfl) (fun h => h) hq)) ?_
   refine r_nil ?_
   refine r_cond (by exact rfl) (fun hc5 => ?_) (fun hc5 => ?_)
   ·skip
    refine r_seq ?_
    refine r_region ?_
    refine r_op rfl rfl rfl (run_asg (v := .int _ _) rfl (by exact rfl)) ?_
    refine r_nil ?_
    refine r_ret (res1 (v := .int _ _) rfl (by exact rfl)) ?_
    exact ⟨ret_int (by rw [chk_text_bad (by assumption) hc5]), hV⟩
   ·skip
    refine r_skip ?_
    refine r_seq ?_
    refine r_region ?_
    refine r_op rfl rfl rfl (run_asg (v := .int _ _) rfl (by exact rfl)) ?_
    refine r_nil ?_
    refine r_ret (res1 (v := .int _ _) rfl (by exact rfl)) ?_
    exact ⟨ret_int (by rw [chk_text_ok (by assumption) hc5]), hV⟩
  ·skip
   refine r_seq ?_
   refine r_region ?_
   refine r_op rfl rfl rfl (run_eql rfl (by exact rfl) (by exact rfl)) ?_
   refine r_op rfl rfl rfl (run_asg (v := .bool _) rfl (by exact rfl)) ?_
   refine r_nil ?_
   refine r_cond (by exact rfl) (fun hc6 => ?_) (fun hc6 => ?_)
   ·skip
    refine r_seq ?_
    refine r_seq ?_
    refine r_region ?_
    refine r_op rfl rfl rfl (run_fa rfl (by exact rfl) fo_26_1) ?_
    refine r_op rfl rfl rfl (run_ld1 rfl ag_9 (by exact rfl) (hAb1.cell 1 (by exact rfl))) ?_
    refine r_opcall rfl rfl rfl (run_callf (vs := [S _]) rfl (by exact rfl) Try.func63 rfl (by kernel_rfl)) risname_calls ?_
    rintro e w7 ⟨rfl, hE7⟩
    refine ⟨_, rfl, ?_⟩
    have hs_w7 := (hE7).size
    replace hV := evo_step0 hV hE7
    replace hf := hf0 _ hV
    replace hbb1 := hbb1.evo0 hE7
    replace hAb1 := hAb1.evo0 hE7
    refine r_op rfl rfl rfl (run_notb rfl (by exact rfl)) ?_
    refine r_op rfl rfl rfl (run_mvb rfl (by exact rfl)) ?_
    refine r_g rfl (wantF (by exact rfl)) rfl (fun hg => run_fa rfl (by exact rfl) fo_26_2) ?_
    refine r_g rfl (wantF (by exact rfl)) rfl (fun hg => run_ld1 rfl ag_3 (glv (by exact rfl) (fun h => h) hg) (hAb1.cell 2 (by exact rfl))) ?_
    refine r_g rfl (wantF (by exact rfl)) rfl (fun hg => run_neq rfl (glv (by exact rfl) (fun h => h) hg) (by exact rfl)) ?_
    refine r_op rfl rfl rfl (run_pick_or rfl (by exact rfl) rfl (fun hq => glv (by exact rfl) (fun h => h) hq)) ?_
    refine r_nil ?_
    refine r_cond (by exact rfl) (fun hc8 => ?_) (fun hc8 => ?_)
    ·skip
     refine r_seq ?_
     refine r_region ?_
     refine r_op rfl rfl rfl (run_asg (v := .int _ _) rfl (by exact rfl)) ?_
     refine r_nil ?_
     refine r_ret (res1 (v := .int _ _) rfl (by exact rfl)) ?_
     exact ⟨ret_int (by rw [chk_slot_bad (by assumption) hc8]), hV⟩
    ·skip
     refine r_skip ?_
     refine r_seq ?_
     refine r_region ?_
     refine r_op rfl rfl rfl (run_asg (v := .int _ _) rfl (by exact rfl)) ?_
     refine r_nil ?_
     refine r_ret (res1 (v := .int _ _) rfl (by exact rfl)) ?_
     exact ⟨ret_int (by rw [chk_slot_ok (by assumption) hc8]), hV⟩
   ·skip
    refine r_seq ?_
    refine r_seq ?_
    refine r_region ?_
    refine r_op rfl rfl rfl (run_eql rfl (by exact rfl) (by exact rfl)) ?_
    refine r_op rfl rfl rfl (run_asg (v := .bool _) rfl (by exact rfl)) ?_
    refine r_nil ?_
    refine r_cond (by exact rfl) (fun hc9 => ?_) (fun hc9 => ?_)
    ·skip
     refine r_skip ?_
     refine r_condT (by exact rfl) hc9 ?_
     refine r_seq ?_
     refine r_region ?_
     refine r_op rfl rfl rfl (run_fa rfl (by exact rfl) fo_26_1) ?_
     refine r_op rfl rfl rfl (run_ld1 rfl ag_9 (by exact rfl) (hAb1.cell 1 (by exact rfl))) ?_
     refine r_opcall rfl rfl rfl (run_callf (vs := [S _]) rfl (by exact rfl) Try.func18 rfl (by kernel_rfl)) riscont_calls ?_
     rintro e w10 ⟨rfl, hE10⟩
     refine ⟨_, rfl, ?_⟩
     have hs_w10 := (hE10).size
     replace hV := evo_step0 hV hE10
     replace hf := hf0 _ hV
     replace hbb1 := hbb1.evo0 hE10
     replace hAb1 := hAb1.evo0 hE10
     refine r_op rfl rfl rfl (run_notb rfl (by exact rfl)) ?_
     refine r_op rfl rfl rfl (run_mvb rfl (by exact rfl)) ?_
     refine r_g rfl (wantF (by exact rfl)) rfl (fun hg => run_fa rfl (by exact rfl) fo_26_2) ?_
     refine r_g rfl (wantF (by exact rfl)) rfl (fun hg => run_ld1 rfl ag_3 (glv (by exact rfl) (fun h => h) hg) (hAb1.cell 2 (by exact rfl))) ?_
     refine r_g rfl (wantF (by exact rfl)) rfl (fun hg => run_lss rfl (glv (by exact rfl) (fun h => h) hg) (by exact rfl)) ?_
     refine r_op rfl rfl rfl (run_pick_or rfl (by exact rfl) rfl (fun hq => glv (by exact rfl) (fun h => h) hq)) ?_
     refine r_op rfl rfl rfl (run_mv (v := .bool _) rfl (by exact rfl)) ?_
     refine r_g rfl (wantF (by exact rfl)) rfl (fun hg => run_fa rfl (by exact rfl) fo_26_2) ?_
     refine r_g rfl (wantF (by exact rfl)) rfl (fun hg => run_ld1 rfl ag_3 (glv (by exact rfl) (fun h => h) hg) (hAb1.cell 2 (by exact rfl))) ?_
     refine r_g rfl (wantF (by exact rfl)) rfl (fun hg => run_gtr rfl (glv (by exact rfl) (fun h => h) hg) (by exact rfl)) ?_
     refine r_op rfl rfl rfl (run_pick_or rfl (by exact rfl) rfl (fun hq => glv (by exact rfl) (fun h => h) hq)) ?_
     refine r_nil ?_
     refine r_cond (by exact rfl) (fun hc11 => ?_) (fun hc11 => ?_)
     ·skip
      refine r_seq ?_
      refine r_region ?_
      refine r_op rfl rfl rfl (run_asg (v := .int _ _) rfl (by exact rfl)) ?_
      refine r_nil ?_
      refine r_ret (res1 (v := .int _ _) rfl (by exact rfl)) ?_
      exact ⟨ret_int (by rw [chk_open_bad (.inl (by assumption)) hc11]), hV⟩
     ·skip
      refine r_skip ?_
      refine r_cut_end ?_ ?_
      ·refine ⟨hbb1, hAb1, (by first | exact form_open (.inl (by assumption)) hc11 | exact form_open (.inr (by assumption)) hc11 | exact form_close (by assumption) hc11), (by first | assumption | omega | (dsimp only; omega) | (simp; done)), hV⟩
      ·repeat (first | (with_reducible exact Agree.merge _ _ _) | (with_reducible exact Agree.refl _ _) | (with_reducible refine Agree.upd ?_ _ _ rfl) | ((with_reducible refine Agree.inner ?_ ?_); (kernel_rfl)))
    ·skip
     refine r_region ?_
     refine r_op rfl rfl rfl (run_eql rfl (by exact rfl) (by exact rfl)) ?_
     refine r_op rfl rfl rfl (run_asg (v := .bool _) rfl (by exact rfl)) ?_
     refine r_nil ?_
     refine r_cond (by exact rfl) (fun hc12 => ?_) (fun hc12 => ?_)
     ·skip
      refine r_seq ?_
      refine r_region ?_
      refine r_op rfl rfl rfl (run_fa rfl (by exact rfl) fo_26_1) ?_
      refine r_op rfl rfl rfl (run_ld1 rfl ag_9 (by exact rfl) (hAb1.cell 1 (by exact rfl))) ?_
      refine r_opcall rfl rfl rfl (run_callf (vs := [S _]) rfl (by exact rfl) Try.func18 rfl (by kernel_rfl)) riscont_calls ?_
      rintro e w13 ⟨rfl, hE13⟩
      refine ⟨_, rfl, ?_⟩
      have hs_w13 := (hE13).size
      replace hV := evo_step0 hV hE13
      replace hf := hf0 _ hV
      replace hbb1 := hbb1.evo0 hE13
      replace hAb1 := hAb1.evo0 hE13
      refine r_op rfl rfl rfl (run_notb rfl (by exact rfl)) ?_
      refine r_op rfl rfl rfl (run_mvb rfl (by exact rfl)) ?_
      refine r_g rfl (wantF (by exact rfl)) rfl (fun hg => run_fa rfl (by exact rfl) fo_26_2) ?_
      refine r_g rfl (wantF (by exact rfl)) rfl (fun hg => run_ld1 rfl ag_3 (glv (by exact rfl) (fun h => h) hg) (hAb1.cell 2 (by exact rfl))) ?_
      refine r_g rfl (wantF (by exact rfl)) rfl (fun hg => run_lss rfl (glv (by exact rfl) (fun h => h) hg) (by exact rfl)) ?_
      refine r_op rfl rfl rfl (run_pick_or rfl (by exact rfl) rfl (fun hq => glv (by exact rfl) (fun h => h) hq)) ?_
      refine r_op rfl rfl rfl (run_mv (v := .bool _) rfl (by exact rfl)) ?_
      refine r_g rfl (wantF (by exact rfl)) rfl (fun hg => run_fa rfl (by exact rfl) fo_26_2) ?_
      refine r_g rfl (wantF (by exact rfl)) rfl (fun hg => run_ld1 rfl ag_3 (glv (by exact rfl) (fun h => h) hg) (hAb1.cell 2 (by exact rfl))) ?_
      refine r_g rfl (wantF (by exact rfl)) rfl (fun hg => run_gtr rfl (glv (by exact rfl) (fun h => h) hg) (by exact rfl)) ?_
      refine r_op rfl rfl rfl (run_pick_or rfl (by exact rfl) rfl (fun hq => glv (by exact rfl) (fun h => h) hq)) ?_
      refine r_nil ?_
      refine r_cond (by exact rfl) (fun hc14 => ?_) (fun hc14 => ?_)
      ·skip
       refine r_seq ?_
       refine r_region ?_
       refine r_op rfl rfl rfl (run_asg (v := .int _ _) rfl (by exact rfl)) ?_
       refine r_nil ?_
       refine r_ret (res1 (v := .int _ _) rfl (by exact rfl)) ?_
       exact ⟨ret_int (by rw [chk_open_bad (.inr (by assumption)) hc14]), hV⟩
      ·skip
       refine r_skip ?_
       refine r_cut_end ?_ ?_
       ·refine ⟨hbb1, hAb1, (by first | exact form_open (.inl (by assumption)) hc14 | exact form_open (.inr (by assumption)) hc14 | exact form_close (by assumption) hc14), (by first | assumption | omega | (dsimp only; omega) | (simp; done)), hV⟩
       ·repeat (first | (with_reducible exact Agree.merge _ _ _) | (with_reducible exact Agree.refl _ _) | (with_reducible refine Agree.upd ?_ _ _ rfl) | ((with_reducible refine Agree.inner ?_ ?_); (kernel_rfl)))
     ·skip
      refine r_seq ?_
      refine r_region ?_
      refine r_op rfl rfl rfl (run_eql rfl (by exact rfl) (by exact rfl)) ?_
      refine r_op rfl rfl rfl (run_asg (v := .bool _) rfl (by exact rfl)) ?_
      refine r_nil ?_
      refine r_cond (by exact rfl) (fun hc15 => ?_) (fun hc15 => ?_)
      ·skip
       refine r_seq ?_
       refine r_region ?_
       refine r_op rfl rfl rfl (run_fa rfl (by exact rfl) fo_26_1) ?_
       refine r_op rfl rfl rfl (run_ld1 rfl ag_9 (by exact rfl) (hAb1.cell 1 (by exact rfl))) ?_
       refine r_opcall rfl rfl rfl (run_callf (vs := [S _]) rfl (by exact rfl) Try.func63 rfl (by kernel_rfl)) risname_calls ?_
       rintro e w16 ⟨rfl, hE16⟩
       refine ⟨_, rfl, ?_⟩
       have hs_w16 := (hE16).size
       replace hV := evo_step0 hV hE16
       replace hf := hf0 _ hV
       replace hbb1 := hbb1.evo0 hE16
       replace hAb1 := hAb1.evo0 hE16
       refine r_op rfl rfl rfl (run_notb rfl (by exact rfl)) ?_
       refine r_op rfl rfl rfl (run_mvb rfl (by exact rfl)) ?_
       refine r_g rfl (wantF (by exact rfl)) rfl (fun hg => run_fa rfl (by exact rfl) fo_26_2) ?_
       refine r_g rfl (wantF (by exact rfl)) rfl (fun hg => run_ld1 rfl ag_3 (glv (by exact rfl) (fun h => h) hg) (hAb1.cell 2 (by exact rfl))) ?_
       refine r_g rfl (wantF (by exact rfl)) rfl (fun hg => run_lss rfl (glv (by exact rfl) (fun h => h) hg) (by exact rfl)) ?_
       refine r_op rfl rfl rfl (run_pick_or rfl (by exact rfl) rfl (fun hq => glv (by exact rfl) (fun h => h) hq)) ?_
       refine r_op rfl rfl rfl (run_mv (v := .bool _) rfl (by exact rfl)) ?_
       refine r_g rfl (wantF (by exact rfl)) rfl (fun hg => run_fa rfl (by exact rfl) fo_26_2) ?_
       refine r_g rfl (wantF (by exact rfl)) rfl (fun hg => run_ld1 rfl ag_3 (glv (by exact rfl) (fun h => h) hg) (hAb1.cell 2 (by exact rfl))) ?_
       refine r_g rfl (wantF (by exact rfl)) rfl (fun hg => run_gtr rfl (glv (by exact rfl) (fun h => h) hg) (by exact rfl)) ?_
       refine r_op rfl rfl rfl (run_pick_or rfl (by exact rfl) rfl (fun hq => glv (by exact rfl) (fun h => h) hq)) ?_
       refine r_nil ?_
       refine r_cond (by exact rfl) (fun hc17 => ?_) (fun hc17 => ?_)
       ·skip
        refine r_seq ?_
        refine r_region ?_
        refine r_op rfl rfl rfl (run_asg (v := .int _ _) rfl (by exact rfl)) ?_
        refine r_nil ?_
        refine r_ret (res1 (v := .int _ _) rfl (by exact rfl)) ?_
        exact ⟨ret_int (by rw [chk_close_bad (by assumption) hc17]), hV⟩
       ·skip
        refine r_skip ?_
        refine r_cut_end ?_ ?_
        ·refine ⟨hbb1, hAb1, (by first | exact form_open (.inl (by assumption)) hc17 | exact form_open (.inr (by assumption)) hc17 | exact form_close (by assumption) hc17), (by first | assumption | omega | (dsimp only; omega) | (simp; done)), hV⟩
        ·repeat (first | (with_reducible exact Agree.merge _ _ _) | (with_reducible exact Agree.refl _ _) | (with_reducible refine Agree.upd ?_ _ _ rfl) | ((with_reducible refine Agree.inner ?_ ?_); (kernel_rfl)))
      ·skip
       refine r_seq ?_
       refine r_region ?_
       refine r_op rfl rfl rfl (run_asg (v := .int _ _) rfl (by exact rfl)) ?_
       refine r_nil ?_
       refine r_ret (res1 (v := .int _ _) rfl (by exact rfl)) ?_
       exact ⟨ret_int (by rw [chk_other (by assumption) (by assumption) (by assumption) (by assumption) (by assumption)]), hV⟩
 ·rintro g w18 ⟨hbb1, hAb1, hfo, hzl3, hV⟩
  have hs_w18hV := hV.size
  have hlt19 := hbb1.lt
  replace hf := hf0 _ hV
  refine r_blk ?_
  refine r_seq ?_
  refine r_seq ?_
  refine r_region ?_
  refine r_op rfl rfl rfl (run_mv (v := .slice _ _ _) rfl (by exact rfl)) ?_
  refine r_op rfl rfl rfl (run_lenSl rfl (by exact rfl) Try.underlying30) ?_
  refine r_op rfl rfl rfl (run_mv (v := .int _ _) rfl (by exact rfl)) ?_
  refine r_nil ?_
  refine r_block ?_
  refine r_loop (α := Nat) [4, 5, 6, 80, 81, 82, 83, 84, 85, 86, 87, 88, 89, 90, 91, 92, 93, 94, 95, 96, 97, 98, 99, 100, 101, 102, 103, 104, 105, 106, 107, 108, 109, 110, 111, 112, 113] (fun k g w => g 80 = .int .i64 (k : Nat) ∧ k ≤ f.length ∧ Blk w b1 26 [.int .i64 x.kind, S x.text, .int .i64 x.id] ∧ At w b1 0 [.int .i64 x.kind, S x.text, .int .i64 x.id] ∧ (∀ j, j < k → clash x (f.getD j default) = false) ∧ w18.heap.size ≤ w.heap.size ∧ Evo w0 w []) (fun k => f.length - k) 0 ?_ ?_
  ·refine ⟨(by first | exact rfl | exact congrArg (Value.int _) (by omega) | exact congrArg (Value.int _) (by dsimp only; omega) | exact congrArg (Value.int _) (by simp) | exact congrArg S (by simp)), (by first | assumption | omega | (dsimp only; omega) | (simp; done)), hbb1, hAb1, (fun j h1 => by omega), (by first | assumption | omega | (dsimp only; omega) | (simp; done)), hV⟩
  ·rintro k g w21 ⟨hj22, hk_k, hbb1, hAb1, hall, hzl20, hV⟩
   have hs_w21hV := hV.size
   have hlt23 := hbb1.lt
   replace hf := hf0 _ hV
   refine r_know (i := 80) (v := .int .i64 (k : Nat)) (by exact hj22) ?_
   refine r_seq ?_
   refine r_region ?_
   refine r_op rfl rfl rfl (run_lss rfl (by exact rfl) (by exact rfl)) ?_
   refine r_nil ?_
   refine r_seq ?_
   refine r_cond (by exact rfl) (fun hc24 => ?_) (fun hc24 => ?_)
   ·skip
    refine r_skip ?_
    refine r_seq ?_
    refine r_block ?_
    refine r_seq ?_
    refine r_region ?_
    refine r_op rfl rfl rfl (run_mv (v := .int _ _) rfl (by exact rfl)) ?_
    refine r_op rfl rfl rfl (run_asg (v := .int _ _) rfl (by exact rfl)) ?_
    refine r_nil ?_
    refine r_seq ?_
    refine r_region ?_
    refine r_op rfl rfl rfl (run_mv (v := .slice _ _ _) rfl (by exact rfl)) ?_
    refine r_op rfl rfl rfl (run_mv (v := .int _ _) rfl (by exact rfl)) ?_
    refine r_op rfl rfl rfl (run_ix (k) rfl Try.underlying30 ty_26 (by exact rfl) (by exact rfl) (by first | exact rfl | omega) (by omega) (hf.addr (i := k) (by omega))) ?_
    have hA250 := fun (w' : World) (h : Evo w0 w' []) => (hf0 w' h).atD (k) (by omega)
    have hA25 := hA250 _ hV
    refine r_op rfl rfl rfl (run_ldN rfl ag_26 ty_26 (by exact rfl) rfl hA25) ?_
    refine r_var (zs := [_, _, _]) (vs := [_, _, _]) ty_26 (by exact rfl) rfl (by exact rfl) (fun _ => rfl) (by exact rfl) rfl rfl (by exact rfl) ?_
    intro b26 w27 heb26 hEw27 hbb26 hzb26
    have hs_w27 := (hEw27).size
    replace hV := evo_step0 hV hEw27
    replace hf := hf0 _ hV
    replace hbb1 := hbb1.evo0 hEw27
    replace hAb1 := hAb1.evo0 hEw27
    have hAb26 := hbb26.at
    refine r_nil ?_
    refine r_seq ?_
    refine r_seq ?_
    have hb4 := sizeL_at f k
    refine r_region ?_
    refine r_op rfl rfl rfl (run_ldN rfl ag_26 ty_26 (by exact rfl) rfl hAb26) ?_
    refine r_opcall rfl rfl rfl (run_callf (vs := [.agg _]) rfl (by exact rfl) Try.func75 rfl (by kernel_rfl)) ristag_calls ?_
    rintro e w28 ⟨rfl, hE28⟩
    refine ⟨_, rfl, ?_⟩
    have hs_w28 := (hE28).size
    replace hV := evo_step0 hV hE28
    replace hf := hf0 _ hV
    replace hbb1 := hbb1.evo0 hE28
    replace hAb1 := hAb1.evo0 hE28
    replace hbb26 := hbb26.evo0 hE28
    replace hAb26 := hAb26.evo0 hE28
    refine r_op rfl rfl rfl (run_notb rfl (by exact rfl)) ?_
    refine r_op rfl rfl rfl (run_mvb rfl (by exact rfl)) ?_
    refine r_g rfl (wantF (by exact rfl)) rfl (fun hg => run_fa rfl (by exact rfl) fo_26_2) ?_
    refine r_g rfl (wantF (by exact rfl)) rfl (fun hg => run_ld1 rfl ag_3 (glv (by exact rfl) (fun h => h) hg) (hAb26.cell 2 (by exact rfl))) ?_
    refine r_g rfl (wantF (by exact rfl)) rfl (fun hg => run_fa rfl (by exact rfl) fo_26_2) ?_
    refine r_g rfl (wantF (by exact rfl)) rfl (fun hg => run_ld1 rfl ag_3 (glv (by exact rfl) (fun h => h) hg) (hAb1.cell 2 (by exact rfl))) ?_
    refine r_g rfl (wantF (by exact rfl)) rfl (fun hg => run_neq rfl (glv (by exact rfl) (fun h => h) hg) (glv (by exact rfl) (fun h => h) hg)) ?_
    refine r_op rfl rfl rfl (run_pick_or rfl (by exact rfl) rfl (fun hq => glv (by exact rfl) (fun h => h) hq)) ?_
    refine r_nil ?_
    refine r_cond (by exact rfl) (fun hc29 => ?_) (fun hc29 => ?_)
    ·skip
     refine r_exit rfl ?_
     refine r_region ?_
     refine r_op rfl rfl rfl (run_add rfl (by exact rfl) (by exact rfl) (by omega) (by omega)) ?_
     refine r_op rfl rfl rfl (run_mv (v := .int _ _) rfl (by exact rfl)) ?_
     refine r_nil ?_
     refine r_again (k + 1) ?_ ?_ ?_
     ·first | omega | (dsimp only; omega)
     ·refine ⟨(by first | exact rfl | exact congrArg (Value.int _) (by omega) | exact congrArg (Value.int _) (by dsimp only; omega) | exact congrArg (Value.int _) (by simp) | exact congrArg S (by simp)), (by first | assumption | omega | (dsimp only; omega) | (simp; done)), hbb1, hAb1, (upto0 hall (by first | exact clash_no1 hc29 | exact clash_no2 hc29)), (by first | assumption | omega | (dsimp only; omega) | (simp; done)), hV⟩
     ·repeat (first | (with_reducible exact Agree.merge _ _ _) | (with_reducible exact Agree.refl _ _) | (with_reducible refine Agree.upd ?_ _ _ rfl) | ((with_reducible refine Agree.inner ?_ ?_); (kernel_rfl)))
    ·skip
     refine r_skip ?_
     refine r_seq ?_
     have hb4 := sizeL_at f k
     refine r_qregion (by kernel_rfl) (by kernel_rfl) ?_
     refine q_op rfl rfl rfl (fun w' hC => run_fa rfl (by exact rfl) fo_26_0) ?_
     refine q_op rfl rfl rfl (fun w' hC => run_ld1 rfl ag_3 (by exact rfl) ((hAb1.evo0 hC).cell 0 (by exact rfl))) ?_
     refine q_op rfl rfl rfl (fun w' hC => run_neq rfl (by exact rfl) (by exact rfl)) ?_
     refine q_op rfl rfl rfl (fun w' hC => run_mv (v := .bool _) rfl (by exact rfl)) ?_
     refine q_g rfl (wantF (by exact rfl)) rfl (fun hg w' hC => run_fa rfl (by exact rfl) fo_26_0) ?_
     refine q_g rfl (wantF (by exact rfl)) rfl (fun hg w' hC => run_ld1 rfl ag_3 (glv (by exact rfl) (fun h => h) hg) ((hAb26.evo0 hC).cell 0 (by exact rfl))) ?_
     refine q_g rfl (wantF (by exact rfl)) rfl (fun hg w' hC => run_neq rfl (glv (by exact rfl) (fun h => h) hg) (by exact rfl)) ?_
     refine q_op rfl rfl rfl (fun w' hC => run_pick_or rfl (by exact rfl) rfl (fun hq => glv (by exact rfl) (fun h => h) hq)) ?_
     refine q_op rfl rfl rfl (fun w' hC => run_mv (v := .bool _) rfl (by exact rfl)) ?_
     refine q_g rfl (wantF (by exact rfl)) rfl (fun hg w' hC => run_fa rfl (by exact rfl) fo_26_1) ?_
     refine q_g rfl (wantF (by exact rfl)) rfl (fun hg w' hC => run_ld1 rfl ag_9 (glv (by exact rfl) (fun h => h) hg) ((hAb26.evo0 hC).cell 1 (by exact rfl))) ?_
     refine q_gcall rfl (wantF (by exact rfl)) rfl (fun hg w' hC => run_callf rfl (argcons (v := S _) (glv (by exact rfl) (fun h => h) hg) (rfl)) Try.func62 rfl (by kernel_rfl)) (fun hg w' hC => (rname_calls (by omega)).mono (fun e w'' h => ⟨h.1, evo_step0 hC h.2⟩)) ?_
     refine q_g rfl (wantF (by exact rfl)) rfl (fun hg w' hC => run_fa rfl (by exact rfl) fo_26_1) ?_
     refine q_g rfl (wantF (by exact rfl)) rfl (fun hg w' hC => run_ld1 rfl ag_9 (glv (by exact rfl) (fun h => h) hg) ((hAb1.evo0 hC).cell 1 (by exact rfl))) ?_
     refine q_g rfl (wantF (by exact rfl)) rfl (fun hg w' hC => run_sneq rfl (glv (by exact rfl) (fun h => h) hg) (glv (by exact rfl) (fun h => h) hg)) ?_
     refine q_op rfl rfl rfl (fun w' hC => run_pick_or rfl (by exact rfl) rfl (fun hq => glv (by exact rfl) (fun h => h) hq)) ?_
     refine q_nil (fun w30 hE31 => ?_)
     have hs_w30 := (hE31).size
     replace hV := evo_step0 hV hE31
     replace hf := hf0 _ hV
     replace hbb1 := hbb1.evo0 hE31
     replace hAb1 := hAb1.evo0 hE31
     refine r_cond (by exact rfl) (fun hc32 => ?_) (fun hc32 => ?_)
     ·skip
      refine r_seq ?_
      refine r_region ?_
      refine r_op rfl rfl rfl (run_asg (v := .int _ _) rfl (by exact rfl)) ?_
      refine r_nil ?_
      refine r_ret (res1 (v := .int _ _) rfl (by exact rfl)) ?_
      exact ⟨ret_int (by rw [check_tag hfo.1 hfo.2 (any_yes (d := default) k (by omega) (clash_yes (by assumption) hc32))]), hV⟩
     ·skip
      refine r_skip ?_
      refine r_blk ?_
      refine r_region ?_
      refine r_op rfl rfl rfl (run_add rfl (by exact rfl) (by exact rfl) (by omega) (by omega)) ?_
      refine r_op rfl rfl rfl (run_mv (v := .int _ _) rfl (by exact rfl)) ?_
      refine r_nil ?_
      refine r_again (k + 1) ?_ ?_ ?_
      ·first | omega | (dsimp only; omega)
      ·refine ⟨(by first | exact rfl | exact congrArg (Value.int _) (by omega) | exact congrArg (Value.int _) (by dsimp only; omega) | exact congrArg (Value.int _) (by simp) | exact congrArg S (by simp)), (by first | assumption | omega | (dsimp only; omega) | (simp; done)), hbb1, hAb1, (upto0 hall (by first | exact clash_no1 hc32 | exact clash_no2 hc32)), (by first | assumption | omega | (dsimp only; omega) | (simp; done)), hV⟩
      ·repeat (first | (with_reducible exact Agree.merge _ _ _) | (with_reducible exact Agree.refl _ _) | (with_reducible refine Agree.upd ?_ _ _ rfl) | ((with_reducible refine Agree.inner ?_ ?_); (kernel_rfl)))
   ·skip
    refine r_exit rfl ?_
    refine r_seq ?_
    refine r_region ?_
    refine r_op rfl rfl rfl (run_asg (v := .int _ _) rfl (by exact rfl)) ?_
    refine r_nil ?_
    refine r_ret (res1 (v := .int _ _) rfl (by exact rfl)) ?_
    exact ⟨ret_int (by rw [check_ok hfo.1 (by rw [any_no (d := default) (fun j hj => hall j (by omega))]; simp)]), hV⟩

theorem rvalidate_calls {ao : Option Addr} {b off cap : Nat} {f : List Vc.Item} {w0 : World} (hf : RowE w0 ao b off cap f) (hsm : Small f) :
    Calls Try.prog 20 #[.slice ao f.length cap] w0 fun e w' => e = .returned (.int .i64 (validateL f)) ∧ Evo w0 w' [] := by
 have hs1 := hsm.1; have hs2 := hsm.2
 refine calls_enter (n := 30) (args := [.slice ao f.length cap]) Try.func20 rfl Try.ntmps20 rfl ?_
 have hV : Evo w0 w0 [] := Evo.refl _ _
 have hf0 := keepE hf
 have hbd_hf := hf.bd
 refine r_seq ?_
 refine r_region ?_
 refine r_op rfl rfl rfl (run_asg (v := .int _ _) rfl (by exact rfl)) ?_
 refine r_nil ?_
 refine r_seq ?_
 refine r_seq ?_
 refine r_region ?_
 refine r_op rfl rfl rfl (run_mv (v := .slice _ _ _) rfl (by exact rfl)) ?_
 refine r_op rfl rfl rfl (run_lenSl rfl (by exact rfl) Try.underlying30) ?_
 refine r_op rfl rfl rfl (run_gtr rfl (by exact rfl) (by exact rfl)) ?_
 refine r_op rfl rfl rfl (run_mv (v := .bool _) rfl (by exact rfl)) ?_
 refine r_g rfl (wantF (by exact rfl)) rfl (fun hg => run_mv (v := .slice _ _ _) rfl (by exact rfl)) ?_
 refine r_gcall rfl (wantF (by exact rfl)) rfl (fun hg => run_callf rfl (argcons (v := .slice _ _ _) (glv (by exact rfl) (fun h => h) hg) (rfl)) Try.func47 rfl (by kernel_rfl)) (fun hg => (rlength_calls hf (by assumption)).mono (fun e w' h => ⟨h.1, h.2⟩)) (fun w1 hE2 => ?_)
 have hs_w1 := (hE2).size
 replace hV := evo_step0 hV hE2
 replace hf := hf0 _ hV
 refine r_g rfl (wantF (by exact rfl)) rfl (fun hg => run_gtr rfl (glv (by exact rfl) (fun h => h) hg) (by exact rfl)) ?_
 refine r_op rfl rfl rfl (run_pick_or rfl (by exact rfl) rfl (fun hq => glv (by exact rfl) (fun h => h) hq)) ?_
 refine r_nil ?_
 refine r_cond (by exact rfl) (fun hc3 => ?_) (fun hc3 => ?_)
 ·skip
  refine r_seq ?_
  refine r_region ?_
  refine r_op rfl rfl rfl (run_asg (v := .int _ _) rfl (by exact rfl)) ?_
  refine r_nil ?_
  refine r_ret (res1 (v := .int _ _) rfl (by exact rfl)) ?_
  exact ⟨ret_int (by rw [val_limit (by assumption)]), hV⟩
 ·skip
  refine r_skip ?_
  refine r_seq ?_
  refine r_seq ?_
  refine r_region ?_
  refine r_op rfl rfl rfl (run_mv (v := .slice _ _ _) rfl (by exact rfl)) ?_
  refine r_op rfl rfl rfl (run_lenSl rfl (by exact rfl) Try.underlying30) ?_
  refine r_op rfl rfl rfl (run_mv (v := .int _ _) rfl (by exact rfl)) ?_
  refine r_nil ?_
  refine r_block ?_
  refine r_loop (α := Nat) [2, 3, 4, 15, 16, 17, 18, 19, 20, 21, 22, 23, 24, 25, 26, 27, 28, 29] (fun k g w => g 15 = .int .i64 (k : Nat) ∧ k ≤ f.length ∧ validateL f = valGo (f.take k) (f.drop k) ∧ w1.heap.size ≤ w.heap.size ∧ Evo w0 w []) (fun k => f.length - k) 0 ?_ ?_
  ·refine ⟨(by first | exact rfl | exact congrArg (Value.int _) (by omega) | exact congrArg (Value.int _) (by dsimp only; omega) | exact congrArg (Value.int _) (by simp) | exact congrArg S (by simp)), (by first | assumption | omega | (dsimp only; omega) | (simp; done)), (by rw [val_start (by omega)]; rfl), (by first | assumption | omega | (dsimp only; omega) | (simp; done)), hV⟩
  ·rintro k g w5 ⟨hj6, hk_k, hv, hzl4, hV⟩
   have hs_w5hV := hV.size
   replace hf := hf0 _ hV
   refine r_know (i := 15) (v := .int .i64 (k : Nat)) (by exact hj6) ?_
   refine r_seq ?_
   refine r_region ?_
   refine r_op rfl rfl rfl (run_lss rfl (by exact rfl) (by exact rfl)) ?_
   refine r_nil ?_
   refine r_seq ?_
   refine r_cond (by exact rfl) (fun hc7 => ?_) (fun hc7 => ?_)
   ·skip
    refine r_skip ?_
    refine r_seq ?_
    refine r_block ?_
    refine r_seq ?_
    refine r_region ?_
    refine r_op rfl rfl rfl (run_mv (v := .int _ _) rfl (by exact rfl)) ?_
    refine r_op rfl rfl rfl (run_asg (v := .int _ _) rfl (by exact rfl)) ?_
    refine r_nil ?_
    refine r_seq ?_
    refine r_qregion (by kernel_rfl) (by kernel_rfl) ?_
    refine q_op rfl rfl rfl (fun w' hC => run_mv (v := .slice _ _ _) rfl (by exact rfl)) ?_
    refine q_op rfl rfl rfl (fun w' hC => run_mv (v := .int _ _) rfl (by exact rfl)) ?_
    refine q_op rfl rfl rfl (fun w' hC => run_slE (0) (k) rfl Try.underlying30 ty_26 (by exact rfl) (hf.evo0 hC) lo0 (at1 (by exact rfl) (by omega)) (by first | omega | (simp; omega)) (by first | omega | (simp; omega)) List.drop_zero) ?_
    have hS80 := fun (w' : World) (h : Evo w0 w' []) => (by have h9 := ((hf0 w' h).take (k)).drop (0); rw [List.drop_zero] at h9; exact h9)
    have hS8 := (by have h9 := (hf.take (k)).drop (0); rw [List.drop_zero] at h9; exact h9)
    have hbd_hS8 := hS8.bd
    refine q_op rfl rfl rfl (fun w' hC => run_mv (v := .slice _ _ _) rfl (by exact rfl)) ?_
    refine q_op rfl rfl rfl (fun w' hC => run_mv (v := .int _ _) rfl (by exact rfl)) ?_
    refine q_op rfl rfl rfl (fun w' hC => run_ix (k) rfl Try.underlying30 ty_26 (by exact rfl) (by exact rfl) (by first | exact rfl | omega) (by omega) (hf.addr (i := k) (by omega))) ?_
    have hA90 := fun (w' : World) (h : Evo w0 w' []) => (hf0 w' h).atD (k) (by omega)
    have hA9 := hA90 _ hV
    refine q_op rfl rfl rfl (fun w' hC => run_ldN rfl ag_26 ty_26 (by exact rfl) rfl (hA9.evo0 hC)) ?_
    refine q_call rfl rfl rfl (fun w' hC => run_callf rfl (argcons (v := .slice _ _ _) (by exact rfl) (argcons (v := .agg _) (by exact rfl) (rfl))) Try.func67 rfl (by kernel_rfl)) (fun w' hC => (check_calls (hS8.evo0 hC) (by first | assumption | exact small_take (by assumption) _)).mono (fun e w'' h => ⟨h.1, evo_step0 hC h.2⟩)) ?_
    refine q_op rfl rfl rfl (fun w' hC => run_asg (v := .int _ _) rfl (by exact rfl)) ?_
    refine q_nil (fun w10 hE11 => ?_)
    have hs_w10 := (hE11).size
    replace hV := evo_step0 hV hE11
    replace hf := hf0 _ hV
    refine r_seq ?_
    refine r_region ?_
    refine r_op rfl rfl rfl (run_mv (v := .int _ _) rfl (by exact rfl)) ?_
    refine r_op rfl rfl rfl (run_neq rfl (by exact rfl) (by exact rfl)) ?_
    refine r_nil ?_
    refine r_cond (by exact rfl) (fun hc12 => ?_) (fun hc12 => ?_)
    ·skip
     refine r_seq ?_
     refine r_region ?_
     refine r_op rfl rfl rfl (run_mv (v := .int _ _) rfl (by exact rfl)) ?_
     refine r_op rfl rfl rfl (run_asg (v := .int _ _) rfl (by exact rfl)) ?_
     refine r_nil ?_
     refine r_ret (res1 (v := .int _ _) rfl (by exact rfl)) ?_
     exact ⟨ret_int (by rw [hv, val_no (by omega) hc12]), hV⟩
    ·skip
     refine r_skip ?_
     refine r_blk ?_
     refine r_region ?_
     refine r_op rfl rfl rfl (run_add rfl (by exact rfl) (by exact rfl) (by omega) (by omega)) ?_
     refine r_op rfl rfl rfl (run_mv (v := .int _ _) rfl (by exact rfl)) ?_
     refine r_nil ?_
     refine r_again (k + 1) ?_ ?_ ?_
     ·first | omega | (dsimp only; omega)
     ·refine ⟨(by first | exact rfl | exact congrArg (Value.int _) (by omega) | exact congrArg (Value.int _) (by dsimp only; omega) | exact congrArg (Value.int _) (by simp) | exact congrArg S (by simp)), (by first | assumption | omega | (dsimp only; omega) | (simp; done)), (by rw [hv, val_ok (by omega) (Classical.not_not.1 hc12)]), (by first | assumption | omega | (dsimp only; omega) | (simp; done)), hV⟩
     ·repeat (first | (with_reducible exact Agree.merge _ _ _) | (with_reducible exact Agree.refl _ _) | (with_reducible refine Agree.upd ?_ _ _ rfl) | ((with_reducible refine Agree.inner ?_ ?_); (kernel_rfl)))
   ·skip
    refine r_exit rfl ?_
    refine r_seq ?_
    refine r_region ?_
    refine r_op rfl rfl rfl (run_asg (v := .int _ _) rfl (by exact rfl)) ?_
    refine r_nil ?_
    refine r_ret (res1 (v := .int _ _) rfl (by exact rfl)) ?_
    exact ⟨ret_int (by rw [hv, val_end (by omega)]), hV⟩

theorem validate_calls {ao : Option Addr} {b off cap : Nat} {f : List Vc.Item} {w0 : World} (hf : RowE w0 ao b off cap f) (hsm : Small f) :
    Calls Try.prog 19 #[.slice ao f.length cap] w0 fun e w' => e = .returned (.int .i64 (validateL f)) ∧ Evo w0 w' [] := by
 have hs1 := hsm.1; have hs2 := hsm.2
 refine calls_enter (n := 35) (args := [.slice ao f.length cap]) Try.func19 rfl Try.ntmps19 rfl ?_
 have hV : Evo w0 w0 [] := Evo.refl _ _
 have hf0 := keepE hf
 have hbd_hf := hf.bd
 refine r_seq ?_
 refine r_region ?_
 refine r_op rfl rfl rfl (run_asg (v := .int _ _) rfl (by exact rfl)) ?_
 refine r_nil ?_
 refine r_seq ?_
 refine r_seq ?_
 refine r_region ?_
 refine r_op rfl rfl rfl (run_mv (v := .slice _ _ _) rfl (by exact rfl)) ?_
 refine r_op rfl rfl rfl (run_lenSl rfl (by exact rfl) Try.underlying30) ?_
 refine r_op rfl rfl rfl (run_gtr rfl (by exact rfl) (by exact rfl)) ?_
 refine r_op rfl rfl rfl (run_mv (v := .bool _) rfl (by exact rfl)) ?_
 refine r_g rfl (wantF (by exact rfl)) rfl (fun hg => run_mv (v := .slice _ _ _) rfl (by exact rfl)) ?_
 refine r_gcall rfl (wantF (by exact rfl)) rfl (fun hg => run_callf rfl (argcons (v := .slice _ _ _) (glv (by exact rfl) (fun h => h) hg) (rfl)) Try.func25 rfl (by kernel_rfl)) (fun hg => (length_calls hf (by assumption)).mono (fun e w' h => ⟨h.1, h.2⟩)) (fun w1 hE2 => ?_)
 have hs_w1 := (hE2).size
 replace hV := evo_step0 hV hE2
 replace hf := hf0 _ hV
 refine r_g rfl (wantF (by exact rfl)) rfl (fun hg => run_gtr rfl (glv (by exact rfl) (fun h => h) hg) (by exact rfl)) ?_
 refine r_op rfl rfl rfl (run_pick_or rfl (by exact rfl) rfl (fun hq => glv (by exact rfl) (fun h => h) hq)) ?_
 refine r_nil ?_
 refine r_cond (by exact rfl) (fun hc3 => ?_) (fun hc3 => ?_)
 ·skip
  refine r_seq ?_
  refine r_region ?_
  refine r_op rfl rfl rfl (run_asg (v := .int _ _) rfl (by exact rfl)) ?_
  refine r_nil ?_
  refine r_ret (res1 (v := .int _ _) rfl (by exact rfl)) ?_
  exact ⟨ret_int (by rw [val_limit (by assumption)]), hV⟩
 ·skip
  refine r_skip ?_
  refine r_seq ?_
  refine r_seq ?_
  refine r_region ?_
  refine r_op rfl rfl rfl (run_mv (v := .slice _ _ _) rfl (by exact rfl)) ?_
  refine r_op rfl rfl rfl (run_lenSl rfl (by exact rfl) Try.underlying30) ?_
  refine r_op rfl rfl rfl (run_mv (v := .int _ _) rfl (by exact rfl)) ?_
  refine r_nil ?_
  refine r_block ?_
  refine r_loop (α := Nat) [2, 3, 4, 15, 16, 17, 18, 19, 20, 21, 22, 23, 24, 25, 26, 27, 28, 29, 30, 31, 32, 33, 34] (fun k g w => g 15 = .int .i64 (k : Nat) ∧ k ≤ f.length ∧ validateL f = valGo (f.take k) (f.drop k) ∧ w1.heap.size ≤ w.heap.size ∧ Evo w0 w []) (fun k => f.length - k) 0 ?_ ?_
  ·refine ⟨(by first | exact rfl | exact congrArg (Value.int _) (by omega) | exact congrArg (Value.int _) (by dsimp only; omega) | exact congrArg (Value.int _) (by simp) | exact congrArg S (by simp)), (by first | assumption | omega | (dsimp only; omega) | (simp; done)), (by rw [val_start (by omega)]; rfl), (by first | assumption | omega | (dsimp only; omega) | (simp; done)), hV⟩
  ·rintro k g w5 ⟨hj6, hk_k, hv, hzl4, hV⟩
   have hs_w5hV := hV.size
   replace hf := hf0 _ hV
   refine r_know (i := 15) (v := .int .i64 (k : Nat)) (by exact hj6) ?_
   refine r_seq ?_
   refine r_region ?_
   refine r_op rfl rfl rfl (run_lss rfl (by exact rfl) (by exact rfl)) ?_
   refine r_nil ?_
   refine r_seq ?_
   refine r_cond (by exact rfl) (fun hc7 => ?_) (fun hc7 => ?_)
   ·skip
    refine r_skip ?_
    refine r_seq ?_
    refine r_block ?_
    refine r_seq ?_
    refine r_region ?_
    refine r_op rfl rfl rfl (run_mv (v := .int _ _) rfl (by exact rfl)) ?_
    refine r_op rfl rfl rfl (run_ix (k) rfl Try.underlying30 ty_26 (by exact rfl) (by exact rfl) (by first | exact rfl | omega) (by omega) (hf.addr (i := k) (by omega))) ?_
    have hA80 := fun (w' : World) (h : Evo w0 w' []) => (hf0 w' h).atD (k) (by omega)
    have hA8 := hA80 _ hV
    refine r_op rfl rfl rfl (run_ldN rfl ag_26 ty_26 (by exact rfl) rfl hA8) ?_
    refine r_alloc (zs := [_, _, _]) ty_26 (by exact rfl) rfl ?_
    intro b9 w10 heb9 hEw10 hbb9 hzb9
    have hs_w10 := (hEw10).size
    replace hV := evo_step0 hV hEw10
    replace hf := hf0 _ hV
    replace hA8 := hA80 _ hV
    have hAb9 := hbb9.at
    refine r_op rfl rfl rfl (run_asg (v := .int _ _) rfl (by exact rfl)) ?_
    refine r_store (v := .agg _) (vs := [_, _, _]) (cs' := [_, _, _]) (by exact rfl) (by exact rfl) hbb9 ty_26 (by exact rfl) rfl (by exact rfl) rfl (by exact rfl) ?_
    intro w11 hEw11 hzw11 hb_new
    have hs_w11 := (hEw11).size
    replace hV := evo_step1 hV hEw11 (by first | exact .inl (by omega) | exact .inr (by simp))
    replace hf := hf0 _ hV
    replace hbb9 := hb_new
    have hAb9 := hbb9.at
    clear hb_new
    refine r_nil ?_
    refine r_seq ?_
    refine r_seq ?_
    refine r_region ?_
    refine r_op rfl rfl rfl (run_mv (v := .slice _ _ _) rfl (by exact rfl)) ?_
    refine r_op rfl rfl rfl (run_mv (v := .int _ _) rfl (by exact rfl)) ?_
    refine r_opcall rfl rfl rfl (run_callf (vs := [.slice _ _ _, .int _ _]) rfl (by exact rfl) Try.func64 rfl (by kernel_rfl)) (wellformed_calls hf (by omega)) ?_
    rintro e w12 ⟨rfl, hE12⟩
    refine ⟨_, rfl, ?_⟩
    have hs_w12 := (hE12).size
    replace hV := evo_step0 hV hE12
    replace hf := hf0 _ hV
    replace hbb9 := hbb9.evo0 hE12
    replace hAb9 := hAb9.evo0 hE12
    refine r_op rfl rfl rfl (run_notb rfl (by exact rfl)) ?_
    refine r_nil ?_
    refine r_condb (by exact rfl) (fun hc13 => ?_) (fun hc13 => ?_)
    ·skip
     have hfo : ¬ formed (f.take k) (f.getD k default) = true := by simpa using hc13
     refine r_seq ?_
     refine r_region ?_
     refine r_op rfl rfl rfl (run_asg (v := .int _ _) rfl (by exact rfl)) ?_
     refine r_nil ?_
     refine r_ret (res1 (v := .int _ _) rfl (by exact rfl)) ?_
     exact ⟨ret_int (by rw [hv, val_no (by omega) (by rw [check_bad hfo]; decide), check_bad hfo]), hV⟩
    ·skip
     have hfo : formed (f.take k) (f.getD k default) = true := by simpa using hc13
     refine r_skip ?_
     refine r_seq ?_
     refine r_qregion (by kernel_rfl) (by kernel_rfl) ?_
     refine q_op rfl rfl rfl (fun w' hC => run_ldN rfl ag_26 ty_26 (by exact rfl) rfl (hAb9.evo0 hC)) ?_
     refine q_call rfl rfl rfl (fun w' hC => run_callf rfl (argcons (v := .agg _) (by exact rfl) (rfl)) Try.func65 rfl (by kernel_rfl)) (fun w' hC => (istag_calls ).mono (fun e w'' h => ⟨h.1, evo_step0 hC h.2⟩)) ?_
     refine q_op rfl rfl rfl (fun w' hC => run_mvb rfl (by exact rfl)) ?_
     refine q_g rfl (wantT (by exact rfl)) rfl (fun hg w' hC => run_mv (v := .slice _ _ _) rfl (by exact rfl)) ?_
     refine q_g rfl (wantT (by exact rfl)) rfl (fun hg w' hC => run_mv (v := .int _ _) rfl (by exact rfl)) ?_
     refine q_g rfl (wantT (by exact rfl)) rfl (fun hg w' hC => run_slE (0) (k) rfl Try.underlying30 ty_26 (glv (by exact rfl) (fun h => h) hg) (hf.evo0 hC) lo0 (at1 (glv (by exact rfl) (fun h => h) hg) (by omega)) (by first | omega | (simp; omega)) (by first | omega | (simp; omega)) List.drop_zero) ?_
     have hS140 := fun (w' : World) (h : Evo w0 w' []) => (by have h9 := ((hf0 w' h).take (k)).drop (0); rw [List.drop_zero] at h9; exact h9)
     have hS14 := (by have h9 := (hf.take (k)).drop (0); rw [List.drop_zero] at h9; exact h9)
     have hbd_hS14 := hS14.bd
     refine q_g rfl (wantT (by exact rfl)) rfl (fun hg w' hC => run_ldN rfl ag_26 ty_26 (by exact rfl) rfl (hAb9.evo0 hC)) ?_
     refine q_gcall rfl (wantT (by exact rfl)) rfl (fun hg w' hC => run_callf rfl (argcons (v := .slice _ _ _) (glv (by exact rfl) (fun h => h) hg) (argcons (v := .agg _) (glv (by exact rfl) (fun h => h) hg) (rfl))) Try.func66 rfl (by kernel_rfl)) (fun hg w' hC => (fits_calls (hS14.evo0 hC) (by first | assumption | exact small_take (by assumption) _)).mono (fun e w'' h => ⟨h.1, evo_step0 hC h.2⟩)) ?_
     refine q_g rfl (wantT (by exact rfl)) rfl (fun hg w' hC => run_notb rfl (glv (by exact rfl) (fun h => h) hg)) ?_
     refine q_op rfl rfl rfl (fun w' hC => run_pick_andB rfl (by exact rfl) (fun hq => glv (by exact rfl) (fun h => h) hq) rfl) ?_
     refine q_nil (fun w15 hE16 => ?_)
     have hs_w15 := (hE16).size
     replace hV := evo_step0 hV hE16
     replace hf := hf0 _ hV
     refine r_cond (by exact rfl) (fun hc17 => ?_) (fun hc17 => ?_)
     ·skip
      refine r_seq ?_
      refine r_region ?_
      refine r_op rfl rfl rfl (run_asg (v := .int _ _) rfl (by exact rfl)) ?_
      refine r_nil ?_
      refine r_ret (res1 (v := .int _ _) rfl (by exact rfl)) ?_
      exact ⟨ret_int (by rw [hv, val_no (by omega) (by rw [check_tag hfo hc17.1 (by simpa using hc17.2)]; decide), check_tag hfo hc17.1 (by simpa using hc17.2)]), hV⟩
     ·skip
      refine r_skip ?_
      refine r_blk ?_
      refine r_region ?_
      refine r_op rfl rfl rfl (run_add rfl (by exact rfl) (by exact rfl) (by omega) (by omega)) ?_
      refine r_op rfl rfl rfl (run_mv (v := .int _ _) rfl (by exact rfl)) ?_
      refine r_nil ?_
      refine r_again (k + 1) ?_ ?_ ?_
      ·first | omega | (dsimp only; omega)
      ·refine ⟨(by first | exact rfl | exact congrArg (Value.int _) (by omega) | exact congrArg (Value.int _) (by dsimp only; omega) | exact congrArg (Value.int _) (by simp) | exact congrArg S (by simp)), (by first | assumption | omega | (dsimp only; omega) | (simp; done)), (by rw [hv, val_ok (by omega) (check_ok hfo (by simpa using hc17))]), (by first | assumption | omega | (dsimp only; omega) | (simp; done)), hV⟩
      ·repeat (first | (with_reducible exact Agree.merge _ _ _) | (with_reducible exact Agree.refl _ _) | (with_reducible refine Agree.upd ?_ _ _ rfl) | ((with_reducible refine Agree.inner ?_ ?_); (kernel_rfl)))
   ·skip
    refine r_exit rfl ?_
    refine r_seq ?_
    refine r_region ?_
    refine r_op rfl rfl rfl (run_asg (v := .int _ _) rfl (by exact rfl)) ?_
    refine r_nil ?_
    refine r_ret (res1 (v := .int _ _) rfl (by exact rfl)) ?_
    exact ⟨ret_int (by rw [hv, val_end (by omega)]), hV⟩

theorem take_bothI {α : Type} [Inhabited α] {a b : List α} {k : Nat} (hp : a.take k = b.take k) (ha : k < a.length) (hb : k < b.length) (h : a.getD k default = b.getD k default) : a.take (k + 1) = b.take (k + 1) := by
  rw [take_succD a k ha, take_succD b k hb, hp, h]

theorem same_calls {aoa aob : Option Addr} {ba offa capa bb offb capb : Nat} {a b : List Vc.Item} {w0 : World} (ha : RowE w0 aoa ba offa capa a) (hb : RowE w0 aob bb offb capb b) :
    Calls Try.prog 31 #[.slice aoa a.length capa, .slice aob b.length capb] w0 fun e w' => e = .returned (.bool (decide (a = b))) ∧ Evo w0 w' [] := by
 refine calls_enter (n := 26) (args := [.slice aoa a.length capa, .slice aob b.length capb]) Try.func31 rfl Try.ntmps31 rfl ?_
 have hV : Evo w0 w0 [] := Evo.refl _ _
 have ha0 := keepE ha
 have hbd_ha := ha.bd
 have hb0 := keepE hb
 have hbd_hb := hb.bd
 refine r_seq ?_
 refine r_region ?_
 refine r_op rfl rfl rfl (run_asg (v := .bool _) rfl (by exact rfl)) ?_
 refine r_nil ?_
 refine r_seq ?_
 refine r_seq ?_
 refine r_region ?_
 refine r_op rfl rfl rfl (run_mv (v := .slice _ _ _) rfl (by exact rfl)) ?_
 refine r_op rfl rfl rfl (run_lenSl rfl (by exact rfl) Try.underlying30) ?_
 refine r_op rfl rfl rfl (run_mv (v := .slice _ _ _) rfl (by exact rfl)) ?_
 refine r_op rfl rfl rfl (run_lenSl rfl (by exact rfl) Try.underlying30) ?_
 refine r_op rfl rfl rfl (run_neq rfl (by exact rfl) (by exact rfl)) ?_
 refine r_nil ?_
 refine r_cond (by exact rfl) (fun hc1 => ?_) (fun hc1 => ?_)
 ·skip
  refine r_seq ?_
  refine r_region ?_
  refine r_op rfl rfl rfl (run_asg (v := .bool _) rfl (by exact rfl)) ?_
  refine r_nil ?_
  refine r_ret (res1 (v := .bool _) rfl (by exact rfl)) ?_
  exact ⟨by rw [decide_eq_false (fun h => by subst h; omega)], hV⟩
 ·skip
  refine r_skip ?_
  refine r_seq ?_
  refine r_seq ?_
  refine r_region ?_
  refine r_op rfl rfl rfl (run_mv (v := .slice _ _ _) rfl (by exact rfl)) ?_
  refine r_op rfl rfl rfl (run_lenSl rfl (by exact rfl) Try.underlying30) ?_
  refine r_op rfl rfl rfl (run_mv (v := .int _ _) rfl (by exact rfl)) ?_
  refine r_nil ?_
  refine r_block ?_
  refine r_loop (α := Nat) [4, 5, 13, 14, 15, 16, 17, 18, 19, 20, 21, 22, 23, 24, 25] (fun k g w => g 13 = .int .i64 (k : Nat) ∧ k ≤ a.length ∧ a.take k = b.take k ∧ w0.heap.size ≤ w.heap.size ∧ Evo w0 w []) (fun k => a.length - k) 0 ?_ ?_
  ·refine ⟨(by first | exact rfl | exact congrArg (Value.int _) (by omega) | exact congrArg (Value.int _) (by dsimp only; omega) | exact congrArg (Value.int _) (by simp) | exact congrArg S (by simp)), (by first | assumption | omega | (dsimp only; omega) | (simp; done)), (by simp), (by first | assumption | omega | (dsimp only; omega) | (simp; done)), hV⟩
  ·rintro k g w3 ⟨hj4, hk_k, hpre, hzl2, hV⟩
   have hs_w3hV := hV.size
   replace ha := ha0 _ hV
   replace hb := hb0 _ hV
   refine r_know (i := 13) (v := .int .i64 (k : Nat)) (by exact hj4) ?_
   refine r_seq ?_
   refine r_region ?_
   refine r_op rfl rfl rfl (run_lss rfl (by exact rfl) (by exact rfl)) ?_
   refine r_nil ?_
   refine r_seq ?_
   refine r_cond (by exact rfl) (fun hc5 => ?_) (fun hc5 => ?_)
   ·skip
    refine r_skip ?_
    refine r_seq ?_
    refine r_block ?_
    refine r_seq ?_
    refine r_region ?_
    refine r_op rfl rfl rfl (run_mv (v := .int _ _) rfl (by exact rfl)) ?_
    refine r_op rfl rfl rfl (run_asg (v := .int _ _) rfl (by exact rfl)) ?_
    refine r_nil ?_
    refine r_seq ?_
    refine r_qregion (by kernel_rfl) (by kernel_rfl) ?_
    refine q_op rfl rfl rfl (fun w' hC => run_mv (v := .slice _ _ _) rfl (by exact rfl)) ?_
    refine q_op rfl rfl rfl (fun w' hC => run_mv (v := .int _ _) rfl (by exact rfl)) ?_
    refine q_op rfl rfl rfl (fun w' hC => run_ix (k) rfl Try.underlying30 ty_26 (by exact rfl) (by exact rfl) (by first | exact rfl | omega) (by omega) (ha.addr (i := k) (by omega))) ?_
    have hA60 := fun (w' : World) (h : Evo w0 w' []) => (ha0 w' h).atD (k) (by omega)
    have hA6 := hA60 _ hV
    refine q_op rfl rfl rfl (fun w' hC => run_ldN rfl ag_26 ty_26 (by exact rfl) rfl (hA6.evo0 hC)) ?_
    refine q_op rfl rfl rfl (fun w' hC => run_mv (v := .slice _ _ _) rfl (by exact rfl)) ?_
    refine q_op rfl rfl rfl (fun w' hC => run_mv (v := .int _ _) rfl (by exact rfl)) ?_
    refine q_op rfl rfl rfl (fun w' hC => run_ix (k) rfl Try.underlying30 ty_26 (by exact rfl) (by exact rfl) (by first | exact rfl | omega) (by omega) (hb.addr (i := k) (by omega))) ?_
    have hA70 := fun (w' : World) (h : Evo w0 w' []) => (hb0 w' h).atD (k) (by omega)
    have hA7 := hA70 _ hV
    refine q_op rfl rfl rfl (fun w' hC => run_ldN rfl ag_26 ty_26 (by exact rfl) rfl (hA7.evo0 hC)) ?_
    refine q_op rfl rfl rfl (fun w' hC => run_neqI _ _ rfl Try.eqGuardType26 ei_26 (by exact rfl) (by exact rfl)) ?_
    refine q_nil (fun w8 hE9 => ?_)
    have hs_w8 := (hE9).size
    replace hV := evo_step0 hV hE9
    replace ha := ha0 _ hV
    replace hb := hb0 _ hV
    refine r_cond (by exact rfl) (fun hc10 => ?_) (fun hc10 => ?_)
    ·skip
     refine r_seq ?_
     refine r_region ?_
     refine r_op rfl rfl rfl (run_asg (v := .bool _) rfl (by exact rfl)) ?_
     refine r_nil ?_
     refine r_ret (res1 (v := .bool _) rfl (by exact rfl)) ?_
     exact ⟨by rw [decide_eq_false (fun h => by subst h; exact hc10 rfl)], hV⟩
    ·skip
     refine r_skip ?_
     refine r_blk ?_
     refine r_region ?_
     refine r_op rfl rfl rfl (run_add rfl (by exact rfl) (by exact rfl) (by omega) (by omega)) ?_
     refine r_op rfl rfl rfl (run_mv (v := .int _ _) rfl (by exact rfl)) ?_
     refine r_nil ?_
     refine r_again (k + 1) ?_ ?_ ?_
     ·first | omega | (dsimp only; omega)
     ·refine ⟨(by first | exact rfl | exact congrArg (Value.int _) (by omega) | exact congrArg (Value.int _) (by dsimp only; omega) | exact congrArg (Value.int _) (by simp) | exact congrArg S (by simp)), (by first | assumption | omega | (dsimp only; omega) | (simp; done)), (take_bothI hpre (by omega) (by omega) (Classical.not_not.1 hc10)), (by first | assumption | omega | (dsimp only; omega) | (simp; done)), hV⟩
     ·repeat (first | (with_reducible exact Agree.merge _ _ _) | (with_reducible exact Agree.refl _ _) | (with_reducible refine Agree.upd ?_ _ _ rfl) | ((with_reducible refine Agree.inner ?_ ?_); (kernel_rfl)))
   ·skip
    refine r_exit rfl ?_
    refine r_seq ?_
    refine r_region ?_
    refine r_op rfl rfl rfl (run_asg (v := .bool _) rfl (by exact rfl)) ?_
    refine r_nil ?_
    refine r_ret (res1 (v := .bool _) rfl (by exact rfl)) ?_
    exact ⟨by rw [decide_eq_true (by rw [List.take_of_length_le (by omega), List.take_of_length_le (by omega)] at hpre; exact hpre)], hV⟩

theorem slice_calls {ao : Option Addr} {b off cap : Nat} {f : List Vc.Item} {fr to_ : Int} {w0 : World} (hf : RowE w0 ao b off cap f) (hsm : Small f) :
    Calls Try.prog 29 #[.slice ao f.length cap, .int .i64 fr, .int .i64 to_] w0 fun e w' => ∃ v, e = .returned (.tuple #[v, .bool (sliceL f fr to_).2]) ∧ Evo w0 w' [] ∧ OwnE w' w0.heap.size 26 v (sliceL f fr to_).1 := by
 have hs1 := hsm.1; have hs2 := hsm.2
 refine calls_enter (n := 67) (args := [.slice ao f.length cap, .int .i64 fr, .int .i64 to_]) Try.func29 rfl Try.ntmps29 rfl ?_
 have hV : Evo w0 w0 [] := Evo.refl _ _
 have hf0 := keepE hf
 have hbd_hf := hf.bd
 refine r_seq ?_
 refine r_region ?_
 refine r_op rfl rfl rfl (run_asg (v := .slice _ _ _) rfl (by exact rfl)) ?_
 refine r_op rfl rfl rfl (run_asg (v := .bool _) rfl (by exact rfl)) ?_
 refine r_nil ?_
 refine r_seq ?_
 refine r_seq ?_
 refine r_region ?_
 refine r_op rfl rfl rfl (run_mv (v := .int _ _) rfl (by exact rfl)) ?_
 refine r_op rfl rfl rfl (run_lss rfl (by exact rfl) (by exact rfl)) ?_
 refine r_op rfl rfl rfl (run_mv (v := .bool _) rfl (by exact rfl)) ?_
 refine r_g rfl (wantF (by exact rfl)) rfl (fun hg => run_mv (v := .int _ _) rfl (by exact rfl)) ?_
 refine r_g rfl (wantF (by exact rfl)) rfl (fun hg => run_mv (v := .int _ _) rfl (by exact rfl)) ?_
 refine r_g rfl (wantF (by exact rfl)) rfl (fun hg => run_lss rfl (glv (by exact rfl) (fun h => h) hg) (glv (by exact rfl) (fun h => h) hg)) ?_
 refine r_op rfl rfl rfl (run_pick_or rfl (by exact rfl) rfl (fun hq => glv (by exact rfl) (fun h => h) hq)) ?_
 refine r_op rfl rfl rfl (run_mv (v := .bool _) rfl (by exact rfl)) ?_
 refine r_g rfl (wantF (by exact rfl)) rfl (fun hg => run_mv (v := .int _ _) rfl (by exact rfl)) ?_
 refine r_g rfl (wantF (by exact rfl)) rfl (fun hg => run_mv (v := .slice _ _ _) rfl (by exact rfl)) ?_
 refine r_gcall rfl (wantF (by exact rfl)) rfl (fun hg => run_callf rfl (argcons (v := .slice _ _ _) (glv (by exact rfl) (fun h => h) hg) (rfl)) Try.func25 rfl (by kernel_rfl)) (fun hg => (length_calls hf (by assumption)).mono (fun e w' h => ⟨h.1, h.2⟩)) (fun w1 hE2 => ?_)
 have hs_w1 := (hE2).size
 replace hV := evo_step0 hV hE2
 replace hf := hf0 _ hV
 refine r_g rfl (wantF (by exact rfl)) rfl (fun hg => run_gtr rfl (glv (by exact rfl) (fun h => h) hg) (glv (by exact rfl) (fun h => h) hg)) ?_
 refine r_op rfl rfl rfl (run_pick_or rfl (by exact rfl) rfl (fun hq => glv (by exact rfl) (fun h => h) hq)) ?_
 refine r_nil ?_
 refine r_cond (by exact rfl) (fun hc3 => ?_) (fun hc3 => ?_)
 ·skip
  refine r_seq ?_
  refine r_region ?_
  refine r_op rfl rfl rfl (run_asg (v := .slice _ _ _) rfl (by exact rfl)) ?_
  refine r_op rfl rfl rfl (run_asg (v := .bool _) rfl (by exact rfl)) ?_
  refine r_nil ?_
  refine r_ret (res2 (v := .slice _ _ _) (u := .bool _) rfl (by exact rfl) (by exact rfl)) ?_
  exact ⟨_, by unfold sliceL; rw [if_pos (by omega)], hV, by unfold sliceL; rw [if_pos (by omega)]; exact OwnE.nil _ _ _⟩
 ·skip
  refine r_skip ?_
  refine r_seq ?_
  refine r_region ?_
  refine r_op rfl rfl rfl (run_asg (v := .slice _ _ _) rfl (by exact rfl)) ?_
  refine r_nil ?_
  refine r_seq ?_
  refine r_region ?_
  refine r_op rfl rfl rfl (run_asg (v := .int _ _) rfl (by exact rfl)) ?_
  refine r_nil ?_
  refine r_seq ?_
  refine r_seq ?_
  refine r_region ?_
  refine r_op rfl rfl rfl (run_mv (v := .slice _ _ _) rfl (by exact rfl)) ?_
  refine r_op rfl rfl rfl (run_lenSl rfl (by exact rfl) Try.underlying30) ?_
  refine r_op rfl rfl rfl (run_mv (v := .int _ _) rfl (by exact rfl)) ?_
  refine r_nil ?_
  refine r_block ?_
  refine r_loop (α := Nat) [8, 9, 11, 12, 13, 14, 30, 31, 32, 33, 34, 35, 36, 37, 38, 39, 40, 41, 42, 43, 44, 45, 46, 47, 48, 49, 50, 51, 52, 53, 54, 55, 56, 57, 58, 59, 60, 61, 62, 63, 64, 65] (fun k g w => ∃ vo : Value, g 30 = .int .i64 (k : Nat) ∧ g 8 = vo ∧ g 9 = .int .i64 (lengthL (f.take k)) ∧ k ≤ f.length ∧ OwnE w w0.heap.size 26 vo (pieces (f.take k) 0 fr to_) ∧ (pieces (f.take k) 0 fr to_).length ≤ k ∧ w1.heap.size ≤ w.heap.size ∧ Evo w0 w []) (fun k => f.length - k) 0 ?_ ?_
  ·refine ⟨_, (by first | exact rfl | exact congrArg (Value.int _) (by omega) | exact congrArg (Value.int _) (by dsimp only; omega) | exact congrArg (Value.int _) (by simp) | exact congrArg S (by simp)), rfl, rfl, (by first | assumption | omega | (dsimp only; omega) | (simp; done)), (OwnE.nil _ _ _), (by simp [pieces]), (by first | assumption | omega | (dsimp only; omega) | (simp; done)), hV⟩
  ·rintro k g w5 ⟨vo, hj6, hj7, hj8, hk_k, hoo, hlp, hzl4, hV⟩
   have hs_w5hV := hV.size
   replace hf := hf0 _ hV
   refine r_know (i := 30) (v := .int .i64 (k : Nat)) (by exact hj6) ?_
   refine r_know (i := 8) (v := vo) (by exact hj7) ?_
   refine r_know (i := 9) (v := .int .i64 (lengthL (f.take k))) (by exact hj8) ?_
   refine r_seq ?_
   refine r_region ?_
   refine r_op rfl rfl rfl (run_lss rfl (by exact rfl) (by exact rfl)) ?_
   refine r_nil ?_
   refine r_seq ?_
   refine r_cond (by exact rfl) (fun hc9 => ?_) (fun hc9 => ?_)
   ·skip
    refine r_skip ?_
    refine r_seq ?_
    refine r_block ?_
    refine r_seq ?_
    have hobO := fun g hg => (hoo.block (g := g) hg).2
    refine r_region ?_
    refine r_op rfl rfl rfl (run_ix (k) rfl Try.underlying30 ty_26 (by exact rfl) (by exact rfl) (by first | exact rfl | omega) (by omega) (hf.addr (i := k) (by omega))) ?_
    have hA100 := fun (w' : World) (h : Evo w0 w' []) => (hf0 w' h).atD (k) (by omega)
    have hA10 := hA100 _ hV
    refine r_op rfl rfl rfl (run_ldN rfl ag_26 ty_26 (by exact rfl) rfl hA10) ?_
    have hob11 := fun g hg => (hoo.block (g := g) hg).2
    refine r_var (zs := [_, _, _]) (vs := [_, _, _]) ty_26 (by exact rfl) rfl (by exact rfl) (fun _ => rfl) (by exact rfl) rfl rfl (by exact rfl) ?_
    intro b12 w13 heb12 hEw13 hbb12 hzb12
    have hs_w13 := (hEw13).size
    replace hV := evo_step0 hV hEw13
    replace hf := hf0 _ hV
    replace hoo := hoo.evo0 hEw13
    have hAb12 := hbb12.at
    refine r_nil ?_
    refine r_seq ?_
    have hneO : ∀ g, vo.ownBlock = some g → g ≠ b12 := fun g hg h => by have := hobO g hg; omega
    have hb1 := lengthL_le (f.take k); have hb2 := sizeL_take f k; have hb3 := width_bd (f.getD k default); have hb4 := sizeL_at f k; have hb5 : (f.take k).length ≤ f.length := by rw [List.length_take]; omega
    refine r_region ?_
    refine r_op rfl rfl rfl (run_mv (v := .int _ _) rfl (by exact rfl)) ?_
    refine r_op rfl rfl rfl (run_ldN rfl ag_26 ty_26 (by exact rfl) rfl hAb12) ?_
    refine r_opcall rfl rfl rfl (run_callf (vs := [.agg _]) rfl (by exact rfl) Try.func70 rfl (by kernel_rfl)) width_calls ?_
    rintro e w14 ⟨rfl, hE14⟩
    refine ⟨_, rfl, ?_⟩
    have hs_w14 := (hE14).size
    replace hV := evo_step0 hV hE14
    replace hf := hf0 _ hV
    replace hoo := hoo.evo0 hE14
    replace hbb12 := hbb12.evo0 hE14
    replace hAb12 := hAb12.evo0 hE14
    refine r_op rfl rfl rfl (run_add rfl (by exact rfl) (by exact rfl) (by omega) (by omega)) ?_
    refine r_op rfl rfl rfl (run_asg (v := .int _ _) rfl (by exact rfl)) ?_
    refine r_nil ?_
    refine r_seq ?_
    refine r_region ?_
    refine r_op rfl rfl rfl (run_mv (v := .int _ _) rfl (by exact rfl)) ?_
    refine r_op rfl rfl rfl (run_mv (v := .int _ _) rfl (by exact rfl)) ?_
    refine r_op rfl rfl rfl (run_max rfl (by exact rfl) (by exact rfl)) ?_
    refine r_op rfl rfl rfl (run_mv (v := .int _ _) rfl (by exact rfl)) ?_
    refine r_op rfl rfl rfl (run_mv (v := .int _ _) rfl (by exact rfl)) ?_
    refine r_op rfl rfl rfl (run_min rfl (by exact rfl) (by exact rfl)) ?_
    refine r_op rfl rfl rfl (run_asg (v := .int _ _) rfl (by exact rfl)) ?_
    refine r_op rfl rfl rfl (run_asg (v := .int _ _) rfl (by exact rfl)) ?_
    refine r_nil ?_
    refine r_seq ?_
    refine r_seq ?_
    refine r_region ?_
    refine r_op rfl rfl rfl (run_mv (v := .int _ _) rfl (by exact rfl)) ?_
    refine r_op rfl rfl rfl (run_mv (v := .int _ _) rfl (by exact rfl)) ?_
    refine r_op rfl rfl rfl (run_lss rfl (by exact rfl) (by exact rfl)) ?_
    refine r_nil ?_
    refine r_cond (by exact rfl) (fun hc15 => ?_) (fun hc15 => ?_)
    ·skip
     refine r_seq ?_
     refine r_seq ?_
     refine r_region ?_
     refine r_op rfl rfl rfl (run_fa rfl (by exact rfl) fo_26_0) ?_
     refine r_op rfl rfl rfl (run_ld1 rfl ag_3 (by exact rfl) (hAb12.cell 0 (by exact rfl))) ?_
     refine r_op rfl rfl rfl (run_eql rfl (by exact rfl) (by exact rfl)) ?_
     refine r_nil ?_
     refine r_cond (by exact rfl) (fun hc16 => ?_) (fun hc16 => ?_)
     ·skip
      have hwt := width_text (x := (f.getD k default)) (by assumption)
      refine r_region ?_
      refine r_op rfl rfl rfl (run_fa rfl (by exact rfl) fo_26_1) ?_
      refine r_op rfl rfl rfl (run_ld1 rfl ag_9 (by exact rfl) (hAb12.cell 1 (by exact rfl))) ?_
      refine r_op rfl rfl rfl (run_mv (v := .int _ _) rfl (by exact rfl)) ?_
      refine r_op rfl rfl rfl (run_mv (v := .int _ _) rfl (by exact rfl)) ?_
      refine r_op rfl rfl rfl (run_sub rfl (by exact rfl) (by exact rfl) (by omega) (by omega)) ?_
      refine r_op rfl rfl rfl (run_mv (v := .int _ _) rfl (by exact rfl)) ?_
      refine r_op rfl rfl rfl (run_mv (v := .int _ _) rfl (by exact rfl)) ?_
      refine r_op rfl rfl rfl (run_sub rfl (by exact rfl) (by exact rfl) (by omega) (by omega)) ?_
      refine r_op rfl rfl rfl (by exact run_slS ((max fr (lengthL (f.take k)) - (lengthL (f.take k))).toNat) ((min to_ ((lengthL (f.take k)) + widthL (f.getD k default)) - (lengthL (f.take k))).toNat) rfl Try.underlying9 (by exact rfl) (at1 (by exact rfl) (by omega)) (at1 (by exact rfl) (by omega)) (by first | omega | (simp; omega)) (by first | omega | (simp; omega))) ?_
      refine r_op rfl rfl rfl (run_fa rfl (by exact rfl) fo_26_1) ?_
      refine r_store (v := S _) (vs := [_]) (cs' := [_, _, _]) (by exact rfl) (by exact rfl) hbb12 ty_9 (by exact rfl) rfl (by exact rfl) rfl (by exact rfl) ?_
      intro w17 hEw17 hzw17 hb_new
      have hs_w17 := (hEw17).size
      replace hV := evo_step1 hV hEw17 (by first | exact .inl (by omega) | exact .inr (by simp))
      replace hf := hf0 _ hV
      replace hoo := hoo.evo hEw17 (by intro g hg hm; simp at hm; subst hm; exact hneO _ hg rfl)
      replace hbb12 := hb_new
      have hAb12 := hbb12.at
      clear hb_new
      refine r_nil ?_
      refine r_region ?_
      refine r_op rfl rfl rfl (run_mv (v := vo) rfl (by exact rfl)) ?_
      refine r_op rfl rfl rfl (run_ldN rfl ag_26 ty_26 (by exact rfl) rfl hAb12) ?_
      refine r_append1E (u := .agg _) (y := ⟨_, _, _⟩) rfl rfl Try.underlying30 ty_26 (by exact rfl) hoo (fun _ => (by exact rfl)) (by exact rfl) (by first | exact rfl | (show _ = List.toArray [_, _, _]; first | (dsimp only; done) | exact rfl | (dsimp only; exact rfl))) ((by first | omega | (simp; omega))) ((by first | omega | (simp; omega))) (by omega) ?_
      intro q_v18 v18 w19 hEw19 hov18 hlv18
      have hs_w19 := (hEw19).size
      replace hV := evo_stepo hV hEw19 (fun g hg => .inl (by first | exact (hoo.block hg).1 | (have := hoo.block hg; omega)))
      replace hf := hf0 _ hV
      refine r_op rfl rfl rfl (run_asg (v := v18) rfl (by exact rfl)) ?_
      refine r_nil ?_
      refine r_region ?_
      refine r_op rfl rfl rfl (run_mv (v := .int _ _) rfl (by exact rfl)) ?_
      refine r_op rfl rfl rfl (run_asg (v := .int _ _) rfl (by exact rfl)) ?_
      refine r_nil ?_
      refine r_blk ?_
      refine r_region ?_
      refine r_op rfl rfl rfl (run_add rfl (by exact rfl) (by exact rfl) (by omega) (by omega)) ?_
      refine r_op rfl rfl rfl (run_mv (v := .int _ _) rfl (by exact rfl)) ?_
      refine r_nil ?_
      refine r_again (k + 1) ?_ ?_ ?_
      ·first | omega | (dsimp only; omega)
      ·refine ⟨_, (by first | exact rfl | exact congrArg (Value.int _) (by omega) | exact congrArg (Value.int _) (by dsimp only; omega) | exact congrArg (Value.int _) (by simp) | exact congrArg S (by simp)), rfl, (congrArg (Value.int _) (lengthL_succ f k (by omega)).symm), (by first | assumption | omega | (dsimp only; omega) | (simp; done)), (by first | (rw [pieces_succ f k fr to_ (by omega), piece_text (by assumption) (by assumption)]; exact hov18) | (rw [pieces_succ f k fr to_ (by omega), piece_other (by assumption) (by assumption)]; exact hov18) | (rw [pieces_succ f k fr to_ (by omega), piece_none (by assumption), List.append_nil]; exact hov18)), (pieces_len f (k + 1) fr to_), (by first | assumption | omega | (dsimp only; omega) | (simp; done)), hV⟩
      ·repeat (first | (with_reducible exact Agree.merge _ _ _) | (with_reducible exact Agree.refl _ _) | (with_reducible refine Agree.upd ?_ _ _ rfl) | ((with_reducible refine Agree.inner ?_ ?_); (kernel_rfl)))
     ·skip
      refine r_skip ?_
      refine r_region ?_
      refine r_op rfl rfl rfl (run_mv (v := vo) rfl (by exact rfl)) ?_
      refine r_op rfl rfl rfl (run_ldN rfl ag_26 ty_26 (by exact rfl) rfl hAb12) ?_
      refine r_append1E (u := .agg _) (y := ⟨_, _, _⟩) rfl rfl Try.underlying30 ty_26 (by exact rfl) hoo (fun _ => (by exact rfl)) (by exact rfl) (by first | exact rfl | (show _ = List.toArray [_, _, _]; first | (dsimp only; done) | exact rfl | (dsimp only; exact rfl))) ((by first | omega | (simp; omega))) ((by first | omega | (simp; omega))) (by omega) ?_
      intro q_v20 v20 w21 hEw21 hov20 hlv20
      have hs_w21 := (hEw21).size
      replace hV := evo_stepo hV hEw21 (fun g hg => .inl (by first | exact (hoo.block hg).1 | (have := hoo.block hg; omega)))
      replace hf := hf0 _ hV
      refine r_op rfl rfl rfl (run_asg (v := v20) rfl (by exact rfl)) ?_
      refine r_nil ?_
      refine r_region ?_
      refine r_op rfl rfl rfl (run_mv (v := .int _ _) rfl (by exact rfl)) ?_
      refine r_op rfl rfl rfl (run_asg (v := .int _ _) rfl (by exact rfl)) ?_
      refine r_nil ?_
      refine r_blk ?_
      refine r_region ?_
      refine r_op rfl rfl rfl (run_add rfl (by exact rfl) (by exact rfl) (by omega) (by omega)) ?_
      refine r_op rfl rfl rfl (run_mv (v := .int _ _) rfl (by exact rfl)) ?_
      refine r_nil ?_
      refine r_again (k + 1) ?_ ?_ ?_
      ·first | omega | (dsimp only; omega)
      ·refine ⟨_, (by first | exact rfl | exact congrArg (Value.int _) (by omega) | exact congrArg (Value.int _) (by dsimp only; omega) | exact congrArg (Value.int _) (by simp) | exact congrArg S (by simp)), rfl, (congrArg (Value.int _) (lengthL_succ f k (by omega)).symm), (by first | assumption | omega | (dsimp only; omega) | (simp; done)), (by first | (rw [pieces_succ f k fr to_ (by omega), piece_text (by assumption) (by assumption)]; exact hov20) | (rw [pieces_succ f k fr to_ (by omega), piece_other (by assumption) (by assumption)]; exact hov20) | (rw [pieces_succ f k fr to_ (by omega), piece_none (by assumption), List.append_nil]; exact hov20)), (pieces_len f (k + 1) fr to_), (by first | assumption | omega | (dsimp only; omega) | (simp; done)), hV⟩
      ·repeat (first | (with_reducible exact Agree.merge _ _ _) | (with_reducible exact Agree.refl _ _) | (with_reducible refine Agree.upd ?_ _ _ rfl) | ((with_reducible refine Agree.inner ?_ ?_); (kernel_rfl)))
    ·skip
     refine r_skip ?_
     refine r_region ?_
     refine r_op rfl rfl rfl (run_mv (v := .int _ _) rfl (by exact rfl)) ?_
     refine r_op rfl rfl rfl (run_asg (v := .int _ _) rfl (by exact rfl)) ?_
     refine r_nil ?_
     refine r_blk ?_
     refine r_region ?_
     refine r_op rfl rfl rfl (run_add rfl (by exact rfl) (by exact rfl) (by omega) (by omega)) ?_
     refine r_op rfl rfl rfl (run_mv (v := .int _ _) rfl (by exact rfl)) ?_
     refine r_nil ?_
     refine r_again (k + 1) ?_ ?_ ?_
     ·first | omega | (dsimp only; omega)
     ·refine ⟨_, (by first | exact rfl | exact congrArg (Value.int _) (by omega) | exact congrArg (Value.int _) (by dsimp only; omega) | exact congrArg (Value.int _) (by simp) | exact congrArg S (by simp)), rfl, (congrArg (Value.int _) (lengthL_succ f k (by omega)).symm), (by first | assumption | omega | (dsimp only; omega) | (simp; done)), (by first | (rw [pieces_succ f k fr to_ (by omega), piece_text (by assumption) (by assumption)]; exact hoo) | (rw [pieces_succ f k fr to_ (by omega), piece_other (by assumption) (by assumption)]; exact hoo) | (rw [pieces_succ f k fr to_ (by omega), piece_none (by assumption), List.append_nil]; exact hoo)), (pieces_len f (k + 1) fr to_), (by first | assumption | omega | (dsimp only; omega) | (simp; done)), hV⟩
     ·repeat (first | (with_reducible exact Agree.merge _ _ _) | (with_reducible exact Agree.refl _ _) | (with_reducible refine Agree.upd ?_ _ _ rfl) | ((with_reducible refine Agree.inner ?_ ?_); (kernel_rfl)))
   ·skip
    refine r_exit rfl ?_
    refine r_seq ?_
    refine r_region ?_
    refine r_op rfl rfl rfl (run_mv (v := vo) rfl (by exact rfl)) ?_
    refine r_op rfl rfl rfl (run_asg (v := vo) rfl (by exact rfl)) ?_
    refine r_op rfl rfl rfl (run_asg (v := .bool _) rfl (by exact rfl)) ?_
    refine r_nil ?_
    refine r_ret (res2 (v := vo) (u := .bool _) rfl (by exact rfl) (by exact rfl)) ?_
    exact ⟨_, by unfold sliceL; rw [if_neg (by omega)], hV, by unfold sliceL; rw [if_neg (by omega)]; rw [List.take_of_length_le (by omega)] at hoo; exact hoo⟩

end Go.Proofs.Ytkdgoghmkmpfnaa
