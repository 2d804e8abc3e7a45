import Derived.Test.YthfahceagabhiaaW9
import Derived.Test.YthfahceagabhiaaPs
namespace Go.Proofs.Ythfahceagabhiaa
open Go.RowKit Go.Vc
theorem fo_39_0 : fieldP Try.prog 39 0 = some 0 := by kernel_rfl
theorem fo_39_1 : fieldP Try.prog 39 1 = some 1 := by kernel_rfl
theorem fo_41_0 : fieldP Try.prog 41 0 = some 0 := by kernel_rfl
theorem fo_41_1 : fieldP Try.prog 41 1 = some 2 := by kernel_rfl
theorem known_callsD {w0 : World} : Calls Try.prog 12 #[] w0 fun e w' => e = .returned (.bool (decide True)) ∧ Evo w0 w' [] := known_calls.mono fun e w' h => ⟨by rw [h.1]; rfl, h.2⟩

theorem self_law {aol aom : Option Addr} {bl offl capl bm offm capm : Nat} {l m : List Int} {w0 : World} (hl : RowE w0 aol bl offl capl l) (hm : RowE w0 aom bm offm capm m) :
    Calls Try.prog 5 #[.slice aol l.length capl, .slice aom m.length capm] w0 fun e w' => e = .returned (.bool true) ∧ Evo w0 w' [] := by
  refine calls_enter (n := 100) (args := [.slice aol l.length capl, .slice aom m.length capm]) Try.func5 rfl Try.ntmps5 rfl ?_
  have hV : Evo w0 w0 [] := Evo.refl _ _
  have hl0 := keepE hl
  have hbd_hl := hl.bd
  have hm0 := keepE hm
  have hbd_hm := hm.bd
  refine r_seq ?_
  refine r_region ?_
  refine r_op rfl rfl rfl (run_asg (v := .bool _) rfl (by exact rfl)) ?_
  refine r_nil ?_
  refine r_seq ?_
  refine r_seq ?_
  refine r_region ?_
  refine r_op rfl rfl rfl (run_mv (v := .slice _ _ _) rfl (by exact rfl)) ?_
  refine r_op rfl rfl rfl (run_lenSl rfl (by exact rfl) Try.underlying23) ?_
  refine r_op rfl rfl rfl (run_gtr rfl (by exact rfl) (by exact rfl)) ?_
  refine r_op rfl rfl rfl (run_mv (v := .bool _) rfl (by exact rfl)) ?_
  refine r_g rfl (wantF (by exact rfl)) rfl (fun hg => run_mv (v := .slice _ _ _) rfl (by exact rfl)) ?_
  refine r_g rfl (wantF (by exact rfl)) rfl (fun hg => run_lenSl rfl (glv (by exact rfl) (fun h => h) hg) Try.underlying23) ?_
  refine r_g rfl (wantF (by exact rfl)) rfl (fun hg => run_gtr rfl (glv (by exact rfl) (fun h => h) hg) (by exact rfl)) ?_
  refine r_op rfl rfl rfl (run_pick_or rfl (by exact rfl) rfl (fun hq => glv (by exact rfl) (fun h => h) hq)) ?_
  refine r_nil ?_
  refine r_cond (by exact rfl) (fun hc1 => ?_) (fun hc1 => ?_)
  · skip
    refine r_seq ?_
    refine r_region ?_
    refine r_opcall rfl rfl rfl (run_callf (vs := []) rfl (by exact rfl) Try.func12 rfl (by kernel_rfl)) known_callsD ?_
    rintro e w2 ⟨rfl, hE2⟩
    refine ⟨_, rfl, ?_⟩
    have hs_w2 := (hE2).size
    replace hV := evo_step0 hV hE2
    replace hl := hl0 _ hV
    replace hm := hm0 _ hV
    refine r_op rfl rfl rfl (run_asg (v := .bool _) rfl (by exact rfl)) ?_
    refine r_nil ?_
    refine r_ret (res1 (v := .bool _) rfl (by exact rfl)) ?_
    exact ⟨rfl, hV⟩
  · skip
    refine r_skip ?_
    refine r_seq ?_
    refine r_region ?_
    refine r_op rfl rfl rfl (run_mv (v := .slice _ _ _) rfl (by exact rfl)) ?_
    refine r_opcall rfl rfl rfl (run_callf (vs := [.slice _ _ _, .int _ _]) rfl (by exact rfl) Try.func13 rfl (by kernel_rfl)) (made_calls hl (by omega) (by omega)) ?_
    rintro e w3 ⟨vm3, sm3, rfl, hE3, hsm3, hor3⟩
    refine ⟨_, rfl, ?_⟩
    have hs_w3 := (hE3).size
    replace hV := evo_step0 hV hE3
    replace hl := hl0 _ hV
    replace hm := hm0 _ hV
    refine r_op rfl rfl rfl (run_asg (v := vm3) rfl (by exact rfl)) ?_
    refine r_nil ?_
    refine r_seq ?_
    obtain ⟨hs1, hs2, hs3, hs4⟩ := align_self sm3 (by omega)
    refine r_region ?_
    refine r_op rfl rfl rfl (run_mv (v := vm3) rfl (by exact rfl)) ?_
    refine r_op rfl rfl rfl (run_mv (v := vm3) rfl (by exact rfl)) ?_
    obtain ⟨ao4, g4, cp4, hv4, hr4⟩ := hor3.rowOf
    subst hv4
    have hbd_hr4 := hr4.bd
    refine r_opcall rfl rfl rfl (run_callf (vs := [.slice _ _ _, .slice _ _ _]) rfl (by exact rfl) Try.func17 rfl (by kernel_rfl)) (align_calls hr4 hr4) ?_
    rintro e w5 ⟨va5, rfl, hE5, hx5⟩
    refine ⟨_, rfl, ?_⟩
    have hs_w5 := (hE5).size
    replace hV := evo_step0 hV hE5
    replace hl := hl0 _ hV
    replace hm := hm0 _ hV
    replace hor3 := hor3.evo0 hE5
    replace hr4 := hr4.evo0 hE5
    refine r_op rfl rfl rfl (run_mv (v := .tuple _) rfl (by exact rfl)) ?_
    refine r_op rfl rfl rfl (run_extract (v := va5) rfl (by exact rfl) (by exact rfl)) ?_
    refine r_op rfl rfl rfl (run_extract (v := .int _ _) rfl (by exact rfl) (by exact rfl)) ?_
    refine r_op rfl rfl rfl (run_extract (v := .int _ _) rfl (by exact rfl) (by exact rfl)) ?_
    refine r_op rfl rfl rfl (run_asg (v := va5) rfl (by exact rfl)) ?_
    refine r_op rfl rfl rfl (run_asg (v := .int _ _) rfl (by exact rfl)) ?_
    refine r_op rfl rfl rfl (run_asg (v := .int _ _) rfl (by exact rfl)) ?_
    refine r_nil ?_
    refine r_seq ?_
    refine r_seq ?_
    refine r_region ?_
    refine r_op rfl rfl rfl (run_mv (v := .int _ _) rfl (by exact rfl)) ?_
    refine r_op rfl rfl rfl (run_neq rfl (by exact rfl) (by exact rfl)) ?_
    refine r_op rfl rfl rfl (run_mv (v := .bool _) rfl (by exact rfl)) ?_
    refine r_g rfl (wantF (by exact rfl)) rfl (fun hg => run_mv (v := .int _ _) rfl (by exact rfl)) ?_
    refine r_g rfl (wantF (by exact rfl)) rfl (fun hg => run_neq rfl (glv (by exact rfl) (fun h => h) hg) (by exact rfl)) ?_
    refine r_op rfl rfl rfl (run_pick_or rfl (by exact rfl) rfl (fun hq => glv (by exact rfl) (fun h => h) hq)) ?_
    refine r_op rfl rfl rfl (run_mv (v := .bool _) rfl (by exact rfl)) ?_
    refine r_g rfl (wantF (by exact rfl)) rfl (fun hg => run_mv (v := va5) rfl (by exact rfl)) ?_
    refine r_g rfl (wantF (by exact rfl)) rfl (fun hg => run_lenOE rfl (glv (by exact rfl) (fun h => h) hg) Try.underlying33 hx5) ?_
    refine r_g rfl (wantF (by exact rfl)) rfl (fun hg => run_mv (v := .slice _ _ _) rfl (by exact rfl)) ?_
    refine r_g rfl (wantF (by exact rfl)) rfl (fun hg => run_lenOR rfl (glv (by exact rfl) (fun h => h) hg) Try.underlying22 hor3) ?_
    refine r_g rfl (wantF (by exact rfl)) rfl (fun hg => run_neq rfl (glv (by exact rfl) (fun h => h) hg) (glv (by exact rfl) (fun h => h) hg)) ?_
    refine r_op rfl rfl rfl (run_pick_or rfl (by exact rfl) rfl (fun hq => glv (by exact rfl) (fun h => h) hq)) ?_
    refine r_nil ?_
    refine r_cond (by exact rfl) (fun hc6 => ?_) (fun hc6 => ?_)
    · skip
      exfalso; omega
    · skip
      refine r_skip ?_
      refine r_seq ?_
      refine r_seq ?_
      refine r_region ?_
      refine r_op rfl rfl rfl (run_mv (v := va5) rfl (by exact rfl)) ?_
      refine r_op rfl rfl rfl (run_lenOE rfl (by exact rfl) Try.underlying33 hx5) ?_
      refine r_op rfl rfl rfl (run_mv (v := .int _ _) rfl (by exact rfl)) ?_
      refine r_nil ?_
      refine r_block ?_
      have hQ : Evo w5 w5 [] := Evo.refl _ _
      have hsa0 := hr4.keep
      have hsa := hsa0.now hQ
      have hbd_hsa := hsa.bd
      obtain ⟨ao7, g7, cp7, hv7, hr7, hg7⟩ := hx5.rowOf
      subst hv7
      have hbe0 := keepE hr7
      have hbe := hbe0 _ hQ
      have hbd_hbe := hbe.bd
      refine r_loop (α := Nat) [4, 9, 50, 51, 52, 53, 54, 55, 56, 57, 58, 59, 60, 61, 62, 63, 64, 65, 66, 67, 68, 69, 70, 71, 72, 73, 74, 75, 76] (fun k g w => g 50 = .int .i64 (k : Nat) ∧ k ≤ (alignL sm3 sm3).1.length ∧ w5.heap.size ≤ w.heap.size ∧ Evo w0 w [] ∧ Evo w5 w []) (fun k => (alignL sm3 sm3).1.length - k) 0 ?_ ?_
      · refine ⟨(by first | exact rfl | exact congrArg (Value.int _) (by omega) | exact congrArg (Value.int _) (by dsimp only; omega) | exact congrArg (Value.int _) (by simp) | exact congrArg S (by simp)), (by first | assumption | omega | (dsimp only; omega) | (simp; done)), (by first | assumption | omega | (dsimp only; omega) | (simp; done)), hV, hQ⟩
      · rintro k g w9 ⟨hj10, hk_k, hzl8, hV, hQ⟩
        have hs_w9hV := hV.size
        have hs_w9hQ := hQ.size
        replace hl := hl0 _ hV
        replace hm := hm0 _ hV
        replace hsa := hsa0.now hQ
        replace hbe := hbe0 _ hQ
        refine r_know (i := 50) (v := .int .i64 (k : Nat)) (by exact hj10) ?_
        refine r_seq ?_
        refine r_region ?_
        refine r_op rfl rfl rfl (run_lss rfl (by exact rfl) (by exact rfl)) ?_
        refine r_nil ?_
        refine r_seq ?_
        refine r_cond (by exact rfl) (fun hc11 => ?_) (fun hc11 => ?_)
        · skip
          refine r_skip ?_
          refine r_seq ?_
          refine r_block ?_
          refine r_seq ?_
          refine r_region ?_
          refine r_op rfl rfl rfl (run_mv (v := .int _ _) rfl (by exact rfl)) ?_
          refine r_op rfl rfl rfl (run_asg (v := .int _ _) rfl (by exact rfl)) ?_
          refine r_nil ?_
          refine r_seq ?_
          refine r_qregion (by kernel_rfl) (by kernel_rfl) ?_
          refine q_op rfl rfl rfl (fun w' hC => run_mv (v := .slice _ _ _) rfl (by exact rfl)) ?_
          refine q_op rfl rfl rfl (fun w' hC => run_mv (v := .int _ _) rfl (by exact rfl)) ?_
          refine q_op rfl rfl rfl (fun w' hC => run_ix (k) rfl Try.underlying33 ty_41 (by exact rfl) (by exact rfl) (by first | exact rfl | omega) (by omega) (hbe.addr (i := k) (by omega))) ?_
          have hA120 := fun (w' : World) (h : Evo w5 w' []) => (hbe0 w' h).atD (k) (by omega)
          have hA12 := hA120 _ hQ
          refine q_op rfl rfl rfl (fun w' hC => run_fa rfl (by exact rfl) fo_41_0) ?_
          refine q_op rfl rfl rfl (fun w' hC => run_ldN rfl ag_39 ty_39 (by exact rfl) rfl ((hA12.evo0 hC).part 0 2 (ds := [_, _]) (by exact rfl))) ?_
          refine q_op rfl rfl rfl (fun w' hC => run_mv (v := .int _ _) rfl (by exact rfl)) ?_
          refine q_op rfl rfl rfl (fun w' hC => run_mv (v := .int _ _) rfl (by exact rfl)) ?_
          refine q_op rfl rfl rfl (fun w' hC => run_add rfl (by exact rfl) (by exact rfl) (by omega) (by omega)) ?_
          refine q_op rfl rfl rfl (fun w' hC => run_bld (pv := [(0, .int _ _), (1, .int _ _)]) (zs := [_, _]) (cells := [_, _]) rfl ty_39 (by exact rfl) pl_39 (by exact rfl) (by exact rfl)) ?_
          refine q_op rfl rfl rfl (fun w' hC => run_neqZ [_, _] [_, _] rfl Try.eqGuardType39 iz_39 rfl (by exact rfl) (by exact rfl) rfl rfl) ?_
          refine q_op rfl rfl rfl (fun w' hC => run_mv (v := .bool _) rfl (by exact rfl)) ?_
          refine q_g rfl (wantF (by exact rfl)) rfl (fun hg w' hC => run_mv (v := .slice _ _ _) rfl (by exact rfl)) ?_
          refine q_g rfl (wantF (by exact rfl)) rfl (fun hg w' hC => run_mv (v := .int _ _) rfl (by exact rfl)) ?_
          refine q_g rfl (wantF (by exact rfl)) rfl (fun hg w' hC => run_ix (k) rfl Try.underlying33 ty_41 (glv (by exact rfl) (fun h => h) hg) (glv (by exact rfl) (fun h => h) hg) (by first | exact rfl | omega) (by omega) (hbe.addr (i := k) (by omega))) ?_
          refine q_g rfl (wantF (by exact rfl)) rfl (fun hg w' hC => run_fa rfl (glv (by exact rfl) (fun h => h) hg) fo_41_1) ?_
          refine q_g rfl (wantF (by exact rfl)) rfl (fun hg w' hC => run_ldN rfl ag_39 ty_39 (glv (by exact rfl) (fun h => h) hg) rfl (((hbe.atD (k) (by omega)).evo0 hC).part 2 2 (ds := [_, _]) (by exact rfl))) ?_
          refine q_g rfl (wantF (by exact rfl)) rfl (fun hg w' hC => run_mv (v := .slice _ _ _) rfl (by exact rfl)) ?_
          refine q_g rfl (wantF (by exact rfl)) rfl (fun hg w' hC => run_mv (v := .int _ _) rfl (by exact rfl)) ?_
          refine q_g rfl (wantF (by exact rfl)) rfl (fun hg w' hC => run_ix (k) rfl Try.underlying33 ty_41 (glv (by exact rfl) (fun h => h) hg) (glv (by exact rfl) (fun h => h) hg) (by first | exact rfl | omega) (by omega) (hbe.addr (i := k) (by omega))) ?_
          refine q_g rfl (wantF (by exact rfl)) rfl (fun hg w' hC => run_fa rfl (glv (by exact rfl) (fun h => h) hg) fo_41_0) ?_
          refine q_g rfl (wantF (by exact rfl)) rfl (fun hg w' hC => run_ldN rfl ag_39 ty_39 (glv (by exact rfl) (fun h => h) hg) rfl (((hbe.atD (k) (by omega)).evo0 hC).part 0 2 (ds := [_, _]) (by exact rfl))) ?_
          refine q_g rfl (wantF (by exact rfl)) rfl (fun hg w' hC => run_neqZ [_, _] [_, _] rfl Try.eqGuardType39 iz_39 rfl (glv (by exact rfl) (fun h => h) hg) (glv (by exact rfl) (fun h => h) hg) rfl rfl) ?_
          refine q_op rfl rfl rfl (fun w' hC => run_pick_or rfl (by exact rfl) rfl (fun hq => glv (by exact rfl) (fun h => h) hq)) ?_
          refine q_nil (fun w13 hE14 => ?_)
          have hs_w13 := (hE14).size
          replace hV := evo_step0 hV hE14
          replace hQ := evo_step0 hQ hE14
          replace hl := hl0 _ hV
          replace hm := hm0 _ hV
          replace hsa := hsa0.now hQ
          replace hbe := hbe0 _ hQ
          refine r_cond (by exact rfl) (fun hc15 => ?_) (fun hc15 => ?_)
          · skip
            exfalso; rw [hs4 k (by omega)] at hc15; simp at hc15
          · skip
            refine r_skip ?_
            refine r_blk ?_
            refine r_region ?_
            refine r_op rfl rfl rfl (run_add rfl (by exact rfl) (by exact rfl) (by omega) (by omega)) ?_
            refine r_op rfl rfl rfl (run_mv (v := .int _ _) rfl (by exact rfl)) ?_
            refine r_nil ?_
            refine r_again (k + 1) ?_ ?_ ?_
            · first | omega | (dsimp only; omega)
            · refine ⟨(by first | exact rfl | exact congrArg (Value.int _) (by omega) | exact congrArg (Value.int _) (by dsimp only; omega) | exact congrArg (Value.int _) (by simp) | exact congrArg S (by simp)), (by first | assumption | omega | (dsimp only; omega) | (simp; done)), (by first | assumption | omega | (dsimp only; omega) | (simp; done)), hV, hQ⟩
            · repeat (first | (with_reducible exact Agree.merge _ _ _) | (with_reducible exact Agree.refl _ _) | (with_reducible refine Agree.upd ?_ _ _ rfl) | ((with_reducible refine Agree.inner ?_ ?_); (kernel_rfl)))
        · skip
          refine r_exit rfl ?_
          refine r_seq ?_
          refine r_region ?_
          refine r_op rfl rfl rfl (run_mv (v := .slice _ _ _) rfl (by exact rfl)) ?_
          refine r_op rfl rfl rfl (run_mv (v := .slice _ _ _) rfl (by exact rfl)) ?_
          refine r_opcall rfl rfl rfl (run_callf (vs := [.slice _ _ _, .slice _ _ _]) rfl (by exact rfl) Try.func16 rfl (by kernel_rfl)) (near_calls hsa hm (by omega)) ?_
          rintro e w16 ⟨vn16, sn16, rfl, hE16, hsn16, hor16⟩
          refine ⟨_, rfl, ?_⟩
          have hs_w16 := (hE16).size
          replace hV := evo_step0 hV hE16
          replace hQ := evo_step0 hQ hE16
          replace hl := hl0 _ hV
          replace hm := hm0 _ hV
          replace hsa := hsa0.now hQ
          replace hbe := hbe0 _ hQ
          refine r_op rfl rfl rfl (run_asg (v := vn16) rfl (by exact rfl)) ?_
          refine r_nil ?_
          refine r_seq ?_
          refine r_region ?_
          refine r_op rfl rfl rfl (run_mv (v := .slice _ _ _) rfl (by exact rfl)) ?_
          refine r_op rfl rfl rfl (run_mv (v := vn16) rfl (by exact rfl)) ?_
          obtain ⟨ao17, g17, cp17, hv17, hr17⟩ := hor16.rowOf
          subst hv17
          have hbd_hr17 := hr17.bd
          refine r_opcall rfl rfl rfl (run_callf (vs := [.slice _ _ _, .slice _ _ _]) rfl (by exact rfl) Try.func17 rfl (by kernel_rfl)) (align_calls hsa hr17) ?_
          rintro e w18 ⟨va18, rfl, hE18, hx18⟩
          refine ⟨_, rfl, ?_⟩
          have hs_w18 := (hE18).size
          replace hV := evo_step0 hV hE18
          replace hQ := evo_step0 hQ hE18
          replace hl := hl0 _ hV
          replace hm := hm0 _ hV
          replace hsa := hsa0.now hQ
          replace hbe := hbe0 _ hQ
          replace hor16 := hor16.evo0 hE18
          replace hr17 := hr17.evo0 hE18
          refine r_op rfl rfl rfl (run_mv (v := .tuple _) rfl (by exact rfl)) ?_
          refine r_op rfl rfl rfl (run_extract (v := va18) rfl (by exact rfl) (by exact rfl)) ?_
          refine r_op rfl rfl rfl (run_extract (v := .int _ _) rfl (by exact rfl) (by exact rfl)) ?_
          refine r_op rfl rfl rfl (run_extract (v := .int _ _) rfl (by exact rfl) (by exact rfl)) ?_
          refine r_op rfl rfl rfl (run_asg (v := va18) rfl (by exact rfl)) ?_
          refine r_op rfl rfl rfl (run_asg (v := .int _ _) rfl (by exact rfl)) ?_
          refine r_op rfl rfl rfl (run_asg (v := .int _ _) rfl (by exact rfl)) ?_
          refine r_nil ?_
          refine r_seq ?_
          refine r_region ?_
          refine r_op rfl rfl rfl (run_mv (v := .slice _ _ _) rfl (by exact rfl)) ?_
          refine r_op rfl rfl rfl (run_mv (v := .slice _ _ _) rfl (by exact rfl)) ?_
          refine r_opcall rfl rfl rfl (run_callf (vs := [.slice _ _ _, .slice _ _ _]) rfl (by exact rfl) Try.func17 rfl (by kernel_rfl)) (align_calls hr17 hsa) ?_
          rintro e w19 ⟨va19, rfl, hE19, hx19⟩
          refine ⟨_, rfl, ?_⟩
          have hs_w19 := (hE19).size
          replace hV := evo_step0 hV hE19
          replace hQ := evo_step0 hQ hE19
          replace hl := hl0 _ hV
          replace hm := hm0 _ hV
          replace hsa := hsa0.now hQ
          replace hbe := hbe0 _ hQ
          replace hor16 := hor16.evo0 hE19
          replace hr17 := hr17.evo0 hE19
          replace hx18 := hx18.evo0 hE19
          refine r_op rfl rfl rfl (run_mv (v := .tuple _) rfl (by exact rfl)) ?_
          refine r_op rfl rfl rfl (run_extract (v := va19) rfl (by exact rfl) (by exact rfl)) ?_
          refine r_op rfl rfl rfl (run_extract (v := .int _ _) rfl (by exact rfl) (by exact rfl)) ?_
          refine r_op rfl rfl rfl (run_extract (v := .int _ _) rfl (by exact rfl) (by exact rfl)) ?_
          refine r_op rfl rfl rfl (run_asg (v := va19) rfl (by exact rfl)) ?_
          refine r_op rfl rfl rfl (run_asg (v := .int _ _) rfl (by exact rfl)) ?_
          refine r_op rfl rfl rfl (run_asg (v := .int _ _) rfl (by exact rfl)) ?_
          refine r_nil ?_
          refine r_seq ?_
          refine r_region ?_
          refine r_op rfl rfl rfl (run_mv (v := .int _ _) rfl (by exact rfl)) ?_
          refine r_op rfl rfl rfl (run_mv (v := .int _ _) rfl (by exact rfl)) ?_
          refine r_op rfl rfl rfl (run_eql rfl (by exact rfl) (by exact rfl)) ?_
          refine r_op rfl rfl rfl (run_mv (v := .bool _) rfl (by exact rfl)) ?_
          refine r_gcall rfl (wantT (by exact rfl)) rfl (fun hg => run_callf rfl (rfl) Try.func12 rfl (by kernel_rfl)) (fun hg => (known_callsD ).mono (fun e w' h => ⟨h.1, h.2⟩)) (fun w20 hE21 => ?_)
          have hs_w20 := (hE21).size
          replace hV := evo_step0 hV hE21
          replace hQ := evo_step0 hQ hE21
          replace hl := hl0 _ hV
          replace hm := hm0 _ hV
          replace hsa := hsa0.now hQ
          replace hbe := hbe0 _ hQ
          replace hor16 := hor16.evo0 hE21
          replace hr17 := hr17.evo0 hE21
          replace hx18 := hx18.evo0 hE21
          replace hx19 := hx19.evo0 hE21
          refine r_op rfl rfl rfl (run_pick_and rfl (by exact rfl) (fun hq => glv (by exact rfl) (fun h => h) hq) rfl) ?_
          refine r_op rfl rfl rfl (run_asg (v := .bool _) rfl (by exact rfl)) ?_
          refine r_nil ?_
          refine r_ret (res1 (v := .bool _) rfl (by exact rfl)) ?_
          exact ⟨ret_bool (decide_eq_true ⟨align_exch _ _, trivial⟩), hV⟩

theorem covers_law {aol aom : Option Addr} {bl offl capl bm offm capm : Nat} {l m : List Int} {w0 : World} (hl : RowE w0 aol bl offl capl l) (hm : RowE w0 aom bm offm capm m) :
    Calls Try.prog 6 #[.slice aol l.length capl, .slice aom m.length capm] w0 fun e w' => e = .returned (.bool true) ∧ Evo w0 w' [] := by
  refine calls_enter (n := 107) (args := [.slice aol l.length capl, .slice aom m.length capm]) Try.func6 rfl Try.ntmps6 rfl ?_
  have hV : Evo w0 w0 [] := Evo.refl _ _
  have hl0 := keepE hl
  have hbd_hl := hl.bd
  have hm0 := keepE hm
  have hbd_hm := hm.bd
  refine r_seq ?_
  refine r_region ?_
  refine r_op rfl rfl rfl (run_asg (v := .bool _) rfl (by exact rfl)) ?_
  refine r_nil ?_
  refine r_seq ?_
  refine r_seq ?_
  refine r_region ?_
  refine r_op rfl rfl rfl (run_mv (v := .slice _ _ _) rfl (by exact rfl)) ?_
  refine r_op rfl rfl rfl (run_lenSl rfl (by exact rfl) Try.underlying23) ?_
  refine r_op rfl rfl rfl (run_gtr rfl (by exact rfl) (by exact rfl)) ?_
  refine r_op rfl rfl rfl (run_mv (v := .bool _) rfl (by exact rfl)) ?_
  refine r_g rfl (wantF (by exact rfl)) rfl (fun hg => run_mv (v := .slice _ _ _) rfl (by exact rfl)) ?_
  refine r_g rfl (wantF (by exact rfl)) rfl (fun hg => run_lenSl rfl (glv (by exact rfl) (fun h => h) hg) Try.underlying23) ?_
  refine r_g rfl (wantF (by exact rfl)) rfl (fun hg => run_gtr rfl (glv (by exact rfl) (fun h => h) hg) (by exact rfl)) ?_
  refine r_op rfl rfl rfl (run_pick_or rfl (by exact rfl) rfl (fun hq => glv (by exact rfl) (fun h => h) hq)) ?_
  refine r_nil ?_
  refine r_cond (by exact rfl) (fun hc1 => ?_) (fun hc1 => ?_)
  · skip
    refine r_seq ?_
    refine r_region ?_
    refine r_opcall rfl rfl rfl (run_callf (vs := []) rfl (by exact rfl) Try.func12 rfl (by kernel_rfl)) known_callsD ?_
    rintro e w2 ⟨rfl, hE2⟩
    refine ⟨_, rfl, ?_⟩
    have hs_w2 := (hE2).size
    replace hV := evo_step0 hV hE2
    replace hl := hl0 _ hV
    replace hm := hm0 _ hV
    refine r_op rfl rfl rfl (run_asg (v := .bool _) rfl (by exact rfl)) ?_
    refine r_nil ?_
    refine r_ret (res1 (v := .bool _) rfl (by exact rfl)) ?_
    exact ⟨rfl, hV⟩
  · skip
    refine r_skip ?_
    refine r_seq ?_
    refine r_region ?_
    refine r_op rfl rfl rfl (run_mv (v := .slice _ _ _) rfl (by exact rfl)) ?_
    refine r_opcall rfl rfl rfl (run_callf (vs := [.slice _ _ _, .int _ _]) rfl (by exact rfl) Try.func13 rfl (by kernel_rfl)) (made_calls hl (by omega) (by omega)) ?_
    rintro e w3 ⟨vm3, sm3, rfl, hE3, hsm3, hor3⟩
    refine ⟨_, rfl, ?_⟩
    have hs_w3 := (hE3).size
    replace hV := evo_step0 hV hE3
    replace hl := hl0 _ hV
    replace hm := hm0 _ hV
    refine r_op rfl rfl rfl (run_asg (v := vm3) rfl (by exact rfl)) ?_
    refine r_nil ?_
    refine r_seq ?_
    refine r_region ?_
    refine r_op rfl rfl rfl (run_mv (v := vm3) rfl (by exact rfl)) ?_
    refine r_op rfl rfl rfl (run_mv (v := .slice _ _ _) rfl (by exact rfl)) ?_
    obtain ⟨ao4, g4, cp4, hv4, hr4⟩ := hor3.rowOf
    subst hv4
    have hbd_hr4 := hr4.bd
    refine r_opcall rfl rfl rfl (run_callf (vs := [.slice _ _ _, .slice _ _ _]) rfl (by exact rfl) Try.func16 rfl (by kernel_rfl)) (near_calls hr4 hm (by omega)) ?_
    rintro e w5 ⟨vn5, sn5, rfl, hE5, hsn5, hor5⟩
    refine ⟨_, rfl, ?_⟩
    have hs_w5 := (hE5).size
    replace hV := evo_step0 hV hE5
    replace hl := hl0 _ hV
    replace hm := hm0 _ hV
    replace hor3 := hor3.evo0 hE5
    replace hr4 := hr4.evo0 hE5
    refine r_op rfl rfl rfl (run_asg (v := vn5) rfl (by exact rfl)) ?_
    refine r_nil ?_
    refine r_seq ?_
    refine r_region ?_
    refine r_op rfl rfl rfl (run_mv (v := .slice _ _ _) rfl (by exact rfl)) ?_
    refine r_op rfl rfl rfl (run_mv (v := vn5) rfl (by exact rfl)) ?_
    obtain ⟨ao6, g6, cp6, hv6, hr6⟩ := hor5.rowOf
    subst hv6
    have hbd_hr6 := hr6.bd
    refine r_opcall rfl rfl rfl (run_callf (vs := [.slice _ _ _, .slice _ _ _]) rfl (by exact rfl) Try.func17 rfl (by kernel_rfl)) (align_calls hr4 hr6) ?_
    rintro e w7 ⟨va7, rfl, hE7, hx7⟩
    refine ⟨_, rfl, ?_⟩
    have hs_w7 := (hE7).size
    replace hV := evo_step0 hV hE7
    replace hl := hl0 _ hV
    replace hm := hm0 _ hV
    replace hor3 := hor3.evo0 hE7
    replace hr4 := hr4.evo0 hE7
    replace hor5 := hor5.evo0 hE7
    replace hr6 := hr6.evo0 hE7
    refine r_op rfl rfl rfl (run_mv (v := .tuple _) rfl (by exact rfl)) ?_
    refine r_op rfl rfl rfl (run_extract (v := va7) rfl (by exact rfl) (by exact rfl)) ?_
    refine r_op rfl rfl rfl (run_extract (v := .int _ _) rfl (by exact rfl) (by exact rfl)) ?_
    refine r_op rfl rfl rfl (run_extract (v := .int _ _) rfl (by exact rfl) (by exact rfl)) ?_
    refine r_op rfl rfl rfl (run_asg (v := va7) rfl (by exact rfl)) ?_
    refine r_op rfl rfl rfl (run_asg (v := .int _ _) rfl (by exact rfl)) ?_
    refine r_op rfl rfl rfl (run_asg (v := .int _ _) rfl (by exact rfl)) ?_
    refine r_nil ?_
    refine r_seq ?_
    refine r_region ?_
    refine r_op rfl rfl rfl (run_asg (v := .int _ _) rfl (by exact rfl)) ?_
    refine r_op rfl rfl rfl (run_asg (v := .int _ _) rfl (by exact rfl)) ?_
    refine r_nil ?_
    refine r_seq ?_
    refine r_seq ?_
    refine r_region ?_
    refine r_op rfl rfl rfl (run_mv (v := va7) rfl (by exact rfl)) ?_
    refine r_op rfl rfl rfl (run_lenOE rfl (by exact rfl) Try.underlying33 hx7) ?_
    refine r_op rfl rfl rfl (run_mv (v := .int _ _) rfl (by exact rfl)) ?_
    refine r_nil ?_
    refine r_block ?_
    obtain ⟨ho1, ho2, ho3⟩ := align_ok sm3 sn5 (by omega) (by omega)
    have hQ : Evo w7 w7 [] := Evo.refl _ _
    have hsa0 := hr4.keep
    have hsa := hsa0.now hQ
    have hbd_hsa := hsa.bd
    have hsb0 := hr6.keep
    have hsb := hsb0.now hQ
    have hbd_hsb := hsb.bd
    obtain ⟨ao8, g8, cp8, hv8, hr8, hg8⟩ := hx7.rowOf
    subst hv8
    have hbe0 := keepE hr8
    have hbe := hbe0 _ hQ
    have hbd_hbe := hbe.bd
    refine r_loop (α := Nat) [4, 10, 11, 13, 37, 38, 39, 40, 41, 42, 43, 44, 45, 46, 47, 48, 49, 50, 51, 52, 53, 54, 55, 56, 57, 58, 59, 60, 61, 62, 63, 64, 65, 66, 67, 68, 69, 70, 71, 72, 73, 74, 75, 76, 77, 78, 79, 80, 81, 82, 83, 84, 85, 86, 87, 88, 89] (fun k g w => ∃ i0 : Nat, ∃ j0 : Nat, g 37 = .int .i64 (k : Nat) ∧ g 10 = .int .i64 (i0 : Nat) ∧ g 11 = .int .i64 (j0 : Nat) ∧ k ≤ (alignL sm3 sn5).1.length ∧ (alignL sm3 sn5).1.drop k = trc (costF ourCost sm3 sn5) sm3.length sn5.length i0 j0 ∧ i0 ≤ sm3.length ∧ j0 ≤ sn5.length ∧ w7.heap.size ≤ w.heap.size ∧ Evo w0 w [] ∧ Evo w7 w []) (fun k => (alignL sm3 sn5).1.length - k) 0 ?_ ?_
    · refine ⟨0, 0, (by first | exact rfl | exact congrArg (Value.int _) (by omega) | exact congrArg (Value.int _) (by dsimp only; omega) | exact congrArg (Value.int _) (by simp) | exact congrArg S (by simp)), (by first | exact rfl | exact congrArg (Value.int _) (by omega) | exact congrArg (Value.int _) (by dsimp only; omega) | exact congrArg (Value.int _) (by simp) | exact congrArg S (by simp)), (by first | exact rfl | exact congrArg (Value.int _) (by omega) | exact congrArg (Value.int _) (by dsimp only; omega) | exact congrArg (Value.int _) (by simp) | exact congrArg S (by simp)), (by first | assumption | omega | (dsimp only; omega) | (simp; done)), (by rw [List.drop_zero]; exact ho2), (by first | assumption | omega | (dsimp only; omega) | (simp; done)), (by first | assumption | omega | (dsimp only; omega) | (simp; done)), (by first | assumption | omega | (dsimp only; omega) | (simp; done)), hV, hQ⟩
    · rintro k g w10 ⟨i0, j0, hj11, hj12, hj13, hk_k, hdr, hi0, hj0, hzl9, hV, hQ⟩
      have hs_w10hV := hV.size
      have hs_w10hQ := hQ.size
      replace hl := hl0 _ hV
      replace hm := hm0 _ hV
      replace hsa := hsa0.now hQ
      replace hsb := hsb0.now hQ
      replace hbe := hbe0 _ hQ
      refine r_know (i := 37) (v := .int .i64 (k : Nat)) (by exact hj11) ?_
      refine r_know (i := 10) (v := .int .i64 (i0 : Nat)) (by exact hj12) ?_
      refine r_know (i := 11) (v := .int .i64 (j0 : Nat)) (by exact hj13) ?_
      refine r_seq ?_
      refine r_region ?_
      refine r_op rfl rfl rfl (run_lss rfl (by exact rfl) (by exact rfl)) ?_
      refine r_nil ?_
      refine r_seq ?_
      refine r_cond (by exact rfl) (fun hc14 => ?_) (fun hc14 => ?_)
      · skip
        refine r_skip ?_
        refine r_seq ?_
        refine r_block ?_
        refine r_seq ?_
        obtain ⟨sS, tT, ⟨hG1, hG2, hG3, hG4⟩, hD, hb1, hb2, hb3, hb4⟩ := cov_step hdr (by omega) hi0 hj0
        refine r_region ?_
        refine r_op rfl rfl rfl (run_ix (k) rfl Try.underlying33 ty_41 (by exact rfl) (by exact rfl) (by first | exact rfl | omega) (by omega) (hbe.addr (i := k) (by omega))) ?_
        have hA150 := fun (w' : World) (h : Evo w7 w' []) => (hbe0 w' h).atD (k) (by omega)
        have hA15 := hA150 _ hQ
        refine r_op rfl rfl rfl (run_ldN rfl ag_41 ty_41 (by exact rfl) rfl hA15) ?_
        refine r_var (zs := [_, _, _, _]) (vs := [_, _, _, _]) ty_41 (by exact rfl) rfl (by exact rfl) (fun _ => rfl) (by exact rfl) rfl rfl (by exact rfl) ?_
        intro b16 w17 heb16 hEw17 hbb16 hzb16
        have hs_w17 := (hEw17).size
        replace hV := evo_step0 hV hEw17
        replace hQ := evo_step0 hQ hEw17
        replace hl := hl0 _ hV
        replace hm := hm0 _ hV
        replace hsa := hsa0.now hQ
        replace hsb := hsb0.now hQ
        replace hbe := hbe0 _ hQ
        have hAb16 := hbb16.at
        refine r_nil ?_
        refine r_seq ?_
        refine r_seq ?_
        refine r_region ?_
        refine r_op rfl rfl rfl (run_fa rfl (by exact rfl) fo_41_0) ?_
        refine r_op rfl rfl rfl (run_fa rfl (by exact rfl) fo_39_0) ?_
        refine r_op rfl rfl rfl (run_ld1 rfl ag_3 (by exact rfl) (hAb16.cell 0 (by exact rfl))) ?_
        refine r_op rfl rfl rfl (run_mv (v := .int _ _) rfl (by exact rfl)) ?_
        refine r_op rfl rfl rfl (run_neq rfl (by exact rfl) (by exact rfl)) ?_
        refine r_op rfl rfl rfl (run_mv (v := .bool _) rfl (by exact rfl)) ?_
        refine r_g rfl (wantF (by exact rfl)) rfl (fun hg => run_fa rfl (by exact rfl) fo_41_1) ?_
        refine r_g rfl (wantF (by exact rfl)) rfl (fun hg => run_fa rfl (glv (by exact rfl) (fun h => h) hg) fo_39_0) ?_
        refine r_g rfl (wantF (by exact rfl)) rfl (fun hg => run_ld1 rfl ag_3 (glv (by exact rfl) (fun h => h) hg) (hAb16.cell 2 (by exact rfl))) ?_
        refine r_g rfl (wantF (by exact rfl)) rfl (fun hg => run_mv (v := .int _ _) rfl (by exact rfl)) ?_
        refine r_g rfl (wantF (by exact rfl)) rfl (fun hg => run_neq rfl (glv (by exact rfl) (fun h => h) hg) (glv (by exact rfl) (fun h => h) hg)) ?_
        refine r_op rfl rfl rfl (run_pick_or rfl (by exact rfl) rfl (fun hq => glv (by exact rfl) (fun h => h) hq)) ?_
        refine r_op rfl rfl rfl (run_mv (v := .bool _) rfl (by exact rfl)) ?_
        refine r_g rfl (wantF (by exact rfl)) rfl (fun hg => run_fa rfl (by exact rfl) fo_41_0) ?_
        refine r_g rfl (wantF (by exact rfl)) rfl (fun hg => run_fa rfl (glv (by exact rfl) (fun h => h) hg) fo_39_1) ?_
        refine r_g rfl (wantF (by exact rfl)) rfl (fun hg => run_ld1 rfl ag_3 (glv (by exact rfl) (fun h => h) hg) (hAb16.cell 1 (by exact rfl))) ?_
        refine r_g rfl (wantF (by exact rfl)) rfl (fun hg => run_mv (v := .int _ _) rfl (by exact rfl)) ?_
        refine r_g rfl (wantF (by exact rfl)) rfl (fun hg => run_lss rfl (glv (by exact rfl) (fun h => h) hg) (glv (by exact rfl) (fun h => h) hg)) ?_
        refine r_op rfl rfl rfl (run_pick_or rfl (by exact rfl) rfl (fun hq => glv (by exact rfl) (fun h => h) hq)) ?_
        refine r_op rfl rfl rfl (run_mv (v := .bool _) rfl (by exact rfl)) ?_
        refine r_g rfl (wantF (by exact rfl)) rfl (fun hg => run_fa rfl (by exact rfl) fo_41_1) ?_
        refine r_g rfl (wantF (by exact rfl)) rfl (fun hg => run_fa rfl (glv (by exact rfl) (fun h => h) hg) fo_39_1) ?_
        refine r_g rfl (wantF (by exact rfl)) rfl (fun hg => run_ld1 rfl ag_3 (glv (by exact rfl) (fun h => h) hg) (hAb16.cell 3 (by exact rfl))) ?_
        refine r_g rfl (wantF (by exact rfl)) rfl (fun hg => run_mv (v := .int _ _) rfl (by exact rfl)) ?_
        refine r_g rfl (wantF (by exact rfl)) rfl (fun hg => run_lss rfl (glv (by exact rfl) (fun h => h) hg) (glv (by exact rfl) (fun h => h) hg)) ?_
        refine r_op rfl rfl rfl (run_pick_or rfl (by exact rfl) rfl (fun hq => glv (by exact rfl) (fun h => h) hq)) ?_
        refine r_op rfl rfl rfl (run_mv (v := .bool _) rfl (by exact rfl)) ?_
        refine r_g rfl (wantF (by exact rfl)) rfl (fun hg => run_fa rfl (by exact rfl) fo_41_0) ?_
        refine r_g rfl (wantF (by exact rfl)) rfl (fun hg => run_fa rfl (glv (by exact rfl) (fun h => h) hg) fo_39_1) ?_
        refine r_g rfl (wantF (by exact rfl)) rfl (fun hg => run_ld1 rfl ag_3 (glv (by exact rfl) (fun h => h) hg) (hAb16.cell 1 (by exact rfl))) ?_
        refine r_g rfl (wantF (by exact rfl)) rfl (fun hg => run_mv (v := .int _ _) rfl (by exact rfl)) ?_
        refine r_g rfl (wantF (by exact rfl)) rfl (fun hg => run_sub rfl (glv (by exact rfl) (fun h => h) hg) (glv (by exact rfl) (fun h => h) hg) (by omega) (by omega)) ?_
        refine r_g rfl (wantF (by exact rfl)) rfl (fun hg => run_gtr rfl (glv (by exact rfl) (fun h => h) hg) (by exact rfl)) ?_
        refine r_op rfl rfl rfl (run_pick_or rfl (by exact rfl) rfl (fun hq => glv (by exact rfl) (fun h => h) hq)) ?_
        refine r_op rfl rfl rfl (run_mv (v := .bool _) rfl (by exact rfl)) ?_
        refine r_g rfl (wantF (by exact rfl)) rfl (fun hg => run_fa rfl (by exact rfl) fo_41_1) ?_
        refine r_g rfl (wantF (by exact rfl)) rfl (fun hg => run_fa rfl (glv (by exact rfl) (fun h => h) hg) fo_39_1) ?_
        refine r_g rfl (wantF (by exact rfl)) rfl (fun hg => run_ld1 rfl ag_3 (glv (by exact rfl) (fun h => h) hg) (hAb16.cell 3 (by exact rfl))) ?_
        refine r_g rfl (wantF (by exact rfl)) rfl (fun hg => run_mv (v := .int _ _) rfl (by exact rfl)) ?_
        refine r_g rfl (wantF (by exact rfl)) rfl (fun hg => run_sub rfl (glv (by exact rfl) (fun h => h) hg) (glv (by exact rfl) (fun h => h) hg) (by omega) (by omega)) ?_
        refine r_g rfl (wantF (by exact rfl)) rfl (fun hg => run_gtr rfl (glv (by exact rfl) (fun h => h) hg) (by exact rfl)) ?_
        refine r_op rfl rfl rfl (run_pick_or rfl (by exact rfl) rfl (fun hq => glv (by exact rfl) (fun h => h) hq)) ?_
        refine r_nil ?_
        refine r_cond (by exact rfl) (fun hc18 => ?_) (fun hc18 => ?_)
        · skip
          exfalso; omega
        · skip
          refine r_skip ?_
          refine r_qregion (by kernel_rfl) (by kernel_rfl) ?_
          refine q_op rfl rfl rfl (fun w' hC => run_fa rfl (by exact rfl) fo_41_0) ?_
          refine q_op rfl rfl rfl (fun w' hC => run_fa rfl (by exact rfl) fo_39_1) ?_
          refine q_op rfl rfl rfl (fun w' hC => run_ld1 rfl ag_3 (by exact rfl) ((hAb16.evo0 hC).cell 1 (by exact rfl))) ?_
          refine q_op rfl rfl rfl (fun w' hC => run_fa rfl (by exact rfl) fo_41_1) ?_
          refine q_op rfl rfl rfl (fun w' hC => run_fa rfl (by exact rfl) fo_39_1) ?_
          refine q_op rfl rfl rfl (fun w' hC => run_ld1 rfl ag_3 (by exact rfl) ((hAb16.evo0 hC).cell 3 (by exact rfl))) ?_
          refine q_op rfl rfl rfl (fun w' hC => run_asg (v := .int _ _) rfl (by exact rfl)) ?_
          refine q_op rfl rfl rfl (fun w' hC => run_asg (v := .int _ _) rfl (by exact rfl)) ?_
          refine q_nil (fun w19 hE20 => ?_)
          have hs_w19 := (hE20).size
          replace hV := evo_step0 hV hE20
          replace hQ := evo_step0 hQ hE20
          replace hl := hl0 _ hV
          replace hm := hm0 _ hV
          replace hsa := hsa0.now hQ
          replace hsb := hsb0.now hQ
          replace hbe := hbe0 _ hQ
          refine r_blk ?_
          refine r_region ?_
          refine r_op rfl rfl rfl (run_add rfl (by exact rfl) (by exact rfl) (by omega) (by omega)) ?_
          refine r_op rfl rfl rfl (run_mv (v := .int _ _) rfl (by exact rfl)) ?_
          refine r_nil ?_
          refine r_again (k + 1) ?_ ?_ ?_
          · first | omega | (dsimp only; omega)
          · refine ⟨(i0 + sS), (j0 + tT), (by first | exact rfl | exact congrArg (Value.int _) (by omega) | exact congrArg (Value.int _) (by dsimp only; omega) | exact congrArg (Value.int _) (by simp) | exact congrArg S (by simp)), (by first | exact rfl | exact congrArg (Value.int _) (by omega) | exact congrArg (Value.int _) (by dsimp only; omega) | exact congrArg (Value.int _) (by simp) | exact congrArg S (by simp)), (by first | exact rfl | exact congrArg (Value.int _) (by omega) | exact congrArg (Value.int _) (by dsimp only; omega) | exact congrArg (Value.int _) (by simp) | exact congrArg S (by simp)), (by first | assumption | omega | (dsimp only; omega) | (simp; done)), hD, (by first | assumption | omega | (dsimp only; omega) | (simp; done)), (by first | assumption | omega | (dsimp only; omega) | (simp; done)), (by first | assumption | omega | (dsimp only; omega) | (simp; done)), hV, hQ⟩
          · repeat (first | (with_reducible exact Agree.merge _ _ _) | (with_reducible exact Agree.refl _ _) | (with_reducible refine Agree.upd ?_ _ _ rfl) | ((with_reducible refine Agree.inner ?_ ?_); (kernel_rfl)))
      · skip
        refine r_exit rfl ?_
        refine r_seq ?_
        obtain ⟨hn1, hn2⟩ := cov_end hdr (by omega) hi0 hj0
        refine r_region ?_
        refine r_op rfl rfl rfl (run_mv (v := .int _ _) rfl (by exact rfl)) ?_
        refine r_op rfl rfl rfl (run_eql rfl (by exact rfl) (by exact rfl)) ?_
        refine r_op rfl rfl rfl (run_mv (v := .bool _) rfl (by exact rfl)) ?_
        refine r_g rfl (wantT (by exact rfl)) rfl (fun hg => run_mv (v := .int _ _) rfl (by exact rfl)) ?_
        refine r_g rfl (wantT (by exact rfl)) rfl (fun hg => run_mv (v := .slice _ _ _) rfl (by exact rfl)) ?_
        refine r_g rfl (wantT (by exact rfl)) rfl (fun hg => run_lenSl rfl (glv (by exact rfl) (fun h => h) hg) Try.underlying22) ?_
        refine r_g rfl (wantT (by exact rfl)) rfl (fun hg => run_eql rfl (glv (by exact rfl) (fun h => h) hg) (glv (by exact rfl) (fun h => h) hg)) ?_
        refine r_op rfl rfl rfl (run_pick_and rfl (by exact rfl) (fun hq => glv (by exact rfl) (fun h => h) hq) rfl) ?_
        refine r_op rfl rfl rfl (run_mv (v := .bool _) rfl (by exact rfl)) ?_
        refine r_g rfl (wantT (by exact rfl)) rfl (fun hg => run_mv (v := .int _ _) rfl (by exact rfl)) ?_
        refine r_g rfl (wantT (by exact rfl)) rfl (fun hg => run_mv (v := .slice _ _ _) rfl (by exact rfl)) ?_
        refine r_g rfl (wantT (by exact rfl)) rfl (fun hg => run_lenSl rfl (glv (by exact rfl) (fun h => h) hg) Try.underlying22) ?_
        refine r_g rfl (wantT (by exact rfl)) rfl (fun hg => run_eql rfl (glv (by exact rfl) (fun h => h) hg) (glv (by exact rfl) (fun h => h) hg)) ?_
        refine r_op rfl rfl rfl (run_pick_and rfl (by exact rfl) (fun hq => glv (by exact rfl) (fun h => h) hq) rfl) ?_
        refine r_op rfl rfl rfl (run_mv (v := .bool _) rfl (by exact rfl)) ?_
        refine r_gcall rfl (wantT (by exact rfl)) rfl (fun hg => run_callf rfl (rfl) Try.func12 rfl (by kernel_rfl)) (fun hg => (known_callsD ).mono (fun e w' h => ⟨h.1, h.2⟩)) (fun w21 hE22 => ?_)
        have hs_w21 := (hE22).size
        replace hV := evo_step0 hV hE22
        replace hQ := evo_step0 hQ hE22
        replace hl := hl0 _ hV
        replace hm := hm0 _ hV
        replace hsa := hsa0.now hQ
        replace hsb := hsb0.now hQ
        replace hbe := hbe0 _ hQ
        refine r_op rfl rfl rfl (run_pick_and rfl (by exact rfl) (fun hq => glv (by exact rfl) (fun h => h) hq) rfl) ?_
        refine r_op rfl rfl rfl (run_asg (v := .bool _) rfl (by exact rfl)) ?_
        refine r_nil ?_
        refine r_ret (res1 (v := .bool _) rfl (by exact rfl)) ?_
        exact ⟨ret_bool (decide_eq_true ⟨by omega, trivial⟩), hV⟩

end Go.Proofs.Ythfahceagabhiaa
