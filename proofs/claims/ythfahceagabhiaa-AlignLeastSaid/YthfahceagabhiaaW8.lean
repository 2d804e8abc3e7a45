import Derived.Test.YthfahceagabhiaaW7
import Derived.Test.YthfahceagabhiaaEqk
namespace Go.Proofs.Ythfahceagabhiaa
open Go.RowKit Go.Vc

theorem near_calls {aoa : Option Addr} {ba offa capa : Nat} {a : List Side} {ao : Option Addr} {b off cap : Nat} {l : List Int} {w0 : World} (ha : RowR w0 aoa ba offa capa a) (hl : RowE w0 ao b off cap l) (hna : a.length ≤ 1000000) :
    Calls Try.prog 16 #[.slice aoa a.length capa, .slice ao l.length cap] w0 fun e w' => ∃ v, ∃ sl : List Side, e = .returned v ∧ Evo w0 w' [] ∧ sl.length ≤ 2 * a.length ∧ OwnR w' w0.heap.size 67 [] v sl := by
  refine calls_enter (n := 68) (args := [.slice aoa a.length capa, .slice ao l.length cap]) Try.func16 rfl Try.ntmps16 rfl ?_
  have hV : Evo w0 w0 [] := Evo.refl _ _
  have ha0 := ha.keep
  have hbd_ha := ha.bd
  have hl0 := keepE hl
  have hbd_hl := hl.bd
  refine r_seq ?_
  refine r_region ?_
  refine r_op rfl rfl rfl (run_asg (v := .slice _ _ _) rfl (by exact rfl)) ?_
  refine r_nil ?_
  refine r_seq ?_
  refine r_region ?_
  refine r_op rfl rfl rfl (run_mv (v := .slice _ _ _) rfl (by exact rfl)) ?_
  refine r_op rfl rfl rfl (run_bld (pv := [(0, .slice _ _ _)]) (zs := [_, _]) (cells := [_, _]) rfl ty_49 (by exact rfl) pl_49 (by exact rfl) (by exact rfl)) ?_
  refine r_box (vs := [_, _]) (by exact rfl) (by exact rfl) rfl ?_
  intro b1 w2 heb1 hEw2 hbb1 hzb1
  have hs_w2 := (hEw2).size
  replace hV := evo_step0 hV hEw2
  replace ha := ha0.now hV
  replace hl := hl0 _ hV
  have hAb1 := hbb1.at
  refine r_op rfl rfl rfl (run_asg (v := .pointer _) rfl (by exact rfl)) ?_
  refine r_nil ?_
  refine r_seq ?_
  refine r_region ?_
  refine r_op rfl rfl rfl (run_asg (v := .slice _ _ _) rfl (by exact rfl)) ?_
  refine r_nil ?_
  refine r_seq ?_
  refine r_seq ?_
  replace hbb1 : Blk w2 b1 49 [.slice ao l.length cap, .int .i64 ((0 : Nat) : Int)] := hbb1
  refine r_region ?_
  refine r_op rfl rfl rfl (run_mv (v := .slice _ _ _) rfl (by exact rfl)) ?_
  refine r_op rfl rfl rfl (run_lenSl rfl (by exact rfl) Try.underlying22) ?_
  refine r_op rfl rfl rfl (run_mv (v := .int _ _) rfl (by exact rfl)) ?_
  refine r_nil ?_
  refine r_block ?_
  refine r_loop (α := Nat) [6, 8, 9, 15, 16, 17, 18, 19, 20, 21, 22, 23, 24, 25, 26, 27, 28, 29, 30, 31, 32, 33, 34, 35, 36, 37, 38, 39, 40, 41, 42, 43, 44, 45, 46, 47, 48, 49, 50, 51, 52, 53, 54, 55, 56, 57, 58, 59, 60, 61, 62, 63, 64, 65, 66] (fun k g w => ∃ vo : Value, ∃ sl : List Side, ∃ N : Nat, g 15 = .int .i64 (k : Nat) ∧ g 6 = vo ∧ k ≤ a.length ∧ OwnR w w2.heap.size 67 [b1] vo sl ∧ Blk w b1 49 [.slice ao l.length cap, .int .i64 (N : Nat)] ∧ sl.length ≤ 2 * k ∧ N ≤ 2 * k ∧ w2.heap.size ≤ w.heap.size ∧ Evo w0 w []) (fun k => a.length - k) 0 ?_ ?_
  · refine ⟨_, [], _, (by first | exact rfl | exact congrArg (Value.int _) (by omega) | exact congrArg (Value.int _) (by dsimp only; omega) | exact congrArg (Value.int _) (by simp) | exact congrArg S (by simp)), rfl, (by first | assumption | omega | (dsimp only; omega) | (simp; done)), (OwnR.nil _ _ _ _), hbb1, (by simp), (by first | assumption | omega | (dsimp only; omega) | (simp; done)), (by first | assumption | omega | (dsimp only; omega) | (simp; done)), hV⟩
  · rintro k g w4 ⟨vo, sl, N, hj5, hj6, hk_k, hoR, hbb1, hsl, hN, hzl3, hV⟩
    have hs_w4hV := hV.size
    have hlt7 := hbb1.lt
    replace ha := ha0.now hV
    replace hl := hl0 _ hV
    refine r_know (i := 15) (v := .int .i64 (k : Nat)) (by exact hj5) ?_
    refine r_know (i := 6) (v := vo) (by exact hj6) ?_
    refine r_seq ?_
    refine r_region ?_
    refine r_op rfl rfl rfl (run_lss rfl (by exact rfl) (by exact rfl)) ?_
    refine r_nil ?_
    refine r_seq ?_
    refine r_cond (by exact rfl) (fun hc8 => ?_) (fun hc8 => ?_)
    · skip
      refine r_skip ?_
      refine r_seq ?_
      refine r_block ?_
      refine r_seq ?_
      have hI : Evo w4 w4 [] := Evo.refl _ _
      have hoR0 := hoR
      have hobR := fun g hg => (hoR.block (g := g) hg).2
      refine r_region ?_
      refine r_op rfl rfl rfl (run_ix (k) rfl Try.underlying22 ty_67 (by exact rfl) (by exact rfl) (by first | exact rfl | omega) (by omega) (ha.addr (i := k) (by omega))) ?_
      obtain ⟨ao9, b9, off9, cap9, hX⟩ := side_atK ha0 (k) (by omega)
      have hA90 := fun (w' : World) (h : Evo w0 w' []) => (hX w' h).1
      have hA9 := hA90 _ hV
      have hR90 := fun (w' : World) (h : Evo w0 w' []) => (hX w' h).2
      have hR9 := hR90 _ hV
      clear hX
      have hbd_hR9 := hR9.bd
      refine r_op rfl rfl rfl (run_ldN rfl ag_67 ty_67 (by exact rfl) rfl hA9) ?_
      refine r_var (zs := [_, _]) (vs := [_, _]) ty_67 (by exact rfl) rfl (by exact rfl) (fun _ => rfl) (by exact rfl) rfl rfl (by exact rfl) ?_
      intro b10 w11 heb10 hEw11 hbb10 hzb10
      have hs_w11 := (hEw11).size
      replace hV := evo_step0 hV hEw11
      replace hI := evo_step0 hI hEw11
      replace ha := ha0.now hV
      replace hl := hl0 _ hV
      replace hbb1 := hbb1.evo0 hEw11
      replace hR9 := hR90 _ hV
      have hAb10 := hbb10.at
      refine r_nil ?_
      refine r_seq ?_
      have hoR := hoR0.grow (Z := [b1, b10]) hI (by simp) (by simp) (by simp; omega)
      clear hoR0
      have hneR : ∀ g, vo.ownBlock = some g → g ≠ b10 := fun g hg h => by have := hobR g hg; omega
      have hbb1_q := hbb1
      have hbb10_q := hbb10
      have hAb10_q := hAb10
      have hV_q := hV
      refine h_region [b1] (by kernel_rfl) ?_
      intro w12 hE13 hC14
      have hs_w12 := (hE13).size
      replace hV := evo_step0 hV hE13
      replace ha := ha0.now hV
      replace hl := hl0 _ hV
      replace hbb1 := hbb1.evo0 hE13
      replace hR9 := hR90 _ hV
      replace hbb10 := hbb10.evo0 hE13
      replace hAb10 := hAb10.evo0 hE13
      replace hoR := hoR.evo0 hE13
      refine h_take (i := 0) (by exact rfl) rfl rfl rfl (by kernel_rfl) (fun w' hC => run_fa rfl (by exact rfl) fo_67_0) hC14 ?_
      refine h_take (i := 1) (by exact rfl) rfl rfl rfl (by kernel_rfl) (fun w' hC => run_ld1 rfl ag_3 (by exact rfl) ((hAb10_q.evo hC (by simp; omega)).cell 0 (by exact rfl))) hC14 ?_
      refine h_take (i := 2) (by exact rfl) rfl rfl rfl (by kernel_rfl) (fun w' hC => run_mv (v := .pointer _) rfl (by exact rfl)) hC14 ?_
      refine h_one (i := 3) (by kernel_rfl) ?_
      refine h_do (by exact rfl) ?_
      refine r_opcall rfl rfl rfl (run_callf (vs := [.pointer _, .int _ _]) rfl (by exact rfl) Try.func23 rfl (by kernel_rfl)) (nx_calls hbb1 hl (by omega) (by omega) (by omega)) ?_
      rintro e w15 ⟨nx15, rfl, hx15, hE15, hn15⟩
      refine ⟨_, rfl, ?_⟩
      have hs_w15 := (hE15).size
      replace hV := evo_step1 hV hE15 (by first | exact .inl (by omega) | exact .inr (by simp))
      replace hC14 := evo_step1 hC14 hE15 (by first | exact .inl (by omega) | exact .inr (by simp))
      replace ha := ha0.now hV
      replace hl := hl0 _ hV
      replace hR9 := hR90 _ hV
      replace hbb10 := hbb10.evo hE15 (by simp; omega)
      replace hAb10 := hAb10.evo hE15 (by simp; omega)
      replace hoR := hoR.evo hE15 (by simp) (by intro g hg hm; simp at hm; subst hm; have := hoR.block hg; omega)
      replace hbb1 := hn15
      clear hn15
      have hAb1 := hbb1.at
      refine h_next hC14 ?_
      refine h_take (i := 4) (by exact rfl) rfl rfl rfl (by kernel_rfl) (fun w' hC => run_addw rfl (by exact rfl) (by exact rfl)) hC14 ?_
      refine h_take (i := 5) (by exact rfl) rfl rfl rfl (by kernel_rfl) (fun w' hC => run_fa rfl (by exact rfl) fo_67_0) hC14 ?_
      refine h_one (i := 6) (by kernel_rfl) ?_
      refine h_do (by exact rfl) ?_
      refine r_store (v := .int _ _) (vs := [_]) (cs' := [_, _]) (by exact rfl) (by exact rfl) hbb10 ty_3 (by exact rfl) rfl (by exact rfl) rfl (by exact rfl) ?_
      intro w16 hEw16 hzw16 hb_new
      have hs_w16 := (hEw16).size
      replace hV := evo_step1 hV hEw16 (by first | exact .inl (by omega) | exact .inr (by simp))
      replace ha := ha0.now hV
      replace hl := hl0 _ hV
      replace hR9 := hR90 _ hV
      replace hoR := hoR.evo hEw16 (by simp) (by intro g hg hm; simp at hm; exact hneR g hg hm)
      replace hbb1 := hbb1.evo hEw16 (by simp; omega)
      replace hAb1 := hAb1.evo hEw16 (by simp; omega)
      replace hbb10 := hb_new
      have hAb10 := hbb10.at
      clear hb_new
      refine h_last (by kernel_rfl) ?_
      refine h_done (by kernel_rfl) ?_
      refine r_seq ?_
      refine r_seq ?_
      refine r_region ?_
      refine r_op rfl rfl rfl (run_mv (v := .pointer _) rfl (by exact rfl)) ?_
      refine r_opcall rfl rfl rfl (run_callf (vs := [.pointer _, .int _ _]) rfl (by exact rfl) Try.func23 rfl (by kernel_rfl)) (nx_calls hbb1 hl (by omega) (by omega) (by omega)) ?_
      rintro e w17 ⟨nx17, rfl, hx17, hE17, hn17⟩
      refine ⟨_, rfl, ?_⟩
      have hs_w17 := (hE17).size
      replace hV := evo_step1 hV hE17 (by first | exact .inl (by omega) | exact .inr (by simp))
      replace ha := ha0.now hV
      replace hl := hl0 _ hV
      replace hR9 := hR90 _ hV
      replace hoR := hoR.evo hE17 (by simp) (by intro g hg hm; simp at hm; subst hm; have := hoR.block hg; omega)
      replace hbb10 := hbb10.evo hE17 (by simp; omega)
      replace hAb10 := hAb10.evo hE17 (by simp; omega)
      replace hbb1 := hn17
      clear hn17
      have hAb1 := hbb1.at
      refine r_nil ?_
      refine r_block ?_
      refine r_seq ?_
      refine r_region ?_
      refine r_op rfl rfl rfl (run_eql rfl (by exact rfl) (by exact rfl)) ?_
      refine r_op rfl rfl rfl (run_asg (v := .bool _) rfl (by exact rfl)) ?_
      refine r_nil ?_
      refine r_cond (by exact rfl) (fun hc18 => ?_) (fun hc18 => ?_)
      · skip
        refine r_exit rfl ?_
        refine r_region ?_
        refine r_op rfl rfl rfl (run_add rfl (by exact rfl) (by exact rfl) (by omega) (by omega)) ?_
        refine r_op rfl rfl rfl (run_mv (v := .int _ _) rfl (by exact rfl)) ?_
        refine r_nil ?_
        refine r_again (k + 1) ?_ ?_ ?_
        · first | omega | (dsimp only; omega)
        · refine ⟨_, _, _, (by first | exact rfl | exact congrArg (Value.int _) (by omega) | exact congrArg (Value.int _) (by dsimp only; omega) | exact congrArg (Value.int _) (by simp) | exact congrArg S (by simp)), rfl, (by first | assumption | omega | (dsimp only; omega) | (simp; done)), (hoR.sub (Nat.le_refl _) (by simp)), hbb1, (by first | omega | (simp; omega)), (by first | assumption | omega | (dsimp only; omega) | (simp; done)), (by first | assumption | omega | (dsimp only; omega) | (simp; done)), hV⟩
        · repeat (first | (with_reducible exact Agree.merge _ _ _) | (with_reducible exact Agree.refl _ _) | (with_reducible refine Agree.upd ?_ _ _ rfl) | ((with_reducible refine Agree.inner ?_ ?_); (kernel_rfl)))
      · skip
        refine r_seq ?_
        refine r_region ?_
        refine r_op rfl rfl rfl (run_eql rfl (by exact rfl) (by exact rfl)) ?_
        refine r_op rfl rfl rfl (run_asg (v := .bool _) rfl (by exact rfl)) ?_
        refine r_nil ?_
        refine r_cond (by exact rfl) (fun hc19 => ?_) (fun hc19 => ?_)
        · skip
          refine r_seq ?_
          refine r_region ?_
          refine r_op rfl rfl rfl (run_mv (v := vo) rfl (by exact rfl)) ?_
          refine r_op rfl rfl rfl (run_fa rfl (by exact rfl) fo_67_0) ?_
          refine r_op rfl rfl rfl (run_ld1 rfl ag_3 (by exact rfl) (hAb10.cell 0 (by exact rfl))) ?_
          refine r_op rfl rfl rfl (run_quow rfl (by exact rfl) (by exact rfl) (by omega)) ?_
          refine r_op rfl rfl rfl (run_bld (pv := [(0, .int _ _)]) (zs := [_, _]) (cells := [_, _]) rfl ty_67 (by exact rfl) pl_67 (by exact rfl) (by exact rfl)) ?_
          refine r_append1R (u := .agg _) (us := [_, _]) rfl rfl Try.underlying22 ty_67 (by exact rfl) rfl rfl hoR (fun _ => (by exact rfl)) (by exact rfl) (by exact rfl) rfl (by exact rfl) (fun w' _ => side_nil w' _) ((by first | omega | (simp; omega))) ((by first | omega | (simp; omega))) (by omega) ?_
          intro q_v20 v20 w21 hEw21 hov20 hlv20
          have hs_w21 := (hEw21).size
          replace hV := evo_stepo hV hEw21 (fun g hg => .inl (by first | exact (hoR.block hg).1 | (have := hoR.block hg; omega)))
          replace ha := ha0.now hV
          replace hl := hl0 _ hV
          replace hR9 := hR90 _ hV
          replace hbb10 := hbb10.evo hEw21 (by intro hm; exact hneR _ (Option.mem_toList.1 hm) rfl)
          replace hAb10 := hAb10.evo hEw21 (by intro hm; exact hneR _ (Option.mem_toList.1 hm) rfl)
          replace hbb1 := hbb1.evo hEw21 (by intro hm; have hm2 := Option.mem_toList.1 hm; have := hoR.block hm2; omega)
          replace hAb1 := hAb1.evo hEw21 (by intro hm; have hm2 := Option.mem_toList.1 hm; have := hoR.block hm2; omega)
          have hne22 : ∀ g, (v20).ownBlock = some g → g ≠ b10 := fun g hg => hlv20.elim (fun h => hneR g (h ▸ hg)) (fun ⟨g2, h, h2⟩ => by rw [h] at hg; injection hg; omega)
          refine r_op rfl rfl rfl (run_asg (v := v20) rfl (by exact rfl)) ?_
          refine r_nil ?_
          refine r_region ?_
          refine r_op rfl rfl rfl (run_fa rfl (by exact rfl) fo_67_0) ?_
          refine r_op rfl rfl rfl (run_ld1 rfl ag_3 (by exact rfl) (hAb10.cell 0 (by exact rfl))) ?_
          refine r_op rfl rfl rfl (run_fa rfl (by exact rfl) fo_67_0) ?_
          refine r_op rfl rfl rfl (run_ld1 rfl ag_3 (by exact rfl) (hAb10.cell 0 (by exact rfl))) ?_
          refine r_op rfl rfl rfl (run_quow rfl (by exact rfl) (by exact rfl) (by omega)) ?_
          refine r_op rfl rfl rfl (run_subw rfl (by exact rfl) (by exact rfl)) ?_
          refine r_op rfl rfl rfl (run_fa rfl (by exact rfl) fo_67_0) ?_
          refine r_store (v := .int _ _) (vs := [_]) (cs' := [_, _]) (by exact rfl) (by exact rfl) hbb10 ty_3 (by exact rfl) rfl (by exact rfl) rfl (by exact rfl) ?_
          intro w23 hEw23 hzw23 hb_new
          have hs_w23 := (hEw23).size
          replace hV := evo_step1 hV hEw23 (by first | exact .inl (by omega) | exact .inr (by simp))
          replace ha := ha0.now hV
          replace hl := hl0 _ hV
          replace hR9 := hR90 _ hV
          replace hbb1 := hbb1.evo hEw23 (by simp; omega)
          replace hAb1 := hAb1.evo hEw23 (by simp; omega)
          replace hov20 := hov20.evo hEw23 (by simp) (by intro g hg hm; simp at hm; exact hne22 g hg hm)
          replace hbb10 := hb_new
          have hAb10 := hbb10.at
          clear hb_new
          refine r_nil ?_
          refine r_blk ?_
          refine r_region ?_
          refine r_op rfl rfl rfl (run_mv (v := v20) rfl (by exact rfl)) ?_
          refine r_op rfl rfl rfl (run_ldN rfl ag_67 ty_67 (by exact rfl) rfl hAb10) ?_
          refine r_append1R (u := .agg _) (us := [_, _]) rfl rfl Try.underlying22 ty_67 (by exact rfl) rfl rfl hov20 (fun _ => (by exact rfl)) (by exact rfl) (by exact rfl) rfl (by exact rfl) (side_row _ hR90 hV (by simp; omega) (fun g hg => by have := hov20.block hg; omega)) ((by first | omega | (simp; omega))) ((by first | omega | (simp; omega))) (by omega) ?_
          intro q_v24 v24 w25 hEw25 hov24 hlv24
          have hs_w25 := (hEw25).size
          replace hV := evo_stepo hV hEw25 (fun g hg => .inl (by first | exact (hov20.block hg).1 | (have := hov20.block hg; omega)))
          replace ha := ha0.now hV
          replace hl := hl0 _ hV
          replace hbb1 := hbb1.evo hEw25 (by intro hm; have hm2 := Option.mem_toList.1 hm; have := hov20.block hm2; omega)
          replace hAb1 := hAb1.evo hEw25 (by intro hm; have hm2 := Option.mem_toList.1 hm; have := hov20.block hm2; omega)
          have hne26 : ∀ g, (v24).ownBlock = some g → g ≠ b10 := fun g hg => hlv24.elim (fun h => hne22 g (h ▸ hg)) (fun ⟨g2, h, h2⟩ => by rw [h] at hg; injection hg; omega)
          refine r_op rfl rfl rfl (run_asg (v := v24) rfl (by exact rfl)) ?_
          refine r_nil ?_
          refine r_blk ?_
          refine r_region ?_
          refine r_op rfl rfl rfl (run_add rfl (by exact rfl) (by exact rfl) (by omega) (by omega)) ?_
          refine r_op rfl rfl rfl (run_mv (v := .int _ _) rfl (by exact rfl)) ?_
          refine r_nil ?_
          refine r_again (k + 1) ?_ ?_ ?_
          · first | omega | (dsimp only; omega)
          · refine ⟨_, _, _, (by first | exact rfl | exact congrArg (Value.int _) (by omega) | exact congrArg (Value.int _) (by dsimp only; omega) | exact congrArg (Value.int _) (by simp) | exact congrArg S (by simp)), rfl, (by first | assumption | omega | (dsimp only; omega) | (simp; done)), (hov24.sub (Nat.le_refl _) (by simp)), hbb1, (by first | omega | (simp; omega)), (by first | assumption | omega | (dsimp only; omega) | (simp; done)), (by first | assumption | omega | (dsimp only; omega) | (simp; done)), hV⟩
          · repeat (first | (with_reducible exact Agree.merge _ _ _) | (with_reducible exact Agree.refl _ _) | (with_reducible refine Agree.upd ?_ _ _ rfl) | ((with_reducible refine Agree.inner ?_ ?_); (kernel_rfl)))
        · skip
          refine r_seq ?_
          refine r_region ?_
          refine r_op rfl rfl rfl (run_eql rfl (by exact rfl) (by exact rfl)) ?_
          refine r_op rfl rfl rfl (run_asg (v := .bool _) rfl (by exact rfl)) ?_
          refine r_nil ?_
          refine r_cond (by exact rfl) (fun hc27 => ?_) (fun hc27 => ?_)
          · skip
            refine r_seq ?_
            refine r_region ?_
            refine r_op rfl rfl rfl (run_mv (v := vo) rfl (by exact rfl)) ?_
            refine r_op rfl rfl rfl (run_lenOR rfl (by exact rfl) Try.underlying22 hoR) ?_
            refine r_op rfl rfl rfl (run_asg (v := .int _ _) rfl (by exact rfl)) ?_
            refine r_nil ?_
            refine r_seq ?_
            refine r_region ?_
            refine r_op rfl rfl rfl (run_mv (v := .int _ _) rfl (by exact rfl)) ?_
            refine r_op rfl rfl rfl (run_gtr rfl (by exact rfl) (by exact rfl)) ?_
            refine r_nil ?_
            refine r_cond (by exact rfl) (fun hc28 => ?_) (fun hc28 => ?_)
            · skip
              refine r_seq ?_
              obtain ⟨ao29, g29, cp29, hv29, hr29⟩ := hoR.rowOf
              subst hv29
              have hbd_hr29 := hr29.bd
              have hbb10_q := hbb10
              have hAb10_q := hAb10
              have hbb1_q := hbb1
              have hAb1_q := hAb1
              have hr29_q := hr29
              have hV_q := hV
              refine h_region [] (by kernel_rfl) ?_
              intro w30 hE31 hC32
              have hs_w30 := (hE31).size
              replace hV := evo_step0 hV hE31
              replace ha := ha0.now hV
              replace hl := hl0 _ hV
              replace hR9 := hR90 _ hV
              replace hoR := hoR.evo0 hE31
              replace hbb10 := hbb10.evo0 hE31
              replace hAb10 := hAb10.evo0 hE31
              replace hbb1 := hbb1.evo0 hE31
              replace hAb1 := hAb1.evo0 hE31
              replace hr29 := hr29.evo0 hE31
              refine h_take (i := 0) (by exact rfl) rfl rfl rfl (by kernel_rfl) (fun w' hC => run_mv (v := .slice _ _ _) rfl (by exact rfl)) hC32 ?_
              refine h_take (i := 1) (by exact rfl) rfl rfl rfl (by kernel_rfl) (fun w' hC => run_mv (v := .int _ _) rfl (by exact rfl)) hC32 ?_
              refine h_take (i := 2) (by exact rfl) rfl rfl rfl (by kernel_rfl) (fun w' hC => run_sub rfl (by exact rfl) (by exact rfl) (by omega) (by omega)) hC32 ?_
              refine h_take (i := 3) (by exact rfl) rfl rfl rfl (by kernel_rfl) (fun w' hC => run_ix (sl.length - 1) rfl Try.underlying22 ty_67 (by exact rfl) (by exact rfl) (by omega) (by omega) (hr29.addr (i := sl.length - 1) (by omega))) hC32 ?_
              obtain ⟨ao33, b33, off33, cap33, hA33_q, hR33_q⟩ := side_at hr29_q (sl.length - 1) (by omega)
              have hA33 := (hA33_q.evo0 hC32)
              have hR33 := (hR33_q.evo0 hC32)
              have hbd_hR33 := hR33.bd
              refine h_take (i := 4) (by exact rfl) rfl rfl rfl (by kernel_rfl) (fun w' hC => run_fa rfl (by exact rfl) fo_67_0) hC32 ?_
              refine h_take (i := 5) (by exact rfl) rfl rfl rfl (by kernel_rfl) (fun w' hC => run_ld1 rfl ag_3 (by exact rfl) ((hA33_q.evo0 hC).cell 0 (by exact rfl))) hC32 ?_
              refine h_take (i := 6) (by exact rfl) rfl rfl rfl (by kernel_rfl) (fun w' hC => run_fa rfl (by exact rfl) fo_67_0) hC32 ?_
              refine h_take (i := 7) (by exact rfl) rfl rfl rfl (by kernel_rfl) (fun w' hC => run_ld1 rfl ag_3 (by exact rfl) ((hAb10_q.evo0 hC).cell 0 (by exact rfl))) hC32 ?_
              refine h_take (i := 8) (by exact rfl) rfl rfl rfl (by kernel_rfl) (fun w' hC => run_addw rfl (by exact rfl) (by exact rfl)) hC32 ?_
              refine h_take (i := 9) (by exact rfl) rfl rfl rfl (by kernel_rfl) (fun w' hC => run_ix (sl.length - 1) rfl Try.underlying22 ty_67 (by exact rfl) (by exact rfl) (by omega) (by omega) (hr29.addr (i := sl.length - 1) (by omega))) hC32 ?_
              obtain ⟨ao34, b34, off34, cap34, hA34_q, hR34_q⟩ := side_at hr29_q (sl.length - 1) (by omega)
              have hA34 := (hA34_q.evo0 hC32)
              have hR34 := (hR34_q.evo0 hC32)
              have hbd_hR34 := hR34.bd
              refine h_take (i := 10) (by exact rfl) rfl rfl rfl (by kernel_rfl) (fun w' hC => run_fa rfl (by exact rfl) fo_67_0) hC32 ?_
              refine h_one (i := 11) (by kernel_rfl) ?_
              refine h_do (by exact rfl) ?_
              refine r_storeLen (z := _) (sl.length - 1) (by exact rfl) (by first | rfl | omega) (by exact rfl) hoR hr29 (by omega) ty_3 ?_
              intro w35 hEw35 hzw35 ho_new
              have hs_w35 := (hEw35).size
              replace hV := evo_stepo hV hEw35 (fun g hg => .inl (by first | exact (hoR.block hg).1 | (have := hoR.block hg; omega)))
              replace ha := ha0.now hV
              replace hl := hl0 _ hV
              replace hR9 := hR90 _ hV
              replace hbb10 := hbb10.evo hEw35 (by intro hm; exact hneR _ (Option.mem_toList.1 hm) rfl)
              replace hAb10 := hAb10.evo hEw35 (by intro hm; exact hneR _ (Option.mem_toList.1 hm) rfl)
              replace hbb1 := hbb1.evo hEw35 (by intro hm; have hm2 := Option.mem_toList.1 hm; have := hoR.block hm2; omega)
              replace hAb1 := hAb1.evo hEw35 (by intro hm; have hm2 := Option.mem_toList.1 hm; have := hoR.block hm2; omega)
              replace hoR := ho_new
              clear ho_new
              refine h_last (by kernel_rfl) ?_
              refine h_done (by kernel_rfl) ?_
              refine r_exit rfl ?_
              refine r_region ?_
              refine r_op rfl rfl rfl (run_add rfl (by exact rfl) (by exact rfl) (by omega) (by omega)) ?_
              refine r_op rfl rfl rfl (run_mv (v := .int _ _) rfl (by exact rfl)) ?_
              refine r_nil ?_
              refine r_again (k + 1) ?_ ?_ ?_
              · first | omega | (dsimp only; omega)
              · refine ⟨_, _, _, (by first | exact rfl | exact congrArg (Value.int _) (by omega) | exact congrArg (Value.int _) (by dsimp only; omega) | exact congrArg (Value.int _) (by simp) | exact congrArg S (by simp)), rfl, (by first | assumption | omega | (dsimp only; omega) | (simp; done)), (hoR.sub (Nat.le_refl _) (by simp)), hbb1, (by first | omega | (simp; omega)), (by first | assumption | omega | (dsimp only; omega) | (simp; done)), (by first | assumption | omega | (dsimp only; omega) | (simp; done)), hV⟩
              · repeat (first | (with_reducible exact Agree.merge _ _ _) | (with_reducible exact Agree.refl _ _) | (with_reducible refine Agree.upd ?_ _ _ rfl) | ((with_reducible refine Agree.inner ?_ ?_); (kernel_rfl)))
            · skip
              refine r_skip ?_
              refine r_blk ?_
              refine r_region ?_
              refine r_op rfl rfl rfl (run_mv (v := vo) rfl (by exact rfl)) ?_
              refine r_op rfl rfl rfl (run_ldN rfl ag_67 ty_67 (by exact rfl) rfl hAb10) ?_
              refine r_append1R (u := .agg _) (us := [_, _]) rfl rfl Try.underlying22 ty_67 (by exact rfl) rfl rfl hoR (fun _ => (by exact rfl)) (by exact rfl) (by exact rfl) rfl (by exact rfl) (side_row _ hR90 hV (by simp; omega) (fun g hg => by have := hoR.block hg; omega)) ((by first | omega | (simp; omega))) ((by first | omega | (simp; omega))) (by omega) ?_
              intro q_v36 v36 w37 hEw37 hov36 hlv36
              have hs_w37 := (hEw37).size
              replace hV := evo_stepo hV hEw37 (fun g hg => .inl (by first | exact (hoR.block hg).1 | (have := hoR.block hg; omega)))
              replace ha := ha0.now hV
              replace hl := hl0 _ hV
              replace hbb1 := hbb1.evo hEw37 (by intro hm; have hm2 := Option.mem_toList.1 hm; have := hoR.block hm2; omega)
              replace hAb1 := hAb1.evo hEw37 (by intro hm; have hm2 := Option.mem_toList.1 hm; have := hoR.block hm2; omega)
              have hne38 : ∀ g, (v36).ownBlock = some g → g ≠ b10 := fun g hg => hlv36.elim (fun h => hneR g (h ▸ hg)) (fun ⟨g2, h, h2⟩ => by rw [h] at hg; injection hg; omega)
              refine r_op rfl rfl rfl (run_asg (v := v36) rfl (by exact rfl)) ?_
              refine r_nil ?_
              refine r_blk ?_
              refine r_region ?_
              refine r_op rfl rfl rfl (run_add rfl (by exact rfl) (by exact rfl) (by omega) (by omega)) ?_
              refine r_op rfl rfl rfl (run_mv (v := .int _ _) rfl (by exact rfl)) ?_
              refine r_nil ?_
              refine r_again (k + 1) ?_ ?_ ?_
              · first | omega | (dsimp only; omega)
              · refine ⟨_, _, _, (by first | exact rfl | exact congrArg (Value.int _) (by omega) | exact congrArg (Value.int _) (by dsimp only; omega) | exact congrArg (Value.int _) (by simp) | exact congrArg S (by simp)), rfl, (by first | assumption | omega | (dsimp only; omega) | (simp; done)), (hov36.sub (Nat.le_refl _) (by simp)), hbb1, (by first | omega | (simp; omega)), (by first | assumption | omega | (dsimp only; omega) | (simp; done)), (by first | assumption | omega | (dsimp only; omega) | (simp; done)), hV⟩
              · repeat (first | (with_reducible exact Agree.merge _ _ _) | (with_reducible exact Agree.refl _ _) | (with_reducible refine Agree.upd ?_ _ _ rfl) | ((with_reducible refine Agree.inner ?_ ?_); (kernel_rfl)))
          · skip
            refine r_skip ?_
            refine r_blk ?_
            refine r_region ?_
            refine r_op rfl rfl rfl (run_mv (v := vo) rfl (by exact rfl)) ?_
            refine r_op rfl rfl rfl (run_ldN rfl ag_67 ty_67 (by exact rfl) rfl hAb10) ?_
            refine r_append1R (u := .agg _) (us := [_, _]) rfl rfl Try.underlying22 ty_67 (by exact rfl) rfl rfl hoR (fun _ => (by exact rfl)) (by exact rfl) (by exact rfl) rfl (by exact rfl) (side_row _ hR90 hV (by simp; omega) (fun g hg => by have := hoR.block hg; omega)) ((by first | omega | (simp; omega))) ((by first | omega | (simp; omega))) (by omega) ?_
            intro q_v39 v39 w40 hEw40 hov39 hlv39
            have hs_w40 := (hEw40).size
            replace hV := evo_stepo hV hEw40 (fun g hg => .inl (by first | exact (hoR.block hg).1 | (have := hoR.block hg; omega)))
            replace ha := ha0.now hV
            replace hl := hl0 _ hV
            replace hbb1 := hbb1.evo hEw40 (by intro hm; have hm2 := Option.mem_toList.1 hm; have := hoR.block hm2; omega)
            replace hAb1 := hAb1.evo hEw40 (by intro hm; have hm2 := Option.mem_toList.1 hm; have := hoR.block hm2; omega)
            have hne41 : ∀ g, (v39).ownBlock = some g → g ≠ b10 := fun g hg => hlv39.elim (fun h => hneR g (h ▸ hg)) (fun ⟨g2, h, h2⟩ => by rw [h] at hg; injection hg; omega)
            refine r_op rfl rfl rfl (run_asg (v := v39) rfl (by exact rfl)) ?_
            refine r_nil ?_
            refine r_blk ?_
            refine r_region ?_
            refine r_op rfl rfl rfl (run_add rfl (by exact rfl) (by exact rfl) (by omega) (by omega)) ?_
            refine r_op rfl rfl rfl (run_mv (v := .int _ _) rfl (by exact rfl)) ?_
            refine r_nil ?_
            refine r_again (k + 1) ?_ ?_ ?_
            · first | omega | (dsimp only; omega)
            · refine ⟨_, _, _, (by first | exact rfl | exact congrArg (Value.int _) (by omega) | exact congrArg (Value.int _) (by dsimp only; omega) | exact congrArg (Value.int _) (by simp) | exact congrArg S (by simp)), rfl, (by first | assumption | omega | (dsimp only; omega) | (simp; done)), (hov39.sub (Nat.le_refl _) (by simp)), hbb1, (by first | omega | (simp; omega)), (by first | assumption | omega | (dsimp only; omega) | (simp; done)), (by first | assumption | omega | (dsimp only; omega) | (simp; done)), hV⟩
            · repeat (first | (with_reducible exact Agree.merge _ _ _) | (with_reducible exact Agree.refl _ _) | (with_reducible refine Agree.upd ?_ _ _ rfl) | ((with_reducible refine Agree.inner ?_ ?_); (kernel_rfl)))
    · skip
      refine r_exit rfl ?_
      refine r_seq ?_
      refine r_region ?_
      refine r_op rfl rfl rfl (run_mv (v := vo) rfl (by exact rfl)) ?_
      refine r_op rfl rfl rfl (run_asg (v := vo) rfl (by exact rfl)) ?_
      refine r_nil ?_
      refine r_ret (res1 (v := vo) rfl (by exact rfl)) ?_
      exact ⟨_, sl, rfl, hV, by omega, hoR.sub (by omega) (by simp)⟩

end Go.Proofs.Ythfahceagabhiaa
