import Derived.Test.YthfahceagabhiaaW10
namespace Go.Proofs.Ythfahceagabhiaa
open Go.RowKit Go.Vc
theorem ag_33 : aggP Try.prog 33 = some false := by kernel_rfl
theorem pl_44 : placesP Try.prog 44 = some [(0, 1), (1, 1), (2, 1)] := by kernel_rfl
theorem ty_33 : tyP Try.prog 33 = some (1, 24, some (.slice none 0 0)) := by kernel_rfl
theorem ty_44 : tyP Try.prog 44 = some (3, 72, some (.agg #[(.slice none 0 0), (.slice none 0 0), (.slice none 0 0)])) := by kernel_rfl
theorem place2_calls {w0 : World} {x n : Int} (hn : 1 ≤ n) (hn2 : n ≤ 1000000000) : Calls Try.prog 20 #[.int .i64 x, .int .i64 n] w0 fun e w' => ∃ r, e = .returned (.int .i64 r) ∧ (0 ≤ r ∧ r < n) ∧ Evo w0 w' [] :=
  (place_calls x n hn hn2).mono fun e w' h => ⟨_, h.1, ⟨Int.emod_nonneg _ (by omega), Int.emod_lt_of_pos _ (by omega)⟩, by rw [← h.2]; exact Evo.refl _ _⟩

theorem price_calls {aoa aob aol : Option Addr} {ba offa capa bb offb capb bl offl capl : Nat} {a b : List Side} {l : List Bead} {w0 : World} (ha : RowR w0 aoa ba offa capa a) (hb : RowR w0 aob bb offb capb b) (hl : RowE w0 aol bl offl capl l) (hn : l.length ≤ 1000000) :
    Calls Try.prog 21 #[.slice aoa a.length capa, .slice aob b.length capb, .slice aol l.length capl] w0 fun e w' => e = .returned (.tuple #[.int .i64 (priceGo a b l 0 0 0).1, .bool (priceGo a b l 0 0 0).2]) ∧ Evo w0 w' [] := by
  refine calls_enter (n := 102) (args := [.slice aoa a.length capa, .slice aob b.length capb, .slice aol l.length capl]) Try.func21 rfl Try.ntmps21 rfl ?_
  have hV : Evo w0 w0 [] := Evo.refl _ _
  have ha0 := ha.keep
  have hbd_ha := ha.bd
  have hb0 := hb.keep
  have hbd_hb := hb.bd
  have hl0 := keepE hl
  have hbd_hl := hl.bd
  refine r_seq ?_
  refine r_region ?_
  refine r_op rfl rfl rfl (run_asg (v := .int _ _) rfl (by exact rfl)) ?_
  refine r_op rfl rfl rfl (run_asg (v := .bool _) rfl (by exact rfl)) ?_
  refine r_nil ?_
  refine r_seq ?_
  refine r_region ?_
  refine r_op rfl rfl rfl (run_asg (v := .int _ _) rfl (by exact rfl)) ?_
  refine r_op rfl rfl rfl (run_asg (v := .int _ _) rfl (by exact rfl)) ?_
  refine r_op rfl rfl rfl (run_asg (v := .int _ _) rfl (by exact rfl)) ?_
  refine r_nil ?_
  refine r_seq ?_
  refine r_seq ?_
  refine r_region ?_
  refine r_op rfl rfl rfl (run_mv (v := .slice _ _ _) rfl (by exact rfl)) ?_
  refine r_op rfl rfl rfl (run_lenSl rfl (by exact rfl) Try.underlying33) ?_
  refine r_op rfl rfl rfl (run_mv (v := .int _ _) rfl (by exact rfl)) ?_
  refine r_nil ?_
  refine r_block ?_
  refine r_loop (α := Nat) [6, 7, 8, 9, 10, 12, 13, 14, 17, 18, 19, 20, 21, 22, 23, 24, 25, 26, 27, 28, 29, 30, 31, 32, 33, 34, 35, 36, 37, 38, 39, 40, 41, 42, 43, 44, 45, 46, 47, 48, 49, 50, 51, 52, 53, 54, 55, 56, 57, 58, 59, 60, 61, 62, 63, 64, 65, 66, 67, 68, 69, 70, 71, 72, 73, 74, 75, 76, 77, 78, 79, 80, 81, 82, 83, 84, 85, 86, 87, 88, 89, 90] (fun k g w => ∃ i0 : Nat, ∃ j0 : Nat, ∃ sm : Int, g 17 = .int .i64 (k : Nat) ∧ g 8 = .int .i64 (i0 : Nat) ∧ g 9 = .int .i64 (j0 : Nat) ∧ g 10 = .int .i64 sm ∧ k ≤ l.length ∧ priceGo a b l 0 0 0 = priceGo a b (l.drop k) i0 j0 sm ∧ i0 ≤ a.length ∧ j0 ≤ b.length ∧ (0 ≤ sm ∧ sm ≤ 200000 * (k : Int)) ∧ w0.heap.size ≤ w.heap.size ∧ Evo w0 w []) (fun k => l.length - k) 0 ?_ ?_
  · refine ⟨0, 0, 0, (by first | exact rfl | exact congrArg (Value.int _) (by omega) | exact congrArg (Value.int _) (by dsimp only; omega) | exact congrArg (Value.int _) (by simp) | exact congrArg S (by simp)), (by first | exact rfl | exact congrArg (Value.int _) (by omega) | exact congrArg (Value.int _) (by dsimp only; omega) | exact congrArg (Value.int _) (by simp) | exact congrArg S (by simp)), (by first | exact rfl | exact congrArg (Value.int _) (by omega) | exact congrArg (Value.int _) (by dsimp only; omega) | exact congrArg (Value.int _) (by simp) | exact congrArg S (by simp)), (by first | exact rfl | exact congrArg (Value.int _) (by omega) | exact congrArg (Value.int _) (by dsimp only; omega) | exact congrArg (Value.int _) (by simp) | exact congrArg S (by simp)), (by first | assumption | omega | (dsimp only; omega) | (simp; done)), rfl, (by first | assumption | omega | (dsimp only; omega) | (simp; done)), (by first | assumption | omega | (dsimp only; omega) | (simp; done)), (by first | assumption | omega | (dsimp only; omega) | (simp; done)), (by first | assumption | omega | (dsimp only; omega) | (simp; done)), hV⟩
  · rintro k g w2 ⟨i0, j0, sm, hj3, hj4, hj5, hj6, hk_k, hpr, hi0, hj0, hsm, hzl1, hV⟩
    have hs_w2hV := hV.size
    replace ha := ha0.now hV
    replace hb := hb0.now hV
    replace hl := hl0 _ hV
    refine r_know (i := 17) (v := .int .i64 (k : Nat)) (by exact hj3) ?_
    refine r_know (i := 8) (v := .int .i64 (i0 : Nat)) (by exact hj4) ?_
    refine r_know (i := 9) (v := .int .i64 (j0 : Nat)) (by exact hj5) ?_
    refine r_know (i := 10) (v := .int .i64 sm) (by exact hj6) ?_
    refine r_seq ?_
    refine r_region ?_
    refine r_op rfl rfl rfl (run_lss rfl (by exact rfl) (by exact rfl)) ?_
    refine r_nil ?_
    refine r_seq ?_
    refine r_cond (by exact rfl) (fun hc7 => ?_) (fun hc7 => ?_)
    · skip
      refine r_skip ?_
      refine r_seq ?_
      refine r_block ?_
      refine r_seq ?_
      have hdr := drop_getD l k (by omega)
      refine r_region ?_
      refine r_op rfl rfl rfl (run_ix (k) rfl Try.underlying33 ty_41 (by exact rfl) (by exact rfl) (by first | exact rfl | omega) (by omega) (hl.addr (i := k) (by omega))) ?_
      have hA80 := fun (w' : World) (h : Evo w0 w' []) => (hl0 w' h).atD (k) (by omega)
      have hA8 := hA80 _ hV
      refine r_op rfl rfl rfl (run_ldN rfl ag_41 ty_41 (by exact rfl) rfl hA8) ?_
      refine r_var (zs := [_, _, _, _]) (vs := [_, _, _, _]) ty_41 (by exact rfl) rfl (by exact rfl) (fun _ => rfl) (by exact rfl) rfl rfl (by exact rfl) ?_
      intro b9 w10 heb9 hEw10 hbb9 hzb9
      have hs_w10 := (hEw10).size
      replace hV := evo_step0 hV hEw10
      replace ha := ha0.now hV
      replace hb := hb0.now hV
      replace hl := hl0 _ hV
      have hAb9 := hbb9.at
      refine r_nil ?_
      refine r_seq ?_
      refine r_seq ?_
      refine r_region ?_
      refine r_op rfl rfl rfl (run_fa rfl (by exact rfl) fo_41_0) ?_
      refine r_op rfl rfl rfl (run_fa rfl (by exact rfl) fo_39_0) ?_
      refine r_op rfl rfl rfl (run_ld1 rfl ag_3 (by exact rfl) (hAb9.cell 0 (by exact rfl))) ?_
      refine r_op rfl rfl rfl (run_mv (v := .int _ _) rfl (by exact rfl)) ?_
      refine r_op rfl rfl rfl (run_neq rfl (by exact rfl) (by exact rfl)) ?_
      refine r_op rfl rfl rfl (run_mv (v := .bool _) rfl (by exact rfl)) ?_
      refine r_g rfl (wantF (by exact rfl)) rfl (fun hg => run_fa rfl (by exact rfl) fo_41_1) ?_
      refine r_g rfl (wantF (by exact rfl)) rfl (fun hg => run_fa rfl (glv (by exact rfl) (fun h => h) hg) fo_39_0) ?_
      refine r_g rfl (wantF (by exact rfl)) rfl (fun hg => run_ld1 rfl ag_3 (glv (by exact rfl) (fun h => h) hg) (hAb9.cell 2 (by exact rfl))) ?_
      refine r_g rfl (wantF (by exact rfl)) rfl (fun hg => run_mv (v := .int _ _) rfl (by exact rfl)) ?_
      refine r_g rfl (wantF (by exact rfl)) rfl (fun hg => run_neq rfl (glv (by exact rfl) (fun h => h) hg) (glv (by exact rfl) (fun h => h) hg)) ?_
      refine r_op rfl rfl rfl (run_pick_or rfl (by exact rfl) rfl (fun hq => glv (by exact rfl) (fun h => h) hq)) ?_
      refine r_op rfl rfl rfl (run_mv (v := .bool _) rfl (by exact rfl)) ?_
      refine r_g rfl (wantF (by exact rfl)) rfl (fun hg => run_fa rfl (by exact rfl) fo_41_0) ?_
      refine r_g rfl (wantF (by exact rfl)) rfl (fun hg => run_fa rfl (glv (by exact rfl) (fun h => h) hg) fo_39_1) ?_
      refine r_g rfl (wantF (by exact rfl)) rfl (fun hg => run_ld1 rfl ag_3 (glv (by exact rfl) (fun h => h) hg) (hAb9.cell 1 (by exact rfl))) ?_
      refine r_g rfl (wantF (by exact rfl)) rfl (fun hg => run_mv (v := .int _ _) rfl (by exact rfl)) ?_
      refine r_g rfl (wantF (by exact rfl)) rfl (fun hg => run_lss rfl (glv (by exact rfl) (fun h => h) hg) (glv (by exact rfl) (fun h => h) hg)) ?_
      refine r_op rfl rfl rfl (run_pick_or rfl (by exact rfl) rfl (fun hq => glv (by exact rfl) (fun h => h) hq)) ?_
      refine r_op rfl rfl rfl (run_mv (v := .bool _) rfl (by exact rfl)) ?_
      refine r_g rfl (wantF (by exact rfl)) rfl (fun hg => run_fa rfl (by exact rfl) fo_41_1) ?_
      refine r_g rfl (wantF (by exact rfl)) rfl (fun hg => run_fa rfl (glv (by exact rfl) (fun h => h) hg) fo_39_1) ?_
      refine r_g rfl (wantF (by exact rfl)) rfl (fun hg => run_ld1 rfl ag_3 (glv (by exact rfl) (fun h => h) hg) (hAb9.cell 3 (by exact rfl))) ?_
      refine r_g rfl (wantF (by exact rfl)) rfl (fun hg => run_mv (v := .int _ _) rfl (by exact rfl)) ?_
      refine r_g rfl (wantF (by exact rfl)) rfl (fun hg => run_lss rfl (glv (by exact rfl) (fun h => h) hg) (glv (by exact rfl) (fun h => h) hg)) ?_
      refine r_op rfl rfl rfl (run_pick_or rfl (by exact rfl) rfl (fun hq => glv (by exact rfl) (fun h => h) hq)) ?_
      refine r_op rfl rfl rfl (run_mv (v := .bool _) rfl (by exact rfl)) ?_
      refine r_g rfl (wantF (by exact rfl)) rfl (fun hg => run_fa rfl (by exact rfl) fo_41_0) ?_
      refine r_g rfl (wantF (by exact rfl)) rfl (fun hg => run_fa rfl (glv (by exact rfl) (fun h => h) hg) fo_39_1) ?_
      refine r_g rfl (wantF (by exact rfl)) rfl (fun hg => run_ld1 rfl ag_3 (glv (by exact rfl) (fun h => h) hg) (hAb9.cell 1 (by exact rfl))) ?_
      refine r_g rfl (wantF (by exact rfl)) rfl (fun hg => run_mv (v := .slice _ _ _) rfl (by exact rfl)) ?_
      refine r_g rfl (wantF (by exact rfl)) rfl (fun hg => run_lenSl rfl (glv (by exact rfl) (fun h => h) hg) Try.underlying22) ?_
      refine r_g rfl (wantF (by exact rfl)) rfl (fun hg => run_gtr rfl (glv (by exact rfl) (fun h => h) hg) (glv (by exact rfl) (fun h => h) hg)) ?_
      refine r_op rfl rfl rfl (run_pick_or rfl (by exact rfl) rfl (fun hq => glv (by exact rfl) (fun h => h) hq)) ?_
      refine r_op rfl rfl rfl (run_mv (v := .bool _) rfl (by exact rfl)) ?_
      refine r_g rfl (wantF (by exact rfl)) rfl (fun hg => run_fa rfl (by exact rfl) fo_41_1) ?_
      refine r_g rfl (wantF (by exact rfl)) rfl (fun hg => run_fa rfl (glv (by exact rfl) (fun h => h) hg) fo_39_1) ?_
      refine r_g rfl (wantF (by exact rfl)) rfl (fun hg => run_ld1 rfl ag_3 (glv (by exact rfl) (fun h => h) hg) (hAb9.cell 3 (by exact rfl))) ?_
      refine r_g rfl (wantF (by exact rfl)) rfl (fun hg => run_mv (v := .slice _ _ _) rfl (by exact rfl)) ?_
      refine r_g rfl (wantF (by exact rfl)) rfl (fun hg => run_lenSl rfl (glv (by exact rfl) (fun h => h) hg) Try.underlying22) ?_
      refine r_g rfl (wantF (by exact rfl)) rfl (fun hg => run_gtr rfl (glv (by exact rfl) (fun h => h) hg) (glv (by exact rfl) (fun h => h) hg)) ?_
      refine r_op rfl rfl rfl (run_pick_or rfl (by exact rfl) rfl (fun hq => glv (by exact rfl) (fun h => h) hq)) ?_
      refine r_nil ?_
      refine r_cond (by exact rfl) (fun hc11 => ?_) (fun hc11 => ?_)
      · skip
        refine r_seq ?_
        refine r_region ?_
        refine r_op rfl rfl rfl (run_asg (v := .int _ _) rfl (by exact rfl)) ?_
        refine r_op rfl rfl rfl (run_asg (v := .bool _) rfl (by exact rfl)) ?_
        refine r_nil ?_
        refine r_ret (res2 (v := .int _ _) (u := .bool _) rfl (by exact rfl) (by exact rfl)) ?_
        exact ⟨by rw [hpr, hdr, price_bad (by omega)], hV⟩
      · skip
        refine r_skip ?_
        refine r_seq ?_
        refine r_qregion (by kernel_rfl) (by kernel_rfl) ?_
        refine q_op rfl rfl rfl (fun w' hC => run_mv (v := .slice _ _ _) rfl (by exact rfl)) ?_
        refine q_op rfl rfl rfl (fun w' hC => run_mv (v := .int _ _) rfl (by exact rfl)) ?_
        refine q_op rfl rfl rfl (fun w' hC => run_fa rfl (by exact rfl) fo_41_0) ?_
        refine q_op rfl rfl rfl (fun w' hC => run_fa rfl (by exact rfl) fo_39_1) ?_
        refine q_op rfl rfl rfl (fun w' hC => run_ld1 rfl ag_3 (by exact rfl) ((hAb9.evo0 hC).cell 1 (by exact rfl))) ?_
        refine q_op rfl rfl rfl (fun w' hC => run_slR (i0) ((l.getD k default).ahi.toNat) rfl Try.underlying22 ty_67 (by exact rfl) (ha.evo0 hC) (at1 (by exact rfl) (by omega)) (at1 (by exact rfl) (by omega)) (by first | omega | (simp; omega)) (by first | omega | (simp; omega)) rfl) ?_
        have hS120 := (ha0.take ((l.getD k default).ahi.toNat)).drop (i0)
        have hS12 := (ha.take ((l.getD k default).ahi.toNat)).drop (i0)
        have hbd_hS12 := hS12.bd
        refine q_op rfl rfl rfl (fun w' hC => run_mv (v := .slice _ _ _) rfl (by exact rfl)) ?_
        refine q_op rfl rfl rfl (fun w' hC => run_mv (v := .int _ _) rfl (by exact rfl)) ?_
        refine q_op rfl rfl rfl (fun w' hC => run_fa rfl (by exact rfl) fo_41_1) ?_
        refine q_op rfl rfl rfl (fun w' hC => run_fa rfl (by exact rfl) fo_39_1) ?_
        refine q_op rfl rfl rfl (fun w' hC => run_ld1 rfl ag_3 (by exact rfl) ((hAb9.evo0 hC).cell 3 (by exact rfl))) ?_
        refine q_op rfl rfl rfl (fun w' hC => run_slR (j0) ((l.getD k default).bhi.toNat) rfl Try.underlying22 ty_67 (by exact rfl) (hb.evo0 hC) (at1 (by exact rfl) (by omega)) (at1 (by exact rfl) (by omega)) (by first | omega | (simp; omega)) (by first | omega | (simp; omega)) rfl) ?_
        have hS130 := (hb0.take ((l.getD k default).bhi.toNat)).drop (j0)
        have hS13 := (hb.take ((l.getD k default).bhi.toNat)).drop (j0)
        have hbd_hS13 := hS13.bd
        refine q_call rfl rfl rfl (fun w' hC => run_callf rfl (argcons (v := .slice _ _ _) (by exact rfl) (argcons (v := .slice _ _ _) (by exact rfl) (rfl))) Try.func14 rfl (by kernel_rfl)) (fun w' hC => (cost_calls (hS12.evo0 hC) (hS13.evo0 hC)).mono (fun e w'' h => ⟨h.1, evo_step0 hC h.2⟩)) ?_
        refine q_op rfl rfl rfl (fun w' hC => run_mv (v := .tuple _) rfl (by exact rfl)) ?_
        refine q_op rfl rfl rfl (fun w' hC => run_extract (v := .int _ _) rfl (by exact rfl) (by exact rfl)) ?_
        refine q_op rfl rfl rfl (fun w' hC => run_extract (v := .bool _) rfl (by exact rfl) (by exact rfl)) ?_
        refine q_op rfl rfl rfl (fun w' hC => run_asg (v := .int _ _) rfl (by exact rfl)) ?_
        refine q_op rfl rfl rfl (fun w' hC => run_asg (v := .bool _) rfl (by exact rfl)) ?_
        refine q_nil (fun w14 hE15 => ?_)
        have hs_w14 := (hE15).size
        replace hV := evo_step0 hV hE15
        replace ha := ha0.now hV
        replace hb := hb0.now hV
        replace hl := hl0 _ hV
        replace hbb9 := hbb9.evo0 hE15
        replace hAb9 := hAb9.evo0 hE15
        refine r_seq ?_
        refine r_seq ?_
        refine r_region ?_
        refine r_op rfl rfl rfl (run_mvb rfl (by exact rfl)) ?_
        refine r_op rfl rfl rfl (run_not rfl (by exact rfl)) ?_
        refine r_nil ?_
        refine r_cond (by exact rfl) (fun hc16 => ?_) (fun hc16 => ?_)
        · skip
          refine r_seq ?_
          refine r_region ?_
          refine r_op rfl rfl rfl (run_asg (v := .int _ _) rfl (by exact rfl)) ?_
          refine r_op rfl rfl rfl (run_asg (v := .bool _) rfl (by exact rfl)) ?_
          refine r_nil ?_
          refine r_ret (res2 (v := .int _ _) (u := .bool _) rfl (by exact rfl) (by exact rfl)) ?_
          exact ⟨by rw [hpr, hdr, price_no (by omega) hc16], hV⟩
        · skip
          refine r_skip ?_
          refine r_seq ?_
          have hcb := our_bd ((a.take (l.getD k default).ahi.toNat).drop i0) ((b.take (l.getD k default).bhi.toNat).drop j0)
          refine r_region ?_
          refine r_op rfl rfl rfl (run_mv (v := .int _ _) rfl (by exact rfl)) ?_
          refine r_op rfl rfl rfl (run_mv (v := .int _ _) rfl (by exact rfl)) ?_
          refine r_op rfl rfl rfl (run_add rfl (by exact rfl) (by exact rfl) (by omega) (by omega)) ?_
          refine r_op rfl rfl rfl (run_asg (v := .int _ _) rfl (by exact rfl)) ?_
          refine r_nil ?_
          refine r_qregion (by kernel_rfl) (by kernel_rfl) ?_
          refine q_op rfl rfl rfl (fun w' hC => run_fa rfl (by exact rfl) fo_41_0) ?_
          refine q_op rfl rfl rfl (fun w' hC => run_fa rfl (by exact rfl) fo_39_1) ?_
          refine q_op rfl rfl rfl (fun w' hC => run_ld1 rfl ag_3 (by exact rfl) ((hAb9.evo0 hC).cell 1 (by exact rfl))) ?_
          refine q_op rfl rfl rfl (fun w' hC => run_fa rfl (by exact rfl) fo_41_1) ?_
          refine q_op rfl rfl rfl (fun w' hC => run_fa rfl (by exact rfl) fo_39_1) ?_
          refine q_op rfl rfl rfl (fun w' hC => run_ld1 rfl ag_3 (by exact rfl) ((hAb9.evo0 hC).cell 3 (by exact rfl))) ?_
          refine q_op rfl rfl rfl (fun w' hC => run_asg (v := .int _ _) rfl (by exact rfl)) ?_
          refine q_op rfl rfl rfl (fun w' hC => run_asg (v := .int _ _) rfl (by exact rfl)) ?_
          refine q_nil (fun w17 hE18 => ?_)
          have hs_w17 := (hE18).size
          replace hV := evo_step0 hV hE18
          replace ha := ha0.now hV
          replace hb := hb0.now hV
          replace hl := hl0 _ hV
          refine r_blk ?_
          refine r_region ?_
          refine r_op rfl rfl rfl (run_add rfl (by exact rfl) (by exact rfl) (by omega) (by omega)) ?_
          refine r_op rfl rfl rfl (run_mv (v := .int _ _) rfl (by exact rfl)) ?_
          refine r_nil ?_
          refine r_again (k + 1) ?_ ?_ ?_
          · first | omega | (dsimp only; omega)
          · refine ⟨(l.getD k default).ahi.toNat, (l.getD k default).bhi.toNat, _, (by first | exact rfl | exact congrArg (Value.int _) (by omega) | exact congrArg (Value.int _) (by dsimp only; omega) | exact congrArg (Value.int _) (by simp) | exact congrArg S (by simp)), (by first | exact rfl | exact congrArg (Value.int _) (by omega) | exact congrArg (Value.int _) (by dsimp only; omega) | exact congrArg (Value.int _) (by simp) | exact congrArg S (by simp)), (by first | exact rfl | exact congrArg (Value.int _) (by omega) | exact congrArg (Value.int _) (by dsimp only; omega) | exact congrArg (Value.int _) (by simp) | exact congrArg S (by simp)), rfl, (by first | assumption | omega | (dsimp only; omega) | (simp; done)), (by rw [hpr, hdr]; exact price_cons (by omega) (Classical.not_not.1 hc16)), (by first | assumption | omega | (dsimp only; omega) | (simp; done)), (by first | assumption | omega | (dsimp only; omega) | (simp; done)), (by first | assumption | omega | (dsimp only; omega) | (simp; done)), (by first | assumption | omega | (dsimp only; omega) | (simp; done)), hV⟩
          · repeat (first | (with_reducible exact Agree.merge _ _ _) | (with_reducible exact Agree.refl _ _) | (with_reducible refine Agree.upd ?_ _ _ rfl) | ((with_reducible refine Agree.inner ?_ ?_); (kernel_rfl)))
    · skip
      refine r_exit rfl ?_
      refine r_seq ?_
      refine r_seq ?_
      refine r_region ?_
      refine r_op rfl rfl rfl (run_mv (v := .int _ _) rfl (by exact rfl)) ?_
      refine r_op rfl rfl rfl (run_mv (v := .slice _ _ _) rfl (by exact rfl)) ?_
      refine r_op rfl rfl rfl (run_lenSl rfl (by exact rfl) Try.underlying22) ?_
      refine r_op rfl rfl rfl (run_lss rfl (by exact rfl) (by exact rfl)) ?_
      refine r_op rfl rfl rfl (run_mv (v := .bool _) rfl (by exact rfl)) ?_
      refine r_g rfl (wantF (by exact rfl)) rfl (fun hg => run_mv (v := .int _ _) rfl (by exact rfl)) ?_
      refine r_g rfl (wantF (by exact rfl)) rfl (fun hg => run_mv (v := .slice _ _ _) rfl (by exact rfl)) ?_
      refine r_g rfl (wantF (by exact rfl)) rfl (fun hg => run_lenSl rfl (glv (by exact rfl) (fun h => h) hg) Try.underlying22) ?_
      refine r_g rfl (wantF (by exact rfl)) rfl (fun hg => run_lss rfl (glv (by exact rfl) (fun h => h) hg) (glv (by exact rfl) (fun h => h) hg)) ?_
      refine r_op rfl rfl rfl (run_pick_or rfl (by exact rfl) rfl (fun hq => glv (by exact rfl) (fun h => h) hq)) ?_
      refine r_nil ?_
      refine r_cond (by exact rfl) (fun hc19 => ?_) (fun hc19 => ?_)
      · skip
        refine r_seq ?_
        refine r_region ?_
        refine r_op rfl rfl rfl (run_asg (v := .int _ _) rfl (by exact rfl)) ?_
        refine r_op rfl rfl rfl (run_asg (v := .bool _) rfl (by exact rfl)) ?_
        refine r_nil ?_
        refine r_ret (res2 (v := .int _ _) (u := .bool _) rfl (by exact rfl) (by exact rfl)) ?_
        exact ⟨by rw [hpr, List.drop_eq_nil_of_le (by omega)]; unfold priceGo; rw [if_neg (by omega)], hV⟩
      · skip
        refine r_skip ?_
        refine r_seq ?_
        refine r_region ?_
        refine r_op rfl rfl rfl (run_mv (v := .int _ _) rfl (by exact rfl)) ?_
        refine r_op rfl rfl rfl (run_asg (v := .int _ _) rfl (by exact rfl)) ?_
        refine r_op rfl rfl rfl (run_asg (v := .bool _) rfl (by exact rfl)) ?_
        refine r_nil ?_
        refine r_ret (res2 (v := .int _ _) (u := .bool _) rfl (by exact rfl) (by exact rfl)) ?_
        exact ⟨by rw [hpr, List.drop_eq_nil_of_le (by omega)]; unfold priceGo; rw [if_pos (by omega)], hV⟩

theorem rprice_calls {aoa aob aol : Option Addr} {ba offa capa bb offb capb bl offl capl : Nat} {a b : List Side} {l : List Bead} {w0 : World} (ha : RowR w0 aoa ba offa capa a) (hb : RowR w0 aob bb offb capb b) (hl : RowE w0 aol bl offl capl l) (hn : l.length ≤ 1000000) :
    Calls Try.prog 22 #[.slice aoa a.length capa, .slice aob b.length capb, .slice aol l.length capl] w0 fun e w' => e = .returned (.tuple #[.int .i64 (priceGo a b l 0 0 0).1, .bool (priceGo a b l 0 0 0).2]) ∧ Evo w0 w' [] := by
  refine calls_enter (n := 102) (args := [.slice aoa a.length capa, .slice aob b.length capb, .slice aol l.length capl]) Try.func22 rfl Try.ntmps22 rfl ?_
  have hV : Evo w0 w0 [] := Evo.refl _ _
  have ha0 := ha.keep
  have hbd_ha := ha.bd
  have hb0 := hb.keep
  have hbd_hb := hb.bd
  have hl0 := keepE hl
  have hbd_hl := hl.bd
  refine r_seq ?_
  refine r_region ?_
  refine r_op rfl rfl rfl (run_asg (v := .int _ _) rfl (by exact rfl)) ?_
  refine r_op rfl rfl rfl (run_asg (v := .bool _) rfl (by exact rfl)) ?_
  refine r_nil ?_
  refine r_seq ?_
  refine r_region ?_
  refine r_op rfl rfl rfl (run_asg (v := .int _ _) rfl (by exact rfl)) ?_
  refine r_op rfl rfl rfl (run_asg (v := .int _ _) rfl (by exact rfl)) ?_
  refine r_op rfl rfl rfl (run_asg (v := .int _ _) rfl (by exact rfl)) ?_
  refine r_nil ?_
  refine r_seq ?_
  refine r_seq ?_
  refine r_region ?_
  refine r_op rfl rfl rfl (run_mv (v := .slice _ _ _) rfl (by exact rfl)) ?_
  refine r_op rfl rfl rfl (run_lenSl rfl (by exact rfl) Try.underlying33) ?_
  refine r_op rfl rfl rfl (run_mv (v := .int _ _) rfl (by exact rfl)) ?_
  refine r_nil ?_
  refine r_block ?_
  refine r_loop (α := Nat) [6, 7, 8, 9, 10, 12, 13, 14, 17, 18, 19, 20, 21, 22, 23, 24, 25, 26, 27, 28, 29, 30, 31, 32, 33, 34, 35, 36, 37, 38, 39, 40, 41, 42, 43, 44, 45, 46, 47, 48, 49, 50, 51, 52, 53, 54, 55, 56, 57, 58, 59, 60, 61, 62, 63, 64, 65, 66, 67, 68, 69, 70, 71, 72, 73, 74, 75, 76, 77, 78, 79, 80, 81, 82, 83, 84, 85, 86, 87, 88, 89, 90] (fun k g w => ∃ i0 : Nat, ∃ j0 : Nat, ∃ sm : Int, g 17 = .int .i64 (k : Nat) ∧ g 8 = .int .i64 (i0 : Nat) ∧ g 9 = .int .i64 (j0 : Nat) ∧ g 10 = .int .i64 sm ∧ k ≤ l.length ∧ priceGo a b l 0 0 0 = priceGo a b (l.drop k) i0 j0 sm ∧ i0 ≤ a.length ∧ j0 ≤ b.length ∧ (0 ≤ sm ∧ sm ≤ 200000 * (k : Int)) ∧ w0.heap.size ≤ w.heap.size ∧ Evo w0 w []) (fun k => l.length - k) 0 ?_ ?_
  · refine ⟨0, 0, 0, (by first | exact rfl | exact congrArg (Value.int _) (by omega) | exact congrArg (Value.int _) (by dsimp only; omega) | exact congrArg (Value.int _) (by simp) | exact congrArg S (by simp)), (by first | exact rfl | exact congrArg (Value.int _) (by omega) | exact congrArg (Value.int _) (by dsimp only; omega) | exact congrArg (Value.int _) (by simp) | exact congrArg S (by simp)), (by first | exact rfl | exact congrArg (Value.int _) (by omega) | exact congrArg (Value.int _) (by dsimp only; omega) | exact congrArg (Value.int _) (by simp) | exact congrArg S (by simp)), (by first | exact rfl | exact congrArg (Value.int _) (by omega) | exact congrArg (Value.int _) (by dsimp only; omega) | exact congrArg (Value.int _) (by simp) | exact congrArg S (by simp)), (by first | assumption | omega | (dsimp only; omega) | (simp; done)), rfl, (by first | assumption | omega | (dsimp only; omega) | (simp; done)), (by first | assumption | omega | (dsimp only; omega) | (simp; done)), (by first | assumption | omega | (dsimp only; omega) | (simp; done)), (by first | assumption | omega | (dsimp only; omega) | (simp; done)), hV⟩
  · rintro k g w2 ⟨i0, j0, sm, hj3, hj4, hj5, hj6, hk_k, hpr, hi0, hj0, hsm, hzl1, hV⟩
    have hs_w2hV := hV.size
    replace ha := ha0.now hV
    replace hb := hb0.now hV
    replace hl := hl0 _ hV
    refine r_know (i := 17) (v := .int .i64 (k : Nat)) (by exact hj3) ?_
    refine r_know (i := 8) (v := .int .i64 (i0 : Nat)) (by exact hj4) ?_
    refine r_know (i := 9) (v := .int .i64 (j0 : Nat)) (by exact hj5) ?_
    refine r_know (i := 10) (v := .int .i64 sm) (by exact hj6) ?_
    refine r_seq ?_
    refine r_region ?_
    refine r_op rfl rfl rfl (run_lss rfl (by exact rfl) (by exact rfl)) ?_
    refine r_nil ?_
    refine r_seq ?_
    refine r_cond (by exact rfl) (fun hc7 => ?_) (fun hc7 => ?_)
    · skip
      refine r_skip ?_
      refine r_seq ?_
      refine r_block ?_
      refine r_seq ?_
      have hdr := drop_getD l k (by omega)
      refine r_region ?_
      refine r_op rfl rfl rfl (run_ix (k) rfl Try.underlying33 ty_41 (by exact rfl) (by exact rfl) (by first | exact rfl | omega) (by omega) (hl.addr (i := k) (by omega))) ?_
      have hA80 := fun (w' : World) (h : Evo w0 w' []) => (hl0 w' h).atD (k) (by omega)
      have hA8 := hA80 _ hV
      refine r_op rfl rfl rfl (run_ldN rfl ag_41 ty_41 (by exact rfl) rfl hA8) ?_
      refine r_var (zs := [_, _, _, _]) (vs := [_, _, _, _]) ty_41 (by exact rfl) rfl (by exact rfl) (fun _ => rfl) (by exact rfl) rfl rfl (by exact rfl) ?_
      intro b9 w10 heb9 hEw10 hbb9 hzb9
      have hs_w10 := (hEw10).size
      replace hV := evo_step0 hV hEw10
      replace ha := ha0.now hV
      replace hb := hb0.now hV
      replace hl := hl0 _ hV
      have hAb9 := hbb9.at
      refine r_nil ?_
      refine r_seq ?_
      refine r_seq ?_
      refine r_region ?_
      refine r_op rfl rfl rfl (run_fa rfl (by exact rfl) fo_41_0) ?_
      refine r_op rfl rfl rfl (run_fa rfl (by exact rfl) fo_39_0) ?_
      refine r_op rfl rfl rfl (run_ld1 rfl ag_3 (by exact rfl) (hAb9.cell 0 (by exact rfl))) ?_
      refine r_op rfl rfl rfl (run_mv (v := .int _ _) rfl (by exact rfl)) ?_
      refine r_op rfl rfl rfl (run_neq rfl (by exact rfl) (by exact rfl)) ?_
      refine r_op rfl rfl rfl (run_mv (v := .bool _) rfl (by exact rfl)) ?_
      refine r_g rfl (wantF (by exact rfl)) rfl (fun hg => run_fa rfl (by exact rfl) fo_41_1) ?_
      refine r_g rfl (wantF (by exact rfl)) rfl (fun hg => run_fa rfl (glv (by exact rfl) (fun h => h) hg) fo_39_0) ?_
      refine r_g rfl (wantF (by exact rfl)) rfl (fun hg => run_ld1 rfl ag_3 (glv (by exact rfl) (fun h => h) hg) (hAb9.cell 2 (by exact rfl))) ?_
      refine r_g rfl (wantF (by exact rfl)) rfl (fun hg => run_mv (v := .int _ _) rfl (by exact rfl)) ?_
      refine r_g rfl (wantF (by exact rfl)) rfl (fun hg => run_neq rfl (glv (by exact rfl) (fun h => h) hg) (glv (by exact rfl) (fun h => h) hg)) ?_
      refine r_op rfl rfl rfl (run_pick_or rfl (by exact rfl) rfl (fun hq => glv (by exact rfl) (fun h => h) hq)) ?_
      refine r_op rfl rfl rfl (run_mv (v := .bool _) rfl (by exact rfl)) ?_
      refine r_g rfl (wantF (by exact rfl)) rfl (fun hg => run_fa rfl (by exact rfl) fo_41_0) ?_
      refine r_g rfl (wantF (by exact rfl)) rfl (fun hg => run_fa rfl (glv (by exact rfl) (fun h => h) hg) fo_39_1) ?_
      refine r_g rfl (wantF (by exact rfl)) rfl (fun hg => run_ld1 rfl ag_3 (glv (by exact rfl) (fun h => h) hg) (hAb9.cell 1 (by exact rfl))) ?_
      refine r_g rfl (wantF (by exact rfl)) rfl (fun hg => run_mv (v := .int _ _) rfl (by exact rfl)) ?_
      refine r_g rfl (wantF (by exact rfl)) rfl (fun hg => run_lss rfl (glv (by exact rfl) (fun h => h) hg) (glv (by exact rfl) (fun h => h) hg)) ?_
      refine r_op rfl rfl rfl (run_pick_or rfl (by exact rfl) rfl (fun hq => glv (by exact rfl) (fun h => h) hq)) ?_
      refine r_op rfl rfl rfl (run_mv (v := .bool _) rfl (by exact rfl)) ?_
      refine r_g rfl (wantF (by exact rfl)) rfl (fun hg => run_fa rfl (by exact rfl) fo_41_0) ?_
      refine r_g rfl (wantF (by exact rfl)) rfl (fun hg => run_fa rfl (glv (by exact rfl) (fun h => h) hg) fo_39_1) ?_
      refine r_g rfl (wantF (by exact rfl)) rfl (fun hg => run_ld1 rfl ag_3 (glv (by exact rfl) (fun h => h) hg) (hAb9.cell 1 (by exact rfl))) ?_
      refine r_g rfl (wantF (by exact rfl)) rfl (fun hg => run_mv (v := .slice _ _ _) rfl (by exact rfl)) ?_
      refine r_g rfl (wantF (by exact rfl)) rfl (fun hg => run_lenSl rfl (glv (by exact rfl) (fun h => h) hg) Try.underlying22) ?_
      refine r_g rfl (wantF (by exact rfl)) rfl (fun hg => run_gtr rfl (glv (by exact rfl) (fun h => h) hg) (glv (by exact rfl) (fun h => h) hg)) ?_
      refine r_op rfl rfl rfl (run_pick_or rfl (by exact rfl) rfl (fun hq => glv (by exact rfl) (fun h => h) hq)) ?_
      refine r_op rfl rfl rfl (run_mv (v := .bool _) rfl (by exact rfl)) ?_
      refine r_g rfl (wantF (by exact rfl)) rfl (fun hg => run_fa rfl (by exact rfl) fo_41_1) ?_
      refine r_g rfl (wantF (by exact rfl)) rfl (fun hg => run_fa rfl (glv (by exact rfl) (fun h => h) hg) fo_39_1) ?_
      refine r_g rfl (wantF (by exact rfl)) rfl (fun hg => run_ld1 rfl ag_3 (glv (by exact rfl) (fun h => h) hg) (hAb9.cell 3 (by exact rfl))) ?_
      refine r_g rfl (wantF (by exact rfl)) rfl (fun hg => run_mv (v := .int _ _) rfl (by exact rfl)) ?_
      refine r_g rfl (wantF (by exact rfl)) rfl (fun hg => run_lss rfl (glv (by exact rfl) (fun h => h) hg) (glv (by exact rfl) (fun h => h) hg)) ?_
      refine r_op rfl rfl rfl (run_pick_or rfl (by exact rfl) rfl (fun hq => glv (by exact rfl) (fun h => h) hq)) ?_
      refine r_op rfl rfl rfl (run_mv (v := .bool _) rfl (by exact rfl)) ?_
      refine r_g rfl (wantF (by exact rfl)) rfl (fun hg => run_fa rfl (by exact rfl) fo_41_1) ?_
      refine r_g rfl (wantF (by exact rfl)) rfl (fun hg => run_fa rfl (glv (by exact rfl) (fun h => h) hg) fo_39_1) ?_
      refine r_g rfl (wantF (by exact rfl)) rfl (fun hg => run_ld1 rfl ag_3 (glv (by exact rfl) (fun h => h) hg) (hAb9.cell 3 (by exact rfl))) ?_
      refine r_g rfl (wantF (by exact rfl)) rfl (fun hg => run_mv (v := .slice _ _ _) rfl (by exact rfl)) ?_
      refine r_g rfl (wantF (by exact rfl)) rfl (fun hg => run_lenSl rfl (glv (by exact rfl) (fun h => h) hg) Try.underlying22) ?_
      refine r_g rfl (wantF (by exact rfl)) rfl (fun hg => run_gtr rfl (glv (by exact rfl) (fun h => h) hg) (glv (by exact rfl) (fun h => h) hg)) ?_
      refine r_op rfl rfl rfl (run_pick_or rfl (by exact rfl) rfl (fun hq => glv (by exact rfl) (fun h => h) hq)) ?_
      refine r_nil ?_
      refine r_cond (by exact rfl) (fun hc11 => ?_) (fun hc11 => ?_)
      · skip
        refine r_seq ?_
        refine r_region ?_
        refine r_op rfl rfl rfl (run_asg (v := .int _ _) rfl (by exact rfl)) ?_
        refine r_op rfl rfl rfl (run_asg (v := .bool _) rfl (by exact rfl)) ?_
        refine r_nil ?_
        refine r_ret (res2 (v := .int _ _) (u := .bool _) rfl (by exact rfl) (by exact rfl)) ?_
        exact ⟨by rw [hpr, hdr, price_bad (by omega)], hV⟩
      · skip
        refine r_skip ?_
        refine r_seq ?_
        refine r_qregion (by kernel_rfl) (by kernel_rfl) ?_
        refine q_op rfl rfl rfl (fun w' hC => run_mv (v := .slice _ _ _) rfl (by exact rfl)) ?_
        refine q_op rfl rfl rfl (fun w' hC => run_mv (v := .int _ _) rfl (by exact rfl)) ?_
        refine q_op rfl rfl rfl (fun w' hC => run_fa rfl (by exact rfl) fo_41_0) ?_
        refine q_op rfl rfl rfl (fun w' hC => run_fa rfl (by exact rfl) fo_39_1) ?_
        refine q_op rfl rfl rfl (fun w' hC => run_ld1 rfl ag_3 (by exact rfl) ((hAb9.evo0 hC).cell 1 (by exact rfl))) ?_
        refine q_op rfl rfl rfl (fun w' hC => run_slR (i0) ((l.getD k default).ahi.toNat) rfl Try.underlying22 ty_67 (by exact rfl) (ha.evo0 hC) (at1 (by exact rfl) (by omega)) (at1 (by exact rfl) (by omega)) (by first | omega | (simp; omega)) (by first | omega | (simp; omega)) rfl) ?_
        have hS120 := (ha0.take ((l.getD k default).ahi.toNat)).drop (i0)
        have hS12 := (ha.take ((l.getD k default).ahi.toNat)).drop (i0)
        have hbd_hS12 := hS12.bd
        refine q_op rfl rfl rfl (fun w' hC => run_mv (v := .slice _ _ _) rfl (by exact rfl)) ?_
        refine q_op rfl rfl rfl (fun w' hC => run_mv (v := .int _ _) rfl (by exact rfl)) ?_
        refine q_op rfl rfl rfl (fun w' hC => run_fa rfl (by exact rfl) fo_41_1) ?_
        refine q_op rfl rfl rfl (fun w' hC => run_fa rfl (by exact rfl) fo_39_1) ?_
        refine q_op rfl rfl rfl (fun w' hC => run_ld1 rfl ag_3 (by exact rfl) ((hAb9.evo0 hC).cell 3 (by exact rfl))) ?_
        refine q_op rfl rfl rfl (fun w' hC => run_slR (j0) ((l.getD k default).bhi.toNat) rfl Try.underlying22 ty_67 (by exact rfl) (hb.evo0 hC) (at1 (by exact rfl) (by omega)) (at1 (by exact rfl) (by omega)) (by first | omega | (simp; omega)) (by first | omega | (simp; omega)) rfl) ?_
        have hS130 := (hb0.take ((l.getD k default).bhi.toNat)).drop (j0)
        have hS13 := (hb.take ((l.getD k default).bhi.toNat)).drop (j0)
        have hbd_hS13 := hS13.bd
        refine q_call rfl rfl rfl (fun w' hC => run_callf rfl (argcons (v := .slice _ _ _) (by exact rfl) (argcons (v := .slice _ _ _) (by exact rfl) (rfl))) Try.func15 rfl (by kernel_rfl)) (fun w' hC => (rcost2_calls (hS12.evo0 hC) (hS13.evo0 hC)).mono (fun e w'' h => ⟨h.1, evo_step0 hC h.2⟩)) ?_
        refine q_op rfl rfl rfl (fun w' hC => run_mv (v := .tuple _) rfl (by exact rfl)) ?_
        refine q_op rfl rfl rfl (fun w' hC => run_extract (v := .int _ _) rfl (by exact rfl) (by exact rfl)) ?_
        refine q_op rfl rfl rfl (fun w' hC => run_extract (v := .bool _) rfl (by exact rfl) (by exact rfl)) ?_
        refine q_op rfl rfl rfl (fun w' hC => run_asg (v := .int _ _) rfl (by exact rfl)) ?_
        refine q_op rfl rfl rfl (fun w' hC => run_asg (v := .bool _) rfl (by exact rfl)) ?_
        refine q_nil (fun w14 hE15 => ?_)
        have hs_w14 := (hE15).size
        replace hV := evo_step0 hV hE15
        replace ha := ha0.now hV
        replace hb := hb0.now hV
        replace hl := hl0 _ hV
        replace hbb9 := hbb9.evo0 hE15
        replace hAb9 := hAb9.evo0 hE15
        refine r_seq ?_
        refine r_seq ?_
        refine r_region ?_
        refine r_op rfl rfl rfl (run_mvb rfl (by exact rfl)) ?_
        refine r_op rfl rfl rfl (run_not rfl (by exact rfl)) ?_
        refine r_nil ?_
        refine r_cond (by exact rfl) (fun hc16 => ?_) (fun hc16 => ?_)
        · skip
          refine r_seq ?_
          refine r_region ?_
          refine r_op rfl rfl rfl (run_asg (v := .int _ _) rfl (by exact rfl)) ?_
          refine r_op rfl rfl rfl (run_asg (v := .bool _) rfl (by exact rfl)) ?_
          refine r_nil ?_
          refine r_ret (res2 (v := .int _ _) (u := .bool _) rfl (by exact rfl) (by exact rfl)) ?_
          exact ⟨by rw [hpr, hdr, price_no (by omega) hc16], hV⟩
        · skip
          refine r_skip ?_
          refine r_seq ?_
          have hcb := our_bd ((a.take (l.getD k default).ahi.toNat).drop i0) ((b.take (l.getD k default).bhi.toNat).drop j0)
          refine r_region ?_
          refine r_op rfl rfl rfl (run_mv (v := .int _ _) rfl (by exact rfl)) ?_
          refine r_op rfl rfl rfl (run_mv (v := .int _ _) rfl (by exact rfl)) ?_
          refine r_op rfl rfl rfl (run_add rfl (by exact rfl) (by exact rfl) (by omega) (by omega)) ?_
          refine r_op rfl rfl rfl (run_asg (v := .int _ _) rfl (by exact rfl)) ?_
          refine r_nil ?_
          refine r_qregion (by kernel_rfl) (by kernel_rfl) ?_
          refine q_op rfl rfl rfl (fun w' hC => run_fa rfl (by exact rfl) fo_41_0) ?_
          refine q_op rfl rfl rfl (fun w' hC => run_fa rfl (by exact rfl) fo_39_1) ?_
          refine q_op rfl rfl rfl (fun w' hC => run_ld1 rfl ag_3 (by exact rfl) ((hAb9.evo0 hC).cell 1 (by exact rfl))) ?_
          refine q_op rfl rfl rfl (fun w' hC => run_fa rfl (by exact rfl) fo_41_1) ?_
          refine q_op rfl rfl rfl (fun w' hC => run_fa rfl (by exact rfl) fo_39_1) ?_
          refine q_op rfl rfl rfl (fun w' hC => run_ld1 rfl ag_3 (by exact rfl) ((hAb9.evo0 hC).cell 3 (by exact rfl))) ?_
          refine q_op rfl rfl rfl (fun w' hC => run_asg (v := .int _ _) rfl (by exact rfl)) ?_
          refine q_op rfl rfl rfl (fun w' hC => run_asg (v := .int _ _) rfl (by exact rfl)) ?_
          refine q_nil (fun w17 hE18 => ?_)
          have hs_w17 := (hE18).size
          replace hV := evo_step0 hV hE18
          replace ha := ha0.now hV
          replace hb := hb0.now hV
          replace hl := hl0 _ hV
          refine r_blk ?_
          refine r_region ?_
          refine r_op rfl rfl rfl (run_add rfl (by exact rfl) (by exact rfl) (by omega) (by omega)) ?_
          refine r_op rfl rfl rfl (run_mv (v := .int _ _) rfl (by exact rfl)) ?_
          refine r_nil ?_
          refine r_again (k + 1) ?_ ?_ ?_
          · first | omega | (dsimp only; omega)
          · refine ⟨(l.getD k default).ahi.toNat, (l.getD k default).bhi.toNat, _, (by first | exact rfl | exact congrArg (Value.int _) (by omega) | exact congrArg (Value.int _) (by dsimp only; omega) | exact congrArg (Value.int _) (by simp) | exact congrArg S (by simp)), (by first | exact rfl | exact congrArg (Value.int _) (by omega) | exact congrArg (Value.int _) (by dsimp only; omega) | exact congrArg (Value.int _) (by simp) | exact congrArg S (by simp)), (by first | exact rfl | exact congrArg (Value.int _) (by omega) | exact congrArg (Value.int _) (by dsimp only; omega) | exact congrArg (Value.int _) (by simp) | exact congrArg S (by simp)), rfl, (by first | assumption | omega | (dsimp only; omega) | (simp; done)), (by rw [hpr, hdr]; exact price_cons (by omega) (Classical.not_not.1 hc16)), (by first | assumption | omega | (dsimp only; omega) | (simp; done)), (by first | assumption | omega | (dsimp only; omega) | (simp; done)), (by first | assumption | omega | (dsimp only; omega) | (simp; done)), (by first | assumption | omega | (dsimp only; omega) | (simp; done)), hV⟩
          · repeat (first | (with_reducible exact Agree.merge _ _ _) | (with_reducible exact Agree.refl _ _) | (with_reducible refine Agree.upd ?_ _ _ rfl) | ((with_reducible refine Agree.inner ?_ ?_); (kernel_rfl)))
    · skip
      refine r_exit rfl ?_
      refine r_seq ?_
      refine r_seq ?_
      refine r_region ?_
      refine r_op rfl rfl rfl (run_mv (v := .int _ _) rfl (by exact rfl)) ?_
      refine r_op rfl rfl rfl (run_mv (v := .slice _ _ _) rfl (by exact rfl)) ?_
      refine r_op rfl rfl rfl (run_lenSl rfl (by exact rfl) Try.underlying22) ?_
      refine r_op rfl rfl rfl (run_neq rfl (by exact rfl) (by exact rfl)) ?_
      refine r_op rfl rfl rfl (run_mv (v := .bool _) rfl (by exact rfl)) ?_
      refine r_g rfl (wantF (by exact rfl)) rfl (fun hg => run_mv (v := .int _ _) rfl (by exact rfl)) ?_
      refine r_g rfl (wantF (by exact rfl)) rfl (fun hg => run_mv (v := .slice _ _ _) rfl (by exact rfl)) ?_
      refine r_g rfl (wantF (by exact rfl)) rfl (fun hg => run_lenSl rfl (glv (by exact rfl) (fun h => h) hg) Try.underlying22) ?_
      refine r_g rfl (wantF (by exact rfl)) rfl (fun hg => run_neq rfl (glv (by exact rfl) (fun h => h) hg) (glv (by exact rfl) (fun h => h) hg)) ?_
      refine r_op rfl rfl rfl (run_pick_or rfl (by exact rfl) rfl (fun hq => glv (by exact rfl) (fun h => h) hq)) ?_
      refine r_nil ?_
      refine r_cond (by exact rfl) (fun hc19 => ?_) (fun hc19 => ?_)
      · skip
        refine r_seq ?_
        refine r_region ?_
        refine r_op rfl rfl rfl (run_asg (v := .int _ _) rfl (by exact rfl)) ?_
        refine r_op rfl rfl rfl (run_asg (v := .bool _) rfl (by exact rfl)) ?_
        refine r_nil ?_
        refine r_ret (res2 (v := .int _ _) (u := .bool _) rfl (by exact rfl) (by exact rfl)) ?_
        exact ⟨by rw [hpr, List.drop_eq_nil_of_le (by omega)]; unfold priceGo; rw [if_neg (by omega)], hV⟩
      · skip
        refine r_skip ?_
        refine r_seq ?_
        refine r_region ?_
        refine r_op rfl rfl rfl (run_mv (v := .int _ _) rfl (by exact rfl)) ?_
        refine r_op rfl rfl rfl (run_asg (v := .int _ _) rfl (by exact rfl)) ?_
        refine r_op rfl rfl rfl (run_asg (v := .bool _) rfl (by exact rfl)) ?_
        refine r_nil ?_
        refine r_ret (res2 (v := .int _ _) (u := .bool _) rfl (by exact rfl) (by exact rfl)) ?_
        exact ⟨by rw [hpr, List.drop_eq_nil_of_le (by omega)]; unfold priceGo; rw [if_pos (by omega)], hV⟩

theorem tri_rows {w : World} {ao1 ao2 ao3 : Option Addr} {b1 b2 b3 o1 o2 o3 c1 c2 c3 : Nat} {l1 l2 l3 : List Bead} (h1 : RowE w ao1 b1 o1 c1 l1) (h2 : RowE w ao2 b2 o2 c2 l2) (h3 : RowE w ao3 b3 o3 c3 l3) (n1 : l1.length ≤ 1000) (n2 : l2.length ≤ 1000) (n3 : l3.length ≤ 1000) (x : Nat) (hx : x < 3) :
    ∃ ao b o c, ∃ l : List Bead, ([.slice ao1 l1.length c1, .slice ao2 l2.length c2, .slice ao3 l3.length c3] : List Value)[x]? = some (.slice ao l.length c) ∧ RowE w ao b o c l ∧ l.length ≤ 1000 := by
  match x, hx with
  | 0, _ => exact ⟨_, _, _, _, l1, rfl, h1, n1⟩
  | 1, _ => exact ⟨_, _, _, _, l2, rfl, h2, n2⟩
  | 2, _ => exact ⟨_, _, _, _, l3, rfl, h3, n3⟩

theorem prices_law {aod : Option Addr} {bd offd capd : Nat} {bds : List Bead} {at_ by_ : Int} {aol aom : Option Addr} {bl offl capl bm offm capm : Nat} {l m : List Int} {w0 : World} (hbd : RowE w0 aod bd offd capd bds) (hl : RowE w0 aol bl offl capl l) (hm : RowE w0 aom bm offm capm m) :
    Calls Try.prog 7 #[.slice aod bds.length capd, .slice aol l.length capl, .slice aom m.length capm, .int .i64 at_, .int .i64 by_] w0 fun e w' => e = .returned (.bool true) ∧ Evo w0 w' [] := by
  refine calls_enter (n := 114) (args := [.slice aod bds.length capd, .slice aol l.length capl, .slice aom m.length capm, .int .i64 at_, .int .i64 by_]) Try.func7 rfl Try.ntmps7 rfl ?_
  have hV : Evo w0 w0 [] := Evo.refl _ _
  have hbd0 := keepE hbd
  have hbd_hbd := hbd.bd
  have hl0 := keepE hl
  have hbd_hl := hl.bd
  have hm0 := keepE hm
  have hbd_hm := hm.bd
  refine r_seq ?_
  refine r_region ?_
  refine r_op rfl rfl rfl (run_asg (v := .bool _) rfl (by exact rfl)) ?_
  refine r_nil ?_
  refine r_seq ?_
  refine r_seq ?_
  refine r_region ?_
  refine r_op rfl rfl rfl (run_mv (v := .slice _ _ _) rfl (by exact rfl)) ?_
  refine r_op rfl rfl rfl (run_lenSl rfl (by exact rfl) Try.underlying33) ?_
  refine r_op rfl rfl rfl (run_gtr rfl (by exact rfl) (by exact rfl)) ?_
  refine r_op rfl rfl rfl (run_mv (v := .bool _) rfl (by exact rfl)) ?_
  refine r_g rfl (wantF (by exact rfl)) rfl (fun hg => run_mv (v := .slice _ _ _) rfl (by exact rfl)) ?_
  refine r_g rfl (wantF (by exact rfl)) rfl (fun hg => run_lenSl rfl (glv (by exact rfl) (fun h => h) hg) Try.underlying23) ?_
  refine r_g rfl (wantF (by exact rfl)) rfl (fun hg => run_gtr rfl (glv (by exact rfl) (fun h => h) hg) (by exact rfl)) ?_
  refine r_op rfl rfl rfl (run_pick_or rfl (by exact rfl) rfl (fun hq => glv (by exact rfl) (fun h => h) hq)) ?_
  refine r_op rfl rfl rfl (run_mv (v := .bool _) rfl (by exact rfl)) ?_
  refine r_g rfl (wantF (by exact rfl)) rfl (fun hg => run_mv (v := .slice _ _ _) rfl (by exact rfl)) ?_
  refine r_g rfl (wantF (by exact rfl)) rfl (fun hg => run_lenSl rfl (glv (by exact rfl) (fun h => h) hg) Try.underlying23) ?_
  refine r_g rfl (wantF (by exact rfl)) rfl (fun hg => run_gtr rfl (glv (by exact rfl) (fun h => h) hg) (by exact rfl)) ?_
  refine r_op rfl rfl rfl (run_pick_or rfl (by exact rfl) rfl (fun hq => glv (by exact rfl) (fun h => h) hq)) ?_
  refine r_nil ?_
  refine r_cond (by exact rfl) (fun hc1 => ?_) (fun hc1 => ?_)
  · skip
    refine r_seq ?_
    refine r_region ?_
    refine r_opcall rfl rfl rfl (run_callf (vs := []) rfl (by exact rfl) Try.func12 rfl (by kernel_rfl)) known_callsD ?_
    rintro e w2 ⟨rfl, hE2⟩
    refine ⟨_, rfl, ?_⟩
    have hs_w2 := (hE2).size
    replace hV := evo_step0 hV hE2
    replace hbd := hbd0 _ hV
    replace hl := hl0 _ hV
    replace hm := hm0 _ hV
    refine r_op rfl rfl rfl (run_asg (v := .bool _) rfl (by exact rfl)) ?_
    refine r_nil ?_
    refine r_ret (res1 (v := .bool _) rfl (by exact rfl)) ?_
    exact ⟨rfl, hV⟩
  · skip
    refine r_skip ?_
    refine r_seq ?_
    refine r_region ?_
    refine r_op rfl rfl rfl (run_mv (v := .slice _ _ _) rfl (by exact rfl)) ?_
    refine r_opcall rfl rfl rfl (run_callf (vs := [.slice _ _ _, .int _ _]) rfl (by exact rfl) Try.func13 rfl (by kernel_rfl)) (made_calls hl (by omega) (by omega)) ?_
    rintro e w3 ⟨vm3, sm3, rfl, hE3, hsm3, hor3⟩
    refine ⟨_, rfl, ?_⟩
    have hs_w3 := (hE3).size
    replace hV := evo_step0 hV hE3
    replace hbd := hbd0 _ hV
    replace hl := hl0 _ hV
    replace hm := hm0 _ hV
    refine r_op rfl rfl rfl (run_asg (v := vm3) rfl (by exact rfl)) ?_
    refine r_nil ?_
    refine r_seq ?_
    refine r_region ?_
    refine r_op rfl rfl rfl (run_mv (v := vm3) rfl (by exact rfl)) ?_
    refine r_op rfl rfl rfl (run_mv (v := .slice _ _ _) rfl (by exact rfl)) ?_
    obtain ⟨ao4, g4, cp4, hv4, hr4⟩ := hor3.rowOf
    subst hv4
    have hbd_hr4 := hr4.bd
    refine r_opcall rfl rfl rfl (run_callf (vs := [.slice _ _ _, .slice _ _ _]) rfl (by exact rfl) Try.func16 rfl (by kernel_rfl)) (near_calls hr4 hm (by omega)) ?_
    rintro e w5 ⟨vn5, sn5, rfl, hE5, hsn5, hor5⟩
    refine ⟨_, rfl, ?_⟩
    have hs_w5 := (hE5).size
    replace hV := evo_step0 hV hE5
    replace hbd := hbd0 _ hV
    replace hl := hl0 _ hV
    replace hm := hm0 _ hV
    replace hor3 := hor3.evo0 hE5
    replace hr4 := hr4.evo0 hE5
    refine r_op rfl rfl rfl (run_asg (v := vn5) rfl (by exact rfl)) ?_
    refine r_nil ?_
    refine r_seq ?_
    refine r_region ?_
    refine r_op rfl rfl rfl (run_mv (v := .slice _ _ _) rfl (by exact rfl)) ?_
    refine r_op rfl rfl rfl (run_mv (v := vn5) rfl (by exact rfl)) ?_
    obtain ⟨ao6, g6, cp6, hv6, hr6⟩ := hor5.rowOf
    subst hv6
    have hbd_hr6 := hr6.bd
    refine r_opcall rfl rfl rfl (run_callf (vs := [.slice _ _ _, .slice _ _ _]) rfl (by exact rfl) Try.func18 rfl (by kernel_rfl)) (ralign_calls hr4 hr6) ?_
    rintro e w7 ⟨va7, rfl, hE7, hx7⟩
    refine ⟨_, rfl, ?_⟩
    have hs_w7 := (hE7).size
    replace hV := evo_step0 hV hE7
    replace hbd := hbd0 _ hV
    replace hl := hl0 _ hV
    replace hm := hm0 _ hV
    replace hor3 := hor3.evo0 hE7
    replace hr4 := hr4.evo0 hE7
    replace hor5 := hor5.evo0 hE7
    replace hr6 := hr6.evo0 hE7
    refine r_op rfl rfl rfl (run_mv (v := .tuple _) rfl (by exact rfl)) ?_
    refine r_op rfl rfl rfl (run_extract (v := va7) rfl (by exact rfl) (by exact rfl)) ?_
    refine r_op rfl rfl rfl (run_extract (v := .int _ _) rfl (by exact rfl) (by exact rfl)) ?_
    refine r_op rfl rfl rfl (run_extract (v := .int _ _) rfl (by exact rfl) (by exact rfl)) ?_
    refine r_op rfl rfl rfl (run_asg (v := va7) rfl (by exact rfl)) ?_
    refine r_op rfl rfl rfl (run_asg (v := .int _ _) rfl (by exact rfl)) ?_
    refine r_op rfl rfl rfl (run_asg (v := .int _ _) rfl (by exact rfl)) ?_
    refine r_nil ?_
    refine r_seq ?_
    have hbl : (alignL sm3 sn5).1.length ≤ 1000 := by rw [(align_ok sm3 sn5 (by omega) (by omega)).2.1]; have := trc_len (cst := costF ourCost sm3 sn5) (la := sm3.length) (lb := sn5.length) _ 0 0 (Nat.zero_le _) (Nat.zero_le _) (Nat.le_refl _); omega
    have hQ : Evo w7 w7 [] := Evo.refl _ _
    have hsa0 := hr4.keep
    have hsa := hsa0.now hQ
    have hbd_hsa := hsa.bd
    have hsb0 := hr6.keep
    have hsb := hsb0.now hQ
    have hbd_hsb := hsb.bd
    obtain ⟨ao8, g8, cp8, hv8, hr8, hg8⟩ := hx7.rowOf
    subst hv8
    have hbs0 := keepE hr8
    have hbs := hbs0 _ hQ
    have hbd_hbs := hbs.bd
    refine r_region ?_
    refine r_op rfl rfl rfl (run_mv (v := .slice _ _ _) rfl (by exact rfl)) ?_
    refine r_appendE rfl Try.underlying33 ty_41 (by exact rfl) (OwnE.nil (α := Bead) _ w7.heap.size _) (by exact rfl) (by exact rfl) hbs rfl (by simp; omega) (by simp; omega) (by omega) ?_
    intro v9 w10 hEw10 hov9 hlv9
    have hs_w10 := (hEw10).size
    replace hV := evo_step0 hV hEw10
    replace hQ := evo_step0 hQ hEw10
    replace hbd := hbd0 _ hV
    replace hl := hl0 _ hV
    replace hm := hm0 _ hV
    replace hor3 := hor3.evo0 hEw10
    replace hr4 := hr4.evo0 hEw10
    replace hor5 := hor5.evo0 hEw10
    replace hr6 := hr6.evo0 hEw10
    replace hx7 := hx7.evo0 hEw10
    replace hsa := hsa0.now hQ
    replace hsb := hsb0.now hQ
    replace hr8 := hr8.evo0 hEw10
    replace hbs := hbs0 _ hQ
    refine r_op rfl rfl rfl (run_asg (v := v9) rfl (by exact rfl)) ?_
    refine r_nil ?_
    refine r_seq ?_
    refine r_seq ?_
    rw [List.nil_append] at hov9
    refine r_region ?_
    refine r_op rfl rfl rfl (run_mv (v := v9) rfl (by exact rfl)) ?_
    refine r_op rfl rfl rfl (run_lenOE rfl (by exact rfl) Try.underlying33 hov9) ?_
    refine r_op rfl rfl rfl (run_gtr rfl (by exact rfl) (by exact rfl)) ?_
    refine r_nil ?_
    refine r_cut [16, 17, 55, 56, 57, 58, 59, 60, 61, 62, 63, 64, 65, 66, 67, 68, 69, 70, 71] (fun g w => ∃ vc : Value, ∃ lc : List Bead, g 16 = vc ∧ OwnE w w7.heap.size 41 vc lc ∧ lc.length = (alignL sm3 sn5).1.length ∧ w10.heap.size ≤ w.heap.size ∧ Evo w0 w [] ∧ Evo w7 w []) ?_ ?_
    · skip
      refine r_cond (by exact rfl) (fun hc12 => ?_) (fun hc12 => ?_)
      · skip
        refine r_seq ?_
        refine r_region ?_
        refine r_op rfl rfl rfl (run_mv (v := .int _ _) rfl (by exact rfl)) ?_
        refine r_op rfl rfl rfl (run_mv (v := v9) rfl (by exact rfl)) ?_
        refine r_op rfl rfl rfl (run_lenOE rfl (by exact rfl) Try.underlying33 hov9) ?_
        refine r_opcall rfl rfl rfl (run_callf (vs := [.int _ _, .int _ _]) rfl (by exact rfl) Try.func20 rfl (by kernel_rfl)) (place2_calls (by omega) (by omega)) ?_
        rintro e w13 ⟨px13, rfl, hpx13, hE13⟩
        refine ⟨_, rfl, ?_⟩
        have hs_w13 := (hE13).size
        replace hV := evo_step0 hV hE13
        replace hQ := evo_step0 hQ hE13
        replace hbd := hbd0 _ hV
        replace hl := hl0 _ hV
        replace hm := hm0 _ hV
        replace hor3 := hor3.evo0 hE13
        replace hr4 := hr4.evo0 hE13
        replace hor5 := hor5.evo0 hE13
        replace hr6 := hr6.evo0 hE13
        replace hx7 := hx7.evo0 hE13
        replace hsa := hsa0.now hQ
        replace hsb := hsb0.now hQ
        replace hr8 := hr8.evo0 hE13
        replace hbs := hbs0 _ hQ
        replace hov9 := hov9.evo0 hE13
        refine r_op rfl rfl rfl (run_asg (v := .int _ _) rfl (by exact rfl)) ?_
        refine r_nil ?_
        obtain ⟨ao14, g14, cp14, hv14, hr14, hg14⟩ := hov9.rowOf
        subst hv14
        have hr14_q := hr14
        have hV_q := hV
        have hQ_q := hQ
        refine h_region [] (by kernel_rfl) ?_
        intro w15 hE16 hC17
        have hs_w15 := (hE16).size
        replace hV := evo_step0 hV hE16
        replace hQ := evo_step0 hQ hE16
        replace hbd := hbd0 _ hV
        replace hl := hl0 _ hV
        replace hm := hm0 _ hV
        replace hor3 := hor3.evo0 hE16
        replace hr4 := hr4.evo0 hE16
        replace hor5 := hor5.evo0 hE16
        replace hr6 := hr6.evo0 hE16
        replace hx7 := hx7.evo0 hE16
        replace hsa := hsa0.now hQ
        replace hsb := hsb0.now hQ
        replace hr8 := hr8.evo0 hE16
        replace hbs := hbs0 _ hQ
        replace hov9 := hov9.evo0 hE16
        replace hr14 := hr14.evo0 hE16
        refine h_take (i := 0) (by exact rfl) rfl rfl rfl (by kernel_rfl) (fun w' hC => run_mv (v := .slice _ _ _) rfl (by exact rfl)) hC17 ?_
        refine h_take (i := 1) (by exact rfl) rfl rfl rfl (by kernel_rfl) (fun w' hC => run_mv (v := .int _ _) rfl (by exact rfl)) hC17 ?_
        refine h_take (i := 2) (by exact rfl) rfl rfl rfl (by kernel_rfl) (fun w' hC => run_ix (px13.toNat) rfl Try.underlying33 ty_41 (by exact rfl) (by exact rfl) (by omega) (by omega) (hr14.addr (i := px13.toNat) (by omega))) hC17 ?_
        have hA18 := hr14.atD (px13.toNat) (by omega)
        have hA18_q := hr14_q.atD (px13.toNat) (by omega)
        refine h_take (i := 3) (by exact rfl) rfl rfl rfl (by kernel_rfl) (fun w' hC => run_fa rfl (by exact rfl) fo_41_0) hC17 ?_
        refine h_take (i := 4) (by exact rfl) rfl rfl rfl (by kernel_rfl) (fun w' hC => run_fa rfl (by exact rfl) fo_39_1) hC17 ?_
        refine h_take (i := 5) (by exact rfl) rfl rfl rfl (by kernel_rfl) (fun w' hC => run_ld1 rfl ag_3 (by exact rfl) ((hA18_q.evo0 hC).cell 1 (by exact rfl))) hC17 ?_
        refine h_take (i := 6) (by exact rfl) rfl rfl rfl (by kernel_rfl) (fun w' hC => run_mv (v := .int _ _) rfl (by exact rfl)) hC17 ?_
        refine h_one (i := 7) (by kernel_rfl) ?_
        refine h_do (by exact rfl) ?_
        refine r_opcall rfl rfl rfl (run_callf (vs := [.int _ _, .int _ _]) rfl (by exact rfl) Try.func20 rfl (by kernel_rfl)) (place2_calls (by omega) (by omega)) ?_
        rintro e w19 ⟨px19, rfl, hpx19, hE19⟩
        refine ⟨_, rfl, ?_⟩
        have hs_w19 := (hE19).size
        replace hV := evo_step0 hV hE19
        replace hQ := evo_step0 hQ hE19
        replace hC17 := evo_step0 hC17 hE19
        replace hbd := hbd0 _ hV
        replace hl := hl0 _ hV
        replace hm := hm0 _ hV
        replace hor3 := hor3.evo0 hE19
        replace hr4 := hr4.evo0 hE19
        replace hor5 := hor5.evo0 hE19
        replace hr6 := hr6.evo0 hE19
        replace hx7 := hx7.evo0 hE19
        replace hsa := hsa0.now hQ
        replace hsb := hsb0.now hQ
        replace hr8 := hr8.evo0 hE19
        replace hbs := hbs0 _ hQ
        replace hov9 := hov9.evo0 hE19
        replace hr14 := hr14.evo0 hE19
        refine h_next hC17 ?_
        refine h_take (i := 8) (by exact rfl) rfl rfl rfl (by kernel_rfl) (fun w' hC => run_subw rfl (by exact rfl) (by exact rfl)) hC17 ?_
        refine h_take (i := 9) (by exact rfl) rfl rfl rfl (by kernel_rfl) (fun w' hC => run_addw rfl (by exact rfl) (by exact rfl)) hC17 ?_
        refine h_take (i := 10) (by exact rfl) rfl rfl rfl (by kernel_rfl) (fun w' hC => run_ix (px13.toNat) rfl Try.underlying33 ty_41 (by exact rfl) (by exact rfl) (by omega) (by omega) (hr14.addr (i := px13.toNat) (by omega))) hC17 ?_
        have hA20 := hr14.atD (px13.toNat) (by omega)
        have hA20_q := hr14_q.atD (px13.toNat) (by omega)
        refine h_take (i := 11) (by exact rfl) rfl rfl rfl (by kernel_rfl) (fun w' hC => run_fa rfl (by exact rfl) fo_41_0) hC17 ?_
        refine h_take (i := 12) (by exact rfl) rfl rfl rfl (by kernel_rfl) (fun w' hC => run_fa rfl (by exact rfl) fo_39_1) hC17 ?_
        refine h_one (i := 13) (by kernel_rfl) ?_
        refine h_do (by exact rfl) ?_
        refine r_storeE (u := .int _ _) (vs := [_]) (px13.toNat) 1 ⟨_, _, _, _⟩ (by exact rfl) rfl (by first | rfl | omega) (by exact rfl) hov9 hr14 (by omega) ty_3 (by exact rfl) rfl (by exact rfl) rfl (by show [_, _, _, _] = [_, _, _, _]; first | (dsimp only; done) | exact rfl | (dsimp only; exact rfl)) ?_
        intro w21 hEw21 hzw21 ho_new
        have hs_w21 := (hEw21).size
        replace hV := evo_stepo hV hEw21 (fun g hg => .inl (by first | exact (hov9.block hg).1 | (have := hov9.block hg; omega)))
        replace hQ := evo_stepo hQ hEw21 (fun g hg => .inl (by first | exact (hov9.block hg).1 | (have := hov9.block hg; omega)))
        replace hbd := hbd0 _ hV
        replace hl := hl0 _ hV
        replace hm := hm0 _ hV
        replace hsa := hsa0.now hQ
        replace hsb := hsb0.now hQ
        replace hbs := hbs0 _ hQ
        replace hov9 := ho_new
        clear ho_new
        refine h_last (by kernel_rfl) ?_
        refine h_done (by kernel_rfl) ?_
        refine r_cut_end ?_ ?_
        · refine ⟨_, _, rfl, (hov9.base_le (by omega)), (by simp), (by first | assumption | omega | (dsimp only; omega) | (simp; done)), hV, hQ⟩
        · repeat (first | (with_reducible exact Agree.merge _ _ _) | (with_reducible exact Agree.refl _ _) | (with_reducible refine Agree.upd ?_ _ _ rfl) | ((with_reducible refine Agree.inner ?_ ?_); (kernel_rfl)))
      · skip
        refine r_skip ?_
        refine r_cut_end ?_ ?_
        · refine ⟨_, _, rfl, (hov9.base_le (by omega)), (by simp), (by first | assumption | omega | (dsimp only; omega) | (simp; done)), hV, hQ⟩
        · repeat (first | (with_reducible exact Agree.merge _ _ _) | (with_reducible exact Agree.refl _ _) | (with_reducible refine Agree.upd ?_ _ _ rfl) | ((with_reducible refine Agree.inner ?_ ?_); (kernel_rfl)))
    · rintro g w22 ⟨vc, lc, hj23, hch, hcl, hzl11, hV, hQ⟩
      have hs_w22hV := hV.size
      have hs_w22hQ := hQ.size
      replace hbd := hbd0 _ hV
      replace hl := hl0 _ hV
      replace hm := hm0 _ hV
      replace hsa := hsa0.now hQ
      replace hsb := hsb0.now hQ
      replace hbs := hbs0 _ hQ
      refine r_know (i := 16) (v := vc) (by exact hj23) ?_
      refine r_seq ?_
      refine r_seq ?_
      have hQ2 : Evo w22 w22 [] := Evo.refl _ _
      obtain ⟨ao24, g24, cp24, hv24, hr24, hg24⟩ := hch.rowOf
      subst hv24
      have hcg0 := keepE hr24
      have hcg := hcg0 _ hQ2
      have hbd_hcg := hcg.bd
      refine r_region ?_
      refine r_op rfl rfl rfl (run_mv (v := .slice _ _ _) rfl (by exact rfl)) ?_
      refine r_op rfl rfl rfl (run_mv (v := .slice _ _ _) rfl (by exact rfl)) ?_
      refine r_op rfl rfl rfl (run_mv (v := .slice _ _ _) rfl (by exact rfl)) ?_
      refine r_op rfl rfl rfl (run_bld (pv := [(0, .slice _ _ _), (1, .slice _ _ _), (2, .slice _ _ _)]) (zs := [_, _, _]) (cells := [_, _, _]) rfl ty_44 (by exact rfl) pl_44 (by exact rfl) (by exact rfl)) ?_
      refine r_op rfl rfl rfl (run_mv (v := .int _ _) rfl (by exact rfl)) ?_
      refine r_nil ?_
      refine r_block ?_
      have hpr := tri_rows hbd hbs hcg (by omega) (by omega) (by omega)
      refine r_loop (α := Nat) [10, 19, 20, 21, 22, 23, 76, 77, 78, 79, 80, 81, 82, 83, 84, 85, 86, 87, 88, 89, 90, 91, 92, 93, 94, 95, 96, 97, 98, 99, 100, 101, 102, 103, 104, 105, 106, 107, 108, 109, 110, 111, 112] (fun x g w => g 76 = .int .i64 (x : Nat) ∧ x ≤ 3 ∧ w22.heap.size ≤ w.heap.size ∧ Evo w0 w [] ∧ Evo w7 w [] ∧ Evo w22 w []) (fun x => 3 - x) 0 ?_ ?_
      · refine ⟨(by first | exact rfl | exact congrArg (Value.int _) (by omega) | exact congrArg (Value.int _) (by dsimp only; omega) | exact congrArg (Value.int _) (by simp) | exact congrArg S (by simp)), (by first | assumption | omega | (dsimp only; omega) | (simp; done)), (by first | assumption | omega | (dsimp only; omega) | (simp; done)), hV, hQ, hQ2⟩
      · rintro x g w26 ⟨hj27, hk_x, hzl25, hV, hQ, hQ2⟩
        have hs_w26hV := hV.size
        have hs_w26hQ := hQ.size
        have hs_w26hQ2 := hQ2.size
        replace hbd := hbd0 _ hV
        replace hl := hl0 _ hV
        replace hm := hm0 _ hV
        replace hsa := hsa0.now hQ
        replace hsb := hsb0.now hQ
        replace hbs := hbs0 _ hQ
        replace hcg := hcg0 _ hQ2
        refine r_know (i := 76) (v := .int .i64 (x : Nat)) (by exact hj27) ?_
        refine r_seq ?_
        refine r_region ?_
        refine r_op rfl rfl rfl (run_lss rfl (by exact rfl) (by exact rfl)) ?_
        refine r_nil ?_
        refine r_seq ?_
        refine r_cond (by exact rfl) (fun hc28 => ?_) (fun hc28 => ?_)
        · skip
          refine r_skip ?_
          refine r_seq ?_
          refine r_block ?_
          refine r_seq ?_
          obtain ⟨aoX, bX, oX, cX, lX, hcs, hX00, hXn⟩ := hpr x (by omega)
          have hX0 := keepE hX00
          have hX := hX0 _ hQ2
          refine r_region ?_
          refine r_op rfl rfl rfl (run_ixA1 (v := .slice _ _ _) (x) rfl Try.underlying44 ty_33 ag_33 (by exact rfl) (by exact rfl) (by first | exact rfl | omega) (by omega) hcs) ?_
          refine r_op rfl rfl rfl (run_asg (v := .slice _ _ _) rfl (by exact rfl)) ?_
          refine r_nil ?_
          refine r_seq ?_
          refine r_region ?_
          refine r_op rfl rfl rfl (run_mv (v := .slice _ _ _) rfl (by exact rfl)) ?_
          refine r_op rfl rfl rfl (run_mv (v := .slice _ _ _) rfl (by exact rfl)) ?_
          refine r_op rfl rfl rfl (run_mv (v := .slice _ _ _) rfl (by exact rfl)) ?_
          refine r_opcall rfl rfl rfl (run_callf (vs := [.slice _ _ _, .slice _ _ _, .slice _ _ _]) rfl (by exact rfl) Try.func21 rfl (by kernel_rfl)) (price_calls hsa hsb hX (by omega)) ?_
          rintro e w29 ⟨rfl, hE29⟩
          refine ⟨_, rfl, ?_⟩
          have hs_w29 := (hE29).size
          replace hV := evo_step0 hV hE29
          replace hQ := evo_step0 hQ hE29
          replace hQ2 := evo_step0 hQ2 hE29
          replace hbd := hbd0 _ hV
          replace hl := hl0 _ hV
          replace hm := hm0 _ hV
          replace hsa := hsa0.now hQ
          replace hsb := hsb0.now hQ
          replace hbs := hbs0 _ hQ
          replace hcg := hcg0 _ hQ2
          replace hX := hX0 _ hQ2
          refine r_op rfl rfl rfl (run_mv (v := .tuple _) rfl (by exact rfl)) ?_
          refine r_op rfl rfl rfl (run_extract (v := .int _ _) rfl (by exact rfl) (by exact rfl)) ?_
          refine r_op rfl rfl rfl (run_extract (v := .bool _) rfl (by exact rfl) (by exact rfl)) ?_
          refine r_op rfl rfl rfl (run_asg (v := .int _ _) rfl (by exact rfl)) ?_
          refine r_op rfl rfl rfl (run_asg (v := .bool _) rfl (by exact rfl)) ?_
          refine r_nil ?_
          refine r_seq ?_
          refine r_region ?_
          refine r_op rfl rfl rfl (run_mv (v := .slice _ _ _) rfl (by exact rfl)) ?_
          refine r_op rfl rfl rfl (run_mv (v := .slice _ _ _) rfl (by exact rfl)) ?_
          refine r_op rfl rfl rfl (run_mv (v := .slice _ _ _) rfl (by exact rfl)) ?_
          refine r_opcall rfl rfl rfl (run_callf (vs := [.slice _ _ _, .slice _ _ _, .slice _ _ _]) rfl (by exact rfl) Try.func22 rfl (by kernel_rfl)) (rprice_calls hsa hsb hX (by omega)) ?_
          rintro e w30 ⟨rfl, hE30⟩
          refine ⟨_, rfl, ?_⟩
          have hs_w30 := (hE30).size
          replace hV := evo_step0 hV hE30
          replace hQ := evo_step0 hQ hE30
          replace hQ2 := evo_step0 hQ2 hE30
          replace hbd := hbd0 _ hV
          replace hl := hl0 _ hV
          replace hm := hm0 _ hV
          replace hsa := hsa0.now hQ
          replace hsb := hsb0.now hQ
          replace hbs := hbs0 _ hQ
          replace hcg := hcg0 _ hQ2
          replace hX := hX0 _ hQ2
          refine r_op rfl rfl rfl (run_mv (v := .tuple _) rfl (by exact rfl)) ?_
          refine r_op rfl rfl rfl (run_extract (v := .int _ _) rfl (by exact rfl) (by exact rfl)) ?_
          refine r_op rfl rfl rfl (run_extract (v := .bool _) rfl (by exact rfl) (by exact rfl)) ?_
          refine r_op rfl rfl rfl (run_asg (v := .int _ _) rfl (by exact rfl)) ?_
          refine r_op rfl rfl rfl (run_asg (v := .bool _) rfl (by exact rfl)) ?_
          refine r_nil ?_
          refine r_seq ?_
          refine r_region ?_
          refine r_op rfl rfl rfl (run_mvb rfl (by exact rfl)) ?_
          refine r_op rfl rfl rfl (run_mvb rfl (by exact rfl)) ?_
          refine r_op rfl rfl rfl (run_bneq rfl Try.underlying4 (by exact rfl) (by exact rfl)) ?_
          refine r_op rfl rfl rfl (run_mv (v := .bool _) rfl (by exact rfl)) ?_
          refine r_g rfl (wantF (by exact rfl)) rfl (fun hg => run_mvb rfl (by exact rfl)) ?_
          refine r_g rfl (wantF (by exact rfl)) rfl (fun hg => run_mv (v := .bool _) rfl (glv (by exact rfl) (fun h => h) hg)) ?_
          refine r_g rfl (wantTg (by exact rfl)) rfl (fun hg => run_mv (v := .int _ _) rfl (by exact rfl)) ?_
          refine r_g rfl (wantTg (by exact rfl)) rfl (fun hg => run_mv (v := .int _ _) rfl (by exact rfl)) ?_
          refine r_g rfl (wantTg (by exact rfl)) rfl (fun hg => run_neq rfl (glv (by exact rfl) (fun h => h) hg) (glv (by exact rfl) (fun h => h) hg)) ?_
          refine r_g rfl (wantF (by exact rfl)) rfl (fun hg => run_pick_and rfl (glv (by exact rfl) (fun h => h) hg) (fun hq => glv (by exact rfl) (fun h => h) (And.intro hg hq)) rfl) ?_
          refine r_op rfl rfl rfl (run_pick_or rfl (by exact rfl) rfl (fun hq => glv (by exact rfl) (fun h => h) hq)) ?_
          refine r_op rfl rfl rfl (run_mv (v := .bool _) rfl (by exact rfl)) ?_
          refine r_g rfl (wantF (by exact rfl)) rfl (fun hg => run_mvb rfl (by exact rfl)) ?_
          refine r_g rfl (wantF (by exact rfl)) rfl (fun hg => run_not rfl (glv (by exact rfl) (fun h => h) hg)) ?_
          refine r_g rfl (wantF (by exact rfl)) rfl (fun hg => run_mv (v := .bool _) rfl (glv (by exact rfl) (fun h => h) hg)) ?_
          refine r_g rfl (wantTg (by exact rfl)) rfl (fun hg => run_mv (v := .int _ _) rfl (by exact rfl)) ?_
          refine r_g rfl (wantTg (by exact rfl)) rfl (fun hg => run_neq rfl (glv (by exact rfl) (fun h => h) hg) (by exact rfl)) ?_
          refine r_g rfl (wantF (by exact rfl)) rfl (fun hg => run_pick_and rfl (glv (by exact rfl) (fun h => h) hg) (fun hq => glv (by exact rfl) (fun h => h) (And.intro hg hq)) rfl) ?_
          refine r_op rfl rfl rfl (run_pick_or rfl (by exact rfl) rfl (fun hq => glv (by exact rfl) (fun h => h) hq)) ?_
          refine r_nil ?_
          refine r_cond (by exact rfl) (fun hc31 => ?_) (fun hc31 => ?_)
          · skip
            exfalso; simp at hc31; exact hc31.2 (price_zero _ _ _ _ _ _ hc31.1)
          · skip
            refine r_skip ?_
            refine r_blk ?_
            refine r_region ?_
            refine r_op rfl rfl rfl (run_add rfl (by exact rfl) (by exact rfl) (by omega) (by omega)) ?_
            refine r_op rfl rfl rfl (run_mv (v := .int _ _) rfl (by exact rfl)) ?_
            refine r_nil ?_
            refine r_again (x + 1) ?_ ?_ ?_
            · first | omega | (dsimp only; omega)
            · refine ⟨(by first | exact rfl | exact congrArg (Value.int _) (by omega) | exact congrArg (Value.int _) (by dsimp only; omega) | exact congrArg (Value.int _) (by simp) | exact congrArg S (by simp)), (by first | assumption | omega | (dsimp only; omega) | (simp; done)), (by first | assumption | omega | (dsimp only; omega) | (simp; done)), hV, hQ, hQ2⟩
            · repeat (first | (with_reducible exact Agree.merge _ _ _) | (with_reducible exact Agree.refl _ _) | (with_reducible refine Agree.upd ?_ _ _ rfl) | ((with_reducible refine Agree.inner ?_ ?_); (kernel_rfl)))
        · skip
          refine r_exit rfl ?_
          refine r_seq ?_
          refine r_region ?_
          refine r_opcall rfl rfl rfl (run_callf (vs := []) rfl (by exact rfl) Try.func12 rfl (by kernel_rfl)) known_callsD ?_
          rintro e w32 ⟨rfl, hE32⟩
          refine ⟨_, rfl, ?_⟩
          have hs_w32 := (hE32).size
          replace hV := evo_step0 hV hE32
          replace hQ := evo_step0 hQ hE32
          replace hQ2 := evo_step0 hQ2 hE32
          replace hbd := hbd0 _ hV
          replace hl := hl0 _ hV
          replace hm := hm0 _ hV
          replace hsa := hsa0.now hQ
          replace hsb := hsb0.now hQ
          replace hbs := hbs0 _ hQ
          replace hcg := hcg0 _ hQ2
          refine r_op rfl rfl rfl (run_asg (v := .bool _) rfl (by exact rfl)) ?_
          refine r_nil ?_
          refine r_ret (res1 (v := .bool _) rfl (by exact rfl)) ?_
          exact ⟨rfl, hV⟩

end Go.Proofs.Ythfahceagabhiaa
