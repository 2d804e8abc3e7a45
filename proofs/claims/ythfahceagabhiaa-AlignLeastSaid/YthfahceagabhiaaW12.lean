import Derived.Test.YthfahceagabhiaaW11
namespace Go.Proofs.Ythfahceagabhiaa
open Go.RowKit Go.Vc

theorem least_law {aol aom aoc : Option Addr} {bl offl capl bm offm capm bc offc capc : Nat} {l m ch : List Int} {w0 : World} (hl1 : RowE w0 aol bl offl capl l) (hm : RowE w0 aom bm offm capm m) (hl : RowE w0 aoc bc offc capc ch) :
    Calls Try.prog 8 #[.slice aol l.length capl, .slice aom m.length capm, .slice aoc ch.length capc] w0 fun e w' => e = .returned (.bool true) ∧ Evo w0 w' [] := by
  refine calls_enter (n := 146) (args := [.slice aol l.length capl, .slice aom m.length capm, .slice aoc ch.length capc]) Try.func8 rfl Try.ntmps8 rfl ?_
  have hV : Evo w0 w0 [] := Evo.refl _ _
  have hl10 := keepE hl1
  have hbd_hl1 := hl1.bd
  have hm0 := keepE hm
  have hbd_hm := hm.bd
  have hl0 := keepE hl
  have hbd_hl := hl.bd
  refine r_seq ?_
  refine r_region ?_
  refine r_op rfl rfl rfl (run_asg (v := .bool _) rfl (by exact rfl)) ?_
  refine r_nil ?_
  refine r_seq ?_
  refine r_seq ?_
  refine r_region ?_
  refine r_op rfl rfl rfl (run_mv (v := .slice _ _ _) rfl (by exact rfl)) ?_
  refine r_op rfl rfl rfl (run_lenSl rfl (by exact rfl) Try.underlying23) ?_
  refine r_op rfl rfl rfl (run_gtr rfl (by exact rfl) (by exact rfl)) ?_
  refine r_op rfl rfl rfl (run_mv (v := .bool _) rfl (by exact rfl)) ?_
  refine r_g rfl (wantF (by exact rfl)) rfl (fun hg => run_mv (v := .slice _ _ _) rfl (by exact rfl)) ?_
  refine r_g rfl (wantF (by exact rfl)) rfl (fun hg => run_lenSl rfl (glv (by exact rfl) (fun h => h) hg) Try.underlying23) ?_
  refine r_g rfl (wantF (by exact rfl)) rfl (fun hg => run_gtr rfl (glv (by exact rfl) (fun h => h) hg) (by exact rfl)) ?_
  refine r_op rfl rfl rfl (run_pick_or rfl (by exact rfl) rfl (fun hq => glv (by exact rfl) (fun h => h) hq)) ?_
  refine r_nil ?_
  refine r_cond (by exact rfl) (fun hc1 => ?_) (fun hc1 => ?_)
  · skip
    refine r_seq ?_
    refine r_region ?_
    refine r_opcall rfl rfl rfl (run_callf (vs := []) rfl (by exact rfl) Try.func12 rfl (by kernel_rfl)) known_callsD ?_
    rintro e w2 ⟨rfl, hE2⟩
    refine ⟨_, rfl, ?_⟩
    have hs_w2 := (hE2).size
    replace hV := evo_step0 hV hE2
    replace hl1 := hl10 _ hV
    replace hm := hm0 _ hV
    replace hl := hl0 _ hV
    refine r_op rfl rfl rfl (run_asg (v := .bool _) rfl (by exact rfl)) ?_
    refine r_nil ?_
    refine r_ret (res1 (v := .bool _) rfl (by exact rfl)) ?_
    exact ⟨rfl, hV⟩
  · skip
    refine r_skip ?_
    refine r_seq ?_
    refine r_region ?_
    refine r_op rfl rfl rfl (run_mv (v := .slice _ _ _) rfl (by exact rfl)) ?_
    refine r_opcall rfl rfl rfl (run_callf (vs := [.slice _ _ _, .int _ _]) rfl (by exact rfl) Try.func13 rfl (by kernel_rfl)) (made_calls hl1 (by omega) (by omega)) ?_
    rintro e w3 ⟨vm3, sm3, rfl, hE3, hsm3, hor3⟩
    refine ⟨_, rfl, ?_⟩
    have hs_w3 := (hE3).size
    replace hV := evo_step0 hV hE3
    replace hl1 := hl10 _ hV
    replace hm := hm0 _ hV
    replace hl := hl0 _ hV
    refine r_op rfl rfl rfl (run_asg (v := vm3) rfl (by exact rfl)) ?_
    refine r_nil ?_
    refine r_seq ?_
    refine r_region ?_
    refine r_op rfl rfl rfl (run_mv (v := vm3) rfl (by exact rfl)) ?_
    refine r_op rfl rfl rfl (run_mv (v := .slice _ _ _) rfl (by exact rfl)) ?_
    obtain ⟨ao4, g4, cp4, hv4, hr4⟩ := hor3.rowOf
    subst hv4
    have hbd_hr4 := hr4.bd
    refine r_opcall rfl rfl rfl (run_callf (vs := [.slice _ _ _, .slice _ _ _]) rfl (by exact rfl) Try.func16 rfl (by kernel_rfl)) (near_calls hr4 hm (by omega)) ?_
    rintro e w5 ⟨vn5, sn5, rfl, hE5, hsn5, hor5⟩
    refine ⟨_, rfl, ?_⟩
    have hs_w5 := (hE5).size
    replace hV := evo_step0 hV hE5
    replace hl1 := hl10 _ hV
    replace hm := hm0 _ hV
    replace hl := hl0 _ hV
    replace hor3 := hor3.evo0 hE5
    replace hr4 := hr4.evo0 hE5
    refine r_op rfl rfl rfl (run_asg (v := vn5) rfl (by exact rfl)) ?_
    refine r_nil ?_
    refine r_seq ?_
    refine r_region ?_
    refine r_op rfl rfl rfl (run_mv (v := .slice _ _ _) rfl (by exact rfl)) ?_
    refine r_op rfl rfl rfl (run_mv (v := vn5) rfl (by exact rfl)) ?_
    obtain ⟨ao6, g6, cp6, hv6, hr6⟩ := hor5.rowOf
    subst hv6
    have hbd_hr6 := hr6.bd
    refine r_opcall rfl rfl rfl (run_callf (vs := [.slice _ _ _, .slice _ _ _]) rfl (by exact rfl) Try.func17 rfl (by kernel_rfl)) (align_calls hr4 hr6) ?_
    rintro e w7 ⟨va7, rfl, hE7, hx7⟩
    refine ⟨_, rfl, ?_⟩
    have hs_w7 := (hE7).size
    replace hV := evo_step0 hV hE7
    replace hl1 := hl10 _ hV
    replace hm := hm0 _ hV
    replace hl := hl0 _ hV
    replace hor3 := hor3.evo0 hE7
    replace hr4 := hr4.evo0 hE7
    replace hor5 := hor5.evo0 hE7
    replace hr6 := hr6.evo0 hE7
    refine r_op rfl rfl rfl (run_mv (v := .tuple _) rfl (by exact rfl)) ?_
    refine r_op rfl rfl rfl (run_extract (v := va7) rfl (by exact rfl) (by exact rfl)) ?_
    refine r_op rfl rfl rfl (run_extract (v := .int _ _) rfl (by exact rfl) (by exact rfl)) ?_
    refine r_op rfl rfl rfl (run_extract (v := .int _ _) rfl (by exact rfl) (by exact rfl)) ?_
    refine r_op rfl rfl rfl (run_asg (v := va7) rfl (by exact rfl)) ?_
    refine r_op rfl rfl rfl (run_asg (v := .int _ _) rfl (by exact rfl)) ?_
    refine r_op rfl rfl rfl (run_asg (v := .int _ _) rfl (by exact rfl)) ?_
    refine r_nil ?_
    refine r_seq ?_
    obtain ⟨ho1, ho2, ho3⟩ := align_ok sm3 sn5 (by omega) (by omega)
    have hA := price_align sm3 sn5 (by omega) (by omega)
    have hbl : (alignL sm3 sn5).1.length ≤ 1000 := by rw [ho2]; have := trc_len (cst := costF ourCost sm3 sn5) (la := sm3.length) (lb := sn5.length) _ 0 0 (Nat.zero_le _) (Nat.zero_le _) (Nat.le_refl _); omega
    refine r_region ?_
    refine r_op rfl rfl rfl (run_mv (v := .slice _ _ _) rfl (by exact rfl)) ?_
    refine r_op rfl rfl rfl (run_mv (v := .slice _ _ _) rfl (by exact rfl)) ?_
    refine r_op rfl rfl rfl (run_mv (v := va7) rfl (by exact rfl)) ?_
    obtain ⟨ao8, g8, cp8, hv8, hr8, hg8⟩ := hx7.rowOf
    subst hv8
    refine r_opcall rfl rfl rfl (run_callf (vs := [.slice _ _ _, .slice _ _ _, .slice _ _ _]) rfl (by exact rfl) Try.func21 rfl (by kernel_rfl)) (price_calls hr4 hr6 hr8 (by omega)) ?_
    rintro e w9 ⟨rfl, hE9⟩
    refine ⟨_, rfl, ?_⟩
    have hs_w9 := (hE9).size
    replace hV := evo_step0 hV hE9
    replace hl1 := hl10 _ hV
    replace hm := hm0 _ hV
    replace hl := hl0 _ hV
    replace hor3 := hor3.evo0 hE9
    replace hr4 := hr4.evo0 hE9
    replace hor5 := hor5.evo0 hE9
    replace hr6 := hr6.evo0 hE9
    replace hx7 := hx7.evo0 hE9
    replace hr8 := hr8.evo0 hE9
    refine r_op rfl rfl rfl (run_mv (v := .tuple _) rfl (by exact rfl)) ?_
    refine r_op rfl rfl rfl (run_extract (v := .int _ _) rfl (by exact rfl) (by exact rfl)) ?_
    refine r_op rfl rfl rfl (run_extract (v := .bool _) rfl (by exact rfl) (by exact rfl)) ?_
    refine r_op rfl rfl rfl (run_asg (v := .int _ _) rfl (by exact rfl)) ?_
    refine r_op rfl rfl rfl (run_asg (v := .bool _) rfl (by exact rfl)) ?_
    refine r_nil ?_
    refine r_seq ?_
    have hQ : Evo w9 w9 [] := Evo.refl _ _
    have hsa0 := hr4.keep
    have hsa := hsa0.now hQ
    have hbd_hsa := hsa.bd
    have hsb0 := hr6.keep
    have hsb := hsb0.now hQ
    have hbd_hsb := hsb.bd
    refine r_region ?_
    refine r_op rfl rfl rfl (run_mv (v := .slice _ _ _) rfl (by exact rfl)) ?_
    refine r_op rfl rfl rfl (run_bld (pv := [(0, .slice _ _ _)]) (zs := [_, _]) (cells := [_, _]) rfl ty_49 (by exact rfl) pl_49 (by exact rfl) (by exact rfl)) ?_
    have hob10 := fun g hg => (hor3.block (g := g) hg).2
    have hob11 := fun g hg => (hor5.block (g := g) hg).2
    have hob12 := fun g hg => (hx7.block (g := g) hg).2
    refine r_box (vs := [_, _]) (by exact rfl) (by exact rfl) rfl ?_
    intro b13 w14 heb13 hEw14 hbb13 hzb13
    have hs_w14 := (hEw14).size
    replace hV := evo_step0 hV hEw14
    replace hQ := evo_step0 hQ hEw14
    replace hl1 := hl10 _ hV
    replace hm := hm0 _ hV
    replace hl := hl0 _ hV
    replace hor3 := hor3.evo0 hEw14
    replace hr4 := hr4.evo0 hEw14
    replace hor5 := hor5.evo0 hEw14
    replace hr6 := hr6.evo0 hEw14
    replace hx7 := hx7.evo0 hEw14
    replace hr8 := hr8.evo0 hEw14
    replace hsa := hsa0.now hQ
    replace hsb := hsb0.now hQ
    have hAb13 := hbb13.at
    refine r_op rfl rfl rfl (run_asg (v := .pointer _) rfl (by exact rfl)) ?_
    refine r_nil ?_
    refine r_seq ?_
    replace hbb13 : Blk w14 b13 49 [.slice aoc ch.length capc, .int .i64 ((0 : Nat) : Int)] := hbb13
    refine r_region ?_
    refine r_op rfl rfl rfl (run_asg (v := .slice _ _ _) rfl (by exact rfl)) ?_
    refine r_nil ?_
    refine r_seq ?_
    refine r_region ?_
    refine r_op rfl rfl rfl (run_asg (v := .int _ _) rfl (by exact rfl)) ?_
    refine r_op rfl rfl rfl (run_asg (v := .int _ _) rfl (by exact rfl)) ?_
    refine r_nil ?_
    refine r_seq ?_
    refine r_block ?_
    refine r_loop (α := Nat) [15, 16, 17, 18, 52, 53, 54, 55, 56, 57, 58, 59, 60, 61, 62, 63, 64, 65, 66, 67, 68, 69, 70, 71, 72, 73, 74, 75, 76, 77, 78, 79, 80, 81, 82, 83, 84, 85, 86, 87, 88, 89, 90, 91, 92, 93, 94, 95, 96, 97, 98, 99, 100, 101, 102, 103, 104, 105, 106, 107, 108, 109, 110, 111, 112, 113, 114, 115, 116, 117] (fun q g w => ∃ i0 : Nat, ∃ j0 : Nat, ∃ po : Int, ∃ vo : Value, ∃ lo : List Bead, ∃ N : Nat, g 15 = vo ∧ g 16 = .int .i64 (i0 : Nat) ∧ g 17 = .int .i64 (j0 : Nat) ∧ OwnE w w14.heap.size 41 vo lo ∧ Blk w b13 49 [.slice aoc ch.length capc, .int .i64 (N : Nat)] ∧ Path sm3 sn5 lo i0 j0 po ∧ q = sm3.length - i0 + (sn5.length - j0) ∧ i0 ≤ sm3.length ∧ j0 ≤ sn5.length ∧ lo.length + q ≤ 100 ∧ N + q ≤ 1000 ∧ w14.heap.size ≤ w.heap.size ∧ Evo w0 w [] ∧ Evo w9 w []) (fun q => q) (sm3.length + sn5.length) ?_ ?_
    · refine ⟨0, 0, 0, _, [], _, rfl, (by first | exact rfl | exact congrArg (Value.int _) (by omega) | exact congrArg (Value.int _) (by dsimp only; omega) | exact congrArg (Value.int _) (by simp) | exact congrArg S (by simp)), (by first | exact rfl | exact congrArg (Value.int _) (by omega) | exact congrArg (Value.int _) (by dsimp only; omega) | exact congrArg (Value.int _) (by simp) | exact congrArg S (by simp)), (OwnE.nil _ _ _), hbb13, (Path.nil _ _), (by first | assumption | omega | (dsimp only; omega) | (simp; done)), (by first | assumption | omega | (dsimp only; omega) | (simp; done)), (by first | assumption | omega | (dsimp only; omega) | (simp; done)), (by simp; omega), (by first | assumption | omega | (dsimp only; omega) | (simp; done)), (by first | assumption | omega | (dsimp only; omega) | (simp; done)), hV, hQ⟩
    · rintro q g w16 ⟨i0, j0, po, vo, lo, N, hj17, hj18, hj19, hoo, hbb13, hpa, hq, hi0, hj0, hlo, hNq, hzl15, hV, hQ⟩
      have hs_w16hV := hV.size
      have hs_w16hQ := hQ.size
      have hlt20 := hbb13.lt
      replace hl1 := hl10 _ hV
      replace hm := hm0 _ hV
      replace hl := hl0 _ hV
      replace hsa := hsa0.now hQ
      replace hsb := hsb0.now hQ
      refine r_know (i := 15) (v := vo) (by exact hj17) ?_
      refine r_know (i := 16) (v := .int .i64 (i0 : Nat)) (by exact hj18) ?_
      refine r_know (i := 17) (v := .int .i64 (j0 : Nat)) (by exact hj19) ?_
      refine r_seq ?_
      refine r_seq ?_
      refine r_region ?_
      refine r_op rfl rfl rfl (run_mv (v := .int _ _) rfl (by exact rfl)) ?_
      refine r_op rfl rfl rfl (run_mv (v := .slice _ _ _) rfl (by exact rfl)) ?_
      refine r_op rfl rfl rfl (run_lenSl rfl (by exact rfl) Try.underlying22) ?_
      refine r_op rfl rfl rfl (run_lss rfl (by exact rfl) (by exact rfl)) ?_
      refine r_op rfl rfl rfl (run_mv (v := .bool _) rfl (by exact rfl)) ?_
      refine r_g rfl (wantF (by exact rfl)) rfl (fun hg => run_mv (v := .int _ _) rfl (by exact rfl)) ?_
      refine r_g rfl (wantF (by exact rfl)) rfl (fun hg => run_mv (v := .slice _ _ _) rfl (by exact rfl)) ?_
      refine r_g rfl (wantF (by exact rfl)) rfl (fun hg => run_lenSl rfl (glv (by exact rfl) (fun h => h) hg) Try.underlying22) ?_
      refine r_g rfl (wantF (by exact rfl)) rfl (fun hg => run_lss rfl (glv (by exact rfl) (fun h => h) hg) (glv (by exact rfl) (fun h => h) hg)) ?_
      refine r_op rfl rfl rfl (run_pick_or rfl (by exact rfl) rfl (fun hq => glv (by exact rfl) (fun h => h) hq)) ?_
      refine r_nil ?_
      refine r_cond (by exact rfl) (fun hc21 => ?_) (fun hc21 => ?_)
      · skip
        refine r_skip ?_
        refine r_block ?_
        refine r_seq ?_
        have hobO := fun g hg => (hoo.block (g := g) hg).2
        refine r_region ?_
        refine r_op rfl rfl rfl (run_bld (pv := [(0, .int _ _), (1, .int _ _)]) (zs := [_, _]) (cells := [_, _]) rfl ty_50 (by exact rfl) pl_50 (by exact rfl) (by exact rfl)) ?_
        refine r_op rfl rfl rfl (run_bld (pv := [(0, .int _ _), (1, .int _ _)]) (zs := [_, _]) (cells := [_, _]) rfl ty_50 (by exact rfl) pl_50 (by exact rfl) (by exact rfl)) ?_
        refine r_op rfl rfl rfl (run_bld (pv := [(0, .int _ _), (1, .int _ _)]) (zs := [_, _]) (cells := [_, _]) rfl ty_50 (by exact rfl) pl_50 (by exact rfl) (by exact rfl)) ?_
        refine r_op rfl rfl rfl (run_bld (pv := [(0, .int _ _), (1, .int _ _)]) (zs := [_, _]) (cells := [_, _]) rfl ty_50 (by exact rfl) pl_50 (by exact rfl) (by exact rfl)) ?_
        refine r_op rfl rfl rfl (run_bld (pv := [(0, .int _ _), (1, .int _ _)]) (zs := [_, _]) (cells := [_, _]) rfl ty_50 (by exact rfl) pl_50 (by exact rfl) (by exact rfl)) ?_
        refine r_op rfl rfl rfl (run_bld (pv := [(0, .int _ _), (1, .int _ _)]) (zs := [_, _]) (cells := [_, _]) rfl ty_50 (by exact rfl) pl_50 (by exact rfl) (by exact rfl)) ?_
        refine r_op rfl rfl rfl (run_bld (pv := [(0, .agg _), (1, .agg _), (2, .agg _), (3, .agg _), (4, .agg _), (5, .agg _)]) (zs := [_, _, _, _, _, _, _, _, _, _, _, _]) (cells := [_, _, _, _, _, _, _, _, _, _, _, _]) rfl ty_51 (by exact rfl) pl_51 (by exact rfl) (by exact rfl)) ?_
        refine r_op rfl rfl rfl (run_mv (v := .pointer _) rfl (by exact rfl)) ?_
        refine r_opcall rfl rfl rfl (run_callf (vs := [.pointer _, .int _ _]) rfl (by exact rfl) Try.func23 rfl (by kernel_rfl)) (nx_calls hbb13 hl (by omega) (by omega) (by omega)) ?_
        rintro e w22 ⟨nx22, rfl, hx22, hE22, hn22⟩
        refine ⟨_, rfl, ?_⟩
        have hs_w22 := (hE22).size
        replace hV := evo_step1 hV hE22 (by first | exact .inl (by omega) | exact .inr (by simp))
        replace hQ := evo_step1 hQ hE22 (by first | exact .inl (by omega) | exact .inr (by simp))
        replace hl1 := hl10 _ hV
        replace hm := hm0 _ hV
        replace hl := hl0 _ hV
        replace hsa := hsa0.now hQ
        replace hsb := hsb0.now hQ
        replace hoo := hoo.evo hE22 (by intro g hg hm; simp at hm; subst hm; have := hoo.block hg; omega)
        replace hbb13 := hn22
        clear hn22
        have hAb13 := hbb13.at
        refine r_op rfl rfl rfl (run_ixAg (ds := [_, _]) (nx22.toNat) rfl Try.underlying51 ty_50 ag_50 (by exact rfl) (by exact rfl) (by omega) (by omega) (stp_cells _ (by omega))) ?_
        have hob23 := fun g hg => (hoo.block (g := g) hg).2
        refine r_var (zs := [_, _]) (vs := [_, _]) ty_50 (by exact rfl) rfl (by exact rfl) (fun _ => rfl) (by exact rfl) rfl rfl (by exact rfl) ?_
        intro b24 w25 heb24 hEw25 hbb24 hzb24
        have hs_w25 := (hEw25).size
        replace hV := evo_step0 hV hEw25
        replace hQ := evo_step0 hQ hEw25
        replace hl1 := hl10 _ hV
        replace hm := hm0 _ hV
        replace hl := hl0 _ hV
        replace hsa := hsa0.now hQ
        replace hsb := hsb0.now hQ
        replace hoo := hoo.evo0 hEw25
        replace hbb13 := hbb13.evo0 hEw25
        replace hAb13 := hAb13.evo0 hEw25
        have hAb24 := hbb24.at
        refine r_nil ?_
        refine r_seq ?_
        refine r_seq ?_
        have hsb := stp_bd nx22.toNat
        have hneO : ∀ g, vo.ownBlock = some g → g ≠ b24 := fun g hg h => by have := hobO g hg; omega
        refine r_region ?_
        refine r_op rfl rfl rfl (run_mv (v := .int _ _) rfl (by exact rfl)) ?_
        refine r_op rfl rfl rfl (run_ixP (0) rfl Try.underlying50 ty_3 (by exact rfl) (by exact rfl) (by exact rfl) (by omega)) ?_
        refine r_op rfl rfl rfl (run_ld1 rfl ag_3 (by exact rfl) (hAb24.cell 0 (by exact rfl))) ?_
        refine r_op rfl rfl rfl (run_add rfl (by exact rfl) (by exact rfl) (by omega) (by omega)) ?_
        refine r_op rfl rfl rfl (run_mv (v := .slice _ _ _) rfl (by exact rfl)) ?_
        refine r_op rfl rfl rfl (run_lenSl rfl (by exact rfl) Try.underlying22) ?_
        refine r_op rfl rfl rfl (run_gtr rfl (by exact rfl) (by exact rfl)) ?_
        refine r_op rfl rfl rfl (run_mv (v := .bool _) rfl (by exact rfl)) ?_
        refine r_g rfl (wantF (by exact rfl)) rfl (fun hg => run_mv (v := .int _ _) rfl (by exact rfl)) ?_
        refine r_g rfl (wantF (by exact rfl)) rfl (fun hg => run_ixP (1) rfl Try.underlying50 ty_3 (by exact rfl) (by exact rfl) (by exact rfl) (by omega)) ?_
        refine r_g rfl (wantF (by exact rfl)) rfl (fun hg => run_ld1 rfl ag_3 (glv (by exact rfl) (fun h => h) hg) (hAb24.cell 1 (by exact rfl))) ?_
        refine r_g rfl (wantF (by exact rfl)) rfl (fun hg => run_add rfl (glv (by exact rfl) (fun h => h) hg) (glv (by exact rfl) (fun h => h) hg) (by omega) (by omega)) ?_
        refine r_g rfl (wantF (by exact rfl)) rfl (fun hg => run_mv (v := .slice _ _ _) rfl (by exact rfl)) ?_
        refine r_g rfl (wantF (by exact rfl)) rfl (fun hg => run_lenSl rfl (glv (by exact rfl) (fun h => h) hg) Try.underlying22) ?_
        refine r_g rfl (wantF (by exact rfl)) rfl (fun hg => run_gtr rfl (glv (by exact rfl) (fun h => h) hg) (glv (by exact rfl) (fun h => h) hg)) ?_
        refine r_op rfl rfl rfl (run_pick_or rfl (by exact rfl) rfl (fun hq => glv (by exact rfl) (fun h => h) hq)) ?_
        refine r_nil ?_
        refine r_cut [88, 89, 90, 91, 92, 93] (fun g w => ∃ sI : Int, ∃ tI : Int, Blk w b24 50 [.int .i64 sI, .int .i64 tI] ∧ At w b24 0 [.int .i64 sI, .int .i64 tI] ∧ Blk w b13 49 [.slice aoc ch.length capc, .int .i64 (N + 1 : Nat)] ∧ OwnE w w14.heap.size 41 vo lo ∧ (∃ y, y < 6 ∧ sI = ((stp y).1 : Nat) ∧ tI = ((stp y).2 : Nat)) ∧ (i0 : Int) + sI ≤ sm3.length ∧ (j0 : Int) + tI ≤ sn5.length ∧ w25.heap.size ≤ w.heap.size ∧ Evo w0 w [] ∧ Evo w9 w []) ?_ ?_
        · skip
          refine r_cond (by exact rfl) (fun hc27 => ?_) (fun hc27 => ?_)
          · skip
            refine r_seq ?_
            refine r_region ?_
            refine r_op rfl rfl rfl (run_bld (pv := [(0, .int _ _), (1, .int _ _)]) (zs := [_, _]) (cells := [_, _]) rfl ty_50 (by exact rfl) pl_50 (by exact rfl) (by exact rfl)) ?_
            refine r_store (v := .agg _) (vs := [_, _]) (cs' := [_, _]) (by exact rfl) (by exact rfl) hbb24 ty_50 (by exact rfl) rfl (by exact rfl) rfl (by exact rfl) ?_
            intro w28 hEw28 hzw28 hb_new
            have hs_w28 := (hEw28).size
            replace hV := evo_step1 hV hEw28 (by first | exact .inl (by omega) | exact .inr (by simp))
            replace hQ := evo_step1 hQ hEw28 (by first | exact .inl (by omega) | exact .inr (by simp))
            replace hl1 := hl10 _ hV
            replace hm := hm0 _ hV
            replace hl := hl0 _ hV
            replace hsa := hsa0.now hQ
            replace hsb := hsb0.now hQ
            replace hoo := hoo.evo hEw28 (by intro g hg hm; simp at hm; subst hm; exact hneO _ hg rfl)
            replace hbb13 := hbb13.evo hEw28 (by simp; omega)
            replace hAb13 := hAb13.evo hEw28 (by simp; omega)
            replace hbb24 := hb_new
            have hAb24 := hbb24.at
            clear hb_new
            refine r_nil ?_
            refine r_seq ?_
            refine r_region ?_
            refine r_op rfl rfl rfl (run_mv (v := .int _ _) rfl (by exact rfl)) ?_
            refine r_op rfl rfl rfl (run_mv (v := .slice _ _ _) rfl (by exact rfl)) ?_
            refine r_op rfl rfl rfl (run_lenSl rfl (by exact rfl) Try.underlying22) ?_
            refine r_op rfl rfl rfl (run_eql rfl (by exact rfl) (by exact rfl)) ?_
            refine r_nil ?_
            refine r_cond (by exact rfl) (fun hc29 => ?_) (fun hc29 => ?_)
            · skip
              refine r_region ?_
              refine r_op rfl rfl rfl (run_bld (pv := [(0, .int _ _), (1, .int _ _)]) (zs := [_, _]) (cells := [_, _]) rfl ty_50 (by exact rfl) pl_50 (by exact rfl) (by exact rfl)) ?_
              refine r_store (v := .agg _) (vs := [_, _]) (cs' := [_, _]) (by exact rfl) (by exact rfl) hbb24 ty_50 (by exact rfl) rfl (by exact rfl) rfl (by exact rfl) ?_
              intro w30 hEw30 hzw30 hb_new
              have hs_w30 := (hEw30).size
              replace hV := evo_step1 hV hEw30 (by first | exact .inl (by omega) | exact .inr (by simp))
              replace hQ := evo_step1 hQ hEw30 (by first | exact .inl (by omega) | exact .inr (by simp))
              replace hl1 := hl10 _ hV
              replace hm := hm0 _ hV
              replace hl := hl0 _ hV
              replace hsa := hsa0.now hQ
              replace hsb := hsb0.now hQ
              replace hoo := hoo.evo hEw30 (by intro g hg hm; simp at hm; subst hm; exact hneO _ hg rfl)
              replace hbb13 := hbb13.evo hEw30 (by simp; omega)
              replace hAb13 := hAb13.evo hEw30 (by simp; omega)
              replace hbb24 := hb_new
              have hAb24 := hbb24.at
              clear hb_new
              refine r_nil ?_
              refine r_cut_end ?_ ?_
              · refine ⟨_, _, hbb24, hbb24.at, hbb13, hoo, (by first | exact ⟨4, by omega, rfl, rfl⟩ | exact ⟨5, by omega, rfl, rfl⟩ | exact ⟨nx22.toNat, by omega, rfl, rfl⟩), (by first | assumption | omega | (dsimp only; omega) | (simp; done)), (by first | assumption | omega | (dsimp only; omega) | (simp; done)), (by first | assumption | omega | (dsimp only; omega) | (simp; done)), hV, hQ⟩
              · repeat (first | (with_reducible exact Agree.merge _ _ _) | (with_reducible exact Agree.refl _ _) | (with_reducible refine Agree.upd ?_ _ _ rfl) | ((with_reducible refine Agree.inner ?_ ?_); (kernel_rfl)))
            · skip
              refine r_skip ?_
              refine r_cut_end ?_ ?_
              · refine ⟨_, _, hbb24, hbb24.at, hbb13, hoo, (by first | exact ⟨4, by omega, rfl, rfl⟩ | exact ⟨5, by omega, rfl, rfl⟩ | exact ⟨nx22.toNat, by omega, rfl, rfl⟩), (by first | assumption | omega | (dsimp only; omega) | (simp; done)), (by first | assumption | omega | (dsimp only; omega) | (simp; done)), (by first | assumption | omega | (dsimp only; omega) | (simp; done)), hV, hQ⟩
              · repeat (first | (with_reducible exact Agree.merge _ _ _) | (with_reducible exact Agree.refl _ _) | (with_reducible refine Agree.upd ?_ _ _ rfl) | ((with_reducible refine Agree.inner ?_ ?_); (kernel_rfl)))
          · skip
            refine r_skip ?_
            refine r_cut_end ?_ ?_
            · refine ⟨_, _, hbb24, hbb24.at, hbb13, hoo, (by first | exact ⟨4, by omega, rfl, rfl⟩ | exact ⟨5, by omega, rfl, rfl⟩ | exact ⟨nx22.toNat, by omega, rfl, rfl⟩), (by first | assumption | omega | (dsimp only; omega) | (simp; done)), (by first | assumption | omega | (dsimp only; omega) | (simp; done)), (by first | assumption | omega | (dsimp only; omega) | (simp; done)), hV, hQ⟩
            · repeat (first | (with_reducible exact Agree.merge _ _ _) | (with_reducible exact Agree.refl _ _) | (with_reducible refine Agree.upd ?_ _ _ rfl) | ((with_reducible refine Agree.inner ?_ ?_); (kernel_rfl)))
        · rintro g w31 ⟨sI, tI, hbb24, hAb24, hbb13, hoo, hst, hf1, hf2, hzl26, hV, hQ⟩
          have hs_w31hV := hV.size
          have hs_w31hQ := hQ.size
          have hlt32 := hbb24.lt
          have hlt33 := hbb13.lt
          replace hl1 := hl10 _ hV
          replace hm := hm0 _ hV
          replace hl := hl0 _ hV
          replace hsa := hsa0.now hQ
          replace hsb := hsb0.now hQ
          refine r_seq ?_
          obtain ⟨y, hy, hy1, hy2⟩ := hst
          subst hy1; subst hy2
          have hsb2 := stp_bd y
          refine r_region ?_
          refine r_op rfl rfl rfl (run_mv (v := vo) rfl (by exact rfl)) ?_
          refine r_op rfl rfl rfl (run_mv (v := .int _ _) rfl (by exact rfl)) ?_
          refine r_op rfl rfl rfl (run_mv (v := .int _ _) rfl (by exact rfl)) ?_
          refine r_op rfl rfl rfl (run_ixP (0) rfl Try.underlying50 ty_3 (by exact rfl) (by exact rfl) (by exact rfl) (by omega)) ?_
          refine r_op rfl rfl rfl (run_ld1 rfl ag_3 (by exact rfl) (hAb24.cell 0 (by exact rfl))) ?_
          refine r_op rfl rfl rfl (run_add rfl (by exact rfl) (by exact rfl) (by omega) (by omega)) ?_
          refine r_op rfl rfl rfl (run_bld (pv := [(0, .int _ _), (1, .int _ _)]) (zs := [_, _]) (cells := [_, _]) rfl ty_39 (by exact rfl) pl_39 (by exact rfl) (by exact rfl)) ?_
          refine r_op rfl rfl rfl (run_mv (v := .int _ _) rfl (by exact rfl)) ?_
          refine r_op rfl rfl rfl (run_mv (v := .int _ _) rfl (by exact rfl)) ?_
          refine r_op rfl rfl rfl (run_ixP (1) rfl Try.underlying50 ty_3 (by exact rfl) (by exact rfl) (by exact rfl) (by omega)) ?_
          refine r_op rfl rfl rfl (run_ld1 rfl ag_3 (by exact rfl) (hAb24.cell 1 (by exact rfl))) ?_
          refine r_op rfl rfl rfl (run_add rfl (by exact rfl) (by exact rfl) (by omega) (by omega)) ?_
          refine r_op rfl rfl rfl (run_bld (pv := [(0, .int _ _), (1, .int _ _)]) (zs := [_, _]) (cells := [_, _]) rfl ty_39 (by exact rfl) pl_39 (by exact rfl) (by exact rfl)) ?_
          refine r_op rfl rfl rfl (run_bld (pv := [(0, .agg _), (1, .agg _)]) (zs := [_, _, _, _]) (cells := [_, _, _, _]) rfl ty_41 (by exact rfl) pl_41 (by exact rfl) (by exact rfl)) ?_
          refine r_append1E (u := .agg _) (y := ⟨_, _, _, _⟩) rfl rfl Try.underlying33 ty_41 (by exact rfl) hoo (fun _ => (by exact rfl)) (by exact rfl) (by exact rfl) ((by first | omega | (simp; omega))) ((by first | omega | (simp; omega))) (by omega) ?_
          intro q_v34 v34 w35 hEw35 hov34 hlv34
          have hs_w35 := (hEw35).size
          replace hV := evo_stepo hV hEw35 (fun g hg => .inl (by first | exact (hoo.block hg).1 | (have := hoo.block hg; omega)))
          replace hQ := evo_stepo hQ hEw35 (fun g hg => .inl (by first | exact (hoo.block hg).1 | (have := hoo.block hg; omega)))
          replace hl1 := hl10 _ hV
          replace hm := hm0 _ hV
          replace hl := hl0 _ hV
          replace hsa := hsa0.now hQ
          replace hsb := hsb0.now hQ
          replace hbb24 := hbb24.evo hEw35 (by intro hm; exact hneO _ (Option.mem_toList.1 hm) rfl)
          replace hAb24 := hAb24.evo hEw35 (by intro hm; exact hneO _ (Option.mem_toList.1 hm) rfl)
          replace hbb13 := hbb13.evo hEw35 (by intro hm; have hm2 := Option.mem_toList.1 hm; have := hoo.block hm2; omega)
          refine r_op rfl rfl rfl (run_asg (v := v34) rfl (by exact rfl)) ?_
          refine r_nil ?_
          refine r_qregion (by kernel_rfl) (by kernel_rfl) ?_
          refine q_op rfl rfl rfl (fun w' hC => run_mv (v := .int _ _) rfl (by exact rfl)) ?_
          refine q_op rfl rfl rfl (fun w' hC => run_ixP (0) rfl Try.underlying50 ty_3 (by exact rfl) (by exact rfl) (by exact rfl) (by omega)) ?_
          refine q_op rfl rfl rfl (fun w' hC => run_ld1 rfl ag_3 (by exact rfl) ((hAb24.evo0 hC).cell 0 (by exact rfl))) ?_
          refine q_op rfl rfl rfl (fun w' hC => run_add rfl (by exact rfl) (by exact rfl) (by omega) (by omega)) ?_
          refine q_op rfl rfl rfl (fun w' hC => run_mv (v := .int _ _) rfl (by exact rfl)) ?_
          refine q_op rfl rfl rfl (fun w' hC => run_ixP (1) rfl Try.underlying50 ty_3 (by exact rfl) (by exact rfl) (by exact rfl) (by omega)) ?_
          refine q_op rfl rfl rfl (fun w' hC => run_ld1 rfl ag_3 (by exact rfl) ((hAb24.evo0 hC).cell 1 (by exact rfl))) ?_
          refine q_op rfl rfl rfl (fun w' hC => run_add rfl (by exact rfl) (by exact rfl) (by omega) (by omega)) ?_
          refine q_op rfl rfl rfl (fun w' hC => run_asg (v := .int _ _) rfl (by exact rfl)) ?_
          refine q_op rfl rfl rfl (fun w' hC => run_asg (v := .int _ _) rfl (by exact rfl)) ?_
          refine q_nil (fun w36 hE37 => ?_)
          have hs_w36 := (hE37).size
          replace hV := evo_step0 hV hE37
          replace hQ := evo_step0 hQ hE37
          replace hl1 := hl10 _ hV
          replace hm := hm0 _ hV
          replace hl := hl0 _ hV
          replace hsa := hsa0.now hQ
          replace hsb := hsb0.now hQ
          replace hbb13 := hbb13.evo0 hE37
          replace hov34 := hov34.evo0 hE37
          refine r_blk ?_
          refine r_again (sm3.length - (i0 + (stp y).1) + (sn5.length - (j0 + (stp y).2))) ?_ ?_ ?_
          · first | omega | (dsimp only; omega)
          · refine ⟨(i0 + (stp y).1), (j0 + (stp y).2), _, _, _, _, rfl, (by first | exact rfl | exact congrArg (Value.int _) (by omega) | exact congrArg (Value.int _) (by dsimp only; omega) | exact congrArg (Value.int _) (by simp) | exact congrArg S (by simp)), (by first | exact rfl | exact congrArg (Value.int _) (by omega) | exact congrArg (Value.int _) (by dsimp only; omega) | exact congrArg (Value.int _) (by simp) | exact congrArg S (by simp)), hov34, hbb13, (hpa.step2 hy (by omega) (by omega)), (by first | assumption | omega | (dsimp only; omega) | (simp; done)), (by first | assumption | omega | (dsimp only; omega) | (simp; done)), (by first | assumption | omega | (dsimp only; omega) | (simp; done)), (by simp; omega), (by first | assumption | omega | (dsimp only; omega) | (simp; done)), (by first | assumption | omega | (dsimp only; omega) | (simp; done)), hV, hQ⟩
          · repeat (first | (with_reducible exact Agree.merge _ _ _) | (with_reducible exact Agree.refl _ _) | (with_reducible refine Agree.upd ?_ _ _ rfl) | ((with_reducible refine Agree.inner ?_ ?_); (kernel_rfl)))
      · skip
        refine r_exit rfl ?_
        refine r_seq ?_
        obtain rfl : i0 = sm3.length := by omega
        obtain rfl : j0 = sn5.length := by omega
        obtain ⟨hd1, hd2⟩ := hpa.done
        refine r_region ?_
        refine r_op rfl rfl rfl (run_mv (v := .slice _ _ _) rfl (by exact rfl)) ?_
        refine r_op rfl rfl rfl (run_mv (v := .slice _ _ _) rfl (by exact rfl)) ?_
        refine r_op rfl rfl rfl (run_mv (v := vo) rfl (by exact rfl)) ?_
        obtain ⟨ao38, g38, cp38, hv38, hr38, hg38⟩ := hoo.rowOf
        subst hv38
        refine r_opcall rfl rfl rfl (run_callf (vs := [.slice _ _ _, .slice _ _ _, .slice _ _ _]) rfl (by exact rfl) Try.func21 rfl (by kernel_rfl)) (price_calls hsa hsb hr38 (by omega)) ?_
        rintro e w39 ⟨rfl, hE39⟩
        refine ⟨_, rfl, ?_⟩
        have hs_w39 := (hE39).size
        replace hV := evo_step0 hV hE39
        replace hQ := evo_step0 hQ hE39
        replace hl1 := hl10 _ hV
        replace hm := hm0 _ hV
        replace hl := hl0 _ hV
        replace hsa := hsa0.now hQ
        replace hsb := hsb0.now hQ
        replace hoo := hoo.evo0 hE39
        replace hr38 := hr38.evo0 hE39
        refine r_op rfl rfl rfl (run_mv (v := .tuple _) rfl (by exact rfl)) ?_
        refine r_op rfl rfl rfl (run_extract (v := .int _ _) rfl (by exact rfl) (by exact rfl)) ?_
        refine r_op rfl rfl rfl (run_extract (v := .bool _) rfl (by exact rfl) (by exact rfl)) ?_
        refine r_op rfl rfl rfl (run_asg (v := .int _ _) rfl (by exact rfl)) ?_
        refine r_op rfl rfl rfl (run_asg (v := .bool _) rfl (by exact rfl)) ?_
        refine r_nil ?_
        refine r_seq ?_
        refine r_region ?_
        refine r_op rfl rfl rfl (run_mv (v := .int _ _) rfl (by exact rfl)) ?_
        refine r_op rfl rfl rfl (run_eql rfl (by exact rfl) (by exact rfl)) ?_
        refine r_op rfl rfl rfl (run_mv (v := .bool _) rfl (by exact rfl)) ?_
        refine r_g rfl (wantT (by exact rfl)) rfl (fun hg => run_mvb rfl (by exact rfl)) ?_
        refine r_op rfl rfl rfl (run_pick_and rfl (by exact rfl) (fun hq => glv (by exact rfl) (fun h => h) hq) rfl) ?_
        refine r_op rfl rfl rfl (run_mv (v := .bool _) rfl (by exact rfl)) ?_
        refine r_g rfl (wantT (by exact rfl)) rfl (fun hg => run_mv (v := .int _ _) rfl (by exact rfl)) ?_
        refine r_g rfl (wantT (by exact rfl)) rfl (fun hg => run_mv (v := .int _ _) rfl (by exact rfl)) ?_
        refine r_g rfl (wantT (by exact rfl)) rfl (fun hg => run_eql rfl (glv (by exact rfl) (fun h => h) hg) (glv (by exact rfl) (fun h => h) hg)) ?_
        refine r_op rfl rfl rfl (run_pick_and rfl (by exact rfl) (fun hq => glv (by exact rfl) (fun h => h) hq) rfl) ?_
        refine r_op rfl rfl rfl (run_mv (v := .bool _) rfl (by exact rfl)) ?_
        refine r_g rfl (wantT (by exact rfl)) rfl (fun hg => run_mvb rfl (by exact rfl)) ?_
        refine r_op rfl rfl rfl (run_pick_and rfl (by exact rfl) (fun hq => glv (by exact rfl) (fun h => h) hq) rfl) ?_
        refine r_op rfl rfl rfl (run_mv (v := .bool _) rfl (by exact rfl)) ?_
        refine r_g rfl (wantT (by exact rfl)) rfl (fun hg => run_mv (v := .int _ _) rfl (by exact rfl)) ?_
        refine r_g rfl (wantT (by exact rfl)) rfl (fun hg => run_mv (v := .int _ _) rfl (by exact rfl)) ?_
        refine r_g rfl (wantT (by exact rfl)) rfl (fun hg => run_geq rfl (glv (by exact rfl) (fun h => h) hg) (glv (by exact rfl) (fun h => h) hg)) ?_
        refine r_op rfl rfl rfl (run_pick_and rfl (by exact rfl) (fun hq => glv (by exact rfl) (fun h => h) hq) rfl) ?_
        refine r_op rfl rfl rfl (run_mv (v := .bool _) rfl (by exact rfl)) ?_
        refine r_gcall rfl (wantT (by exact rfl)) rfl (fun hg => run_callf rfl (rfl) Try.func12 rfl (by kernel_rfl)) (fun hg => (known_callsD ).mono (fun e w' h => ⟨h.1, h.2⟩)) (fun w40 hE41 => ?_)
        have hs_w40 := (hE41).size
        replace hV := evo_step0 hV hE41
        replace hQ := evo_step0 hQ hE41
        replace hl1 := hl10 _ hV
        replace hm := hm0 _ hV
        replace hl := hl0 _ hV
        replace hsa := hsa0.now hQ
        replace hsb := hsb0.now hQ
        replace hoo := hoo.evo0 hE41
        replace hr38 := hr38.evo0 hE41
        refine r_op rfl rfl rfl (run_pick_and rfl (by exact rfl) (fun hq => glv (by exact rfl) (fun h => h) hq) rfl) ?_
        refine r_op rfl rfl rfl (run_asg (v := .bool _) rfl (by exact rfl)) ?_
        refine r_nil ?_
        refine r_ret (res1 (v := .bool _) rfl (by exact rfl)) ?_
        exact ⟨ret_bool (decide_eq_true ⟨⟨⟨⟨⟨ho1, by rw [hA]⟩, by rw [hA]⟩, by rw [hd1]⟩, by rw [hd1, ho3]; exact hd2⟩, trivial⟩), hV⟩

end Go.Proofs.Ythfahceagabhiaa
