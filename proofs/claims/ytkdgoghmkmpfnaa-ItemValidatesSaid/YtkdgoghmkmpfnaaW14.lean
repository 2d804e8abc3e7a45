import Derived.Test.YtkdgoghmkmpfnaaW13
import Derived.Test.YtkdgoghmkmpfnaaDrx
namespace Go.Proofs.Ytkdgoghmkmpfnaa
open Go.RowKit Go.Vc

def rawW : List Str := [[], [98], [97, 98, 32, 99], [97, 32, 104, 61, 49], [66], [110, 47], [105], [32, 120]]
theorem rawW_bd : ∀ j, j < 8 → (rawW.getD j default).length ≤ 5 := by decide
/-- what is known of a made fragment -/
structure MF (nested : Bool) (f : List Vc.Item) : Prop where
  val : valGo [] f = 0
  len : f.length ≤ 16
  size : sizeL f ≤ 240
  shp : nested = true → shapeL f = some ([], [])

set_option maxHeartbeats 4000000 in
theorem raw_calls {T bs : Nat} {ao : Option Addr} {b off cap : Nat} {l : List Int} {N : Nat} {n : Int} {w0 : World} (hb : Blk w0 bs T [.slice ao l.length cap, .int .i64 (N : Nat)]) (hl : ∀ w', Evo w0 w' [bs] → RowE w' ao b off cap l) (hN : N ≤ 100000) (hn0 : 0 ≤ n) (hn9 : n ≤ 100) :
    Calls Try.prog 24 #[.pointer (some ⟨bs, 0, none⟩), .int .i64 n] w0 fun e w' => ∃ v, ∃ f : List Vc.Item, e = .returned v ∧ ((f.length : Int) ≤ n ∧ (sizeL f : Int) ≤ 5 * n) ∧ Evo w0 w' [bs] ∧ OwnE w' w0.heap.size 26 v f := by
  have hAs := hb.at; have hbslt := hb.lt
  refine calls_enter (n := 36) (args := [.pointer (some ⟨bs, 0, none⟩), .int .i64 n]) Try.func24 rfl Try.ntmps24 rfl ?_
  have hV : Evo w0 w0 [bs] := Evo.refl _ _
  have hl0 := hl
  replace hl := hl0 _ hV
  have hbd_hl := hl.bd
  refine r_seq ?_
  refine r_region ?_
  refine r_op rfl rfl rfl (run_asg (v := .slice _ _ _) rfl (by exact rfl)) ?_
  refine r_nil ?_
  refine r_seq ?_
  refine r_region ?_
  refine r_op rfl rfl rfl (run_asg (v := .slice _ _ _) rfl (by exact rfl)) ?_
  refine r_nil ?_
  refine r_seq ?_
  refine r_seq ?_
  refine r_region ?_
  refine r_op rfl rfl rfl (run_mv (v := .pointer _) rfl (by exact rfl)) ?_
  refine r_op rfl rfl rfl (run_mv (v := .int _ _) rfl (by exact rfl)) ?_
  refine r_op rfl rfl rfl (run_add rfl (by exact rfl) (by exact rfl) (by omega) (by omega)) ?_
  refine r_opcall rfl rfl rfl (run_callf (vs := [.pointer _, .int _ _]) rfl (by exact rfl) Try.func69 rfl (by kernel_rfl)) (nx_calls hb hl (by omega) (by omega) (by omega)) ?_
  rintro e w1 ⟨nx1, rfl, hx1, hE1, hn1⟩
  refine ⟨_, rfl, ?_⟩
  have hs_w1 := (hE1).size
  replace hV := evo_step1 hV hE1 (.inr (by simp))
  replace hl := hl0 _ hV
  replace hb := hn1
  clear hn1
  have hAs := hb.at
  refine r_op rfl rfl rfl (run_asg (v := .int _ _) rfl (by exact rfl)) ?_
  refine r_nil ?_
  refine r_block ?_
  refine r_loop (α := Nat) [5, 6, 7, 12, 13, 14, 15, 16, 17, 18, 19, 20, 21, 22, 23, 24, 25, 26, 27, 28, 29, 30, 31, 32, 33, 34] (fun i g w => ∃ vf : Value, ∃ f : List Vc.Item, ∃ N1 : Nat, g 6 = .int .i64 (i : Nat) ∧ g 5 = vf ∧ OwnE w w0.heap.size 26 vf f ∧ Blk w bs T [.slice ao l.length cap, .int .i64 (N1 : Nat)] ∧ At w bs 0 [.slice ao l.length cap, .int .i64 (N1 : Nat)] ∧ (f.length + i ≤ nx1.toNat ∧ sizeL f + 5 * i ≤ 5 * nx1.toNat ∧ N + 1 ≤ N1 ∧ N1 + 4 * i ≤ N + 1 + 4 * nx1.toNat) ∧ w1.heap.size ≤ w.heap.size ∧ Evo w0 w [bs]) (fun i => i) nx1.toNat ?_ ?_
  · refine ⟨_, [], _, (congrArg (Value.int _) (by omega)), rfl, (OwnE.nil _ _ _), hb, hb.at, (by first | (simp [sizeL]; done) | (simp [sizeL]; omega)), (by first | assumption | omega | (dsimp only; omega) | (simp; done)), hV⟩
  · rintro i g w3 ⟨vf, f, N1, hj4, hj5, hof, hb, hAs, hsz, hzl2, hV⟩
    have hs_w3hV := hV.size
    have hlt6 := hb.lt
    replace hl := hl0 _ hV
    refine r_know (i := 6) (v := .int .i64 (i : Nat)) (by exact hj4) ?_
    refine r_know (i := 5) (v := vf) (by exact hj5) ?_
    refine r_seq ?_
    refine r_seq ?_
    refine r_region ?_
    refine r_op rfl rfl rfl (run_mv (v := .int _ _) rfl (by exact rfl)) ?_
    refine r_op rfl rfl rfl (run_gtr rfl (by exact rfl) (by exact rfl)) ?_
    refine r_nil ?_
    refine r_cond (by exact rfl) (fun hc7 => ?_) (fun hc7 => ?_)
    · skip
      refine r_skip ?_
      refine r_seq ?_
      refine r_block ?_
      refine r_seq ?_
      refine r_cut [7, 16, 17, 18, 19, 20, 21, 22, 23, 24, 25, 26] (fun g w => ∃ bx : Nat, ∃ kx : Int, ∃ tx : Str, ∃ ix : Int, g 7 = .pointer (some ⟨bx, 0, none⟩) ∧ OwnE w w0.heap.size 26 vf f ∧ Blk w bx 26 [.int .i64 kx, S tx, .int .i64 ix] ∧ At w bx 0 [.int .i64 kx, S tx, .int .i64 ix] ∧ Blk w bs T [.slice ao l.length cap, .int .i64 ((N1 + 3) : Nat)] ∧ At w bs 0 [.slice ao l.length cap, .int .i64 ((N1 + 3) : Nat)] ∧ tx.length ≤ 5 ∧ w0.heap.size ≤ bx ∧ (∀ g, vf.ownBlock = some g → g ≠ bx) ∧ w3.heap.size ≤ w.heap.size ∧ Evo w0 w [bs]) ?_ ?_
      · skip
        have hobF := fun g hg => (hof.block (g := g) hg).2
        have hb_q := hb
        have hAs_q := hAs
        have hV_q := hV
        refine h_region [bs] (by kernel_rfl) ?_
        intro w9 hE10 hC11
        have hs_w9 := (hE10).size
        replace hV := evo_step0 hV hE10
        replace hl := hl0 _ hV
        replace hof := hof.evo0 hE10
        replace hb := hb.evo0 hE10
        replace hAs := hAs.evo0 hE10
        refine h_take (i := 0) (by exact rfl) rfl rfl rfl (by kernel_rfl) (fun w' hC => run_mv (v := .pointer _) rfl (by exact rfl)) hC11 ?_
        refine h_take (i := 4) (by exact rfl) rfl rfl rfl (by kernel_rfl) (fun w' hC => run_mv (v := .pointer _) rfl (by exact rfl)) hC11 ?_
        refine h_take (i := 8) (by exact rfl) rfl rfl rfl (by kernel_rfl) (fun w' hC => run_mv (v := .pointer _) rfl (by exact rfl)) hC11 ?_
        refine h_three (i := 1) (j := 3) (p := 11) (by kernel_rfl) ?_ ?_ ?_
        · skip
          refine h_do (by exact rfl) ?_
          refine r_opcall rfl rfl rfl (run_callf (vs := [.pointer _, .int _ _]) rfl (by exact rfl) Try.func69 rfl (by kernel_rfl)) (nx_calls hb hl (by omega) (by omega) (by omega)) ?_
          rintro e w12 ⟨nx12, rfl, hx12, hE12, hn12⟩
          refine ⟨_, rfl, ?_⟩
          have hs_w12 := (hE12).size
          replace hV := evo_step1 hV hE12 (.inr (by simp))
          replace hC11 := evo_step1 hC11 hE12 (by first | exact .inl (by omega) | exact .inr (by simp))
          replace hl := hl0 _ hV
          replace hof := hof.evo hE12 (by intro g hg hm; simp at hm; subst hm; have h7 := hobF g hg; have h8 := hof.block hg; omega)
          replace hb := hn12
          clear hn12
          have hAs := hb.at
          refine h_next hC11 ?_
          refine h_take (i := 2) (by exact rfl) rfl rfl rfl (by kernel_rfl) (fun w' hC => run_sub rfl (by exact rfl) (by exact rfl) (by omega) (by omega)) hC11 ?_
          refine h_three (i := 3) (j := 5) (p := 11) (by kernel_rfl) ?_ ?_ ?_
          · skip
            refine h_do (by exact rfl) ?_
            refine r_bslice (pv := [(0, S _), (1, S _), (2, S _), (3, S _), (4, S _), (5, S _), (6, S _), (7, S _)]) (zs := [_]) (cs := [_, _, _, _, _, _, _, _]) Try.underlying67 ty_9 (by exact rfl) rfl (by exact rfl) rfl (by exact rfl) ?_
            intro b13 w14 heb13 hEw14 hbb13 hzb13
            have hs_w14 := (hEw14).size
            replace hV := evo_step0 hV hEw14
            replace hC11 := evo_step0 hC11 hEw14
            replace hl := hl0 _ hV
            replace hof := hof.evo0 hEw14
            replace hb := hb.evo0 hEw14
            replace hAs := hAs.evo0 hEw14
            have hAb13 := hbb13.at
            have hrb13 : RowE w14 (some ⟨b13, 0, none⟩) b13 0 8 rawW := rowLit rawW hbb13 rfl rfl
            refine h_next hC11 ?_
            refine h_two (i := 5) (j := 11) (by kernel_rfl) ?_ ?_
            · skip
              refine h_do (by exact rfl) ?_
              refine r_opcall rfl rfl rfl (run_callf (vs := [.pointer _, .int _ _]) rfl (by exact rfl) Try.func69 rfl (by kernel_rfl)) (nx_calls hb hl (by omega) (by omega) (by omega)) ?_
              rintro e w15 ⟨nx15, rfl, hx15, hE15, hn15⟩
              refine ⟨_, rfl, ?_⟩
              have hs_w15 := (hE15).size
              replace hV := evo_step1 hV hE15 (.inr (by simp))
              replace hC11 := evo_step1 hC11 hE15 (by first | exact .inl (by omega) | exact .inr (by simp))
              replace hl := hl0 _ hV
              replace hof := hof.evo hE15 (by intro g hg hm; simp at hm; subst hm; have h7 := hobF g hg; have h8 := hof.block hg; omega)
              replace hrb13 := hrb13.evo hE15 (by simp; omega)
              replace hb := hn15
              clear hn15
              have hAs := hb.at
              refine h_next hC11 ?_
              refine h_take (i := 6) (by exact rfl) rfl rfl rfl (by kernel_rfl) (fun w' hC => run_ix (nx15.toNat) rfl Try.underlying67 ty_9 (by exact rfl) (by exact rfl) (by omega) (by show _ < 8; omega) (hrb13.addr (i := nx15.toNat) (by show _ < 8; omega))) hC11 ?_
              have hA16 := hrb13.atD (nx15.toNat) (by show _ < 8; omega)
              refine h_three (i := 7) (j := 9) (p := 11) (by kernel_rfl) ?_ ?_ ?_
              · skip
                refine h_do (by exact rfl) ?_
                refine r_op rfl rfl rfl (run_ld1 rfl ag_9 (by exact rfl) (hA16.cell 0 (by exact rfl))) ?_
                refine h_next hC11 ?_
                refine h_two (i := 9) (j := 11) (by kernel_rfl) ?_ ?_
                · skip
                  refine h_do (by exact rfl) ?_
                  refine r_opcall rfl rfl rfl (run_callf (vs := [.pointer _, .int _ _]) rfl (by exact rfl) Try.func69 rfl (by kernel_rfl)) (nx_calls hb hl (by omega) (by omega) (by omega)) ?_
                  rintro e w17 ⟨nx17, rfl, hx17, hE17, hn17⟩
                  refine ⟨_, rfl, ?_⟩
                  have hs_w17 := (hE17).size
                  replace hV := evo_step1 hV hE17 (.inr (by simp))
                  replace hC11 := evo_step1 hC11 hE17 (by first | exact .inl (by omega) | exact .inr (by simp))
                  replace hl := hl0 _ hV
                  replace hof := hof.evo hE17 (by intro g hg hm; simp at hm; subst hm; have h7 := hobF g hg; have h8 := hof.block hg; omega)
                  replace hb := hn17
                  clear hn17
                  have hAs := hb.at
                  refine h_next hC11 ?_
                  refine h_take (i := 10) (by exact rfl) rfl rfl rfl (by kernel_rfl) (fun w' hC => run_bld (pv := [(0, .int _ _), (1, S _), (2, .int _ _)]) (zs := [_, _, _]) (cells := [_, _, _]) rfl ty_26 (by exact rfl) pl_26 (by exact rfl) (by exact rfl)) hC11 ?_
                  refine h_one (i := 11) (by kernel_rfl) ?_
                  refine h_do (by exact rfl) ?_
                  have hob18 := fun g hg => (hof.block (g := g) hg).2
                  refine r_alloc (zs := [_, _, _]) ty_26 (by exact rfl) rfl ?_
                  intro b19 w20 heb19 hEw20 hbb19 hzb19
                  have hs_w20 := (hEw20).size
                  replace hV := evo_step0 hV hEw20
                  replace hC11 := evo_step0 hC11 hEw20
                  replace hl := hl0 _ hV
                  replace hof := hof.evo0 hEw20
                  replace hb := hb.evo0 hEw20
                  have hAb19 := hbb19.at
                  refine h_next hC11 ?_
                  refine h_one (i := 12) (by kernel_rfl) ?_
                  refine h_do (by exact rfl) ?_
                  refine r_store (v := .agg _) (vs := [_, _, _]) (cs' := [_, _, _]) (by exact rfl) (by exact rfl) hbb19 ty_26 (by exact rfl) rfl (by exact rfl) rfl (by exact rfl) ?_
                  intro w21 hEw21 hzw21 hb_new
                  have hs_w21 := (hEw21).size
                  replace hV := evo_step1 hV hEw21 (by first | exact .inl (by omega) | exact .inr (by simp))
                  replace hl := hl0 _ hV
                  replace hof := hof.evo hEw21 (by intro g hg hm; simp at hm; subst hm; have h7 := hobF g hg; have h8 := hof.block hg; omega)
                  replace hb := hb.evo hEw21 (by simp; omega)
                  replace hbb19 := hb_new
                  have hAb19 := hbb19.at
                  clear hb_new
                  refine h_last (by kernel_rfl) ?_
                  refine h_done (by kernel_rfl) ?_
                  refine r_cut_end ?_ ?_
                  · refine ⟨_, _, _, _, rfl, hof, hbb19, hbb19.at, hb, hb.at, (rawW_bd _ (by omega)), (by omega), (fun g hg => by have := hobF g hg; omega), (by first | assumption | omega | (dsimp only; omega) | (simp; done)), hV⟩
                  · repeat (first | (with_reducible exact Agree.merge _ _ _) | (with_reducible exact Agree.refl _ _) | (with_reducible refine Agree.upd ?_ _ _ rfl) | ((with_reducible refine Agree.inner ?_ ?_); (kernel_rfl)))
                · skip
                  refine h_do (by exact rfl) ?_
                  have hob22 := fun g hg => (hof.block (g := g) hg).2
                  refine r_alloc (zs := [_, _, _]) ty_26 (by exact rfl) rfl ?_
                  intro b23 w24 heb23 hEw24 hbb23 hzb23
                  have hs_w24 := (hEw24).size
                  replace hV := evo_step0 hV hEw24
                  replace hC11 := evo_step0 hC11 hEw24
                  replace hl := hl0 _ hV
                  replace hof := hof.evo0 hEw24
                  replace hrb13 := hrb13.evo0 hEw24
                  replace hb := hb.evo0 hEw24
                  replace hAs := hAs.evo0 hEw24
                  have hAb23 := hbb23.at
                  refine h_next hC11 ?_
                  refine h_one (i := 9) (by kernel_rfl) ?_
                  refine h_do (by exact rfl) ?_
                  refine r_opcall rfl rfl rfl (run_callf (vs := [.pointer _, .int _ _]) rfl (by exact rfl) Try.func69 rfl (by kernel_rfl)) (nx_calls hb hl (by omega) (by omega) (by omega)) ?_
                  rintro e w25 ⟨nx25, rfl, hx25, hE25, hn25⟩
                  refine ⟨_, rfl, ?_⟩
                  have hs_w25 := (hE25).size
                  replace hV := evo_step1 hV hE25 (.inr (by simp))
                  replace hC11 := evo_step1 hC11 hE25 (by first | exact .inl (by omega) | exact .inr (by simp))
                  replace hl := hl0 _ hV
                  replace hof := hof.evo hE25 (by intro g hg hm; simp at hm; subst hm; have h7 := hobF g hg; have h8 := hof.block hg; omega)
                  replace hbb23 := hbb23.evo hE25 (by simp; omega)
                  replace hAb23 := hAb23.evo hE25 (by simp; omega)
                  replace hb := hn25
                  clear hn25
                  have hAs := hb.at
                  refine h_next hC11 ?_
                  refine h_take (i := 10) (by exact rfl) rfl rfl rfl (by kernel_rfl) (fun w' hC => run_bld (pv := [(0, .int _ _), (1, S _), (2, .int _ _)]) (zs := [_, _, _]) (cells := [_, _, _]) rfl ty_26 (by exact rfl) pl_26 (by exact rfl) (by exact rfl)) hC11 ?_
                  refine h_one (i := 12) (by kernel_rfl) ?_
                  refine h_do (by exact rfl) ?_
                  refine r_store (v := .agg _) (vs := [_, _, _]) (cs' := [_, _, _]) (by exact rfl) (by exact rfl) hbb23 ty_26 (by exact rfl) rfl (by exact rfl) rfl (by exact rfl) ?_
                  intro w26 hEw26 hzw26 hb_new
                  have hs_w26 := (hEw26).size
                  replace hV := evo_step1 hV hEw26 (by first | exact .inl (by omega) | exact .inr (by simp))
                  replace hl := hl0 _ hV
                  replace hof := hof.evo hEw26 (by intro g hg hm; simp at hm; subst hm; have h7 := hobF g hg; have h8 := hof.block hg; omega)
                  replace hb := hb.evo hEw26 (by simp; omega)
                  replace hbb23 := hb_new
                  have hAb23 := hbb23.at
                  clear hb_new
                  refine h_last (by kernel_rfl) ?_
                  refine h_done (by kernel_rfl) ?_
                  refine r_cut_end ?_ ?_
                  · refine ⟨_, _, _, _, rfl, hof, hbb23, hbb23.at, hb, hb.at, (rawW_bd _ (by omega)), (by omega), (fun g hg => by have := hobF g hg; omega), (by first | assumption | omega | (dsimp only; omega) | (simp; done)), hV⟩
                  · repeat (first | (with_reducible exact Agree.merge _ _ _) | (with_reducible exact Agree.refl _ _) | (with_reducible refine Agree.upd ?_ _ _ rfl) | ((with_reducible refine Agree.inner ?_ ?_); (kernel_rfl)))
              · skip
                refine h_do (by exact rfl) ?_
                refine r_opcall rfl rfl rfl (run_callf (vs := [.pointer _, .int _ _]) rfl (by exact rfl) Try.func69 rfl (by kernel_rfl)) (nx_calls hb hl (by omega) (by omega) (by omega)) ?_
                rintro e w27 ⟨nx27, rfl, hx27, hE27, hn27⟩
                refine ⟨_, rfl, ?_⟩
                have hs_w27 := (hE27).size
                replace hV := evo_step1 hV hE27 (.inr (by simp))
                replace hC11 := evo_step1 hC11 hE27 (by first | exact .inl (by omega) | exact .inr (by simp))
                replace hl := hl0 _ hV
                replace hof := hof.evo hE27 (by intro g hg hm; simp at hm; subst hm; have h7 := hobF g hg; have h8 := hof.block hg; omega)
                replace hA16 := hA16.evo hE27 (by simp; omega)
                replace hb := hn27
                clear hn27
                have hAs := hb.at
                refine h_next hC11 ?_
                refine h_two (i := 7) (j := 11) (by kernel_rfl) ?_ ?_
                · skip
                  refine h_do (by exact rfl) ?_
                  refine r_op rfl rfl rfl (run_ld1 rfl ag_9 (by exact rfl) (hA16.cell 0 (by exact rfl))) ?_
                  refine h_next hC11 ?_
                  refine h_take (i := 10) (by exact rfl) rfl rfl rfl (by kernel_rfl) (fun w' hC => run_bld (pv := [(0, .int _ _), (1, S _), (2, .int _ _)]) (zs := [_, _, _]) (cells := [_, _, _]) rfl ty_26 (by exact rfl) pl_26 (by exact rfl) (by exact rfl)) hC11 ?_
                  refine h_one (i := 11) (by kernel_rfl) ?_
                  refine h_do (by exact rfl) ?_
                  have hob28 := fun g hg => (hof.block (g := g) hg).2
                  refine r_alloc (zs := [_, _, _]) ty_26 (by exact rfl) rfl ?_
                  intro b29 w30 heb29 hEw30 hbb29 hzb29
                  have hs_w30 := (hEw30).size
                  replace hV := evo_step0 hV hEw30
                  replace hC11 := evo_step0 hC11 hEw30
                  replace hl := hl0 _ hV
                  replace hof := hof.evo0 hEw30
                  replace hb := hb.evo0 hEw30
                  have hAb29 := hbb29.at
                  refine h_next hC11 ?_
                  refine h_one (i := 12) (by kernel_rfl) ?_
                  refine h_do (by exact rfl) ?_
                  refine r_store (v := .agg _) (vs := [_, _, _]) (cs' := [_, _, _]) (by exact rfl) (by exact rfl) hbb29 ty_26 (by exact rfl) rfl (by exact rfl) rfl (by exact rfl) ?_
                  intro w31 hEw31 hzw31 hb_new
                  have hs_w31 := (hEw31).size
                  replace hV := evo_step1 hV hEw31 (by first | exact .inl (by omega) | exact .inr (by simp))
                  replace hl := hl0 _ hV
                  replace hof := hof.evo hEw31 (by intro g hg hm; simp at hm; subst hm; have h7 := hobF g hg; have h8 := hof.block hg; omega)
                  replace hb := hb.evo hEw31 (by simp; omega)
                  replace hbb29 := hb_new
                  have hAb29 := hbb29.at
                  clear hb_new
                  refine h_last (by kernel_rfl) ?_
                  refine h_done (by kernel_rfl) ?_
                  refine r_cut_end ?_ ?_
                  · refine ⟨_, _, _, _, rfl, hof, hbb29, hbb29.at, hb, hb.at, (rawW_bd _ (by omega)), (by omega), (fun g hg => by have := hobF g hg; omega), (by first | assumption | omega | (dsimp only; omega) | (simp; done)), hV⟩
                  · repeat (first | (with_reducible exact Agree.merge _ _ _) | (with_reducible exact Agree.refl _ _) | (with_reducible refine Agree.upd ?_ _ _ rfl) | ((with_reducible refine Agree.inner ?_ ?_); (kernel_rfl)))
                · skip
                  refine h_do (by exact rfl) ?_
                  have hob32 := fun g hg => (hof.block (g := g) hg).2
                  refine r_alloc (zs := [_, _, _]) ty_26 (by exact rfl) rfl ?_
                  intro b33 w34 heb33 hEw34 hbb33 hzb33
                  have hs_w34 := (hEw34).size
                  replace hV := evo_step0 hV hEw34
                  replace hC11 := evo_step0 hC11 hEw34
                  replace hl := hl0 _ hV
                  replace hof := hof.evo0 hEw34
                  replace hA16 := hA16.evo0 hEw34
                  replace hb := hb.evo0 hEw34
                  have hAb33 := hbb33.at
                  refine h_next hC11 ?_
                  refine h_one (i := 7) (by kernel_rfl) ?_
                  refine h_do (by exact rfl) ?_
                  refine r_op rfl rfl rfl (run_ld1 rfl ag_9 (by exact rfl) (hA16.cell 0 (by exact rfl))) ?_
                  refine h_next hC11 ?_
                  refine h_take (i := 10) (by exact rfl) rfl rfl rfl (by kernel_rfl) (fun w' hC => run_bld (pv := [(0, .int _ _), (1, S _), (2, .int _ _)]) (zs := [_, _, _]) (cells := [_, _, _]) rfl ty_26 (by exact rfl) pl_26 (by exact rfl) (by exact rfl)) hC11 ?_
                  refine h_one (i := 12) (by kernel_rfl) ?_
                  refine h_do (by exact rfl) ?_
                  refine r_store (v := .agg _) (vs := [_, _, _]) (cs' := [_, _, _]) (by exact rfl) (by exact rfl) hbb33 ty_26 (by exact rfl) rfl (by exact rfl) rfl (by exact rfl) ?_
                  intro w35 hEw35 hzw35 hb_new
                  have hs_w35 := (hEw35).size
                  replace hV := evo_step1 hV hEw35 (by first | exact .inl (by omega) | exact .inr (by simp))
                  replace hl := hl0 _ hV
                  replace hof := hof.evo hEw35 (by intro g hg hm; simp at hm; subst hm; have h7 := hobF g hg; have h8 := hof.block hg; omega)
                  replace hb := hb.evo hEw35 (by simp; omega)
                  replace hbb33 := hb_new
                  have hAb33 := hbb33.at
                  clear hb_new
                  refine h_last (by kernel_rfl) ?_
                  refine h_done (by kernel_rfl) ?_
                  refine r_cut_end ?_ ?_
                  · refine ⟨_, _, _, _, rfl, hof, hbb33, hbb33.at, hb, hb.at, (rawW_bd _ (by omega)), (by omega), (fun g hg => by have := hobF g hg; omega), (by first | assumption | omega | (dsimp only; omega) | (simp; done)), hV⟩
                  · repeat (first | (with_reducible exact Agree.merge _ _ _) | (with_reducible exact Agree.refl _ _) | (with_reducible refine Agree.upd ?_ _ _ rfl) | ((with_reducible refine Agree.inner ?_ ?_); (kernel_rfl)))
              · skip
                refine h_do (by exact rfl) ?_
                have hob36 := fun g hg => (hof.block (g := g) hg).2
                refine r_alloc (zs := [_, _, _]) ty_26 (by exact rfl) rfl ?_
                intro b37 w38 heb37 hEw38 hbb37 hzb37
                have hs_w38 := (hEw38).size
                replace hV := evo_step0 hV hEw38
                replace hC11 := evo_step0 hC11 hEw38
                replace hl := hl0 _ hV
                replace hof := hof.evo0 hEw38
                replace hrb13 := hrb13.evo0 hEw38
                replace hb := hb.evo0 hEw38
                replace hAs := hAs.evo0 hEw38
                replace hA16 := hA16.evo0 hEw38
                have hAb37 := hbb37.at
                refine h_next hC11 ?_
                refine h_two (i := 7) (j := 9) (by kernel_rfl) ?_ ?_
                · skip
                  refine h_do (by exact rfl) ?_
                  refine r_op rfl rfl rfl (run_ld1 rfl ag_9 (by exact rfl) (hA16.cell 0 (by exact rfl))) ?_
                  refine h_next hC11 ?_
                  refine h_one (i := 9) (by kernel_rfl) ?_
                  refine h_do (by exact rfl) ?_
                  refine r_opcall rfl rfl rfl (run_callf (vs := [.pointer _, .int _ _]) rfl (by exact rfl) Try.func69 rfl (by kernel_rfl)) (nx_calls hb hl (by omega) (by omega) (by omega)) ?_
                  rintro e w39 ⟨nx39, rfl, hx39, hE39, hn39⟩
                  refine ⟨_, rfl, ?_⟩
                  have hs_w39 := (hE39).size
                  replace hV := evo_step1 hV hE39 (.inr (by simp))
                  replace hC11 := evo_step1 hC11 hE39 (by first | exact .inl (by omega) | exact .inr (by simp))
                  replace hl := hl0 _ hV
                  replace hof := hof.evo hE39 (by intro g hg hm; simp at hm; subst hm; have h7 := hobF g hg; have h8 := hof.block hg; omega)
                  replace hbb37 := hbb37.evo hE39 (by simp; omega)
                  replace hAb37 := hAb37.evo hE39 (by simp; omega)
                  replace hb := hn39
                  clear hn39
                  have hAs := hb.at
                  refine h_next hC11 ?_
                  refine h_take (i := 10) (by exact rfl) rfl rfl rfl (by kernel_rfl) (fun w' hC => run_bld (pv := [(0, .int _ _), (1, S _), (2, .int _ _)]) (zs := [_, _, _]) (cells := [_, _, _]) rfl ty_26 (by exact rfl) pl_26 (by exact rfl) (by exact rfl)) hC11 ?_
                  refine h_one (i := 12) (by kernel_rfl) ?_
                  refine h_do (by exact rfl) ?_
                  refine r_store (v := .agg _) (vs := [_, _, _]) (cs' := [_, _, _]) (by exact rfl) (by exact rfl) hbb37 ty_26 (by exact rfl) rfl (by exact rfl) rfl (by exact rfl) ?_
                  intro w40 hEw40 hzw40 hb_new
                  have hs_w40 := (hEw40).size
                  replace hV := evo_step1 hV hEw40 (by first | exact .inl (by omega) | exact .inr (by simp))
                  replace hl := hl0 _ hV
                  replace hof := hof.evo hEw40 (by intro g hg hm; simp at hm; subst hm; have h7 := hobF g hg; have h8 := hof.block hg; omega)
                  replace hb := hb.evo hEw40 (by simp; omega)
                  replace hbb37 := hb_new
                  have hAb37 := hbb37.at
                  clear hb_new
                  refine h_last (by kernel_rfl) ?_
                  refine h_done (by kernel_rfl) ?_
                  refine r_cut_end ?_ ?_
                  · refine ⟨_, _, _, _, rfl, hof, hbb37, hbb37.at, hb, hb.at, (rawW_bd _ (by omega)), (by omega), (fun g hg => by have := hobF g hg; omega), (by first | assumption | omega | (dsimp only; omega) | (simp; done)), hV⟩
                  · repeat (first | (with_reducible exact Agree.merge _ _ _) | (with_reducible exact Agree.refl _ _) | (with_reducible refine Agree.upd ?_ _ _ rfl) | ((with_reducible refine Agree.inner ?_ ?_); (kernel_rfl)))
                · skip
                  refine h_do (by exact rfl) ?_
                  refine r_opcall rfl rfl rfl (run_callf (vs := [.pointer _, .int _ _]) rfl (by exact rfl) Try.func69 rfl (by kernel_rfl)) (nx_calls hb hl (by omega) (by omega) (by omega)) ?_
                  rintro e w41 ⟨nx41, rfl, hx41, hE41, hn41⟩
                  refine ⟨_, rfl, ?_⟩
                  have hs_w41 := (hE41).size
                  replace hV := evo_step1 hV hE41 (.inr (by simp))
                  replace hC11 := evo_step1 hC11 hE41 (by first | exact .inl (by omega) | exact .inr (by simp))
                  replace hl := hl0 _ hV
                  replace hof := hof.evo hE41 (by intro g hg hm; simp at hm; subst hm; have h7 := hobF g hg; have h8 := hof.block hg; omega)
                  replace hA16 := hA16.evo hE41 (by simp; omega)
                  replace hbb37 := hbb37.evo hE41 (by simp; omega)
                  replace hAb37 := hAb37.evo hE41 (by simp; omega)
                  replace hb := hn41
                  clear hn41
                  have hAs := hb.at
                  refine h_next hC11 ?_
                  refine h_one (i := 7) (by kernel_rfl) ?_
                  refine h_do (by exact rfl) ?_
                  refine r_op rfl rfl rfl (run_ld1 rfl ag_9 (by exact rfl) (hA16.cell 0 (by exact rfl))) ?_
                  refine h_next hC11 ?_
                  refine h_take (i := 10) (by exact rfl) rfl rfl rfl (by kernel_rfl) (fun w' hC => run_bld (pv := [(0, .int _ _), (1, S _), (2, .int _ _)]) (zs := [_, _, _]) (cells := [_, _, _]) rfl ty_26 (by exact rfl) pl_26 (by exact rfl) (by exact rfl)) hC11 ?_
                  refine h_one (i := 12) (by kernel_rfl) ?_
                  refine h_do (by exact rfl) ?_
                  refine r_store (v := .agg _) (vs := [_, _, _]) (cs' := [_, _, _]) (by exact rfl) (by exact rfl) hbb37 ty_26 (by exact rfl) rfl (by exact rfl) rfl (by exact rfl) ?_
                  intro w42 hEw42 hzw42 hb_new
                  have hs_w42 := (hEw42).size
                  replace hV := evo_step1 hV hEw42 (by first | exact .inl (by omega) | exact .inr (by simp))
                  replace hl := hl0 _ hV
                  replace hof := hof.evo hEw42 (by intro g hg hm; simp at hm; subst hm; have h7 := hobF g hg; have h8 := hof.block hg; omega)
                  replace hb := hb.evo hEw42 (by simp; omega)
                  replace hbb37 := hb_new
                  have hAb37 := hbb37.at
                  clear hb_new
                  refine h_last (by kernel_rfl) ?_
                  refine h_done (by kernel_rfl) ?_
                  refine r_cut_end ?_ ?_
                  · refine ⟨_, _, _, _, rfl, hof, hbb37, hbb37.at, hb, hb.at, (rawW_bd _ (by omega)), (by omega), (fun g hg => by have := hobF g hg; omega), (by first | assumption | omega | (dsimp only; omega) | (simp; done)), hV⟩
                  · repeat (first | (with_reducible exact Agree.merge _ _ _) | (with_reducible exact Agree.refl _ _) | (with_reducible refine Agree.upd ?_ _ _ rfl) | ((with_reducible refine Agree.inner ?_ ?_); (kernel_rfl)))
            · skip
              refine h_do (by exact rfl) ?_
              have hob43 := fun g hg => (hof.block (g := g) hg).2
              refine r_alloc (zs := [_, _, _]) ty_26 (by exact rfl) rfl ?_
              intro b44 w45 heb44 hEw45 hbb44 hzb44
              have hs_w45 := (hEw45).size
              replace hV := evo_step0 hV hEw45
              replace hC11 := evo_step0 hC11 hEw45
              replace hl := hl0 _ hV
              replace hof := hof.evo0 hEw45
              replace hb := hb.evo0 hEw45
              replace hAs := hAs.evo0 hEw45
              replace hrb13 := hrb13.evo0 hEw45
              have hAb44 := hbb44.at
              refine h_next hC11 ?_
              refine h_one (i := 5) (by kernel_rfl) ?_
              refine h_do (by exact rfl) ?_
              refine r_opcall rfl rfl rfl (run_callf (vs := [.pointer _, .int _ _]) rfl (by exact rfl) Try.func69 rfl (by kernel_rfl)) (nx_calls hb hl (by omega) (by omega) (by omega)) ?_
              rintro e w46 ⟨nx46, rfl, hx46, hE46, hn46⟩
              refine ⟨_, rfl, ?_⟩
              have hs_w46 := (hE46).size
              replace hV := evo_step1 hV hE46 (.inr (by simp))
              replace hC11 := evo_step1 hC11 hE46 (by first | exact .inl (by omega) | exact .inr (by simp))
              replace hl := hl0 _ hV
              replace hof := hof.evo hE46 (by intro g hg hm; simp at hm; subst hm; have h7 := hobF g hg; have h8 := hof.block hg; omega)
              replace hrb13 := hrb13.evo hE46 (by simp; omega)
              replace hbb44 := hbb44.evo hE46 (by simp; omega)
              replace hAb44 := hAb44.evo hE46 (by simp; omega)
              replace hb := hn46
              clear hn46
              have hAs := hb.at
              refine h_next hC11 ?_
              refine h_take (i := 6) (by exact rfl) rfl rfl rfl (by kernel_rfl) (fun w' hC => run_ix (nx46.toNat) rfl Try.underlying67 ty_9 (by exact rfl) (by exact rfl) (by omega) (by show _ < 8; omega) (hrb13.addr (i := nx46.toNat) (by show _ < 8; omega))) hC11 ?_
              have hA47 := hrb13.atD (nx46.toNat) (by show _ < 8; omega)
              refine h_two (i := 7) (j := 9) (by kernel_rfl) ?_ ?_
              · skip
                refine h_do (by exact rfl) ?_
                refine r_op rfl rfl rfl (run_ld1 rfl ag_9 (by exact rfl) (hA47.cell 0 (by exact rfl))) ?_
                refine h_next hC11 ?_
                refine h_one (i := 9) (by kernel_rfl) ?_
                refine h_do (by exact rfl) ?_
                refine r_opcall rfl rfl rfl (run_callf (vs := [.pointer _, .int _ _]) rfl (by exact rfl) Try.func69 rfl (by kernel_rfl)) (nx_calls hb hl (by omega) (by omega) (by omega)) ?_
                rintro e w48 ⟨nx48, rfl, hx48, hE48, hn48⟩
                refine ⟨_, rfl, ?_⟩
                have hs_w48 := (hE48).size
                replace hV := evo_step1 hV hE48 (.inr (by simp))
                replace hC11 := evo_step1 hC11 hE48 (by first | exact .inl (by omega) | exact .inr (by simp))
                replace hl := hl0 _ hV
                replace hof := hof.evo hE48 (by intro g hg hm; simp at hm; subst hm; have h7 := hobF g hg; have h8 := hof.block hg; omega)
                replace hbb44 := hbb44.evo hE48 (by simp; omega)
                replace hAb44 := hAb44.evo hE48 (by simp; omega)
                replace hb := hn48
                clear hn48
                have hAs := hb.at
                refine h_next hC11 ?_
                refine h_take (i := 10) (by exact rfl) rfl rfl rfl (by kernel_rfl) (fun w' hC => run_bld (pv := [(0, .int _ _), (1, S _), (2, .int _ _)]) (zs := [_, _, _]) (cells := [_, _, _]) rfl ty_26 (by exact rfl) pl_26 (by exact rfl) (by exact rfl)) hC11 ?_
                refine h_one (i := 12) (by kernel_rfl) ?_
                refine h_do (by exact rfl) ?_
                refine r_store (v := .agg _) (vs := [_, _, _]) (cs' := [_, _, _]) (by exact rfl) (by exact rfl) hbb44 ty_26 (by exact rfl) rfl (by exact rfl) rfl (by exact rfl) ?_
                intro w49 hEw49 hzw49 hb_new
                have hs_w49 := (hEw49).size
                replace hV := evo_step1 hV hEw49 (by first | exact .inl (by omega) | exact .inr (by simp))
                replace hl := hl0 _ hV
                replace hof := hof.evo hEw49 (by intro g hg hm; simp at hm; subst hm; have h7 := hobF g hg; have h8 := hof.block hg; omega)
                replace hb := hb.evo hEw49 (by simp; omega)
                replace hbb44 := hb_new
                have hAb44 := hbb44.at
                clear hb_new
                refine h_last (by kernel_rfl) ?_
                refine h_done (by kernel_rfl) ?_
                refine r_cut_end ?_ ?_
                · refine ⟨_, _, _, _, rfl, hof, hbb44, hbb44.at, hb, hb.at, (rawW_bd _ (by omega)), (by omega), (fun g hg => by have := hobF g hg; omega), (by first | assumption | omega | (dsimp only; omega) | (simp; done)), hV⟩
                · repeat (first | (with_reducible exact Agree.merge _ _ _) | (with_reducible exact Agree.refl _ _) | (with_reducible refine Agree.upd ?_ _ _ rfl) | ((with_reducible refine Agree.inner ?_ ?_); (kernel_rfl)))
              · skip
                refine h_do (by exact rfl) ?_
                refine r_opcall rfl rfl rfl (run_callf (vs := [.pointer _, .int _ _]) rfl (by exact rfl) Try.func69 rfl (by kernel_rfl)) (nx_calls hb hl (by omega) (by omega) (by omega)) ?_
                rintro e w50 ⟨nx50, rfl, hx50, hE50, hn50⟩
                refine ⟨_, rfl, ?_⟩
                have hs_w50 := (hE50).size
                replace hV := evo_step1 hV hE50 (.inr (by simp))
                replace hC11 := evo_step1 hC11 hE50 (by first | exact .inl (by omega) | exact .inr (by simp))
                replace hl := hl0 _ hV
                replace hof := hof.evo hE50 (by intro g hg hm; simp at hm; subst hm; have h7 := hobF g hg; have h8 := hof.block hg; omega)
                replace hbb44 := hbb44.evo hE50 (by simp; omega)
                replace hAb44 := hAb44.evo hE50 (by simp; omega)
                replace hA47 := hA47.evo hE50 (by simp; omega)
                replace hb := hn50
                clear hn50
                have hAs := hb.at
                refine h_next hC11 ?_
                refine h_one (i := 7) (by kernel_rfl) ?_
                refine h_do (by exact rfl) ?_
                refine r_op rfl rfl rfl (run_ld1 rfl ag_9 (by exact rfl) (hA47.cell 0 (by exact rfl))) ?_
                refine h_next hC11 ?_
                refine h_take (i := 10) (by exact rfl) rfl rfl rfl (by kernel_rfl) (fun w' hC => run_bld (pv := [(0, .int _ _), (1, S _), (2, .int _ _)]) (zs := [_, _, _]) (cells := [_, _, _]) rfl ty_26 (by exact rfl) pl_26 (by exact rfl) (by exact rfl)) hC11 ?_
                refine h_one (i := 12) (by kernel_rfl) ?_
                refine h_do (by exact rfl) ?_
                refine r_store (v := .agg _) (vs := [_, _, _]) (cs' := [_, _, _]) (by exact rfl) (by exact rfl) hbb44 ty_26 (by exact rfl) rfl (by exact rfl) rfl (by exact rfl) ?_
                intro w51 hEw51 hzw51 hb_new
                have hs_w51 := (hEw51).size
                replace hV := evo_step1 hV hEw51 (by first | exact .inl (by omega) | exact .inr (by simp))
                replace hl := hl0 _ hV
                replace hof := hof.evo hEw51 (by intro g hg hm; simp at hm; subst hm; have h7 := hobF g hg; have h8 := hof.block hg; omega)
                replace hb := hb.evo hEw51 (by simp; omega)
                replace hbb44 := hb_new
                have hAb44 := hbb44.at
                clear hb_new
                refine h_last (by kernel_rfl) ?_
                refine h_done (by kernel_rfl) ?_
                refine r_cut_end ?_ ?_
                · refine ⟨_, _, _, _, rfl, hof, hbb44, hbb44.at, hb, hb.at, (rawW_bd _ (by omega)), (by omega), (fun g hg => by have := hobF g hg; omega), (by first | assumption | omega | (dsimp only; omega) | (simp; done)), hV⟩
                · repeat (first | (with_reducible exact Agree.merge _ _ _) | (with_reducible exact Agree.refl _ _) | (with_reducible refine Agree.upd ?_ _ _ rfl) | ((with_reducible refine Agree.inner ?_ ?_); (kernel_rfl)))
          · skip
            refine h_do (by exact rfl) ?_
            refine r_opcall rfl rfl rfl (run_callf (vs := [.pointer _, .int _ _]) rfl (by exact rfl) Try.func69 rfl (by kernel_rfl)) (nx_calls hb hl (by omega) (by omega) (by omega)) ?_
            rintro e w52 ⟨nx52, rfl, hx52, hE52, hn52⟩
            refine ⟨_, rfl, ?_⟩
            have hs_w52 := (hE52).size
            replace hV := evo_step1 hV hE52 (.inr (by simp))
            replace hC11 := evo_step1 hC11 hE52 (by first | exact .inl (by omega) | exact .inr (by simp))
            replace hl := hl0 _ hV
            replace hof := hof.evo hE52 (by intro g hg hm; simp at hm; subst hm; have h7 := hobF g hg; have h8 := hof.block hg; omega)
            replace hb := hn52
            clear hn52
            have hAs := hb.at
            refine h_next hC11 ?_
            refine h_three (i := 3) (j := 9) (p := 11) (by kernel_rfl) ?_ ?_ ?_
            · skip
              refine h_do (by exact rfl) ?_
              refine r_bslice (pv := [(0, S _), (1, S _), (2, S _), (3, S _), (4, S _), (5, S _), (6, S _), (7, S _)]) (zs := [_]) (cs := [_, _, _, _, _, _, _, _]) Try.underlying67 ty_9 (by exact rfl) rfl (by exact rfl) rfl (by exact rfl) ?_
              intro b53 w54 heb53 hEw54 hbb53 hzb53
              have hs_w54 := (hEw54).size
              replace hV := evo_step0 hV hEw54
              replace hC11 := evo_step0 hC11 hEw54
              replace hl := hl0 _ hV
              replace hof := hof.evo0 hEw54
              replace hb := hb.evo0 hEw54
              replace hAs := hAs.evo0 hEw54
              have hAb53 := hbb53.at
              have hrb53 : RowE w54 (some ⟨b53, 0, none⟩) b53 0 8 rawW := rowLit rawW hbb53 rfl rfl
              refine h_next hC11 ?_
              refine h_take (i := 6) (by exact rfl) rfl rfl rfl (by kernel_rfl) (fun w' hC => run_ix (nx52.toNat) rfl Try.underlying67 ty_9 (by exact rfl) (by exact rfl) (by omega) (by show _ < 8; omega) (hrb53.addr (i := nx52.toNat) (by show _ < 8; omega))) hC11 ?_
              have hA55 := hrb53.atD (nx52.toNat) (by show _ < 8; omega)
              refine h_three (i := 7) (j := 9) (p := 11) (by kernel_rfl) ?_ ?_ ?_
              · skip
                refine h_do (by exact rfl) ?_
                refine r_op rfl rfl rfl (run_ld1 rfl ag_9 (by exact rfl) (hA55.cell 0 (by exact rfl))) ?_
                refine h_next hC11 ?_
                refine h_two (i := 9) (j := 11) (by kernel_rfl) ?_ ?_
                · skip
                  refine h_do (by exact rfl) ?_
                  refine r_opcall rfl rfl rfl (run_callf (vs := [.pointer _, .int _ _]) rfl (by exact rfl) Try.func69 rfl (by kernel_rfl)) (nx_calls hb hl (by omega) (by omega) (by omega)) ?_
                  rintro e w56 ⟨nx56, rfl, hx56, hE56, hn56⟩
                  refine ⟨_, rfl, ?_⟩
                  have hs_w56 := (hE56).size
                  replace hV := evo_step1 hV hE56 (.inr (by simp))
                  replace hC11 := evo_step1 hC11 hE56 (by first | exact .inl (by omega) | exact .inr (by simp))
                  replace hl := hl0 _ hV
                  replace hof := hof.evo hE56 (by intro g hg hm; simp at hm; subst hm; have h7 := hobF g hg; have h8 := hof.block hg; omega)
                  replace hb := hn56
                  clear hn56
                  have hAs := hb.at
                  refine h_next hC11 ?_
                  refine h_take (i := 10) (by exact rfl) rfl rfl rfl (by kernel_rfl) (fun w' hC => run_bld (pv := [(0, .int _ _), (1, S _), (2, .int _ _)]) (zs := [_, _, _]) (cells := [_, _, _]) rfl ty_26 (by exact rfl) pl_26 (by exact rfl) (by exact rfl)) hC11 ?_
                  refine h_one (i := 11) (by kernel_rfl) ?_
                  refine h_do (by exact rfl) ?_
                  have hob57 := fun g hg => (hof.block (g := g) hg).2
                  refine r_alloc (zs := [_, _, _]) ty_26 (by exact rfl) rfl ?_
                  intro b58 w59 heb58 hEw59 hbb58 hzb58
                  have hs_w59 := (hEw59).size
                  replace hV := evo_step0 hV hEw59
                  replace hC11 := evo_step0 hC11 hEw59
                  replace hl := hl0 _ hV
                  replace hof := hof.evo0 hEw59
                  replace hb := hb.evo0 hEw59
                  have hAb58 := hbb58.at
                  refine h_next hC11 ?_
                  refine h_one (i := 12) (by kernel_rfl) ?_
                  refine h_do (by exact rfl) ?_
                  refine r_store (v := .agg _) (vs := [_, _, _]) (cs' := [_, _, _]) (by exact rfl) (by exact rfl) hbb58 ty_26 (by exact rfl) rfl (by exact rfl) rfl (by exact rfl) ?_
                  intro w60 hEw60 hzw60 hb_new
                  have hs_w60 := (hEw60).size
                  replace hV := evo_step1 hV hEw60 (by first | exact .inl (by omega) | exact .inr (by simp))
                  replace hl := hl0 _ hV
                  replace hof := hof.evo hEw60 (by intro g hg hm; simp at hm; subst hm; have h7 := hobF g hg; have h8 := hof.block hg; omega)
                  replace hb := hb.evo hEw60 (by simp; omega)
                  replace hbb58 := hb_new
                  have hAb58 := hbb58.at
                  clear hb_new
                  refine h_last (by kernel_rfl) ?_
                  refine h_done (by kernel_rfl) ?_
                  refine r_cut_end ?_ ?_
                  · refine ⟨_, _, _, _, rfl, hof, hbb58, hbb58.at, hb, hb.at, (rawW_bd _ (by omega)), (by omega), (fun g hg => by have := hobF g hg; omega), (by first | assumption | omega | (dsimp only; omega) | (simp; done)), hV⟩
                  · repeat (first | (with_reducible exact Agree.merge _ _ _) | (with_reducible exact Agree.refl _ _) | (with_reducible refine Agree.upd ?_ _ _ rfl) | ((with_reducible refine Agree.inner ?_ ?_); (kernel_rfl)))
                · skip
                  refine h_do (by exact rfl) ?_
                  have hob61 := fun g hg => (hof.block (g := g) hg).2
                  refine r_alloc (zs := [_, _, _]) ty_26 (by exact rfl) rfl ?_
                  intro b62 w63 heb62 hEw63 hbb62 hzb62
                  have hs_w63 := (hEw63).size
                  replace hV := evo_step0 hV hEw63
                  replace hC11 := evo_step0 hC11 hEw63
                  replace hl := hl0 _ hV
                  replace hof := hof.evo0 hEw63
                  replace hb := hb.evo0 hEw63
                  replace hAs := hAs.evo0 hEw63
                  replace hrb53 := hrb53.evo0 hEw63
                  have hAb62 := hbb62.at
                  refine h_next hC11 ?_
                  refine h_one (i := 9) (by kernel_rfl) ?_
                  refine h_do (by exact rfl) ?_
                  refine r_opcall rfl rfl rfl (run_callf (vs := [.pointer _, .int _ _]) rfl (by exact rfl) Try.func69 rfl (by kernel_rfl)) (nx_calls hb hl (by omega) (by omega) (by omega)) ?_
                  rintro e w64 ⟨nx64, rfl, hx64, hE64, hn64⟩
                  refine ⟨_, rfl, ?_⟩
                  have hs_w64 := (hE64).size
                  replace hV := evo_step1 hV hE64 (.inr (by simp))
                  replace hC11 := evo_step1 hC11 hE64 (by first | exact .inl (by omega) | exact .inr (by simp))
                  replace hl := hl0 _ hV
                  replace hof := hof.evo hE64 (by intro g hg hm; simp at hm; subst hm; have h7 := hobF g hg; have h8 := hof.block hg; omega)
                  replace hbb62 := hbb62.evo hE64 (by simp; omega)
                  replace hAb62 := hAb62.evo hE64 (by simp; omega)
                  replace hb := hn64
                  clear hn64
                  have hAs := hb.at
                  refine h_next hC11 ?_
                  refine h_take (i := 10) (by exact rfl) rfl rfl rfl (by kernel_rfl) (fun w' hC => run_bld (pv := [(0, .int _ _), (1, S _), (2, .int _ _)]) (zs := [_, _, _]) (cells := [_, _, _]) rfl ty_26 (by exact rfl) pl_26 (by exact rfl) (by exact rfl)) hC11 ?_
                  refine h_one (i := 12) (by kernel_rfl) ?_
                  refine h_do (by exact rfl) ?_
                  refine r_store (v := .agg _) (vs := [_, _, _]) (cs' := [_, _, _]) (by exact rfl) (by exact rfl) hbb62 ty_26 (by exact rfl) rfl (by exact rfl) rfl (by exact rfl) ?_
                  intro w65 hEw65 hzw65 hb_new
                  have hs_w65 := (hEw65).size
                  replace hV := evo_step1 hV hEw65 (by first | exact .inl (by omega) | exact .inr (by simp))
                  replace hl := hl0 _ hV
                  replace hof := hof.evo hEw65 (by intro g hg hm; simp at hm; subst hm; have h7 := hobF g hg; have h8 := hof.block hg; omega)
                  replace hb := hb.evo hEw65 (by simp; omega)
                  replace hbb62 := hb_new
                  have hAb62 := hbb62.at
                  clear hb_new
                  refine h_last (by kernel_rfl) ?_
                  refine h_done (by kernel_rfl) ?_
                  refine r_cut_end ?_ ?_
                  · refine ⟨_, _, _, _, rfl, hof, hbb62, hbb62.at, hb, hb.at, (rawW_bd _ (by omega)), (by omega), (fun g hg => by have := hobF g hg; omega), (by first | assumption | omega | (dsimp only; omega) | (simp; done)), hV⟩
                  · repeat (first | (with_reducible exact Agree.merge _ _ _) | (with_reducible exact Agree.refl _ _) | (with_reducible refine Agree.upd ?_ _ _ rfl) | ((with_reducible refine Agree.inner ?_ ?_); (kernel_rfl)))
              · skip
                refine h_do (by exact rfl) ?_
                refine r_opcall rfl rfl rfl (run_callf (vs := [.pointer _, .int _ _]) rfl (by exact rfl) Try.func69 rfl (by kernel_rfl)) (nx_calls hb hl (by omega) (by omega) (by omega)) ?_
                rintro e w66 ⟨nx66, rfl, hx66, hE66, hn66⟩
                refine ⟨_, rfl, ?_⟩
                have hs_w66 := (hE66).size
                replace hV := evo_step1 hV hE66 (.inr (by simp))
                replace hC11 := evo_step1 hC11 hE66 (by first | exact .inl (by omega) | exact .inr (by simp))
                replace hl := hl0 _ hV
                replace hof := hof.evo hE66 (by intro g hg hm; simp at hm; subst hm; have h7 := hobF g hg; have h8 := hof.block hg; omega)
                replace hA55 := hA55.evo hE66 (by simp; omega)
                replace hb := hn66
                clear hn66
                have hAs := hb.at
                refine h_next hC11 ?_
                refine h_two (i := 7) (j := 11) (by kernel_rfl) ?_ ?_
                · skip
                  refine h_do (by exact rfl) ?_
                  refine r_op rfl rfl rfl (run_ld1 rfl ag_9 (by exact rfl) (hA55.cell 0 (by exact rfl))) ?_
                  refine h_next hC11 ?_
                  refine h_take (i := 10) (by exact rfl) rfl rfl rfl (by kernel_rfl) (fun w' hC => run_bld (pv := [(0, .int _ _), (1, S _), (2, .int _ _)]) (zs := [_, _, _]) (cells := [_, _, _]) rfl ty_26 (by exact rfl) pl_26 (by exact rfl) (by exact rfl)) hC11 ?_
                  refine h_one (i := 11) (by kernel_rfl) ?_
                  refine h_do (by exact rfl) ?_
                  have hob67 := fun g hg => (hof.block (g := g) hg).2
                  refine r_alloc (zs := [_, _, _]) ty_26 (by exact rfl) rfl ?_
                  intro b68 w69 heb68 hEw69 hbb68 hzb68
                  have hs_w69 := (hEw69).size
                  replace hV := evo_step0 hV hEw69
                  replace hC11 := evo_step0 hC11 hEw69
                  replace hl := hl0 _ hV
                  replace hof := hof.evo0 hEw69
                  replace hb := hb.evo0 hEw69
                  have hAb68 := hbb68.at
                  refine h_next hC11 ?_
                  refine h_one (i := 12) (by kernel_rfl) ?_
                  refine h_do (by exact rfl) ?_
                  refine r_store (v := .agg _) (vs := [_, _, _]) (cs' := [_, _, _]) (by exact rfl) (by exact rfl) hbb68 ty_26 (by exact rfl) rfl (by exact rfl) rfl (by exact rfl) ?_
                  intro w70 hEw70 hzw70 hb_new
                  have hs_w70 := (hEw70).size
                  replace hV := evo_step1 hV hEw70 (by first | exact .inl (by omega) | exact .inr (by simp))
                  replace hl := hl0 _ hV
                  replace hof := hof.evo hEw70 (by intro g hg hm; simp at hm; subst hm; have h7 := hobF g hg; have h8 := hof.block hg; omega)
                  replace hb := hb.evo hEw70 (by simp; omega)
                  replace hbb68 := hb_new
                  have hAb68 := hbb68.at
                  clear hb_new
                  refine h_last (by kernel_rfl) ?_
                  refine h_done (by kernel_rfl) ?_
                  refine r_cut_end ?_ ?_
                  · refine ⟨_, _, _, _, rfl, hof, hbb68, hbb68.at, hb, hb.at, (rawW_bd _ (by omega)), (by omega), (fun g hg => by have := hobF g hg; omega), (by first | assumption | omega | (dsimp only; omega) | (simp; done)), hV⟩
                  · repeat (first | (with_reducible exact Agree.merge _ _ _) | (with_reducible exact Agree.refl _ _) | (with_reducible refine Agree.upd ?_ _ _ rfl) | ((with_reducible refine Agree.inner ?_ ?_); (kernel_rfl)))
                · skip
                  refine h_do (by exact rfl) ?_
                  have hob71 := fun g hg => (hof.block (g := g) hg).2
                  refine r_alloc (zs := [_, _, _]) ty_26 (by exact rfl) rfl ?_
                  intro b72 w73 heb72 hEw73 hbb72 hzb72
                  have hs_w73 := (hEw73).size
                  replace hV := evo_step0 hV hEw73
                  replace hC11 := evo_step0 hC11 hEw73
                  replace hl := hl0 _ hV
                  replace hof := hof.evo0 hEw73
                  replace hA55 := hA55.evo0 hEw73
                  replace hb := hb.evo0 hEw73
                  have hAb72 := hbb72.at
                  refine h_next hC11 ?_
                  refine h_one (i := 7) (by kernel_rfl) ?_
                  refine h_do (by exact rfl) ?_
                  refine r_op rfl rfl rfl (run_ld1 rfl ag_9 (by exact rfl) (hA55.cell 0 (by exact rfl))) ?_
                  refine h_next hC11 ?_
                  refine h_take (i := 10) (by exact rfl) rfl rfl rfl (by kernel_rfl) (fun w' hC => run_bld (pv := [(0, .int _ _), (1, S _), (2, .int _ _)]) (zs := [_, _, _]) (cells := [_, _, _]) rfl ty_26 (by exact rfl) pl_26 (by exact rfl) (by exact rfl)) hC11 ?_
                  refine h_one (i := 12) (by kernel_rfl) ?_
                  refine h_do (by exact rfl) ?_
                  refine r_store (v := .agg _) (vs := [_, _, _]) (cs' := [_, _, _]) (by exact rfl) (by exact rfl) hbb72 ty_26 (by exact rfl) rfl (by exact rfl) rfl (by exact rfl) ?_
                  intro w74 hEw74 hzw74 hb_new
                  have hs_w74 := (hEw74).size
                  replace hV := evo_step1 hV hEw74 (by first | exact .inl (by omega) | exact .inr (by simp))
                  replace hl := hl0 _ hV
                  replace hof := hof.evo hEw74 (by intro g hg hm; simp at hm; subst hm; have h7 := hobF g hg; have h8 := hof.block hg; omega)
                  replace hb := hb.evo hEw74 (by simp; omega)
                  replace hbb72 := hb_new
                  have hAb72 := hbb72.at
                  clear hb_new
                  refine h_last (by kernel_rfl) ?_
                  refine h_done (by kernel_rfl) ?_
                  refine r_cut_end ?_ ?_
                  · refine ⟨_, _, _, _, rfl, hof, hbb72, hbb72.at, hb, hb.at, (rawW_bd _ (by omega)), (by omega), (fun g hg => by have := hobF g hg; omega), (by first | assumption | omega | (dsimp only; omega) | (simp; done)), hV⟩
                  · repeat (first | (with_reducible exact Agree.merge _ _ _) | (with_reducible exact Agree.refl _ _) | (with_reducible refine Agree.upd ?_ _ _ rfl) | ((with_reducible refine Agree.inner ?_ ?_); (kernel_rfl)))
              · skip
                refine h_do (by exact rfl) ?_
                have hob75 := fun g hg => (hof.block (g := g) hg).2
                refine r_alloc (zs := [_, _, _]) ty_26 (by exact rfl) rfl ?_
                intro b76 w77 heb76 hEw77 hbb76 hzb76
                have hs_w77 := (hEw77).size
                replace hV := evo_step0 hV hEw77
                replace hC11 := evo_step0 hC11 hEw77
                replace hl := hl0 _ hV
                replace hof := hof.evo0 hEw77
                replace hb := hb.evo0 hEw77
                replace hAs := hAs.evo0 hEw77
                replace hrb53 := hrb53.evo0 hEw77
                replace hA55 := hA55.evo0 hEw77
                have hAb76 := hbb76.at
                refine h_next hC11 ?_
                refine h_two (i := 7) (j := 9) (by kernel_rfl) ?_ ?_
                · skip
                  refine h_do (by exact rfl) ?_
                  refine r_op rfl rfl rfl (run_ld1 rfl ag_9 (by exact rfl) (hA55.cell 0 (by exact rfl))) ?_
                  refine h_next hC11 ?_
                  refine h_one (i := 9) (by kernel_rfl) ?_
                  refine h_do (by exact rfl) ?_
                  refine r_opcall rfl rfl rfl (run_callf (vs := [.pointer _, .int _ _]) rfl (by exact rfl) Try.func69 rfl (by kernel_rfl)) (nx_calls hb hl (by omega) (by omega) (by omega)) ?_
                  rintro e w78 ⟨nx78, rfl, hx78, hE78, hn78⟩
                  refine ⟨_, rfl, ?_⟩
                  have hs_w78 := (hE78).size
                  replace hV := evo_step1 hV hE78 (.inr (by simp))
                  replace hC11 := evo_step1 hC11 hE78 (by first | exact .inl (by omega) | exact .inr (by simp))
                  replace hl := hl0 _ hV
                  replace hof := hof.evo hE78 (by intro g hg hm; simp at hm; subst hm; have h7 := hobF g hg; have h8 := hof.block hg; omega)
                  replace hbb76 := hbb76.evo hE78 (by simp; omega)
                  replace hAb76 := hAb76.evo hE78 (by simp; omega)
                  replace hb := hn78
                  clear hn78
                  have hAs := hb.at
                  refine h_next hC11 ?_
                  refine h_take (i := 10) (by exact rfl) rfl rfl rfl (by kernel_rfl) (fun w' hC => run_bld (pv := [(0, .int _ _), (1, S _), (2, .int _ _)]) (zs := [_, _, _]) (cells := [_, _, _]) rfl ty_26 (by exact rfl) pl_26 (by exact rfl) (by exact rfl)) hC11 ?_
                  refine h_one (i := 12) (by kernel_rfl) ?_
                  refine h_do (by exact rfl) ?_
                  refine r_store (v := .agg _) (vs := [_, _, _]) (cs' := [_, _, _]) (by exact rfl) (by exact rfl) hbb76 ty_26 (by exact rfl) rfl (by exact rfl) rfl (by exact rfl) ?_
                  intro w79 hEw79 hzw79 hb_new
                  have hs_w79 := (hEw79).size
                  replace hV := evo_step1 hV hEw79 (by first | exact .inl (by omega) | exact .inr (by simp))
                  replace hl := hl0 _ hV
                  replace hof := hof.evo hEw79 (by intro g hg hm; simp at hm; subst hm; have h7 := hobF g hg; have h8 := hof.block hg; omega)
                  replace hb := hb.evo hEw79 (by simp; omega)
                  replace hbb76 := hb_new
                  have hAb76 := hbb76.at
                  clear hb_new
                  refine h_last (by kernel_rfl) ?_
                  refine h_done (by kernel_rfl) ?_
                  refine r_cut_end ?_ ?_
                  · refine ⟨_, _, _, _, rfl, hof, hbb76, hbb76.at, hb, hb.at, (rawW_bd _ (by omega)), (by omega), (fun g hg => by have := hobF g hg; omega), (by first | assumption | omega | (dsimp only; omega) | (simp; done)), hV⟩
                  · repeat (first | (with_reducible exact Agree.merge _ _ _) | (with_reducible exact Agree.refl _ _) | (with_reducible refine Agree.upd ?_ _ _ rfl) | ((with_reducible refine Agree.inner ?_ ?_); (kernel_rfl)))
                · skip
                  refine h_do (by exact rfl) ?_
                  refine r_opcall rfl rfl rfl (run_callf (vs := [.pointer _, .int _ _]) rfl (by exact rfl) Try.func69 rfl (by kernel_rfl)) (nx_calls hb hl (by omega) (by omega) (by omega)) ?_
                  rintro e w80 ⟨nx80, rfl, hx80, hE80, hn80⟩
                  refine ⟨_, rfl, ?_⟩
                  have hs_w80 := (hE80).size
                  replace hV := evo_step1 hV hE80 (.inr (by simp))
                  replace hC11 := evo_step1 hC11 hE80 (by first | exact .inl (by omega) | exact .inr (by simp))
                  replace hl := hl0 _ hV
                  replace hof := hof.evo hE80 (by intro g hg hm; simp at hm; subst hm; have h7 := hobF g hg; have h8 := hof.block hg; omega)
                  replace hA55 := hA55.evo hE80 (by simp; omega)
                  replace hbb76 := hbb76.evo hE80 (by simp; omega)
                  replace hAb76 := hAb76.evo hE80 (by simp; omega)
                  replace hb := hn80
                  clear hn80
                  have hAs := hb.at
                  refine h_next hC11 ?_
                  refine h_one (i := 7) (by kernel_rfl) ?_
                  refine h_do (by exact rfl) ?_
                  refine r_op rfl rfl rfl (run_ld1 rfl ag_9 (by exact rfl) (hA55.cell 0 (by exact rfl))) ?_
                  refine h_next hC11 ?_
                  refine h_take (i := 10) (by exact rfl) rfl rfl rfl (by kernel_rfl) (fun w' hC => run_bld (pv := [(0, .int _ _), (1, S _), (2, .int _ _)]) (zs := [_, _, _]) (cells := [_, _, _]) rfl ty_26 (by exact rfl) pl_26 (by exact rfl) (by exact rfl)) hC11 ?_
                  refine h_one (i := 12) (by kernel_rfl) ?_
                  refine h_do (by exact rfl) ?_
                  refine r_store (v := .agg _) (vs := [_, _, _]) (cs' := [_, _, _]) (by exact rfl) (by exact rfl) hbb76 ty_26 (by exact rfl) rfl (by exact rfl) rfl (by exact rfl) ?_
                  intro w81 hEw81 hzw81 hb_new
                  have hs_w81 := (hEw81).size
                  replace hV := evo_step1 hV hEw81 (by first | exact .inl (by omega) | exact .inr (by simp))
                  replace hl := hl0 _ hV
                  replace hof := hof.evo hEw81 (by intro g hg hm; simp at hm; subst hm; have h7 := hobF g hg; have h8 := hof.block hg; omega)
                  replace hb := hb.evo hEw81 (by simp; omega)
                  replace hbb76 := hb_new
                  have hAb76 := hbb76.at
                  clear hb_new
                  refine h_last (by kernel_rfl) ?_
                  refine h_done (by kernel_rfl) ?_
                  refine r_cut_end ?_ ?_
                  · refine ⟨_, _, _, _, rfl, hof, hbb76, hbb76.at, hb, hb.at, (rawW_bd _ (by omega)), (by omega), (fun g hg => by have := hobF g hg; omega), (by first | assumption | omega | (dsimp only; omega) | (simp; done)), hV⟩
                  · repeat (first | (with_reducible exact Agree.merge _ _ _) | (with_reducible exact Agree.refl _ _) | (with_reducible refine Agree.upd ?_ _ _ rfl) | ((with_reducible refine Agree.inner ?_ ?_); (kernel_rfl)))
            · skip
              refine h_do (by exact rfl) ?_
              refine r_opcall rfl rfl rfl (run_callf (vs := [.pointer _, .int _ _]) rfl (by exact rfl) Try.func69 rfl (by kernel_rfl)) (nx_calls hb hl (by omega) (by omega) (by omega)) ?_
              rintro e w82 ⟨nx82, rfl, hx82, hE82, hn82⟩
              refine ⟨_, rfl, ?_⟩
              have hs_w82 := (hE82).size
              replace hV := evo_step1 hV hE82 (.inr (by simp))
              replace hC11 := evo_step1 hC11 hE82 (by first | exact .inl (by omega) | exact .inr (by simp))
              replace hl := hl0 _ hV
              replace hof := hof.evo hE82 (by intro g hg hm; simp at hm; subst hm; have h7 := hobF g hg; have h8 := hof.block hg; omega)
              replace hb := hn82
              clear hn82
              have hAs := hb.at
              refine h_next hC11 ?_
              refine h_two (i := 3) (j := 11) (by kernel_rfl) ?_ ?_
              · skip
                refine h_do (by exact rfl) ?_
                refine r_bslice (pv := [(0, S _), (1, S _), (2, S _), (3, S _), (4, S _), (5, S _), (6, S _), (7, S _)]) (zs := [_]) (cs := [_, _, _, _, _, _, _, _]) Try.underlying67 ty_9 (by exact rfl) rfl (by exact rfl) rfl (by exact rfl) ?_
                intro b83 w84 heb83 hEw84 hbb83 hzb83
                have hs_w84 := (hEw84).size
                replace hV := evo_step0 hV hEw84
                replace hC11 := evo_step0 hC11 hEw84
                replace hl := hl0 _ hV
                replace hof := hof.evo0 hEw84
                replace hb := hb.evo0 hEw84
                have hAb83 := hbb83.at
                have hrb83 : RowE w84 (some ⟨b83, 0, none⟩) b83 0 8 rawW := rowLit rawW hbb83 rfl rfl
                refine h_next hC11 ?_
                refine h_take (i := 6) (by exact rfl) rfl rfl rfl (by kernel_rfl) (fun w' hC => run_ix (nx52.toNat) rfl Try.underlying67 ty_9 (by exact rfl) (by exact rfl) (by omega) (by show _ < 8; omega) (hrb83.addr (i := nx52.toNat) (by show _ < 8; omega))) hC11 ?_
                have hA85 := hrb83.atD (nx52.toNat) (by show _ < 8; omega)
                refine h_two (i := 7) (j := 11) (by kernel_rfl) ?_ ?_
                · skip
                  refine h_do (by exact rfl) ?_
                  refine r_op rfl rfl rfl (run_ld1 rfl ag_9 (by exact rfl) (hA85.cell 0 (by exact rfl))) ?_
                  refine h_next hC11 ?_
                  refine h_take (i := 10) (by exact rfl) rfl rfl rfl (by kernel_rfl) (fun w' hC => run_bld (pv := [(0, .int _ _), (1, S _), (2, .int _ _)]) (zs := [_, _, _]) (cells := [_, _, _]) rfl ty_26 (by exact rfl) pl_26 (by exact rfl) (by exact rfl)) hC11 ?_
                  refine h_one (i := 11) (by kernel_rfl) ?_
                  refine h_do (by exact rfl) ?_
                  have hob86 := fun g hg => (hof.block (g := g) hg).2
                  refine r_alloc (zs := [_, _, _]) ty_26 (by exact rfl) rfl ?_
                  intro b87 w88 heb87 hEw88 hbb87 hzb87
                  have hs_w88 := (hEw88).size
                  replace hV := evo_step0 hV hEw88
                  replace hC11 := evo_step0 hC11 hEw88
                  replace hl := hl0 _ hV
                  replace hof := hof.evo0 hEw88
                  replace hb := hb.evo0 hEw88
                  replace hrb83 := hrb83.evo0 hEw88
                  have hAb87 := hbb87.at
                  refine h_next hC11 ?_
                  refine h_one (i := 12) (by kernel_rfl) ?_
                  refine h_do (by exact rfl) ?_
                  refine r_store (v := .agg _) (vs := [_, _, _]) (cs' := [_, _, _]) (by exact rfl) (by exact rfl) hbb87 ty_26 (by exact rfl) rfl (by exact rfl) rfl (by exact rfl) ?_
                  intro w89 hEw89 hzw89 hb_new
                  have hs_w89 := (hEw89).size
                  replace hV := evo_step1 hV hEw89 (by first | exact .inl (by omega) | exact .inr (by simp))
                  replace hl := hl0 _ hV
                  replace hof := hof.evo hEw89 (by intro g hg hm; simp at hm; subst hm; have h7 := hobF g hg; have h8 := hof.block hg; omega)
                  replace hb := hb.evo hEw89 (by simp; omega)
                  replace hbb87 := hb_new
                  have hAb87 := hbb87.at
                  clear hb_new
                  refine h_last (by kernel_rfl) ?_
                  refine h_done (by kernel_rfl) ?_
                  refine r_cut_end ?_ ?_
                  · refine ⟨_, _, _, _, rfl, hof, hbb87, hbb87.at, hb, hb.at, (rawW_bd _ (by omega)), (by omega), (fun g hg => by have := hobF g hg; omega), (by first | assumption | omega | (dsimp only; omega) | (simp; done)), hV⟩
                  · repeat (first | (with_reducible exact Agree.merge _ _ _) | (with_reducible exact Agree.refl _ _) | (with_reducible refine Agree.upd ?_ _ _ rfl) | ((with_reducible refine Agree.inner ?_ ?_); (kernel_rfl)))
                · skip
                  refine h_do (by exact rfl) ?_
                  have hob90 := fun g hg => (hof.block (g := g) hg).2
                  refine r_alloc (zs := [_, _, _]) ty_26 (by exact rfl) rfl ?_
                  intro b91 w92 heb91 hEw92 hbb91 hzb91
                  have hs_w92 := (hEw92).size
                  replace hV := evo_step0 hV hEw92
                  replace hC11 := evo_step0 hC11 hEw92
                  replace hl := hl0 _ hV
                  replace hof := hof.evo0 hEw92
                  replace hb := hb.evo0 hEw92
                  replace hrb83 := hrb83.evo0 hEw92
                  replace hA85 := hA85.evo0 hEw92
                  have hAb91 := hbb91.at
                  refine h_next hC11 ?_
                  refine h_one (i := 7) (by kernel_rfl) ?_
                  refine h_do (by exact rfl) ?_
                  refine r_op rfl rfl rfl (run_ld1 rfl ag_9 (by exact rfl) (hA85.cell 0 (by exact rfl))) ?_
                  refine h_next hC11 ?_
                  refine h_take (i := 10) (by exact rfl) rfl rfl rfl (by kernel_rfl) (fun w' hC => run_bld (pv := [(0, .int _ _), (1, S _), (2, .int _ _)]) (zs := [_, _, _]) (cells := [_, _, _]) rfl ty_26 (by exact rfl) pl_26 (by exact rfl) (by exact rfl)) hC11 ?_
                  refine h_one (i := 12) (by kernel_rfl) ?_
                  refine h_do (by exact rfl) ?_
                  refine r_store (v := .agg _) (vs := [_, _, _]) (cs' := [_, _, _]) (by exact rfl) (by exact rfl) hbb91 ty_26 (by exact rfl) rfl (by exact rfl) rfl (by exact rfl) ?_
                  intro w93 hEw93 hzw93 hb_new
                  have hs_w93 := (hEw93).size
                  replace hV := evo_step1 hV hEw93 (by first | exact .inl (by omega) | exact .inr (by simp))
                  replace hl := hl0 _ hV
                  replace hof := hof.evo hEw93 (by intro g hg hm; simp at hm; subst hm; have h7 := hobF g hg; have h8 := hof.block hg; omega)
                  replace hb := hb.evo hEw93 (by simp; omega)
                  replace hbb91 := hb_new
                  have hAb91 := hbb91.at
                  clear hb_new
                  refine h_last (by kernel_rfl) ?_
                  refine h_done (by kernel_rfl) ?_
                  refine r_cut_end ?_ ?_
                  · refine ⟨_, _, _, _, rfl, hof, hbb91, hbb91.at, hb, hb.at, (rawW_bd _ (by omega)), (by omega), (fun g hg => by have := hobF g hg; omega), (by first | assumption | omega | (dsimp only; omega) | (simp; done)), hV⟩
                  · repeat (first | (with_reducible exact Agree.merge _ _ _) | (with_reducible exact Agree.refl _ _) | (with_reducible refine Agree.upd ?_ _ _ rfl) | ((with_reducible refine Agree.inner ?_ ?_); (kernel_rfl)))
              · skip
                refine h_do (by exact rfl) ?_
                have hob94 := fun g hg => (hof.block (g := g) hg).2
                refine r_alloc (zs := [_, _, _]) ty_26 (by exact rfl) rfl ?_
                intro b95 w96 heb95 hEw96 hbb95 hzb95
                have hs_w96 := (hEw96).size
                replace hV := evo_step0 hV hEw96
                replace hC11 := evo_step0 hC11 hEw96
                replace hl := hl0 _ hV
                replace hof := hof.evo0 hEw96
                replace hb := hb.evo0 hEw96
                have hAb95 := hbb95.at
                refine h_next hC11 ?_
                refine h_one (i := 3) (by kernel_rfl) ?_
                refine h_do (by exact rfl) ?_
                refine r_bslice (pv := [(0, S _), (1, S _), (2, S _), (3, S _), (4, S _), (5, S _), (6, S _), (7, S _)]) (zs := [_]) (cs := [_, _, _, _, _, _, _, _]) Try.underlying67 ty_9 (by exact rfl) rfl (by exact rfl) rfl (by exact rfl) ?_
                intro b97 w98 heb97 hEw98 hbb97 hzb97
                have hs_w98 := (hEw98).size
                replace hV := evo_step0 hV hEw98
                replace hC11 := evo_step0 hC11 hEw98
                replace hl := hl0 _ hV
                replace hof := hof.evo0 hEw98
                replace hb := hb.evo0 hEw98
                replace hbb95 := hbb95.evo0 hEw98
                replace hAb95 := hAb95.evo0 hEw98
                have hAb97 := hbb97.at
                have hrb97 : RowE w98 (some ⟨b97, 0, none⟩) b97 0 8 rawW := rowLit rawW hbb97 rfl rfl
                refine h_next hC11 ?_
                refine h_take (i := 6) (by exact rfl) rfl rfl rfl (by kernel_rfl) (fun w' hC => run_ix (nx52.toNat) rfl Try.underlying67 ty_9 (by exact rfl) (by exact rfl) (by omega) (by show _ < 8; omega) (hrb97.addr (i := nx52.toNat) (by show _ < 8; omega))) hC11 ?_
                have hA99 := hrb97.atD (nx52.toNat) (by show _ < 8; omega)
                refine h_one (i := 7) (by kernel_rfl) ?_
                refine h_do (by exact rfl) ?_
                refine r_op rfl rfl rfl (run_ld1 rfl ag_9 (by exact rfl) (hA99.cell 0 (by exact rfl))) ?_
                refine h_next hC11 ?_
                refine h_take (i := 10) (by exact rfl) rfl rfl rfl (by kernel_rfl) (fun w' hC => run_bld (pv := [(0, .int _ _), (1, S _), (2, .int _ _)]) (zs := [_, _, _]) (cells := [_, _, _]) rfl ty_26 (by exact rfl) pl_26 (by exact rfl) (by exact rfl)) hC11 ?_
                refine h_one (i := 12) (by kernel_rfl) ?_
                refine h_do (by exact rfl) ?_
                refine r_store (v := .agg _) (vs := [_, _, _]) (cs' := [_, _, _]) (by exact rfl) (by exact rfl) hbb95 ty_26 (by exact rfl) rfl (by exact rfl) rfl (by exact rfl) ?_
                intro w100 hEw100 hzw100 hb_new
                have hs_w100 := (hEw100).size
                replace hV := evo_step1 hV hEw100 (by first | exact .inl (by omega) | exact .inr (by simp))
                replace hl := hl0 _ hV
                replace hof := hof.evo hEw100 (by intro g hg hm; simp at hm; subst hm; have h7 := hobF g hg; have h8 := hof.block hg; omega)
                replace hb := hb.evo hEw100 (by simp; omega)
                replace hbb95 := hb_new
                have hAb95 := hbb95.at
                clear hb_new
                refine h_last (by kernel_rfl) ?_
                refine h_done (by kernel_rfl) ?_
                refine r_cut_end ?_ ?_
                · refine ⟨_, _, _, _, rfl, hof, hbb95, hbb95.at, hb, hb.at, (rawW_bd _ (by omega)), (by omega), (fun g hg => by have := hobF g hg; omega), (by first | assumption | omega | (dsimp only; omega) | (simp; done)), hV⟩
                · repeat (first | (with_reducible exact Agree.merge _ _ _) | (with_reducible exact Agree.refl _ _) | (with_reducible refine Agree.upd ?_ _ _ rfl) | ((with_reducible refine Agree.inner ?_ ?_); (kernel_rfl)))
            · skip
              refine h_do (by exact rfl) ?_
              have hob101 := fun g hg => (hof.block (g := g) hg).2
              refine r_alloc (zs := [_, _, _]) ty_26 (by exact rfl) rfl ?_
              intro b102 w103 heb102 hEw103 hbb102 hzb102
              have hs_w103 := (hEw103).size
              replace hV := evo_step0 hV hEw103
              replace hC11 := evo_step0 hC11 hEw103
              replace hl := hl0 _ hV
              replace hof := hof.evo0 hEw103
              replace hb := hb.evo0 hEw103
              replace hAs := hAs.evo0 hEw103
              have hAb102 := hbb102.at
              refine h_next hC11 ?_
              refine h_two (i := 3) (j := 9) (by kernel_rfl) ?_ ?_
              · skip
                refine h_do (by exact rfl) ?_
                refine r_bslice (pv := [(0, S _), (1, S _), (2, S _), (3, S _), (4, S _), (5, S _), (6, S _), (7, S _)]) (zs := [_]) (cs := [_, _, _, _, _, _, _, _]) Try.underlying67 ty_9 (by exact rfl) rfl (by exact rfl) rfl (by exact rfl) ?_
                intro b104 w105 heb104 hEw105 hbb104 hzb104
                have hs_w105 := (hEw105).size
                replace hV := evo_step0 hV hEw105
                replace hC11 := evo_step0 hC11 hEw105
                replace hl := hl0 _ hV
                replace hof := hof.evo0 hEw105
                replace hb := hb.evo0 hEw105
                replace hAs := hAs.evo0 hEw105
                replace hbb102 := hbb102.evo0 hEw105
                replace hAb102 := hAb102.evo0 hEw105
                have hAb104 := hbb104.at
                have hrb104 : RowE w105 (some ⟨b104, 0, none⟩) b104 0 8 rawW := rowLit rawW hbb104 rfl rfl
                refine h_next hC11 ?_
                refine h_take (i := 6) (by exact rfl) rfl rfl rfl (by kernel_rfl) (fun w' hC => run_ix (nx52.toNat) rfl Try.underlying67 ty_9 (by exact rfl) (by exact rfl) (by omega) (by show _ < 8; omega) (hrb104.addr (i := nx52.toNat) (by show _ < 8; omega))) hC11 ?_
                have hA106 := hrb104.atD (nx52.toNat) (by show _ < 8; omega)
                refine h_two (i := 7) (j := 9) (by kernel_rfl) ?_ ?_
                · skip
                  refine h_do (by exact rfl) ?_
                  refine r_op rfl rfl rfl (run_ld1 rfl ag_9 (by exact rfl) (hA106.cell 0 (by exact rfl))) ?_
                  refine h_next hC11 ?_
                  refine h_one (i := 9) (by kernel_rfl) ?_
                  refine h_do (by exact rfl) ?_
                  refine r_opcall rfl rfl rfl (run_callf (vs := [.pointer _, .int _ _]) rfl (by exact rfl) Try.func69 rfl (by kernel_rfl)) (nx_calls hb hl (by omega) (by omega) (by omega)) ?_
                  rintro e w107 ⟨nx107, rfl, hx107, hE107, hn107⟩
                  refine ⟨_, rfl, ?_⟩
                  have hs_w107 := (hE107).size
                  replace hV := evo_step1 hV hE107 (.inr (by simp))
                  replace hC11 := evo_step1 hC11 hE107 (by first | exact .inl (by omega) | exact .inr (by simp))
                  replace hl := hl0 _ hV
                  replace hof := hof.evo hE107 (by intro g hg hm; simp at hm; subst hm; have h7 := hobF g hg; have h8 := hof.block hg; omega)
                  replace hbb102 := hbb102.evo hE107 (by simp; omega)
                  replace hAb102 := hAb102.evo hE107 (by simp; omega)
                  replace hb := hn107
                  clear hn107
                  have hAs := hb.at
                  refine h_next hC11 ?_
                  refine h_take (i := 10) (by exact rfl) rfl rfl rfl (by kernel_rfl) (fun w' hC => run_bld (pv := [(0, .int _ _), (1, S _), (2, .int _ _)]) (zs := [_, _, _]) (cells := [_, _, _]) rfl ty_26 (by exact rfl) pl_26 (by exact rfl) (by exact rfl)) hC11 ?_
                  refine h_one (i := 12) (by kernel_rfl) ?_
                  refine h_do (by exact rfl) ?_
                  refine r_store (v := .agg _) (vs := [_, _, _]) (cs' := [_, _, _]) (by exact rfl) (by exact rfl) hbb102 ty_26 (by exact rfl) rfl (by exact rfl) rfl (by exact rfl) ?_
                  intro w108 hEw108 hzw108 hb_new
                  have hs_w108 := (hEw108).size
                  replace hV := evo_step1 hV hEw108 (by first | exact .inl (by omega) | exact .inr (by simp))
                  replace hl := hl0 _ hV
                  replace hof := hof.evo hEw108 (by intro g hg hm; simp at hm; subst hm; have h7 := hobF g hg; have h8 := hof.block hg; omega)
                  replace hb := hb.evo hEw108 (by simp; omega)
                  replace hbb102 := hb_new
                  have hAb102 := hbb102.at
                  clear hb_new
                  refine h_last (by kernel_rfl) ?_
                  refine h_done (by kernel_rfl) ?_
                  refine r_cut_end ?_ ?_
                  · refine ⟨_, _, _, _, rfl, hof, hbb102, hbb102.at, hb, hb.at, (rawW_bd _ (by omega)), (by omega), (fun g hg => by have := hobF g hg; omega), (by first | assumption | omega | (dsimp only; omega) | (simp; done)), hV⟩
                  · repeat (first | (with_reducible exact Agree.merge _ _ _) | (with_reducible exact Agree.refl _ _) | (with_reducible refine Agree.upd ?_ _ _ rfl) | ((with_reducible refine Agree.inner ?_ ?_); (kernel_rfl)))
                · skip
                  refine h_do (by exact rfl) ?_
                  refine r_opcall rfl rfl rfl (run_callf (vs := [.pointer _, .int _ _]) rfl (by exact rfl) Try.func69 rfl (by kernel_rfl)) (nx_calls hb hl (by omega) (by omega) (by omega)) ?_
                  rintro e w109 ⟨nx109, rfl, hx109, hE109, hn109⟩
                  refine ⟨_, rfl, ?_⟩
                  have hs_w109 := (hE109).size
                  replace hV := evo_step1 hV hE109 (.inr (by simp))
                  replace hC11 := evo_step1 hC11 hE109 (by first | exact .inl (by omega) | exact .inr (by simp))
                  replace hl := hl0 _ hV
                  replace hof := hof.evo hE109 (by intro g hg hm; simp at hm; subst hm; have h7 := hobF g hg; have h8 := hof.block hg; omega)
                  replace hbb102 := hbb102.evo hE109 (by simp; omega)
                  replace hAb102 := hAb102.evo hE109 (by simp; omega)
                  replace hA106 := hA106.evo hE109 (by simp; omega)
                  replace hb := hn109
                  clear hn109
                  have hAs := hb.at
                  refine h_next hC11 ?_
                  refine h_one (i := 7) (by kernel_rfl) ?_
                  refine h_do (by exact rfl) ?_
                  refine r_op rfl rfl rfl (run_ld1 rfl ag_9 (by exact rfl) (hA106.cell 0 (by exact rfl))) ?_
                  refine h_next hC11 ?_
                  refine h_take (i := 10) (by exact rfl) rfl rfl rfl (by kernel_rfl) (fun w' hC => run_bld (pv := [(0, .int _ _), (1, S _), (2, .int _ _)]) (zs := [_, _, _]) (cells := [_, _, _]) rfl ty_26 (by exact rfl) pl_26 (by exact rfl) (by exact rfl)) hC11 ?_
                  refine h_one (i := 12) (by kernel_rfl) ?_
                  refine h_do (by exact rfl) ?_
                  refine r_store (v := .agg _) (vs := [_, _, _]) (cs' := [_, _, _]) (by exact rfl) (by exact rfl) hbb102 ty_26 (by exact rfl) rfl (by exact rfl) rfl (by exact rfl) ?_
                  intro w110 hEw110 hzw110 hb_new
                  have hs_w110 := (hEw110).size
                  replace hV := evo_step1 hV hEw110 (by first | exact .inl (by omega) | exact .inr (by simp))
                  replace hl := hl0 _ hV
                  replace hof := hof.evo hEw110 (by intro g hg hm; simp at hm; subst hm; have h7 := hobF g hg; have h8 := hof.block hg; omega)
                  replace hb := hb.evo hEw110 (by simp; omega)
                  replace hbb102 := hb_new
                  have hAb102 := hbb102.at
                  clear hb_new
                  refine h_last (by kernel_rfl) ?_
                  refine h_done (by kernel_rfl) ?_
                  refine r_cut_end ?_ ?_
                  · refine ⟨_, _, _, _, rfl, hof, hbb102, hbb102.at, hb, hb.at, (rawW_bd _ (by omega)), (by omega), (fun g hg => by have := hobF g hg; omega), (by first | assumption | omega | (dsimp only; omega) | (simp; done)), hV⟩
                  · repeat (first | (with_reducible exact Agree.merge _ _ _) | (with_reducible exact Agree.refl _ _) | (with_reducible refine Agree.upd ?_ _ _ rfl) | ((with_reducible refine Agree.inner ?_ ?_); (kernel_rfl)))
              · skip
                refine h_do (by exact rfl) ?_
                refine r_opcall rfl rfl rfl (run_callf (vs := [.pointer _, .int _ _]) rfl (by exact rfl) Try.func69 rfl (by kernel_rfl)) (nx_calls hb hl (by omega) (by omega) (by omega)) ?_
                rintro e w111 ⟨nx111, rfl, hx111, hE111, hn111⟩
                refine ⟨_, rfl, ?_⟩
                have hs_w111 := (hE111).size
                replace hV := evo_step1 hV hE111 (.inr (by simp))
                replace hC11 := evo_step1 hC11 hE111 (by first | exact .inl (by omega) | exact .inr (by simp))
                replace hl := hl0 _ hV
                replace hof := hof.evo hE111 (by intro g hg hm; simp at hm; subst hm; have h7 := hobF g hg; have h8 := hof.block hg; omega)
                replace hbb102 := hbb102.evo hE111 (by simp; omega)
                replace hAb102 := hAb102.evo hE111 (by simp; omega)
                replace hb := hn111
                clear hn111
                have hAs := hb.at
                refine h_next hC11 ?_
                refine h_one (i := 3) (by kernel_rfl) ?_
                refine h_do (by exact rfl) ?_
                refine r_bslice (pv := [(0, S _), (1, S _), (2, S _), (3, S _), (4, S _), (5, S _), (6, S _), (7, S _)]) (zs := [_]) (cs := [_, _, _, _, _, _, _, _]) Try.underlying67 ty_9 (by exact rfl) rfl (by exact rfl) rfl (by exact rfl) ?_
                intro b112 w113 heb112 hEw113 hbb112 hzb112
                have hs_w113 := (hEw113).size
                replace hV := evo_step0 hV hEw113
                replace hC11 := evo_step0 hC11 hEw113
                replace hl := hl0 _ hV
                replace hof := hof.evo0 hEw113
                replace hbb102 := hbb102.evo0 hEw113
                replace hAb102 := hAb102.evo0 hEw113
                replace hb := hb.evo0 hEw113
                have hAb112 := hbb112.at
                have hrb112 : RowE w113 (some ⟨b112, 0, none⟩) b112 0 8 rawW := rowLit rawW hbb112 rfl rfl
                refine h_next hC11 ?_
                refine h_take (i := 6) (by exact rfl) rfl rfl rfl (by kernel_rfl) (fun w' hC => run_ix (nx52.toNat) rfl Try.underlying67 ty_9 (by exact rfl) (by exact rfl) (by omega) (by show _ < 8; omega) (hrb112.addr (i := nx52.toNat) (by show _ < 8; omega))) hC11 ?_
                have hA114 := hrb112.atD (nx52.toNat) (by show _ < 8; omega)
                refine h_one (i := 7) (by kernel_rfl) ?_
                refine h_do (by exact rfl) ?_
                refine r_op rfl rfl rfl (run_ld1 rfl ag_9 (by exact rfl) (hA114.cell 0 (by exact rfl))) ?_
                refine h_next hC11 ?_
                refine h_take (i := 10) (by exact rfl) rfl rfl rfl (by kernel_rfl) (fun w' hC => run_bld (pv := [(0, .int _ _), (1, S _), (2, .int _ _)]) (zs := [_, _, _]) (cells := [_, _, _]) rfl ty_26 (by exact rfl) pl_26 (by exact rfl) (by exact rfl)) hC11 ?_
                refine h_one (i := 12) (by kernel_rfl) ?_
                refine h_do (by exact rfl) ?_
                refine r_store (v := .agg _) (vs := [_, _, _]) (cs' := [_, _, _]) (by exact rfl) (by exact rfl) hbb102 ty_26 (by exact rfl) rfl (by exact rfl) rfl (by exact rfl) ?_
                intro w115 hEw115 hzw115 hb_new
                have hs_w115 := (hEw115).size
                replace hV := evo_step1 hV hEw115 (by first | exact .inl (by omega) | exact .inr (by simp))
                replace hl := hl0 _ hV
                replace hof := hof.evo hEw115 (by intro g hg hm; simp at hm; subst hm; have h7 := hobF g hg; have h8 := hof.block hg; omega)
                replace hb := hb.evo hEw115 (by simp; omega)
                replace hbb102 := hb_new
                have hAb102 := hbb102.at
                clear hb_new
                refine h_last (by kernel_rfl) ?_
                refine h_done (by kernel_rfl) ?_
                refine r_cut_end ?_ ?_
                · refine ⟨_, _, _, _, rfl, hof, hbb102, hbb102.at, hb, hb.at, (rawW_bd _ (by omega)), (by omega), (fun g hg => by have := hobF g hg; omega), (by first | assumption | omega | (dsimp only; omega) | (simp; done)), hV⟩
                · repeat (first | (with_reducible exact Agree.merge _ _ _) | (with_reducible exact Agree.refl _ _) | (with_reducible refine Agree.upd ?_ _ _ rfl) | ((with_reducible refine Agree.inner ?_ ?_); (kernel_rfl)))
          · skip
            refine h_do (by exact rfl) ?_
            have hob116 := fun g hg => (hof.block (g := g) hg).2
            refine r_alloc (zs := [_, _, _]) ty_26 (by exact rfl) rfl ?_
            intro b117 w118 heb117 hEw118 hbb117 hzb117
            have hs_w118 := (hEw118).size
            replace hV := evo_step0 hV hEw118
            replace hC11 := evo_step0 hC11 hEw118
            replace hl := hl0 _ hV
            replace hof := hof.evo0 hEw118
            replace hb := hb.evo0 hEw118
            replace hAs := hAs.evo0 hEw118
            have hAb117 := hbb117.at
            refine h_next hC11 ?_
            refine h_two (i := 3) (j := 5) (by kernel_rfl) ?_ ?_
            · skip
              refine h_do (by exact rfl) ?_
              refine r_bslice (pv := [(0, S _), (1, S _), (2, S _), (3, S _), (4, S _), (5, S _), (6, S _), (7, S _)]) (zs := [_]) (cs := [_, _, _, _, _, _, _, _]) Try.underlying67 ty_9 (by exact rfl) rfl (by exact rfl) rfl (by exact rfl) ?_
              intro b119 w120 heb119 hEw120 hbb119 hzb119
              have hs_w120 := (hEw120).size
              replace hV := evo_step0 hV hEw120
              replace hC11 := evo_step0 hC11 hEw120
              replace hl := hl0 _ hV
              replace hof := hof.evo0 hEw120
              replace hb := hb.evo0 hEw120
              replace hAs := hAs.evo0 hEw120
              replace hbb117 := hbb117.evo0 hEw120
              replace hAb117 := hAb117.evo0 hEw120
              have hAb119 := hbb119.at
              have hrb119 : RowE w120 (some ⟨b119, 0, none⟩) b119 0 8 rawW := rowLit rawW hbb119 rfl rfl
              refine h_next hC11 ?_
              refine h_one (i := 5) (by kernel_rfl) ?_
              refine h_do (by exact rfl) ?_
              refine r_opcall rfl rfl rfl (run_callf (vs := [.pointer _, .int _ _]) rfl (by exact rfl) Try.func69 rfl (by kernel_rfl)) (nx_calls hb hl (by omega) (by omega) (by omega)) ?_
              rintro e w121 ⟨nx121, rfl, hx121, hE121, hn121⟩
              refine ⟨_, rfl, ?_⟩
              have hs_w121 := (hE121).size
              replace hV := evo_step1 hV hE121 (.inr (by simp))
              replace hC11 := evo_step1 hC11 hE121 (by first | exact .inl (by omega) | exact .inr (by simp))
              replace hl := hl0 _ hV
              replace hof := hof.evo hE121 (by intro g hg hm; simp at hm; subst hm; have h7 := hobF g hg; have h8 := hof.block hg; omega)
              replace hbb117 := hbb117.evo hE121 (by simp; omega)
              replace hAb117 := hAb117.evo hE121 (by simp; omega)
              replace hrb119 := hrb119.evo hE121 (by simp; omega)
              replace hb := hn121
              clear hn121
              have hAs := hb.at
              refine h_next hC11 ?_
              refine h_take (i := 6) (by exact rfl) rfl rfl rfl (by kernel_rfl) (fun w' hC => run_ix (nx121.toNat) rfl Try.underlying67 ty_9 (by exact rfl) (by exact rfl) (by omega) (by show _ < 8; omega) (hrb119.addr (i := nx121.toNat) (by show _ < 8; omega))) hC11 ?_
              have hA122 := hrb119.atD (nx121.toNat) (by show _ < 8; omega)
              refine h_two (i := 7) (j := 9) (by kernel_rfl) ?_ ?_
              · skip
                refine h_do (by exact rfl) ?_
                refine r_op rfl rfl rfl (run_ld1 rfl ag_9 (by exact rfl) (hA122.cell 0 (by exact rfl))) ?_
                refine h_next hC11 ?_
                refine h_one (i := 9) (by kernel_rfl) ?_
                refine h_do (by exact rfl) ?_
                refine r_opcall rfl rfl rfl (run_callf (vs := [.pointer _, .int _ _]) rfl (by exact rfl) Try.func69 rfl (by kernel_rfl)) (nx_calls hb hl (by omega) (by omega) (by omega)) ?_
                rintro e w123 ⟨nx123, rfl, hx123, hE123, hn123⟩
                refine ⟨_, rfl, ?_⟩
                have hs_w123 := (hE123).size
                replace hV := evo_step1 hV hE123 (.inr (by simp))
                replace hC11 := evo_step1 hC11 hE123 (by first | exact .inl (by omega) | exact .inr (by simp))
                replace hl := hl0 _ hV
                replace hof := hof.evo hE123 (by intro g hg hm; simp at hm; subst hm; have h7 := hobF g hg; have h8 := hof.block hg; omega)
                replace hbb117 := hbb117.evo hE123 (by simp; omega)
                replace hAb117 := hAb117.evo hE123 (by simp; omega)
                replace hb := hn123
                clear hn123
                have hAs := hb.at
                refine h_next hC11 ?_
                refine h_take (i := 10) (by exact rfl) rfl rfl rfl (by kernel_rfl) (fun w' hC => run_bld (pv := [(0, .int _ _), (1, S _), (2, .int _ _)]) (zs := [_, _, _]) (cells := [_, _, _]) rfl ty_26 (by exact rfl) pl_26 (by exact rfl) (by exact rfl)) hC11 ?_
                refine h_one (i := 12) (by kernel_rfl) ?_
                refine h_do (by exact rfl) ?_
                refine r_store (v := .agg _) (vs := [_, _, _]) (cs' := [_, _, _]) (by exact rfl) (by exact rfl) hbb117 ty_26 (by exact rfl) rfl (by exact rfl) rfl (by exact rfl) ?_
                intro w124 hEw124 hzw124 hb_new
                have hs_w124 := (hEw124).size
                replace hV := evo_step1 hV hEw124 (by first | exact .inl (by omega) | exact .inr (by simp))
                replace hl := hl0 _ hV
                replace hof := hof.evo hEw124 (by intro g hg hm; simp at hm; subst hm; have h7 := hobF g hg; have h8 := hof.block hg; omega)
                replace hb := hb.evo hEw124 (by simp; omega)
                replace hbb117 := hb_new
                have hAb117 := hbb117.at
                clear hb_new
                refine h_last (by kernel_rfl) ?_
                refine h_done (by kernel_rfl) ?_
                refine r_cut_end ?_ ?_
                · refine ⟨_, _, _, _, rfl, hof, hbb117, hbb117.at, hb, hb.at, (rawW_bd _ (by omega)), (by omega), (fun g hg => by have := hobF g hg; omega), (by first | assumption | omega | (dsimp only; omega) | (simp; done)), hV⟩
                · repeat (first | (with_reducible exact Agree.merge _ _ _) | (with_reducible exact Agree.refl _ _) | (with_reducible refine Agree.upd ?_ _ _ rfl) | ((with_reducible refine Agree.inner ?_ ?_); (kernel_rfl)))
              · skip
                refine h_do (by exact rfl) ?_
                refine r_opcall rfl rfl rfl (run_callf (vs := [.pointer _, .int _ _]) rfl (by exact rfl) Try.func69 rfl (by kernel_rfl)) (nx_calls hb hl (by omega) (by omega) (by omega)) ?_
                rintro e w125 ⟨nx125, rfl, hx125, hE125, hn125⟩
                refine ⟨_, rfl, ?_⟩
                have hs_w125 := (hE125).size
                replace hV := evo_step1 hV hE125 (.inr (by simp))
                replace hC11 := evo_step1 hC11 hE125 (by first | exact .inl (by omega) | exact .inr (by simp))
                replace hl := hl0 _ hV
                replace hof := hof.evo hE125 (by intro g hg hm; simp at hm; subst hm; have h7 := hobF g hg; have h8 := hof.block hg; omega)
                replace hbb117 := hbb117.evo hE125 (by simp; omega)
                replace hAb117 := hAb117.evo hE125 (by simp; omega)
                replace hA122 := hA122.evo hE125 (by simp; omega)
                replace hb := hn125
                clear hn125
                have hAs := hb.at
                refine h_next hC11 ?_
                refine h_one (i := 7) (by kernel_rfl) ?_
                refine h_do (by exact rfl) ?_
                refine r_op rfl rfl rfl (run_ld1 rfl ag_9 (by exact rfl) (hA122.cell 0 (by exact rfl))) ?_
                refine h_next hC11 ?_
                refine h_take (i := 10) (by exact rfl) rfl rfl rfl (by kernel_rfl) (fun w' hC => run_bld (pv := [(0, .int _ _), (1, S _), (2, .int _ _)]) (zs := [_, _, _]) (cells := [_, _, _]) rfl ty_26 (by exact rfl) pl_26 (by exact rfl) (by exact rfl)) hC11 ?_
                refine h_one (i := 12) (by kernel_rfl) ?_
                refine h_do (by exact rfl) ?_
                refine r_store (v := .agg _) (vs := [_, _, _]) (cs' := [_, _, _]) (by exact rfl) (by exact rfl) hbb117 ty_26 (by exact rfl) rfl (by exact rfl) rfl (by exact rfl) ?_
                intro w126 hEw126 hzw126 hb_new
                have hs_w126 := (hEw126).size
                replace hV := evo_step1 hV hEw126 (by first | exact .inl (by omega) | exact .inr (by simp))
                replace hl := hl0 _ hV
                replace hof := hof.evo hEw126 (by intro g hg hm; simp at hm; subst hm; have h7 := hobF g hg; have h8 := hof.block hg; omega)
                replace hb := hb.evo hEw126 (by simp; omega)
                replace hbb117 := hb_new
                have hAb117 := hbb117.at
                clear hb_new
                refine h_last (by kernel_rfl) ?_
                refine h_done (by kernel_rfl) ?_
                refine r_cut_end ?_ ?_
                · refine ⟨_, _, _, _, rfl, hof, hbb117, hbb117.at, hb, hb.at, (rawW_bd _ (by omega)), (by omega), (fun g hg => by have := hobF g hg; omega), (by first | assumption | omega | (dsimp only; omega) | (simp; done)), hV⟩
                · repeat (first | (with_reducible exact Agree.merge _ _ _) | (with_reducible exact Agree.refl _ _) | (with_reducible refine Agree.upd ?_ _ _ rfl) | ((with_reducible refine Agree.inner ?_ ?_); (kernel_rfl)))
            · skip
              refine h_do (by exact rfl) ?_
              refine r_opcall rfl rfl rfl (run_callf (vs := [.pointer _, .int _ _]) rfl (by exact rfl) Try.func69 rfl (by kernel_rfl)) (nx_calls hb hl (by omega) (by omega) (by omega)) ?_
              rintro e w127 ⟨nx127, rfl, hx127, hE127, hn127⟩
              refine ⟨_, rfl, ?_⟩
              have hs_w127 := (hE127).size
              replace hV := evo_step1 hV hE127 (.inr (by simp))
              replace hC11 := evo_step1 hC11 hE127 (by first | exact .inl (by omega) | exact .inr (by simp))
              replace hl := hl0 _ hV
              replace hof := hof.evo hE127 (by intro g hg hm; simp at hm; subst hm; have h7 := hobF g hg; have h8 := hof.block hg; omega)
              replace hbb117 := hbb117.evo hE127 (by simp; omega)
              replace hAb117 := hAb117.evo hE127 (by simp; omega)
              replace hb := hn127
              clear hn127
              have hAs := hb.at
              refine h_next hC11 ?_
              refine h_two (i := 3) (j := 9) (by kernel_rfl) ?_ ?_
              · skip
                refine h_do (by exact rfl) ?_
                refine r_bslice (pv := [(0, S _), (1, S _), (2, S _), (3, S _), (4, S _), (5, S _), (6, S _), (7, S _)]) (zs := [_]) (cs := [_, _, _, _, _, _, _, _]) Try.underlying67 ty_9 (by exact rfl) rfl (by exact rfl) rfl (by exact rfl) ?_
                intro b128 w129 heb128 hEw129 hbb128 hzb128
                have hs_w129 := (hEw129).size
                replace hV := evo_step0 hV hEw129
                replace hC11 := evo_step0 hC11 hEw129
                replace hl := hl0 _ hV
                replace hof := hof.evo0 hEw129
                replace hbb117 := hbb117.evo0 hEw129
                replace hAb117 := hAb117.evo0 hEw129
                replace hb := hb.evo0 hEw129
                replace hAs := hAs.evo0 hEw129
                have hAb128 := hbb128.at
                have hrb128 : RowE w129 (some ⟨b128, 0, none⟩) b128 0 8 rawW := rowLit rawW hbb128 rfl rfl
                refine h_next hC11 ?_
                refine h_take (i := 6) (by exact rfl) rfl rfl rfl (by kernel_rfl) (fun w' hC => run_ix (nx127.toNat) rfl Try.underlying67 ty_9 (by exact rfl) (by exact rfl) (by omega) (by show _ < 8; omega) (hrb128.addr (i := nx127.toNat) (by show _ < 8; omega))) hC11 ?_
                have hA130 := hrb128.atD (nx127.toNat) (by show _ < 8; omega)
                refine h_two (i := 7) (j := 9) (by kernel_rfl) ?_ ?_
                · skip
                  refine h_do (by exact rfl) ?_
                  refine r_op rfl rfl rfl (run_ld1 rfl ag_9 (by exact rfl) (hA130.cell 0 (by exact rfl))) ?_
                  refine h_next hC11 ?_
                  refine h_one (i := 9) (by kernel_rfl) ?_
                  refine h_do (by exact rfl) ?_
                  refine r_opcall rfl rfl rfl (run_callf (vs := [.pointer _, .int _ _]) rfl (by exact rfl) Try.func69 rfl (by kernel_rfl)) (nx_calls hb hl (by omega) (by omega) (by omega)) ?_
                  rintro e w131 ⟨nx131, rfl, hx131, hE131, hn131⟩
                  refine ⟨_, rfl, ?_⟩
                  have hs_w131 := (hE131).size
                  replace hV := evo_step1 hV hE131 (.inr (by simp))
                  replace hC11 := evo_step1 hC11 hE131 (by first | exact .inl (by omega) | exact .inr (by simp))
                  replace hl := hl0 _ hV
                  replace hof := hof.evo hE131 (by intro g hg hm; simp at hm; subst hm; have h7 := hobF g hg; have h8 := hof.block hg; omega)
                  replace hbb117 := hbb117.evo hE131 (by simp; omega)
                  replace hAb117 := hAb117.evo hE131 (by simp; omega)
                  replace hb := hn131
                  clear hn131
                  have hAs := hb.at
                  refine h_next hC11 ?_
                  refine h_take (i := 10) (by exact rfl) rfl rfl rfl (by kernel_rfl) (fun w' hC => run_bld (pv := [(0, .int _ _), (1, S _), (2, .int _ _)]) (zs := [_, _, _]) (cells := [_, _, _]) rfl ty_26 (by exact rfl) pl_26 (by exact rfl) (by exact rfl)) hC11 ?_
                  refine h_one (i := 12) (by kernel_rfl) ?_
                  refine h_do (by exact rfl) ?_
                  refine r_store (v := .agg _) (vs := [_, _, _]) (cs' := [_, _, _]) (by exact rfl) (by exact rfl) hbb117 ty_26 (by exact rfl) rfl (by exact rfl) rfl (by exact rfl) ?_
                  intro w132 hEw132 hzw132 hb_new
                  have hs_w132 := (hEw132).size
                  replace hV := evo_step1 hV hEw132 (by first | exact .inl (by omega) | exact .inr (by simp))
                  replace hl := hl0 _ hV
                  replace hof := hof.evo hEw132 (by intro g hg hm; simp at hm; subst hm; have h7 := hobF g hg; have h8 := hof.block hg; omega)
                  replace hb := hb.evo hEw132 (by simp; omega)
                  replace hbb117 := hb_new
                  have hAb117 := hbb117.at
                  clear hb_new
                  refine h_last (by kernel_rfl) ?_
                  refine h_done (by kernel_rfl) ?_
                  refine r_cut_end ?_ ?_
                  · refine ⟨_, _, _, _, rfl, hof, hbb117, hbb117.at, hb, hb.at, (rawW_bd _ (by omega)), (by omega), (fun g hg => by have := hobF g hg; omega), (by first | assumption | omega | (dsimp only; omega) | (simp; done)), hV⟩
                  · repeat (first | (with_reducible exact Agree.merge _ _ _) | (with_reducible exact Agree.refl _ _) | (with_reducible refine Agree.upd ?_ _ _ rfl) | ((with_reducible refine Agree.inner ?_ ?_); (kernel_rfl)))
                · skip
                  refine h_do (by exact rfl) ?_
                  refine r_opcall rfl rfl rfl (run_callf (vs := [.pointer _, .int _ _]) rfl (by exact rfl) Try.func69 rfl (by kernel_rfl)) (nx_calls hb hl (by omega) (by omega) (by omega)) ?_
                  rintro e w133 ⟨nx133, rfl, hx133, hE133, hn133⟩
                  refine ⟨_, rfl, ?_⟩
                  have hs_w133 := (hE133).size
                  replace hV := evo_step1 hV hE133 (.inr (by simp))
                  replace hC11 := evo_step1 hC11 hE133 (by first | exact .inl (by omega) | exact .inr (by simp))
                  replace hl := hl0 _ hV
                  replace hof := hof.evo hE133 (by intro g hg hm; simp at hm; subst hm; have h7 := hobF g hg; have h8 := hof.block hg; omega)
                  replace hbb117 := hbb117.evo hE133 (by simp; omega)
                  replace hAb117 := hAb117.evo hE133 (by simp; omega)
                  replace hA130 := hA130.evo hE133 (by simp; omega)
                  replace hb := hn133
                  clear hn133
                  have hAs := hb.at
                  refine h_next hC11 ?_
                  refine h_one (i := 7) (by kernel_rfl) ?_
                  refine h_do (by exact rfl) ?_
                  refine r_op rfl rfl rfl (run_ld1 rfl ag_9 (by exact rfl) (hA130.cell 0 (by exact rfl))) ?_
                  refine h_next hC11 ?_
                  refine h_take (i := 10) (by exact rfl) rfl rfl rfl (by kernel_rfl) (fun w' hC => run_bld (pv := [(0, .int _ _), (1, S _), (2, .int _ _)]) (zs := [_, _, _]) (cells := [_, _, _]) rfl ty_26 (by exact rfl) pl_26 (by exact rfl) (by exact rfl)) hC11 ?_
                  refine h_one (i := 12) (by kernel_rfl) ?_
                  refine h_do (by exact rfl) ?_
                  refine r_store (v := .agg _) (vs := [_, _, _]) (cs' := [_, _, _]) (by exact rfl) (by exact rfl) hbb117 ty_26 (by exact rfl) rfl (by exact rfl) rfl (by exact rfl) ?_
                  intro w134 hEw134 hzw134 hb_new
                  have hs_w134 := (hEw134).size
                  replace hV := evo_step1 hV hEw134 (by first | exact .inl (by omega) | exact .inr (by simp))
                  replace hl := hl0 _ hV
                  replace hof := hof.evo hEw134 (by intro g hg hm; simp at hm; subst hm; have h7 := hobF g hg; have h8 := hof.block hg; omega)
                  replace hb := hb.evo hEw134 (by simp; omega)
                  replace hbb117 := hb_new
                  have hAb117 := hbb117.at
                  clear hb_new
                  refine h_last (by kernel_rfl) ?_
                  refine h_done (by kernel_rfl) ?_
                  refine r_cut_end ?_ ?_
                  · refine ⟨_, _, _, _, rfl, hof, hbb117, hbb117.at, hb, hb.at, (rawW_bd _ (by omega)), (by omega), (fun g hg => by have := hobF g hg; omega), (by first | assumption | omega | (dsimp only; omega) | (simp; done)), hV⟩
                  · repeat (first | (with_reducible exact Agree.merge _ _ _) | (with_reducible exact Agree.refl _ _) | (with_reducible refine Agree.upd ?_ _ _ rfl) | ((with_reducible refine Agree.inner ?_ ?_); (kernel_rfl)))
              · skip
                refine h_do (by exact rfl) ?_
                refine r_opcall rfl rfl rfl (run_callf (vs := [.pointer _, .int _ _]) rfl (by exact rfl) Try.func69 rfl (by kernel_rfl)) (nx_calls hb hl (by omega) (by omega) (by omega)) ?_
                rintro e w135 ⟨nx135, rfl, hx135, hE135, hn135⟩
                refine ⟨_, rfl, ?_⟩
                have hs_w135 := (hE135).size
                replace hV := evo_step1 hV hE135 (.inr (by simp))
                replace hC11 := evo_step1 hC11 hE135 (by first | exact .inl (by omega) | exact .inr (by simp))
                replace hl := hl0 _ hV
                replace hof := hof.evo hE135 (by intro g hg hm; simp at hm; subst hm; have h7 := hobF g hg; have h8 := hof.block hg; omega)
                replace hbb117 := hbb117.evo hE135 (by simp; omega)
                replace hAb117 := hAb117.evo hE135 (by simp; omega)
                replace hb := hn135
                clear hn135
                have hAs := hb.at
                refine h_next hC11 ?_
                refine h_one (i := 3) (by kernel_rfl) ?_
                refine h_do (by exact rfl) ?_
                refine r_bslice (pv := [(0, S _), (1, S _), (2, S _), (3, S _), (4, S _), (5, S _), (6, S _), (7, S _)]) (zs := [_]) (cs := [_, _, _, _, _, _, _, _]) Try.underlying67 ty_9 (by exact rfl) rfl (by exact rfl) rfl (by exact rfl) ?_
                intro b136 w137 heb136 hEw137 hbb136 hzb136
                have hs_w137 := (hEw137).size
                replace hV := evo_step0 hV hEw137
                replace hC11 := evo_step0 hC11 hEw137
                replace hl := hl0 _ hV
                replace hof := hof.evo0 hEw137
                replace hbb117 := hbb117.evo0 hEw137
                replace hAb117 := hAb117.evo0 hEw137
                replace hb := hb.evo0 hEw137
                have hAb136 := hbb136.at
                have hrb136 : RowE w137 (some ⟨b136, 0, none⟩) b136 0 8 rawW := rowLit rawW hbb136 rfl rfl
                refine h_next hC11 ?_
                refine h_take (i := 6) (by exact rfl) rfl rfl rfl (by kernel_rfl) (fun w' hC => run_ix (nx127.toNat) rfl Try.underlying67 ty_9 (by exact rfl) (by exact rfl) (by omega) (by show _ < 8; omega) (hrb136.addr (i := nx127.toNat) (by show _ < 8; omega))) hC11 ?_
                have hA138 := hrb136.atD (nx127.toNat) (by show _ < 8; omega)
                refine h_one (i := 7) (by kernel_rfl) ?_
                refine h_do (by exact rfl) ?_
                refine r_op rfl rfl rfl (run_ld1 rfl ag_9 (by exact rfl) (hA138.cell 0 (by exact rfl))) ?_
                refine h_next hC11 ?_
                refine h_take (i := 10) (by exact rfl) rfl rfl rfl (by kernel_rfl) (fun w' hC => run_bld (pv := [(0, .int _ _), (1, S _), (2, .int _ _)]) (zs := [_, _, _]) (cells := [_, _, _]) rfl ty_26 (by exact rfl) pl_26 (by exact rfl) (by exact rfl)) hC11 ?_
                refine h_one (i := 12) (by kernel_rfl) ?_
                refine h_do (by exact rfl) ?_
                refine r_store (v := .agg _) (vs := [_, _, _]) (cs' := [_, _, _]) (by exact rfl) (by exact rfl) hbb117 ty_26 (by exact rfl) rfl (by exact rfl) rfl (by exact rfl) ?_
                intro w139 hEw139 hzw139 hb_new
                have hs_w139 := (hEw139).size
                replace hV := evo_step1 hV hEw139 (by first | exact .inl (by omega) | exact .inr (by simp))
                replace hl := hl0 _ hV
                replace hof := hof.evo hEw139 (by intro g hg hm; simp at hm; subst hm; have h7 := hobF g hg; have h8 := hof.block hg; omega)
                replace hb := hb.evo hEw139 (by simp; omega)
                replace hbb117 := hb_new
                have hAb117 := hbb117.at
                clear hb_new
                refine h_last (by kernel_rfl) ?_
                refine h_done (by kernel_rfl) ?_
                refine r_cut_end ?_ ?_
                · refine ⟨_, _, _, _, rfl, hof, hbb117, hbb117.at, hb, hb.at, (rawW_bd _ (by omega)), (by omega), (fun g hg => by have := hobF g hg; omega), (by first | assumption | omega | (dsimp only; omega) | (simp; done)), hV⟩
                · repeat (first | (with_reducible exact Agree.merge _ _ _) | (with_reducible exact Agree.refl _ _) | (with_reducible refine Agree.upd ?_ _ _ rfl) | ((with_reducible refine Agree.inner ?_ ?_); (kernel_rfl)))
        · skip
          refine h_do (by exact rfl) ?_
          refine r_bslice (pv := [(0, S _), (1, S _), (2, S _), (3, S _), (4, S _), (5, S _), (6, S _), (7, S _)]) (zs := [_]) (cs := [_, _, _, _, _, _, _, _]) Try.underlying67 ty_9 (by exact rfl) rfl (by exact rfl) rfl (by exact rfl) ?_
          intro b140 w141 heb140 hEw141 hbb140 hzb140
          have hs_w141 := (hEw141).size
          replace hV := evo_step0 hV hEw141
          replace hC11 := evo_step0 hC11 hEw141
          replace hl := hl0 _ hV
          replace hof := hof.evo0 hEw141
          replace hb := hb.evo0 hEw141
          replace hAs := hAs.evo0 hEw141
          have hAb140 := hbb140.at
          have hrb140 : RowE w141 (some ⟨b140, 0, none⟩) b140 0 8 rawW := rowLit rawW hbb140 rfl rfl
          refine h_next hC11 ?_
          refine h_two (i := 1) (j := 11) (by kernel_rfl) ?_ ?_
          · skip
            refine h_do (by exact rfl) ?_
            refine r_opcall rfl rfl rfl (run_callf (vs := [.pointer _, .int _ _]) rfl (by exact rfl) Try.func69 rfl (by kernel_rfl)) (nx_calls hb hl (by omega) (by omega) (by omega)) ?_
            rintro e w142 ⟨nx142, rfl, hx142, hE142, hn142⟩
            refine ⟨_, rfl, ?_⟩
            have hs_w142 := (hE142).size
            replace hV := evo_step1 hV hE142 (.inr (by simp))
            replace hC11 := evo_step1 hC11 hE142 (by first | exact .inl (by omega) | exact .inr (by simp))
            replace hl := hl0 _ hV
            replace hof := hof.evo hE142 (by intro g hg hm; simp at hm; subst hm; have h7 := hobF g hg; have h8 := hof.block hg; omega)
            replace hrb140 := hrb140.evo hE142 (by simp; omega)
            replace hb := hn142
            clear hn142
            have hAs := hb.at
            refine h_next hC11 ?_
            refine h_take (i := 2) (by exact rfl) rfl rfl rfl (by kernel_rfl) (fun w' hC => run_sub rfl (by exact rfl) (by exact rfl) (by omega) (by omega)) hC11 ?_
            refine h_two (i := 5) (j := 11) (by kernel_rfl) ?_ ?_
            · skip
              refine h_do (by exact rfl) ?_
              refine r_opcall rfl rfl rfl (run_callf (vs := [.pointer _, .int _ _]) rfl (by exact rfl) Try.func69 rfl (by kernel_rfl)) (nx_calls hb hl (by omega) (by omega) (by omega)) ?_
              rintro e w143 ⟨nx143, rfl, hx143, hE143, hn143⟩
              refine ⟨_, rfl, ?_⟩
              have hs_w143 := (hE143).size
              replace hV := evo_step1 hV hE143 (.inr (by simp))
              replace hC11 := evo_step1 hC11 hE143 (by first | exact .inl (by omega) | exact .inr (by simp))
              replace hl := hl0 _ hV
              replace hof := hof.evo hE143 (by intro g hg hm; simp at hm; subst hm; have h7 := hobF g hg; have h8 := hof.block hg; omega)
              replace hrb140 := hrb140.evo hE143 (by simp; omega)
              replace hb := hn143
              clear hn143
              have hAs := hb.at
              refine h_next hC11 ?_
              refine h_take (i := 6) (by exact rfl) rfl rfl rfl (by kernel_rfl) (fun w' hC => run_ix (nx143.toNat) rfl Try.underlying67 ty_9 (by exact rfl) (by exact rfl) (by omega) (by show _ < 8; omega) (hrb140.addr (i := nx143.toNat) (by show _ < 8; omega))) hC11 ?_
              have hA144 := hrb140.atD (nx143.toNat) (by show _ < 8; omega)
              refine h_three (i := 7) (j := 9) (p := 11) (by kernel_rfl) ?_ ?_ ?_
              · skip
                refine h_do (by exact rfl) ?_
                refine r_op rfl rfl rfl (run_ld1 rfl ag_9 (by exact rfl) (hA144.cell 0 (by exact rfl))) ?_
                refine h_next hC11 ?_
                refine h_two (i := 9) (j := 11) (by kernel_rfl) ?_ ?_
                · skip
                  refine h_do (by exact rfl) ?_
                  refine r_opcall rfl rfl rfl (run_callf (vs := [.pointer _, .int _ _]) rfl (by exact rfl) Try.func69 rfl (by kernel_rfl)) (nx_calls hb hl (by omega) (by omega) (by omega)) ?_
                  rintro e w145 ⟨nx145, rfl, hx145, hE145, hn145⟩
                  refine ⟨_, rfl, ?_⟩
                  have hs_w145 := (hE145).size
                  replace hV := evo_step1 hV hE145 (.inr (by simp))
                  replace hC11 := evo_step1 hC11 hE145 (by first | exact .inl (by omega) | exact .inr (by simp))
                  replace hl := hl0 _ hV
                  replace hof := hof.evo hE145 (by intro g hg hm; simp at hm; subst hm; have h7 := hobF g hg; have h8 := hof.block hg; omega)
                  replace hb := hn145
                  clear hn145
                  have hAs := hb.at
                  refine h_next hC11 ?_
                  refine h_take (i := 10) (by exact rfl) rfl rfl rfl (by kernel_rfl) (fun w' hC => run_bld (pv := [(0, .int _ _), (1, S _), (2, .int _ _)]) (zs := [_, _, _]) (cells := [_, _, _]) rfl ty_26 (by exact rfl) pl_26 (by exact rfl) (by exact rfl)) hC11 ?_
                  refine h_one (i := 11) (by kernel_rfl) ?_
                  refine h_do (by exact rfl) ?_
                  have hob146 := fun g hg => (hof.block (g := g) hg).2
                  refine r_alloc (zs := [_, _, _]) ty_26 (by exact rfl) rfl ?_
                  intro b147 w148 heb147 hEw148 hbb147 hzb147
                  have hs_w148 := (hEw148).size
                  replace hV := evo_step0 hV hEw148
                  replace hC11 := evo_step0 hC11 hEw148
                  replace hl := hl0 _ hV
                  replace hof := hof.evo0 hEw148
                  replace hb := hb.evo0 hEw148
                  have hAb147 := hbb147.at
                  refine h_next hC11 ?_
                  refine h_one (i := 12) (by kernel_rfl) ?_
                  refine h_do (by exact rfl) ?_
                  refine r_store (v := .agg _) (vs := [_, _, _]) (cs' := [_, _, _]) (by exact rfl) (by exact rfl) hbb147 ty_26 (by exact rfl) rfl (by exact rfl) rfl (by exact rfl) ?_
                  intro w149 hEw149 hzw149 hb_new
                  have hs_w149 := (hEw149).size
                  replace hV := evo_step1 hV hEw149 (by first | exact .inl (by omega) | exact .inr (by simp))
                  replace hl := hl0 _ hV
                  replace hof := hof.evo hEw149 (by intro g hg hm; simp at hm; subst hm; have h7 := hobF g hg; have h8 := hof.block hg; omega)
                  replace hb := hb.evo hEw149 (by simp; omega)
                  replace hbb147 := hb_new
                  have hAb147 := hbb147.at
                  clear hb_new
                  refine h_last (by kernel_rfl) ?_
                  refine h_done (by kernel_rfl) ?_
                  refine r_cut_end ?_ ?_
                  · refine ⟨_, _, _, _, rfl, hof, hbb147, hbb147.at, hb, hb.at, (rawW_bd _ (by omega)), (by omega), (fun g hg => by have := hobF g hg; omega), (by first | assumption | omega | (dsimp only; omega) | (simp; done)), hV⟩
                  · repeat (first | (with_reducible exact Agree.merge _ _ _) | (with_reducible exact Agree.refl _ _) | (with_reducible refine Agree.upd ?_ _ _ rfl) | ((with_reducible refine Agree.inner ?_ ?_); (kernel_rfl)))
                · skip
                  refine h_do (by exact rfl) ?_
                  have hob150 := fun g hg => (hof.block (g := g) hg).2
                  refine r_alloc (zs := [_, _, _]) ty_26 (by exact rfl) rfl ?_
                  intro b151 w152 heb151 hEw152 hbb151 hzb151
                  have hs_w152 := (hEw152).size
                  replace hV := evo_step0 hV hEw152
                  replace hC11 := evo_step0 hC11 hEw152
                  replace hl := hl0 _ hV
                  replace hof := hof.evo0 hEw152
                  replace hrb140 := hrb140.evo0 hEw152
                  replace hb := hb.evo0 hEw152
                  replace hAs := hAs.evo0 hEw152
                  have hAb151 := hbb151.at
                  refine h_next hC11 ?_
                  refine h_one (i := 9) (by kernel_rfl) ?_
                  refine h_do (by exact rfl) ?_
                  refine r_opcall rfl rfl rfl (run_callf (vs := [.pointer _, .int _ _]) rfl (by exact rfl) Try.func69 rfl (by kernel_rfl)) (nx_calls hb hl (by omega) (by omega) (by omega)) ?_
                  rintro e w153 ⟨nx153, rfl, hx153, hE153, hn153⟩
                  refine ⟨_, rfl, ?_⟩
                  have hs_w153 := (hE153).size
                  replace hV := evo_step1 hV hE153 (.inr (by simp))
                  replace hC11 := evo_step1 hC11 hE153 (by first | exact .inl (by omega) | exact .inr (by simp))
                  replace hl := hl0 _ hV
                  replace hof := hof.evo hE153 (by intro g hg hm; simp at hm; subst hm; have h7 := hobF g hg; have h8 := hof.block hg; omega)
                  replace hbb151 := hbb151.evo hE153 (by simp; omega)
                  replace hAb151 := hAb151.evo hE153 (by simp; omega)
                  replace hb := hn153
                  clear hn153
                  have hAs := hb.at
                  refine h_next hC11 ?_
                  refine h_take (i := 10) (by exact rfl) rfl rfl rfl (by kernel_rfl) (fun w' hC => run_bld (pv := [(0, .int _ _), (1, S _), (2, .int _ _)]) (zs := [_, _, _]) (cells := [_, _, _]) rfl ty_26 (by exact rfl) pl_26 (by exact rfl) (by exact rfl)) hC11 ?_
                  refine h_one (i := 12) (by kernel_rfl) ?_
                  refine h_do (by exact rfl) ?_
                  refine r_store (v := .agg _) (vs := [_, _, _]) (cs' := [_, _, _]) (by exact rfl) (by exact rfl) hbb151 ty_26 (by exact rfl) rfl (by exact rfl) rfl (by exact rfl) ?_
                  intro w154 hEw154 hzw154 hb_new
                  have hs_w154 := (hEw154).size
                  replace hV := evo_step1 hV hEw154 (by first | exact .inl (by omega) | exact .inr (by simp))
                  replace hl := hl0 _ hV
                  replace hof := hof.evo hEw154 (by intro g hg hm; simp at hm; subst hm; have h7 := hobF g hg; have h8 := hof.block hg; omega)
                  replace hb := hb.evo hEw154 (by simp; omega)
                  replace hbb151 := hb_new
                  have hAb151 := hbb151.at
                  clear hb_new
                  refine h_last (by kernel_rfl) ?_
                  refine h_done (by kernel_rfl) ?_
                  refine r_cut_end ?_ ?_
                  · refine ⟨_, _, _, _, rfl, hof, hbb151, hbb151.at, hb, hb.at, (rawW_bd _ (by omega)), (by omega), (fun g hg => by have := hobF g hg; omega), (by first | assumption | omega | (dsimp only; omega) | (simp; done)), hV⟩
                  · repeat (first | (with_reducible exact Agree.merge _ _ _) | (with_reducible exact Agree.refl _ _) | (with_reducible refine Agree.upd ?_ _ _ rfl) | ((with_reducible refine Agree.inner ?_ ?_); (kernel_rfl)))
              · skip
                refine h_do (by exact rfl) ?_
                refine r_opcall rfl rfl rfl (run_callf (vs := [.pointer _, .int _ _]) rfl (by exact rfl) Try.func69 rfl (by kernel_rfl)) (nx_calls hb hl (by omega) (by omega) (by omega)) ?_
                rintro e w155 ⟨nx155, rfl, hx155, hE155, hn155⟩
                refine ⟨_, rfl, ?_⟩
                have hs_w155 := (hE155).size
                replace hV := evo_step1 hV hE155 (.inr (by simp))
                replace hC11 := evo_step1 hC11 hE155 (by first | exact .inl (by omega) | exact .inr (by simp))
                replace hl := hl0 _ hV
                replace hof := hof.evo hE155 (by intro g hg hm; simp at hm; subst hm; have h7 := hobF g hg; have h8 := hof.block hg; omega)
                replace hA144 := hA144.evo hE155 (by simp; omega)
                replace hb := hn155
                clear hn155
                have hAs := hb.at
                refine h_next hC11 ?_
                refine h_two (i := 7) (j := 11) (by kernel_rfl) ?_ ?_
                · skip
                  refine h_do (by exact rfl) ?_
                  refine r_op rfl rfl rfl (run_ld1 rfl ag_9 (by exact rfl) (hA144.cell 0 (by exact rfl))) ?_
                  refine h_next hC11 ?_
                  refine h_take (i := 10) (by exact rfl) rfl rfl rfl (by kernel_rfl) (fun w' hC => run_bld (pv := [(0, .int _ _), (1, S _), (2, .int _ _)]) (zs := [_, _, _]) (cells := [_, _, _]) rfl ty_26 (by exact rfl) pl_26 (by exact rfl) (by exact rfl)) hC11 ?_
                  refine h_one (i := 11) (by kernel_rfl) ?_
                  refine h_do (by exact rfl) ?_
                  have hob156 := fun g hg => (hof.block (g := g) hg).2
                  refine r_alloc (zs := [_, _, _]) ty_26 (by exact rfl) rfl ?_
                  intro b157 w158 heb157 hEw158 hbb157 hzb157
                  have hs_w158 := (hEw158).size
                  replace hV := evo_step0 hV hEw158
                  replace hC11 := evo_step0 hC11 hEw158
                  replace hl := hl0 _ hV
                  replace hof := hof.evo0 hEw158
                  replace hb := hb.evo0 hEw158
                  have hAb157 := hbb157.at
                  refine h_next hC11 ?_
                  refine h_one (i := 12) (by kernel_rfl) ?_
                  refine h_do (by exact rfl) ?_
                  refine r_store (v := .agg _) (vs := [_, _, _]) (cs' := [_, _, _]) (by exact rfl) (by exact rfl) hbb157 ty_26 (by exact rfl) rfl (by exact rfl) rfl (by exact rfl) ?_
                  intro w159 hEw159 hzw159 hb_new
                  have hs_w159 := (hEw159).size
                  replace hV := evo_step1 hV hEw159 (by first | exact .inl (by omega) | exact .inr (by simp))
                  replace hl := hl0 _ hV
                  replace hof := hof.evo hEw159 (by intro g hg hm; simp at hm; subst hm; have h7 := hobF g hg; have h8 := hof.block hg; omega)
                  replace hb := hb.evo hEw159 (by simp; omega)
                  replace hbb157 := hb_new
                  have hAb157 := hbb157.at
                  clear hb_new
                  refine h_last (by kernel_rfl) ?_
                  refine h_done (by kernel_rfl) ?_
                  refine r_cut_end ?_ ?_
                  · refine ⟨_, _, _, _, rfl, hof, hbb157, hbb157.at, hb, hb.at, (rawW_bd _ (by omega)), (by omega), (fun g hg => by have := hobF g hg; omega), (by first | assumption | omega | (dsimp only; omega) | (simp; done)), hV⟩
                  · repeat (first | (with_reducible exact Agree.merge _ _ _) | (with_reducible exact Agree.refl _ _) | (with_reducible refine Agree.upd ?_ _ _ rfl) | ((with_reducible refine Agree.inner ?_ ?_); (kernel_rfl)))
                · skip
                  refine h_do (by exact rfl) ?_
                  have hob160 := fun g hg => (hof.block (g := g) hg).2
                  refine r_alloc (zs := [_, _, _]) ty_26 (by exact rfl) rfl ?_
                  intro b161 w162 heb161 hEw162 hbb161 hzb161
                  have hs_w162 := (hEw162).size
                  replace hV := evo_step0 hV hEw162
                  replace hC11 := evo_step0 hC11 hEw162
                  replace hl := hl0 _ hV
                  replace hof := hof.evo0 hEw162
                  replace hA144 := hA144.evo0 hEw162
                  replace hb := hb.evo0 hEw162
                  have hAb161 := hbb161.at
                  refine h_next hC11 ?_
                  refine h_one (i := 7) (by kernel_rfl) ?_
                  refine h_do (by exact rfl) ?_
                  refine r_op rfl rfl rfl (run_ld1 rfl ag_9 (by exact rfl) (hA144.cell 0 (by exact rfl))) ?_
                  refine h_next hC11 ?_
                  refine h_take (i := 10) (by exact rfl) rfl rfl rfl (by kernel_rfl) (fun w' hC => run_bld (pv := [(0, .int _ _), (1, S _), (2, .int _ _)]) (zs := [_, _, _]) (cells := [_, _, _]) rfl ty_26 (by exact rfl) pl_26 (by exact rfl) (by exact rfl)) hC11 ?_
                  refine h_one (i := 12) (by kernel_rfl) ?_
                  refine h_do (by exact rfl) ?_
                  refine r_store (v := .agg _) (vs := [_, _, _]) (cs' := [_, _, _]) (by exact rfl) (by exact rfl) hbb161 ty_26 (by exact rfl) rfl (by exact rfl) rfl (by exact rfl) ?_
                  intro w163 hEw163 hzw163 hb_new
                  have hs_w163 := (hEw163).size
                  replace hV := evo_step1 hV hEw163 (by first | exact .inl (by omega) | exact .inr (by simp))
                  replace hl := hl0 _ hV
                  replace hof := hof.evo hEw163 (by intro g hg hm; simp at hm; subst hm; have h7 := hobF g hg; have h8 := hof.block hg; omega)
                  replace hb := hb.evo hEw163 (by simp; omega)
                  replace hbb161 := hb_new
                  have hAb161 := hbb161.at
                  clear hb_new
                  refine h_last (by kernel_rfl) ?_
                  refine h_done (by kernel_rfl) ?_
                  refine r_cut_end ?_ ?_
                  · refine ⟨_, _, _, _, rfl, hof, hbb161, hbb161.at, hb, hb.at, (rawW_bd _ (by omega)), (by omega), (fun g hg => by have := hobF g hg; omega), (by first | assumption | omega | (dsimp only; omega) | (simp; done)), hV⟩
                  · repeat (first | (with_reducible exact Agree.merge _ _ _) | (with_reducible exact Agree.refl _ _) | (with_reducible refine Agree.upd ?_ _ _ rfl) | ((with_reducible refine Agree.inner ?_ ?_); (kernel_rfl)))
              · skip
                refine h_do (by exact rfl) ?_
                have hob164 := fun g hg => (hof.block (g := g) hg).2
                refine r_alloc (zs := [_, _, _]) ty_26 (by exact rfl) rfl ?_
                intro b165 w166 heb165 hEw166 hbb165 hzb165
                have hs_w166 := (hEw166).size
                replace hV := evo_step0 hV hEw166
                replace hC11 := evo_step0 hC11 hEw166
                replace hl := hl0 _ hV
                replace hof := hof.evo0 hEw166
                replace hrb140 := hrb140.evo0 hEw166
                replace hb := hb.evo0 hEw166
                replace hAs := hAs.evo0 hEw166
                replace hA144 := hA144.evo0 hEw166
                have hAb165 := hbb165.at
                refine h_next hC11 ?_
                refine h_two (i := 7) (j := 9) (by kernel_rfl) ?_ ?_
                · skip
                  refine h_do (by exact rfl) ?_
                  refine r_op rfl rfl rfl (run_ld1 rfl ag_9 (by exact rfl) (hA144.cell 0 (by exact rfl))) ?_
                  refine h_next hC11 ?_
                  refine h_one (i := 9) (by kernel_rfl) ?_
                  refine h_do (by exact rfl) ?_
                  refine r_opcall rfl rfl rfl (run_callf (vs := [.pointer _, .int _ _]) rfl (by exact rfl) Try.func69 rfl (by kernel_rfl)) (nx_calls hb hl (by omega) (by omega) (by omega)) ?_
                  rintro e w167 ⟨nx167, rfl, hx167, hE167, hn167⟩
                  refine ⟨_, rfl, ?_⟩
                  have hs_w167 := (hE167).size
                  replace hV := evo_step1 hV hE167 (.inr (by simp))
                  replace hC11 := evo_step1 hC11 hE167 (by first | exact .inl (by omega) | exact .inr (by simp))
                  replace hl := hl0 _ hV
                  replace hof := hof.evo hE167 (by intro g hg hm; simp at hm; subst hm; have h7 := hobF g hg; have h8 := hof.block hg; omega)
                  replace hbb165 := hbb165.evo hE167 (by simp; omega)
                  replace hAb165 := hAb165.evo hE167 (by simp; omega)
                  replace hb := hn167
                  clear hn167
                  have hAs := hb.at
                  refine h_next hC11 ?_
                  refine h_take (i := 10) (by exact rfl) rfl rfl rfl (by kernel_rfl) (fun w' hC => run_bld (pv := [(0, .int _ _), (1, S _), (2, .int _ _)]) (zs := [_, _, _]) (cells := [_, _, _]) rfl ty_26 (by exact rfl) pl_26 (by exact rfl) (by exact rfl)) hC11 ?_
                  refine h_one (i := 12) (by kernel_rfl) ?_
                  refine h_do (by exact rfl) ?_
                  refine r_store (v := .agg _) (vs := [_, _, _]) (cs' := [_, _, _]) (by exact rfl) (by exact rfl) hbb165 ty_26 (by exact rfl) rfl (by exact rfl) rfl (by exact rfl) ?_
                  intro w168 hEw168 hzw168 hb_new
                  have hs_w168 := (hEw168).size
                  replace hV := evo_step1 hV hEw168 (by first | exact .inl (by omega) | exact .inr (by simp))
                  replace hl := hl0 _ hV
                  replace hof := hof.evo hEw168 (by intro g hg hm; simp at hm; subst hm; have h7 := hobF g hg; have h8 := hof.block hg; omega)
                  replace hb := hb.evo hEw168 (by simp; omega)
                  replace hbb165 := hb_new
                  have hAb165 := hbb165.at
                  clear hb_new
                  refine h_last (by kernel_rfl) ?_
                  refine h_done (by kernel_rfl) ?_
                  refine r_cut_end ?_ ?_
                  · refine ⟨_, _, _, _, rfl, hof, hbb165, hbb165.at, hb, hb.at, (rawW_bd _ (by omega)), (by omega), (fun g hg => by have := hobF g hg; omega), (by first | assumption | omega | (dsimp only; omega) | (simp; done)), hV⟩
                  · repeat (first | (with_reducible exact Agree.merge _ _ _) | (with_reducible exact Agree.refl _ _) | (with_reducible refine Agree.upd ?_ _ _ rfl) | ((with_reducible refine Agree.inner ?_ ?_); (kernel_rfl)))
                · skip
                  refine h_do (by exact rfl) ?_
                  refine r_opcall rfl rfl rfl (run_callf (vs := [.pointer _, .int _ _]) rfl (by exact rfl) Try.func69 rfl (by kernel_rfl)) (nx_calls hb hl (by omega) (by omega) (by omega)) ?_
                  rintro e w169 ⟨nx169, rfl, hx169, hE169, hn169⟩
                  refine ⟨_, rfl, ?_⟩
                  have hs_w169 := (hE169).size
                  replace hV := evo_step1 hV hE169 (.inr (by simp))
                  replace hC11 := evo_step1 hC11 hE169 (by first | exact .inl (by omega) | exact .inr (by simp))
                  replace hl := hl0 _ hV
                  replace hof := hof.evo hE169 (by intro g hg hm; simp at hm; subst hm; have h7 := hobF g hg; have h8 := hof.block hg; omega)
                  replace hA144 := hA144.evo hE169 (by simp; omega)
                  replace hbb165 := hbb165.evo hE169 (by simp; omega)
                  replace hAb165 := hAb165.evo hE169 (by simp; omega)
                  replace hb := hn169
                  clear hn169
                  have hAs := hb.at
                  refine h_next hC11 ?_
                  refine h_one (i := 7) (by kernel_rfl) ?_
                  refine h_do (by exact rfl) ?_
                  refine r_op rfl rfl rfl (run_ld1 rfl ag_9 (by exact rfl) (hA144.cell 0 (by exact rfl))) ?_
                  refine h_next hC11 ?_
                  refine h_take (i := 10) (by exact rfl) rfl rfl rfl (by kernel_rfl) (fun w' hC => run_bld (pv := [(0, .int _ _), (1, S _), (2, .int _ _)]) (zs := [_, _, _]) (cells := [_, _, _]) rfl ty_26 (by exact rfl) pl_26 (by exact rfl) (by exact rfl)) hC11 ?_
                  refine h_one (i := 12) (by kernel_rfl) ?_
                  refine h_do (by exact rfl) ?_
                  refine r_store (v := .agg _) (vs := [_, _, _]) (cs' := [_, _, _]) (by exact rfl) (by exact rfl) hbb165 ty_26 (by exact rfl) rfl (by exact rfl) rfl (by exact rfl) ?_
                  intro w170 hEw170 hzw170 hb_new
                  have hs_w170 := (hEw170).size
                  replace hV := evo_step1 hV hEw170 (by first | exact .inl (by omega) | exact .inr (by simp))
                  replace hl := hl0 _ hV
                  replace hof := hof.evo hEw170 (by intro g hg hm; simp at hm; subst hm; have h7 := hobF g hg; have h8 := hof.block hg; omega)
                  replace hb := hb.evo hEw170 (by simp; omega)
                  replace hbb165 := hb_new
                  have hAb165 := hbb165.at
                  clear hb_new
                  refine h_last (by kernel_rfl) ?_
                  refine h_done (by kernel_rfl) ?_
                  refine r_cut_end ?_ ?_
                  · refine ⟨_, _, _, _, rfl, hof, hbb165, hbb165.at, hb, hb.at, (rawW_bd _ (by omega)), (by omega), (fun g hg => by have := hobF g hg; omega), (by first | assumption | omega | (dsimp only; omega) | (simp; done)), hV⟩
                  · repeat (first | (with_reducible exact Agree.merge _ _ _) | (with_reducible exact Agree.refl _ _) | (with_reducible refine Agree.upd ?_ _ _ rfl) | ((with_reducible refine Agree.inner ?_ ?_); (kernel_rfl)))
            · skip
              refine h_do (by exact rfl) ?_
              have hob171 := fun g hg => (hof.block (g := g) hg).2
              refine r_alloc (zs := [_, _, _]) ty_26 (by exact rfl) rfl ?_
              intro b172 w173 heb172 hEw173 hbb172 hzb172
              have hs_w173 := (hEw173).size
              replace hV := evo_step0 hV hEw173
              replace hC11 := evo_step0 hC11 hEw173
              replace hl := hl0 _ hV
              replace hof := hof.evo0 hEw173
              replace hrb140 := hrb140.evo0 hEw173
              replace hb := hb.evo0 hEw173
              replace hAs := hAs.evo0 hEw173
              have hAb172 := hbb172.at
              refine h_next hC11 ?_
              refine h_one (i := 5) (by kernel_rfl) ?_
              refine h_do (by exact rfl) ?_
              refine r_opcall rfl rfl rfl (run_callf (vs := [.pointer _, .int _ _]) rfl (by exact rfl) Try.func69 rfl (by kernel_rfl)) (nx_calls hb hl (by omega) (by omega) (by omega)) ?_
              rintro e w174 ⟨nx174, rfl, hx174, hE174, hn174⟩
              refine ⟨_, rfl, ?_⟩
              have hs_w174 := (hE174).size
              replace hV := evo_step1 hV hE174 (.inr (by simp))
              replace hC11 := evo_step1 hC11 hE174 (by first | exact .inl (by omega) | exact .inr (by simp))
              replace hl := hl0 _ hV
              replace hof := hof.evo hE174 (by intro g hg hm; simp at hm; subst hm; have h7 := hobF g hg; have h8 := hof.block hg; omega)
              replace hrb140 := hrb140.evo hE174 (by simp; omega)
              replace hbb172 := hbb172.evo hE174 (by simp; omega)
              replace hAb172 := hAb172.evo hE174 (by simp; omega)
              replace hb := hn174
              clear hn174
              have hAs := hb.at
              refine h_next hC11 ?_
              refine h_take (i := 6) (by exact rfl) rfl rfl rfl (by kernel_rfl) (fun w' hC => run_ix (nx174.toNat) rfl Try.underlying67 ty_9 (by exact rfl) (by exact rfl) (by omega) (by show _ < 8; omega) (hrb140.addr (i := nx174.toNat) (by show _ < 8; omega))) hC11 ?_
              have hA175 := hrb140.atD (nx174.toNat) (by show _ < 8; omega)
              refine h_two (i := 7) (j := 9) (by kernel_rfl) ?_ ?_
              · skip
                refine h_do (by exact rfl) ?_
                refine r_op rfl rfl rfl (run_ld1 rfl ag_9 (by exact rfl) (hA175.cell 0 (by exact rfl))) ?_
                refine h_next hC11 ?_
                refine h_one (i := 9) (by kernel_rfl) ?_
                refine h_do (by exact rfl) ?_
                refine r_opcall rfl rfl rfl (run_callf (vs := [.pointer _, .int _ _]) rfl (by exact rfl) Try.func69 rfl (by kernel_rfl)) (nx_calls hb hl (by omega) (by omega) (by omega)) ?_
                rintro e w176 ⟨nx176, rfl, hx176, hE176, hn176⟩
                refine ⟨_, rfl, ?_⟩
                have hs_w176 := (hE176).size
                replace hV := evo_step1 hV hE176 (.inr (by simp))
                replace hC11 := evo_step1 hC11 hE176 (by first | exact .inl (by omega) | exact .inr (by simp))
                replace hl := hl0 _ hV
                replace hof := hof.evo hE176 (by intro g hg hm; simp at hm; subst hm; have h7 := hobF g hg; have h8 := hof.block hg; omega)
                replace hbb172 := hbb172.evo hE176 (by simp; omega)
                replace hAb172 := hAb172.evo hE176 (by simp; omega)
                replace hb := hn176
                clear hn176
                have hAs := hb.at
                refine h_next hC11 ?_
                refine h_take (i := 10) (by exact rfl) rfl rfl rfl (by kernel_rfl) (fun w' hC => run_bld (pv := [(0, .int _ _), (1, S _), (2, .int _ _)]) (zs := [_, _, _]) (cells := [_, _, _]) rfl ty_26 (by exact rfl) pl_26 (by exact rfl) (by exact rfl)) hC11 ?_
                refine h_one (i := 12) (by kernel_rfl) ?_
                refine h_do (by exact rfl) ?_
                refine r_store (v := .agg _) (vs := [_, _, _]) (cs' := [_, _, _]) (by exact rfl) (by exact rfl) hbb172 ty_26 (by exact rfl) rfl (by exact rfl) rfl (by exact rfl) ?_
                intro w177 hEw177 hzw177 hb_new
                have hs_w177 := (hEw177).size
                replace hV := evo_step1 hV hEw177 (by first | exact .inl (by omega) | exact .inr (by simp))
                replace hl := hl0 _ hV
                replace hof := hof.evo hEw177 (by intro g hg hm; simp at hm; subst hm; have h7 := hobF g hg; have h8 := hof.block hg; omega)
                replace hb := hb.evo hEw177 (by simp; omega)
                replace hbb172 := hb_new
                have hAb172 := hbb172.at
                clear hb_new
                refine h_last (by kernel_rfl) ?_
                refine h_done (by kernel_rfl) ?_
                refine r_cut_end ?_ ?_
                · refine ⟨_, _, _, _, rfl, hof, hbb172, hbb172.at, hb, hb.at, (rawW_bd _ (by omega)), (by omega), (fun g hg => by have := hobF g hg; omega), (by first | assumption | omega | (dsimp only; omega) | (simp; done)), hV⟩
                · repeat (first | (with_reducible exact Agree.merge _ _ _) | (with_reducible exact Agree.refl _ _) | (with_reducible refine Agree.upd ?_ _ _ rfl) | ((with_reducible refine Agree.inner ?_ ?_); (kernel_rfl)))
              · skip
                refine h_do (by exact rfl) ?_
                refine r_opcall rfl rfl rfl (run_callf (vs := [.pointer _, .int _ _]) rfl (by exact rfl) Try.func69 rfl (by kernel_rfl)) (nx_calls hb hl (by omega) (by omega) (by omega)) ?_
                rintro e w178 ⟨nx178, rfl, hx178, hE178, hn178⟩
                refine ⟨_, rfl, ?_⟩
                have hs_w178 := (hE178).size
                replace hV := evo_step1 hV hE178 (.inr (by simp))
                replace hC11 := evo_step1 hC11 hE178 (by first | exact .inl (by omega) | exact .inr (by simp))
                replace hl := hl0 _ hV
                replace hof := hof.evo hE178 (by intro g hg hm; simp at hm; subst hm; have h7 := hobF g hg; have h8 := hof.block hg; omega)
                replace hbb172 := hbb172.evo hE178 (by simp; omega)
                replace hAb172 := hAb172.evo hE178 (by simp; omega)
                replace hA175 := hA175.evo hE178 (by simp; omega)
                replace hb := hn178
                clear hn178
                have hAs := hb.at
                refine h_next hC11 ?_
                refine h_one (i := 7) (by kernel_rfl) ?_
                refine h_do (by exact rfl) ?_
                refine r_op rfl rfl rfl (run_ld1 rfl ag_9 (by exact rfl) (hA175.cell 0 (by exact rfl))) ?_
                refine h_next hC11 ?_
                refine h_take (i := 10) (by exact rfl) rfl rfl rfl (by kernel_rfl) (fun w' hC => run_bld (pv := [(0, .int _ _), (1, S _), (2, .int _ _)]) (zs := [_, _, _]) (cells := [_, _, _]) rfl ty_26 (by exact rfl) pl_26 (by exact rfl) (by exact rfl)) hC11 ?_
                refine h_one (i := 12) (by kernel_rfl) ?_
                refine h_do (by exact rfl) ?_
                refine r_store (v := .agg _) (vs := [_, _, _]) (cs' := [_, _, _]) (by exact rfl) (by exact rfl) hbb172 ty_26 (by exact rfl) rfl (by exact rfl) rfl (by exact rfl) ?_
                intro w179 hEw179 hzw179 hb_new
                have hs_w179 := (hEw179).size
                replace hV := evo_step1 hV hEw179 (by first | exact .inl (by omega) | exact .inr (by simp))
                replace hl := hl0 _ hV
                replace hof := hof.evo hEw179 (by intro g hg hm; simp at hm; subst hm; have h7 := hobF g hg; have h8 := hof.block hg; omega)
                replace hb := hb.evo hEw179 (by simp; omega)
                replace hbb172 := hb_new
                have hAb172 := hbb172.at
                clear hb_new
                refine h_last (by kernel_rfl) ?_
                refine h_done (by kernel_rfl) ?_
                refine r_cut_end ?_ ?_
                · refine ⟨_, _, _, _, rfl, hof, hbb172, hbb172.at, hb, hb.at, (rawW_bd _ (by omega)), (by omega), (fun g hg => by have := hobF g hg; omega), (by first | assumption | omega | (dsimp only; omega) | (simp; done)), hV⟩
                · repeat (first | (with_reducible exact Agree.merge _ _ _) | (with_reducible exact Agree.refl _ _) | (with_reducible refine Agree.upd ?_ _ _ rfl) | ((with_reducible refine Agree.inner ?_ ?_); (kernel_rfl)))
          · skip
            refine h_do (by exact rfl) ?_
            have hob180 := fun g hg => (hof.block (g := g) hg).2
            refine r_alloc (zs := [_, _, _]) ty_26 (by exact rfl) rfl ?_
            intro b181 w182 heb181 hEw182 hbb181 hzb181
            have hs_w182 := (hEw182).size
            replace hV := evo_step0 hV hEw182
            replace hC11 := evo_step0 hC11 hEw182
            replace hl := hl0 _ hV
            replace hof := hof.evo0 hEw182
            replace hb := hb.evo0 hEw182
            replace hAs := hAs.evo0 hEw182
            replace hrb140 := hrb140.evo0 hEw182
            have hAb181 := hbb181.at
            refine h_next hC11 ?_
            refine h_one (i := 1) (by kernel_rfl) ?_
            refine h_do (by exact rfl) ?_
            refine r_opcall rfl rfl rfl (run_callf (vs := [.pointer _, .int _ _]) rfl (by exact rfl) Try.func69 rfl (by kernel_rfl)) (nx_calls hb hl (by omega) (by omega) (by omega)) ?_
            rintro e w183 ⟨nx183, rfl, hx183, hE183, hn183⟩
            refine ⟨_, rfl, ?_⟩
            have hs_w183 := (hE183).size
            replace hV := evo_step1 hV hE183 (.inr (by simp))
            replace hC11 := evo_step1 hC11 hE183 (by first | exact .inl (by omega) | exact .inr (by simp))
            replace hl := hl0 _ hV
            replace hof := hof.evo hE183 (by intro g hg hm; simp at hm; subst hm; have h7 := hobF g hg; have h8 := hof.block hg; omega)
            replace hrb140 := hrb140.evo hE183 (by simp; omega)
            replace hbb181 := hbb181.evo hE183 (by simp; omega)
            replace hAb181 := hAb181.evo hE183 (by simp; omega)
            replace hb := hn183
            clear hn183
            have hAs := hb.at
            refine h_next hC11 ?_
            refine h_take (i := 2) (by exact rfl) rfl rfl rfl (by kernel_rfl) (fun w' hC => run_sub rfl (by exact rfl) (by exact rfl) (by omega) (by omega)) hC11 ?_
            refine h_one (i := 5) (by kernel_rfl) ?_
            refine h_do (by exact rfl) ?_
            refine r_opcall rfl rfl rfl (run_callf (vs := [.pointer _, .int _ _]) rfl (by exact rfl) Try.func69 rfl (by kernel_rfl)) (nx_calls hb hl (by omega) (by omega) (by omega)) ?_
            rintro e w184 ⟨nx184, rfl, hx184, hE184, hn184⟩
            refine ⟨_, rfl, ?_⟩
            have hs_w184 := (hE184).size
            replace hV := evo_step1 hV hE184 (.inr (by simp))
            replace hC11 := evo_step1 hC11 hE184 (by first | exact .inl (by omega) | exact .inr (by simp))
            replace hl := hl0 _ hV
            replace hof := hof.evo hE184 (by intro g hg hm; simp at hm; subst hm; have h7 := hobF g hg; have h8 := hof.block hg; omega)
            replace hrb140 := hrb140.evo hE184 (by simp; omega)
            replace hbb181 := hbb181.evo hE184 (by simp; omega)
            replace hAb181 := hAb181.evo hE184 (by simp; omega)
            replace hb := hn184
            clear hn184
            have hAs := hb.at
            refine h_next hC11 ?_
            refine h_take (i := 6) (by exact rfl) rfl rfl rfl (by kernel_rfl) (fun w' hC => run_ix (nx184.toNat) rfl Try.underlying67 ty_9 (by exact rfl) (by exact rfl) (by omega) (by show _ < 8; omega) (hrb140.addr (i := nx184.toNat) (by show _ < 8; omega))) hC11 ?_
            have hA185 := hrb140.atD (nx184.toNat) (by show _ < 8; omega)
            refine h_two (i := 7) (j := 9) (by kernel_rfl) ?_ ?_
            · skip
              refine h_do (by exact rfl) ?_
              refine r_op rfl rfl rfl (run_ld1 rfl ag_9 (by exact rfl) (hA185.cell 0 (by exact rfl))) ?_
              refine h_next hC11 ?_
              refine h_one (i := 9) (by kernel_rfl) ?_
              refine h_do (by exact rfl) ?_
              refine r_opcall rfl rfl rfl (run_callf (vs := [.pointer _, .int _ _]) rfl (by exact rfl) Try.func69 rfl (by kernel_rfl)) (nx_calls hb hl (by omega) (by omega) (by omega)) ?_
              rintro e w186 ⟨nx186, rfl, hx186, hE186, hn186⟩
              refine ⟨_, rfl, ?_⟩
              have hs_w186 := (hE186).size
              replace hV := evo_step1 hV hE186 (.inr (by simp))
              replace hC11 := evo_step1 hC11 hE186 (by first | exact .inl (by omega) | exact .inr (by simp))
              replace hl := hl0 _ hV
              replace hof := hof.evo hE186 (by intro g hg hm; simp at hm; subst hm; have h7 := hobF g hg; have h8 := hof.block hg; omega)
              replace hbb181 := hbb181.evo hE186 (by simp; omega)
              replace hAb181 := hAb181.evo hE186 (by simp; omega)
              replace hb := hn186
              clear hn186
              have hAs := hb.at
              refine h_next hC11 ?_
              refine h_take (i := 10) (by exact rfl) rfl rfl rfl (by kernel_rfl) (fun w' hC => run_bld (pv := [(0, .int _ _), (1, S _), (2, .int _ _)]) (zs := [_, _, _]) (cells := [_, _, _]) rfl ty_26 (by exact rfl) pl_26 (by exact rfl) (by exact rfl)) hC11 ?_
              refine h_one (i := 12) (by kernel_rfl) ?_
              refine h_do (by exact rfl) ?_
              refine r_store (v := .agg _) (vs := [_, _, _]) (cs' := [_, _, _]) (by exact rfl) (by exact rfl) hbb181 ty_26 (by exact rfl) rfl (by exact rfl) rfl (by exact rfl) ?_
              intro w187 hEw187 hzw187 hb_new
              have hs_w187 := (hEw187).size
              replace hV := evo_step1 hV hEw187 (by first | exact .inl (by omega) | exact .inr (by simp))
              replace hl := hl0 _ hV
              replace hof := hof.evo hEw187 (by intro g hg hm; simp at hm; subst hm; have h7 := hobF g hg; have h8 := hof.block hg; omega)
              replace hb := hb.evo hEw187 (by simp; omega)
              replace hbb181 := hb_new
              have hAb181 := hbb181.at
              clear hb_new
              refine h_last (by kernel_rfl) ?_
              refine h_done (by kernel_rfl) ?_
              refine r_cut_end ?_ ?_
              · refine ⟨_, _, _, _, rfl, hof, hbb181, hbb181.at, hb, hb.at, (rawW_bd _ (by omega)), (by omega), (fun g hg => by have := hobF g hg; omega), (by first | assumption | omega | (dsimp only; omega) | (simp; done)), hV⟩
              · repeat (first | (with_reducible exact Agree.merge _ _ _) | (with_reducible exact Agree.refl _ _) | (with_reducible refine Agree.upd ?_ _ _ rfl) | ((with_reducible refine Agree.inner ?_ ?_); (kernel_rfl)))
            · skip
              refine h_do (by exact rfl) ?_
              refine r_opcall rfl rfl rfl (run_callf (vs := [.pointer _, .int _ _]) rfl (by exact rfl) Try.func69 rfl (by kernel_rfl)) (nx_calls hb hl (by omega) (by omega) (by omega)) ?_
              rintro e w188 ⟨nx188, rfl, hx188, hE188, hn188⟩
              refine ⟨_, rfl, ?_⟩
              have hs_w188 := (hE188).size
              replace hV := evo_step1 hV hE188 (.inr (by simp))
              replace hC11 := evo_step1 hC11 hE188 (by first | exact .inl (by omega) | exact .inr (by simp))
              replace hl := hl0 _ hV
              replace hof := hof.evo hE188 (by intro g hg hm; simp at hm; subst hm; have h7 := hobF g hg; have h8 := hof.block hg; omega)
              replace hbb181 := hbb181.evo hE188 (by simp; omega)
              replace hAb181 := hAb181.evo hE188 (by simp; omega)
              replace hA185 := hA185.evo hE188 (by simp; omega)
              replace hb := hn188
              clear hn188
              have hAs := hb.at
              refine h_next hC11 ?_
              refine h_one (i := 7) (by kernel_rfl) ?_
              refine h_do (by exact rfl) ?_
              refine r_op rfl rfl rfl (run_ld1 rfl ag_9 (by exact rfl) (hA185.cell 0 (by exact rfl))) ?_
              refine h_next hC11 ?_
              refine h_take (i := 10) (by exact rfl) rfl rfl rfl (by kernel_rfl) (fun w' hC => run_bld (pv := [(0, .int _ _), (1, S _), (2, .int _ _)]) (zs := [_, _, _]) (cells := [_, _, _]) rfl ty_26 (by exact rfl) pl_26 (by exact rfl) (by exact rfl)) hC11 ?_
              refine h_one (i := 12) (by kernel_rfl) ?_
              refine h_do (by exact rfl) ?_
              refine r_store (v := .agg _) (vs := [_, _, _]) (cs' := [_, _, _]) (by exact rfl) (by exact rfl) hbb181 ty_26 (by exact rfl) rfl (by exact rfl) rfl (by exact rfl) ?_
              intro w189 hEw189 hzw189 hb_new
              have hs_w189 := (hEw189).size
              replace hV := evo_step1 hV hEw189 (by first | exact .inl (by omega) | exact .inr (by simp))
              replace hl := hl0 _ hV
              replace hof := hof.evo hEw189 (by intro g hg hm; simp at hm; subst hm; have h7 := hobF g hg; have h8 := hof.block hg; omega)
              replace hb := hb.evo hEw189 (by simp; omega)
              replace hbb181 := hb_new
              have hAb181 := hbb181.at
              clear hb_new
              refine h_last (by kernel_rfl) ?_
              refine h_done (by kernel_rfl) ?_
              refine r_cut_end ?_ ?_
              · refine ⟨_, _, _, _, rfl, hof, hbb181, hbb181.at, hb, hb.at, (rawW_bd _ (by omega)), (by omega), (fun g hg => by have := hobF g hg; omega), (by first | assumption | omega | (dsimp only; omega) | (simp; done)), hV⟩
              · repeat (first | (with_reducible exact Agree.merge _ _ _) | (with_reducible exact Agree.refl _ _) | (with_reducible refine Agree.upd ?_ _ _ rfl) | ((with_reducible refine Agree.inner ?_ ?_); (kernel_rfl)))
        · skip
          refine h_do (by exact rfl) ?_
          have hob190 := fun g hg => (hof.block (g := g) hg).2
          refine r_alloc (zs := [_, _, _]) ty_26 (by exact rfl) rfl ?_
          intro b191 w192 heb191 hEw192 hbb191 hzb191
          have hs_w192 := (hEw192).size
          replace hV := evo_step0 hV hEw192
          replace hC11 := evo_step0 hC11 hEw192
          replace hl := hl0 _ hV
          replace hof := hof.evo0 hEw192
          replace hb := hb.evo0 hEw192
          replace hAs := hAs.evo0 hEw192
          have hAb191 := hbb191.at
          refine h_next hC11 ?_
          refine h_two (i := 1) (j := 3) (by kernel_rfl) ?_ ?_
          · skip
            refine h_do (by exact rfl) ?_
            refine r_opcall rfl rfl rfl (run_callf (vs := [.pointer _, .int _ _]) rfl (by exact rfl) Try.func69 rfl (by kernel_rfl)) (nx_calls hb hl (by omega) (by omega) (by omega)) ?_
            rintro e w193 ⟨nx193, rfl, hx193, hE193, hn193⟩
            refine ⟨_, rfl, ?_⟩
            have hs_w193 := (hE193).size
            replace hV := evo_step1 hV hE193 (.inr (by simp))
            replace hC11 := evo_step1 hC11 hE193 (by first | exact .inl (by omega) | exact .inr (by simp))
            replace hl := hl0 _ hV
            replace hof := hof.evo hE193 (by intro g hg hm; simp at hm; subst hm; have h7 := hobF g hg; have h8 := hof.block hg; omega)
            replace hbb191 := hbb191.evo hE193 (by simp; omega)
            replace hAb191 := hAb191.evo hE193 (by simp; omega)
            replace hb := hn193
            clear hn193
            have hAs := hb.at
            refine h_next hC11 ?_
            refine h_take (i := 2) (by exact rfl) rfl rfl rfl (by kernel_rfl) (fun w' hC => run_sub rfl (by exact rfl) (by exact rfl) (by omega) (by omega)) hC11 ?_
            refine h_two (i := 3) (j := 5) (by kernel_rfl) ?_ ?_
            · skip
              refine h_do (by exact rfl) ?_
              refine r_bslice (pv := [(0, S _), (1, S _), (2, S _), (3, S _), (4, S _), (5, S _), (6, S _), (7, S _)]) (zs := [_]) (cs := [_, _, _, _, _, _, _, _]) Try.underlying67 ty_9 (by exact rfl) rfl (by exact rfl) rfl (by exact rfl) ?_
              intro b194 w195 heb194 hEw195 hbb194 hzb194
              have hs_w195 := (hEw195).size
              replace hV := evo_step0 hV hEw195
              replace hC11 := evo_step0 hC11 hEw195
              replace hl := hl0 _ hV
              replace hof := hof.evo0 hEw195
              replace hbb191 := hbb191.evo0 hEw195
              replace hAb191 := hAb191.evo0 hEw195
              replace hb := hb.evo0 hEw195
              replace hAs := hAs.evo0 hEw195
              have hAb194 := hbb194.at
              have hrb194 : RowE w195 (some ⟨b194, 0, none⟩) b194 0 8 rawW := rowLit rawW hbb194 rfl rfl
              refine h_next hC11 ?_
              refine h_one (i := 5) (by kernel_rfl) ?_
              refine h_do (by exact rfl) ?_
              refine r_opcall rfl rfl rfl (run_callf (vs := [.pointer _, .int _ _]) rfl (by exact rfl) Try.func69 rfl (by kernel_rfl)) (nx_calls hb hl (by omega) (by omega) (by omega)) ?_
              rintro e w196 ⟨nx196, rfl, hx196, hE196, hn196⟩
              refine ⟨_, rfl, ?_⟩
              have hs_w196 := (hE196).size
              replace hV := evo_step1 hV hE196 (.inr (by simp))
              replace hC11 := evo_step1 hC11 hE196 (by first | exact .inl (by omega) | exact .inr (by simp))
              replace hl := hl0 _ hV
              replace hof := hof.evo hE196 (by intro g hg hm; simp at hm; subst hm; have h7 := hobF g hg; have h8 := hof.block hg; omega)
              replace hbb191 := hbb191.evo hE196 (by simp; omega)
              replace hAb191 := hAb191.evo hE196 (by simp; omega)
              replace hrb194 := hrb194.evo hE196 (by simp; omega)
              replace hb := hn196
              clear hn196
              have hAs := hb.at
              refine h_next hC11 ?_
              refine h_take (i := 6) (by exact rfl) rfl rfl rfl (by kernel_rfl) (fun w' hC => run_ix (nx196.toNat) rfl Try.underlying67 ty_9 (by exact rfl) (by exact rfl) (by omega) (by show _ < 8; omega) (hrb194.addr (i := nx196.toNat) (by show _ < 8; omega))) hC11 ?_
              have hA197 := hrb194.atD (nx196.toNat) (by show _ < 8; omega)
              refine h_two (i := 7) (j := 9) (by kernel_rfl) ?_ ?_
              · skip
                refine h_do (by exact rfl) ?_
                refine r_op rfl rfl rfl (run_ld1 rfl ag_9 (by exact rfl) (hA197.cell 0 (by exact rfl))) ?_
                refine h_next hC11 ?_
                refine h_one (i := 9) (by kernel_rfl) ?_
                refine h_do (by exact rfl) ?_
                refine r_opcall rfl rfl rfl (run_callf (vs := [.pointer _, .int _ _]) rfl (by exact rfl) Try.func69 rfl (by kernel_rfl)) (nx_calls hb hl (by omega) (by omega) (by omega)) ?_
                rintro e w198 ⟨nx198, rfl, hx198, hE198, hn198⟩
                refine ⟨_, rfl, ?_⟩
                have hs_w198 := (hE198).size
                replace hV := evo_step1 hV hE198 (.inr (by simp))
                replace hC11 := evo_step1 hC11 hE198 (by first | exact .inl (by omega) | exact .inr (by simp))
                replace hl := hl0 _ hV
                replace hof := hof.evo hE198 (by intro g hg hm; simp at hm; subst hm; have h7 := hobF g hg; have h8 := hof.block hg; omega)
                replace hbb191 := hbb191.evo hE198 (by simp; omega)
                replace hAb191 := hAb191.evo hE198 (by simp; omega)
                replace hb := hn198
                clear hn198
                have hAs := hb.at
                refine h_next hC11 ?_
                refine h_take (i := 10) (by exact rfl) rfl rfl rfl (by kernel_rfl) (fun w' hC => run_bld (pv := [(0, .int _ _), (1, S _), (2, .int _ _)]) (zs := [_, _, _]) (cells := [_, _, _]) rfl ty_26 (by exact rfl) pl_26 (by exact rfl) (by exact rfl)) hC11 ?_
                refine h_one (i := 12) (by kernel_rfl) ?_
                refine h_do (by exact rfl) ?_
                refine r_store (v := .agg _) (vs := [_, _, _]) (cs' := [_, _, _]) (by exact rfl) (by exact rfl) hbb191 ty_26 (by exact rfl) rfl (by exact rfl) rfl (by exact rfl) ?_
                intro w199 hEw199 hzw199 hb_new
                have hs_w199 := (hEw199).size
                replace hV := evo_step1 hV hEw199 (by first | exact .inl (by omega) | exact .inr (by simp))
                replace hl := hl0 _ hV
                replace hof := hof.evo hEw199 (by intro g hg hm; simp at hm; subst hm; have h7 := hobF g hg; have h8 := hof.block hg; omega)
                replace hb := hb.evo hEw199 (by simp; omega)
                replace hbb191 := hb_new
                have hAb191 := hbb191.at
                clear hb_new
                refine h_last (by kernel_rfl) ?_
                refine h_done (by kernel_rfl) ?_
                refine r_cut_end ?_ ?_
                · refine ⟨_, _, _, _, rfl, hof, hbb191, hbb191.at, hb, hb.at, (rawW_bd _ (by omega)), (by omega), (fun g hg => by have := hobF g hg; omega), (by first | assumption | omega | (dsimp only; omega) | (simp; done)), hV⟩
                · repeat (first | (with_reducible exact Agree.merge _ _ _) | (with_reducible exact Agree.refl _ _) | (with_reducible refine Agree.upd ?_ _ _ rfl) | ((with_reducible refine Agree.inner ?_ ?_); (kernel_rfl)))
              · skip
                refine h_do (by exact rfl) ?_
                refine r_opcall rfl rfl rfl (run_callf (vs := [.pointer _, .int _ _]) rfl (by exact rfl) Try.func69 rfl (by kernel_rfl)) (nx_calls hb hl (by omega) (by omega) (by omega)) ?_
                rintro e w200 ⟨nx200, rfl, hx200, hE200, hn200⟩
                refine ⟨_, rfl, ?_⟩
                have hs_w200 := (hE200).size
                replace hV := evo_step1 hV hE200 (.inr (by simp))
                replace hC11 := evo_step1 hC11 hE200 (by first | exact .inl (by omega) | exact .inr (by simp))
                replace hl := hl0 _ hV
                replace hof := hof.evo hE200 (by intro g hg hm; simp at hm; subst hm; have h7 := hobF g hg; have h8 := hof.block hg; omega)
                replace hbb191 := hbb191.evo hE200 (by simp; omega)
                replace hAb191 := hAb191.evo hE200 (by simp; omega)
                replace hA197 := hA197.evo hE200 (by simp; omega)
                replace hb := hn200
                clear hn200
                have hAs := hb.at
                refine h_next hC11 ?_
                refine h_one (i := 7) (by kernel_rfl) ?_
                refine h_do (by exact rfl) ?_
                refine r_op rfl rfl rfl (run_ld1 rfl ag_9 (by exact rfl) (hA197.cell 0 (by exact rfl))) ?_
                refine h_next hC11 ?_
                refine h_take (i := 10) (by exact rfl) rfl rfl rfl (by kernel_rfl) (fun w' hC => run_bld (pv := [(0, .int _ _), (1, S _), (2, .int _ _)]) (zs := [_, _, _]) (cells := [_, _, _]) rfl ty_26 (by exact rfl) pl_26 (by exact rfl) (by exact rfl)) hC11 ?_
                refine h_one (i := 12) (by kernel_rfl) ?_
                refine h_do (by exact rfl) ?_
                refine r_store (v := .agg _) (vs := [_, _, _]) (cs' := [_, _, _]) (by exact rfl) (by exact rfl) hbb191 ty_26 (by exact rfl) rfl (by exact rfl) rfl (by exact rfl) ?_
                intro w201 hEw201 hzw201 hb_new
                have hs_w201 := (hEw201).size
                replace hV := evo_step1 hV hEw201 (by first | exact .inl (by omega) | exact .inr (by simp))
                replace hl := hl0 _ hV
                replace hof := hof.evo hEw201 (by intro g hg hm; simp at hm; subst hm; have h7 := hobF g hg; have h8 := hof.block hg; omega)
                replace hb := hb.evo hEw201 (by simp; omega)
                replace hbb191 := hb_new
                have hAb191 := hbb191.at
                clear hb_new
                refine h_last (by kernel_rfl) ?_
                refine h_done (by kernel_rfl) ?_
                refine r_cut_end ?_ ?_
                · refine ⟨_, _, _, _, rfl, hof, hbb191, hbb191.at, hb, hb.at, (rawW_bd _ (by omega)), (by omega), (fun g hg => by have := hobF g hg; omega), (by first | assumption | omega | (dsimp only; omega) | (simp; done)), hV⟩
                · repeat (first | (with_reducible exact Agree.merge _ _ _) | (with_reducible exact Agree.refl _ _) | (with_reducible refine Agree.upd ?_ _ _ rfl) | ((with_reducible refine Agree.inner ?_ ?_); (kernel_rfl)))
            · skip
              refine h_do (by exact rfl) ?_
              refine r_opcall rfl rfl rfl (run_callf (vs := [.pointer _, .int _ _]) rfl (by exact rfl) Try.func69 rfl (by kernel_rfl)) (nx_calls hb hl (by omega) (by omega) (by omega)) ?_
              rintro e w202 ⟨nx202, rfl, hx202, hE202, hn202⟩
              refine ⟨_, rfl, ?_⟩
              have hs_w202 := (hE202).size
              replace hV := evo_step1 hV hE202 (.inr (by simp))
              replace hC11 := evo_step1 hC11 hE202 (by first | exact .inl (by omega) | exact .inr (by simp))
              replace hl := hl0 _ hV
              replace hof := hof.evo hE202 (by intro g hg hm; simp at hm; subst hm; have h7 := hobF g hg; have h8 := hof.block hg; omega)
              replace hbb191 := hbb191.evo hE202 (by simp; omega)
              replace hAb191 := hAb191.evo hE202 (by simp; omega)
              replace hb := hn202
              clear hn202
              have hAs := hb.at
              refine h_next hC11 ?_
              refine h_two (i := 3) (j := 9) (by kernel_rfl) ?_ ?_
              · skip
                refine h_do (by exact rfl) ?_
                refine r_bslice (pv := [(0, S _), (1, S _), (2, S _), (3, S _), (4, S _), (5, S _), (6, S _), (7, S _)]) (zs := [_]) (cs := [_, _, _, _, _, _, _, _]) Try.underlying67 ty_9 (by exact rfl) rfl (by exact rfl) rfl (by exact rfl) ?_
                intro b203 w204 heb203 hEw204 hbb203 hzb203
                have hs_w204 := (hEw204).size
                replace hV := evo_step0 hV hEw204
                replace hC11 := evo_step0 hC11 hEw204
                replace hl := hl0 _ hV
                replace hof := hof.evo0 hEw204
                replace hbb191 := hbb191.evo0 hEw204
                replace hAb191 := hAb191.evo0 hEw204
                replace hb := hb.evo0 hEw204
                replace hAs := hAs.evo0 hEw204
                have hAb203 := hbb203.at
                have hrb203 : RowE w204 (some ⟨b203, 0, none⟩) b203 0 8 rawW := rowLit rawW hbb203 rfl rfl
                refine h_next hC11 ?_
                refine h_take (i := 6) (by exact rfl) rfl rfl rfl (by kernel_rfl) (fun w' hC => run_ix (nx202.toNat) rfl Try.underlying67 ty_9 (by exact rfl) (by exact rfl) (by omega) (by show _ < 8; omega) (hrb203.addr (i := nx202.toNat) (by show _ < 8; omega))) hC11 ?_
                have hA205 := hrb203.atD (nx202.toNat) (by show _ < 8; omega)
                refine h_two (i := 7) (j := 9) (by kernel_rfl) ?_ ?_
                · skip
                  refine h_do (by exact rfl) ?_
                  refine r_op rfl rfl rfl (run_ld1 rfl ag_9 (by exact rfl) (hA205.cell 0 (by exact rfl))) ?_
                  refine h_next hC11 ?_
                  refine h_one (i := 9) (by kernel_rfl) ?_
                  refine h_do (by exact rfl) ?_
                  refine r_opcall rfl rfl rfl (run_callf (vs := [.pointer _, .int _ _]) rfl (by exact rfl) Try.func69 rfl (by kernel_rfl)) (nx_calls hb hl (by omega) (by omega) (by omega)) ?_
                  rintro e w206 ⟨nx206, rfl, hx206, hE206, hn206⟩
                  refine ⟨_, rfl, ?_⟩
                  have hs_w206 := (hE206).size
                  replace hV := evo_step1 hV hE206 (.inr (by simp))
                  replace hC11 := evo_step1 hC11 hE206 (by first | exact .inl (by omega) | exact .inr (by simp))
                  replace hl := hl0 _ hV
                  replace hof := hof.evo hE206 (by intro g hg hm; simp at hm; subst hm; have h7 := hobF g hg; have h8 := hof.block hg; omega)
                  replace hbb191 := hbb191.evo hE206 (by simp; omega)
                  replace hAb191 := hAb191.evo hE206 (by simp; omega)
                  replace hb := hn206
                  clear hn206
                  have hAs := hb.at
                  refine h_next hC11 ?_
                  refine h_take (i := 10) (by exact rfl) rfl rfl rfl (by kernel_rfl) (fun w' hC => run_bld (pv := [(0, .int _ _), (1, S _), (2, .int _ _)]) (zs := [_, _, _]) (cells := [_, _, _]) rfl ty_26 (by exact rfl) pl_26 (by exact rfl) (by exact rfl)) hC11 ?_
                  refine h_one (i := 12) (by kernel_rfl) ?_
                  refine h_do (by exact rfl) ?_
                  refine r_store (v := .agg _) (vs := [_, _, _]) (cs' := [_, _, _]) (by exact rfl) (by exact rfl) hbb191 ty_26 (by exact rfl) rfl (by exact rfl) rfl (by exact rfl) ?_
                  intro w207 hEw207 hzw207 hb_new
                  have hs_w207 := (hEw207).size
                  replace hV := evo_step1 hV hEw207 (by first | exact .inl (by omega) | exact .inr (by simp))
                  replace hl := hl0 _ hV
                  replace hof := hof.evo hEw207 (by intro g hg hm; simp at hm; subst hm; have h7 := hobF g hg; have h8 := hof.block hg; omega)
                  replace hb := hb.evo hEw207 (by simp; omega)
                  replace hbb191 := hb_new
                  have hAb191 := hbb191.at
                  clear hb_new
                  refine h_last (by kernel_rfl) ?_
                  refine h_done (by kernel_rfl) ?_
                  refine r_cut_end ?_ ?_
                  · refine ⟨_, _, _, _, rfl, hof, hbb191, hbb191.at, hb, hb.at, (rawW_bd _ (by omega)), (by omega), (fun g hg => by have := hobF g hg; omega), (by first | assumption | omega | (dsimp only; omega) | (simp; done)), hV⟩
                  · repeat (first | (with_reducible exact Agree.merge _ _ _) | (with_reducible exact Agree.refl _ _) | (with_reducible refine Agree.upd ?_ _ _ rfl) | ((with_reducible refine Agree.inner ?_ ?_); (kernel_rfl)))
                · skip
                  refine h_do (by exact rfl) ?_
                  refine r_opcall rfl rfl rfl (run_callf (vs := [.pointer _, .int _ _]) rfl (by exact rfl) Try.func69 rfl (by kernel_rfl)) (nx_calls hb hl (by omega) (by omega) (by omega)) ?_
                  rintro e w208 ⟨nx208, rfl, hx208, hE208, hn208⟩
                  refine ⟨_, rfl, ?_⟩
                  have hs_w208 := (hE208).size
                  replace hV := evo_step1 hV hE208 (.inr (by simp))
                  replace hC11 := evo_step1 hC11 hE208 (by first | exact .inl (by omega) | exact .inr (by simp))
                  replace hl := hl0 _ hV
                  replace hof := hof.evo hE208 (by intro g hg hm; simp at hm; subst hm; have h7 := hobF g hg; have h8 := hof.block hg; omega)
                  replace hbb191 := hbb191.evo hE208 (by simp; omega)
                  replace hAb191 := hAb191.evo hE208 (by simp; omega)
                  replace hA205 := hA205.evo hE208 (by simp; omega)
                  replace hb := hn208
                  clear hn208
                  have hAs := hb.at
                  refine h_next hC11 ?_
                  refine h_one (i := 7) (by kernel_rfl) ?_
                  refine h_do (by exact rfl) ?_
                  refine r_op rfl rfl rfl (run_ld1 rfl ag_9 (by exact rfl) (hA205.cell 0 (by exact rfl))) ?_
                  refine h_next hC11 ?_
                  refine h_take (i := 10) (by exact rfl) rfl rfl rfl (by kernel_rfl) (fun w' hC => run_bld (pv := [(0, .int _ _), (1, S _), (2, .int _ _)]) (zs := [_, _, _]) (cells := [_, _, _]) rfl ty_26 (by exact rfl) pl_26 (by exact rfl) (by exact rfl)) hC11 ?_
                  refine h_one (i := 12) (by kernel_rfl) ?_
                  refine h_do (by exact rfl) ?_
                  refine r_store (v := .agg _) (vs := [_, _, _]) (cs' := [_, _, _]) (by exact rfl) (by exact rfl) hbb191 ty_26 (by exact rfl) rfl (by exact rfl) rfl (by exact rfl) ?_
                  intro w209 hEw209 hzw209 hb_new
                  have hs_w209 := (hEw209).size
                  replace hV := evo_step1 hV hEw209 (by first | exact .inl (by omega) | exact .inr (by simp))
                  replace hl := hl0 _ hV
                  replace hof := hof.evo hEw209 (by intro g hg hm; simp at hm; subst hm; have h7 := hobF g hg; have h8 := hof.block hg; omega)
                  replace hb := hb.evo hEw209 (by simp; omega)
                  replace hbb191 := hb_new
                  have hAb191 := hbb191.at
                  clear hb_new
                  refine h_last (by kernel_rfl) ?_
                  refine h_done (by kernel_rfl) ?_
                  refine r_cut_end ?_ ?_
                  · refine ⟨_, _, _, _, rfl, hof, hbb191, hbb191.at, hb, hb.at, (rawW_bd _ (by omega)), (by omega), (fun g hg => by have := hobF g hg; omega), (by first | assumption | omega | (dsimp only; omega) | (simp; done)), hV⟩
                  · repeat (first | (with_reducible exact Agree.merge _ _ _) | (with_reducible exact Agree.refl _ _) | (with_reducible refine Agree.upd ?_ _ _ rfl) | ((with_reducible refine Agree.inner ?_ ?_); (kernel_rfl)))
              · skip
                refine h_do (by exact rfl) ?_
                refine r_opcall rfl rfl rfl (run_callf (vs := [.pointer _, .int _ _]) rfl (by exact rfl) Try.func69 rfl (by kernel_rfl)) (nx_calls hb hl (by omega) (by omega) (by omega)) ?_
                rintro e w210 ⟨nx210, rfl, hx210, hE210, hn210⟩
                refine ⟨_, rfl, ?_⟩
                have hs_w210 := (hE210).size
                replace hV := evo_step1 hV hE210 (.inr (by simp))
                replace hC11 := evo_step1 hC11 hE210 (by first | exact .inl (by omega) | exact .inr (by simp))
                replace hl := hl0 _ hV
                replace hof := hof.evo hE210 (by intro g hg hm; simp at hm; subst hm; have h7 := hobF g hg; have h8 := hof.block hg; omega)
                replace hbb191 := hbb191.evo hE210 (by simp; omega)
                replace hAb191 := hAb191.evo hE210 (by simp; omega)
                replace hb := hn210
                clear hn210
                have hAs := hb.at
                refine h_next hC11 ?_
                refine h_one (i := 3) (by kernel_rfl) ?_
                refine h_do (by exact rfl) ?_
                refine r_bslice (pv := [(0, S _), (1, S _), (2, S _), (3, S _), (4, S _), (5, S _), (6, S _), (7, S _)]) (zs := [_]) (cs := [_, _, _, _, _, _, _, _]) Try.underlying67 ty_9 (by exact rfl) rfl (by exact rfl) rfl (by exact rfl) ?_
                intro b211 w212 heb211 hEw212 hbb211 hzb211
                have hs_w212 := (hEw212).size
                replace hV := evo_step0 hV hEw212
                replace hC11 := evo_step0 hC11 hEw212
                replace hl := hl0 _ hV
                replace hof := hof.evo0 hEw212
                replace hbb191 := hbb191.evo0 hEw212
                replace hAb191 := hAb191.evo0 hEw212
                replace hb := hb.evo0 hEw212
                have hAb211 := hbb211.at
                have hrb211 : RowE w212 (some ⟨b211, 0, none⟩) b211 0 8 rawW := rowLit rawW hbb211 rfl rfl
                refine h_next hC11 ?_
                refine h_take (i := 6) (by exact rfl) rfl rfl rfl (by kernel_rfl) (fun w' hC => run_ix (nx202.toNat) rfl Try.underlying67 ty_9 (by exact rfl) (by exact rfl) (by omega) (by show _ < 8; omega) (hrb211.addr (i := nx202.toNat) (by show _ < 8; omega))) hC11 ?_
                have hA213 := hrb211.atD (nx202.toNat) (by show _ < 8; omega)
                refine h_one (i := 7) (by kernel_rfl) ?_
                refine h_do (by exact rfl) ?_
                refine r_op rfl rfl rfl (run_ld1 rfl ag_9 (by exact rfl) (hA213.cell 0 (by exact rfl))) ?_
                refine h_next hC11 ?_
                refine h_take (i := 10) (by exact rfl) rfl rfl rfl (by kernel_rfl) (fun w' hC => run_bld (pv := [(0, .int _ _), (1, S _), (2, .int _ _)]) (zs := [_, _, _]) (cells := [_, _, _]) rfl ty_26 (by exact rfl) pl_26 (by exact rfl) (by exact rfl)) hC11 ?_
                refine h_one (i := 12) (by kernel_rfl) ?_
                refine h_do (by exact rfl) ?_
                refine r_store (v := .agg _) (vs := [_, _, _]) (cs' := [_, _, _]) (by exact rfl) (by exact rfl) hbb191 ty_26 (by exact rfl) rfl (by exact rfl) rfl (by exact rfl) ?_
                intro w214 hEw214 hzw214 hb_new
                have hs_w214 := (hEw214).size
                replace hV := evo_step1 hV hEw214 (by first | exact .inl (by omega) | exact .inr (by simp))
                replace hl := hl0 _ hV
                replace hof := hof.evo hEw214 (by intro g hg hm; simp at hm; subst hm; have h7 := hobF g hg; have h8 := hof.block hg; omega)
                replace hb := hb.evo hEw214 (by simp; omega)
                replace hbb191 := hb_new
                have hAb191 := hbb191.at
                clear hb_new
                refine h_last (by kernel_rfl) ?_
                refine h_done (by kernel_rfl) ?_
                refine r_cut_end ?_ ?_
                · refine ⟨_, _, _, _, rfl, hof, hbb191, hbb191.at, hb, hb.at, (rawW_bd _ (by omega)), (by omega), (fun g hg => by have := hobF g hg; omega), (by first | assumption | omega | (dsimp only; omega) | (simp; done)), hV⟩
                · repeat (first | (with_reducible exact Agree.merge _ _ _) | (with_reducible exact Agree.refl _ _) | (with_reducible refine Agree.upd ?_ _ _ rfl) | ((with_reducible refine Agree.inner ?_ ?_); (kernel_rfl)))
          · skip
            refine h_do (by exact rfl) ?_
            refine r_bslice (pv := [(0, S _), (1, S _), (2, S _), (3, S _), (4, S _), (5, S _), (6, S _), (7, S _)]) (zs := [_]) (cs := [_, _, _, _, _, _, _, _]) Try.underlying67 ty_9 (by exact rfl) rfl (by exact rfl) rfl (by exact rfl) ?_
            intro b215 w216 heb215 hEw216 hbb215 hzb215
            have hs_w216 := (hEw216).size
            replace hV := evo_step0 hV hEw216
            replace hC11 := evo_step0 hC11 hEw216
            replace hl := hl0 _ hV
            replace hof := hof.evo0 hEw216
            replace hb := hb.evo0 hEw216
            replace hAs := hAs.evo0 hEw216
            replace hbb191 := hbb191.evo0 hEw216
            replace hAb191 := hAb191.evo0 hEw216
            have hAb215 := hbb215.at
            have hrb215 : RowE w216 (some ⟨b215, 0, none⟩) b215 0 8 rawW := rowLit rawW hbb215 rfl rfl
            refine h_next hC11 ?_
            refine h_one (i := 1) (by kernel_rfl) ?_
            refine h_do (by exact rfl) ?_
            refine r_opcall rfl rfl rfl (run_callf (vs := [.pointer _, .int _ _]) rfl (by exact rfl) Try.func69 rfl (by kernel_rfl)) (nx_calls hb hl (by omega) (by omega) (by omega)) ?_
            rintro e w217 ⟨nx217, rfl, hx217, hE217, hn217⟩
            refine ⟨_, rfl, ?_⟩
            have hs_w217 := (hE217).size
            replace hV := evo_step1 hV hE217 (.inr (by simp))
            replace hC11 := evo_step1 hC11 hE217 (by first | exact .inl (by omega) | exact .inr (by simp))
            replace hl := hl0 _ hV
            replace hof := hof.evo hE217 (by intro g hg hm; simp at hm; subst hm; have h7 := hobF g hg; have h8 := hof.block hg; omega)
            replace hbb191 := hbb191.evo hE217 (by simp; omega)
            replace hAb191 := hAb191.evo hE217 (by simp; omega)
            replace hrb215 := hrb215.evo hE217 (by simp; omega)
            replace hb := hn217
            clear hn217
            have hAs := hb.at
            refine h_next hC11 ?_
            refine h_take (i := 2) (by exact rfl) rfl rfl rfl (by kernel_rfl) (fun w' hC => run_sub rfl (by exact rfl) (by exact rfl) (by omega) (by omega)) hC11 ?_
            refine h_one (i := 5) (by kernel_rfl) ?_
            refine h_do (by exact rfl) ?_
            refine r_opcall rfl rfl rfl (run_callf (vs := [.pointer _, .int _ _]) rfl (by exact rfl) Try.func69 rfl (by kernel_rfl)) (nx_calls hb hl (by omega) (by omega) (by omega)) ?_
            rintro e w218 ⟨nx218, rfl, hx218, hE218, hn218⟩
            refine ⟨_, rfl, ?_⟩
            have hs_w218 := (hE218).size
            replace hV := evo_step1 hV hE218 (.inr (by simp))
            replace hC11 := evo_step1 hC11 hE218 (by first | exact .inl (by omega) | exact .inr (by simp))
            replace hl := hl0 _ hV
            replace hof := hof.evo hE218 (by intro g hg hm; simp at hm; subst hm; have h7 := hobF g hg; have h8 := hof.block hg; omega)
            replace hbb191 := hbb191.evo hE218 (by simp; omega)
            replace hAb191 := hAb191.evo hE218 (by simp; omega)
            replace hrb215 := hrb215.evo hE218 (by simp; omega)
            replace hb := hn218
            clear hn218
            have hAs := hb.at
            refine h_next hC11 ?_
            refine h_take (i := 6) (by exact rfl) rfl rfl rfl (by kernel_rfl) (fun w' hC => run_ix (nx218.toNat) rfl Try.underlying67 ty_9 (by exact rfl) (by exact rfl) (by omega) (by show _ < 8; omega) (hrb215.addr (i := nx218.toNat) (by show _ < 8; omega))) hC11 ?_
            have hA219 := hrb215.atD (nx218.toNat) (by show _ < 8; omega)
            refine h_two (i := 7) (j := 9) (by kernel_rfl) ?_ ?_
            · skip
              refine h_do (by exact rfl) ?_
              refine r_op rfl rfl rfl (run_ld1 rfl ag_9 (by exact rfl) (hA219.cell 0 (by exact rfl))) ?_
              refine h_next hC11 ?_
              refine h_one (i := 9) (by kernel_rfl) ?_
              refine h_do (by exact rfl) ?_
              refine r_opcall rfl rfl rfl (run_callf (vs := [.pointer _, .int _ _]) rfl (by exact rfl) Try.func69 rfl (by kernel_rfl)) (nx_calls hb hl (by omega) (by omega) (by omega)) ?_
              rintro e w220 ⟨nx220, rfl, hx220, hE220, hn220⟩
              refine ⟨_, rfl, ?_⟩
              have hs_w220 := (hE220).size
              replace hV := evo_step1 hV hE220 (.inr (by simp))
              replace hC11 := evo_step1 hC11 hE220 (by first | exact .inl (by omega) | exact .inr (by simp))
              replace hl := hl0 _ hV
              replace hof := hof.evo hE220 (by intro g hg hm; simp at hm; subst hm; have h7 := hobF g hg; have h8 := hof.block hg; omega)
              replace hbb191 := hbb191.evo hE220 (by simp; omega)
              replace hAb191 := hAb191.evo hE220 (by simp; omega)
              replace hb := hn220
              clear hn220
              have hAs := hb.at
              refine h_next hC11 ?_
              refine h_take (i := 10) (by exact rfl) rfl rfl rfl (by kernel_rfl) (fun w' hC => run_bld (pv := [(0, .int _ _), (1, S _), (2, .int _ _)]) (zs := [_, _, _]) (cells := [_, _, _]) rfl ty_26 (by exact rfl) pl_26 (by exact rfl) (by exact rfl)) hC11 ?_
              refine h_one (i := 12) (by kernel_rfl) ?_
              refine h_do (by exact rfl) ?_
              refine r_store (v := .agg _) (vs := [_, _, _]) (cs' := [_, _, _]) (by exact rfl) (by exact rfl) hbb191 ty_26 (by exact rfl) rfl (by exact rfl) rfl (by exact rfl) ?_
              intro w221 hEw221 hzw221 hb_new
              have hs_w221 := (hEw221).size
              replace hV := evo_step1 hV hEw221 (by first | exact .inl (by omega) | exact .inr (by simp))
              replace hl := hl0 _ hV
              replace hof := hof.evo hEw221 (by intro g hg hm; simp at hm; subst hm; have h7 := hobF g hg; have h8 := hof.block hg; omega)
              replace hb := hb.evo hEw221 (by simp; omega)
              replace hbb191 := hb_new
              have hAb191 := hbb191.at
              clear hb_new
              refine h_last (by kernel_rfl) ?_
              refine h_done (by kernel_rfl) ?_
              refine r_cut_end ?_ ?_
              · refine ⟨_, _, _, _, rfl, hof, hbb191, hbb191.at, hb, hb.at, (rawW_bd _ (by omega)), (by omega), (fun g hg => by have := hobF g hg; omega), (by first | assumption | omega | (dsimp only; omega) | (simp; done)), hV⟩
              · repeat (first | (with_reducible exact Agree.merge _ _ _) | (with_reducible exact Agree.refl _ _) | (with_reducible refine Agree.upd ?_ _ _ rfl) | ((with_reducible refine Agree.inner ?_ ?_); (kernel_rfl)))
            · skip
              refine h_do (by exact rfl) ?_
              refine r_opcall rfl rfl rfl (run_callf (vs := [.pointer _, .int _ _]) rfl (by exact rfl) Try.func69 rfl (by kernel_rfl)) (nx_calls hb hl (by omega) (by omega) (by omega)) ?_
              rintro e w222 ⟨nx222, rfl, hx222, hE222, hn222⟩
              refine ⟨_, rfl, ?_⟩
              have hs_w222 := (hE222).size
              replace hV := evo_step1 hV hE222 (.inr (by simp))
              replace hC11 := evo_step1 hC11 hE222 (by first | exact .inl (by omega) | exact .inr (by simp))
              replace hl := hl0 _ hV
              replace hof := hof.evo hE222 (by intro g hg hm; simp at hm; subst hm; have h7 := hobF g hg; have h8 := hof.block hg; omega)
              replace hbb191 := hbb191.evo hE222 (by simp; omega)
              replace hAb191 := hAb191.evo hE222 (by simp; omega)
              replace hA219 := hA219.evo hE222 (by simp; omega)
              replace hb := hn222
              clear hn222
              have hAs := hb.at
              refine h_next hC11 ?_
              refine h_one (i := 7) (by kernel_rfl) ?_
              refine h_do (by exact rfl) ?_
              refine r_op rfl rfl rfl (run_ld1 rfl ag_9 (by exact rfl) (hA219.cell 0 (by exact rfl))) ?_
              refine h_next hC11 ?_
              refine h_take (i := 10) (by exact rfl) rfl rfl rfl (by kernel_rfl) (fun w' hC => run_bld (pv := [(0, .int _ _), (1, S _), (2, .int _ _)]) (zs := [_, _, _]) (cells := [_, _, _]) rfl ty_26 (by exact rfl) pl_26 (by exact rfl) (by exact rfl)) hC11 ?_
              refine h_one (i := 12) (by kernel_rfl) ?_
              refine h_do (by exact rfl) ?_
              refine r_store (v := .agg _) (vs := [_, _, _]) (cs' := [_, _, _]) (by exact rfl) (by exact rfl) hbb191 ty_26 (by exact rfl) rfl (by exact rfl) rfl (by exact rfl) ?_
              intro w223 hEw223 hzw223 hb_new
              have hs_w223 := (hEw223).size
              replace hV := evo_step1 hV hEw223 (by first | exact .inl (by omega) | exact .inr (by simp))
              replace hl := hl0 _ hV
              replace hof := hof.evo hEw223 (by intro g hg hm; simp at hm; subst hm; have h7 := hobF g hg; have h8 := hof.block hg; omega)
              replace hb := hb.evo hEw223 (by simp; omega)
              replace hbb191 := hb_new
              have hAb191 := hbb191.at
              clear hb_new
              refine h_last (by kernel_rfl) ?_
              refine h_done (by kernel_rfl) ?_
              refine r_cut_end ?_ ?_
              · refine ⟨_, _, _, _, rfl, hof, hbb191, hbb191.at, hb, hb.at, (rawW_bd _ (by omega)), (by omega), (fun g hg => by have := hobF g hg; omega), (by first | assumption | omega | (dsimp only; omega) | (simp; done)), hV⟩
              · repeat (first | (with_reducible exact Agree.merge _ _ _) | (with_reducible exact Agree.refl _ _) | (with_reducible refine Agree.upd ?_ _ _ rfl) | ((with_reducible refine Agree.inner ?_ ?_); (kernel_rfl)))
      · rintro g w224 ⟨bx, kx, tx, ix, hj225, hof, hbx, hAx, hb, hAs, htx, hbx0, hnx2, hzl8, hV⟩
        have hs_w224hV := hV.size
        have hlt226 := hbx.lt
        have hlt227 := hb.lt
        replace hl := hl0 _ hV
        refine r_know (i := 7) (v := .pointer (some ⟨bx, 0, none⟩)) (by exact hj225) ?_
        refine r_seq ?_
        refine r_seq ?_
        refine r_region ?_
        refine r_op rfl rfl rfl (run_mv (v := .pointer _) rfl (by exact rfl)) ?_
        refine r_opcall rfl rfl rfl (run_callf (vs := [.pointer _, .int _ _]) rfl (by exact rfl) Try.func69 rfl (by kernel_rfl)) (nx_calls hb hl (by omega) (by omega) (by omega)) ?_
        rintro e w228 ⟨nx228, rfl, hx228, hE228, hn228⟩
        refine ⟨_, rfl, ?_⟩
        have hs_w228 := (hE228).size
        replace hV := evo_step1 hV hE228 (.inr (by simp))
        replace hl := hl0 _ hV
        replace hof := hof.evo hE228 (by intro g hg hm; simp at hm; subst hm; have := hof.block hg; omega)
        replace hbx := hbx.evo hE228 (by simp; omega)
        replace hAx := hAx.evo hE228 (by simp; omega)
        replace hb := hn228
        clear hn228
        have hAs := hb.at
        refine r_op rfl rfl rfl (run_gtr rfl (by exact rfl) (by exact rfl)) ?_
        refine r_nil ?_
        refine r_cut [30] (fun g w => ∃ ix2 : Int, OwnE w w0.heap.size 26 vf f ∧ Blk w bx 26 [.int .i64 kx, S tx, .int .i64 ix2] ∧ At w bx 0 [.int .i64 kx, S tx, .int .i64 ix2] ∧ Blk w bs T [.slice ao l.length cap, .int .i64 ((N1 + 3 + 1) : Nat)] ∧ At w bs 0 [.slice ao l.length cap, .int .i64 ((N1 + 3 + 1) : Nat)] ∧ w228.heap.size ≤ w.heap.size ∧ Evo w0 w [bs]) ?_ ?_
        · skip
          refine r_cond (by exact rfl) (fun hc230 => ?_) (fun hc230 => ?_)
          · skip
            refine r_region ?_
            refine r_op rfl rfl rfl (run_fa rfl (by exact rfl) fo_26_2) ?_
            refine r_store (v := .int _ _) (vs := [_]) (cs' := [_, _, _]) (by exact rfl) (by exact rfl) hbx ty_3 (by exact rfl) rfl (by exact rfl) rfl (by exact rfl) ?_
            intro w231 hEw231 hzw231 hb_new
            have hs_w231 := (hEw231).size
            replace hV := evo_step1 hV hEw231 (by first | exact .inl (by omega) | exact .inr (by simp))
            replace hl := hl0 _ hV
            replace hof := hof.evo hEw231 (by intro g hg hm; simp at hm; subst hm; exact hnx2 _ hg rfl)
            replace hb := hb.evo hEw231 (by simp; omega)
            replace hbx := hb_new
            have hAx := hbx.at
            clear hb_new
            refine r_nil ?_
            refine r_cut_end ?_ ?_
            · refine ⟨_, hof, hbx, hbx.at, hb, hb.at, (by first | assumption | omega | (dsimp only; omega) | (simp; done)), hV⟩
            · repeat (first | (with_reducible exact Agree.merge _ _ _) | (with_reducible exact Agree.refl _ _) | (with_reducible refine Agree.upd ?_ _ _ rfl) | ((with_reducible refine Agree.inner ?_ ?_); (kernel_rfl)))
          · skip
            refine r_skip ?_
            refine r_cut_end ?_ ?_
            · refine ⟨_, hof, hbx, hbx.at, hb, hb.at, (by first | assumption | omega | (dsimp only; omega) | (simp; done)), hV⟩
            · repeat (first | (with_reducible exact Agree.merge _ _ _) | (with_reducible exact Agree.refl _ _) | (with_reducible refine Agree.upd ?_ _ _ rfl) | ((with_reducible refine Agree.inner ?_ ?_); (kernel_rfl)))
        · rintro g w232 ⟨ix2, hof, hbx, hAx, hb, hAs, hzl229, hV⟩
          have hs_w232hV := hV.size
          have hlt233 := hbx.lt
          have hlt234 := hb.lt
          replace hl := hl0 _ hV
          refine r_region ?_
          refine r_op rfl rfl rfl (run_mv (v := vf) rfl (by exact rfl)) ?_
          refine r_op rfl rfl rfl (run_ldN rfl ag_26 ty_26 (by exact rfl) rfl hAx) ?_
          refine r_append1E (u := .agg _) (y := ⟨_, _, _⟩) rfl rfl Try.underlying30 ty_26 (by exact rfl) hof (fun _ => (by exact rfl)) (by exact rfl) (by first | exact rfl | (show _ = List.toArray [_, _, _]; first | (dsimp only; done) | exact rfl | (dsimp only; exact rfl))) ((by first | omega | (simp; omega))) ((by first | omega | (simp; omega))) (by omega) ?_
          intro q_v235 v235 w236 hEw236 hov235 hlv235
          have hs_w236 := (hEw236).size
          replace hV := evo_stepo hV hEw236 (fun g hg => .inl (by first | exact (hof.block hg).1 | (have := hof.block hg; omega)))
          replace hl := hl0 _ hV
          replace hb := hb.evo hEw236 (by intro hm; have hm2 := Option.mem_toList.1 hm; have := hof.block hm2; omega)
          refine r_op rfl rfl rfl (run_asg (v := v235) rfl (by exact rfl)) ?_
          refine r_nil ?_
          refine r_blk ?_
          refine r_region ?_
          refine r_op rfl rfl rfl (run_mv (v := .int _ _) rfl (by exact rfl)) ?_
          refine r_op rfl rfl rfl (run_sub rfl (by exact rfl) (by exact rfl) (by omega) (by omega)) ?_
          refine r_op rfl rfl rfl (run_asg (v := .int _ _) rfl (by exact rfl)) ?_
          refine r_nil ?_
          refine r_again (i - 1) ?_ ?_ ?_
          · first | omega | (dsimp only; omega)
          · refine ⟨_, _, _, (by first | exact rfl | exact congrArg (Value.int _) (by omega) | exact congrArg (Value.int _) (by dsimp only; omega) | exact congrArg (Value.int _) (by simp) | exact congrArg S (by simp)), rfl, (hov235.base_le (by omega)), hb, hb.at, (by rw [List.length_append, sizeL_append, sizeL_one]; simp only [List.length_cons, List.length_nil]; omega), (by first | assumption | omega | (dsimp only; omega) | (simp; done)), hV⟩
          · repeat (first | (with_reducible exact Agree.merge _ _ _) | (with_reducible exact Agree.refl _ _) | (with_reducible refine Agree.upd ?_ _ _ rfl) | ((with_reducible refine Agree.inner ?_ ?_); (kernel_rfl)))
    · skip
      refine r_exit rfl ?_
      refine r_seq ?_
      refine r_region ?_
      refine r_op rfl rfl rfl (run_mv (v := vf) rfl (by exact rfl)) ?_
      refine r_op rfl rfl rfl (run_asg (v := vf) rfl (by exact rfl)) ?_
      refine r_nil ?_
      refine r_ret (res1 (v := vf) rfl (by exact rfl)) ?_
      exact ⟨_, _, rfl, by omega, hV, hof⟩

end Go.Proofs.Ytkdgoghmkmpfnaa
