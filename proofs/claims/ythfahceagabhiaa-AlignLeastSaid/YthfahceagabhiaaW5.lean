import Derived.Test.YthfahceagabhiaaW4
import Derived.Test.YthfahceagabhiaaRown
namespace Go.Proofs.Ythfahceagabhiaa
open Go.RowKit Go.Vc
theorem pl_49 : placesP Try.prog 49 = some [(0, 1), (1, 1)] := by kernel_rfl
theorem pl_67 : placesP Try.prog 67 = some [(0, 1), (1, 1)] := by kernel_rfl
theorem ty_49 : tyP Try.prog 49 = some (2, 32, some (.agg #[(.slice none 0 0), (.int .i64 0)])) := by kernel_rfl
theorem ty_65 : tyP Try.prog 65 = some (1, 24, some (.slice none 0 0)) := by kernel_rfl
theorem nx_calls {w0 : World} {T bs : Nat} {ao : Option Addr} {b off cap : Nat} {l : List Int} {N : Nat} {n : Int} (hb : Blk w0 bs T [.slice ao l.length cap, .int .i64 (N : Nat)]) (hl : RowE w0 ao b off cap l) (hN : N ≤ 4611686018427387904) (hn : 1 ≤ n) (hn2 : n ≤ 1000000000) :
    Calls Try.prog 23 #[.pointer (some ⟨bs, 0, none⟩), .int .i64 n] w0 fun e w' => ∃ r, e = .returned (.int .i64 r) ∧ (0 ≤ r ∧ r < n) ∧ Evo w0 w' [bs] ∧ Blk w' bs T [.slice ao l.length cap, .int .i64 (N + 1 : Nat)] :=
  (next_calls hb hl hN hn hn2).mono fun e w' ⟨h1, h2, h3⟩ => ⟨_, h1, nextL_bd l N n hn, h2, h3⟩

theorem insert_calls {ao : Option Addr} {b off cap : Nat} {l : List Str} {x : Str} {w0 : World} (hl : RowE w0 ao b off cap l) (hs : l.length ≤ 1000000000) :
    Calls Try.prog 29 #[.slice ao l.length cap, S x] w0 fun e w' => ∃ v, ∃ l2 : List Str, e = .returned v ∧ Evo w0 w' [] ∧ OwnE w' w0.heap.size 9 v l2 ∧ l2.length = l.length + 1 := by
  refine calls_enter (n := 33) (args := [.slice ao l.length cap, S x]) Try.func29 rfl Try.ntmps29 rfl ?_
  have hV : Evo w0 w0 [] := Evo.refl _ _
  have hl0 := keepE hl
  have hbd_hl := hl.bd
  refine r_seq ?_
  refine r_region ?_
  refine r_op rfl rfl rfl (run_asg (v := .slice _ _ _) rfl (by exact rfl)) ?_
  refine r_nil ?_
  refine r_seq ?_
  refine r_region ?_
  refine r_op rfl rfl rfl (run_asg (v := .int _ _) rfl (by exact rfl)) ?_
  refine r_nil ?_
  refine r_seq ?_
  refine r_block ?_
  refine r_loop (α := Nat) [5, 7, 8, 9, 10, 11, 12, 13, 14, 15, 16, 17, 18, 19, 20] (fun k g w => g 5 = .int .i64 (k : Nat) ∧ k ≤ l.length ∧ w0.heap.size ≤ w.heap.size ∧ Evo w0 w []) (fun k => l.length - k) 0 ?_ ?_
  · refine ⟨rfl, (by first | assumption | omega | (dsimp only; omega) | (simp; done)), (by first | assumption | omega | (dsimp only; omega) | (simp; done)), hV⟩
  · rintro k g w2 ⟨hj3, hk, hzl1, hV⟩
    have hs_w2hV := hV.size
    replace hl := hl0 _ hV
    refine r_know (i := 5) (v := .int .i64 (k : Nat)) (by exact hj3) ?_
    refine r_seq ?_
    refine r_seq ?_
    refine r_region ?_
    refine r_op rfl rfl rfl (run_mv (v := .int _ _) rfl (by exact rfl)) ?_
    refine r_op rfl rfl rfl (run_mv (v := .slice _ _ _) rfl (by exact rfl)) ?_
    refine r_op rfl rfl rfl (run_lenSl rfl (by exact rfl) Try.underlying65) ?_
    refine r_op rfl rfl rfl (run_lss rfl (by exact rfl) (by exact rfl)) ?_
    refine r_op rfl rfl rfl (run_mv (v := .bool _) rfl (by exact rfl)) ?_
    refine r_g rfl (wantT (by exact rfl)) rfl (fun hg => run_mv (v := .slice _ _ _) rfl (by exact rfl)) ?_
    refine r_g rfl (wantT (by exact rfl)) rfl (fun hg => run_mv (v := .int _ _) rfl (by exact rfl)) ?_
    refine r_g rfl (wantT (by exact rfl)) rfl (fun hg => run_ix (k) rfl Try.underlying65 ty_9 (glv (by exact rfl) (fun h => h) hg) (glv (by exact rfl) (fun h => h) hg) (by first | exact rfl | omega) (by omega) (hl.addr (i := k) (by omega))) ?_
    refine r_g rfl (wantT (by exact rfl)) rfl (fun hg => run_ld1 rfl ag_9 (glv (by exact rfl) (fun h => h) hg) ((hl.atD (k) (by omega)).cell 0 (by exact rfl))) ?_
    refine r_g rfl (wantT (by exact rfl)) rfl (fun hg => run_mv (v := S _) rfl (by exact rfl)) ?_
    refine r_g rfl (wantT (by exact rfl)) rfl (fun hg => run_sleqD rfl (glv (by exact rfl) (fun h => h) hg) (glv (by exact rfl) (fun h => h) hg)) ?_
    refine r_op rfl rfl rfl (run_pick_and rfl (by exact rfl) (fun hq => glv (by exact rfl) (fun h => h) hq) rfl) ?_
    refine r_nil ?_
    refine r_cond (by exact rfl) (fun hc4 => ?_) (fun hc4 => ?_)
    · skip
      refine r_skip ?_
      refine r_block ?_
      refine r_region ?_
      refine r_op rfl rfl rfl (run_mv (v := .int _ _) rfl (by exact rfl)) ?_
      refine r_op rfl rfl rfl (run_add rfl (by exact rfl) (by exact rfl) (by omega) (by omega)) ?_
      refine r_op rfl rfl rfl (run_asg (v := .int _ _) rfl (by exact rfl)) ?_
      refine r_nil ?_
      refine r_blk ?_
      refine r_again (k + 1) ?_ ?_ ?_
      · first | omega | (dsimp only; omega)
      · refine ⟨(by first | exact rfl | exact congrArg (Value.int _) (by omega) | exact congrArg (Value.int _) (by dsimp only; omega) | exact congrArg (Value.int _) (by simp) | exact congrArg S (by simp)), (by first | assumption | omega | (dsimp only; omega) | (simp; done)), (by first | assumption | omega | (dsimp only; omega) | (simp; done)), hV⟩
      · repeat (first | (with_reducible exact Agree.merge _ _ _) | (with_reducible exact Agree.refl _ _) | (with_reducible refine Agree.upd ?_ _ _ rfl) | ((with_reducible refine Agree.inner ?_ ?_); (kernel_rfl)))
    · skip
      refine r_exit rfl ?_
      refine r_seq ?_
      refine r_region ?_
      refine r_op rfl rfl rfl (run_mv (v := .slice _ _ _) rfl (by exact rfl)) ?_
      refine r_op rfl rfl rfl (run_mv (v := .int _ _) rfl (by exact rfl)) ?_
      refine r_op rfl rfl rfl (by exact run_slE (0) (k) rfl Try.underlying65 ty_9 (by exact rfl) hl lo0 (at1 (by exact rfl) (by omega)) (by first | omega | (simp; omega)) (by first | omega | (simp; omega)) rfl) ?_
      have hS50 := fun (w' : World) (h : Evo w0 w' []) => ((hl0 w' h).take (k)).drop (0)
      have hS5 := (hl.take (k)).drop (0)
      have hbd_hS5 := hS5.bd
      refine r_appendE rfl Try.underlying65 ty_9 (by exact rfl) (OwnE.nil (α := Str) _ w0.heap.size _) (by exact rfl) (by exact rfl) hS5 rfl (by simp; omega) (by simp; omega) (by omega) ?_
      intro v6 w7 hEw7 hov6 hlv6
      have hs_w7 := (hEw7).size
      replace hV := evo_step0 hV hEw7
      replace hl := hl0 _ hV
      refine r_op rfl rfl rfl (run_mv (v := S _) rfl (by exact rfl)) ?_
      refine r_append1E (u := S _) (y := _) rfl rfl Try.underlying65 ty_9 (by exact rfl) hov6 (fun _ => (by exact rfl)) (by exact rfl) (by exact rfl) ((by simp; omega)) ((by simp; omega)) (by omega) ?_
      intro q_v8 v8 w9 hEw9 hov8 hlv8
      have hs_w9 := (hEw9).size
      replace hV := evo_stepo hV hEw9 (fun g hg => .inl (by first | exact (hov6.block hg).1 | (have := hov6.block hg; omega)))
      replace hl := hl0 _ hV
      refine r_op rfl rfl rfl (run_asg (v := v8) rfl (by exact rfl)) ?_
      refine r_nil ?_
      refine r_seq ?_
      refine r_region ?_
      refine r_op rfl rfl rfl (run_mv (v := v8) rfl (by exact rfl)) ?_
      refine r_op rfl rfl rfl (run_mv (v := .slice _ _ _) rfl (by exact rfl)) ?_
      refine r_op rfl rfl rfl (run_mv (v := .int _ _) rfl (by exact rfl)) ?_
      refine r_op rfl rfl rfl (by exact run_slE0 (k) rfl Try.underlying65 ty_9 rfl (by exact rfl) hl (at1 (by exact rfl) (by omega)) (by first | omega | (simp; omega))) ?_
      have hS100 := fun (w' : World) (h : Evo w0 w' []) => (hl0 w' h).drop (k)
      have hS10 := hl.drop (k)
      have hbd_hS10 := hS10.bd
      refine r_appendE rfl Try.underlying65 ty_9 (by exact rfl) hov8 (by exact rfl) (by exact rfl) hS10 rfl (by simp; omega) (by simp; omega) (by omega) ?_
      intro v11 w12 hEw12 hov11 hlv11
      have hs_w12 := (hEw12).size
      replace hV := evo_stepo hV hEw12 (fun g hg => .inl (by first | exact (hov8.block hg).1 | (have := hov8.block hg; omega)))
      replace hl := hl0 _ hV
      refine r_op rfl rfl rfl (run_asg (v := v11) rfl (by exact rfl)) ?_
      refine r_nil ?_
      refine r_ret (res1 (v := v11) rfl (by exact rfl)) ?_
      exact ⟨_, _, rfl, hV, hov11, by simp; omega⟩

theorem made_calls {ao : Option Addr} {b off cap : Nat} {l : List Int} {n : Int} {w0 : World} (hl : RowE w0 ao b off cap l) (hn : 0 ≤ n) (hn2 : n ≤ 20) :
    Calls Try.prog 13 #[.slice ao l.length cap, .int .i64 n] w0 fun e w' => ∃ v, ∃ sl : List Side, e = .returned v ∧ Evo w0 w' [] ∧ sl.length ≤ 20 ∧ OwnR w' w0.heap.size 67 [] v sl := by
  refine calls_enter (n := 44) (args := [.slice ao l.length cap, .int .i64 n]) Try.func13 rfl Try.ntmps13 rfl ?_
  have hV : Evo w0 w0 [] := Evo.refl _ _
  have hl0 := keepE hl
  have hbd_hl := hl.bd
  refine r_seq ?_
  refine r_region ?_
  refine r_op rfl rfl rfl (run_asg (v := .slice _ _ _) rfl (by exact rfl)) ?_
  refine r_nil ?_
  refine r_seq ?_
  refine r_region ?_
  refine r_op rfl rfl rfl (run_mv (v := .slice _ _ _) rfl (by exact rfl)) ?_
  refine r_op rfl rfl rfl (run_bld (pv := [(0, .slice _ _ _)]) (zs := [_, _]) (cells := [_, _]) rfl ty_49 (by exact rfl) pl_49 (by exact rfl) (by exact rfl)) ?_
  refine r_box (vs := [_, _]) (by exact rfl) (by exact rfl) rfl ?_
  intro b1 w2 heb1 hEw2 hbb1 hzb1
  have hs_w2 := (hEw2).size
  replace hV := evo_step0 hV hEw2
  replace hl := hl0 _ hV
  have hAb1 := hbb1.at
  refine r_op rfl rfl rfl (run_asg (v := .pointer _) rfl (by exact rfl)) ?_
  refine r_nil ?_
  refine r_seq ?_
  refine r_region ?_
  refine r_op rfl rfl rfl (run_asg (v := .slice _ _ _) rfl (by exact rfl)) ?_
  refine r_nil ?_
  refine r_seq ?_
  refine r_seq ?_
  replace hbb1 : Blk w2 b1 49 [.slice ao l.length cap, .int .i64 ((0 : Nat) : Int)] := hbb1
  refine r_region ?_
  refine r_op rfl rfl rfl (run_mv (v := .pointer _) rfl (by exact rfl)) ?_
  refine r_op rfl rfl rfl (run_mv (v := .int _ _) rfl (by exact rfl)) ?_
  refine r_op rfl rfl rfl (run_add rfl (by exact rfl) (by exact rfl) (by omega) (by omega)) ?_
  refine r_opcall rfl rfl rfl (run_callf (vs := [.pointer _, .int _ _]) rfl (by exact rfl) Try.func23 rfl (by kernel_rfl)) (nx_calls hbb1 hl (by omega) (by omega) (by omega)) ?_
  rintro e w3 ⟨nx3, rfl, hx3, hE3, hn3⟩
  refine ⟨_, rfl, ?_⟩
  have hs_w3 := (hE3).size
  replace hV := evo_step1 hV hE3 (by first | exact .inl (by omega) | exact .inr (by simp))
  replace hl := hl0 _ hV
  replace hbb1 := hn3
  clear hn3
  have hAb1 := hbb1.at
  refine r_op rfl rfl rfl (run_asg (v := .int _ _) rfl (by exact rfl)) ?_
  refine r_nil ?_
  refine r_block ?_
  refine r_loop (α := Nat) [6, 7, 8, 9, 17, 18, 19, 20, 21, 22, 23, 24, 25, 26, 27, 28, 29, 30, 31, 32, 33, 34, 35, 36, 37, 38, 39, 40, 41, 42] (fun i g w => ∃ vo : Value, ∃ sl : List Side, ∃ N : Nat, g 7 = .int .i64 (i : Nat) ∧ g 6 = vo ∧ OwnR w w3.heap.size 67 [b1] vo sl ∧ Blk w b1 49 [.slice ao l.length cap, .int .i64 (N : Nat)] ∧ sl.length + i ≤ 20 ∧ N + 4 * i ≤ 200 ∧ w3.heap.size ≤ w.heap.size ∧ Evo w0 w []) (fun i => i) nx3.toNat ?_ ?_
  · refine ⟨_, [], _, (congrArg (Value.int _) (by omega)), rfl, (OwnR.nil _ _ _ _), hbb1, (by simp; omega), (by first | assumption | omega | (dsimp only; omega) | (simp; done)), (by first | assumption | omega | (dsimp only; omega) | (simp; done)), hV⟩
  · rintro i g w5 ⟨vo, sl, N, hj6, hj7, hoR, hbb1, hsl, hN, hzl4, hV⟩
    have hs_w5hV := hV.size
    have hlt8 := hbb1.lt
    replace hl := hl0 _ hV
    refine r_know (i := 7) (v := .int .i64 (i : Nat)) (by exact hj6) ?_
    refine r_know (i := 6) (v := vo) (by exact hj7) ?_
    refine r_seq ?_
    refine r_seq ?_
    refine r_region ?_
    refine r_op rfl rfl rfl (run_mv (v := .int _ _) rfl (by exact rfl)) ?_
    refine r_op rfl rfl rfl (run_gtr rfl (by exact rfl) (by exact rfl)) ?_
    refine r_nil ?_
    refine r_cond (by exact rfl) (fun hc9 => ?_) (fun hc9 => ?_)
    · skip
      refine r_skip ?_
      refine r_seq ?_
      refine r_block ?_
      refine r_seq ?_
      have hI : Evo w5 w5 [b1] := Evo.refl _ _
      have hoR0 := hoR
      have hobR := fun g hg => (hoR.block (g := g) hg).2
      refine r_region ?_
      refine r_op rfl rfl rfl (run_mv (v := .pointer _) rfl (by exact rfl)) ?_
      refine r_opcall rfl rfl rfl (run_callf (vs := [.pointer _, .int _ _]) rfl (by exact rfl) Try.func23 rfl (by kernel_rfl)) (nx_calls hbb1 hl (by omega) (by omega) (by omega)) ?_
      rintro e w10 ⟨nx10, rfl, hx10, hE10, hn10⟩
      refine ⟨_, rfl, ?_⟩
      have hs_w10 := (hE10).size
      replace hV := evo_step1 hV hE10 (by first | exact .inl (by omega) | exact .inr (by simp))
      replace hI := evo_step1 hI hE10 (by first | exact .inl (by omega) | exact .inr (by simp))
      replace hl := hl0 _ hV
      replace hbb1 := hn10
      clear hn10
      have hAb1 := hbb1.at
      refine r_op rfl rfl rfl (run_bld (pv := [(0, .int _ _)]) (zs := [_, _]) (cells := [_, _]) rfl ty_67 (by exact rfl) pl_67 (by exact rfl) (by exact rfl)) ?_
      refine r_var (zs := [_, _]) (vs := [_, _]) ty_67 (by exact rfl) rfl (by exact rfl) (fun _ => rfl) (by exact rfl) rfl rfl (by exact rfl) ?_
      intro b11 w12 heb11 hEw12 hbb11 hzb11
      have hs_w12 := (hEw12).size
      replace hV := evo_step0 hV hEw12
      replace hI := evo_step0 hI hEw12
      replace hl := hl0 _ hV
      replace hbb1 := hbb1.evo0 hEw12
      replace hAb1 := hAb1.evo0 hEw12
      have hAb11 := hbb11.at
      refine r_nil ?_
      refine r_seq ?_
      refine r_seq ?_
      refine r_region ?_
      refine r_op rfl rfl rfl (run_mv (v := .pointer _) rfl (by exact rfl)) ?_
      refine r_opcall rfl rfl rfl (run_callf (vs := [.pointer _, .int _ _]) rfl (by exact rfl) Try.func23 rfl (by kernel_rfl)) (nx_calls hbb1 hl (by omega) (by omega) (by omega)) ?_
      rintro e w13 ⟨nx13, rfl, hx13, hE13, hn13⟩
      refine ⟨_, rfl, ?_⟩
      have hs_w13 := (hE13).size
      replace hV := evo_step1 hV hE13 (by first | exact .inl (by omega) | exact .inr (by simp))
      replace hI := evo_step1 hI hE13 (by first | exact .inl (by omega) | exact .inr (by simp))
      replace hl := hl0 _ hV
      replace hbb11 := hbb11.evo hE13 (by simp; omega)
      replace hAb11 := hAb11.evo hE13 (by simp; omega)
      replace hbb1 := hn13
      clear hn13
      have hAb1 := hbb1.at
      refine r_op rfl rfl rfl (run_asg (v := .int _ _) rfl (by exact rfl)) ?_
      refine r_nil ?_
      refine r_block ?_
      refine r_loop (α := Nat) [9, 26, 27, 28, 29, 30, 31, 32, 33, 34, 35, 36, 37, 38] (fun k g w => ∃ vs : Value, ∃ ls : List Str, ∃ N : Nat, g 9 = .int .i64 (k : Nat) ∧ OwnE w w5.heap.size 9 vs ls ∧ Blk w b11 67 [.int .i64 nx10, vs] ∧ Blk w b1 49 [.slice ao l.length cap, .int .i64 (N : Nat)] ∧ At w b11 0 [.int .i64 nx10, vs] ∧ ls.length + k ≤ 2 ∧ N + k + 4 * (i - 1) ≤ 200 ∧ w13.heap.size ≤ w.heap.size ∧ Evo w0 w [] ∧ Evo w5 w [b1]) (fun k => k) nx13.toNat ?_ ?_
      · refine ⟨_, [], _, (congrArg (Value.int _) (by omega)), (OwnE.nil _ _ _), hbb11, (by first | assumption | omega | (dsimp only; omega) | (simp; done)), hbb11.at, (by simp; omega), (by first | assumption | omega | (dsimp only; omega) | (simp; done)), (by first | assumption | omega | (dsimp only; omega) | (simp; done)), hV, hI⟩
      · rintro k g w15 ⟨vs, ls, N, hj16, hos, hbb11, hbb1, hAb11, hls, hNk, hzl14, hV, hI⟩
        have hs_w15hV := hV.size
        have hs_w15hI := hI.size
        have hlt17 := hbb11.lt
        have hlt18 := hbb1.lt
        replace hl := hl0 _ hV
        refine r_know (i := 9) (v := .int .i64 (k : Nat)) (by exact hj16) ?_
        refine r_seq ?_
        refine r_seq ?_
        refine r_region ?_
        refine r_op rfl rfl rfl (run_mv (v := .int _ _) rfl (by exact rfl)) ?_
        refine r_op rfl rfl rfl (run_gtr rfl (by exact rfl) (by exact rfl)) ?_
        refine r_nil ?_
        refine r_cond (by exact rfl) (fun hc19 => ?_) (fun hc19 => ?_)
        · skip
          refine r_skip ?_
          refine r_seq ?_
          refine r_block ?_
          refine r_cut [30, 31, 32, 33, 34, 35, 36, 37, 38] (fun g w => ∃ vs2 : Value, ∃ ls2 : List Str, OwnE w w5.heap.size 9 vs2 ls2 ∧ Blk w b11 67 [.int .i64 nx10, vs2] ∧ At w b11 0 [.int .i64 nx10, vs2] ∧ Blk w b1 49 [.slice ao l.length cap, .int .i64 (N + 1 : Nat)] ∧ ls2.length = ls.length + 1 ∧ w15.heap.size ≤ w.heap.size ∧ Evo w0 w [] ∧ Evo w5 w [b1]) ?_ ?_
          · skip
            have hbb11_q := hbb11
            have hbb1_q := hbb1
            have hAb11_q := hAb11
            have hV_q := hV
            have hI_q := hI
            refine h_region [b1] (by kernel_rfl) ?_
            intro w21 hE22 hC23
            have hs_w21 := (hE22).size
            replace hV := evo_step0 hV hE22
            replace hI := evo_step0 hI hE22
            replace hl := hl0 _ hV
            replace hos := hos.evo0 hE22
            replace hbb11 := hbb11.evo0 hE22
            replace hbb1 := hbb1.evo0 hE22
            replace hAb11 := hAb11.evo0 hE22
            refine h_take (i := 0) (by exact rfl) rfl rfl rfl (by kernel_rfl) (fun w' hC => run_fa rfl (by exact rfl) fo_67_1) hC23 ?_
            refine h_take (i := 1) (by exact rfl) rfl rfl rfl (by kernel_rfl) (fun w' hC => run_ld1 rfl ag_65 (by exact rfl) ((hAb11_q.evo hC (by simp; omega)).cell 1 (by exact rfl))) hC23 ?_
            refine h_take (i := 3) (by exact rfl) rfl rfl rfl (by kernel_rfl) (fun w' hC => run_mv (v := .pointer _) rfl (by exact rfl)) hC23 ?_
            refine h_two (i := 2) (j := 4) (by kernel_rfl) ?_ ?_
            · skip
              refine h_do (by exact rfl) ?_
              refine r_bslice (pv := [(0, S _), (1, S _), (2, S _), (3, S _)]) (zs := [_]) (cs := [_, _, _, _]) Try.underlying65 ty_9 (by exact rfl) rfl (by exact rfl) rfl (by exact rfl) ?_
              intro b24 w25 heb24 hEw25 hbb24 hzb24
              have hs_w25 := (hEw25).size
              replace hV := evo_step0 hV hEw25
              replace hI := evo_step0 hI hEw25
              replace hC23 := evo_step0 hC23 hEw25
              replace hl := hl0 _ hV
              replace hos := hos.evo0 hEw25
              replace hbb11 := hbb11.evo0 hEw25
              replace hbb1 := hbb1.evo0 hEw25
              replace hAb11 := hAb11.evo0 hEw25
              have hAb24 := hbb24.at
              have hrb24 : RowE w25 (some ⟨b24, 0, none⟩) b24 0 4 ([[49], [50], [98], [110]] : List Str) := rowLit ([[49], [50], [98], [110]] : List Str) hbb24 rfl rfl
              refine h_next hC23 ?_
              refine h_one (i := 4) (by kernel_rfl) ?_
              refine h_do (by exact rfl) ?_
              refine r_opcall rfl rfl rfl (run_callf (vs := [.pointer _, .int _ _]) rfl (by exact rfl) Try.func23 rfl (by kernel_rfl)) (nx_calls hbb1 hl (by omega) (by omega) (by omega)) ?_
              rintro e w26 ⟨nx26, rfl, hx26, hE26, hn26⟩
              refine ⟨_, rfl, ?_⟩
              have hs_w26 := (hE26).size
              replace hV := evo_step1 hV hE26 (by first | exact .inl (by omega) | exact .inr (by simp))
              replace hI := evo_step1 hI hE26 (by first | exact .inl (by omega) | exact .inr (by simp))
              replace hC23 := evo_step1 hC23 hE26 (by first | exact .inl (by omega) | exact .inr (by simp))
              replace hl := hl0 _ hV
              replace hos := hos.evo hE26 (by intro g hg hm; simp at hm; subst hm; have := hos.block hg; omega)
              replace hbb11 := hbb11.evo hE26 (by simp; omega)
              replace hAb11 := hAb11.evo hE26 (by simp; omega)
              replace hrb24 := hrb24.evo hE26 (by simp; omega)
              replace hbb1 := hn26
              clear hn26
              have hAb1 := hbb1.at
              refine h_next hC23 ?_
              refine h_take (i := 5) (by exact rfl) rfl rfl rfl (by kernel_rfl) (fun w' hC => run_ix (nx26.toNat) rfl Try.underlying65 ty_9 (by exact rfl) (by exact rfl) (by first | exact rfl | omega) (by first | omega | (show _ < 4; omega)) (hrb24.addr (i := nx26.toNat) (by first | omega | (show _ < 4; omega)))) hC23 ?_
              have hA27 := hrb24.atD (nx26.toNat) (by first | omega | (show _ < 4; omega))
              refine h_one (i := 6) (by kernel_rfl) ?_
              refine h_do (by exact rfl) ?_
              refine r_op rfl rfl rfl (run_ld1 rfl ag_9 (by exact rfl) (hA27.cell 0 (by exact rfl))) ?_
              refine h_next hC23 ?_
              refine h_one (i := 7) (by kernel_rfl) ?_
              refine h_do (by exact rfl) ?_
              obtain ⟨ao28, g28, cp28, hv28, hr28, hg28⟩ := hos.rowOf
              subst hv28
              refine r_opcall rfl rfl rfl (run_callf (vs := [.slice _ _ _, S _]) rfl (by exact rfl) Try.func29 rfl (by kernel_rfl)) (insert_calls hr28 (by omega)) ?_
              rintro e w29 ⟨vi29, li29, rfl, hE29, hi29, hil29⟩
              refine ⟨_, rfl, ?_⟩
              have hs_w29 := (hE29).size
              replace hV := evo_step0 hV hE29
              replace hI := evo_step0 hI hE29
              replace hC23 := evo_step0 hC23 hE29
              replace hl := hl0 _ hV
              replace hos := hos.evo0 hE29
              replace hbb11 := hbb11.evo0 hE29
              replace hAb11 := hAb11.evo0 hE29
              replace hrb24 := hrb24.evo0 hE29
              replace hbb1 := hbb1.evo0 hE29
              replace hAb1 := hAb1.evo0 hE29
              replace hr28 := hr28.evo0 hE29
              refine h_next hC23 ?_
              refine h_take (i := 8) (by exact rfl) rfl rfl rfl (by kernel_rfl) (fun w' hC => run_fa rfl (by exact rfl) fo_67_1) hC23 ?_
              refine h_one (i := 9) (by kernel_rfl) ?_
              refine h_do (by exact rfl) ?_
              obtain ⟨ao30, cp30, hv30⟩ := hi29.shape
              subst hv30
              refine r_store (v := .slice _ _ _) (vs := [_]) (cs' := [_, _]) (by exact rfl) (by exact rfl) hbb11 ty_65 (by exact rfl) rfl (by exact rfl) rfl (by exact rfl) ?_
              intro w31 hEw31 hzw31 hb_new
              have hs_w31 := (hEw31).size
              replace hV := evo_step1 hV hEw31 (by first | exact .inl (by omega) | exact .inr (by simp))
              replace hI := evo_step1 hI hEw31 (by first | exact .inl (by omega) | exact .inr (by simp))
              replace hl := hl0 _ hV
              replace hrb24 := hrb24.evo hEw31 (by simp; omega)
              replace hbb1 := hbb1.evo hEw31 (by simp; omega)
              replace hAb1 := hAb1.evo hEw31 (by simp; omega)
              replace hi29 := hi29.evo hEw31 (by intro g hg hm; simp at hm; subst hm; have := hi29.block hg; omega)
              replace hbb11 := hb_new
              have hAb11 := hbb11.at
              clear hb_new
              refine h_last (by kernel_rfl) ?_
              refine h_done (by kernel_rfl) ?_
              refine r_cut_end ?_ ?_
              · refine ⟨_, _, (hi29.base_le (by omega)), hbb11, hbb11.at, hbb1, (by first | assumption | omega | (dsimp only; omega) | (simp; done)), (by first | assumption | omega | (dsimp only; omega) | (simp; done)), hV, hI⟩
              · repeat (first | (with_reducible exact Agree.merge _ _ _) | (with_reducible exact Agree.refl _ _) | (with_reducible refine Agree.upd ?_ _ _ rfl) | ((with_reducible refine Agree.inner ?_ ?_); (kernel_rfl)))
            · skip
              refine h_do (by exact rfl) ?_
              refine r_opcall rfl rfl rfl (run_callf (vs := [.pointer _, .int _ _]) rfl (by exact rfl) Try.func23 rfl (by kernel_rfl)) (nx_calls hbb1 hl (by omega) (by omega) (by omega)) ?_
              rintro e w32 ⟨nx32, rfl, hx32, hE32, hn32⟩
              refine ⟨_, rfl, ?_⟩
              have hs_w32 := (hE32).size
              replace hV := evo_step1 hV hE32 (by first | exact .inl (by omega) | exact .inr (by simp))
              replace hI := evo_step1 hI hE32 (by first | exact .inl (by omega) | exact .inr (by simp))
              replace hC23 := evo_step1 hC23 hE32 (by first | exact .inl (by omega) | exact .inr (by simp))
              replace hl := hl0 _ hV
              replace hos := hos.evo hE32 (by intro g hg hm; simp at hm; subst hm; have := hos.block hg; omega)
              replace hbb11 := hbb11.evo hE32 (by simp; omega)
              replace hAb11 := hAb11.evo hE32 (by simp; omega)
              replace hbb1 := hn32
              clear hn32
              have hAb1 := hbb1.at
              refine h_next hC23 ?_
              refine h_one (i := 2) (by kernel_rfl) ?_
              refine h_do (by exact rfl) ?_
              refine r_bslice (pv := [(0, S _), (1, S _), (2, S _), (3, S _)]) (zs := [_]) (cs := [_, _, _, _]) Try.underlying65 ty_9 (by exact rfl) rfl (by exact rfl) rfl (by exact rfl) ?_
              intro b33 w34 heb33 hEw34 hbb33 hzb33
              have hs_w34 := (hEw34).size
              replace hV := evo_step0 hV hEw34
              replace hI := evo_step0 hI hEw34
              replace hC23 := evo_step0 hC23 hEw34
              replace hl := hl0 _ hV
              replace hos := hos.evo0 hEw34
              replace hbb11 := hbb11.evo0 hEw34
              replace hAb11 := hAb11.evo0 hEw34
              replace hbb1 := hbb1.evo0 hEw34
              replace hAb1 := hAb1.evo0 hEw34
              have hAb33 := hbb33.at
              have hrb33 : RowE w34 (some ⟨b33, 0, none⟩) b33 0 4 ([[49], [50], [98], [110]] : List Str) := rowLit ([[49], [50], [98], [110]] : List Str) hbb33 rfl rfl
              refine h_next hC23 ?_
              refine h_take (i := 5) (by exact rfl) rfl rfl rfl (by kernel_rfl) (fun w' hC => run_ix (nx32.toNat) rfl Try.underlying65 ty_9 (by exact rfl) (by exact rfl) (by first | exact rfl | omega) (by first | omega | (show _ < 4; omega)) (hrb33.addr (i := nx32.toNat) (by first | omega | (show _ < 4; omega)))) hC23 ?_
              have hA35 := hrb33.atD (nx32.toNat) (by first | omega | (show _ < 4; omega))
              refine h_one (i := 6) (by kernel_rfl) ?_
              refine h_do (by exact rfl) ?_
              refine r_op rfl rfl rfl (run_ld1 rfl ag_9 (by exact rfl) (hA35.cell 0 (by exact rfl))) ?_
              refine h_next hC23 ?_
              refine h_one (i := 7) (by kernel_rfl) ?_
              refine h_do (by exact rfl) ?_
              obtain ⟨ao36, g36, cp36, hv36, hr36, hg36⟩ := hos.rowOf
              subst hv36
              refine r_opcall rfl rfl rfl (run_callf (vs := [.slice _ _ _, S _]) rfl (by exact rfl) Try.func29 rfl (by kernel_rfl)) (insert_calls hr36 (by omega)) ?_
              rintro e w37 ⟨vi37, li37, rfl, hE37, hi37, hil37⟩
              refine ⟨_, rfl, ?_⟩
              have hs_w37 := (hE37).size
              replace hV := evo_step0 hV hE37
              replace hI := evo_step0 hI hE37
              replace hC23 := evo_step0 hC23 hE37
              replace hl := hl0 _ hV
              replace hos := hos.evo0 hE37
              replace hbb11 := hbb11.evo0 hE37
              replace hAb11 := hAb11.evo0 hE37
              replace hbb1 := hbb1.evo0 hE37
              replace hAb1 := hAb1.evo0 hE37
              replace hrb33 := hrb33.evo0 hE37
              replace hr36 := hr36.evo0 hE37
              refine h_next hC23 ?_
              refine h_take (i := 8) (by exact rfl) rfl rfl rfl (by kernel_rfl) (fun w' hC => run_fa rfl (by exact rfl) fo_67_1) hC23 ?_
              refine h_one (i := 9) (by kernel_rfl) ?_
              refine h_do (by exact rfl) ?_
              obtain ⟨ao38, cp38, hv38⟩ := hi37.shape
              subst hv38
              refine r_store (v := .slice _ _ _) (vs := [_]) (cs' := [_, _]) (by exact rfl) (by exact rfl) hbb11 ty_65 (by exact rfl) rfl (by exact rfl) rfl (by exact rfl) ?_
              intro w39 hEw39 hzw39 hb_new
              have hs_w39 := (hEw39).size
              replace hV := evo_step1 hV hEw39 (by first | exact .inl (by omega) | exact .inr (by simp))
              replace hI := evo_step1 hI hEw39 (by first | exact .inl (by omega) | exact .inr (by simp))
              replace hl := hl0 _ hV
              replace hbb1 := hbb1.evo hEw39 (by simp; omega)
              replace hAb1 := hAb1.evo hEw39 (by simp; omega)
              replace hrb33 := hrb33.evo hEw39 (by simp; omega)
              replace hi37 := hi37.evo hEw39 (by intro g hg hm; simp at hm; subst hm; have := hi37.block hg; omega)
              replace hbb11 := hb_new
              have hAb11 := hbb11.at
              clear hb_new
              refine h_last (by kernel_rfl) ?_
              refine h_done (by kernel_rfl) ?_
              refine r_cut_end ?_ ?_
              · refine ⟨_, _, (hi37.base_le (by omega)), hbb11, hbb11.at, hbb1, (by first | assumption | omega | (dsimp only; omega) | (simp; done)), (by first | assumption | omega | (dsimp only; omega) | (simp; done)), hV, hI⟩
              · repeat (first | (with_reducible exact Agree.merge _ _ _) | (with_reducible exact Agree.refl _ _) | (with_reducible refine Agree.upd ?_ _ _ rfl) | ((with_reducible refine Agree.inner ?_ ?_); (kernel_rfl)))
          · rintro g w40 ⟨vs2, ls2, hos, hbb11, hAb11, hbb1, hls2, hzl20, hV, hI⟩
            have hs_w40hV := hV.size
            have hs_w40hI := hI.size
            have hlt41 := hbb11.lt
            have hlt42 := hbb1.lt
            replace hl := hl0 _ hV
            refine r_blk ?_
            refine r_region ?_
            refine r_op rfl rfl rfl (run_mv (v := .int _ _) rfl (by exact rfl)) ?_
            refine r_op rfl rfl rfl (run_sub rfl (by exact rfl) (by exact rfl) (by omega) (by omega)) ?_
            refine r_op rfl rfl rfl (run_asg (v := .int _ _) rfl (by exact rfl)) ?_
            refine r_nil ?_
            refine r_again (k - 1) ?_ ?_ ?_
            · first | omega | (dsimp only; omega)
            · refine ⟨_, _, _, (by first | exact rfl | exact congrArg (Value.int _) (by omega) | exact congrArg (Value.int _) (by dsimp only; omega) | exact congrArg (Value.int _) (by simp) | exact congrArg S (by simp)), hos, hbb11, hbb1, hbb11.at, (by first | assumption | omega | (dsimp only; omega) | (simp; done)), (by first | assumption | omega | (dsimp only; omega) | (simp; done)), (by first | assumption | omega | (dsimp only; omega) | (simp; done)), hV, hI⟩
            · repeat (first | (with_reducible exact Agree.merge _ _ _) | (with_reducible exact Agree.refl _ _) | (with_reducible refine Agree.upd ?_ _ _ rfl) | ((with_reducible refine Agree.inner ?_ ?_); (kernel_rfl)))
        · skip
          refine r_exit rfl ?_
          have hoR := hoR0.evoY hI (by simp; omega)
          clear hoR0
          obtain ⟨aoS, cpS, hvS⟩ := hos.shape
          subst hvS
          refine r_region ?_
          refine r_op rfl rfl rfl (run_mv (v := vo) rfl (by exact rfl)) ?_
          refine r_op rfl rfl rfl (run_ldN rfl ag_67 ty_67 (by exact rfl) rfl hAb11) ?_
          refine r_append1R (u := .agg _) (us := [_, _]) rfl rfl Try.underlying22 ty_67 (by exact rfl) rfl rfl hoR (fun _ => (by exact rfl)) (by exact rfl) (by exact rfl) rfl (by exact rfl) (side_own _ hos (by simp; omega) (fun g hg => hobR g hg)) ((by first | omega | (simp; omega))) ((by first | omega | (simp; omega))) (by omega) ?_
          intro q_v43 v43 w44 hEw44 hov43 hlv43
          have hs_w44 := (hEw44).size
          replace hV := evo_stepo hV hEw44 (fun g hg => .inl (by first | exact (hoR.block hg).1 | (have := hoR.block hg; omega)))
          replace hl := hl0 _ hV
          replace hbb1 := hbb1.evo hEw44 (by intro hm; have hm2 := Option.mem_toList.1 hm; have := hoR.block hm2; omega)
          refine r_op rfl rfl rfl (run_asg (v := v43) rfl (by exact rfl)) ?_
          refine r_nil ?_
          refine r_blk ?_
          refine r_region ?_
          refine r_op rfl rfl rfl (run_mv (v := .int _ _) rfl (by exact rfl)) ?_
          refine r_op rfl rfl rfl (run_sub rfl (by exact rfl) (by exact rfl) (by omega) (by omega)) ?_
          refine r_op rfl rfl rfl (run_asg (v := .int _ _) rfl (by exact rfl)) ?_
          refine r_nil ?_
          refine r_again (i - 1) ?_ ?_ ?_
          · first | omega | (dsimp only; omega)
          · refine ⟨_, _, _, (by first | exact rfl | exact congrArg (Value.int _) (by omega) | exact congrArg (Value.int _) (by dsimp only; omega) | exact congrArg (Value.int _) (by simp) | exact congrArg S (by simp)), rfl, hov43, hbb1, (by simp; omega), (by first | assumption | omega | (dsimp only; omega) | (simp; done)), (by first | assumption | omega | (dsimp only; omega) | (simp; done)), hV⟩
          · repeat (first | (with_reducible exact Agree.merge _ _ _) | (with_reducible exact Agree.refl _ _) | (with_reducible refine Agree.upd ?_ _ _ rfl) | ((with_reducible refine Agree.inner ?_ ?_); (kernel_rfl)))
    · skip
      refine r_exit rfl ?_
      refine r_seq ?_
      refine r_region ?_
      refine r_op rfl rfl rfl (run_mv (v := vo) rfl (by exact rfl)) ?_
      refine r_op rfl rfl rfl (run_asg (v := vo) rfl (by exact rfl)) ?_
      refine r_nil ?_
      refine r_ret (res1 (v := vo) rfl (by exact rfl)) ?_
      exact ⟨_, sl, rfl, hV, by omega, hoR.sub (by omega) (by simp)⟩

end Go.Proofs.Ythfahceagabhiaa
