import Derived.Test.YthfahceagabhiaaW1
import Derived.Test.YthfahceagabhiaaEql
namespace Go.Proofs.Ythfahceagabhiaa
open Go.RowKit Go.Vc
theorem pl_50 : placesP Try.prog 50 = some [(0, 1), (1, 1)] := by kernel_rfl
theorem ty_50 : tyP Try.prog 50 = some (2, 16, some (.agg #[(.int .i64 0), (.int .i64 0)])) := by kernel_rfl
theorem rbase_calls {a b : Int} {w0 : World}  :
    Calls Try.prog 32 #[.int .i64 a, .int .i64 b] w0 fun e w' => e = .returned (.tuple #[.int .i64 (baseL a b).1, .bool (baseL a b).2]) ∧ w0 = w' := by
  refine calls_enter (n := 25) (args := [.int .i64 a, .int .i64 b]) Try.func32 rfl Try.ntmps32 rfl ?_
  have hV : Evo w0 w0 [] := Evo.refl _ _
  refine r_seq ?_
  refine r_region ?_
  refine r_op rfl rfl rfl (run_asg (v := .int _ _) rfl (by exact rfl)) ?_
  refine r_op rfl rfl rfl (run_asg (v := .bool _) rfl (by exact rfl)) ?_
  refine r_nil ?_
  refine r_seq ?_
  refine r_seq ?_
  refine r_region ?_
  refine r_op rfl rfl rfl (run_mv (v := .int _ _) rfl (by exact rfl)) ?_
  refine r_op rfl rfl rfl (run_mv (v := .int _ _) rfl (by exact rfl)) ?_
  refine r_op rfl rfl rfl (run_bld (pv := [(0, .int _ _), (1, .int _ _)]) (zs := [_, _]) (cells := [_, _]) rfl ty_50 (by exact rfl) pl_50 (by exact rfl) (by exact rfl)) ?_
  refine r_nil ?_
  refine r_block ?_
  refine r_seq ?_
  refine r_region ?_
  refine r_op rfl rfl rfl (run_bld (pv := [(0, .int _ _), (1, .int _ _)]) (zs := [_, _]) (cells := [_, _]) rfl ty_50 (by exact rfl) pl_50 (by exact rfl) (by exact rfl)) ?_
  refine r_op rfl rfl rfl (run_eqlA2 rfl Try.underlying50 Try.underlying3 ty_3 ag_3 (by kernel_rfl) (by exact rfl) (by exact rfl)) ?_
  refine r_op rfl rfl rfl (run_asg (v := .bool _) rfl (by exact rfl)) ?_
  refine r_nil ?_
  refine r_cond (by exact rfl) (fun hc1 => ?_) (fun hc1 => ?_)
  · skip
    refine r_seq ?_
    refine r_region ?_
    refine r_op rfl rfl rfl (run_asg (v := .int _ _) rfl (by exact rfl)) ?_
    refine r_op rfl rfl rfl (run_asg (v := .bool _) rfl (by exact rfl)) ?_
    refine r_nil ?_
    refine r_ret (res2 (v := .int _ _) (u := .bool _) rfl (by exact rfl) (by exact rfl)) ?_
    exact ⟨by first | (simp only [baseL, *, ↓reduceIte]; done) | (simp_all [baseL]; done) | (unfold baseL; (repeat' split) <;> first | rfl | (exfalso; omega) | (exfalso; simp_all; done) | (exfalso; simp_all; omega)), rfl⟩
  · skip
    refine r_seq ?_
    refine r_seq ?_
    refine r_region ?_
    refine r_op rfl rfl rfl (run_bld (pv := [(0, .int _ _), (1, .int _ _)]) (zs := [_, _]) (cells := [_, _]) rfl ty_50 (by exact rfl) pl_50 (by exact rfl) (by exact rfl)) ?_
    refine r_op rfl rfl rfl (run_eqlA2 rfl Try.underlying50 Try.underlying3 ty_3 ag_3 (by kernel_rfl) (by exact rfl) (by exact rfl)) ?_
    refine r_op rfl rfl rfl (run_asg (v := .bool _) rfl (by exact rfl)) ?_
    refine r_nil ?_
    refine r_cond (by exact rfl) (fun hc2 => ?_) (fun hc2 => ?_)
    · skip
      refine r_skip ?_
      refine r_cond (by exact rfl) (fun hc3 => ?_) (fun hc3 => ?_)
      · skip
        refine r_seq ?_
        refine r_region ?_
        refine r_op rfl rfl rfl (run_asg (v := .int _ _) rfl (by exact rfl)) ?_
        refine r_op rfl rfl rfl (run_asg (v := .bool _) rfl (by exact rfl)) ?_
        refine r_nil ?_
        refine r_ret (res2 (v := .int _ _) (u := .bool _) rfl (by exact rfl) (by exact rfl)) ?_
        exact ⟨by first | (simp only [baseL, *, ↓reduceIte]; done) | (simp_all [baseL]; done) | (unfold baseL; (repeat' split) <;> first | rfl | (exfalso; omega) | (exfalso; simp_all; done) | (exfalso; simp_all; omega)), rfl⟩
      · skip
        refine r_seq ?_
        refine r_region ?_
        refine r_op rfl rfl rfl (run_bld (pv := [(0, .int _ _), (1, .int _ _)]) (zs := [_, _]) (cells := [_, _]) rfl ty_50 (by exact rfl) pl_50 (by exact rfl) (by exact rfl)) ?_
        refine r_op rfl rfl rfl (run_eqlA2 rfl Try.underlying50 Try.underlying3 ty_3 ag_3 (by kernel_rfl) (by exact rfl) (by exact rfl)) ?_
        refine r_op rfl rfl rfl (run_asg (v := .bool _) rfl (by exact rfl)) ?_
        refine r_nil ?_
        refine r_cond (by exact rfl) (fun hc4 => ?_) (fun hc4 => ?_)
        · skip
          refine r_seq ?_
          refine r_region ?_
          refine r_op rfl rfl rfl (run_asg (v := .int _ _) rfl (by exact rfl)) ?_
          refine r_op rfl rfl rfl (run_asg (v := .bool _) rfl (by exact rfl)) ?_
          refine r_nil ?_
          refine r_ret (res2 (v := .int _ _) (u := .bool _) rfl (by exact rfl) (by exact rfl)) ?_
          exact ⟨by first | (simp only [baseL, *, ↓reduceIte]; done) | (simp_all [baseL]; done) | (unfold baseL; (repeat' split) <;> first | rfl | (exfalso; omega) | (exfalso; simp_all; done) | (exfalso; simp_all; omega)), rfl⟩
        · skip
          refine r_seq ?_
          refine r_seq ?_
          refine r_region ?_
          refine r_op rfl rfl rfl (run_bld (pv := [(0, .int _ _), (1, .int _ _)]) (zs := [_, _]) (cells := [_, _]) rfl ty_50 (by exact rfl) pl_50 (by exact rfl) (by exact rfl)) ?_
          refine r_op rfl rfl rfl (run_eqlA2 rfl Try.underlying50 Try.underlying3 ty_3 ag_3 (by kernel_rfl) (by exact rfl) (by exact rfl)) ?_
          refine r_op rfl rfl rfl (run_asg (v := .bool _) rfl (by exact rfl)) ?_
          refine r_nil ?_
          refine r_cond (by exact rfl) (fun hc5 => ?_) (fun hc5 => ?_)
          · skip
            refine r_skip ?_
            refine r_cond (by exact rfl) (fun hc6 => ?_) (fun hc6 => ?_)
            · skip
              refine r_seq ?_
              refine r_region ?_
              refine r_op rfl rfl rfl (run_asg (v := .int _ _) rfl (by exact rfl)) ?_
              refine r_op rfl rfl rfl (run_asg (v := .bool _) rfl (by exact rfl)) ?_
              refine r_nil ?_
              refine r_ret (res2 (v := .int _ _) (u := .bool _) rfl (by exact rfl) (by exact rfl)) ?_
              exact ⟨by first | (simp only [baseL, *, ↓reduceIte]; done) | (simp_all [baseL]; done) | (unfold baseL; (repeat' split) <;> first | rfl | (exfalso; omega) | (exfalso; simp_all; done) | (exfalso; simp_all; omega)), rfl⟩
            · skip
              refine r_skip ?_
              refine r_blk ?_
              refine r_seq ?_
              refine r_region ?_
              refine r_op rfl rfl rfl (run_asg (v := .int _ _) rfl (by exact rfl)) ?_
              refine r_op rfl rfl rfl (run_asg (v := .bool _) rfl (by exact rfl)) ?_
              refine r_nil ?_
              refine r_ret (res2 (v := .int _ _) (u := .bool _) rfl (by exact rfl) (by exact rfl)) ?_
              exact ⟨by first | (simp only [baseL, *, ↓reduceIte]; done) | (simp_all [baseL]; done) | (unfold baseL; (repeat' split) <;> first | rfl | (exfalso; omega) | (exfalso; simp_all; done) | (exfalso; simp_all; omega)), rfl⟩
          · skip
            refine r_region ?_
            refine r_op rfl rfl rfl (run_bld (pv := [(0, .int _ _), (1, .int _ _)]) (zs := [_, _]) (cells := [_, _]) rfl ty_50 (by exact rfl) pl_50 (by exact rfl) (by exact rfl)) ?_
            refine r_op rfl rfl rfl (run_eqlA2 rfl Try.underlying50 Try.underlying3 ty_3 ag_3 (by kernel_rfl) (by exact rfl) (by exact rfl)) ?_
            refine r_op rfl rfl rfl (run_asg (v := .bool _) rfl (by exact rfl)) ?_
            refine r_nil ?_
            refine r_cond (by exact rfl) (fun hc7 => ?_) (fun hc7 => ?_)
            · skip
              refine r_seq ?_
              refine r_region ?_
              refine r_op rfl rfl rfl (run_asg (v := .int _ _) rfl (by exact rfl)) ?_
              refine r_op rfl rfl rfl (run_asg (v := .bool _) rfl (by exact rfl)) ?_
              refine r_nil ?_
              refine r_ret (res2 (v := .int _ _) (u := .bool _) rfl (by exact rfl) (by exact rfl)) ?_
              exact ⟨by first | (simp only [baseL, *, ↓reduceIte]; done) | (simp_all [baseL]; done) | (unfold baseL; (repeat' split) <;> first | rfl | (exfalso; omega) | (exfalso; simp_all; done) | (exfalso; simp_all; omega)), rfl⟩
            · skip
              refine r_skip ?_
              refine r_blk ?_
              refine r_seq ?_
              refine r_region ?_
              refine r_op rfl rfl rfl (run_asg (v := .int _ _) rfl (by exact rfl)) ?_
              refine r_op rfl rfl rfl (run_asg (v := .bool _) rfl (by exact rfl)) ?_
              refine r_nil ?_
              refine r_ret (res2 (v := .int _ _) (u := .bool _) rfl (by exact rfl) (by exact rfl)) ?_
              exact ⟨by first | (simp only [baseL, *, ↓reduceIte]; done) | (simp_all [baseL]; done) | (unfold baseL; (repeat' split) <;> first | rfl | (exfalso; omega) | (exfalso; simp_all; done) | (exfalso; simp_all; omega)), rfl⟩
    · skip
      refine r_region ?_
      refine r_op rfl rfl rfl (run_bld (pv := [(0, .int _ _), (1, .int _ _)]) (zs := [_, _]) (cells := [_, _]) rfl ty_50 (by exact rfl) pl_50 (by exact rfl) (by exact rfl)) ?_
      refine r_op rfl rfl rfl (run_eqlA2 rfl Try.underlying50 Try.underlying3 ty_3 ag_3 (by kernel_rfl) (by exact rfl) (by exact rfl)) ?_
      refine r_op rfl rfl rfl (run_asg (v := .bool _) rfl (by exact rfl)) ?_
      refine r_nil ?_
      refine r_cond (by exact rfl) (fun hc8 => ?_) (fun hc8 => ?_)
      · skip
        refine r_seq ?_
        refine r_region ?_
        refine r_op rfl rfl rfl (run_asg (v := .int _ _) rfl (by exact rfl)) ?_
        refine r_op rfl rfl rfl (run_asg (v := .bool _) rfl (by exact rfl)) ?_
        refine r_nil ?_
        refine r_ret (res2 (v := .int _ _) (u := .bool _) rfl (by exact rfl) (by exact rfl)) ?_
        exact ⟨by first | (simp only [baseL, *, ↓reduceIte]; done) | (simp_all [baseL]; done) | (unfold baseL; (repeat' split) <;> first | rfl | (exfalso; omega) | (exfalso; simp_all; done) | (exfalso; simp_all; omega)), rfl⟩
      · skip
        refine r_seq ?_
        refine r_region ?_
        refine r_op rfl rfl rfl (run_bld (pv := [(0, .int _ _), (1, .int _ _)]) (zs := [_, _]) (cells := [_, _]) rfl ty_50 (by exact rfl) pl_50 (by exact rfl) (by exact rfl)) ?_
        refine r_op rfl rfl rfl (run_eqlA2 rfl Try.underlying50 Try.underlying3 ty_3 ag_3 (by kernel_rfl) (by exact rfl) (by exact rfl)) ?_
        refine r_op rfl rfl rfl (run_asg (v := .bool _) rfl (by exact rfl)) ?_
        refine r_nil ?_
        refine r_cond (by exact rfl) (fun hc9 => ?_) (fun hc9 => ?_)
        · skip
          refine r_seq ?_
          refine r_region ?_
          refine r_op rfl rfl rfl (run_asg (v := .int _ _) rfl (by exact rfl)) ?_
          refine r_op rfl rfl rfl (run_asg (v := .bool _) rfl (by exact rfl)) ?_
          refine r_nil ?_
          refine r_ret (res2 (v := .int _ _) (u := .bool _) rfl (by exact rfl) (by exact rfl)) ?_
          exact ⟨by first | (simp only [baseL, *, ↓reduceIte]; done) | (simp_all [baseL]; done) | (unfold baseL; (repeat' split) <;> first | rfl | (exfalso; omega) | (exfalso; simp_all; done) | (exfalso; simp_all; omega)), rfl⟩
        · skip
          refine r_seq ?_
          refine r_seq ?_
          refine r_region ?_
          refine r_op rfl rfl rfl (run_bld (pv := [(0, .int _ _), (1, .int _ _)]) (zs := [_, _]) (cells := [_, _]) rfl ty_50 (by exact rfl) pl_50 (by exact rfl) (by exact rfl)) ?_
          refine r_op rfl rfl rfl (run_eqlA2 rfl Try.underlying50 Try.underlying3 ty_3 ag_3 (by kernel_rfl) (by exact rfl) (by exact rfl)) ?_
          refine r_op rfl rfl rfl (run_asg (v := .bool _) rfl (by exact rfl)) ?_
          refine r_nil ?_
          refine r_cond (by exact rfl) (fun hc10 => ?_) (fun hc10 => ?_)
          · skip
            refine r_skip ?_
            refine r_cond (by exact rfl) (fun hc11 => ?_) (fun hc11 => ?_)
            · skip
              refine r_seq ?_
              refine r_region ?_
              refine r_op rfl rfl rfl (run_asg (v := .int _ _) rfl (by exact rfl)) ?_
              refine r_op rfl rfl rfl (run_asg (v := .bool _) rfl (by exact rfl)) ?_
              refine r_nil ?_
              refine r_ret (res2 (v := .int _ _) (u := .bool _) rfl (by exact rfl) (by exact rfl)) ?_
              exact ⟨by first | (simp only [baseL, *, ↓reduceIte]; done) | (simp_all [baseL]; done) | (unfold baseL; (repeat' split) <;> first | rfl | (exfalso; omega) | (exfalso; simp_all; done) | (exfalso; simp_all; omega)), rfl⟩
            · skip
              refine r_skip ?_
              refine r_blk ?_
              refine r_seq ?_
              refine r_region ?_
              refine r_op rfl rfl rfl (run_asg (v := .int _ _) rfl (by exact rfl)) ?_
              refine r_op rfl rfl rfl (run_asg (v := .bool _) rfl (by exact rfl)) ?_
              refine r_nil ?_
              refine r_ret (res2 (v := .int _ _) (u := .bool _) rfl (by exact rfl) (by exact rfl)) ?_
              exact ⟨by first | (simp only [baseL, *, ↓reduceIte]; done) | (simp_all [baseL]; done) | (unfold baseL; (repeat' split) <;> first | rfl | (exfalso; omega) | (exfalso; simp_all; done) | (exfalso; simp_all; omega)), rfl⟩
          · skip
            refine r_region ?_
            refine r_op rfl rfl rfl (run_bld (pv := [(0, .int _ _), (1, .int _ _)]) (zs := [_, _]) (cells := [_, _]) rfl ty_50 (by exact rfl) pl_50 (by exact rfl) (by exact rfl)) ?_
            refine r_op rfl rfl rfl (run_eqlA2 rfl Try.underlying50 Try.underlying3 ty_3 ag_3 (by kernel_rfl) (by exact rfl) (by exact rfl)) ?_
            refine r_op rfl rfl rfl (run_asg (v := .bool _) rfl (by exact rfl)) ?_
            refine r_nil ?_
            refine r_cond (by exact rfl) (fun hc12 => ?_) (fun hc12 => ?_)
            · skip
              refine r_seq ?_
              refine r_region ?_
              refine r_op rfl rfl rfl (run_asg (v := .int _ _) rfl (by exact rfl)) ?_
              refine r_op rfl rfl rfl (run_asg (v := .bool _) rfl (by exact rfl)) ?_
              refine r_nil ?_
              refine r_ret (res2 (v := .int _ _) (u := .bool _) rfl (by exact rfl) (by exact rfl)) ?_
              exact ⟨by first | (simp only [baseL, *, ↓reduceIte]; done) | (simp_all [baseL]; done) | (unfold baseL; (repeat' split) <;> first | rfl | (exfalso; omega) | (exfalso; simp_all; done) | (exfalso; simp_all; omega)), rfl⟩
            · skip
              refine r_skip ?_
              refine r_blk ?_
              refine r_seq ?_
              refine r_region ?_
              refine r_op rfl rfl rfl (run_asg (v := .int _ _) rfl (by exact rfl)) ?_
              refine r_op rfl rfl rfl (run_asg (v := .bool _) rfl (by exact rfl)) ?_
              refine r_nil ?_
              refine r_ret (res2 (v := .int _ _) (u := .bool _) rfl (by exact rfl) (by exact rfl)) ?_
              exact ⟨by first | (simp only [baseL, *, ↓reduceIte]; done) | (simp_all [baseL]; done) | (unfold baseL; (repeat' split) <;> first | rfl | (exfalso; omega) | (exfalso; simp_all; done) | (exfalso; simp_all; omega)), rfl⟩

theorem missing_calls {aox aoy : Option Addr} {bx offx capx by_ offy capy : Nat} {x y : List Str} {w0 : World} (hx : RowE w0 aox bx offx capx x) (hy : RowE w0 aoy by_ offy capy y) :
    Calls Try.prog 35 #[.slice aox x.length capx, .slice aoy y.length capy] w0 fun e w' => e = .returned (.int .i64 (missL x y)) ∧ Evo w0 w' [] := by
  refine calls_enter (n := 29) (args := [.slice aox x.length capx, .slice aoy y.length capy]) Try.func35 rfl Try.ntmps35 rfl ?_
  have hV : Evo w0 w0 [] := Evo.refl _ _
  have hx0 := keepE hx
  have hbd_hx := hx.bd
  have hy0 := keepE hy
  have hbd_hy := hy.bd
  refine r_seq ?_
  refine r_region ?_
  refine r_op rfl rfl rfl (run_asg (v := .int _ _) rfl (by exact rfl)) ?_
  refine r_nil ?_
  refine r_seq ?_
  refine r_region ?_
  refine r_op rfl rfl rfl (run_asg (v := .int _ _) rfl (by exact rfl)) ?_
  refine r_nil ?_
  refine r_seq ?_
  refine r_seq ?_
  refine r_region ?_
  refine r_op rfl rfl rfl (run_mv (v := .slice _ _ _) rfl (by exact rfl)) ?_
  refine r_op rfl rfl rfl (run_lenSl rfl (by exact rfl) Try.underlying65) ?_
  refine r_op rfl rfl rfl (run_mv (v := .int _ _) rfl (by exact rfl)) ?_
  refine r_nil ?_
  refine r_block ?_
  refine r_loop (α := Nat) [5, 6, 7, 10, 11, 12, 13, 14, 15, 16, 17, 18, 19, 20, 21, 22, 23, 24, 25, 26, 27] (fun k g w => g 10 = .int .i64 (k : Nat) ∧ g 5 = .int .i64 (missTo x y k) ∧ k ≤ x.length ∧ w0.heap.size ≤ w.heap.size ∧ Evo w0 w []) (fun k => x.length - k) 0 ?_ ?_
  · refine ⟨(by first | exact rfl | exact congrArg (Value.int _) (by omega) | exact congrArg (Value.int _) (by dsimp only; omega) | exact congrArg (Value.int _) (by simp) | exact congrArg S (by simp)), rfl, (by first | assumption | omega | (dsimp only; omega) | (simp; done)), (by first | assumption | omega | (dsimp only; omega) | (simp; done)), hV⟩
  · rintro k g w2 ⟨hj3, hj4, hk_k, hzl1, hV⟩
    have hs_w2hV := hV.size
    replace hx := hx0 _ hV
    replace hy := hy0 _ hV
    refine r_know (i := 10) (v := .int .i64 (k : Nat)) (by exact hj3) ?_
    refine r_know (i := 5) (v := .int .i64 (missTo x y k)) (by exact hj4) ?_
    have hts := missTo_succ x y k
    have htb := missTo_bd x y k
    refine r_seq ?_
    refine r_region ?_
    refine r_op rfl rfl rfl (run_lss rfl (by exact rfl) (by exact rfl)) ?_
    refine r_nil ?_
    refine r_seq ?_
    refine r_cond (by exact rfl) (fun hc5 => ?_) (fun hc5 => ?_)
    · skip
      refine r_skip ?_
      refine r_seq ?_
      refine r_block ?_
      refine r_seq ?_
      refine r_region ?_
      refine r_op rfl rfl rfl (run_mv (v := .int _ _) rfl (by exact rfl)) ?_
      refine r_op rfl rfl rfl (run_ix (k) rfl Try.underlying65 ty_9 (by exact rfl) (by exact rfl) (by first | exact rfl | omega) (by omega) (hx.addr (i := k) (by omega))) ?_
      have hA60 := fun (w' : World) (h : Evo w0 w' []) => (hx0 w' h).atD (k) (by omega)
      have hA6 := hA60 _ hV
      refine r_op rfl rfl rfl (run_ld1 rfl ag_9 (by exact rfl) (hA6.cell 0 (by exact rfl))) ?_
      refine r_op rfl rfl rfl (run_asg (v := .int _ _) rfl (by exact rfl)) ?_
      refine r_op rfl rfl rfl (run_asg (v := S _) rfl (by exact rfl)) ?_
      refine r_nil ?_
      refine r_seq ?_
      refine r_region ?_
      refine r_op rfl rfl rfl (run_mv (v := .slice _ _ _) rfl (by exact rfl)) ?_
      refine r_op rfl rfl rfl (run_mv (v := .int _ _) rfl (by exact rfl)) ?_
      refine r_op rfl rfl rfl (run_add rfl (by exact rfl) (by exact rfl) (by omega) (by omega)) ?_
      refine r_op rfl rfl rfl (by exact run_slE (0) (k + 1) rfl Try.underlying65 ty_9 (by exact rfl) hx lo0 (at1 (by exact rfl) (by omega)) (by first | omega | (simp; omega)) (by first | omega | (simp; omega)) (l' := x.take (k + 1)) (List.drop_zero)) ?_
      have hS70 := fun (w' : World) (h : Evo w0 w' []) => ((List.drop_zero) ▸ ((hx0 w' h).take (k + 1)).drop (0))
      have hS7 := ((List.drop_zero) ▸ (hx.take (k + 1)).drop (0))
      have hbd_hS7 := hS7.bd
      refine r_op rfl rfl rfl (run_mv (v := S _) rfl (by exact rfl)) ?_
      refine r_opcall rfl rfl rfl (run_callf (vs := [.slice _ _ _, S _]) rfl (by exact rfl) Try.func47 rfl (by kernel_rfl)) (times_calls hS7) ?_
      rintro e w8 ⟨rfl, hE8⟩
      refine ⟨_, rfl, ?_⟩
      have hs_w8 := (hE8).size
      replace hV := evo_step0 hV hE8
      replace hx := hx0 _ hV
      replace hy := hy0 _ hV
      refine r_op rfl rfl rfl (run_mv (v := .slice _ _ _) rfl (by exact rfl)) ?_
      refine r_op rfl rfl rfl (run_mv (v := S _) rfl (by exact rfl)) ?_
      refine r_opcall rfl rfl rfl (run_callf (vs := [.slice _ _ _, S _]) rfl (by exact rfl) Try.func47 rfl (by kernel_rfl)) (times_calls hy) ?_
      rintro e w9 ⟨rfl, hE9⟩
      refine ⟨_, rfl, ?_⟩
      have hs_w9 := (hE9).size
      replace hV := evo_step0 hV hE9
      replace hx := hx0 _ hV
      replace hy := hy0 _ hV
      refine r_op rfl rfl rfl (run_gtr rfl (by exact rfl) (by exact rfl)) ?_
      refine r_nil ?_
      refine r_cond (by exact rfl) (fun hc10 => ?_) (fun hc10 => ?_)
      · skip
        refine r_region ?_
        refine r_op rfl rfl rfl (run_mv (v := .int _ _) rfl (by exact rfl)) ?_
        refine r_op rfl rfl rfl (run_add rfl (by exact rfl) (by exact rfl) (by omega) (by omega)) ?_
        refine r_op rfl rfl rfl (run_asg (v := .int _ _) rfl (by exact rfl)) ?_
        refine r_nil ?_
        refine r_blk ?_
        refine r_region ?_
        refine r_op rfl rfl rfl (run_add rfl (by exact rfl) (by exact rfl) (by omega) (by omega)) ?_
        refine r_op rfl rfl rfl (run_mv (v := .int _ _) rfl (by exact rfl)) ?_
        refine r_nil ?_
        refine r_again (k + 1) ?_ ?_ ?_
        · first | omega | (dsimp only; omega)
        · refine ⟨(by first | exact rfl | exact congrArg (Value.int _) (by omega) | exact congrArg (Value.int _) (by dsimp only; omega) | exact congrArg (Value.int _) (by simp) | exact congrArg S (by simp)), (congrArg (Value.int _) (by rw [hts]; first | (rw [if_pos (by omega)]; done) | (rw [if_neg (by omega)]; omega))), (by first | assumption | omega | (dsimp only; omega) | (simp; done)), (by first | assumption | omega | (dsimp only; omega) | (simp; done)), hV⟩
        · repeat (first | (with_reducible exact Agree.merge _ _ _) | (with_reducible exact Agree.refl _ _) | (with_reducible refine Agree.upd ?_ _ _ rfl) | ((with_reducible refine Agree.inner ?_ ?_); (kernel_rfl)))
      · skip
        refine r_skip ?_
        refine r_blk ?_
        refine r_region ?_
        refine r_op rfl rfl rfl (run_add rfl (by exact rfl) (by exact rfl) (by omega) (by omega)) ?_
        refine r_op rfl rfl rfl (run_mv (v := .int _ _) rfl (by exact rfl)) ?_
        refine r_nil ?_
        refine r_again (k + 1) ?_ ?_ ?_
        · first | omega | (dsimp only; omega)
        · refine ⟨(by first | exact rfl | exact congrArg (Value.int _) (by omega) | exact congrArg (Value.int _) (by dsimp only; omega) | exact congrArg (Value.int _) (by simp) | exact congrArg S (by simp)), (congrArg (Value.int _) (by rw [hts]; first | (rw [if_pos (by omega)]; done) | (rw [if_neg (by omega)]; omega))), (by first | assumption | omega | (dsimp only; omega) | (simp; done)), (by first | assumption | omega | (dsimp only; omega) | (simp; done)), hV⟩
        · repeat (first | (with_reducible exact Agree.merge _ _ _) | (with_reducible exact Agree.refl _ _) | (with_reducible refine Agree.upd ?_ _ _ rfl) | ((with_reducible refine Agree.inner ?_ ?_); (kernel_rfl)))
    · skip
      refine r_exit rfl ?_
      refine r_seq ?_
      refine r_region ?_
      refine r_op rfl rfl rfl (run_mv (v := .int _ _) rfl (by exact rfl)) ?_
      refine r_op rfl rfl rfl (run_asg (v := .int _ _) rfl (by exact rfl)) ?_
      refine r_nil ?_
      refine r_ret (res1 (v := .int _ _) rfl (by exact rfl)) ?_
      exact ⟨ret_int (by first | rfl | (rw [show k = x.length by omega]; rfl)), hV⟩

theorem rcost_calls {aoa aob : Option Addr} {ba offa capa bb offb capb : Nat} {a b : List Side} {w0 : World} (ha : RowR w0 aoa ba offa capa a) (hb : RowR w0 aob bb offb capb b) :
    Calls Try.prog 15 #[.slice aoa a.length capa, .slice aob b.length capb] w0 fun e w' => e = .returned (.tuple #[.int .i64 (refCost a b).1, .bool (refCost a b).2]) ∧ Evo w0 w' [] := by
  refine calls_enter (n := 46) (args := [.slice aoa a.length capa, .slice aob b.length capb]) Try.func15 rfl Try.ntmps15 rfl ?_
  have hV : Evo w0 w0 [] := Evo.refl _ _
  have ha0 := ha.keep
  have hbd_ha := ha.bd
  have hb0 := hb.keep
  have hbd_hb := hb.bd
  refine r_seq ?_
  refine r_region ?_
  refine r_op rfl rfl rfl (run_asg (v := .int _ _) rfl (by exact rfl)) ?_
  refine r_op rfl rfl rfl (run_asg (v := .bool _) rfl (by exact rfl)) ?_
  refine r_nil ?_
  refine r_seq ?_
  refine r_region ?_
  refine r_op rfl rfl rfl (run_mv (v := .slice _ _ _) rfl (by exact rfl)) ?_
  refine r_op rfl rfl rfl (run_lenSl rfl (by exact rfl) Try.underlying22) ?_
  refine r_op rfl rfl rfl (run_mv (v := .slice _ _ _) rfl (by exact rfl)) ?_
  refine r_op rfl rfl rfl (run_lenSl rfl (by exact rfl) Try.underlying22) ?_
  refine r_opcall rfl rfl rfl (run_callf (vs := [.int _ _, .int _ _]) rfl (by exact rfl) Try.func32 rfl (by kernel_rfl)) rbase_calls ?_
  rintro e w1 ⟨rfl, rfl⟩
  refine ⟨_, rfl, ?_⟩
  refine r_op rfl rfl rfl (run_mv (v := .tuple _) rfl (by exact rfl)) ?_
  refine r_op rfl rfl rfl (run_extract (v := .int _ _) rfl (by exact rfl) (by exact rfl)) ?_
  refine r_op rfl rfl rfl (run_extract (v := .bool _) rfl (by exact rfl) (by exact rfl)) ?_
  refine r_op rfl rfl rfl (run_asg (v := .int _ _) rfl (by exact rfl)) ?_
  refine r_op rfl rfl rfl (run_asg (v := .bool _) rfl (by exact rfl)) ?_
  refine r_nil ?_
  refine r_seq ?_
  refine r_seq ?_
  refine r_region ?_
  refine r_op rfl rfl rfl (run_mvb rfl (by exact rfl)) ?_
  refine r_op rfl rfl rfl (run_not rfl (by exact rfl)) ?_
  refine r_nil ?_
  refine r_cond (by exact rfl) (fun hc2 => ?_) (fun hc2 => ?_)
  · skip
    have hok : (baseL a.length b.length).2 = false := by simpa using hc2
    refine r_seq ?_
    refine r_region ?_
    refine r_op rfl rfl rfl (run_asg (v := .int _ _) rfl (by exact rfl)) ?_
    refine r_op rfl rfl rfl (run_asg (v := .bool _) rfl (by exact rfl)) ?_
    refine r_nil ?_
    refine r_ret (res2 (v := .int _ _) (u := .bool _) rfl (by exact rfl) (by exact rfl)) ?_
    exact ⟨by simp [refCost, hok], hV⟩
  · skip
    have hok : (baseL a.length b.length).2 = true := by simpa using hc2
    have hsml := baseL_small (a := a.length) (b := b.length) hok (by omega) (by omega)
    have hbb := baseL_bd a.length b.length
    have hla := lenSum_bd a
    have hlb := lenSum_bd b
    have ha1 := anch_bd a
    have hb1 := anch_bd b
    have hm1 := missL_bd (anch a) (anch b)
    have hm2 := missL_bd (anch b) (anch a)
    refine r_skip ?_
    refine r_seq ?_
    refine r_region ?_
    refine r_op rfl rfl rfl (run_mv (v := .slice _ _ _) rfl (by exact rfl)) ?_
    refine r_opcall rfl rfl rfl (run_callf (vs := [.slice _ _ _]) rfl (by exact rfl) Try.func33 rfl (by kernel_rfl)) (lengths_calls ha) ?_
    rintro e w3 ⟨rfl, hE3⟩
    refine ⟨_, rfl, ?_⟩
    have hs_w3 := (hE3).size
    replace hV := evo_step0 hV hE3
    replace ha := ha0.now hV
    replace hb := hb0.now hV
    refine r_op rfl rfl rfl (run_mv (v := .slice _ _ _) rfl (by exact rfl)) ?_
    refine r_opcall rfl rfl rfl (run_callf (vs := [.slice _ _ _]) rfl (by exact rfl) Try.func33 rfl (by kernel_rfl)) (lengths_calls hb) ?_
    rintro e w4 ⟨rfl, hE4⟩
    refine ⟨_, rfl, ?_⟩
    have hs_w4 := (hE4).size
    replace hV := evo_step0 hV hE4
    replace ha := ha0.now hV
    replace hb := hb0.now hV
    refine r_op rfl rfl rfl (run_sub rfl (by exact rfl) (by exact rfl) (by omega) (by omega)) ?_
    refine r_op rfl rfl rfl (run_asg (v := .int _ _) rfl (by exact rfl)) ?_
    refine r_nil ?_
    refine r_seq ?_
    refine r_region ?_
    refine r_op rfl rfl rfl (run_mv (v := .slice _ _ _) rfl (by exact rfl)) ?_
    refine r_opcall rfl rfl rfl (run_callf (vs := [.slice _ _ _]) rfl (by exact rfl) Try.func34 rfl (by kernel_rfl)) (anchors_calls ha (by omega)) ?_
    rintro e w5 ⟨va5, rfl, hE5, ho5⟩
    refine ⟨_, rfl, ?_⟩
    have hs_w5 := (hE5).size
    replace hV := evo_step0 hV hE5
    replace ha := ha0.now hV
    replace hb := hb0.now hV
    refine r_op rfl rfl rfl (run_mv (v := .slice _ _ _) rfl (by exact rfl)) ?_
    refine r_opcall rfl rfl rfl (run_callf (vs := [.slice _ _ _]) rfl (by exact rfl) Try.func34 rfl (by kernel_rfl)) (anchors_calls hb (by omega)) ?_
    rintro e w6 ⟨va6, rfl, hE6, ho6⟩
    refine ⟨_, rfl, ?_⟩
    have hs_w6 := (hE6).size
    replace hV := evo_step0 hV hE6
    replace ha := ha0.now hV
    replace hb := hb0.now hV
    replace ho5 := ho5.evo0 hE6
    refine r_op rfl rfl rfl (run_asg (v := va5) rfl (by exact rfl)) ?_
    refine r_op rfl rfl rfl (run_asg (v := va6) rfl (by exact rfl)) ?_
    refine r_nil ?_
    refine r_seq ?_
    refine r_region ?_
    refine r_op rfl rfl rfl (run_mv (v := .int _ _) rfl (by exact rfl)) ?_
    refine r_op rfl rfl rfl (run_mv (v := .int _ _) rfl (by exact rfl)) ?_
    refine r_op rfl rfl rfl (run_mv (v := .int _ _) rfl (by exact rfl)) ?_
    refine r_op rfl rfl rfl (run_neg rfl (by exact rfl) (by omega) (by omega)) ?_
    refine r_op rfl rfl rfl (run_max rfl (by exact rfl) (by exact rfl)) ?_
    refine r_op rfl rfl rfl (run_mul rfl (by exact rfl) (by exact rfl) (by omega) (by omega)) ?_
    refine r_op rfl rfl rfl (run_add rfl (by exact rfl) (by exact rfl) (by omega) (by omega)) ?_
    refine r_op rfl rfl rfl (run_mv (v := va5) rfl (by exact rfl)) ?_
    refine r_op rfl rfl rfl (run_mv (v := va6) rfl (by exact rfl)) ?_
    obtain ⟨ao7, g7, cp7, hv7, hr7, hg7⟩ := ho5.rowOf
    subst hv7
    obtain ⟨ao8, g8, cp8, hv8, hr8, hg8⟩ := ho6.rowOf
    subst hv8
    refine r_opcall rfl rfl rfl (run_callf (vs := [.slice _ _ _, .slice _ _ _]) rfl (by exact rfl) Try.func35 rfl (by kernel_rfl)) (missing_calls hr7 hr8) ?_
    rintro e w9 ⟨rfl, hE9⟩
    refine ⟨_, rfl, ?_⟩
    have hs_w9 := (hE9).size
    replace hV := evo_step0 hV hE9
    replace ha := ha0.now hV
    replace hb := hb0.now hV
    replace ho5 := ho5.evo0 hE9
    replace ho6 := ho6.evo0 hE9
    replace hr7 := hr7.evo0 hE9
    replace hr8 := hr8.evo0 hE9
    refine r_op rfl rfl rfl (run_mv (v := .slice _ _ _) rfl (by exact rfl)) ?_
    refine r_op rfl rfl rfl (run_mv (v := .slice _ _ _) rfl (by exact rfl)) ?_
    refine r_opcall rfl rfl rfl (run_callf (vs := [.slice _ _ _, .slice _ _ _]) rfl (by exact rfl) Try.func35 rfl (by kernel_rfl)) (missing_calls hr8 hr7) ?_
    rintro e w10 ⟨rfl, hE10⟩
    refine ⟨_, rfl, ?_⟩
    have hs_w10 := (hE10).size
    replace hV := evo_step0 hV hE10
    replace ha := ha0.now hV
    replace hb := hb0.now hV
    replace ho5 := ho5.evo0 hE10
    replace ho6 := ho6.evo0 hE10
    replace hr7 := hr7.evo0 hE10
    replace hr8 := hr8.evo0 hE10
    refine r_op rfl rfl rfl (run_add rfl (by exact rfl) (by exact rfl) (by omega) (by omega)) ?_
    refine r_op rfl rfl rfl (run_mul rfl (by exact rfl) (by exact rfl) (by omega) (by omega)) ?_
    refine r_op rfl rfl rfl (run_add rfl (by exact rfl) (by exact rfl) (by omega) (by omega)) ?_
    refine r_op rfl rfl rfl (run_asg (v := .int _ _) rfl (by exact rfl)) ?_
    refine r_op rfl rfl rfl (run_asg (v := .bool _) rfl (by exact rfl)) ?_
    refine r_nil ?_
    refine r_ret (res2 (v := .int _ _) (u := .bool _) rfl (by exact rfl) (by exact rfl)) ?_
    exact ⟨by simp [refCost, hok], hV⟩

end Go.Proofs.Ythfahceagabhiaa
