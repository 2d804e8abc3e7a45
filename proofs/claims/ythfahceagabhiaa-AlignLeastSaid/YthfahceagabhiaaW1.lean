import Derived.Test.YthfahceagabhiaaPl
import Derived.Test.YthfahceagabhiaaRown
import Derived.Test.YthfahceagabhiaaRows
namespace Go.Proofs.Ythfahceagabhiaa
open Go.RowKit Go.Vc
theorem take_min512 {α : Type} (l : List α) : (l.take (min l.length 512)).drop 0 = l.take 512 := by
  rw [List.drop_zero, Nat.min_comm, ← List.take_eq_take_min]
theorem ag_23 : aggP Try.prog 23 = some false := by kernel_rfl
theorem ag_3 : aggP Try.prog 3 = some false := by kernel_rfl
theorem ag_65 : aggP Try.prog 65 = some false := by kernel_rfl
theorem ag_67 : aggP Try.prog 67 = some true := by kernel_rfl
theorem ag_9 : aggP Try.prog 9 = some false := by kernel_rfl
theorem fo_49_0 : fieldP Try.prog 49 0 = some 0 := by kernel_rfl
theorem fo_49_1 : fieldP Try.prog 49 1 = some 1 := by kernel_rfl
theorem fo_67_0 : fieldP Try.prog 67 0 = some 0 := by kernel_rfl
theorem fo_67_1 : fieldP Try.prog 67 1 = some 1 := by kernel_rfl
theorem ty_3 : tyP Try.prog 3 = some (1, 8, some (.int .i64 0)) := by kernel_rfl
theorem ty_67 : tyP Try.prog 67 = some (2, 32, some (.agg #[(.int .i64 0), (.slice none 0 0)])) := by kernel_rfl
theorem ty_9 : tyP Try.prog 9 = some (1, 16, some (.string ⟨#[]⟩)) := by kernel_rfl
theorem place_calls (x n : Int) {w0 : World} (hn : 1 ≤ n) (hn2 : n ≤ 1000000000) :
    Calls Try.prog 20 #[.int .i64 x, .int .i64 n] w0 fun e w' => e = .returned (.int .i64 (x % n)) ∧ w0 = w' := by
  refine calls_enter (n := 14) (args := [.int .i64 x, .int .i64 n]) Try.func20 rfl Try.ntmps20 rfl ?_
  have hV : Evo w0 w0 [] := Evo.refl _ _
  refine r_seq ?_
  refine r_region ?_
  refine r_op rfl rfl rfl (run_asg (v := .int _ _) rfl (by exact rfl)) ?_
  refine r_nil ?_
  refine r_seq ?_
  refine r_region ?_
  refine r_op rfl rfl rfl (run_mv (v := .int _ _) rfl (by exact rfl)) ?_
  refine r_op rfl rfl rfl (run_mv (v := .int _ _) rfl (by exact rfl)) ?_
  refine r_op rfl rfl rfl (run_rem rfl (by exact rfl) (by exact rfl) (by omega)) ?_
  refine r_op rfl rfl rfl (run_asg (v := .int _ _) rfl (by exact rfl)) ?_
  refine r_nil ?_
  refine r_seq ?_
  refine r_seq ?_
  refine r_region ?_
  refine r_op rfl rfl rfl (run_mv (v := .int _ _) rfl (by exact rfl)) ?_
  refine r_op rfl rfl rfl (run_lss rfl (by exact rfl) (by exact rfl)) ?_
  refine r_nil ?_
  refine r_cond (by exact rfl) (fun hc1 => ?_) (fun hc1 => ?_)
  · skip
    refine r_region ?_
    refine r_op rfl rfl rfl (run_mv (v := .int _ _) rfl (by exact rfl)) ?_
    refine r_op rfl rfl rfl (run_mv (v := .int _ _) rfl (by exact rfl)) ?_
    refine r_op rfl rfl rfl (run_add rfl (by exact rfl) (by exact rfl) (by have := tmod_bd x n (by omega); omega) (by have := tmod_bd x n (by omega); omega)) ?_
    refine r_op rfl rfl rfl (run_asg (v := .int _ _) rfl (by exact rfl)) ?_
    refine r_nil ?_
    refine r_seq ?_
    refine r_region ?_
    refine r_op rfl rfl rfl (run_mv (v := .int _ _) rfl (by exact rfl)) ?_
    refine r_op rfl rfl rfl (run_asg (v := .int _ _) rfl (by exact rfl)) ?_
    refine r_nil ?_
    refine r_ret (res1 (v := .int _ _) rfl (by exact rfl)) ?_
    exact ⟨ret_int (by rw [← place_neg x n (by omega) (by omega)]), rfl⟩
  · skip
    refine r_skip ?_
    refine r_seq ?_
    refine r_region ?_
    refine r_op rfl rfl rfl (run_mv (v := .int _ _) rfl (by exact rfl)) ?_
    refine r_op rfl rfl rfl (run_asg (v := .int _ _) rfl (by exact rfl)) ?_
    refine r_nil ?_
    refine r_ret (res1 (v := .int _ _) rfl (by exact rfl)) ?_
    exact ⟨ret_int (by rw [← place_pos x n (by omega) (by omega)]), rfl⟩

theorem base_calls (a b : Int) {w0 : World}  :
    Calls Try.prog 30 #[.int .i64 a, .int .i64 b] w0 fun e w' => e = .returned (.tuple #[.int .i64 (baseL a b).1, .bool (baseL a b).2]) ∧ w0 = w' := by
  refine calls_enter (n := 50) (args := [.int .i64 a, .int .i64 b]) Try.func30 rfl Try.ntmps30 rfl ?_
  have hV : Evo w0 w0 [] := Evo.refl _ _
  refine r_seq ?_
  refine r_region ?_
  refine r_op rfl rfl rfl (run_asg (v := .int _ _) rfl (by exact rfl)) ?_
  refine r_op rfl rfl rfl (run_asg (v := .bool _) rfl (by exact rfl)) ?_
  refine r_nil ?_
  refine r_seq ?_
  refine r_block ?_
  refine r_seq ?_
  refine r_region ?_
  refine r_op rfl rfl rfl (run_mv (v := .int _ _) rfl (by exact rfl)) ?_
  refine r_op rfl rfl rfl (run_eql rfl (by exact rfl) (by exact rfl)) ?_
  refine r_op rfl rfl rfl (run_mv (v := .bool _) rfl (by exact rfl)) ?_
  refine r_g rfl (wantT (by exact rfl)) rfl (fun hg => run_mv (v := .int _ _) rfl (by exact rfl)) ?_
  refine r_g rfl (wantT (by exact rfl)) rfl (fun hg => run_eql rfl (glv (by exact rfl) (fun h => h) hg) (by exact rfl)) ?_
  refine r_op rfl rfl rfl (run_pick_and rfl (by exact rfl) (fun hq => glv (by exact rfl) (fun h => h) hq) rfl) ?_
  refine r_op rfl rfl rfl (run_asg (v := .bool _) rfl (by exact rfl)) ?_
  refine r_nil ?_
  refine r_cond (by exact rfl) (fun hc1 => ?_) (fun hc1 => ?_)
  · skip
    refine r_seq ?_
    refine r_region ?_
    refine r_op rfl rfl rfl (run_asg (v := .int _ _) rfl (by exact rfl)) ?_
    refine r_op rfl rfl rfl (run_asg (v := .bool _) rfl (by exact rfl)) ?_
    refine r_nil ?_
    refine r_ret (res2 (v := .int _ _) (u := .bool _) rfl (by exact rfl) (by exact rfl)) ?_
    exact ⟨by first | (simp only [baseL, *, ↓reduceIte]; done) | (simp_all [baseL]; done), rfl⟩
  · skip
    refine r_seq ?_
    refine r_region ?_
    refine r_op rfl rfl rfl (run_mv (v := .int _ _) rfl (by exact rfl)) ?_
    refine r_op rfl rfl rfl (run_eql rfl (by exact rfl) (by exact rfl)) ?_
    refine r_op rfl rfl rfl (run_mv (v := .bool _) rfl (by exact rfl)) ?_
    refine r_g rfl (wantT (by exact rfl)) rfl (fun hg => run_mv (v := .int _ _) rfl (by exact rfl)) ?_
    refine r_g rfl (wantT (by exact rfl)) rfl (fun hg => run_eql rfl (glv (by exact rfl) (fun h => h) hg) (by exact rfl)) ?_
    refine r_op rfl rfl rfl (run_pick_and rfl (by exact rfl) (fun hq => glv (by exact rfl) (fun h => h) hq) rfl) ?_
    refine r_op rfl rfl rfl (run_mv (v := .bool _) rfl (by exact rfl)) ?_
    refine r_g rfl (wantF (by exact rfl)) rfl (fun hg => run_mv (v := .int _ _) rfl (by exact rfl)) ?_
    refine r_g rfl (wantF (by exact rfl)) rfl (fun hg => run_eql rfl (glv (by exact rfl) (fun h => h) hg) (by exact rfl)) ?_
    refine r_g rfl (wantF (by exact rfl)) rfl (fun hg => run_mv (v := .bool _) rfl (glv (by exact rfl) (fun h => h) hg)) ?_
    refine r_g rfl (wantTg (by exact rfl)) rfl (fun hg => run_mv (v := .int _ _) rfl (by exact rfl)) ?_
    refine r_g rfl (wantTg (by exact rfl)) rfl (fun hg => run_eql rfl (glv (by exact rfl) (fun h => h) hg) (by exact rfl)) ?_
    refine r_g rfl (wantF (by exact rfl)) rfl (fun hg => run_pick_and rfl (glv (by exact rfl) (fun h => h) hg) (fun hq => glv (by exact rfl) (fun h => h) (And.intro hg hq)) rfl) ?_
    refine r_op rfl rfl rfl (run_pick_or rfl (by exact rfl) rfl (fun hq => glv (by exact rfl) (fun h => h) hq)) ?_
    refine r_op rfl rfl rfl (run_asg (v := .bool _) rfl (by exact rfl)) ?_
    refine r_nil ?_
    refine r_cond (by exact rfl) (fun hc2 => ?_) (fun hc2 => ?_)
    · skip
      refine r_seq ?_
      refine r_region ?_
      refine r_op rfl rfl rfl (run_asg (v := .int _ _) rfl (by exact rfl)) ?_
      refine r_op rfl rfl rfl (run_asg (v := .bool _) rfl (by exact rfl)) ?_
      refine r_nil ?_
      refine r_ret (res2 (v := .int _ _) (u := .bool _) rfl (by exact rfl) (by exact rfl)) ?_
      exact ⟨by first | (simp only [baseL, *, ↓reduceIte]; done) | (simp_all [baseL]; done), rfl⟩
    · skip
      refine r_seq ?_
      refine r_region ?_
      refine r_op rfl rfl rfl (run_mv (v := .int _ _) rfl (by exact rfl)) ?_
      refine r_op rfl rfl rfl (run_eql rfl (by exact rfl) (by exact rfl)) ?_
      refine r_op rfl rfl rfl (run_mv (v := .bool _) rfl (by exact rfl)) ?_
      refine r_g rfl (wantT (by exact rfl)) rfl (fun hg => run_mv (v := .int _ _) rfl (by exact rfl)) ?_
      refine r_g rfl (wantT (by exact rfl)) rfl (fun hg => run_eql rfl (glv (by exact rfl) (fun h => h) hg) (by exact rfl)) ?_
      refine r_op rfl rfl rfl (run_pick_and rfl (by exact rfl) (fun hq => glv (by exact rfl) (fun h => h) hq) rfl) ?_
      refine r_op rfl rfl rfl (run_asg (v := .bool _) rfl (by exact rfl)) ?_
      refine r_nil ?_
      refine r_cond (by exact rfl) (fun hc3 => ?_) (fun hc3 => ?_)
      · skip
        refine r_seq ?_
        refine r_region ?_
        refine r_op rfl rfl rfl (run_asg (v := .int _ _) rfl (by exact rfl)) ?_
        refine r_op rfl rfl rfl (run_asg (v := .bool _) rfl (by exact rfl)) ?_
        refine r_nil ?_
        refine r_ret (res2 (v := .int _ _) (u := .bool _) rfl (by exact rfl) (by exact rfl)) ?_
        exact ⟨by first | (simp only [baseL, *, ↓reduceIte]; done) | (simp_all [baseL]; done), rfl⟩
      · skip
        refine r_seq ?_
        refine r_region ?_
        refine r_op rfl rfl rfl (run_mv (v := .int _ _) rfl (by exact rfl)) ?_
        refine r_op rfl rfl rfl (run_eql rfl (by exact rfl) (by exact rfl)) ?_
        refine r_op rfl rfl rfl (run_mv (v := .bool _) rfl (by exact rfl)) ?_
        refine r_g rfl (wantT (by exact rfl)) rfl (fun hg => run_mv (v := .int _ _) rfl (by exact rfl)) ?_
        refine r_g rfl (wantT (by exact rfl)) rfl (fun hg => run_eql rfl (glv (by exact rfl) (fun h => h) hg) (by exact rfl)) ?_
        refine r_op rfl rfl rfl (run_pick_and rfl (by exact rfl) (fun hq => glv (by exact rfl) (fun h => h) hq) rfl) ?_
        refine r_op rfl rfl rfl (run_mv (v := .bool _) rfl (by exact rfl)) ?_
        refine r_g rfl (wantF (by exact rfl)) rfl (fun hg => run_mv (v := .int _ _) rfl (by exact rfl)) ?_
        refine r_g rfl (wantF (by exact rfl)) rfl (fun hg => run_eql rfl (glv (by exact rfl) (fun h => h) hg) (by exact rfl)) ?_
        refine r_g rfl (wantF (by exact rfl)) rfl (fun hg => run_mv (v := .bool _) rfl (glv (by exact rfl) (fun h => h) hg)) ?_
        refine r_g rfl (wantTg (by exact rfl)) rfl (fun hg => run_mv (v := .int _ _) rfl (by exact rfl)) ?_
        refine r_g rfl (wantTg (by exact rfl)) rfl (fun hg => run_eql rfl (glv (by exact rfl) (fun h => h) hg) (by exact rfl)) ?_
        refine r_g rfl (wantF (by exact rfl)) rfl (fun hg => run_pick_and rfl (glv (by exact rfl) (fun h => h) hg) (fun hq => glv (by exact rfl) (fun h => h) (And.intro hg hq)) rfl) ?_
        refine r_op rfl rfl rfl (run_pick_or rfl (by exact rfl) rfl (fun hq => glv (by exact rfl) (fun h => h) hq)) ?_
        refine r_op rfl rfl rfl (run_asg (v := .bool _) rfl (by exact rfl)) ?_
        refine r_nil ?_
        refine r_cond (by exact rfl) (fun hc4 => ?_) (fun hc4 => ?_)
        · skip
          refine r_seq ?_
          refine r_region ?_
          refine r_op rfl rfl rfl (run_asg (v := .int _ _) rfl (by exact rfl)) ?_
          refine r_op rfl rfl rfl (run_asg (v := .bool _) rfl (by exact rfl)) ?_
          refine r_nil ?_
          refine r_ret (res2 (v := .int _ _) (u := .bool _) rfl (by exact rfl) (by exact rfl)) ?_
          exact ⟨by first | (simp only [baseL, *, ↓reduceIte]; done) | (simp_all [baseL]; done), rfl⟩
        · skip
          refine r_skip ?_
          refine r_blk ?_
          refine r_seq ?_
          refine r_region ?_
          refine r_op rfl rfl rfl (run_asg (v := .int _ _) rfl (by exact rfl)) ?_
          refine r_op rfl rfl rfl (run_asg (v := .bool _) rfl (by exact rfl)) ?_
          refine r_nil ?_
          refine r_ret (res2 (v := .int _ _) (u := .bool _) rfl (by exact rfl) (by exact rfl)) ?_
          exact ⟨by first | (simp only [baseL, *, ↓reduceIte]; done) | (simp_all [baseL]; done), rfl⟩

theorem next_calls {T bs : Nat} {ao : Option Addr} {b off cap : Nat} {l : List Int} {N : Nat} {n : Int} {w0 : World} (hb : Blk w0 bs T [.slice ao l.length cap, .int .i64 (N : Nat)]) (hl : RowE w0 ao b off cap l) (hN : N ≤ 4611686018427387904) (hn : 1 ≤ n) (hn2 : n ≤ 1000000000) :
    Calls Try.prog 23 #[.pointer (some ⟨bs, 0, none⟩), .int .i64 n] w0 fun e w' => e = .returned (.int .i64 (nextL l N n)) ∧ Evo w0 w' [bs] ∧ Blk w' bs T [.slice ao l.length cap, .int .i64 (N + 1 : Nat)] := by
  have hAs := hb.at
  refine calls_enter (n := 36) (args := [.pointer (some ⟨bs, 0, none⟩), .int .i64 n]) Try.func23 rfl Try.ntmps23 rfl ?_
  have hV : Evo w0 w0 [bs] := Evo.refl _ _
  have hbd_hl := hl.bd
  refine r_seq ?_
  refine r_region ?_
  refine r_op rfl rfl rfl (run_asg (v := .int _ _) rfl (by exact rfl)) ?_
  refine r_nil ?_
  refine r_seq ?_
  refine r_region ?_
  refine r_op rfl rfl rfl (run_asg (v := .int _ _) rfl (by exact rfl)) ?_
  refine r_nil ?_
  refine r_seq ?_
  refine r_seq ?_
  refine r_qregion (by kernel_rfl) (by kernel_rfl) ?_
  refine q_op rfl rfl rfl (fun w' hC => run_mv (v := .pointer _) rfl (by exact rfl)) ?_
  refine q_op rfl rfl rfl (fun w' hC => run_nc rfl (by exact rfl)) ?_
  refine q_op rfl rfl rfl (fun w' hC => run_fa rfl (by exact rfl) fo_49_1) ?_
  refine q_op rfl rfl rfl (fun w' hC => run_ld1 rfl ag_3 (by exact rfl) ((hAs.evo0 hC).cell 1 (by exact rfl))) ?_
  refine q_op rfl rfl rfl (fun w' hC => run_mv (v := .pointer _) rfl (by exact rfl)) ?_
  refine q_op rfl rfl rfl (fun w' hC => run_nc rfl (by exact rfl)) ?_
  refine q_op rfl rfl rfl (fun w' hC => run_fa rfl (by exact rfl) fo_49_0) ?_
  refine q_op rfl rfl rfl (fun w' hC => run_ld1 rfl ag_23 (by exact rfl) ((hAs.evo0 hC).cell 0 (by exact rfl))) ?_
  refine q_op rfl rfl rfl (fun w' hC => run_lenSl rfl (by exact rfl) Try.underlying23) ?_
  refine q_op rfl rfl rfl (fun w' hC => run_lss rfl (by exact rfl) (by exact rfl)) ?_
  refine q_nil (fun w1 hE2 => ?_)
  have hs_w1 := (hE2).size
  replace hV := evo_step0 hV hE2
  replace hb := hb.evo0 hE2
  replace hAs := hAs.evo0 hE2
  replace hl := hl.evo0 hE2
  refine r_cond (by exact rfl) (fun hc3 => ?_) (fun hc3 => ?_)
  · skip
    refine r_qregion (by kernel_rfl) (by kernel_rfl) ?_
    refine q_op rfl rfl rfl (fun w' hC => run_mv (v := .pointer _) rfl (by exact rfl)) ?_
    refine q_op rfl rfl rfl (fun w' hC => run_nc rfl (by exact rfl)) ?_
    refine q_op rfl rfl rfl (fun w' hC => run_fa rfl (by exact rfl) fo_49_0) ?_
    refine q_op rfl rfl rfl (fun w' hC => run_ld1 rfl ag_23 (by exact rfl) ((hAs.evo0 hC).cell 0 (by exact rfl))) ?_
    refine q_op rfl rfl rfl (fun w' hC => run_mv (v := .pointer _) rfl (by exact rfl)) ?_
    refine q_op rfl rfl rfl (fun w' hC => run_nc rfl (by exact rfl)) ?_
    refine q_op rfl rfl rfl (fun w' hC => run_fa rfl (by exact rfl) fo_49_1) ?_
    refine q_op rfl rfl rfl (fun w' hC => run_ld1 rfl ag_3 (by exact rfl) ((hAs.evo0 hC).cell 1 (by exact rfl))) ?_
    refine q_op rfl rfl rfl (fun w' hC => run_ix (N) rfl Try.underlying23 ty_3 (by exact rfl) (by exact rfl) (by first | exact rfl | omega) (by omega) (hl.addr (i := N) (by omega))) ?_
    have hA4 := hl.atD (N) (by omega)
    refine q_op rfl rfl rfl (fun w' hC => run_ld1 rfl ag_3 (by exact rfl) ((hA4.evo0 hC).cell 0 (by exact rfl))) ?_
    refine q_op rfl rfl rfl (fun w' hC => run_asg (v := .int _ _) rfl (by exact rfl)) ?_
    refine q_nil (fun w5 hE6 => ?_)
    have hs_w5 := (hE6).size
    replace hV := evo_step0 hV hE6
    replace hb := hb.evo0 hE6
    replace hAs := hAs.evo0 hE6
    replace hl := hl.evo0 hE6
    refine r_seq ?_
    refine r_region ?_
    refine r_op rfl rfl rfl (run_mv (v := .pointer _) rfl (by exact rfl)) ?_
    refine r_op rfl rfl rfl (run_nc rfl (by exact rfl)) ?_
    refine r_op rfl rfl rfl (run_fa rfl (by exact rfl) fo_49_1) ?_
    refine r_op rfl rfl rfl (run_ld1 rfl ag_3 (by exact rfl) (hAs.cell 1 (by exact rfl))) ?_
    refine r_op rfl rfl rfl (run_add rfl (by exact rfl) (by exact rfl) (by omega) (by omega)) ?_
    refine r_op rfl rfl rfl (run_nc rfl (by exact rfl)) ?_
    refine r_op rfl rfl rfl (run_fa rfl (by exact rfl) fo_49_1) ?_
    refine r_store (v := .int _ _) (vs := [_]) (cs' := [_, _]) (by exact rfl) (by exact rfl) hb ty_3 (by exact rfl) rfl (by exact rfl) rfl (by exact rfl) ?_
    intro w7 hEw7 hzw7 hb_new
    have hs_w7 := (hEw7).size
    replace hV := evo_step1 hV hEw7 (.inr (by simp))
    replace hb := hb_new
    have hAs := hb.at
    clear hb_new
    refine r_nil ?_
    refine r_seq ?_
    refine r_region ?_
    refine r_op rfl rfl rfl (run_mv (v := .int _ _) rfl (by exact rfl)) ?_
    refine r_op rfl rfl rfl (run_mv (v := .int _ _) rfl (by exact rfl)) ?_
    refine r_opcall rfl rfl rfl (run_callf (vs := [.int _ _, .int _ _]) rfl (by exact rfl) Try.func20 rfl (by kernel_rfl)) (place_calls _ _ (by omega) (by omega)) ?_
    rintro e w8 ⟨rfl, rfl⟩
    refine ⟨_, rfl, ?_⟩
    refine r_op rfl rfl rfl (run_asg (v := .int _ _) rfl (by exact rfl)) ?_
    refine r_nil ?_
    refine r_ret (res1 (v := .int _ _) rfl (by exact rfl)) ?_
    exact ⟨ret_int (by first | rfl | (unfold nextL; simp [List.getD, List.getElem?_eq_none (by omega : l.length ≤ N)]; done)), hV, hb⟩
  · skip
    refine r_skip ?_
    refine r_seq ?_
    refine r_region ?_
    refine r_op rfl rfl rfl (run_mv (v := .pointer _) rfl (by exact rfl)) ?_
    refine r_op rfl rfl rfl (run_nc rfl (by exact rfl)) ?_
    refine r_op rfl rfl rfl (run_fa rfl (by exact rfl) fo_49_1) ?_
    refine r_op rfl rfl rfl (run_ld1 rfl ag_3 (by exact rfl) (hAs.cell 1 (by exact rfl))) ?_
    refine r_op rfl rfl rfl (run_add rfl (by exact rfl) (by exact rfl) (by omega) (by omega)) ?_
    refine r_op rfl rfl rfl (run_nc rfl (by exact rfl)) ?_
    refine r_op rfl rfl rfl (run_fa rfl (by exact rfl) fo_49_1) ?_
    refine r_store (v := .int _ _) (vs := [_]) (cs' := [_, _]) (by exact rfl) (by exact rfl) hb ty_3 (by exact rfl) rfl (by exact rfl) rfl (by exact rfl) ?_
    intro w9 hEw9 hzw9 hb_new
    have hs_w9 := (hEw9).size
    replace hV := evo_step1 hV hEw9 (.inr (by simp))
    replace hb := hb_new
    have hAs := hb.at
    clear hb_new
    refine r_nil ?_
    refine r_seq ?_
    refine r_region ?_
    refine r_op rfl rfl rfl (run_mv (v := .int _ _) rfl (by exact rfl)) ?_
    refine r_op rfl rfl rfl (run_mv (v := .int _ _) rfl (by exact rfl)) ?_
    refine r_opcall rfl rfl rfl (run_callf (vs := [.int _ _, .int _ _]) rfl (by exact rfl) Try.func20 rfl (by kernel_rfl)) (place_calls _ _ (by omega) (by omega)) ?_
    rintro e w10 ⟨rfl, rfl⟩
    refine ⟨_, rfl, ?_⟩
    refine r_op rfl rfl rfl (run_asg (v := .int _ _) rfl (by exact rfl)) ?_
    refine r_nil ?_
    refine r_ret (res1 (v := .int _ _) rfl (by exact rfl)) ?_
    exact ⟨ret_int (by first | rfl | (unfold nextL; simp [List.getD, List.getElem?_eq_none (by omega : l.length ≤ N)]; done)), hV, hb⟩

theorem light_calls {ao : Option Addr} {b off cap : Nat} {l : List Side} {w0 : World} (hl : RowR w0 ao b off cap l) :
    Calls Try.prog 11 #[.slice ao l.length cap] w0 fun e w' => ∃ x, e = .returned (.bool x) ∧ (x = true → l.length ≤ 12) ∧ Evo w0 w' [] := by
  refine calls_enter (n := 38) (args := [.slice ao l.length cap]) Try.func11 rfl Try.ntmps11 rfl ?_
  have hV : Evo w0 w0 [] := Evo.refl _ _
  have hl0 := hl.keep
  have hbd_hl := hl.bd
  refine r_seq ?_
  refine r_region ?_
  refine r_op rfl rfl rfl (run_asg (v := .bool _) rfl (by exact rfl)) ?_
  refine r_nil ?_
  refine r_seq ?_
  refine r_region ?_
  refine r_op rfl rfl rfl (run_asg (v := .int _ _) rfl (by exact rfl)) ?_
  refine r_nil ?_
  refine r_seq ?_
  refine r_seq ?_
  refine r_region ?_
  refine r_op rfl rfl rfl (run_mv (v := .slice _ _ _) rfl (by exact rfl)) ?_
  refine r_op rfl rfl rfl (run_lenSl rfl (by exact rfl) Try.underlying22) ?_
  refine r_op rfl rfl rfl (run_mv (v := .int _ _) rfl (by exact rfl)) ?_
  refine r_nil ?_
  refine r_block ?_
  refine r_loop (α := Nat) [3, 4, 6, 9, 10, 11, 12, 13, 14, 15, 16, 17, 18, 19, 20, 21, 22, 23, 24, 25, 26, 27, 28, 29, 30] (fun k g w => ∃ z : Int, g 9 = .int .i64 (k : Nat) ∧ g 3 = .int .i64 z ∧ k ≤ l.length ∧ w0.heap.size ≤ w.heap.size ∧ Evo w0 w []) (fun k => l.length - k) 0 ?_ ?_
  · refine ⟨0, (by first | exact rfl | exact congrArg (Value.int _) (by omega) | exact congrArg (Value.int _) (by dsimp only; omega) | exact congrArg (Value.int _) (by simp) | exact congrArg S (by simp)), (by first | exact rfl | exact congrArg (Value.int _) (by omega) | exact congrArg (Value.int _) (by dsimp only; omega) | exact congrArg (Value.int _) (by simp) | exact congrArg S (by simp)), (by first | assumption | omega | (dsimp only; omega) | (simp; done)), (by first | assumption | omega | (dsimp only; omega) | (simp; done)), hV⟩
  · rintro k g w2 ⟨z, hj3, hj4, hk_k, hzl1, hV⟩
    have hs_w2hV := hV.size
    replace hl := hl0.now hV
    refine r_know (i := 9) (v := .int .i64 (k : Nat)) (by exact hj3) ?_
    refine r_know (i := 3) (v := .int .i64 z) (by exact hj4) ?_
    refine r_seq ?_
    refine r_region ?_
    refine r_op rfl rfl rfl (run_lss rfl (by exact rfl) (by exact rfl)) ?_
    refine r_nil ?_
    refine r_seq ?_
    refine r_cond (by exact rfl) (fun hc5 => ?_) (fun hc5 => ?_)
    · skip
      refine r_skip ?_
      refine r_seq ?_
      refine r_block ?_
      refine r_seq ?_
      refine r_region ?_
      refine r_op rfl rfl rfl (run_mv (v := .int _ _) rfl (by exact rfl)) ?_
      refine r_op rfl rfl rfl (run_asg (v := .int _ _) rfl (by exact rfl)) ?_
      refine r_nil ?_
      refine r_seq ?_
      refine r_region ?_
      refine r_op rfl rfl rfl (run_mv (v := .int _ _) rfl (by exact rfl)) ?_
      refine r_op rfl rfl rfl (run_addw rfl (by exact rfl) (by exact rfl)) ?_
      refine r_op rfl rfl rfl (run_asg (v := .int _ _) rfl (by exact rfl)) ?_
      refine r_nil ?_
      refine r_seq ?_
      refine r_region ?_
      refine r_op rfl rfl rfl (run_mv (v := .slice _ _ _) rfl (by exact rfl)) ?_
      refine r_op rfl rfl rfl (run_mv (v := .int _ _) rfl (by exact rfl)) ?_
      refine r_op rfl rfl rfl (run_ix (k) rfl Try.underlying22 ty_67 (by exact rfl) (by exact rfl) (by first | exact rfl | omega) (by omega) (hl.addr (i := k) (by omega))) ?_
      obtain ⟨ao6, b6, off6, cap6, hX⟩ := side_atK hl0 (k) (by omega)
      have hA60 := fun (w' : World) (h : Evo w0 w' []) => (hX w' h).1
      have hA6 := hA60 _ hV
      have hR60 := fun (w' : World) (h : Evo w0 w' []) => (hX w' h).2
      have hR6 := hR60 _ hV
      clear hX
      have hbd_hR6 := hR6.bd
      refine r_op rfl rfl rfl (run_fa rfl (by exact rfl) fo_67_1) ?_
      refine r_op rfl rfl rfl (run_ld1 rfl ag_65 (by exact rfl) (hA6.cell 1 (by exact rfl))) ?_
      refine r_op rfl rfl rfl (run_lenSl rfl (by exact rfl) Try.underlying65) ?_
      refine r_op rfl rfl rfl (run_mv (v := .int _ _) rfl (by exact rfl)) ?_
      refine r_nil ?_
      refine r_block ?_
      refine r_loop (α := Nat) [3, 6, 20, 21, 22, 23, 24, 25, 26, 27, 28, 29] (fun j g w => ∃ z2 : Int, g 20 = .int .i64 (j : Nat) ∧ g 3 = .int .i64 z2 ∧ j ≤ (l.getD k default).anchors.length ∧ w2.heap.size ≤ w.heap.size ∧ Evo w0 w []) (fun j => (l.getD k default).anchors.length - j) 0 ?_ ?_
      · refine ⟨_, (by first | exact rfl | exact congrArg (Value.int _) (by omega) | exact congrArg (Value.int _) (by dsimp only; omega) | exact congrArg (Value.int _) (by simp) | exact congrArg S (by simp)), (by first | exact rfl | exact congrArg (Value.int _) (by omega) | exact congrArg (Value.int _) (by dsimp only; omega) | exact congrArg (Value.int _) (by simp) | exact congrArg S (by simp)), (by first | assumption | omega | (dsimp only; omega) | (simp; done)), (by first | assumption | omega | (dsimp only; omega) | (simp; done)), hV⟩
      · rintro j g w8 ⟨z2, hj9, hj10, hk_j, hzl7, hV⟩
        have hs_w8hV := hV.size
        replace hl := hl0.now hV
        replace hA6 := hA60 _ hV
        replace hR6 := hR60 _ hV
        refine r_know (i := 20) (v := .int .i64 (j : Nat)) (by exact hj9) ?_
        refine r_know (i := 3) (v := .int .i64 z2) (by exact hj10) ?_
        refine r_seq ?_
        refine r_region ?_
        refine r_op rfl rfl rfl (run_lss rfl (by exact rfl) (by exact rfl)) ?_
        refine r_nil ?_
        refine r_seq ?_
        refine r_cond (by exact rfl) (fun hc11 => ?_) (fun hc11 => ?_)
        · skip
          refine r_skip ?_
          refine r_seq ?_
          refine r_block ?_
          refine r_seq ?_
          refine r_region ?_
          refine r_op rfl rfl rfl (run_ix (j) rfl Try.underlying65 ty_9 (by exact rfl) (by exact rfl) (by first | exact rfl | omega) (by omega) (hR6.addr (i := j) (by omega))) ?_
          have hA120 := fun (w' : World) (h : Evo w0 w' []) => (hR60 w' h).atD (j) (by omega)
          have hA12 := hA120 _ hV
          refine r_op rfl rfl rfl (run_ld1 rfl ag_9 (by exact rfl) (hA12.cell 0 (by exact rfl))) ?_
          refine r_op rfl rfl rfl (run_asg (v := S _) rfl (by exact rfl)) ?_
          refine r_nil ?_
          refine r_region ?_
          refine r_op rfl rfl rfl (run_mv (v := .int _ _) rfl (by exact rfl)) ?_
          refine r_op rfl rfl rfl (run_mv (v := S _) rfl (by exact rfl)) ?_
          refine r_op rfl rfl rfl (run_lenS rfl (by exact rfl) Try.underlying9) ?_
          refine r_op rfl rfl rfl (run_addw rfl (by exact rfl) (by exact rfl)) ?_
          refine r_op rfl rfl rfl (run_addw rfl (by exact rfl) (by exact rfl)) ?_
          refine r_op rfl rfl rfl (run_asg (v := .int _ _) rfl (by exact rfl)) ?_
          refine r_nil ?_
          refine r_blk ?_
          refine r_region ?_
          refine r_op rfl rfl rfl (run_add rfl (by exact rfl) (by exact rfl) (by omega) (by omega)) ?_
          refine r_op rfl rfl rfl (run_mv (v := .int _ _) rfl (by exact rfl)) ?_
          refine r_nil ?_
          refine r_again (j + 1) ?_ ?_ ?_
          · first | omega | (dsimp only; omega)
          · refine ⟨_, (by first | exact rfl | exact congrArg (Value.int _) (by omega) | exact congrArg (Value.int _) (by dsimp only; omega) | exact congrArg (Value.int _) (by simp) | exact congrArg S (by simp)), (by first | exact rfl | exact congrArg (Value.int _) (by omega) | exact congrArg (Value.int _) (by dsimp only; omega) | exact congrArg (Value.int _) (by simp) | exact congrArg S (by simp)), (by first | assumption | omega | (dsimp only; omega) | (simp; done)), (by first | assumption | omega | (dsimp only; omega) | (simp; done)), hV⟩
          · repeat (first | (with_reducible exact Agree.merge _ _ _) | (with_reducible exact Agree.refl _ _) | (with_reducible refine Agree.upd ?_ _ _ rfl) | ((with_reducible refine Agree.inner ?_ ?_); (kernel_rfl)))
        · skip
          refine r_exit rfl ?_
          refine r_blk ?_
          refine r_region ?_
          refine r_op rfl rfl rfl (run_add rfl (by exact rfl) (by exact rfl) (by omega) (by omega)) ?_
          refine r_op rfl rfl rfl (run_mv (v := .int _ _) rfl (by exact rfl)) ?_
          refine r_nil ?_
          refine r_again (k + 1) ?_ ?_ ?_
          · first | omega | (dsimp only; omega)
          · refine ⟨_, (by first | exact rfl | exact congrArg (Value.int _) (by omega) | exact congrArg (Value.int _) (by dsimp only; omega) | exact congrArg (Value.int _) (by simp) | exact congrArg S (by simp)), (by first | exact rfl | exact congrArg (Value.int _) (by omega) | exact congrArg (Value.int _) (by dsimp only; omega) | exact congrArg (Value.int _) (by simp) | exact congrArg S (by simp)), (by first | assumption | omega | (dsimp only; omega) | (simp; done)), (by first | assumption | omega | (dsimp only; omega) | (simp; done)), hV⟩
          · repeat (first | (with_reducible exact Agree.merge _ _ _) | (with_reducible exact Agree.refl _ _) | (with_reducible refine Agree.upd ?_ _ _ rfl) | ((with_reducible refine Agree.inner ?_ ?_); (kernel_rfl)))
    · skip
      refine r_exit rfl ?_
      refine r_seq ?_
      refine r_region ?_
      refine r_op rfl rfl rfl (run_mv (v := .slice _ _ _) rfl (by exact rfl)) ?_
      refine r_op rfl rfl rfl (run_lenSl rfl (by exact rfl) Try.underlying22) ?_
      refine r_op rfl rfl rfl (run_leq rfl (by exact rfl) (by exact rfl)) ?_
      refine r_op rfl rfl rfl (run_mv (v := .bool _) rfl (by exact rfl)) ?_
      refine r_g rfl (wantT (by exact rfl)) rfl (fun hg => run_mv (v := .int _ _) rfl (by exact rfl)) ?_
      refine r_g rfl (wantT (by exact rfl)) rfl (fun hg => run_leq rfl (glv (by exact rfl) (fun h => h) hg) (by exact rfl)) ?_
      refine r_op rfl rfl rfl (run_pick_and rfl (by exact rfl) (fun hq => glv (by exact rfl) (fun h => h) hq) rfl) ?_
      refine r_op rfl rfl rfl (run_asg (v := .bool _) rfl (by exact rfl)) ?_
      refine r_nil ?_
      refine r_ret (res1 (v := .bool _) rfl (by exact rfl)) ?_
      exact ⟨_, rfl, fun h => by have := of_decide_eq_true h; omega, hV⟩

theorem times_calls {ao : Option Addr} {b off cap : Nat} {l : List Str} {x : Str} {w0 : World} (hl : RowE w0 ao b off cap l) :
    Calls Try.prog 47 #[.slice ao l.length cap, S x] w0 fun e w' => e = .returned (.int .i64 (timesL l x)) ∧ Evo w0 w' [] := by
  refine calls_enter (n := 21) (args := [.slice ao l.length cap, S x]) Try.func47 rfl Try.ntmps47 rfl ?_
  have hV : Evo w0 w0 [] := Evo.refl _ _
  have hl0 := keepE hl
  have hbd_hl := hl.bd
  refine r_seq ?_
  refine r_region ?_
  refine r_op rfl rfl rfl (run_asg (v := .int _ _) rfl (by exact rfl)) ?_
  refine r_nil ?_
  refine r_seq ?_
  refine r_region ?_
  refine r_op rfl rfl rfl (run_asg (v := .int _ _) rfl (by exact rfl)) ?_
  refine r_nil ?_
  refine r_seq ?_
  refine r_seq ?_
  refine r_region ?_
  refine r_op rfl rfl rfl (run_mv (v := .slice _ _ _) rfl (by exact rfl)) ?_
  refine r_op rfl rfl rfl (run_lenSl rfl (by exact rfl) Try.underlying65) ?_
  refine r_op rfl rfl rfl (run_mv (v := .int _ _) rfl (by exact rfl)) ?_
  refine r_nil ?_
  refine r_block ?_
  refine r_loop (α := Nat) [5, 7, 10, 11, 12, 13, 14, 15, 16, 17, 18, 19] (fun k g w => g 10 = .int .i64 (k : Nat) ∧ g 5 = .int .i64 (timesL (l.take k) x) ∧ k ≤ l.length ∧ w0.heap.size ≤ w.heap.size ∧ Evo w0 w []) (fun k => l.length - k) 0 ?_ ?_
  · refine ⟨(by first | exact rfl | exact congrArg (Value.int _) (by omega) | exact congrArg (Value.int _) (by dsimp only; omega) | exact congrArg (Value.int _) (by simp) | exact congrArg S (by simp)), rfl, (by first | assumption | omega | (dsimp only; omega) | (simp; done)), (by first | assumption | omega | (dsimp only; omega) | (simp; done)), hV⟩
  · rintro k g w2 ⟨hj3, hj4, hk_k, hzl1, hV⟩
    have hs_w2hV := hV.size
    replace hl := hl0 _ hV
    refine r_know (i := 10) (v := .int .i64 (k : Nat)) (by exact hj3) ?_
    refine r_know (i := 5) (v := .int .i64 (timesL (l.take k) x)) (by exact hj4) ?_
    have hts := times_succ l k x
    have htb := timesL_bd (l.take k) x
    simp only [List.length_take] at htb
    refine r_seq ?_
    refine r_region ?_
    refine r_op rfl rfl rfl (run_lss rfl (by exact rfl) (by exact rfl)) ?_
    refine r_nil ?_
    refine r_seq ?_
    refine r_cond (by exact rfl) (fun hc5 => ?_) (fun hc5 => ?_)
    · skip
      refine r_skip ?_
      refine r_seq ?_
      refine r_block ?_
      refine r_seq ?_
      refine r_region ?_
      refine r_op rfl rfl rfl (run_ix (k) rfl Try.underlying65 ty_9 (by exact rfl) (by exact rfl) (by first | exact rfl | omega) (by omega) (hl.addr (i := k) (by omega))) ?_
      have hA60 := fun (w' : World) (h : Evo w0 w' []) => (hl0 w' h).atD (k) (by omega)
      have hA6 := hA60 _ hV
      refine r_op rfl rfl rfl (run_ld1 rfl ag_9 (by exact rfl) (hA6.cell 0 (by exact rfl))) ?_
      refine r_op rfl rfl rfl (run_asg (v := S _) rfl (by exact rfl)) ?_
      refine r_nil ?_
      refine r_seq ?_
      refine r_region ?_
      refine r_op rfl rfl rfl (run_mv (v := S _) rfl (by exact rfl)) ?_
      refine r_op rfl rfl rfl (run_mv (v := S _) rfl (by exact rfl)) ?_
      refine r_op rfl rfl rfl (run_seql rfl (by exact rfl) (by exact rfl)) ?_
      refine r_nil ?_
      refine r_cond (by exact rfl) (fun hc7 => ?_) (fun hc7 => ?_)
      · skip
        refine r_region ?_
        refine r_op rfl rfl rfl (run_mv (v := .int _ _) rfl (by exact rfl)) ?_
        refine r_op rfl rfl rfl (run_add rfl (by exact rfl) (by exact rfl) (by omega) (by omega)) ?_
        refine r_op rfl rfl rfl (run_asg (v := .int _ _) rfl (by exact rfl)) ?_
        refine r_nil ?_
        refine r_blk ?_
        refine r_region ?_
        refine r_op rfl rfl rfl (run_add rfl (by exact rfl) (by exact rfl) (by omega) (by omega)) ?_
        refine r_op rfl rfl rfl (run_mv (v := .int _ _) rfl (by exact rfl)) ?_
        refine r_nil ?_
        refine r_again (k + 1) ?_ ?_ ?_
        · first | omega | (dsimp only; omega)
        · refine ⟨(by first | exact rfl | exact congrArg (Value.int _) (by omega) | exact congrArg (Value.int _) (by dsimp only; omega) | exact congrArg (Value.int _) (by simp) | exact congrArg S (by simp)), (congrArg (Value.int _) (by rw [hts (by omega)]; simp_all)), (by first | assumption | omega | (dsimp only; omega) | (simp; done)), (by first | assumption | omega | (dsimp only; omega) | (simp; done)), hV⟩
        · repeat (first | (with_reducible exact Agree.merge _ _ _) | (with_reducible exact Agree.refl _ _) | (with_reducible refine Agree.upd ?_ _ _ rfl) | ((with_reducible refine Agree.inner ?_ ?_); (kernel_rfl)))
      · skip
        refine r_skip ?_
        refine r_blk ?_
        refine r_region ?_
        refine r_op rfl rfl rfl (run_add rfl (by exact rfl) (by exact rfl) (by omega) (by omega)) ?_
        refine r_op rfl rfl rfl (run_mv (v := .int _ _) rfl (by exact rfl)) ?_
        refine r_nil ?_
        refine r_again (k + 1) ?_ ?_ ?_
        · first | omega | (dsimp only; omega)
        · refine ⟨(by first | exact rfl | exact congrArg (Value.int _) (by omega) | exact congrArg (Value.int _) (by dsimp only; omega) | exact congrArg (Value.int _) (by simp) | exact congrArg S (by simp)), (congrArg (Value.int _) (by rw [hts (by omega)]; simp_all)), (by first | assumption | omega | (dsimp only; omega) | (simp; done)), (by first | assumption | omega | (dsimp only; omega) | (simp; done)), hV⟩
        · repeat (first | (with_reducible exact Agree.merge _ _ _) | (with_reducible exact Agree.refl _ _) | (with_reducible refine Agree.upd ?_ _ _ rfl) | ((with_reducible refine Agree.inner ?_ ?_); (kernel_rfl)))
    · skip
      refine r_exit rfl ?_
      refine r_seq ?_
      refine r_region ?_
      refine r_op rfl rfl rfl (run_mv (v := .int _ _) rfl (by exact rfl)) ?_
      refine r_op rfl rfl rfl (run_asg (v := .int _ _) rfl (by exact rfl)) ?_
      refine r_nil ?_
      refine r_ret (res1 (v := .int _ _) rfl (by exact rfl)) ?_
      exact ⟨ret_int (by rw [List.take_of_length_le (by omega)]), hV⟩

theorem lengths_calls {ao : Option Addr} {b off cap : Nat} {l : List Side} {w0 : World} (hl : RowR w0 ao b off cap l) :
    Calls Try.prog 33 #[.slice ao l.length cap] w0 fun e w' => e = .returned (.int .i64 (lenSum l)) ∧ Evo w0 w' [] := by
  refine calls_enter (n := 20) (args := [.slice ao l.length cap]) Try.func33 rfl Try.ntmps33 rfl ?_
  have hV : Evo w0 w0 [] := Evo.refl _ _
  have hl0 := hl.keep
  have hbd_hl := hl.bd
  refine r_seq ?_
  refine r_region ?_
  refine r_op rfl rfl rfl (run_asg (v := .int _ _) rfl (by exact rfl)) ?_
  refine r_nil ?_
  refine r_seq ?_
  refine r_region ?_
  refine r_op rfl rfl rfl (run_asg (v := .int _ _) rfl (by exact rfl)) ?_
  refine r_nil ?_
  refine r_seq ?_
  refine r_seq ?_
  refine r_region ?_
  refine r_op rfl rfl rfl (run_mv (v := .slice _ _ _) rfl (by exact rfl)) ?_
  refine r_op rfl rfl rfl (run_lenSl rfl (by exact rfl) Try.underlying22) ?_
  refine r_op rfl rfl rfl (run_mv (v := .int _ _) rfl (by exact rfl)) ?_
  refine r_nil ?_
  refine r_block ?_
  refine r_loop (α := Nat) [3, 5, 8, 9, 10, 11, 12, 13, 14, 15, 16, 17, 18] (fun k g w => g 8 = .int .i64 (k : Nat) ∧ g 3 = .int .i64 (lenSum (l.take k)) ∧ k ≤ l.length ∧ w0.heap.size ≤ w.heap.size ∧ Evo w0 w []) (fun k => l.length - k) 0 ?_ ?_
  · refine ⟨(by first | exact rfl | exact congrArg (Value.int _) (by omega) | exact congrArg (Value.int _) (by dsimp only; omega) | exact congrArg (Value.int _) (by simp) | exact congrArg S (by simp)), rfl, (by first | assumption | omega | (dsimp only; omega) | (simp; done)), (by first | assumption | omega | (dsimp only; omega) | (simp; done)), hV⟩
  · rintro k g w2 ⟨hj3, hj4, hk_k, hzl1, hV⟩
    have hs_w2hV := hV.size
    replace hl := hl0.now hV
    refine r_know (i := 8) (v := .int .i64 (k : Nat)) (by exact hj3) ?_
    refine r_know (i := 3) (v := .int .i64 (lenSum (l.take k))) (by exact hj4) ?_
    have hts := lenSum_succ l k
    have htb := lenSum_bd (l.take k)
    simp only [List.length_take] at htb
    refine r_seq ?_
    refine r_region ?_
    refine r_op rfl rfl rfl (run_lss rfl (by exact rfl) (by exact rfl)) ?_
    refine r_nil ?_
    refine r_seq ?_
    refine r_cond (by exact rfl) (fun hc5 => ?_) (fun hc5 => ?_)
    · skip
      refine r_skip ?_
      refine r_seq ?_
      refine r_block ?_
      refine r_seq ?_
      refine r_region ?_
      refine r_op rfl rfl rfl (run_ix (k) rfl Try.underlying22 ty_67 (by exact rfl) (by exact rfl) (by first | exact rfl | omega) (by omega) (hl.addr (i := k) (by omega))) ?_
      obtain ⟨ao6, b6, off6, cap6, hX⟩ := side_atK hl0 (k) (by omega)
      have hA60 := fun (w' : World) (h : Evo w0 w' []) => (hX w' h).1
      have hA6 := hA60 _ hV
      have hR60 := fun (w' : World) (h : Evo w0 w' []) => (hX w' h).2
      have hR6 := hR60 _ hV
      clear hX
      have hbd_hR6 := hR6.bd
      refine r_op rfl rfl rfl (run_ldN rfl ag_67 ty_67 (by exact rfl) rfl hA6) ?_
      refine r_var (zs := [_, _]) (vs := [_, _]) ty_67 (by exact rfl) rfl (by exact rfl) (fun _ => rfl) (by exact rfl) rfl rfl (by exact rfl) ?_
      intro b7 w8 heb7 hEw8 hbb7 hzb7
      have hs_w8 := (hEw8).size
      replace hV := evo_step0 hV hEw8
      replace hl := hl0.now hV
      replace hR6 := hR60 _ hV
      have hAb7 := hbb7.at
      refine r_nil ?_
      refine r_region ?_
      refine r_op rfl rfl rfl (run_mv (v := .int _ _) rfl (by exact rfl)) ?_
      refine r_op rfl rfl rfl (run_fa rfl (by exact rfl) fo_67_0) ?_
      refine r_op rfl rfl rfl (run_ld1 rfl ag_3 (by exact rfl) (hAb7.cell 0 (by exact rfl))) ?_
      refine r_op rfl rfl rfl (run_min rfl (by exact rfl) (by exact rfl)) ?_
      refine r_op rfl rfl rfl (run_max rfl (by exact rfl) (by exact rfl)) ?_
      refine r_op rfl rfl rfl (run_add rfl (by exact rfl) (by exact rfl) (by unfold clampL at *; omega) (by unfold clampL at *; omega)) ?_
      refine r_op rfl rfl rfl (run_asg (v := .int _ _) rfl (by exact rfl)) ?_
      refine r_nil ?_
      refine r_blk ?_
      refine r_region ?_
      refine r_op rfl rfl rfl (run_add rfl (by exact rfl) (by exact rfl) (by omega) (by omega)) ?_
      refine r_op rfl rfl rfl (run_mv (v := .int _ _) rfl (by exact rfl)) ?_
      refine r_nil ?_
      refine r_again (k + 1) ?_ ?_ ?_
      · first | omega | (dsimp only; omega)
      · refine ⟨(by first | exact rfl | exact congrArg (Value.int _) (by omega) | exact congrArg (Value.int _) (by dsimp only; omega) | exact congrArg (Value.int _) (by simp) | exact congrArg S (by simp)), (congrArg (Value.int _) (by rw [hts (by omega)]; unfold clampL; omega)), (by first | assumption | omega | (dsimp only; omega) | (simp; done)), (by first | assumption | omega | (dsimp only; omega) | (simp; done)), hV⟩
      · repeat (first | (with_reducible exact Agree.merge _ _ _) | (with_reducible exact Agree.refl _ _) | (with_reducible refine Agree.upd ?_ _ _ rfl) | ((with_reducible refine Agree.inner ?_ ?_); (kernel_rfl)))
    · skip
      refine r_exit rfl ?_
      refine r_seq ?_
      refine r_region ?_
      refine r_op rfl rfl rfl (run_mv (v := .int _ _) rfl (by exact rfl)) ?_
      refine r_op rfl rfl rfl (run_asg (v := .int _ _) rfl (by exact rfl)) ?_
      refine r_nil ?_
      refine r_ret (res1 (v := .int _ _) rfl (by exact rfl)) ?_
      exact ⟨ret_int (by rw [List.take_of_length_le (by omega)]), hV⟩

theorem anchors_calls {ao : Option Addr} {b off cap : Nat} {l : List Side} {w0 : World} (hl : RowR w0 ao b off cap l) (hs : l.length ≤ 1000) :
    Calls Try.prog 34 #[.slice ao l.length cap] w0 fun e w' => ∃ v, e = .returned v ∧ Evo w0 w' [] ∧ OwnE w' w0.heap.size 9 v (anch l) := by
  refine calls_enter (n := 23) (args := [.slice ao l.length cap]) Try.func34 rfl Try.ntmps34 rfl ?_
  have hV : Evo w0 w0 [] := Evo.refl _ _
  have hl0 := hl.keep
  have hbd_hl := hl.bd
  refine r_seq ?_
  refine r_region ?_
  refine r_op rfl rfl rfl (run_asg (v := .slice _ _ _) rfl (by exact rfl)) ?_
  refine r_nil ?_
  refine r_seq ?_
  refine r_region ?_
  refine r_op rfl rfl rfl (run_asg (v := .slice _ _ _) rfl (by exact rfl)) ?_
  refine r_nil ?_
  refine r_seq ?_
  refine r_seq ?_
  refine r_region ?_
  refine r_op rfl rfl rfl (run_mv (v := .slice _ _ _) rfl (by exact rfl)) ?_
  refine r_op rfl rfl rfl (run_lenSl rfl (by exact rfl) Try.underlying22) ?_
  refine r_op rfl rfl rfl (run_mv (v := .int _ _) rfl (by exact rfl)) ?_
  refine r_nil ?_
  refine r_block ?_
  refine r_loop (α := Nat) [3, 5, 8, 9, 10, 11, 12, 13, 14, 15, 16, 17, 18, 19, 20, 21] (fun k g w => ∃ vo : Value, g 8 = .int .i64 (k : Nat) ∧ g 3 = vo ∧ k ≤ l.length ∧ OwnE w w0.heap.size 9 vo (anch (l.take k)) ∧ w0.heap.size ≤ w.heap.size ∧ Evo w0 w []) (fun k => l.length - k) 0 ?_ ?_
  · refine ⟨_, (by first | exact rfl | exact congrArg (Value.int _) (by omega) | exact congrArg (Value.int _) (by dsimp only; omega) | exact congrArg (Value.int _) (by simp) | exact congrArg S (by simp)), rfl, (by first | assumption | omega | (dsimp only; omega) | (simp; done)), (OwnE.nil _ _ _), (by first | assumption | omega | (dsimp only; omega) | (simp; done)), hV⟩
  · rintro k g w2 ⟨vo, hj3, hj4, hk_k, ho, hzl1, hV⟩
    have hs_w2hV := hV.size
    replace hl := hl0.now hV
    refine r_know (i := 8) (v := .int .i64 (k : Nat)) (by exact hj3) ?_
    refine r_know (i := 3) (v := vo) (by exact hj4) ?_
    have hts := anch_succ l k
    have htb := anch_bd (l.take k)
    simp only [List.length_take] at htb
    refine r_seq ?_
    refine r_region ?_
    refine r_op rfl rfl rfl (run_lss rfl (by exact rfl) (by exact rfl)) ?_
    refine r_nil ?_
    refine r_seq ?_
    refine r_cond (by exact rfl) (fun hc5 => ?_) (fun hc5 => ?_)
    · skip
      refine r_skip ?_
      refine r_seq ?_
      refine r_block ?_
      refine r_seq ?_
      refine r_region ?_
      refine r_op rfl rfl rfl (run_ix (k) rfl Try.underlying22 ty_67 (by exact rfl) (by exact rfl) (by first | exact rfl | omega) (by omega) (hl.addr (i := k) (by omega))) ?_
      obtain ⟨ao6, b6, off6, cap6, hX⟩ := side_atK hl0 (k) (by omega)
      have hA60 := fun (w' : World) (h : Evo w0 w' []) => (hX w' h).1
      have hA6 := hA60 _ hV
      have hR60 := fun (w' : World) (h : Evo w0 w' []) => (hX w' h).2
      have hR6 := hR60 _ hV
      clear hX
      have hbd_hR6 := hR6.bd
      refine r_op rfl rfl rfl (run_ldN rfl ag_67 ty_67 (by exact rfl) rfl hA6) ?_
      have hob7 := fun g hg => (ho.block (g := g) hg).2
      refine r_var (zs := [_, _]) (vs := [_, _]) ty_67 (by exact rfl) rfl (by exact rfl) (fun _ => rfl) (by exact rfl) rfl rfl (by exact rfl) ?_
      intro b8 w9 heb8 hEw9 hbb8 hzb8
      have hs_w9 := (hEw9).size
      replace hV := evo_step0 hV hEw9
      replace hl := hl0.now hV
      replace ho := ho.evo0 hEw9
      replace hR6 := hR60 _ hV
      have hAb8 := hbb8.at
      refine r_nil ?_
      refine r_region ?_
      refine r_op rfl rfl rfl (run_mv (v := vo) rfl (by exact rfl)) ?_
      refine r_op rfl rfl rfl (run_fa rfl (by exact rfl) fo_67_1) ?_
      refine r_op rfl rfl rfl (run_ld1 rfl ag_65 (by exact rfl) (hAb8.cell 1 (by exact rfl))) ?_
      refine r_op rfl rfl rfl (run_fa rfl (by exact rfl) fo_67_1) ?_
      refine r_op rfl rfl rfl (run_ld1 rfl ag_65 (by exact rfl) (hAb8.cell 1 (by exact rfl))) ?_
      refine r_op rfl rfl rfl (run_lenSl rfl (by exact rfl) Try.underlying65) ?_
      refine r_op rfl rfl rfl (run_min rfl (by exact rfl) (by exact rfl)) ?_
      refine r_op rfl rfl rfl (by exact run_slE (0) (min (l.getD k default).anchors.length 512) rfl Try.underlying65 ty_9 (by exact rfl) hR6 lo0 (at1 (by exact rfl) (by omega)) (by first | omega | (simp; omega)) (by first | omega | (simp; omega)) (l' := (l.getD k default).anchors.take 512) (take_min512 _)) ?_
      have hS100 := fun (w' : World) (h : Evo w0 w' []) => ((take_min512 _) ▸ ((hR60 w' h).take (min (l.getD k default).anchors.length 512)).drop (0))
      have hS10 := ((take_min512 _) ▸ (hR6.take (min (l.getD k default).anchors.length 512)).drop (0))
      have hbd_hS10 := hS10.bd
      refine r_appendE rfl Try.underlying65 ty_9 (by exact rfl) ho (by exact rfl) (by exact rfl) hS10 rfl (by simp only [List.length_take] at *; omega) (by simp only [List.length_take] at *; omega) (by omega) ?_
      intro v11 w12 hEw12 hov11 hlv11
      have hs_w12 := (hEw12).size
      replace hV := evo_stepo hV hEw12 (fun g hg => .inl (by first | exact (ho.block hg).1 | (have := ho.block hg; omega)))
      replace hl := hl0.now hV
      refine r_op rfl rfl rfl (run_asg (v := v11) rfl (by exact rfl)) ?_
      refine r_nil ?_
      refine r_blk ?_
      refine r_region ?_
      refine r_op rfl rfl rfl (run_add rfl (by exact rfl) (by exact rfl) (by omega) (by omega)) ?_
      refine r_op rfl rfl rfl (run_mv (v := .int _ _) rfl (by exact rfl)) ?_
      refine r_nil ?_
      refine r_again (k + 1) ?_ ?_ ?_
      · first | omega | (dsimp only; omega)
      · refine ⟨_, (by first | exact rfl | exact congrArg (Value.int _) (by omega) | exact congrArg (Value.int _) (by dsimp only; omega) | exact congrArg (Value.int _) (by simp) | exact congrArg S (by simp)), rfl, (by first | assumption | omega | (dsimp only; omega) | (simp; done)), (by rw [hts (by omega)]; exact hov11), (by first | assumption | omega | (dsimp only; omega) | (simp; done)), hV⟩
      · repeat (first | (with_reducible exact Agree.merge _ _ _) | (with_reducible exact Agree.refl _ _) | (with_reducible refine Agree.upd ?_ _ _ rfl) | ((with_reducible refine Agree.inner ?_ ?_); (kernel_rfl)))
    · skip
      refine r_exit rfl ?_
      refine r_seq ?_
      refine r_region ?_
      refine r_op rfl rfl rfl (run_mv (v := vo) rfl (by exact rfl)) ?_
      refine r_op rfl rfl rfl (run_asg (v := vo) rfl (by exact rfl)) ?_
      refine r_nil ?_
      refine r_ret (res1 (v := vo) rfl (by exact rfl)) ?_
      exact ⟨_, rfl, hV, by rw [List.take_of_length_le (by omega)] at ho; exact ho⟩

theorem measure_calls {ao : Option Addr} {b off cap bm : Nat} {l : List Side} {m : List (Str × Int)} {d c : Int} {w0 : World} (hl : RowRK w0 [bm] ao b off cap l) (hm : MapIs w0 bm S (Value.int .i64) m) (hd : -1 ≤ d ∧ d ≤ 1) (hc : ∀ x, -c ≤ (getM m x).getD 0 ∧ (getM m x).getD 0 ≤ c) (hc2 : c ≤ 1000000000) (hs : l.length ≤ 1000) :
    Calls Try.prog 31 #[.slice ao l.length cap, .map (some bm), .int .i64 d] w0 fun e w' => e = .returned (.int .i64 (lenSum l)) ∧ Evo w0 w' [bm] ∧ MapIs w' bm S (Value.int .i64) (bumps d m (anch l)) := by
  have hbm := hm.lt
  refine calls_enter (n := 44) (args := [.slice ao l.length cap, .map (some bm), .int .i64 d]) Try.func31 rfl Try.ntmps31 rfl ?_
  have hV : Evo w0 w0 [bm] := Evo.refl _ _
  have hl0 := hl
  replace hl := hl0.now hV
  have hbd_hl := hl.bd
  refine r_seq ?_
  refine r_region ?_
  refine r_op rfl rfl rfl (run_asg (v := .int _ _) rfl (by exact rfl)) ?_
  refine r_nil ?_
  refine r_seq ?_
  refine r_region ?_
  refine r_op rfl rfl rfl (run_asg (v := .int _ _) rfl (by exact rfl)) ?_
  refine r_nil ?_
  refine r_seq ?_
  refine r_seq ?_
  refine r_region ?_
  refine r_op rfl rfl rfl (run_mv (v := .slice _ _ _) rfl (by exact rfl)) ?_
  refine r_op rfl rfl rfl (run_lenSl rfl (by exact rfl) Try.underlying22) ?_
  refine r_op rfl rfl rfl (run_mv (v := .int _ _) rfl (by exact rfl)) ?_
  refine r_nil ?_
  refine r_block ?_
  refine r_loop (α := Nat) [7, 9, 11, 14, 15, 16, 17, 18, 19, 20, 21, 22, 23, 24, 25, 26, 27, 28, 29, 30, 31, 32, 33, 34, 35, 36, 37, 38, 39, 40, 41, 42] (fun k g w => g 14 = .int .i64 (k : Nat) ∧ g 7 = .int .i64 (lenSum (l.take k)) ∧ k ≤ l.length ∧ MapIs w bm S (Value.int .i64) (bumps d m (anch (l.take k))) ∧ w0.heap.size ≤ w.heap.size ∧ Evo w0 w [bm]) (fun k => l.length - k) 0 ?_ ?_
  · refine ⟨(by first | exact rfl | exact congrArg (Value.int _) (by omega) | exact congrArg (Value.int _) (by dsimp only; omega) | exact congrArg (Value.int _) (by simp) | exact congrArg S (by simp)), rfl, (by first | assumption | omega | (dsimp only; omega) | (simp; done)), (by first | assumption | omega | (dsimp only; omega) | (simp; done)), (by first | assumption | omega | (dsimp only; omega) | (simp; done)), hV⟩
  · rintro k g w2 ⟨hj3, hj4, hk_k, hm, hzl1, hV⟩
    have hs_w2hV := hV.size
    have hlt5 := hm.lt
    replace hl := hl0.now hV
    refine r_know (i := 14) (v := .int .i64 (k : Nat)) (by exact hj3) ?_
    refine r_know (i := 7) (v := .int .i64 (lenSum (l.take k))) (by exact hj4) ?_
    have hts := lenSum_succ l k
    have htb := lenSum_bd (l.take k)
    have hat := anch_succ l k
    have hab := anch_bd (l.take k)
    simp only [List.length_take] at htb hab
    refine r_seq ?_
    refine r_region ?_
    refine r_op rfl rfl rfl (run_lss rfl (by exact rfl) (by exact rfl)) ?_
    refine r_nil ?_
    refine r_seq ?_
    refine r_cond (by exact rfl) (fun hc6 => ?_) (fun hc6 => ?_)
    · skip
      refine r_skip ?_
      refine r_seq ?_
      refine r_block ?_
      refine r_seq ?_
      refine r_region ?_
      refine r_op rfl rfl rfl (run_ix (k) rfl Try.underlying22 ty_67 (by exact rfl) (by exact rfl) (by first | exact rfl | omega) (by omega) (hl.addr (i := k) (by omega))) ?_
      obtain ⟨ao7, b7, off7, cap7, hX⟩ := side_atK hl0 (k) (by omega)
      have hA70 := fun (w' : World) (h : Evo w0 w' [bm]) => (hX w' h).1
      have hA7 := hA70 _ hV
      have hR70 := fun (w' : World) (h : Evo w0 w' [bm]) => (hX w' h).2
      have hR7 := hR70 _ hV
      clear hX
      have hbd_hR7 := hR7.bd
      refine r_op rfl rfl rfl (run_ldN rfl ag_67 ty_67 (by exact rfl) rfl hA7) ?_
      refine r_var (zs := [_, _]) (vs := [_, _]) ty_67 (by exact rfl) rfl (by exact rfl) (fun _ => rfl) (by exact rfl) rfl rfl (by exact rfl) ?_
      intro b8 w9 heb8 hEw9 hbb8 hzb8
      have hs_w9 := (hEw9).size
      replace hV := evo_step0 hV hEw9
      replace hl := hl0.now hV
      replace hm := hm.evo0 hEw9
      replace hR7 := hR70 _ hV
      have hAb8 := hbb8.at
      refine r_nil ?_
      refine r_seq ?_
      refine r_region ?_
      refine r_op rfl rfl rfl (run_mv (v := .int _ _) rfl (by exact rfl)) ?_
      refine r_op rfl rfl rfl (run_fa rfl (by exact rfl) fo_67_0) ?_
      refine r_op rfl rfl rfl (run_ld1 rfl ag_3 (by exact rfl) (hAb8.cell 0 (by exact rfl))) ?_
      refine r_op rfl rfl rfl (run_min rfl (by exact rfl) (by exact rfl)) ?_
      refine r_op rfl rfl rfl (run_max rfl (by exact rfl) (by exact rfl)) ?_
      refine r_op rfl rfl rfl (run_add rfl (by exact rfl) (by exact rfl) (by unfold clampL at *; omega) (by unfold clampL at *; omega)) ?_
      refine r_op rfl rfl rfl (run_asg (v := .int _ _) rfl (by exact rfl)) ?_
      refine r_nil ?_
      refine r_seq ?_
      refine r_region ?_
      refine r_op rfl rfl rfl (run_fa rfl (by exact rfl) fo_67_1) ?_
      refine r_op rfl rfl rfl (run_ld1 rfl ag_65 (by exact rfl) (hAb8.cell 1 (by exact rfl))) ?_
      refine r_op rfl rfl rfl (run_fa rfl (by exact rfl) fo_67_1) ?_
      refine r_op rfl rfl rfl (run_ld1 rfl ag_65 (by exact rfl) (hAb8.cell 1 (by exact rfl))) ?_
      refine r_op rfl rfl rfl (run_lenSl rfl (by exact rfl) Try.underlying65) ?_
      refine r_op rfl rfl rfl (run_min rfl (by exact rfl) (by exact rfl)) ?_
      refine r_op rfl rfl rfl (by exact run_slE (0) (min (l.getD k default).anchors.length 512) rfl Try.underlying65 ty_9 (by exact rfl) hR7 lo0 (at1 (by exact rfl) (by omega)) (by first | omega | (simp; omega)) (by first | omega | (simp; omega)) (l' := (l.getD k default).anchors.take 512) (take_min512 _)) ?_
      have hS100 := fun (w' : World) (h : Evo w0 w' [bm]) => ((take_min512 _) ▸ ((hR70 w' h).take (min (l.getD k default).anchors.length 512)).drop (0))
      have hS10 := ((take_min512 _) ▸ (hR7.take (min (l.getD k default).anchors.length 512)).drop (0))
      have hbd_hS10 := hS10.bd
      refine r_op rfl rfl rfl (run_lenSl rfl (by exact rfl) Try.underlying65) ?_
      refine r_op rfl rfl rfl (run_mv (v := .int _ _) rfl (by exact rfl)) ?_
      refine r_nil ?_
      refine r_block ?_
      refine r_loop (α := Nat) [11, 32, 33, 34, 35, 36, 37, 38, 39, 40, 41] (fun j g w => g 32 = .int .i64 (j : Nat) ∧ j ≤ ((l.getD k default).anchors.take 512).length ∧ MapIs w bm S (Value.int .i64) (bumps d (bumps d m (anch (l.take k))) (((l.getD k default).anchors.take 512).take j)) ∧ w9.heap.size ≤ w.heap.size ∧ Evo w0 w [bm]) (fun j => ((l.getD k default).anchors.take 512).length - j) 0 ?_ ?_
      · refine ⟨(by first | exact rfl | exact congrArg (Value.int _) (by omega) | exact congrArg (Value.int _) (by dsimp only; omega) | exact congrArg (Value.int _) (by simp) | exact congrArg S (by simp)), (by first | assumption | omega | (dsimp only; omega) | (simp; done)), (by first | assumption | omega | (dsimp only; omega) | (simp; done)), (by first | assumption | omega | (dsimp only; omega) | (simp; done)), hV⟩
      · rintro j g w12 ⟨hj13, hk_j, hm, hzl11, hV⟩
        have hs_w12hV := hV.size
        have hlt14 := hm.lt
        replace hl := hl0.now hV
        replace hA7 := hA70 _ hV
        replace hR7 := hR70 _ hV
        replace hS10 := hS100 _ hV
        refine r_know (i := 32) (v := .int .i64 (j : Nat)) (by exact hj13) ?_
        have hjs := take_succD ((l.getD k default).anchors.take 512) j
        try rw [← bumps_append] at hm
        refine r_seq ?_
        refine r_region ?_
        refine r_op rfl rfl rfl (run_lss rfl (by exact rfl) (by exact rfl)) ?_
        refine r_nil ?_
        refine r_seq ?_
        refine r_cond (by exact rfl) (fun hc15 => ?_) (fun hc15 => ?_)
        · skip
          refine r_skip ?_
          refine r_seq ?_
          refine r_block ?_
          refine r_seq ?_
          refine r_region ?_
          refine r_op rfl rfl rfl (run_ix (j) rfl Try.underlying65 ty_9 (by exact rfl) (by exact rfl) (by first | exact rfl | omega) (by omega) (hS10.addr (i := j) (by omega))) ?_
          have hA160 := fun (w' : World) (h : Evo w0 w' [bm]) => (hS100 w' h).atD (j) (by omega)
          have hA16 := hA160 _ hV
          refine r_op rfl rfl rfl (run_ld1 rfl ag_9 (by exact rfl) (hA16.cell 0 (by exact rfl))) ?_
          refine r_op rfl rfl rfl (run_asg (v := S _) rfl (by exact rfl)) ?_
          refine r_nil ?_
          refine r_region ?_
          refine r_op rfl rfl rfl (run_mv (v := .map _) rfl (by exact rfl)) ?_
          refine r_op rfl rfl rfl (run_mv (v := S _) rfl (by exact rfl)) ?_
          refine r_op rfl rfl rfl (run_lookup1 (a := _) (z := 0) (v := .int _ _) (key_str Try.underlying9) rfl Try.underlying70 ty_3 (by exact rfl) (by exact rfl) hm rfl) ?_
          refine r_op rfl rfl rfl (run_mv (v := .int _ _) rfl (by exact rfl)) ?_
          refine r_op rfl rfl rfl (run_add rfl (by exact rfl) (by exact rfl) (by have := bumps_at hc hd hc2 (anch (l.take k) ++ ((l.getD k default).anchors.take 512).take j) (((l.getD k default).anchors.take 512).getD j default) (by simp only [List.length_append, List.length_take] at *; omega); omega) (by have := bumps_at hc hd hc2 (anch (l.take k) ++ ((l.getD k default).anchors.take 512).take j) (((l.getD k default).anchors.take 512).getD j default) (by simp only [List.length_append, List.length_take] at *; omega); omega)) ?_
          refine r_mapset (a := _) (key_str Try.underlying9) Try.underlying70 (by exact rfl) (by exact rfl) (by exact rfl) hm ?_
          intro w17 hEw17 hzw17 hm_new
          have hs_w17 := (hEw17).size
          replace hV := evo_step1 hV hEw17 (.inr (by simp))
          replace hl := hl0.now hV
          replace hm := hm_new
          clear hm_new
          refine r_nil ?_
          refine r_blk ?_
          refine r_region ?_
          refine r_op rfl rfl rfl (run_add rfl (by exact rfl) (by exact rfl) (by omega) (by omega)) ?_
          refine r_op rfl rfl rfl (run_mv (v := .int _ _) rfl (by exact rfl)) ?_
          refine r_nil ?_
          refine r_again (j + 1) ?_ ?_ ?_
          · first | omega | (dsimp only; omega)
          · refine ⟨(by first | exact rfl | exact congrArg (Value.int _) (by omega) | exact congrArg (Value.int _) (by dsimp only; omega) | exact congrArg (Value.int _) (by simp) | exact congrArg S (by simp)), (by first | assumption | omega | (dsimp only; omega) | (simp; done)), (by rw [hjs (by omega), bumps_append, ← bumps_append _ _ (anch (l.take k))]; exact hm), (by first | assumption | omega | (dsimp only; omega) | (simp; done)), hV⟩
          · repeat (first | (with_reducible exact Agree.merge _ _ _) | (with_reducible exact Agree.refl _ _) | (with_reducible refine Agree.upd ?_ _ _ rfl) | ((with_reducible refine Agree.inner ?_ ?_); (kernel_rfl)))
        · skip
          refine r_exit rfl ?_
          refine r_blk ?_
          refine r_region ?_
          refine r_op rfl rfl rfl (run_add rfl (by exact rfl) (by exact rfl) (by omega) (by omega)) ?_
          refine r_op rfl rfl rfl (run_mv (v := .int _ _) rfl (by exact rfl)) ?_
          refine r_nil ?_
          refine r_again (k + 1) ?_ ?_ ?_
          · first | omega | (dsimp only; omega)
          · refine ⟨(by first | exact rfl | exact congrArg (Value.int _) (by omega) | exact congrArg (Value.int _) (by dsimp only; omega) | exact congrArg (Value.int _) (by simp) | exact congrArg S (by simp)), (congrArg (Value.int _) (by rw [hts (by omega)]; unfold clampL; omega)), (by first | assumption | omega | (dsimp only; omega) | (simp; done)), (by have e := List.take_of_length_le (i := j) (l := (l.getD k default).anchors.take 512) (by omega); rw [e, bumps_append] at hm; rw [hat (by omega), bumps_append]; exact hm), (by first | assumption | omega | (dsimp only; omega) | (simp; done)), hV⟩
          · repeat (first | (with_reducible exact Agree.merge _ _ _) | (with_reducible exact Agree.refl _ _) | (with_reducible refine Agree.upd ?_ _ _ rfl) | ((with_reducible refine Agree.inner ?_ ?_); (kernel_rfl)))
    · skip
      refine r_exit rfl ?_
      refine r_seq ?_
      refine r_region ?_
      refine r_op rfl rfl rfl (run_mv (v := .int _ _) rfl (by exact rfl)) ?_
      refine r_op rfl rfl rfl (run_asg (v := .int _ _) rfl (by exact rfl)) ?_
      refine r_nil ?_
      refine r_ret (res1 (v := .int _ _) rfl (by exact rfl)) ?_
      exact ⟨ret_int (by rw [List.take_of_length_le (by omega)]), hV, by rw [List.take_of_length_le (by omega)] at hm; exact hm⟩

theorem cost_calls {aoa aob : Option Addr} {ba offa capa bb offb capb : Nat} {a b : List Side} {w0 : World} (ha : RowR w0 aoa ba offa capa a) (hb : RowR w0 aob bb offb capb b) :
    Calls Try.prog 14 #[.slice aoa a.length capa, .slice aob b.length capb] w0 fun e w' => e = .returned (.tuple #[.int .i64 (ourCost a b).1, .bool (ourCost a b).2]) ∧ Evo w0 w' [] := by
  refine calls_enter (n := 53) (args := [.slice aoa a.length capa, .slice aob b.length capb]) Try.func14 rfl Try.ntmps14 rfl ?_
  have hV : Evo w0 w0 [] := Evo.refl _ _
  have ha0 := ha.keep
  have hbd_ha := ha.bd
  have hb0 := hb.keep
  have hbd_hb := hb.bd
  refine r_seq ?_
  refine r_region ?_
  refine r_op rfl rfl rfl (run_asg (v := .int _ _) rfl (by exact rfl)) ?_
  refine r_op rfl rfl rfl (run_asg (v := .bool _) rfl (by exact rfl)) ?_
  refine r_nil ?_
  refine r_seq ?_
  refine r_region ?_
  refine r_op rfl rfl rfl (run_mv (v := .slice _ _ _) rfl (by exact rfl)) ?_
  refine r_op rfl rfl rfl (run_lenSl rfl (by exact rfl) Try.underlying22) ?_
  refine r_op rfl rfl rfl (run_mv (v := .slice _ _ _) rfl (by exact rfl)) ?_
  refine r_op rfl rfl rfl (run_lenSl rfl (by exact rfl) Try.underlying22) ?_
  refine r_opcall rfl rfl rfl (run_callf (vs := [.int _ _, .int _ _]) rfl (by exact rfl) Try.func30 rfl (by kernel_rfl)) (base_calls _ _) ?_
  rintro e w1 ⟨rfl, rfl⟩
  refine ⟨_, rfl, ?_⟩
  refine r_op rfl rfl rfl (run_mv (v := .tuple _) rfl (by exact rfl)) ?_
  refine r_op rfl rfl rfl (run_extract (v := .int _ _) rfl (by exact rfl) (by exact rfl)) ?_
  refine r_op rfl rfl rfl (run_extract (v := .bool _) rfl (by exact rfl) (by exact rfl)) ?_
  refine r_op rfl rfl rfl (run_asg (v := .int _ _) rfl (by exact rfl)) ?_
  refine r_op rfl rfl rfl (run_asg (v := .bool _) rfl (by exact rfl)) ?_
  refine r_nil ?_
  refine r_seq ?_
  refine r_seq ?_
  refine r_region ?_
  refine r_op rfl rfl rfl (run_mvb rfl (by exact rfl)) ?_
  refine r_op rfl rfl rfl (run_not rfl (by exact rfl)) ?_
  refine r_nil ?_
  refine r_cond (by exact rfl) (fun hc2 => ?_) (fun hc2 => ?_)
  · skip
    have hok : (baseL a.length b.length).2 = false := by simpa using hc2
    refine r_seq ?_
    refine r_region ?_
    refine r_op rfl rfl rfl (run_asg (v := .int _ _) rfl (by exact rfl)) ?_
    refine r_op rfl rfl rfl (run_asg (v := .bool _) rfl (by exact rfl)) ?_
    refine r_nil ?_
    refine r_ret (res2 (v := .int _ _) (u := .bool _) rfl (by exact rfl) (by exact rfl)) ?_
    exact ⟨by simp [ourCost, hok], hV⟩
  · skip
    have hok : (baseL a.length b.length).2 = true := by simpa using hc2
    have hsml := baseL_small (a := a.length) (b := b.length) hok (by omega) (by omega)
    refine r_skip ?_
    refine r_seq ?_
    refine r_region ?_
    refine r_makeMap (α := Str) (β := Int) S (Value.int .i64) rfl ?_
    intro b3 w4 heb3 hEw4 hmb3 hzb3
    have hs_w4 := (hEw4).size
    replace hV := evo_step0 hV hEw4
    replace ha := ha0.now hV
    replace hb := hb0.now hV
    refine r_op rfl rfl rfl (run_asg (v := .map _) rfl (by exact rfl)) ?_
    refine r_nil ?_
    refine r_seq ?_
    refine r_region ?_
    refine r_op rfl rfl rfl (run_mv (v := .slice _ _ _) rfl (by exact rfl)) ?_
    refine r_op rfl rfl rfl (run_mv (v := .map _) rfl (by exact rfl)) ?_
    refine r_opcall rfl rfl rfl (run_callf (vs := [.slice _ _ _, .map _, .int _ _]) rfl (by exact rfl) Try.func31 rfl (by kernel_rfl)) (measure_calls (ha0.pass hV (by intro x hx; simp at hx; subst hx; exact .inl (by omega))) hmb3 (by omega) (c := 0) (by intro x; simp [getM]) (by omega) (by omega)) ?_
    rintro e w5 ⟨rfl, hE5, hn5⟩
    refine ⟨_, rfl, ?_⟩
    have hs_w5 := (hE5).size
    replace hV := evo_step1 hV hE5 (by first | exact .inl (by omega) | exact .inr (by simp))
    replace ha := ha0.now hV
    replace hb := hb0.now hV
    replace hmb3 := hn5
    clear hn5
    refine r_op rfl rfl rfl (run_mv (v := .slice _ _ _) rfl (by exact rfl)) ?_
    refine r_op rfl rfl rfl (run_mv (v := .map _) rfl (by exact rfl)) ?_
    refine r_opcall rfl rfl rfl (run_callf (vs := [.slice _ _ _, .map _, .int _ _]) rfl (by exact rfl) Try.func31 rfl (by kernel_rfl)) (measure_calls (hb0.pass hV (by intro x hx; simp at hx; subst hx; exact .inl (by omega))) hmb3 (by omega) (c := 1000000) (by intro x; rw [getM_bumps]; have := timesL_bd (anch a) x; have := anch_bd a; simp [getM]; omega) (by omega) (by omega)) ?_
    rintro e w6 ⟨rfl, hE6, hn6⟩
    refine ⟨_, rfl, ?_⟩
    have hs_w6 := (hE6).size
    replace hV := evo_step1 hV hE6 (by first | exact .inl (by omega) | exact .inr (by simp))
    replace ha := ha0.now hV
    replace hb := hb0.now hV
    replace hmb3 := hn6
    clear hn6
    refine r_op rfl rfl rfl (run_asg (v := .int _ _) rfl (by exact rfl)) ?_
    refine r_op rfl rfl rfl (run_asg (v := .int _ _) rfl (by exact rfl)) ?_
    refine r_nil ?_
    refine r_seq ?_
    refine r_seq ?_
    refine r_region ?_
    refine r_op rfl rfl rfl (run_mv (v := .map _) rfl (by exact rfl)) ?_
    refine r_range rfl Try.underlying70 (by exact rfl) hmb3 ?_
    intro r7 w8 her7 hEw8 hir7 hzr7
    have hs_w8 := (hEw8).size
    replace hV := evo_step0 hV hEw8
    replace ha := ha0.now hV
    replace hb := hb0.now hV
    replace hmb3 := hmb3.evo0 hEw8
    refine r_nil ?_
    refine r_block ?_
    refine r_loop (α := List (Str × Int)) [6, 12, 32, 33, 34, 35, 36, 37, 38, 39, 40, 41, 42] (fun left g w => ∃ la : Option (Str × Int), g 6 = .int .i64 ((baseL a.length b.length).1 + 30 * (absSum (bumps (-1) (bumps 1 [] (anch a)) (anch b)) - absSum left)) ∧ IterIs w r7 b3 S (Value.int .i64) (bumps (-1) (bumps 1 [] (anch a)) (anch b)) left la ∧ absSum left ≤ absSum (bumps (-1) (bumps 1 [] (anch a)) (anch b)) ∧ w0.heap.size ≤ r7 ∧ w8.heap.size ≤ w.heap.size ∧ Evo w0 w []) (fun left => left.length) (bumps (-1) (bumps 1 [] (anch a)) (anch b)) ?_ ?_
    · refine ⟨_, (by first | exact rfl | exact congrArg (Value.int _) (by omega) | exact congrArg (Value.int _) (by dsimp only; omega) | exact congrArg (Value.int _) (by simp) | exact congrArg S (by simp)), (by first | assumption | omega | (dsimp only; omega) | (simp; done)), (by first | assumption | omega | (dsimp only; omega) | (simp; done)), (by first | assumption | omega | (dsimp only; omega) | (simp; done)), (by first | assumption | omega | (dsimp only; omega) | (simp; done)), hV⟩
    · rintro left g w10 ⟨la, hj11, hir7, hle, hrl, hzl9, hV⟩
      have hs_w10hV := hV.size
      replace ha := ha0.now hV
      replace hb := hb0.now hV
      refine r_know (i := 6) (v := .int .i64 ((baseL a.length b.length).1 + 30 * (absSum (bumps (-1) (bumps 1 [] (anch a)) (anch b)) - absSum left))) (by exact hj11) ?_
      have hnn := absSum_nonneg left
      have hsm := absSum_miss (anch a) (anch b)
      have hm1 := missL_bd (anch a) (anch b)
      have hm2 := missL_bd (anch b) (anch a)
      have ha1 := anch_bd a
      have hb1 := anch_bd b
      have hla := lenSum_bd a
      have hlb := lenSum_bd b
      have hbb := baseL_bd a.length b.length
      refine r_seq ?_
      refine r_region ?_
      refine r_next rfl (by exact rfl) hir7 (fun hn12 => ?_) (fun l1_12 p12 l2_12 w12 hl12 hE12 hz12 hi_new => ?_)
      · skip
        subst hn12
        refine r_op rfl rfl rfl (run_extract (v := .bool _) rfl (by exact rfl) (by exact rfl)) ?_
        refine r_nil ?_
        refine r_seq ?_
        refine r_cond_no (by exact rfl) ?_
        refine r_exit rfl ?_
        refine r_seq ?_
        refine r_region ?_
        refine r_op rfl rfl rfl (run_mv (v := .int _ _) rfl (by exact rfl)) ?_
        refine r_op rfl rfl rfl (run_mv (v := .int _ _) rfl (by exact rfl)) ?_
        refine r_op rfl rfl rfl (run_mv (v := .int _ _) rfl (by exact rfl)) ?_
        refine r_op rfl rfl rfl (run_sub rfl (by exact rfl) (by exact rfl) (by omega) (by omega)) ?_
        refine r_op rfl rfl rfl (run_mv (v := .int _ _) rfl (by exact rfl)) ?_
        refine r_op rfl rfl rfl (run_mv (v := .int _ _) rfl (by exact rfl)) ?_
        refine r_op rfl rfl rfl (run_sub rfl (by exact rfl) (by exact rfl) (by omega) (by omega)) ?_
        refine r_op rfl rfl rfl (run_max rfl (by exact rfl) (by exact rfl)) ?_
        refine r_op rfl rfl rfl (run_mul rfl (by exact rfl) (by exact rfl) (by omega) (by omega)) ?_
        refine r_op rfl rfl rfl (run_add rfl (by exact rfl) (by exact rfl) (by omega) (by omega)) ?_
        refine r_op rfl rfl rfl (run_asg (v := .int _ _) rfl (by exact rfl)) ?_
        refine r_op rfl rfl rfl (run_asg (v := .bool _) rfl (by exact rfl)) ?_
        refine r_nil ?_
        refine r_ret (res2 (v := .int _ _) (u := .bool _) rfl (by exact rfl) (by exact rfl)) ?_
        exact ⟨by simp [ourCost, hok, absSum], hV⟩
      · skip
        have hs_w12 := (hE12).size
        replace hV := evo_step1 hV hE12 (by first | exact .inl (by omega) | exact .inr (by simp))
        replace ha := ha0.now hV
        replace hb := hb0.now hV
        replace hir7 := hi_new
        clear hi_new
        have hsp := absSum_split l1_12 p12 l2_12
        rw [← hl12] at hsp
        have hnn2 := absSum_nonneg (l1_12 ++ l2_12)
        refine r_op rfl rfl rfl (run_extract (v := .bool _) rfl (by exact rfl) (by exact rfl)) ?_
        refine r_nil ?_
        refine r_seq ?_
        refine r_cond_yes (by exact rfl) ?_
        refine r_skip ?_
        refine r_block ?_
        refine r_seq ?_
        refine r_region ?_
        refine r_op rfl rfl rfl (run_entryI rfl (by exact rfl) hir7) ?_
        refine r_op rfl rfl rfl (run_extract (v := .int _ _) rfl (by exact rfl) (by exact rfl)) ?_
        refine r_op rfl rfl rfl (run_asg (v := .int _ _) rfl (by exact rfl)) ?_
        refine r_nil ?_
        refine r_region ?_
        refine r_op rfl rfl rfl (run_mv (v := .int _ _) rfl (by exact rfl)) ?_
        refine r_op rfl rfl rfl (run_mv (v := .int _ _) rfl (by exact rfl)) ?_
        refine r_op rfl rfl rfl (run_mv (v := .int _ _) rfl (by exact rfl)) ?_
        refine r_op rfl rfl rfl (run_neg rfl (by exact rfl) (by omega) (by omega)) ?_
        refine r_op rfl rfl rfl (run_max rfl (by exact rfl) (by exact rfl)) ?_
        refine r_op rfl rfl rfl (run_mul rfl (by exact rfl) (by exact rfl) (by omega) (by omega)) ?_
        refine r_op rfl rfl rfl (run_add rfl (by exact rfl) (by exact rfl) (by omega) (by omega)) ?_
        refine r_op rfl rfl rfl (run_asg (v := .int _ _) rfl (by exact rfl)) ?_
        refine r_nil ?_
        refine r_blk ?_
        refine r_again (l1_12 ++ l2_12) ?_ ?_ ?_
        · rw [hl12]; simp
        · refine ⟨_, (congrArg (Value.int _) (by omega)), (by first | assumption | omega | (dsimp only; omega) | (simp; done)), (by first | assumption | omega | (dsimp only; omega) | (simp; done)), (by first | assumption | omega | (dsimp only; omega) | (simp; done)), (by first | assumption | omega | (dsimp only; omega) | (simp; done)), hV⟩
        · repeat (first | (with_reducible exact Agree.merge _ _ _) | (with_reducible exact Agree.refl _ _) | (with_reducible refine Agree.upd ?_ _ _ rfl) | ((with_reducible refine Agree.inner ?_ ?_); (kernel_rfl)))

end Go.Proofs.Ythfahceagabhiaa
