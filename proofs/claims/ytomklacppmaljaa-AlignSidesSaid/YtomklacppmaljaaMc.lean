/-
  Walks of functions that the statement reaches (joined by a program out of smaller texts).
-/
import Derived.Test.YtomklacppmaljaaMb
import Derived.Test.YtomklacppmaljaaPa
import Derived.Test.YtomklacppmaljaaPc
import Derived.Test.YtomklacppmaljaaPr
import Derived.Test.YtomklacppmaljaaPm
import Derived.Test.YtomklacppmaljaaPh
import Derived.Test.YtomklacppmaljaaShf
namespace Go.Proofs.Ytomklacppmaljaa
open Go.RowKit Go.Vc
theorem ag_149 : aggP Try.prog 149 = some true := by kernel_rfl
theorem ag_34 : aggP Try.prog 34 = some false := by kernel_rfl
theorem fo_149_0 : fieldP Try.prog 149 0 = some 0 := by kernel_rfl
theorem fo_149_1 : fieldP Try.prog 149 1 = some 1 := by kernel_rfl
theorem ty_149 : tyP Try.prog 149 = some (2, 32, some (.agg #[(.int .i64 0), (.slice none 0 0)])) := by kernel_rfl
theorem take_min512 {α : Type} (l : List α) : (l.take (min l.length 512)).drop 0 = l.take 512 := by
  rw [List.drop_zero, Nat.min_comm, ← List.take_eq_take_min]

theorem base_calls (a b : Int) {w0 : World}  :
    Calls Try.prog 137 #[.int .i64 a, .int .i64 b] w0 fun e w' => e = .returned (.tuple #[.int .i64 (baseL a b).1, .bool (baseL a b).2]) ∧ w0 = w' := by
 refine calls_enter (n := 50) (args := [.int .i64 a, .int .i64 b]) Try.func137 rfl Try.ntmps137 rfl ?_
 have hV : Evo w0 w0 [] := Evo.refl _ _
 refine r_seq ?_
 refine r_region ?_
 refine r_op rfl rfl rfl (run_asg (v := .int _ _) rfl (by exact rfl)) ?_
 refine r_op rfl rfl rfl (run_asg (v := .bool _) rfl (by exact rfl)) ?_
 refine r_nil ?_
 refine r_seq ?_
 refine r_block ?_
 refine r_seq ?_
 refine r_region ?_
 refine r_op rfl rfl rfl (run_mv (v := .int _ _) rfl (by exact rfl)) ?_
 refine r_op rfl rfl rfl (run_eql rfl (by exact rfl) (by exact rfl)) ?_
 refine r_op rfl rfl rfl (run_mv (v := .bool _) rfl (by exact rfl)) ?_
 refine r_g rfl (wantT (by exact rfl)) rfl (fun hg => run_mv (v := .int _ _) rfl (by exact rfl)) ?_
 refine r_g rfl (wantT (by exact rfl)) rfl (fun hg => run_eql rfl (glv (by exact rfl) (fun h => h) hg) (by exact rfl)) ?_
 refine r_op rfl rfl rfl (run_pick_and rfl (by exact rfl) (fun hq => glv (by exact rfl) (fun h => h) hq) rfl) ?_
 refine r_op rfl rfl rfl (run_asg (v := .bool _) rfl (by exact rfl)) ?_
 refine r_nil ?_
 refine r_cond (by exact rfl) (fun hc1 => ?_) (fun hc1 => ?_)
 ·skip
  refine r_seq ?_
  refine r_region ?_
  refine r_op rfl rfl rfl (run_asg (v := .int _ _) rfl (by exact rfl)) ?_
  refine r_op rfl rfl rfl (run_asg (v := .bool _) rfl (by exact rfl)) ?_
  refine r_nil ?_
  refine r_ret (res2 (v := .int _ _) (u := .bool _) rfl (by exact rfl) (by exact rfl)) ?_
  exact ⟨by first | (simp only [baseL, *, ↓reduceIte]; done) | (simp_all [baseL]; done), rfl⟩
 ·skip
  refine r_seq ?_
  refine r_region ?_
  refine r_op rfl rfl rfl (run_mv (v := .int _ _) rfl (by exact rfl)) ?_
  refine r_op rfl rfl rfl (run_eql rfl (by exact rfl) (by exact rfl)) ?_
  refine r_op rfl rfl rfl (run_mv (v := .bool _) rfl (by exact rfl)) ?_
  refine r_g rfl (wantT (by exact rfl)) rfl (fun hg => run_mv (v := .int _ _) rfl (by exact rfl)) ?_
  refine r_g rfl (wantT (by exact rfl)) rfl (fun hg => run_eql rfl (glv (by exact rfl) (fun h => h) hg) (by exact rfl)) ?_
  refine r_op rfl rfl rfl (run_pick_and rfl (by exact rfl) (fun hq => glv (by exact rfl) (fun h => h) hq) rfl) ?_
  refine r_op rfl rfl rfl (run_mv (v := .bool _) rfl (by exact rfl)) ?_
  refine r_g rfl (wantF (by exact rfl)) rfl (fun hg => run_mv (v := .int _ _) rfl (by exact rfl)) ?_
  refine r_g rfl (wantF (by exact rfl)) rfl (fun hg => run_eql rfl (glv (by exact rfl) (fun h => h) hg) (by exact rfl)) ?_
  refine r_g rfl (wantF (by exact rfl)) rfl (fun hg => run_mv (v := .bool _) rfl (glv (by exact rfl) (fun h => h) hg)) ?_
  refine r_g rfl (wantTg (by exact rfl)) rfl (fun hg => run_mv (v := .int _ _) rfl (by exact rfl)) ?_
  refine r_g rfl (wantTg (by exact rfl)) rfl (fun hg => run_eql rfl (glv (by exact rfl) (fun h => h) hg) (by exact rfl)) ?_
  refine r_g rfl (wantF (by exact rfl)) rfl (fun hg => run_pick_and rfl (glv (by exact rfl) (fun h => h) hg) (fun hq => glv (by exact rfl) (fun h => h) (And.intro hg hq)) rfl) ?_
  refine r_op rfl rfl rfl (run_pick_or rfl (by exact rfl) rfl (fun hq => glv (by exact rfl) (fun h => h) hq)) ?_
  refine r_op rfl rfl rfl (run_asg (v := .bool _) rfl (by exact rfl)) ?_
  refine r_nil ?_
  refine r_cond (by exact rfl) (fun hc2 => ?_) (fun hc2 => ?_)
  ·skip
   refine r_seq ?_
   refine r_region ?_
   refine r_op rfl rfl rfl (run_asg (v := .int _ _) rfl (by exact rfl)) ?_
   refine r_op rfl rfl rfl (run_asg (v := .bool _) rfl (by exact rfl)) ?_
   refine r_nil ?_
   refine r_ret (res2 (v := .int _ _) (u := .bool _) rfl (by exact rfl) (by exact rfl)) ?_
   exact ⟨by first | (simp only [baseL, *, ↓reduceIte]; done) | (simp_all [baseL]; done), rfl⟩
  ·skip
   refine r_seq ?_
   refine r_region ?_
   refine r_op rfl rfl rfl (run_mv (v := .int _ _) rfl (by exact rfl)) ?_
   refine r_op rfl rfl rfl (run_eql rfl (by exact rfl) (by exact rfl)) ?_
   refine r_op rfl rfl rfl (run_mv (v := .bool _) rfl (by exact rfl)) ?_
   refine r_g rfl (wantT (by exact rfl)) rfl (fun hg => run_mv (v := .int _ _) rfl (by exact rfl)) ?_
   refine r_g rfl (wantT (by exact rfl)) rfl (fun hg => run_eql rfl (glv (by exact rfl) (fun h => h) hg) (by exact rfl)) ?_
   refine r_op rfl rfl rfl (run_pick_and rfl (by exact rfl) (fun hq => glv (by exact rfl) (fun h => h) hq) rfl) ?_
   refine r_op rfl rfl rfl (run_asg (v := .bool _) rfl (by exact rfl)) ?_
   refine r_nil ?_
   refine r_cond (by exact rfl) (fun hc3 => ?_) (fun hc3 => ?_)
   ·skip
    refine r_seq ?_
    refine r_region ?_
    refine r_op rfl rfl rfl (run_asg (v := .int _ _) rfl (by exact rfl)) ?_
    refine r_op rfl rfl rfl (run_asg (v := .bool _) rfl (by exact rfl)) ?_
    refine r_nil ?_
    refine r_ret (res2 (v := .int _ _) (u := .bool _) rfl (by exact rfl) (by exact rfl)) ?_
    exact ⟨by first | (simp only [baseL, *, ↓reduceIte]; done) | (simp_all [baseL]; done), rfl⟩
   ·skip
    refine r_seq ?_
    refine r_region ?_
    refine r_op rfl rfl rfl (run_mv (v := .int _ _) rfl (by exact rfl)) ?_
    refine r_op rfl rfl rfl (run_eql rfl (by exact rfl) (by exact rfl)) ?_
    refine r_op rfl rfl rfl (run_mv (v := .bool _) rfl (by exact rfl)) ?_
    refine r_g rfl (wantT (by exact rfl)) rfl (fun hg => run_mv (v := .int _ _) rfl (by exact rfl)) ?_
    refine r_g rfl (wantT (by exact rfl)) rfl (fun hg => run_eql rfl (glv (by exact rfl) (fun h => h) hg) (by exact rfl)) ?_
    refine r_op rfl rfl rfl (run_pick_and rfl (by exact rfl) (fun hq => glv (by exact rfl) (fun h => h) hq) rfl) ?_
    refine r_op rfl rfl rfl (run_mv (v := .bool _) rfl (by exact rfl)) ?_
    refine r_g rfl (wantF (by exact rfl)) rfl (fun hg => run_mv (v := .int _ _) rfl (by exact rfl)) ?_
    refine r_g rfl (wantF (by exact rfl)) rfl (fun hg => run_eql rfl (glv (by exact rfl) (fun h => h) hg) (by exact rfl)) ?_
    refine r_g rfl (wantF (by exact rfl)) rfl (fun hg => run_mv (v := .bool _) rfl (glv (by exact rfl) (fun h => h) hg)) ?_
    refine r_g rfl (wantTg (by exact rfl)) rfl (fun hg => run_mv (v := .int _ _) rfl (by exact rfl)) ?_
    refine r_g rfl (wantTg (by exact rfl)) rfl (fun hg => run_eql rfl (glv (by exact rfl) (fun h => h) hg) (by exact rfl)) ?_
    refine r_g rfl (wantF (by exact rfl)) rfl (fun hg => run_pick_and rfl (glv (by exact rfl) (fun h => h) hg) (fun hq => glv (by exact rfl) (fun h => h) (And.intro hg hq)) rfl) ?_
    refine r_op rfl rfl rfl (run_pick_or rfl (by exact rfl) rfl (fun hq => glv (by exact rfl) (fun h => h) hq)) ?_
    refine r_op rfl rfl rfl (run_asg (v := .bool _) rfl (by exact rfl)) ?_
    refine r_nil ?_
    refine r_cond (by exact rfl) (fun hc4 => ?_) (fun hc4 => ?_)
    ·skip
     refine r_seq ?_
     refine r_region ?_
     refine r_op rfl rfl rfl (run_asg (v := .int _ _) rfl (by exact rfl)) ?_
     refine r_op rfl rfl rfl (run_asg (v := .bool _) rfl (by exact rfl)) ?_
     refine r_nil ?_
     refine r_ret (res2 (v := .int _ _) (u := .bool _) rfl (by exact rfl) (by exact rfl)) ?_
     exact ⟨by first | (simp only [baseL, *, ↓reduceIte]; done) | (simp_all [baseL]; done), rfl⟩
    ·skip
     refine r_skip ?_
     refine r_blk ?_
     refine r_seq ?_
     refine r_region ?_
     refine r_op rfl rfl rfl (run_asg (v := .int _ _) rfl (by exact rfl)) ?_
     refine r_op rfl rfl rfl (run_asg (v := .bool _) rfl (by exact rfl)) ?_
     refine r_nil ?_
     refine r_ret (res2 (v := .int _ _) (u := .bool _) rfl (by exact rfl) (by exact rfl)) ?_
     exact ⟨by first | (simp only [baseL, *, ↓reduceIte]; done) | (simp_all [baseL]; done), rfl⟩

theorem measure_calls {ao : Option Addr} {b off cap bm : Nat} {l : List Side} {m : List (Str × Int)} {d c : Int} {w0 : World} (hl : RowRK w0 [bm] ao b off cap l) (hm : MapIs w0 bm S (Value.int .i64) m) (hd : -1 ≤ d ∧ d ≤ 1) (hc : ∀ x, -c ≤ (getM m x).getD 0 ∧ (getM m x).getD 0 ≤ c) (hc2 : c ≤ 1000000000) (hs : l.length ≤ 1000) :
    Calls Try.prog 138 #[.slice ao l.length cap, .map (some bm), .int .i64 d] w0 fun e w' => e = .returned (.int .i64 (lenSum l)) ∧ Evo w0 w' [bm] ∧ MapIs w' bm S (Value.int .i64) (bumps d m (anch l)) := by
 have hbm := hm.lt
 refine calls_enter (n := 44) (args := [.slice ao l.length cap, .map (some bm), .int .i64 d]) Try.func138 rfl Try.ntmps138 rfl ?_
 have hV : Evo w0 w0 [bm] := Evo.refl _ _
 have hl0 := hl
 replace hl := hl0.now hV
 have hbd_hl := hl.bd
 refine r_seq ?_
 refine r_region ?_
 refine r_op rfl rfl rfl (run_asg (v := .int _ _) rfl (by exact rfl)) ?_
 refine r_nil ?_
 refine r_seq ?_
 refine r_region ?_
 refine r_op rfl rfl rfl (run_asg (v := .int _ _) rfl (by exact rfl)) ?_
 refine r_nil ?_
 refine r_seq ?_
 refine r_seq ?_
 refine r_region ?_
 refine r_op rfl rfl rfl (run_mv (v := .slice _ _ _) rfl (by exact rfl)) ?_
 refine r_op rfl rfl rfl (run_lenSl rfl (by exact rfl) Try.underlying92) ?_
 refine r_op rfl rfl rfl (run_mv (v := .int _ _) rfl (by exact rfl)) ?_
 refine r_nil ?_
 refine r_block ?_
 refine r_loop (α := Nat) [7, 9, 11, 14, 15, 16, 17, 18, 19, 20, 21, 22, 23, 24, 25, 26, 27, 28, 29, 30, 31, 32, 33, 34, 35, 36, 37, 38, 39, 40, 41, 42] (fun k g w => g 14 = .int .i64 (k : Nat) ∧ g 7 = .int .i64 (lenSum (l.take k)) ∧ k ≤ l.length ∧ MapIs w bm S (Value.int .i64) (bumps d m (anch (l.take k))) ∧ w0.heap.size ≤ w.heap.size ∧ Evo w0 w [bm]) (fun k => l.length - k) 0 ?_ ?_
 ·refine ⟨(by first | exact rfl | exact congrArg (Value.int _) (by omega) | exact congrArg (Value.int _) (by dsimp only; omega) | exact congrArg (Value.int _) (by simp) | exact congrArg S (by simp)), rfl, (by first | assumption | omega | (dsimp only; omega) | (simp; done)), (by first | assumption | omega | (dsimp only; omega) | (simp; done)), (by first | assumption | omega | (dsimp only; omega) | (simp; done)), hV⟩
 ·rintro k g w2 ⟨hj3, hj4, hk_k, hm, hzl1, hV⟩
  have hs_w2hV := hV.size
  have hlt5 := hm.lt
  replace hl := hl0.now hV
  refine r_know (i := 14) (v := .int .i64 (k : Nat)) (by exact hj3) ?_
  refine r_know (i := 7) (v := .int .i64 (lenSum (l.take k))) (by exact hj4) ?_
  have hts := lenSum_succ l k
  have htb := lenSum_bd (l.take k)
  have hat := anch_succ l k
  have hab := anch_bd (l.take k)
  simp only [List.length_take] at htb hab
  refine r_seq ?_
  refine r_region ?_
  refine r_op rfl rfl rfl (run_lss rfl (by exact rfl) (by exact rfl)) ?_
  refine r_nil ?_
  refine r_seq ?_
  refine r_cond (by exact rfl) (fun hc6 => ?_) (fun hc6 => ?_)
  ·skip
   refine r_skip ?_
   refine r_seq ?_
   refine r_block ?_
   refine r_seq ?_
   refine r_region ?_
   refine r_op rfl rfl rfl (run_ix (k) rfl Try.underlying92 ty_149 (by exact rfl) (by exact rfl) (by first | exact rfl | omega) (by omega) (hl.addr (i := k) (by omega))) ?_
   obtain ⟨ao7, b7, off7, cap7, hX⟩ := side_atK hl0 (k) (by omega)
   have hA70 := fun (w' : World) (h : Evo w0 w' [bm]) => (hX w' h).1
   have hA7 := hA70 _ hV
   have hR70 := fun (w' : World) (h : Evo w0 w' [bm]) => (hX w' h).2
   have hR7 := hR70 _ hV
   clear hX
   have hbd_hR7 := hR7.bd
   refine r_op rfl rfl rfl (run_ldN rfl ag_149 ty_149 (by exact rfl) rfl hA7) ?_
   refine r_var (zs := [_, _]) (vs := [_, _]) ty_149 (by exact rfl) rfl (by exact rfl) (fun _ => rfl) (by exact rfl) rfl rfl (by exact rfl) ?_
   intro b8 w9 heb8 hEw9 hbb8 hzb8
   have hs_w9 := (hEw9).size
   replace hV := evo_step0 hV hEw9
   replace hl := hl0.now hV
   replace hm := hm.evo0 hEw9
   replace hR7 := hR70 _ hV
   have hAb8 := hbb8.at
   refine r_nil ?_
   refine r_seq ?_
   refine r_region ?_
   refine r_op rfl rfl rfl (run_mv (v := .int _ _) rfl (by exact rfl)) ?_
   refine r_op rfl rfl rfl (run_fa rfl (by exact rfl) fo_149_0) ?_
   refine r_op rfl rfl rfl (run_ld1 rfl ag_3 (by exact rfl) (hAb8.cell 0 (by exact rfl))) ?_
   refine r_op rfl rfl rfl (run_min rfl (by exact rfl) (by exact rfl)) ?_
   refine r_op rfl rfl rfl (run_max rfl (by exact rfl) (by exact rfl)) ?_
   refine r_op rfl rfl rfl (run_add rfl (by exact rfl) (by exact rfl) (by unfold clampL at *; omega) (by unfold clampL at *; omega)) ?_
   refine r_op rfl rfl rfl (run_asg (v := .int _ _) rfl (by exact rfl)) ?_
   refine r_nil ?_
   refine r_seq ?_
   refine r_region ?_
   refine r_op rfl rfl rfl (run_fa rfl (by exact rfl) fo_149_1) ?_
   refine r_op rfl rfl rfl (run_ld1 rfl ag_34 (by exact rfl) (hAb8.cell 1 (by exact rfl))) ?_
   refine r_op rfl rfl rfl (run_fa rfl (by exact rfl) fo_149_1) ?_
   refine r_op rfl rfl rfl (run_ld1 rfl ag_34 (by exact rfl) (hAb8.cell 1 (by exact rfl))) ?_
   refine r_op rfl rfl rfl (run_lenSl rfl (by exact rfl) Try.underlying34) ?_
   refine r_op rfl rfl rfl (run_min rfl (by exact rfl) (by exact rfl)) ?_
   refine r_op rfl rfl rfl (by exact run_slE (0) (min (l.getD k default).anchors.length 512) rfl Try.underlying34 ty_9 (by exact rfl) hR7 lo0 (at1 (by exact rfl) (by omega)) (by first | omega | (simp; omega)) (by first | omega | (simp; omega)) (l' := (l.getD k default).anchors.take 512) (take_min512 _)) ?_
   have hS100 := fun (w' : World) (h : Evo w0 w' [bm]) => ((take_min512 _) ▸ ((hR70 w' h).take (min (l.getD k default).anchors.length 512)).drop (0))
   have hS10 := ((take_min512 _) ▸ (hR7.take (min (l.getD k default).anchors.length 512)).drop (0))
   have hbd_hS10 := hS10.bd
   refine r_op rfl rfl rfl (run_lenSl rfl (by exact rfl) Try.underlying34) ?_
   refine r_op rfl rfl rfl (run_mv (v := .int _ _) rfl (by exact rfl)) ?_
   refine r_nil ?_
   refine r_block ?_
   refine r_loop (α := Nat) [11, 32, 33, 34, 35, 36, 37, 38, 39, 40, 41] (fun j g w => g 32 = .int .i64 (j : Nat) ∧ j ≤ ((l.getD k default).anchors.take 512).length ∧ MapIs w bm S (Value.int .i64) (bumps d (bumps d m (anch (l.take k))) (((l.getD k default).anchors.take 512).take j)) ∧ w9.heap.size ≤ w.heap.size ∧ Evo w0 w [bm]) (fun j => ((l.getD k default).anchors.take 512).length - j) 0 ?_ ?_
   ·refine ⟨(by first | exact rfl | exact congrArg (Value.int _) (by omega) | exact congrArg (Value.int _) (by dsimp only; omega) | exact congrArg (Value.int _) (by simp) | exact congrArg S (by simp)), (by first | assumption | omega | (dsimp only; omega) | (simp; done)), (by first | assumption | omega | (dsimp only; omega) | (simp; done)), (by first | assumption | omega | (dsimp only; omega) | (simp; done)), hV⟩
   ·rintro j g w12 ⟨hj13, hk_j, hm, hzl11, hV⟩
    have hs_w12hV := hV.size
    have hlt14 := hm.lt
    replace hl := hl0.now hV
    replace hA7 := hA70 _ hV
    replace hR7 := hR70 _ hV
    replace hS10 := hS100 _ hV
    refine r_know (i := 32) (v := .int .i64 (j : Nat)) (by exact hj13) ?_
    have hjs := take_succD ((l.getD k default).anchors.take 512) j
    try rw [← bumps_append] at hm
    refine r_seq ?_
    refine r_region ?_
    refine r_op rfl rfl rfl (run_lss rfl (by exact rfl) (by exact rfl)) ?_
    refine r_nil ?_
    refine r_seq ?_
    refine r_cond (by exact rfl) (fun hc15 => ?_) (fun hc15 => ?_)
    ·skip
     refine r_skip ?_
     refine r_seq ?_
     refine r_block ?_
     refine r_seq ?_
     refine r_region ?_
     refine r_op rfl rfl rfl (run_ix (j) rfl Try.underlying34 ty_9 (by exact rfl) (by exact rfl) (by first | exact rfl | omega) (by omega) (hS10.addr (i := j) (by omega))) ?_
     have hA160 := fun (w' : World) (h : Evo w0 w' [bm]) => (hS100 w' h).atD (j) (by omega)
     have hA16 := hA160 _ hV
     refine r_op rfl rfl rfl (run_ld1 rfl ag_9 (by exact rfl) (hA16.cell 0 (by exact rfl))) ?_
     refine r_op rfl rfl rfl (run_asg (v := S _) rfl (by exact rfl)) ?_
     refine r_nil ?_
     refine r_region ?_
     refine r_op rfl rfl rfl (run_mv (v := .map _) rfl (by exact rfl)) ?_
     refine r_op rfl rfl rfl (run_mv (v := S _) rfl (by exact rfl)) ?_
     refine r_op rfl rfl rfl (run_lookup1 (a := _) (z := 0) (v := .int _ _) (key_str Try.underlying9) rfl Try.underlying183 ty_3 (by exact rfl) (by exact rfl) hm rfl) ?_
     refine r_op rfl rfl rfl (run_mv (v := .int _ _) rfl (by exact rfl)) ?_
     refine r_op rfl rfl rfl (run_add rfl (by exact rfl) (by exact rfl) (by have := bumps_at hc hd hc2 (anch (l.take k) ++ ((l.getD k default).anchors.take 512).take j) (((l.getD k default).anchors.take 512).getD j default) (by simp only [List.length_append, List.length_take] at *; omega); omega) (by have := bumps_at hc hd hc2 (anch (l.take k) ++ ((l.getD k default).anchors.take 512).take j) (((l.getD k default).anchors.take 512).getD j default) (by simp only [List.length_append, List.length_take] at *; omega); omega)) ?_
     refine r_mapset (a := _) (key_str Try.underlying9) Try.underlying183 (by exact rfl) (by exact rfl) (by exact rfl) hm ?_
     intro w17 hEw17 hzw17 hm_new
     have hs_w17 := (hEw17).size
     replace hV := evo_step1 hV hEw17 (.inr (by simp))
     replace hl := hl0.now hV
     replace hm := hm_new
     clear hm_new
     refine r_nil ?_
     refine r_blk ?_
     refine r_region ?_
     refine r_op rfl rfl rfl (run_add rfl (by exact rfl) (by exact rfl) (by omega) (by omega)) ?_
     refine r_op rfl rfl rfl (run_mv (v := .int _ _) rfl (by exact rfl)) ?_
     refine r_nil ?_
     refine r_again (j + 1) ?_ ?_ ?_
     ·first | omega | (dsimp only; omega)
     ·refine ⟨(by first | exact rfl | exact congrArg (Value.int _) (by omega) | exact congrArg (Value.int _) (by dsimp only; omega) | exact congrArg (Value.int _) (by simp) | exact congrArg S (by simp)), (by first | assumption | omega | (dsimp only; omega) | (simp; done)), (by rw [hjs (by omega), bumps_append, ← bumps_append _ _ (anch (l.take k))]; exact hm), (by first | assumption | omega | (dsimp only; omega) | (simp; done)), hV⟩
     ·repeat (first | (with_reducible exact Agree.merge _ _ _) | (with_reducible exact Agree.refl _ _) | (with_reducible refine Agree.upd ?_ _ _ rfl) | ((with_reducible refine Agree.inner ?_ ?_); (kernel_rfl)))
    ·skip
     refine r_exit rfl ?_
     refine r_blk ?_
     refine r_region ?_
     refine r_op rfl rfl rfl (run_add rfl (by exact rfl) (by exact rfl) (by omega) (by omega)) ?_
     refine r_op rfl rfl rfl (run_mv (v := .int _ _) rfl (by exact rfl)) ?_
     refine r_nil ?_
     refine r_again (k + 1) ?_ ?_ ?_
     ·first | omega | (dsimp only; omega)
     ·refine ⟨(by first | exact rfl | exact congrArg (Value.int _) (by omega) | exact congrArg (Value.int _) (by dsimp only; omega) | exact congrArg (Value.int _) (by simp) | exact congrArg S (by simp)), (congrArg (Value.int _) (by rw [hts (by omega)]; unfold clampL; omega)), (by first | assumption | omega | (dsimp only; omega) | (simp; done)), (by have e := List.take_of_length_le (i := j) (l := (l.getD k default).anchors.take 512) (by omega); rw [e, bumps_append] at hm; rw [hat (by omega), bumps_append]; exact hm), (by first | assumption | omega | (dsimp only; omega) | (simp; done)), hV⟩
     ·repeat (first | (with_reducible exact Agree.merge _ _ _) | (with_reducible exact Agree.refl _ _) | (with_reducible refine Agree.upd ?_ _ _ rfl) | ((with_reducible refine Agree.inner ?_ ?_); (kernel_rfl)))
  ·skip
   refine r_exit rfl ?_
   refine r_seq ?_
   refine r_region ?_
   refine r_op rfl rfl rfl (run_mv (v := .int _ _) rfl (by exact rfl)) ?_
   refine r_op rfl rfl rfl (run_asg (v := .int _ _) rfl (by exact rfl)) ?_
   refine r_nil ?_
   refine r_ret (res1 (v := .int _ _) rfl (by exact rfl)) ?_
   exact ⟨ret_int (by rw [List.take_of_length_le (by omega)]), hV, by rw [List.take_of_length_le (by omega)] at hm; exact hm⟩

theorem cost_calls {aoa aob : Option Addr} {ba offa capa bb offb capb : Nat} {a b : List Side} {w0 : World} (ha : RowR w0 aoa ba offa capa a) (hb : RowR w0 aob bb offb capb b) :
    Calls Try.prog 103 #[.slice aoa a.length capa, .slice aob b.length capb] w0 fun e w' => e = .returned (.tuple #[.int .i64 (ourCost a b).1, .bool (ourCost a b).2]) ∧ Evo w0 w' [] := by
 refine calls_enter (n := 53) (args := [.slice aoa a.length capa, .slice aob b.length capb]) Try.func103 rfl Try.ntmps103 rfl ?_
 have hV : Evo w0 w0 [] := Evo.refl _ _
 have ha0 := ha.keep
 have hbd_ha := ha.bd
 have hb0 := hb.keep
 have hbd_hb := hb.bd
 refine r_seq ?_
 refine r_region ?_
 refine r_op rfl rfl rfl (run_asg (v := .int _ _) rfl (by exact rfl)) ?_
 refine r_op rfl rfl rfl (run_asg (v := .bool _) rfl (by exact rfl)) ?_
 refine r_nil ?_
 refine r_seq ?_
 refine r_region ?_
 refine r_op rfl rfl rfl (run_mv (v := .slice _ _ _) rfl (by exact rfl)) ?_
 refine r_op rfl rfl rfl (run_lenSl rfl (by exact rfl) Try.underlying92) ?_
 refine r_op rfl rfl rfl (run_mv (v := .slice _ _ _) rfl (by exact rfl)) ?_
 refine r_op rfl rfl rfl (run_lenSl rfl (by exact rfl) Try.underlying92) ?_
 refine r_opcall rfl rfl rfl (run_callf (vs := [.int _ _, .int _ _]) rfl (by exact rfl) Try.func137 rfl (by kernel_rfl)) (base_calls _ _) ?_
 rintro e w1 ⟨rfl, rfl⟩
 refine ⟨_, rfl, ?_⟩
 refine r_op rfl rfl rfl (run_mv (v := .tuple _) rfl (by exact rfl)) ?_
 refine r_op rfl rfl rfl (run_extract (v := .int _ _) rfl (by exact rfl) (by exact rfl)) ?_
 refine r_op rfl rfl rfl (run_extract (v := .bool _) rfl (by exact rfl) (by exact rfl)) ?_
 refine r_op rfl rfl rfl (run_asg (v := .int _ _) rfl (by exact rfl)) ?_
 refine r_op rfl rfl rfl (run_asg (v := .bool _) rfl (by exact rfl)) ?_
 refine r_nil ?_
 refine r_seq ?_
 refine r_seq ?_
 refine r_region ?_
 refine r_op rfl rfl rfl (run_mvb rfl (by exact rfl)) ?_
 refine r_op rfl rfl rfl (run_not rfl (by exact rfl)) ?_
 refine r_nil ?_
 refine r_cond (by exact rfl) (fun hc2 => ?_) (fun hc2 => ?_)
 ·skip
  have hok : (baseL a.length b.length).2 = false := by simpa using hc2
  refine r_seq ?_
  refine r_region ?_
  refine r_op rfl rfl rfl (run_asg (v := .int _ _) rfl (by exact rfl)) ?_
  refine r_op rfl rfl rfl (run_asg (v := .bool _) rfl (by exact rfl)) ?_
  refine r_nil ?_
  refine r_ret (res2 (v := .int _ _) (u := .bool _) rfl (by exact rfl) (by exact rfl)) ?_
  exact ⟨by simp [ourCost, hok], hV⟩
 ·skip
  have hok : (baseL a.length b.length).2 = true := by simpa using hc2
  have hsml := baseL_small (a := a.length) (b := b.length) hok (by omega) (by omega)
  refine r_skip ?_
  refine r_seq ?_
  refine r_region ?_
  refine r_makeMap (α := Str) (β := Int) S (Value.int .i64) rfl ?_
  intro b3 w4 heb3 hEw4 hmb3 hzb3
  have hs_w4 := (hEw4).size
  replace hV := evo_step0 hV hEw4
  replace ha := ha0.now hV
  replace hb := hb0.now hV
  refine r_op rfl rfl rfl (run_asg (v := .map _) rfl (by exact rfl)) ?_
  refine r_nil ?_
  refine r_seq ?_
  refine r_region ?_
  refine r_op rfl rfl rfl (run_mv (v := .slice _ _ _) rfl (by exact rfl)) ?_
  refine r_op rfl rfl rfl (run_mv (v := .map _) rfl (by exact rfl)) ?_
  refine r_opcall rfl rfl rfl (run_callf (vs := [.slice _ _ _, .map _, .int _ _]) rfl (by exact rfl) Try.func138 rfl (by kernel_rfl)) (measure_calls (ha0.pass hV (by intro x hx; simp at hx; subst hx; exact .inl (by omega))) hmb3 (by omega) (c := 0) (by intro x; simp [getM]) (by omega) (by omega)) ?_
  rintro e w5 ⟨rfl, hE5, hn5⟩
  refine ⟨_, rfl, ?_⟩
  have hs_w5 := (hE5).size
  replace hV := evo_step1 hV hE5 (by first | exact .inl (by omega) | exact .inr (by simp))
  replace ha := ha0.now hV
  replace hb := hb0.now hV
  replace hmb3 := hn5
  clear hn5
  refine r_op rfl rfl rfl (run_mv (v := .slice _ _ _) rfl (by exact rfl)) ?_
  refine r_op rfl rfl rfl (run_mv (v := .map _) rfl (by exact rfl)) ?_
  refine r_opcall rfl rfl rfl (run_callf (vs := [.slice _ _ _, .map _, .int _ _]) rfl (by exact rfl) Try.func138 rfl (by kernel_rfl)) (measure_calls (hb0.pass hV (by intro x hx; simp at hx; subst hx; exact .inl (by omega))) hmb3 (by omega) (c := 1000000) (by intro x; rw [getM_bumps]; have := timesL_bd (anch a) x; have := anch_bd a; simp [getM]; omega) (by omega) (by omega)) ?_
  rintro e w6 ⟨rfl, hE6, hn6⟩
  refine ⟨_, rfl, ?_⟩
  have hs_w6 := (hE6).size
  replace hV := evo_step1 hV hE6 (by first | exact .inl (by omega) | exact .inr (by simp))
  replace ha := ha0.now hV
  replace hb := hb0.now hV
  replace hmb3 := hn6
  clear hn6
  refine r_op rfl rfl rfl (run_asg (v := .int _ _) rfl (by exact rfl)) ?_
  refine r_op rfl rfl rfl (run_asg (v := .int _ _) rfl (by exact rfl)) ?_
  refine r_nil ?_
  refine r_seq ?_
  refine r_seq ?_
  refine r_region ?_
  refine r_op rfl rfl rfl (run_mv (v := .map _) rfl (by exact rfl)) ?_
  refine r_range rfl Try.underlying183 (by exact rfl) hmb3 ?_
  intro r7 w8 her7 hEw8 hir7 hzr7
  have hs_w8 := (hEw8).size
  replace hV := evo_step0 hV hEw8
  replace ha := ha0.now hV
  replace hb := hb0.now hV
  replace hmb3 := hmb3.evo0 hEw8
  refine r_nil ?_
  refine r_block ?_
  refine r_loop (α := List (Str × Int)) [6, 12, 32, 33, 34, 35, 36, 37, 38, 39, 40, 41, 42] (fun left g w => ∃ la : Option (Str × Int), g 6 = .int .i64 ((baseL a.length b.length).1 + 30 * (absSum (bumps (-1) (bumps 1 [] (anch a)) (anch b)) - absSum left)) ∧ IterIs w r7 b3 S (Value.int .i64) (bumps (-1) (bumps 1 [] (anch a)) (anch b)) left la ∧ absSum left ≤ absSum (bumps (-1) (bumps 1 [] (anch a)) (anch b)) ∧ w0.heap.size ≤ r7 ∧ w8.heap.size ≤ w.heap.size ∧ Evo w0 w []) (fun left => left.length) (bumps (-1) (bumps 1 [] (anch a)) (anch b)) ?_ ?_
  ·refine ⟨_, (by first | exact rfl | exact congrArg (Value.int _) (by omega) | exact congrArg (Value.int _) (by dsimp only; omega) | exact congrArg (Value.int _) (by simp) | exact congrArg S (by simp)), (by first | assumption | omega | (dsimp only; omega) | (simp; done)), (by first | assumption | omega | (dsimp only; omega) | (simp; done)), (by first | assumption | omega | (dsimp only; omega) | (simp; done)), (by first | assumption | omega | (dsimp only; omega) | (simp; done)), hV⟩
  ·rintro left g w10 ⟨la, hj11, hir7, hle, hrl, hzl9, hV⟩
   have hs_w10hV := hV.size
   replace ha := ha0.now hV
   replace hb := hb0.now hV
   refine r_know (i := 6) (v := .int .i64 ((baseL a.length b.length).1 + 30 * (absSum (bumps (-1) (bumps 1 [] (anch a)) (anch b)) - absSum left))) (by exact hj11) ?_
   have hnn := absSum_nonneg left
   have hsm := absSum_miss (anch a) (anch b)
   have hm1 := missL_bd (anch a) (anch b)
   have hm2 := missL_bd (anch b) (anch a)
   have ha1 := anch_bd a
   have hb1 := anch_bd b
   have hla := lenSum_bd a
   have hlb := lenSum_bd b
   have hbb := baseL_bd a.length b.length
   refine r_seq ?_
   refine r_region ?_
   refine r_next rfl (by exact rfl) hir7 (fun hn12 => ?_) (fun l1_12 p12 l2_12 w12 hl12 hE12 hz12 hi_new => ?_)
   ·skip
    subst hn12
    refine r_op rfl rfl rfl (run_extract (v := .bool _) rfl (by exact rfl) (by exact rfl)) ?_
    refine r_nil ?_
    refine r_seq ?_
    refine r_cond_no (by exact rfl) ?_
    refine r_exit rfl ?_
    refine r_seq ?_
    refine r_region ?_
    refine r_op rfl rfl rfl (run_mv (v := .int _ _) rfl (by exact rfl)) ?_
    refine r_op rfl rfl rfl (run_mv (v := .int _ _) rfl (by exact rfl)) ?_
    refine r_op rfl rfl rfl (run_mv (v := .int _ _) rfl (by exact rfl)) ?_
    refine r_op rfl rfl rfl (run_sub rfl (by exact rfl) (by exact rfl) (by omega) (by omega)) ?_
    refine r_op rfl rfl rfl (run_mv (v := .int _ _) rfl (by exact rfl)) ?_
    refine r_op rfl rfl rfl (run_mv (v := .int _ _) rfl (by exact rfl)) ?_
    refine r_op rfl rfl rfl (run_sub rfl (by exact rfl) (by exact rfl) (by omega) (by omega)) ?_
    refine r_op rfl rfl rfl (run_max rfl (by exact rfl) (by exact rfl)) ?_
    refine r_op rfl rfl rfl (run_mul rfl (by exact rfl) (by exact rfl) (by omega) (by omega)) ?_
    refine r_op rfl rfl rfl (run_add rfl (by exact rfl) (by exact rfl) (by omega) (by omega)) ?_
    refine r_op rfl rfl rfl (run_asg (v := .int _ _) rfl (by exact rfl)) ?_
    refine r_op rfl rfl rfl (run_asg (v := .bool _) rfl (by exact rfl)) ?_
    refine r_nil ?_
    refine r_ret (res2 (v := .int _ _) (u := .bool _) rfl (by exact rfl) (by exact rfl)) ?_
    exact ⟨by simp [ourCost, hok, absSum], hV⟩
   ·skip
    have hs_w12 := (hE12).size
    replace hV := evo_step1 hV hE12 (by first | exact .inl (by omega) | exact .inr (by simp))
    replace ha := ha0.now hV
    replace hb := hb0.now hV
    replace hir7 := hi_new
    clear hi_new
    have hsp := absSum_split l1_12 p12 l2_12
    rw [← hl12] at hsp
    have hnn2 := absSum_nonneg (l1_12 ++ l2_12)
    refine r_op rfl rfl rfl (run_extract (v := .bool _) rfl (by exact rfl) (by exact rfl)) ?_
    refine r_nil ?_
    refine r_seq ?_
    refine r_cond_yes (by exact rfl) ?_
    refine r_skip ?_
    refine r_block ?_
    refine r_seq ?_
    refine r_region ?_
    refine r_op rfl rfl rfl (run_entryI rfl (by exact rfl) hir7) ?_
    refine r_op rfl rfl rfl (run_extract (v := .int _ _) rfl (by exact rfl) (by exact rfl)) ?_
    refine r_op rfl rfl rfl (run_asg (v := .int _ _) rfl (by exact rfl)) ?_
    refine r_nil ?_
    refine r_region ?_
    refine r_op rfl rfl rfl (run_mv (v := .int _ _) rfl (by exact rfl)) ?_
    refine r_op rfl rfl rfl (run_mv (v := .int _ _) rfl (by exact rfl)) ?_
    refine r_op rfl rfl rfl (run_mv (v := .int _ _) rfl (by exact rfl)) ?_
    refine r_op rfl rfl rfl (run_neg rfl (by exact rfl) (by omega) (by omega)) ?_
    refine r_op rfl rfl rfl (run_max rfl (by exact rfl) (by exact rfl)) ?_
    refine r_op rfl rfl rfl (run_mul rfl (by exact rfl) (by exact rfl) (by omega) (by omega)) ?_
    refine r_op rfl rfl rfl (run_add rfl (by exact rfl) (by exact rfl) (by omega) (by omega)) ?_
    refine r_op rfl rfl rfl (run_asg (v := .int _ _) rfl (by exact rfl)) ?_
    refine r_nil ?_
    refine r_blk ?_
    refine r_again (l1_12 ++ l2_12) ?_ ?_ ?_
    ·rw [hl12]; simp
    ·refine ⟨_, (congrArg (Value.int _) (by omega)), (by first | assumption | omega | (dsimp only; omega) | (simp; done)), (by first | assumption | omega | (dsimp only; omega) | (simp; done)), (by first | assumption | omega | (dsimp only; omega) | (simp; done)), (by first | assumption | omega | (dsimp only; omega) | (simp; done)), hV⟩
    ·repeat (first | (with_reducible exact Agree.merge _ _ _) | (with_reducible exact Agree.refl _ _) | (with_reducible refine Agree.upd ?_ _ _ rfl) | ((with_reducible refine Agree.inner ?_ ?_); (kernel_rfl)))

end Go.Proofs.Ytomklacppmaljaa

namespace Go.Proofs.Ytomklacppmaljaa
open Go.RowKit Go.Vc
theorem ag_155 : aggP Try.prog 155 = some false := by kernel_rfl
theorem ag_157 : aggP Try.prog 157 = some true := by kernel_rfl
theorem ag_159 : aggP Try.prog 159 = some true := by kernel_rfl
theorem fo_157_0 : fieldP Try.prog 157 0 = some 0 := by kernel_rfl
theorem fo_157_1 : fieldP Try.prog 157 1 = some 1 := by kernel_rfl
theorem fo_159_0 : fieldP Try.prog 159 0 = some 0 := by kernel_rfl
theorem fo_159_1 : fieldP Try.prog 159 1 = some 1 := by kernel_rfl
theorem pl_157 : placesP Try.prog 157 = some [(0, 1), (1, 1)] := by kernel_rfl
theorem pl_159 : placesP Try.prog 159 = some [(0, 1), (1, 2)] := by kernel_rfl
theorem pl_163 : placesP Try.prog 163 = some [(0, 1), (1, 1)] := by kernel_rfl
theorem pl_165 : placesP Try.prog 165 = some [(0, 2), (2, 2)] := by kernel_rfl
theorem ty_155 : tyP Try.prog 155 = some (1, 24, some (.slice none 0 0)) := by kernel_rfl
theorem ty_157 : tyP Try.prog 157 = some (2, 16, some (.agg #[(.int .i64 0), (.int .i64 0)])) := by kernel_rfl
theorem ty_159 : tyP Try.prog 159 = some (3, 24, some (.agg #[(.int .i64 0), (.int .i64 0), (.int .i64 0)])) := by kernel_rfl
theorem ty_163 : tyP Try.prog 163 = some (2, 16, some (.agg #[(.int .i64 0), (.int .i64 0)])) := by kernel_rfl
theorem ty_165 : tyP Try.prog 165 = some (4, 32, some (.agg #[(.int .i64 0), (.int .i64 0), (.int .i64 0), (.int .i64 0)])) := by kernel_rfl
theorem steps_calls  {w0 : World}  :
    Calls Try.prog 112 #[] w0 fun e w' => ∃ b, e = .returned (.slice (some ⟨b, 0, none⟩) 6 6) ∧ Evo w0 w' [] ∧ w0.heap.size ≤ b ∧ RowE w' (some ⟨b, 0, none⟩) b 0 6 stepsR := by
 refine calls_enter (n := 8) (args := []) Try.func112 rfl Try.ntmps112 rfl ?_
 have hV : Evo w0 w0 [] := Evo.refl _ _
 refine r_seq ?_
 refine r_region ?_
 refine r_op rfl rfl rfl (run_asg (v := .slice _ _ _) rfl (by exact rfl)) ?_
 refine r_nil ?_
 refine r_seq ?_
 refine r_region ?_
 refine r_op rfl rfl rfl (run_bld (pv := [(0, .int _ _), (1, .int _ _)]) (zs := [_, _]) (cells := [_, _]) rfl ty_157 (by exact rfl) pl_157 (by exact rfl) (by exact rfl)) ?_
 refine r_op rfl rfl rfl (run_bld (pv := [(0, .int _ _), (1, .int _ _)]) (zs := [_, _]) (cells := [_, _]) rfl ty_157 (by exact rfl) pl_157 (by exact rfl) (by exact rfl)) ?_
 refine r_op rfl rfl rfl (run_bld (pv := [(0, .int _ _), (1, .int _ _)]) (zs := [_, _]) (cells := [_, _]) rfl ty_157 (by exact rfl) pl_157 (by exact rfl) (by exact rfl)) ?_
 refine r_op rfl rfl rfl (run_bld (pv := [(0, .int _ _), (1, .int _ _)]) (zs := [_, _]) (cells := [_, _]) rfl ty_157 (by exact rfl) pl_157 (by exact rfl) (by exact rfl)) ?_
 refine r_op rfl rfl rfl (run_bld (pv := [(0, .int _ _), (1, .int _ _)]) (zs := [_, _]) (cells := [_, _]) rfl ty_157 (by exact rfl) pl_157 (by exact rfl) (by exact rfl)) ?_
 refine r_op rfl rfl rfl (run_bld (pv := [(0, .int _ _), (1, .int _ _)]) (zs := [_, _]) (cells := [_, _]) rfl ty_157 (by exact rfl) pl_157 (by exact rfl) (by exact rfl)) ?_
 refine r_bslice (pv := [(0, .agg _), (1, .agg _), (2, .agg _), (3, .agg _), (4, .agg _), (5, .agg _)]) (zs := [_, _]) (cs := [_, _, _, _, _, _, _, _, _, _, _, _]) Try.underlying160 ty_157 (by exact rfl) rfl (by exact rfl) rfl (by exact rfl) ?_
 intro b1 w2 heb1 hEw2 hbb1 hzb1
 have hs_w2 := (hEw2).size
 replace hV := evo_step0 hV hEw2
 have hAb1 := hbb1.at
 have hrb1 : RowE w2 (some ⟨b1, 0, none⟩) b1 0 6 stepsR := rowLit stepsR hbb1 rfl rfl
 refine r_op rfl rfl rfl (run_asg (v := .slice (some ⟨b1, 0, none⟩) _ _) rfl (by exact rfl)) ?_
 refine r_nil ?_
 refine r_ret (res1 (v := .slice (some ⟨b1, 0, none⟩) _ _) rfl (by exact rfl)) ?_
 exact ⟨_, rfl, hV, by omega, hrb1⟩

theorem align_calls {aoa aob : Option Addr} {ba offa capa bb offb capb : Nat} {a b : List Side} {w0 : World} (ha : RowR w0 aoa ba offa capa a) (hb : RowR w0 aob bb offb capb b) :
    Calls Try.prog 66 #[.slice aoa a.length capa, .slice aob b.length capb] w0 fun e w' => ∃ v, e = .returned (.tuple #[v, .int .i64 (alignL a b).2.1, .int .i64 (alignL a b).2.2]) ∧ Evo w0 w' [] ∧ OwnE w' w0.heap.size 165 v (alignL a b).1 := by
 refine calls_enter (n := 185) (args := [.slice aoa a.length capa, .slice aob b.length capb]) Try.func66 rfl Try.ntmps66 rfl ?_
 have hV : Evo w0 w0 [] := Evo.refl _ _
 have ha0 := ha.keep
 have hbd_ha := ha.bd
 have hb0 := hb.keep
 have hbd_hb := hb.bd
 refine r_seq ?_
 refine r_region ?_
 refine r_op rfl rfl rfl (run_asg (v := .slice _ _ _) rfl (by exact rfl)) ?_
 refine r_op rfl rfl rfl (run_asg (v := .int _ _) rfl (by exact rfl)) ?_
 refine r_op rfl rfl rfl (run_asg (v := .int _ _) rfl (by exact rfl)) ?_
 refine r_nil ?_
 refine r_seq ?_
 refine r_seq ?_
 refine r_region ?_
 refine r_op rfl rfl rfl (run_mv (v := .slice _ _ _) rfl (by exact rfl)) ?_
 refine r_op rfl rfl rfl (run_lenSl rfl (by exact rfl) Try.underlying92) ?_
 refine r_op rfl rfl rfl (run_gtr rfl (by exact rfl) (by exact rfl)) ?_
 refine r_op rfl rfl rfl (run_mv (v := .bool _) rfl (by exact rfl)) ?_
 refine r_g rfl (wantF (by exact rfl)) rfl (fun hg => run_mv (v := .slice _ _ _) rfl (by exact rfl)) ?_
 refine r_g rfl (wantF (by exact rfl)) rfl (fun hg => run_lenSl rfl (glv (by exact rfl) (fun h => h) hg) Try.underlying92) ?_
 refine r_g rfl (wantF (by exact rfl)) rfl (fun hg => run_gtr rfl (glv (by exact rfl) (fun h => h) hg) (by exact rfl)) ?_
 refine r_op rfl rfl rfl (run_pick_or rfl (by exact rfl) rfl (fun hq => glv (by exact rfl) (fun h => h) hq)) ?_
 refine r_nil ?_
 refine r_cond (by exact rfl) (fun hc1 => ?_) (fun hc1 => ?_)
 ·skip
  refine r_seq ?_
  refine r_region ?_
  refine r_op rfl rfl rfl (run_asg (v := .slice _ _ _) rfl (by exact rfl)) ?_
  refine r_op rfl rfl rfl (run_asg (v := .int _ _) rfl (by exact rfl)) ?_
  refine r_op rfl rfl rfl (run_asg (v := .int _ _) rfl (by exact rfl)) ?_
  refine r_nil ?_
  refine r_ret (res3 (v := .slice _ _ _) (u := .int _ _) (x := .int _ _) rfl (by exact rfl) (by exact rfl) (by exact rfl)) ?_
  exact ⟨_, by rw [show alignL a b = _ from if_pos (by omega)], hV, by rw [show alignL a b = _ from if_pos (by omega)]; exact OwnE.nil _ _ _⟩
 ·skip
  refine r_skip ?_
  refine r_seq ?_
  refine r_region ?_
  refine r_op rfl rfl rfl (run_mv (v := .slice _ _ _) rfl (by exact rfl)) ?_
  refine r_op rfl rfl rfl (run_lenSl rfl (by exact rfl) Try.underlying92) ?_
  refine r_op rfl rfl rfl (run_add rfl (by exact rfl) (by exact rfl) (by omega) (by omega)) ?_
  refine r_make (len := (a.length + 1)) (zs := [_]) Try.underlying154 ty_155 (by exact rfl) rfl rfl (by exact rfl) (by exact rfl) (by omega) (by omega) (by omega) (by omega) ?_
  intro bt w2 hebt hEw2 hout hzbt
  have hs_w2 := (hEw2).size
  replace hV := evo_step0 hV hEw2
  replace ha := ha0.now hV
  replace hb := hb0.now hV
  refine r_op rfl rfl rfl (run_asg (v := .slice (some ⟨bt, 0, none⟩) _ _) rfl (by exact rfl)) ?_
  refine r_nil ?_
  refine r_seq ?_
  refine r_seq ?_
  refine r_region ?_
  refine r_op rfl rfl rfl (run_mv (v := .slice _ _ _) rfl (by exact rfl)) ?_
  refine r_op rfl rfl rfl (run_lenSl rfl (by exact rfl) Try.underlying92) ?_
  refine r_op rfl rfl rfl (run_asg (v := .int _ _) rfl (by exact rfl)) ?_
  refine r_nil ?_
  refine r_block ?_
  refine r_loop (α := Nat) [8, 9, 10, 12, 13, 14, 32, 33, 34, 35, 36, 37, 38, 39, 40, 41, 42, 43, 44, 45, 46, 47, 48, 49, 50, 51, 52, 53, 54, 55, 56, 57, 58, 59, 60, 61, 62, 63, 64, 65, 66, 67, 68, 69, 70, 71, 72, 73, 74, 75, 76, 77, 78, 79, 80, 81, 82, 83, 84, 85, 86, 87, 88, 89, 90, 91, 92, 93, 94, 95, 96, 97, 98, 99, 100, 101, 102, 103, 104, 105, 106, 107, 108, 109, 110, 111, 112, 113, 114, 115, 116, 117, 118, 119, 120, 121, 122, 123, 124, 125, 126, 127, 128, 129, 130, 131, 132, 133, 134, 135] (fun k g w => ∃ rb : Nat → Nat, g 8 = .int .i64 ((k : Int) - 1) ∧ k ≤ a.length + 1 ∧ Tab w w0.heap.size bt 155 159 3 (a.length + 1) (b.length + 1) k rb (tabF a b) ∧ w2.heap.size ≤ w.heap.size ∧ Evo w0 w []) (fun k => k) (a.length + 1) ?_ ?_
  ·refine ⟨(fun _ => 0), (by first | exact rfl | exact congrArg (Value.int _) (by omega) | exact congrArg (Value.int _) (by dsimp only; omega) | exact congrArg (Value.int _) (by simp) | exact congrArg S (by simp)), (by first | assumption | omega | (dsimp only; omega) | (simp; done)), (Tab.new hout (by omega) _ _), (by first | assumption | omega | (dsimp only; omega) | (simp; done)), hV⟩
  ·rintro k g w4 ⟨rb, hj5, hk, hT, hzl3, hV⟩
   have hs_w4hV := hV.size
   replace ha := ha0.now hV
   replace hb := hb0.now hV
   refine r_know (i := 8) (v := .int .i64 ((k : Int) - 1)) (by exact hj5) ?_
   refine r_seq ?_
   refine r_seq ?_
   refine r_region ?_
   refine r_op rfl rfl rfl (run_mv (v := .int _ _) rfl (by exact rfl)) ?_
   refine r_op rfl rfl rfl (run_geq rfl (by exact rfl) (by exact rfl)) ?_
   refine r_nil ?_
   refine r_cond (by exact rfl) (fun hc6 => ?_) (fun hc6 => ?_)
   ·skip
    refine r_skip ?_
    refine r_seq ?_
    refine r_block ?_
    refine r_seq ?_
    obtain ⟨i0, rfl⟩ : ∃ i0, k = i0 + 1 := ⟨k - 1, by omega⟩
    have hT_old := hT
    have hout := hT.out
    have hbtb := hT.base
    have hbtl := hT.out.lt
    have hB7 : Evo w4 w4 [bt] := Evo.refl _ _
    refine r_region ?_
    refine r_op rfl rfl rfl (run_mv (v := .slice (some ⟨bt, 0, none⟩) _ _) rfl (by exact rfl)) ?_
    refine r_op rfl rfl rfl (run_mv (v := .int _ _) rfl (by exact rfl)) ?_
    refine r_op rfl rfl rfl (run_mv (v := .slice _ _ _) rfl (by exact rfl)) ?_
    refine r_op rfl rfl rfl (run_lenSl rfl (by exact rfl) Try.underlying92) ?_
    refine r_op rfl rfl rfl (run_add rfl (by exact rfl) (by exact rfl) (by omega) (by omega)) ?_
    refine r_make (len := (b.length + 1)) (zs := [_, _, _]) Try.underlying155 ty_159 (by exact rfl) rfl rfl (by exact rfl) (by exact rfl) (by omega) (by omega) (by omega) (by omega) ?_
    intro br w7 hebr hEw7 hrow hzbr
    have hs_w7 := (hEw7).size
    replace hV := evo_step0 hV hEw7
    replace hB7 := evo_step0 hB7 hEw7
    replace ha := ha0.now hV
    replace hb := hb0.now hV
    replace hout := hout.evo0 hEw7
    refine r_op rfl rfl rfl (run_ix (i0) rfl Try.underlying154 ty_155 (by exact rfl) (by exact rfl) (by first | exact rfl | omega) (by omega) rfl) ?_
    refine r_storeF (v := .slice (some ⟨br, 0, none⟩) _ _) (vs := [_]) (i0) (by exact rfl) rfl (by exact rfl) hout (by omega) ty_155 (by exact rfl) rfl (by exact rfl) ?_
    intro w8 hEw8 hzw8 hb_new
    have hs_w8 := (hEw8).size
    replace hV := evo_step1 hV hEw8 (by first | exact .inl (by omega) | exact .inr (by simp))
    replace hB7 := evo_step1 hB7 hEw8 (by first | exact .inl (by omega) | exact .inr (by simp))
    replace ha := ha0.now hV
    replace hb := hb0.now hV
    replace hrow := hrow.evo hEw8 (by simp; omega)
    replace hout := hb_new
    clear hb_new
    refine r_nil ?_
    refine r_seq ?_
    have hT := tab_add hT_old (by omega) (b' := br) (by omega) (by omega) hB7 hout hrow rfl
    obtain ⟨rb1, hrb1⟩ : ∃ r, r = (fun q => if q = i0 then br else rb q) := ⟨_, rfl⟩
    rw [← hrb1] at hT
    refine r_region ?_
    refine r_op rfl rfl rfl (run_mv (v := .slice _ _ _) rfl (by exact rfl)) ?_
    refine r_op rfl rfl rfl (run_lenSl rfl (by exact rfl) Try.underlying92) ?_
    refine r_op rfl rfl rfl (run_asg (v := .int _ _) rfl (by exact rfl)) ?_
    refine r_nil ?_
    refine r_block ?_
    refine r_loop (α := Nat) [9, 10, 12, 13, 14, 45, 46, 47, 48, 49, 50, 51, 52, 53, 54, 55, 56, 57, 58, 59, 60, 61, 62, 63, 64, 65, 66, 67, 68, 69, 70, 71, 72, 73, 74, 75, 76, 77, 78, 79, 80, 81, 82, 83, 84, 85, 86, 87, 88, 89, 90, 91, 92, 93, 94, 95, 96, 97, 98, 99, 100, 101, 102, 103, 104, 105, 106, 107, 108, 109, 110, 111, 112, 113, 114, 115, 116, 117, 118, 119, 120, 121, 122, 123, 124, 125, 126, 127, 128, 129, 130, 131, 132, 133, 134, 135] (fun q g w => g 9 = .int .i64 ((q : Int) - 1) ∧ q ≤ b.length + 1 ∧ Tab w w0.heap.size bt 155 159 3 (a.length + 1) (b.length + 1) i0 rb1 (tabC a b i0 q) ∧ w8.heap.size ≤ w.heap.size ∧ Evo w0 w []) (fun q => q) (b.length + 1) ?_ ?_
    ·refine ⟨(by first | exact rfl | exact congrArg (Value.int _) (by omega) | exact congrArg (Value.int _) (by dsimp only; omega) | exact congrArg (Value.int _) (by simp) | exact congrArg S (by simp)), (by first | assumption | omega | (dsimp only; omega) | (simp; done)), (by first | assumption | omega | (dsimp only; omega) | (simp; done)), (by first | assumption | omega | (dsimp only; omega) | (simp; done)), hV⟩
    ·rintro q g w10 ⟨hj11, hq, hT, hzl9, hV⟩
     have hs_w10hV := hV.size
     replace ha := ha0.now hV
     replace hb := hb0.now hV
     refine r_know (i := 9) (v := .int .i64 ((q : Int) - 1)) (by exact hj11) ?_
     refine r_seq ?_
     refine r_seq ?_
     refine r_region ?_
     refine r_op rfl rfl rfl (run_mv (v := .int _ _) rfl (by exact rfl)) ?_
     refine r_op rfl rfl rfl (run_geq rfl (by exact rfl) (by exact rfl)) ?_
     refine r_nil ?_
     refine r_cond (by exact rfl) (fun hc12 => ?_) (fun hc12 => ?_)
     ·skip
      refine r_skip ?_
      refine r_seq ?_
      refine r_block ?_
      refine r_seq ?_
      refine r_seq ?_
      obtain ⟨j0, rfl⟩ : ∃ j0, q = j0 + 1 := ⟨q - 1, by omega⟩
      refine r_region ?_
      refine r_op rfl rfl rfl (run_mv (v := .int _ _) rfl (by exact rfl)) ?_
      refine r_op rfl rfl rfl (run_mv (v := .slice _ _ _) rfl (by exact rfl)) ?_
      refine r_op rfl rfl rfl (run_lenSl rfl (by exact rfl) Try.underlying92) ?_
      refine r_op rfl rfl rfl (run_eql rfl (by exact rfl) (by exact rfl)) ?_
      refine r_op rfl rfl rfl (run_mv (v := .bool _) rfl (by exact rfl)) ?_
      refine r_g rfl (wantT (by exact rfl)) rfl (fun hg => run_mv (v := .int _ _) rfl (by exact rfl)) ?_
      refine r_g rfl (wantT (by exact rfl)) rfl (fun hg => run_mv (v := .slice _ _ _) rfl (by exact rfl)) ?_
      refine r_g rfl (wantT (by exact rfl)) rfl (fun hg => run_lenSl rfl (glv (by exact rfl) (fun h => h) hg) Try.underlying92) ?_
      refine r_g rfl (wantT (by exact rfl)) rfl (fun hg => run_eql rfl (glv (by exact rfl) (fun h => h) hg) (glv (by exact rfl) (fun h => h) hg)) ?_
      refine r_op rfl rfl rfl (run_pick_and rfl (by exact rfl) (fun hq => glv (by exact rfl) (fun h => h) hq) rfl) ?_
      refine r_nil ?_
      refine r_cond (by exact rfl) (fun hc13 => ?_) (fun hc13 => ?_)
      ·skip
       refine r_exit rfl ?_
       refine r_region ?_
       refine r_op rfl rfl rfl (run_mv (v := .int _ _) rfl (by exact rfl)) ?_
       refine r_op rfl rfl rfl (run_sub rfl (by exact rfl) (by exact rfl) (by omega) (by omega)) ?_
       refine r_op rfl rfl rfl (run_asg (v := .int _ _) rfl (by exact rfl)) ?_
       refine r_nil ?_
       refine r_again j0 ?_ ?_ ?_
       ·first | omega | (dsimp only; omega)
       ·refine ⟨(congrArg (Value.int _) (by omega)), (by first | assumption | omega | (dsimp only; omega) | (simp; done)), (by first | exact tab_corner hT (by omega) (by omega) | exact tab_done hT_old (by omega) hCst hcur (congrArg cellV (bs_done (by omega) (by omega) (by omega) _))), (by first | assumption | omega | (dsimp only; omega) | (simp; done)), hV⟩
       ·repeat (first | (with_reducible exact Agree.merge _ _ _) | (with_reducible exact Agree.refl _ _) | (with_reducible refine Agree.upd ?_ _ _ rfl) | ((with_reducible refine Agree.inner ?_ ?_); (kernel_rfl)))
      ·skip
       refine r_skip ?_
       refine r_seq ?_
       have hlt0 := hT.lt
       have hlti := hlt0.2 i0 (Nat.le_refl _) (by omega)
       have hQ2 : Evo w10 w10 [] := Evo.refl _ _
       have hT0 := fun (w' : World) (h : Evo w10 w' []) => hT.evo0 h
       refine r_region ?_
       refine r_op rfl rfl rfl (run_bld (pv := [(0, .int _ _)]) (zs := [_, _, _]) (cells := [_, _, _]) rfl ty_159 (by exact rfl) pl_159 (by exact rfl) (by exact rfl)) ?_
       refine r_var (zs := [_, _, _]) (vs := [_, _, _]) ty_159 (by exact rfl) rfl (by exact rfl) (fun _ => rfl) (by exact rfl) rfl rfl (by exact rfl) ?_
       intro b14 w15 heb14 hEw15 hbb14 hzb14
       have hs_w15 := (hEw15).size
       replace hV := evo_step0 hV hEw15
       replace hQ2 := evo_step0 hQ2 hEw15
       replace ha := ha0.now hV
       replace hb := hb0.now hV
       replace hT := hT0 _ hQ2
       have hAb14 := hbb14.at
       refine r_nil ?_
       refine r_seq ?_
       refine r_seq ?_
       refine r_region ?_
       refine r_opcall rfl rfl rfl (run_callf (vs := []) rfl (by exact rfl) Try.func112 rfl (by kernel_rfl)) steps_calls ?_
       rintro e w16 ⟨bs16, rfl, hE16, hbs16, hst16⟩
       refine ⟨_, rfl, ?_⟩
       have hs_w16 := (hE16).size
       replace hV := evo_step0 hV hE16
       replace hQ2 := evo_step0 hQ2 hE16
       replace ha := ha0.now hV
       replace hb := hb0.now hV
       replace hT := hT0 _ hQ2
       replace hbb14 := hbb14.evo0 hE16
       replace hAb14 := hAb14.evo0 hE16
       refine r_op rfl rfl rfl (run_lenSl rfl (by exact rfl) Try.underlying160) ?_
       refine r_op rfl rfl rfl (run_mv (v := .int _ _) rfl (by exact rfl)) ?_
       refine r_nil ?_
       refine r_block ?_
       refine r_loop (α := Nat) [12, 13, 14, 62, 63, 64, 65, 66, 67, 68, 69, 70, 71, 72, 73, 74, 75, 76, 77, 78, 79, 80, 81, 82, 83, 84, 85, 86, 87, 88, 89, 90, 91, 92, 93, 94, 95, 96, 97, 98, 99, 100, 101, 102, 103, 104, 105, 106, 107, 108, 109, 110, 111, 112, 113, 114, 115, 116, 117, 118, 119, 120, 121, 122, 123, 124, 125, 126, 127, 128] (fun x g w => g 62 = .int .i64 (x : Nat) ∧ x ≤ 6 ∧ RowE w (some ⟨bs16, 0, none⟩) bs16 0 6 stepsR ∧ Blk w b14 159 (cellV ((bsA a b i0 j0 x).getD (-1, 0, 0))) ∧ At w b14 0 (cellV ((bsA a b i0 j0 x).getD (-1, 0, 0))) ∧ w16.heap.size ≤ w.heap.size ∧ Evo w0 w [] ∧ Evo w10 w []) (fun x => 6 - x) 0 ?_ ?_
       ·refine ⟨(by first | exact rfl | exact congrArg (Value.int _) (by omega) | exact congrArg (Value.int _) (by dsimp only; omega) | exact congrArg (Value.int _) (by simp) | exact congrArg S (by simp)), (by first | assumption | omega | (dsimp only; omega) | (simp; done)), (by first | assumption | omega | (dsimp only; omega) | (simp; done)), (by first | assumption | omega | (dsimp only; omega) | (simp; done)), (by first | assumption | omega | (dsimp only; omega) | (simp; done)), (by first | assumption | omega | (dsimp only; omega) | (simp; done)), hV, hQ2⟩
       ·rintro x g w18 ⟨hj19, hk_x, hst16, hbb14, hAb14, hzl17, hV, hQ2⟩
        have hs_w18hV := hV.size
        have hs_w18hQ2 := hQ2.size
        have hlt20 := hbb14.lt
        replace ha := ha0.now hV
        replace hb := hb0.now hV
        replace hT := hT0 _ hQ2
        refine r_know (i := 62) (v := .int .i64 (x : Nat)) (by exact hj19) ?_
        refine r_seq ?_
        refine r_region ?_
        refine r_op rfl rfl rfl (run_lss rfl (by exact rfl) (by exact rfl)) ?_
        refine r_nil ?_
        refine r_seq ?_
        refine r_cond (by exact rfl) (fun hc21 => ?_) (fun hc21 => ?_)
        ·skip
         refine r_skip ?_
         refine r_seq ?_
         refine r_block ?_
         refine r_seq ?_
         have hst1 := stepsR_at x (by omega)
         have hsb := stp_bd x
         refine r_region ?_
         refine r_op rfl rfl rfl (run_ix (x) rfl Try.underlying160 ty_157 (by exact rfl) (by exact rfl) (by first | exact rfl | omega) (by first | omega | (show x < 6; omega)) (hst16.addr (i := x) (by first | omega | (show x < 6; omega)))) ?_
         have hA22 := hst16.atD (x) (by first | omega | (show x < 6; omega))
         refine r_op rfl rfl rfl (run_ldN rfl ag_157 ty_157 (by exact rfl) rfl hA22) ?_
         refine r_var (zs := [_, _]) (vs := [_, _]) ty_157 (by exact rfl) rfl (by exact rfl) (fun _ => rfl) (by exact rfl) rfl rfl (by exact rfl) ?_
         intro b23 w24 heb23 hEw24 hbb23 hzb23
         have hs_w24 := (hEw24).size
         replace hV := evo_step0 hV hEw24
         replace hQ2 := evo_step0 hQ2 hEw24
         replace ha := ha0.now hV
         replace hb := hb0.now hV
         replace hT := hT0 _ hQ2
         replace hst16 := hst16.evo0 hEw24
         replace hbb14 := hbb14.evo0 hEw24
         replace hAb14 := hAb14.evo0 hEw24
         have hAb23 := hbb23.at
         refine r_nil ?_
         refine r_seq ?_
         refine r_seq ?_
         refine r_region ?_
         refine r_op rfl rfl rfl (run_mv (v := .int _ _) rfl (by exact rfl)) ?_
         refine r_op rfl rfl rfl (run_fa rfl (by exact rfl) fo_157_0) ?_
         refine r_op rfl rfl rfl (run_ld1 rfl ag_3 (by exact rfl) (hAb23.cell 0 (by exact rfl))) ?_
         refine r_op rfl rfl rfl (run_add rfl (by exact rfl) (by exact rfl) (by omega) (by omega)) ?_
         refine r_op rfl rfl rfl (run_mv (v := .slice _ _ _) rfl (by exact rfl)) ?_
         refine r_op rfl rfl rfl (run_lenSl rfl (by exact rfl) Try.underlying92) ?_
         refine r_op rfl rfl rfl (run_gtr rfl (by exact rfl) (by exact rfl)) ?_
         refine r_op rfl rfl rfl (run_mv (v := .bool _) rfl (by exact rfl)) ?_
         refine r_g rfl (wantF (by exact rfl)) rfl (fun hg => run_mv (v := .int _ _) rfl (by exact rfl)) ?_
         refine r_g rfl (wantF (by exact rfl)) rfl (fun hg => run_fa rfl (by exact rfl) fo_157_1) ?_
         refine r_g rfl (wantF (by exact rfl)) rfl (fun hg => run_ld1 rfl ag_3 (glv (by exact rfl) (fun h => h) hg) (hAb23.cell 1 (by exact rfl))) ?_
         refine r_g rfl (wantF (by exact rfl)) rfl (fun hg => run_add rfl (glv (by exact rfl) (fun h => h) hg) (glv (by exact rfl) (fun h => h) hg) (by omega) (by omega)) ?_
         refine r_g rfl (wantF (by exact rfl)) rfl (fun hg => run_mv (v := .slice _ _ _) rfl (by exact rfl)) ?_
         refine r_g rfl (wantF (by exact rfl)) rfl (fun hg => run_lenSl rfl (glv (by exact rfl) (fun h => h) hg) Try.underlying92) ?_
         refine r_g rfl (wantF (by exact rfl)) rfl (fun hg => run_gtr rfl (glv (by exact rfl) (fun h => h) hg) (glv (by exact rfl) (fun h => h) hg)) ?_
         refine r_op rfl rfl rfl (run_pick_or rfl (by exact rfl) rfl (fun hq => glv (by exact rfl) (fun h => h) hq)) ?_
         refine r_nil ?_
         refine r_cond (by exact rfl) (fun hc25 => ?_) (fun hc25 => ?_)
         ·skip
          refine r_exit rfl ?_
          refine r_region ?_
          refine r_op rfl rfl rfl (run_add rfl (by exact rfl) (by exact rfl) (by omega) (by omega)) ?_
          refine r_op rfl rfl rfl (run_mv (v := .int _ _) rfl (by exact rfl)) ?_
          refine r_nil ?_
          refine r_again (x + 1) ?_ ?_ ?_
          ·first | omega | (dsimp only; omega)
          ·refine ⟨(by first | exact rfl | exact congrArg (Value.int _) (by omega) | exact congrArg (Value.int _) (by dsimp only; omega) | exact congrArg (Value.int _) (by simp) | exact congrArg S (by simp)), (by first | assumption | omega | (dsimp only; omega) | (simp; done)), (by first | assumption | omega | (dsimp only; omega) | (simp; done)), (by first | (rw [bs_skip (by omega)]; assumption) | (rw [hbt]; assumption) | (have hz := hbb14; rw [hst1.1, hst1.2] at hz; rw [hbt]; exact hz)), (by first | (rw [bs_skip (by omega)]; assumption) | (rw [hbt]; assumption) | (have hz := hbb14; rw [hst1.1, hst1.2] at hz; rw [hbt]; exact hz.at)), (by first | assumption | omega | (dsimp only; omega) | (simp; done)), hV, hQ2⟩
          ·repeat (first | (with_reducible exact Agree.merge _ _ _) | (with_reducible exact Agree.refl _ _) | (with_reducible refine Agree.upd ?_ _ _ rfl) | ((with_reducible refine Agree.inner ?_ ?_); (kernel_rfl)))
         ·skip
          refine r_skip ?_
          refine r_seq ?_
          refine r_qregion (by kernel_rfl) (by kernel_rfl) ?_
          refine q_op rfl rfl rfl (fun w' hC => run_mv (v := .slice _ _ _) rfl (by exact rfl)) ?_
          refine q_op rfl rfl rfl (fun w' hC => run_mv (v := .int _ _) rfl (by exact rfl)) ?_
          refine q_op rfl rfl rfl (fun w' hC => run_mv (v := .int _ _) rfl (by exact rfl)) ?_
          refine q_op rfl rfl rfl (fun w' hC => run_fa rfl (by exact rfl) fo_157_0) ?_
          refine q_op rfl rfl rfl (fun w' hC => run_ld1 rfl ag_3 (by exact rfl) ((hAb23.evo0 hC).cell 0 (by exact rfl))) ?_
          refine q_op rfl rfl rfl (fun w' hC => run_add rfl (by exact rfl) (by exact rfl) (by omega) (by omega)) ?_
          refine q_op rfl rfl rfl (fun w' hC => run_slR (i0) ((i0 + (stp x).1)) rfl Try.underlying92 ty_149 (by exact rfl) (ha.evo0 hC) (at1 (by exact rfl) (by omega)) (at1 (by exact rfl) (by omega)) (by first | omega | (simp; omega)) (by first | omega | (simp; omega)) rfl) ?_
          have hS260 := (ha0.take ((i0 + (stp x).1))).drop (i0)
          have hS26 := (ha.take ((i0 + (stp x).1))).drop (i0)
          have hbd_hS26 := hS26.bd
          refine q_op rfl rfl rfl (fun w' hC => run_mv (v := .slice _ _ _) rfl (by exact rfl)) ?_
          refine q_op rfl rfl rfl (fun w' hC => run_mv (v := .int _ _) rfl (by exact rfl)) ?_
          refine q_op rfl rfl rfl (fun w' hC => run_mv (v := .int _ _) rfl (by exact rfl)) ?_
          refine q_op rfl rfl rfl (fun w' hC => run_fa rfl (by exact rfl) fo_157_1) ?_
          refine q_op rfl rfl rfl (fun w' hC => run_ld1 rfl ag_3 (by exact rfl) ((hAb23.evo0 hC).cell 1 (by exact rfl))) ?_
          refine q_op rfl rfl rfl (fun w' hC => run_add rfl (by exact rfl) (by exact rfl) (by omega) (by omega)) ?_
          refine q_op rfl rfl rfl (fun w' hC => run_slR (j0) ((j0 + (stp x).2)) rfl Try.underlying92 ty_149 (by exact rfl) (hb.evo0 hC) (at1 (by exact rfl) (by omega)) (at1 (by exact rfl) (by omega)) (by first | omega | (simp; omega)) (by first | omega | (simp; omega)) rfl) ?_
          have hS270 := (hb0.take ((j0 + (stp x).2))).drop (j0)
          have hS27 := (hb.take ((j0 + (stp x).2))).drop (j0)
          have hbd_hS27 := hS27.bd
          refine q_call rfl rfl rfl (fun w' hC => run_callf rfl (argcons (v := .slice _ _ _) (by exact rfl) (argcons (v := .slice _ _ _) (by exact rfl) (rfl))) Try.func103 rfl (by kernel_rfl)) (fun w' hC => (cost_calls (hS26.evo0 hC) (hS27.evo0 hC)).mono (fun e w'' h => ⟨h.1, evo_step0 hC h.2⟩)) ?_
          refine q_op rfl rfl rfl (fun w' hC => run_mv (v := .tuple _) rfl (by exact rfl)) ?_
          refine q_op rfl rfl rfl (fun w' hC => run_extract (v := .int _ _) rfl (by exact rfl) (by exact rfl)) ?_
          refine q_op rfl rfl rfl (fun w' hC => run_extract (v := .bool _) rfl (by exact rfl) (by exact rfl)) ?_
          refine q_op rfl rfl rfl (fun w' hC => run_asg (v := .int _ _) rfl (by exact rfl)) ?_
          refine q_op rfl rfl rfl (fun w' hC => run_asg (v := .bool _) rfl (by exact rfl)) ?_
          refine q_nil (fun w28 hE29 => ?_)
          have hs_w28 := (hE29).size
          replace hV := evo_step0 hV hE29
          replace hQ2 := evo_step0 hQ2 hE29
          replace ha := ha0.now hV
          replace hb := hb0.now hV
          replace hT := hT0 _ hQ2
          replace hst16 := hst16.evo0 hE29
          replace hbb14 := hbb14.evo0 hE29
          replace hAb14 := hAb14.evo0 hE29
          replace hbb23 := hbb23.evo0 hE29
          replace hAb23 := hAb23.evo0 hE29
          refine r_seq ?_
          have hcb : 0 ≤ (ourCost ((a.take (i0 + (stp x).1)).drop i0) ((b.take (j0 + (stp x).2)).drop j0)).1 ∧ (ourCost ((a.take (i0 + (stp x).1)).drop i0) ((b.take (j0 + (stp x).2)).drop j0)).1 ≤ 200000 := costF_bd a b i0 j0 (stp x).1 (stp x).2
          have hpb : 0 ≤ prA a b (i0 + (stp x).1) (j0 + (stp x).2) ∧ prA a b (i0 + (stp x).1) (j0 + (stp x).2) ≤ 25600000 := prc_bdA a b (i0 + (stp x).1) (j0 + (stp x).2) (by omega) (by omega) (by omega) (by omega)
          refine r_qregion (by kernel_rfl) (by kernel_rfl) ?_
          refine q_op rfl rfl rfl (fun w' hC => run_mv (v := .int _ _) rfl (by exact rfl)) ?_
          refine q_op rfl rfl rfl (fun w' hC => run_mv (v := .slice (some ⟨bt, 0, none⟩) _ _) rfl (by exact rfl)) ?_
          refine q_op rfl rfl rfl (fun w' hC => run_mv (v := .int _ _) rfl (by exact rfl)) ?_
          refine q_op rfl rfl rfl (fun w' hC => run_fa rfl (by exact rfl) fo_157_0) ?_
          refine q_op rfl rfl rfl (fun w' hC => run_ld1 rfl ag_3 (by exact rfl) ((hAb23.evo0 hC).cell 0 (by exact rfl))) ?_
          refine q_op rfl rfl rfl (fun w' hC => run_add rfl (by exact rfl) (by exact rfl) (by omega) (by omega)) ?_
          refine q_op rfl rfl rfl (fun w' hC => run_ix ((i0 + (stp x).1)) rfl Try.underlying154 ty_155 (by exact rfl) (by exact rfl) (by first | exact rfl | omega) (by omega) rfl) ?_
          refine q_op rfl rfl rfl (fun w' hC => run_ld1 rfl ag_155 (by exact rfl) ((hT.evo0 hC).load (i0 + (stp x).1) (by omega) (by omega))) ?_
          refine q_op rfl rfl rfl (fun w' hC => run_mv (v := .int _ _) rfl (by exact rfl)) ?_
          refine q_op rfl rfl rfl (fun w' hC => run_fa rfl (by exact rfl) fo_157_1) ?_
          refine q_op rfl rfl rfl (fun w' hC => run_ld1 rfl ag_3 (by exact rfl) ((hAb23.evo0 hC).cell 1 (by exact rfl))) ?_
          refine q_op rfl rfl rfl (fun w' hC => run_add rfl (by exact rfl) (by exact rfl) (by omega) (by omega)) ?_
          refine q_op rfl rfl rfl (fun w' hC => run_ix ((j0 + (stp x).2)) rfl Try.underlying155 ty_159 (by exact rfl) (by exact rfl) (by first | exact rfl | omega) (by omega) rfl) ?_
          refine q_op rfl rfl rfl (fun w' hC => run_fa rfl (by exact rfl) fo_159_0) ?_
          refine q_op rfl rfl rfl (fun w' hC => run_ld1 rfl ag_3 (by exact rfl) (tab_price (hT.evo0 hC) (i0 + (stp x).1) (j0 + (stp x).2) (by omega) (by omega) (by omega) (by omega))) ?_
          refine q_op rfl rfl rfl (fun w' hC => run_add rfl (by exact rfl) (by exact rfl) (by omega) (by omega)) ?_
          refine q_op rfl rfl rfl (fun w' hC => run_asg (v := .int _ _) rfl (by exact rfl)) ?_
          refine q_nil (fun w30 hE31 => ?_)
          have hs_w30 := (hE31).size
          replace hV := evo_step0 hV hE31
          replace hQ2 := evo_step0 hQ2 hE31
          replace ha := ha0.now hV
          replace hb := hb0.now hV
          replace hT := hT0 _ hQ2
          replace hst16 := hst16.evo0 hE31
          replace hbb14 := hbb14.evo0 hE31
          replace hAb14 := hAb14.evo0 hE31
          replace hbb23 := hbb23.evo0 hE31
          replace hAb23 := hAb23.evo0 hE31
          refine r_seq ?_
          refine r_region ?_
          refine r_op rfl rfl rfl (run_fa rfl (by exact rfl) fo_159_0) ?_
          refine r_op rfl rfl rfl (run_ld1 rfl ag_3 (by exact rfl) (hAb14.cell 0 (by exact rfl))) ?_
          refine r_op rfl rfl rfl (run_lss rfl (by exact rfl) (by exact rfl)) ?_
          refine r_op rfl rfl rfl (run_mv (v := .bool _) rfl (by exact rfl)) ?_
          refine r_g rfl (wantF (by exact rfl)) rfl (fun hg => run_mv (v := .int _ _) rfl (by exact rfl)) ?_
          refine r_g rfl (wantF (by exact rfl)) rfl (fun hg => run_fa rfl (by exact rfl) fo_159_0) ?_
          refine r_g rfl (wantF (by exact rfl)) rfl (fun hg => run_ld1 rfl ag_3 (glv (by exact rfl) (fun h => h) hg) (hAb14.cell 0 (by exact rfl))) ?_
          refine r_g rfl (wantF (by exact rfl)) rfl (fun hg => run_lss rfl (glv (by exact rfl) (fun h => h) hg) (glv (by exact rfl) (fun h => h) hg)) ?_
          refine r_op rfl rfl rfl (run_pick_or rfl (by exact rfl) rfl (fun hq => glv (by exact rfl) (fun h => h) hq)) ?_
          refine r_nil ?_
          refine r_cond (by exact rfl) (fun hc32 => ?_) (fun hc32 => ?_)
          ·skip
           have hbt := bs_take (by omega) (by omega) (-1, 0, 0) ⟨by omega, by omega⟩ (hc32.imp (bs_none (by omega) (by omega)).2 id)
           refine r_region ?_
           refine r_op rfl rfl rfl (run_mv (v := .int _ _) rfl (by exact rfl)) ?_
           refine r_op rfl rfl rfl (run_ldN rfl ag_157 ty_157 (by exact rfl) rfl hAb23) ?_
           refine r_op rfl rfl rfl (run_bld (pv := [(0, .int _ _), (1, .agg _)]) (zs := [_, _, _]) (cells := [_, _, _]) rfl ty_159 (by exact rfl) pl_159 (by exact rfl) (by exact rfl)) ?_
           refine r_store (v := .agg _) (vs := [_, _, _]) (cs' := [_, _, _]) (by exact rfl) (by exact rfl) hbb14 ty_159 (by exact rfl) rfl (by exact rfl) rfl (by exact rfl) ?_
           intro w33 hEw33 hzw33 hb_new
           have hs_w33 := (hEw33).size
           replace hV := evo_step1 hV hEw33 (by first | exact .inl (by omega) | exact .inr (by simp))
           replace hQ2 := evo_step1 hQ2 hEw33 (by first | exact .inl (by omega) | exact .inr (by simp))
           replace ha := ha0.now hV
           replace hb := hb0.now hV
           replace hT := hT0 _ hQ2
           replace hst16 := hst16.evo hEw33 (by simp; omega)
           replace hbb14 := hb_new
           have hAb14 := hbb14.at
           clear hb_new
           refine r_nil ?_
           refine r_blk ?_
           refine r_region ?_
           refine r_op rfl rfl rfl (run_add rfl (by exact rfl) (by exact rfl) (by omega) (by omega)) ?_
           refine r_op rfl rfl rfl (run_mv (v := .int _ _) rfl (by exact rfl)) ?_
           refine r_nil ?_
           refine r_again (x + 1) ?_ ?_ ?_
           ·first | omega | (dsimp only; omega)
           ·refine ⟨(by first | exact rfl | exact congrArg (Value.int _) (by omega) | exact congrArg (Value.int _) (by dsimp only; omega) | exact congrArg (Value.int _) (by simp) | exact congrArg S (by simp)), (by first | assumption | omega | (dsimp only; omega) | (simp; done)), (by first | assumption | omega | (dsimp only; omega) | (simp; done)), (by first | (rw [bs_skip (by omega)]; assumption) | (rw [hbt]; assumption) | (have hz := hbb14; rw [hst1.1, hst1.2] at hz; rw [hbt]; exact hz)), (by first | (rw [bs_skip (by omega)]; assumption) | (rw [hbt]; assumption) | (have hz := hbb14; rw [hst1.1, hst1.2] at hz; rw [hbt]; exact hz.at)), (by first | assumption | omega | (dsimp only; omega) | (simp; done)), hV, hQ2⟩
           ·repeat (first | (with_reducible exact Agree.merge _ _ _) | (with_reducible exact Agree.refl _ _) | (with_reducible refine Agree.upd ?_ _ _ rfl) | ((with_reducible refine Agree.inner ?_ ?_); (kernel_rfl)))
          ·skip
           have hbt := bs_keep (-1, 0, 0) ⟨by omega, by omega⟩ (fun hn => hc32 (.inl ((bs_none (by omega) (by omega)).1 hn))) (fun hn => hc32 (.inr hn))
           refine r_skip ?_
           refine r_blk ?_
           refine r_region ?_
           refine r_op rfl rfl rfl (run_add rfl (by exact rfl) (by exact rfl) (by omega) (by omega)) ?_
           refine r_op rfl rfl rfl (run_mv (v := .int _ _) rfl (by exact rfl)) ?_
           refine r_nil ?_
           refine r_again (x + 1) ?_ ?_ ?_
           ·first | omega | (dsimp only; omega)
           ·refine ⟨(by first | exact rfl | exact congrArg (Value.int _) (by omega) | exact congrArg (Value.int _) (by dsimp only; omega) | exact congrArg (Value.int _) (by simp) | exact congrArg S (by simp)), (by first | assumption | omega | (dsimp only; omega) | (simp; done)), (by first | assumption | omega | (dsimp only; omega) | (simp; done)), (by first | (rw [bs_skip (by omega)]; assumption) | (rw [hbt]; assumption) | (have hz := hbb14; rw [hst1.1, hst1.2] at hz; rw [hbt]; exact hz)), (by first | (rw [bs_skip (by omega)]; assumption) | (rw [hbt]; assumption) | (have hz := hbb14; rw [hst1.1, hst1.2] at hz; rw [hbt]; exact hz.at)), (by first | assumption | omega | (dsimp only; omega) | (simp; done)), hV, hQ2⟩
           ·repeat (first | (with_reducible exact Agree.merge _ _ _) | (with_reducible exact Agree.refl _ _) | (with_reducible refine Agree.upd ?_ _ _ rfl) | ((with_reducible refine Agree.inner ?_ ?_); (kernel_rfl)))
        ·skip
         refine r_exit rfl ?_
         obtain rfl : x = 6 := by omega
         have hcur := hT.row i0 (Nat.le_refl _) (by omega)
         have hob := (hT.old i0 (Nat.le_refl _) (by omega)).1
         have hnb := (hT.old i0 (Nat.le_refl _) (by omega)).2
         have hT_old := hT
         have hTq := hT.out
         have hbb14_q := hbb14
         have hAb14_q := hAb14
         have hcur_q := hcur
         have hV_q := hV
         refine h_region ([rb1 i0]) (by kernel_rfl) ?_
         intro w34 hE35 hCst
         have hs_w34 := (hE35).size
         replace hV := evo_step0 hV hE35
         replace ha := ha0.now hV
         replace hb := hb0.now hV
         replace hst16 := hst16.evo0 hE35
         replace hbb14 := hbb14.evo0 hE35
         replace hAb14 := hAb14.evo0 hE35
         replace hcur := hcur.evo0 hE35
         refine h_take (i := 0) (by exact rfl) rfl rfl rfl (by kernel_rfl) (fun w' hC => run_mv (v := .slice (some ⟨bt, 0, none⟩) _ _) rfl (by exact rfl)) hCst ?_
         refine h_take (i := 1) (by exact rfl) rfl rfl rfl (by kernel_rfl) (fun w' hC => run_mv (v := .int _ _) rfl (by exact rfl)) hCst ?_
         refine h_take (i := 2) (by exact rfl) rfl rfl rfl (by kernel_rfl) (fun w' hC => run_ix (i0) rfl Try.underlying154 ty_155 (by exact rfl) (by exact rfl) (by first | exact rfl | omega) (by omega) rfl) hCst ?_
         refine h_take (i := 3) (by exact rfl) rfl rfl rfl (by kernel_rfl) (fun w' hC => run_ld1 rfl ag_155 (by exact rfl) ((hTq.evo hC (by simp; exact Ne.symm hnb)).cell0 (x := i0) (by omega) (rowsC_at (Nat.le_refl _)))) hCst ?_
         refine h_take (i := 4) (by exact rfl) rfl rfl rfl (by kernel_rfl) (fun w' hC => run_mv (v := .int _ _) rfl (by exact rfl)) hCst ?_
         refine h_take (i := 5) (by exact rfl) rfl rfl rfl (by kernel_rfl) (fun w' hC => run_ldN rfl ag_159 ty_159 (by exact rfl) rfl (hAb14_q.evo hC (by simp; omega))) hCst ?_
         refine h_take (i := 6) (by exact rfl) rfl rfl rfl (by kernel_rfl) (fun w' hC => run_ix (j0) rfl Try.underlying155 ty_159 (by exact rfl) (by exact rfl) (by first | exact rfl | omega) (by omega) rfl) hCst ?_
         refine h_one (i := 7) (by kernel_rfl) ?_
         refine h_do (by exact rfl) ?_
         refine r_storeF (v := .agg _) (vs := [_, _, _]) (j0) (by exact rfl) rfl (by exact rfl) hcur (by omega) ty_159 (by exact rfl) rfl (by exact rfl) ?_
         intro w36 hEw36 hzw36 hb_new
         have hs_w36 := (hEw36).size
         replace hV := evo_step1 hV hEw36 (by first | exact .inl (by omega) | exact .inr (by simp))
         replace hCst := evo_step1 hCst hEw36 (by first | exact .inl (by omega) | exact .inr (by simp))
         replace ha := ha0.now hV
         replace hb := hb0.now hV
         replace hcur := hb_new
         clear hb_new
         refine h_next hCst ?_
         refine h_done (by kernel_rfl) ?_
         refine r_blk ?_
         refine r_region ?_
         refine r_op rfl rfl rfl (run_mv (v := .int _ _) rfl (by exact rfl)) ?_
         refine r_op rfl rfl rfl (run_sub rfl (by exact rfl) (by exact rfl) (by omega) (by omega)) ?_
         refine r_op rfl rfl rfl (run_asg (v := .int _ _) rfl (by exact rfl)) ?_
         refine r_nil ?_
         refine r_again j0 ?_ ?_ ?_
         ·first | omega | (dsimp only; omega)
         ·refine ⟨(congrArg (Value.int _) (by omega)), (by first | assumption | omega | (dsimp only; omega) | (simp; done)), (by first | exact tab_corner hT (by omega) (by omega) | exact tab_done hT_old (by omega) hCst hcur (congrArg cellV (bs_done (by omega) (by omega) (by omega) _))), (by first | assumption | omega | (dsimp only; omega) | (simp; done)), hV⟩
         ·repeat (first | (with_reducible exact Agree.merge _ _ _) | (with_reducible exact Agree.refl _ _) | (with_reducible refine Agree.upd ?_ _ _ rfl) | ((with_reducible refine Agree.inner ?_ ?_); (kernel_rfl)))
     ·skip
      refine r_exit rfl ?_
      refine r_blk ?_
      refine r_region ?_
      refine r_op rfl rfl rfl (run_mv (v := .int _ _) rfl (by exact rfl)) ?_
      refine r_op rfl rfl rfl (run_sub rfl (by exact rfl) (by exact rfl) (by omega) (by omega)) ?_
      refine r_op rfl rfl rfl (run_asg (v := .int _ _) rfl (by exact rfl)) ?_
      refine r_nil ?_
      refine r_again i0 ?_ ?_ ?_
      ·first | omega | (dsimp only; omega)
      ·refine ⟨rb1, (congrArg (Value.int _) (by omega)), (by first | assumption | omega | (dsimp only; omega) | (simp; done)), (by have hq0 : q = 0 := (by omega); subst hq0; exact tab_full hT), (by first | assumption | omega | (dsimp only; omega) | (simp; done)), hV⟩
      ·repeat (first | (with_reducible exact Agree.merge _ _ _) | (with_reducible exact Agree.refl _ _) | (with_reducible refine Agree.upd ?_ _ _ rfl) | ((with_reducible refine Agree.inner ?_ ?_); (kernel_rfl)))
   ·skip
    refine r_exit rfl ?_
    refine r_seq ?_
    refine r_seq ?_
    obtain rfl : k = 0 := by omega
    have hQ3 : Evo w4 w4 [] := Evo.refl _ _
    have hT0 := fun (w' : World) (h : Evo w4 w' []) => hT.evo0 h
    refine r_region ?_
    refine r_op rfl rfl rfl (run_asg (v := .int _ _) rfl (by exact rfl)) ?_
    refine r_op rfl rfl rfl (run_asg (v := .int _ _) rfl (by exact rfl)) ?_
    refine r_nil ?_
    refine r_block ?_
    refine r_loop (α := Nat × Nat) [4, 15, 16, 17, 136, 137, 138, 139, 140, 141, 142, 143, 144, 145, 146, 147, 148, 149, 150, 151, 152, 153, 154, 155, 156, 157, 158, 159, 160, 161, 162, 163, 164, 165, 166, 167, 168, 169, 170, 171, 172, 173, 174, 175, 176, 177] (fun p g w => ∃ vo : Value, ∃ pl : List Bead, g 4 = vo ∧ g 15 = .int .i64 (p.1 : Nat) ∧ g 16 = .int .i64 (p.2 : Nat) ∧ OwnE w w4.heap.size 165 vo pl ∧ p.1 ≤ a.length ∧ p.2 ≤ b.length ∧ pl ++ trc (costF ourCost a b) a.length b.length p.1 p.2 = trc (costF ourCost a b) a.length b.length 0 0 ∧ pl.length + (a.length - p.1) + (b.length - p.2) ≤ a.length + b.length ∧ w4.heap.size ≤ w.heap.size ∧ Evo w0 w [] ∧ Evo w4 w []) (fun p => a.length - p.1 + (b.length - p.2)) (0, 0) ?_ ?_
    ·refine ⟨_, [], rfl, rfl, rfl, (OwnE.nil _ _ _), (by first | assumption | omega | (dsimp only; omega) | (simp; done)), (by first | assumption | omega | (dsimp only; omega) | (simp; done)), (by first | assumption | omega | (dsimp only; omega) | (simp; done)), (by first | assumption | omega | (dsimp only; omega) | (simp; done)), (by first | assumption | omega | (dsimp only; omega) | (simp; done)), hV, hQ3⟩
    ·rintro p g w38 ⟨vo, pl, hj39, hj40, hj41, ho, hp1, hp2, hpl, hln, hzl37, hV, hQ3⟩
     have hs_w38hV := hV.size
     have hs_w38hQ3 := hQ3.size
     replace ha := ha0.now hV
     replace hb := hb0.now hV
     replace hT := hT0 _ hQ3
     refine r_know (i := 4) (v := vo) (by exact hj39) ?_
     refine r_know (i := 15) (v := .int .i64 (p.1 : Nat)) (by exact hj40) ?_
     refine r_know (i := 16) (v := .int .i64 (p.2 : Nat)) (by exact hj41) ?_
     refine r_seq ?_
     refine r_seq ?_
     refine r_region ?_
     refine r_op rfl rfl rfl (run_mv (v := .int _ _) rfl (by exact rfl)) ?_
     refine r_op rfl rfl rfl (run_mv (v := .slice _ _ _) rfl (by exact rfl)) ?_
     refine r_op rfl rfl rfl (run_lenSl rfl (by exact rfl) Try.underlying92) ?_
     refine r_op rfl rfl rfl (run_lss rfl (by exact rfl) (by exact rfl)) ?_
     refine r_op rfl rfl rfl (run_mv (v := .bool _) rfl (by exact rfl)) ?_
     refine r_g rfl (wantF (by exact rfl)) rfl (fun hg => run_mv (v := .int _ _) rfl (by exact rfl)) ?_
     refine r_g rfl (wantF (by exact rfl)) rfl (fun hg => run_mv (v := .slice _ _ _) rfl (by exact rfl)) ?_
     refine r_g rfl (wantF (by exact rfl)) rfl (fun hg => run_lenSl rfl (glv (by exact rfl) (fun h => h) hg) Try.underlying92) ?_
     refine r_g rfl (wantF (by exact rfl)) rfl (fun hg => run_lss rfl (glv (by exact rfl) (fun h => h) hg) (glv (by exact rfl) (fun h => h) hg)) ?_
     refine r_op rfl rfl rfl (run_pick_or rfl (by exact rfl) rfl (fun hq => glv (by exact rfl) (fun h => h) hq)) ?_
     refine r_nil ?_
     refine r_cond (by exact rfl) (fun hc42 => ?_) (fun hc42 => ?_)
     ·skip
      refine r_skip ?_
      refine r_block ?_
      refine r_seq ?_
      have hbs : (∃ y, y < 6 ∧ (beA a b p.1 p.2).2 = stp y) ∧ (p.1 + (beA a b p.1 p.2).2.1) ≤ a.length ∧ (p.2 + (beA a b p.1 p.2).2.2) ≤ b.length := by
        have h := best_step (cst := costF ourCost a b) hp1 hp2 (by omega)
        exact ⟨h.1, h.2.1, h.2.2.1⟩
      obtain ⟨⟨y, hy, hys⟩, hs1, hs2⟩ := hbs
      have hsb := stp_bd y
      rw [← hys] at hsb
      refine r_region ?_
      refine r_op rfl rfl rfl (run_mv (v := .slice (some ⟨bt, 0, none⟩) _ _) rfl (by exact rfl)) ?_
      refine r_op rfl rfl rfl (run_mv (v := .int _ _) rfl (by exact rfl)) ?_
      refine r_op rfl rfl rfl (run_ix (p.1) rfl Try.underlying154 ty_155 (by exact rfl) (by exact rfl) (by first | exact rfl | omega) (by omega) rfl) ?_
      refine r_op rfl rfl rfl (run_ld1 rfl ag_155 (by exact rfl) (hT.load p.1 (by omega) (by omega))) ?_
      refine r_op rfl rfl rfl (run_mv (v := .int _ _) rfl (by exact rfl)) ?_
      refine r_op rfl rfl rfl (run_ix (p.2) rfl Try.underlying155 ty_159 (by exact rfl) (by exact rfl) (by first | exact rfl | omega) (by omega) rfl) ?_
      refine r_op rfl rfl rfl (run_fa rfl (by exact rfl) fo_159_1) ?_
      refine r_op rfl rfl rfl (run_ldN (cs := [_, _]) rfl ag_157 ty_157 (by exact rfl) rfl (tab_stepF hT p.1 p.2 (by omega) (by omega) (by omega))) ?_
      have hob43 := fun g hg => (ho.block (g := g) hg).2
      refine r_var (zs := [_, _]) (vs := [_, _]) ty_157 (by exact rfl) rfl (by exact rfl) (fun _ => rfl) (by exact rfl) rfl rfl (by exact rfl) ?_
      intro b44 w45 heb44 hEw45 hbb44 hzb44
      have hs_w45 := (hEw45).size
      replace hV := evo_step0 hV hEw45
      replace hQ3 := evo_step0 hQ3 hEw45
      replace ha := ha0.now hV
      replace hb := hb0.now hV
      replace hT := hT0 _ hQ3
      replace ho := ho.evo0 hEw45
      have hAb44 := hbb44.at
      refine r_nil ?_
      refine r_seq ?_
      refine r_region ?_
      refine r_op rfl rfl rfl (run_mv (v := vo) rfl (by exact rfl)) ?_
      refine r_op rfl rfl rfl (run_mv (v := .int _ _) rfl (by exact rfl)) ?_
      refine r_op rfl rfl rfl (run_mv (v := .int _ _) rfl (by exact rfl)) ?_
      refine r_op rfl rfl rfl (run_fa rfl (by exact rfl) fo_157_0) ?_
      refine r_op rfl rfl rfl (run_ld1 rfl ag_3 (by exact rfl) (hAb44.cell 0 (by exact rfl))) ?_
      refine r_op rfl rfl rfl (run_add rfl (by exact rfl) (by exact rfl) (by omega) (by omega)) ?_
      refine r_op rfl rfl rfl (run_bld (pv := [(0, .int _ _), (1, .int _ _)]) (zs := [_, _]) (cells := [_, _]) rfl ty_163 (by exact rfl) pl_163 (by exact rfl) (by exact rfl)) ?_
      refine r_op rfl rfl rfl (run_mv (v := .int _ _) rfl (by exact rfl)) ?_
      refine r_op rfl rfl rfl (run_mv (v := .int _ _) rfl (by exact rfl)) ?_
      refine r_op rfl rfl rfl (run_fa rfl (by exact rfl) fo_157_1) ?_
      refine r_op rfl rfl rfl (run_ld1 rfl ag_3 (by exact rfl) (hAb44.cell 1 (by exact rfl))) ?_
      refine r_op rfl rfl rfl (run_add rfl (by exact rfl) (by exact rfl) (by omega) (by omega)) ?_
      refine r_op rfl rfl rfl (run_bld (pv := [(0, .int _ _), (1, .int _ _)]) (zs := [_, _]) (cells := [_, _]) rfl ty_163 (by exact rfl) pl_163 (by exact rfl) (by exact rfl)) ?_
      refine r_op rfl rfl rfl (run_bld (pv := [(0, .agg _), (1, .agg _)]) (zs := [_, _, _, _]) (cells := [_, _, _, _]) rfl ty_165 (by exact rfl) pl_165 (by exact rfl) (by exact rfl)) ?_
      refine r_append1E (u := .agg _) (y := ⟨_, _, _, _⟩) rfl rfl Try.underlying97 ty_165 (by exact rfl) ho (fun _ => (by exact rfl)) (by exact rfl) (by first | exact rfl | (show _ = List.toArray [_, _, _, _]; first | (dsimp only; done) | exact rfl | (dsimp only; exact rfl))) (by omega) (by omega) (by omega) ?_
      intro q_v46 v46 w47 hEw47 hov46 hlv46
      have hs_w47 := (hEw47).size
      replace hV := evo_stepo hV hEw47 (fun g hg => .inl (by first | exact (ho.block hg).1 | (have := ho.block hg; omega)))
      replace hQ3 := evo_stepo hQ3 hEw47 (fun g hg => .inl (by first | exact (ho.block hg).1 | (have := ho.block hg; omega)))
      replace ha := ha0.now hV
      replace hb := hb0.now hV
      replace hT := hT0 _ hQ3
      replace hbb44 := hbb44.evo hEw47 (by intro hm; have hm2 := Option.mem_toList.1 hm; have := hob43 _ hm2; omega)
      replace hAb44 := hAb44.evo hEw47 (by intro hm; have hm2 := Option.mem_toList.1 hm; have := hob43 _ hm2; omega)
      refine r_op rfl rfl rfl (run_asg (v := v46) rfl (by exact rfl)) ?_
      refine r_nil ?_
      refine r_qregion (by kernel_rfl) (by kernel_rfl) ?_
      refine q_op rfl rfl rfl (fun w' hC => run_mv (v := .int _ _) rfl (by exact rfl)) ?_
      refine q_op rfl rfl rfl (fun w' hC => run_fa rfl (by exact rfl) fo_157_0) ?_
      refine q_op rfl rfl rfl (fun w' hC => run_ld1 rfl ag_3 (by exact rfl) ((hAb44.evo0 hC).cell 0 (by exact rfl))) ?_
      refine q_op rfl rfl rfl (fun w' hC => run_add rfl (by exact rfl) (by exact rfl) (by omega) (by omega)) ?_
      refine q_op rfl rfl rfl (fun w' hC => run_mv (v := .int _ _) rfl (by exact rfl)) ?_
      refine q_op rfl rfl rfl (fun w' hC => run_fa rfl (by exact rfl) fo_157_1) ?_
      refine q_op rfl rfl rfl (fun w' hC => run_ld1 rfl ag_3 (by exact rfl) ((hAb44.evo0 hC).cell 1 (by exact rfl))) ?_
      refine q_op rfl rfl rfl (fun w' hC => run_add rfl (by exact rfl) (by exact rfl) (by omega) (by omega)) ?_
      refine q_op rfl rfl rfl (fun w' hC => run_asg (v := .int _ _) rfl (by exact rfl)) ?_
      refine q_op rfl rfl rfl (fun w' hC => run_asg (v := .int _ _) rfl (by exact rfl)) ?_
      refine q_nil (fun w48 hE49 => ?_)
      have hs_w48 := (hE49).size
      replace hV := evo_step0 hV hE49
      replace hQ3 := evo_step0 hQ3 hE49
      replace ha := ha0.now hV
      replace hb := hb0.now hV
      replace hT := hT0 _ hQ3
      replace hov46 := hov46.evo0 hE49
      refine r_blk ?_
      refine r_again ((p.1 + (beA a b p.1 p.2).2.1), (p.2 + (beA a b p.1 p.2).2.2)) ?_ ?_ ?_
      ·first | omega | (dsimp only; omega)
      ·refine ⟨_, _, (by first | exact rfl | exact congrArg (Value.int _) (by omega) | exact congrArg (Value.int _) (by dsimp only; omega) | exact congrArg (Value.int _) (by simp) | exact congrArg S (by simp)), (by first | exact rfl | exact congrArg (Value.int _) (by omega) | exact congrArg (Value.int _) (by dsimp only; omega) | exact congrArg (Value.int _) (by simp) | exact congrArg S (by simp)), (by first | exact rfl | exact congrArg (Value.int _) (by omega) | exact congrArg (Value.int _) (by dsimp only; omega) | exact congrArg (Value.int _) (by simp) | exact congrArg S (by simp)), hov46, (by first | assumption | omega | (dsimp only; omega) | (simp; done)), (by first | assumption | omega | (dsimp only; omega) | (simp; done)), (by rw [← hpl, trc_step hp1 hp2 (by omega)]; simp), (by simp only [List.length_append, List.length_cons, List.length_nil]; omega), (by first | assumption | omega | (dsimp only; omega) | (simp; done)), hV, hQ3⟩
      ·repeat (first | (with_reducible exact Agree.merge _ _ _) | (with_reducible exact Agree.refl _ _) | (with_reducible refine Agree.upd ?_ _ _ rfl) | ((with_reducible refine Agree.inner ?_ ?_); (kernel_rfl)))
     ·skip
      refine r_exit rfl ?_
      refine r_seq ?_
      refine r_qregion (by kernel_rfl) (by kernel_rfl) ?_
      refine q_op rfl rfl rfl (fun w' hC => run_mv (v := vo) rfl (by exact rfl)) ?_
      refine q_op rfl rfl rfl (fun w' hC => run_mv (v := .slice (some ⟨bt, 0, none⟩) _ _) rfl (by exact rfl)) ?_
      refine q_op rfl rfl rfl (fun w' hC => run_ix (0) rfl Try.underlying154 ty_155 (by exact rfl) (by exact rfl) (by first | exact rfl | omega) (by omega) rfl) ?_
      refine q_op rfl rfl rfl (fun w' hC => run_ld1 rfl ag_155 (by exact rfl) ((hT.evo0 hC).load 0 (by omega) (by omega))) ?_
      refine q_op rfl rfl rfl (fun w' hC => run_ix (0) rfl Try.underlying155 ty_159 (by exact rfl) (by exact rfl) (by first | exact rfl | omega) (by omega) rfl) ?_
      refine q_op rfl rfl rfl (fun w' hC => run_fa rfl (by exact rfl) fo_159_0) ?_
      refine q_op rfl rfl rfl (fun w' hC => run_ld1 rfl ag_3 (by exact rfl) (tab_priceF (hT.evo0 hC) 0 0 (by omega) (by omega) (by omega))) ?_
      refine q_op rfl rfl rfl (fun w' hC => run_asg (v := vo) rfl (by exact rfl)) ?_
      refine q_op rfl rfl rfl (fun w' hC => run_asg (v := .int _ _) rfl (by exact rfl)) ?_
      refine q_op rfl rfl rfl (fun w' hC => run_asg (v := .int _ _) rfl (by exact rfl)) ?_
      refine q_nil (fun w50 hE51 => ?_)
      have hs_w50 := (hE51).size
      replace hV := evo_step0 hV hE51
      replace hQ3 := evo_step0 hQ3 hE51
      replace ha := ha0.now hV
      replace hb := hb0.now hV
      replace hT := hT0 _ hQ3
      replace ho := ho.evo0 hE51
      refine r_ret (res3 (v := vo) (u := .int _ _) (x := .int _ _) rfl (by exact rfl) (by exact rfl) (by exact rfl)) ?_
      exact ⟨_, by rw [show alignL a b = _ from if_neg (by omega)], hV, by
        rw [show alignL a b = _ from if_neg (by omega)]
        rw [trc_end (by omega), List.append_nil] at hpl
        rw [← hpl]
        exact ho.base_le (by omega)⟩

end Go.Proofs.Ytomklacppmaljaa

namespace Go.Proofs.Ytomklacppmaljaa
open Go.RowKit Go.Vc
theorem pl_149 : placesP Try.prog 149 = some [(0, 1), (1, 1)] := by kernel_rfl
theorem known1 : ourCost [⟨10, [[55]]⟩] [⟨13, [[55]]⟩] = (30, true) := by decide +kernel
theorem known2 : alignL [⟨9, []⟩] [⟨4, []⟩, ⟨5, []⟩] = ([⟨0, 1, 0, 2⟩], 150, 0) := by decide +kernel

theorem aknown_calls  {w0 : World}  :
    Calls Try.prog 61 #[] w0 fun e w' => e = .returned (.bool true) ∧ Evo w0 w' [] := by
 refine calls_enter (n := 44) (args := []) Try.func61 rfl Try.ntmps61 rfl ?_
 have hV : Evo w0 w0 [] := Evo.refl _ _
 refine r_seq ?_
 refine r_region ?_
 refine r_op rfl rfl rfl (run_asg (v := .bool _) rfl (by exact rfl)) ?_
 refine r_nil ?_
 refine r_seq ?_
 refine r_region ?_
 refine r_bslice (pv := [(0, S _)]) (zs := [_]) (cs := [_]) Try.underlying34 ty_9 (by exact rfl) rfl (by exact rfl) rfl (by exact rfl) ?_
 intro b1 w2 heb1 hEw2 hbb1 hzb1
 have hs_w2 := (hEw2).size
 replace hV := evo_step0 hV hEw2
 have hAb1 := hbb1.at
 have hrb1 : RowE w2 (some ⟨b1, 0, none⟩) b1 0 1 ([[55]] : List Str) := rowLit ([[55]] : List Str) hbb1 rfl rfl
 refine r_op rfl rfl rfl (run_bld (pv := [(0, .int _ _), (1, .slice (some ⟨b1, 0, none⟩) _ _)]) (zs := [_, _]) (cells := [_, _]) rfl ty_149 (by exact rfl) pl_149 (by exact rfl) (by exact rfl)) ?_
 refine r_bslice (pv := [(0, .agg _)]) (zs := [_, _]) (cs := [_, _]) Try.underlying92 ty_149 (by exact rfl) rfl (by exact rfl) rfl (by exact rfl) ?_
 intro b3 w4 heb3 hEw4 hbb3 hzb3
 have hs_w4 := (hEw4).size
 replace hV := evo_step0 hV hEw4
 replace hrb1 := hrb1.evo0 hEw4
 have hAb3 := hbb3.at
 have hrb3 : RowR w4 (some ⟨b3, 0, none⟩) b3 0 1 ([⟨10, [[55]]⟩] : List Side) := rowLitR [[_, _]] ([⟨10, [[55]]⟩] : List Side) hbb3 rfl (RepL.one (side_lit _ hrb1 rfl)) rfl
 refine r_bslice (pv := [(0, S _)]) (zs := [_]) (cs := [_]) Try.underlying34 ty_9 (by exact rfl) rfl (by exact rfl) rfl (by exact rfl) ?_
 intro b5 w6 heb5 hEw6 hbb5 hzb5
 have hs_w6 := (hEw6).size
 replace hV := evo_step0 hV hEw6
 replace hrb1 := hrb1.evo0 hEw6
 replace hrb3 := hrb3.evo0 hEw6
 have hAb5 := hbb5.at
 have hrb5 : RowE w6 (some ⟨b5, 0, none⟩) b5 0 1 ([[55]] : List Str) := rowLit ([[55]] : List Str) hbb5 rfl rfl
 refine r_op rfl rfl rfl (run_bld (pv := [(0, .int _ _), (1, .slice (some ⟨b5, 0, none⟩) _ _)]) (zs := [_, _]) (cells := [_, _]) rfl ty_149 (by exact rfl) pl_149 (by exact rfl) (by exact rfl)) ?_
 refine r_bslice (pv := [(0, .agg _)]) (zs := [_, _]) (cs := [_, _]) Try.underlying92 ty_149 (by exact rfl) rfl (by exact rfl) rfl (by exact rfl) ?_
 intro b7 w8 heb7 hEw8 hbb7 hzb7
 have hs_w8 := (hEw8).size
 replace hV := evo_step0 hV hEw8
 replace hrb1 := hrb1.evo0 hEw8
 replace hrb3 := hrb3.evo0 hEw8
 replace hrb5 := hrb5.evo0 hEw8
 have hAb7 := hbb7.at
 have hrb7 : RowR w8 (some ⟨b7, 0, none⟩) b7 0 1 ([⟨13, [[55]]⟩] : List Side) := rowLitR [[_, _]] ([⟨13, [[55]]⟩] : List Side) hbb7 rfl (RepL.one (side_lit _ hrb5 rfl)) rfl
 refine r_opcall rfl rfl rfl (run_callf (vs := [.slice (some ⟨b3, 0, none⟩) _ _, .slice (some ⟨b7, 0, none⟩) _ _]) rfl (by exact rfl) Try.func103 rfl (by kernel_rfl)) (cost_calls hrb3 hrb7) ?_
 rintro e w9 ⟨rfl, hE9⟩
 refine ⟨_, rfl, ?_⟩
 have hs_w9 := (hE9).size
 replace hV := evo_step0 hV hE9
 replace hrb1 := hrb1.evo0 hE9
 replace hrb3 := hrb3.evo0 hE9
 replace hrb5 := hrb5.evo0 hE9
 replace hrb7 := hrb7.evo0 hE9
 refine r_op rfl rfl rfl (run_mv (v := .tuple _) rfl (by exact rfl)) ?_
 refine r_op rfl rfl rfl (run_extract (v := .int _ _) rfl (by exact rfl) (by exact rfl)) ?_
 refine r_op rfl rfl rfl (run_extract (v := .bool _) rfl (by exact rfl) (by exact rfl)) ?_
 refine r_op rfl rfl rfl (run_asg (v := .int _ _) rfl (by exact rfl)) ?_
 refine r_op rfl rfl rfl (run_asg (v := .bool _) rfl (by exact rfl)) ?_
 refine r_nil ?_
 refine r_seq ?_
 refine r_region ?_
 refine r_op rfl rfl rfl (run_bld (pv := [(0, .int _ _)]) (zs := [_, _]) (cells := [_, _]) rfl ty_149 (by exact rfl) pl_149 (by exact rfl) (by exact rfl)) ?_
 refine r_bslice (pv := [(0, .agg _)]) (zs := [_, _]) (cs := [_, _]) Try.underlying92 ty_149 (by exact rfl) rfl (by exact rfl) rfl (by exact rfl) ?_
 intro b10 w11 heb10 hEw11 hbb10 hzb10
 have hs_w11 := (hEw11).size
 replace hV := evo_step0 hV hEw11
 replace hrb1 := hrb1.evo0 hEw11
 replace hrb3 := hrb3.evo0 hEw11
 replace hrb5 := hrb5.evo0 hEw11
 replace hrb7 := hrb7.evo0 hEw11
 have hAb10 := hbb10.at
 have hrb10 : RowR w11 (some ⟨b10, 0, none⟩) b10 0 1 ([⟨9, []⟩] : List Side) := rowLitR [[_, _]] ([⟨9, []⟩] : List Side) hbb10 rfl (RepL.one (side_nil _ _)) rfl
 refine r_op rfl rfl rfl (run_bld (pv := [(0, .int _ _)]) (zs := [_, _]) (cells := [_, _]) rfl ty_149 (by exact rfl) pl_149 (by exact rfl) (by exact rfl)) ?_
 refine r_op rfl rfl rfl (run_bld (pv := [(0, .int _ _)]) (zs := [_, _]) (cells := [_, _]) rfl ty_149 (by exact rfl) pl_149 (by exact rfl) (by exact rfl)) ?_
 refine r_bslice (pv := [(0, .agg _), (1, .agg _)]) (zs := [_, _]) (cs := [_, _, _, _]) Try.underlying92 ty_149 (by exact rfl) rfl (by exact rfl) rfl (by exact rfl) ?_
 intro b12 w13 heb12 hEw13 hbb12 hzb12
 have hs_w13 := (hEw13).size
 replace hV := evo_step0 hV hEw13
 replace hrb1 := hrb1.evo0 hEw13
 replace hrb3 := hrb3.evo0 hEw13
 replace hrb5 := hrb5.evo0 hEw13
 replace hrb7 := hrb7.evo0 hEw13
 replace hrb10 := hrb10.evo0 hEw13
 have hAb12 := hbb12.at
 have hrb12 : RowR w13 (some ⟨b12, 0, none⟩) b12 0 2 ([⟨4, []⟩, ⟨5, []⟩] : List Side) := rowLitR [[_, _], [_, _]] ([⟨4, []⟩, ⟨5, []⟩] : List Side) hbb12 rfl (RepL.append (RepL.one (side_nil _ _)) (RepL.one (side_nil _ _))) rfl
 refine r_opcall rfl rfl rfl (run_callf (vs := [.slice (some ⟨b10, 0, none⟩) _ _, .slice (some ⟨b12, 0, none⟩) _ _]) rfl (by exact rfl) Try.func66 rfl (by kernel_rfl)) (align_calls hrb10 hrb12) ?_
 rintro e w14 ⟨va14, rfl, hE14, ho14⟩
 refine ⟨_, rfl, ?_⟩
 have hs_w14 := (hE14).size
 replace hV := evo_step0 hV hE14
 replace hrb1 := hrb1.evo0 hE14
 replace hrb3 := hrb3.evo0 hE14
 replace hrb5 := hrb5.evo0 hE14
 replace hrb7 := hrb7.evo0 hE14
 replace hrb10 := hrb10.evo0 hE14
 replace hrb12 := hrb12.evo0 hE14
 refine r_op rfl rfl rfl (run_mv (v := .tuple _) rfl (by exact rfl)) ?_
 refine r_op rfl rfl rfl (run_extract (v := va14) rfl (by exact rfl) (by exact rfl)) ?_
 refine r_op rfl rfl rfl (run_extract (v := .int _ _) rfl (by exact rfl) (by exact rfl)) ?_
 refine r_op rfl rfl rfl (run_extract (v := .int _ _) rfl (by exact rfl) (by exact rfl)) ?_
 refine r_op rfl rfl rfl (run_asg (v := va14) rfl (by exact rfl)) ?_
 refine r_op rfl rfl rfl (run_asg (v := .int _ _) rfl (by exact rfl)) ?_
 refine r_op rfl rfl rfl (run_asg (v := .int _ _) rfl (by exact rfl)) ?_
 refine r_nil ?_
 refine r_seq ?_
 refine r_region ?_
 refine r_op rfl rfl rfl (run_mvb rfl (by exact rfl)) ?_
 refine r_op rfl rfl rfl (run_mv (v := .bool _) rfl (by exact rfl)) ?_
 refine r_g rfl (wantT (by exact rfl)) rfl (fun hg => run_mv (v := .int _ _) rfl (by exact rfl)) ?_
 refine r_g rfl (wantT (by exact rfl)) rfl (fun hg => run_eql rfl (glv (by exact rfl) (fun h => h) hg) (by exact rfl)) ?_
 refine r_op rfl rfl rfl (run_pick_and rfl (by exact rfl) (fun hq => glv (by exact rfl) (fun h => h) hq) rfl) ?_
 refine r_op rfl rfl rfl (run_mv (v := .bool _) rfl (by exact rfl)) ?_
 refine r_g rfl (wantT (by exact rfl)) rfl (fun hg => run_mv (v := .int _ _) rfl (by exact rfl)) ?_
 refine r_g rfl (wantT (by exact rfl)) rfl (fun hg => run_eql rfl (glv (by exact rfl) (fun h => h) hg) (by exact rfl)) ?_
 refine r_op rfl rfl rfl (run_pick_and rfl (by exact rfl) (fun hq => glv (by exact rfl) (fun h => h) hq) rfl) ?_
 refine r_op rfl rfl rfl (run_mv (v := .bool _) rfl (by exact rfl)) ?_
 refine r_g rfl (wantT (by exact rfl)) rfl (fun hg => run_mv (v := .int _ _) rfl (by exact rfl)) ?_
 refine r_g rfl (wantT (by exact rfl)) rfl (fun hg => run_eql rfl (glv (by exact rfl) (fun h => h) hg) (by exact rfl)) ?_
 refine r_op rfl rfl rfl (run_pick_and rfl (by exact rfl) (fun hq => glv (by exact rfl) (fun h => h) hq) rfl) ?_
 refine r_op rfl rfl rfl (run_mv (v := .bool _) rfl (by exact rfl)) ?_
 refine r_g rfl (wantT (by exact rfl)) rfl (fun hg => run_mv (v := va14) rfl (by exact rfl)) ?_
 refine r_g rfl (wantT (by exact rfl)) rfl (fun hg => run_lenOE rfl (glv (by exact rfl) (fun h => h) hg) Try.underlying97 ho14) ?_
 refine r_g rfl (wantT (by exact rfl)) rfl (fun hg => run_eql rfl (glv (by exact rfl) (fun h => h) hg) (by exact rfl)) ?_
 refine r_op rfl rfl rfl (run_pick_and rfl (by exact rfl) (fun hq => glv (by exact rfl) (fun h => h) hq) rfl) ?_
 refine r_op rfl rfl rfl (run_asg (v := .bool _) rfl (by exact rfl)) ?_
 refine r_nil ?_
 refine r_ret (res1 (v := .bool _) rfl (by exact rfl)) ?_
 exact ⟨ret_bool (by rw [known1, known2]; rfl), hV⟩

end Go.Proofs.Ytomklacppmaljaa

namespace Go.Proofs.Ytomklacppmaljaa
open Go.RowKit Go.Vc

theorem mlength_calls {ao : Option Addr} {b off cap : Nat} {f : List Vc.Item} {w0 : World} (hf : RowE w0 ao b off cap f) (hsm : Mid f) :
    Calls Try.prog 141 #[.slice ao f.length cap] w0 fun e w' => e = .returned (.int .i64 (lengthL f)) ∧ Evo w0 w' [] := by
 have hs1 := hsm.1; have hs2 := hsm.2.1; have hs3 := hsm.2.2
 refine calls_enter (n := 18) (args := [.slice ao f.length cap]) Try.func141 rfl Try.ntmps141 rfl ?_
 have hV : Evo w0 w0 [] := Evo.refl _ _
 have hf0 := keepE hf
 have hbd_hf := hf.bd
 refine r_seq ?_
 refine r_region ?_
 refine r_op rfl rfl rfl (run_asg (v := .int _ _) rfl (by exact rfl)) ?_
 refine r_nil ?_
 refine r_seq ?_
 refine r_region ?_
 refine r_op rfl rfl rfl (run_asg (v := .int _ _) rfl (by exact rfl)) ?_
 refine r_nil ?_
 refine r_seq ?_
 refine r_seq ?_
 refine r_region ?_
 refine r_op rfl rfl rfl (run_mv (v := .slice _ _ _) rfl (by exact rfl)) ?_
 refine r_op rfl rfl rfl (run_lenSl rfl (by exact rfl) Try.underlying85) ?_
 refine r_op rfl rfl rfl (run_mv (v := .int _ _) rfl (by exact rfl)) ?_
 refine r_nil ?_
 refine r_block ?_
 refine r_loop (α := Nat) [3, 5, 8, 9, 10, 11, 12, 13, 14, 15, 16] (fun k g w => g 8 = .int .i64 (k : Nat) ∧ g 3 = .int .i64 (lengthL (f.take k)) ∧ k ≤ f.length ∧ w0.heap.size ≤ w.heap.size ∧ Evo w0 w []) (fun k => f.length - k) 0 ?_ ?_
 ·refine ⟨(by first | exact rfl | exact congrArg (Value.int _) (by omega) | exact congrArg (Value.int _) (by dsimp only; omega) | exact congrArg (Value.int _) (by simp) | exact congrArg S (by simp)), (by exact rfl), (by first | assumption | omega | (dsimp only; omega) | (simp; done)), (by first | assumption | omega | (dsimp only; omega) | (simp; done)), hV⟩
 ·rintro k g w2 ⟨hj3, hj4, hk_k, hzl1, hV⟩
  have hs_w2hV := hV.size
  replace hf := hf0 _ hV
  refine r_know (i := 8) (v := .int .i64 (k : Nat)) (by exact hj3) ?_
  refine r_know (i := 3) (v := .int .i64 (lengthL (f.take k))) (by exact hj4) ?_
  refine r_seq ?_
  refine r_region ?_
  refine r_op rfl rfl rfl (run_lss rfl (by exact rfl) (by exact rfl)) ?_
  refine r_nil ?_
  refine r_seq ?_
  refine r_cond (by exact rfl) (fun hc5 => ?_) (fun hc5 => ?_)
  ·skip
   refine r_skip ?_
   refine r_seq ?_
   refine r_block ?_
   refine r_seq ?_
   refine r_region ?_
   refine r_op rfl rfl rfl (run_ix (k) rfl Try.underlying85 ty_129 (by exact rfl) (by exact rfl) (by first | exact rfl | omega) (by omega) (hf.addr (i := k) (by omega))) ?_
   have hA60 := fun (w' : World) (h : Evo w0 w' []) => (hf0 w' h).atD (k) (by omega)
   have hA6 := hA60 _ hV
   refine r_op rfl rfl rfl (run_ldN rfl ag_129 ty_129 (by exact rfl) rfl hA6) ?_
   refine r_var (zs := [_, _, _]) (vs := [_, _, _]) ty_129 (by exact rfl) rfl (by exact rfl) (fun _ => rfl) (by exact rfl) rfl rfl (by exact rfl) ?_
   intro b7 w8 heb7 hEw8 hbb7 hzb7
   have hs_w8 := (hEw8).size
   replace hV := evo_step0 hV hEw8
   replace hf := hf0 _ hV
   have hAb7 := hbb7.at
   refine r_nil ?_
   have hb1 := lengthL_le (f.take k); have hb2 := sizeL_take f k; have hb3 := width_bd (f.getD k default); have hb4 := hsm.2.2 k; have hb5 : (f.take k).length ≤ f.length := by rw [List.length_take]; omega
   refine r_region ?_
   refine r_op rfl rfl rfl (run_mv (v := .int _ _) rfl (by exact rfl)) ?_
   refine r_op rfl rfl rfl (run_ldN rfl ag_129 ty_129 (by exact rfl) rfl hAb7) ?_
   refine r_opcall rfl rfl rfl (run_callf (vs := [.agg _]) rfl (by exact rfl) Try.func175 rfl (by kernel_rfl)) width_calls ?_
   rintro e w9 ⟨rfl, hE9⟩
   refine ⟨_, rfl, ?_⟩
   have hs_w9 := (hE9).size
   replace hV := evo_step0 hV hE9
   replace hf := hf0 _ hV
   refine r_op rfl rfl rfl (run_add rfl (by exact rfl) (by exact rfl) (by omega) (by omega)) ?_
   refine r_op rfl rfl rfl (run_asg (v := .int _ _) rfl (by exact rfl)) ?_
   refine r_nil ?_
   refine r_blk ?_
   refine r_region ?_
   refine r_op rfl rfl rfl (run_add rfl (by exact rfl) (by exact rfl) (by omega) (by omega)) ?_
   refine r_op rfl rfl rfl (run_mv (v := .int _ _) rfl (by exact rfl)) ?_
   refine r_nil ?_
   refine r_again (k + 1) ?_ ?_ ?_
   ·first | omega | (dsimp only; omega)
   ·refine ⟨(by first | exact rfl | exact congrArg (Value.int _) (by omega) | exact congrArg (Value.int _) (by dsimp only; omega) | exact congrArg (Value.int _) (by simp) | exact congrArg S (by simp)), (congrArg (Value.int _) (by first | (rw [lengthL_succ f k (by omega)]; done) | (rw [lengthL_succ f k (by omega)]; unfold widthL; rw [if_pos (by assumption)]) | (rw [lengthL_succ f k (by omega)]; unfold widthL; rw [if_neg (by assumption)]))), (by first | assumption | omega | (dsimp only; omega) | (simp; done)), (by first | assumption | omega | (dsimp only; omega) | (simp; done)), hV⟩
   ·repeat (first | (with_reducible exact Agree.merge _ _ _) | (with_reducible exact Agree.refl _ _) | (with_reducible refine Agree.upd ?_ _ _ rfl) | ((with_reducible refine Agree.inner ?_ ?_); (kernel_rfl)))
  ·skip
   refine r_exit rfl ?_
   refine r_seq ?_
   refine r_region ?_
   refine r_op rfl rfl rfl (run_mv (v := .int _ _) rfl (by exact rfl)) ?_
   refine r_op rfl rfl rfl (run_asg (v := .int _ _) rfl (by exact rfl)) ?_
   refine r_nil ?_
   refine r_ret (res1 (v := .int _ _) rfl (by exact rfl)) ?_
   exact ⟨ret_int (by rw [List.take_of_length_le (by omega)]), hV⟩

theorem mrlength_calls {ao : Option Addr} {b off cap : Nat} {f : List Vc.Item} {w0 : World} (hf : RowE w0 ao b off cap f) (hsm : Mid f) :
    Calls Try.prog 60 #[.slice ao f.length cap] w0 fun e w' => e = .returned (.int .i64 (lengthL f)) ∧ Evo w0 w' [] := by
 have hs1 := hsm.1; have hs2 := hsm.2.1; have hs3 := hsm.2.2
 refine calls_enter (n := 28) (args := [.slice ao f.length cap]) Try.func60 rfl Try.ntmps60 rfl ?_
 have hV : Evo w0 w0 [] := Evo.refl _ _
 have hf0 := keepE hf
 have hbd_hf := hf.bd
 refine r_seq ?_
 refine r_region ?_
 refine r_op rfl rfl rfl (run_asg (v := .int _ _) rfl (by exact rfl)) ?_
 refine r_nil ?_
 refine r_seq ?_
 refine r_region ?_
 refine r_op rfl rfl rfl (run_asg (v := .int _ _) rfl (by exact rfl)) ?_
 refine r_nil ?_
 refine r_seq ?_
 refine r_seq ?_
 refine r_region ?_
 refine r_op rfl rfl rfl (run_mv (v := .slice _ _ _) rfl (by exact rfl)) ?_
 refine r_op rfl rfl rfl (run_lenSl rfl (by exact rfl) Try.underlying85) ?_
 refine r_op rfl rfl rfl (run_mv (v := .int _ _) rfl (by exact rfl)) ?_
 refine r_nil ?_
 refine r_block ?_
 refine r_loop (α := Nat) [3, 4, 7, 8, 9, 10, 11, 12, 13, 14, 15, 16, 17, 18, 19, 20, 21, 22, 23, 24, 25, 26] (fun k g w => g 7 = .int .i64 (k : Nat) ∧ g 3 = .int .i64 (lengthL (f.take k)) ∧ k ≤ f.length ∧ w0.heap.size ≤ w.heap.size ∧ Evo w0 w []) (fun k => f.length - k) 0 ?_ ?_
 ·refine ⟨(by first | exact rfl | exact congrArg (Value.int _) (by omega) | exact congrArg (Value.int _) (by dsimp only; omega) | exact congrArg (Value.int _) (by simp) | exact congrArg S (by simp)), (by exact rfl), (by first | assumption | omega | (dsimp only; omega) | (simp; done)), (by first | assumption | omega | (dsimp only; omega) | (simp; done)), hV⟩
 ·rintro k g w2 ⟨hj3, hj4, hk_k, hzl1, hV⟩
  have hs_w2hV := hV.size
  replace hf := hf0 _ hV
  refine r_know (i := 7) (v := .int .i64 (k : Nat)) (by exact hj3) ?_
  refine r_know (i := 3) (v := .int .i64 (lengthL (f.take k))) (by exact hj4) ?_
  refine r_seq ?_
  refine r_region ?_
  refine r_op rfl rfl rfl (run_lss rfl (by exact rfl) (by exact rfl)) ?_
  refine r_nil ?_
  refine r_seq ?_
  refine r_cond (by exact rfl) (fun hc5 => ?_) (fun hc5 => ?_)
  ·skip
   refine r_skip ?_
   refine r_seq ?_
   refine r_block ?_
   refine r_seq ?_
   refine r_region ?_
   refine r_op rfl rfl rfl (run_mv (v := .int _ _) rfl (by exact rfl)) ?_
   refine r_op rfl rfl rfl (run_asg (v := .int _ _) rfl (by exact rfl)) ?_
   refine r_nil ?_
   refine r_seq ?_
   have hb1 := lengthL_le (f.take k); have hb2 := sizeL_take f k; have hb3 := width_bd (f.getD k default); have hb4 := hsm.2.2 k; have hb5 : (f.take k).length ≤ f.length := by rw [List.length_take]; omega
   refine r_region ?_
   refine r_op rfl rfl rfl (run_mv (v := .slice _ _ _) rfl (by exact rfl)) ?_
   refine r_op rfl rfl rfl (run_mv (v := .int _ _) rfl (by exact rfl)) ?_
   refine r_op rfl rfl rfl (run_ix (k) rfl Try.underlying85 ty_129 (by exact rfl) (by exact rfl) (by first | exact rfl | omega) (by omega) (hf.addr (i := k) (by omega))) ?_
   have hA60 := fun (w' : World) (h : Evo w0 w' []) => (hf0 w' h).atD (k) (by omega)
   have hA6 := hA60 _ hV
   refine r_op rfl rfl rfl (run_fa rfl (by exact rfl) fo_129_0) ?_
   refine r_op rfl rfl rfl (run_ld1 rfl ag_3 (by exact rfl) (hA6.cell 0 (by exact rfl))) ?_
   refine r_op rfl rfl rfl (run_eql rfl (by exact rfl) (by exact rfl)) ?_
   refine r_nil ?_
   refine r_cond (by exact rfl) (fun hc7 => ?_) (fun hc7 => ?_)
   ·skip
    refine r_region ?_
    refine r_op rfl rfl rfl (run_mv (v := .int _ _) rfl (by exact rfl)) ?_
    refine r_op rfl rfl rfl (run_mv (v := .slice _ _ _) rfl (by exact rfl)) ?_
    refine r_op rfl rfl rfl (run_mv (v := .int _ _) rfl (by exact rfl)) ?_
    refine r_op rfl rfl rfl (run_ix (k) rfl Try.underlying85 ty_129 (by exact rfl) (by exact rfl) (by first | exact rfl | omega) (by omega) (hf.addr (i := k) (by omega))) ?_
    have hA80 := fun (w' : World) (h : Evo w0 w' []) => (hf0 w' h).atD (k) (by omega)
    have hA8 := hA80 _ hV
    refine r_op rfl rfl rfl (run_fa rfl (by exact rfl) fo_129_1) ?_
    refine r_op rfl rfl rfl (run_ld1 rfl ag_9 (by exact rfl) (hA8.cell 1 (by exact rfl))) ?_
    refine r_op rfl rfl rfl (run_lenS rfl (by exact rfl) Try.underlying9) ?_
    refine r_op rfl rfl rfl (run_add rfl (by exact rfl) (by exact rfl) (by omega) (by omega)) ?_
    refine r_op rfl rfl rfl (run_asg (v := .int _ _) rfl (by exact rfl)) ?_
    refine r_nil ?_
    refine r_blk ?_
    refine r_region ?_
    refine r_op rfl rfl rfl (run_add rfl (by exact rfl) (by exact rfl) (by omega) (by omega)) ?_
    refine r_op rfl rfl rfl (run_mv (v := .int _ _) rfl (by exact rfl)) ?_
    refine r_nil ?_
    refine r_again (k + 1) ?_ ?_ ?_
    ·first | omega | (dsimp only; omega)
    ·refine ⟨(by first | exact rfl | exact congrArg (Value.int _) (by omega) | exact congrArg (Value.int _) (by dsimp only; omega) | exact congrArg (Value.int _) (by simp) | exact congrArg S (by simp)), (congrArg (Value.int _) (by first | (rw [lengthL_succ f k (by omega)]; done) | (rw [lengthL_succ f k (by omega)]; unfold widthL; rw [if_pos (by assumption)]) | (rw [lengthL_succ f k (by omega)]; unfold widthL; rw [if_neg (by assumption)]))), (by first | assumption | omega | (dsimp only; omega) | (simp; done)), (by first | assumption | omega | (dsimp only; omega) | (simp; done)), hV⟩
    ·repeat (first | (with_reducible exact Agree.merge _ _ _) | (with_reducible exact Agree.refl _ _) | (with_reducible refine Agree.upd ?_ _ _ rfl) | ((with_reducible refine Agree.inner ?_ ?_); (kernel_rfl)))
   ·skip
    refine r_region ?_
    refine r_op rfl rfl rfl (run_mv (v := .int _ _) rfl (by exact rfl)) ?_
    refine r_op rfl rfl rfl (run_add rfl (by exact rfl) (by exact rfl) (by omega) (by omega)) ?_
    refine r_op rfl rfl rfl (run_asg (v := .int _ _) rfl (by exact rfl)) ?_
    refine r_nil ?_
    refine r_blk ?_
    refine r_region ?_
    refine r_op rfl rfl rfl (run_add rfl (by exact rfl) (by exact rfl) (by omega) (by omega)) ?_
    refine r_op rfl rfl rfl (run_mv (v := .int _ _) rfl (by exact rfl)) ?_
    refine r_nil ?_
    refine r_again (k + 1) ?_ ?_ ?_
    ·first | omega | (dsimp only; omega)
    ·refine ⟨(by first | exact rfl | exact congrArg (Value.int _) (by omega) | exact congrArg (Value.int _) (by dsimp only; omega) | exact congrArg (Value.int _) (by simp) | exact congrArg S (by simp)), (congrArg (Value.int _) (by first | (rw [lengthL_succ f k (by omega)]; done) | (rw [lengthL_succ f k (by omega)]; unfold widthL; rw [if_pos (by assumption)]) | (rw [lengthL_succ f k (by omega)]; unfold widthL; rw [if_neg (by assumption)]))), (by first | assumption | omega | (dsimp only; omega) | (simp; done)), (by first | assumption | omega | (dsimp only; omega) | (simp; done)), hV⟩
    ·repeat (first | (with_reducible exact Agree.merge _ _ _) | (with_reducible exact Agree.refl _ _) | (with_reducible refine Agree.upd ?_ _ _ rfl) | ((with_reducible refine Agree.inner ?_ ?_); (kernel_rfl)))
  ·skip
   refine r_exit rfl ?_
   refine r_seq ?_
   refine r_region ?_
   refine r_op rfl rfl rfl (run_mv (v := .int _ _) rfl (by exact rfl)) ?_
   refine r_op rfl rfl rfl (run_asg (v := .int _ _) rfl (by exact rfl)) ?_
   refine r_nil ?_
   refine r_ret (res1 (v := .int _ _) rfl (by exact rfl)) ?_
   exact ⟨ret_int (by rw [List.take_of_length_le (by omega)]), hV⟩

theorem mfits_calls {ao : Option Addr} {b off cap : Nat} {f : List Vc.Item} {x : Vc.Item} {w0 : World} (hf : RowE w0 ao b off cap f) (hsm : Mid f) :
    Calls Try.prog 144 #[.slice ao f.length cap, .agg (Enc.enc x).toArray] w0 fun e w' => e = .returned (.bool (!(f.any (clash x)))) ∧ Evo w0 w' [] := by
 have hs1 := hsm.1; have hs2 := hsm.2.1; have hs3 := hsm.2.2
 refine calls_enter (n := 40) (args := [.slice ao f.length cap, .agg (Enc.enc x).toArray]) Try.func144 rfl Try.ntmps144 rfl ?_
 have hV : Evo w0 w0 [] := Evo.refl _ _
 have hf0 := keepE hf
 have hbd_hf := hf.bd
 refine r_seq ?_
 refine r_region ?_
 refine r_box (vs := [_, _, _]) (by exact rfl) (by exact rfl) rfl ?_
 intro b1 w2 heb1 hEw2 hbb1 hzb1
 have hs_w2 := (hEw2).size
 replace hV := evo_step0 hV hEw2
 replace hf := hf0 _ hV
 have hAb1 := hbb1.at
 refine r_op rfl rfl rfl (run_asg (v := .bool _) rfl (by exact rfl)) ?_
 refine r_nil ?_
 refine r_seq ?_
 refine r_seq ?_
 refine r_region ?_
 refine r_op rfl rfl rfl (run_mv (v := .slice _ _ _) rfl (by exact rfl)) ?_
 refine r_op rfl rfl rfl (run_lenSl rfl (by exact rfl) Try.underlying85) ?_
 refine r_op rfl rfl rfl (run_mv (v := .int _ _) rfl (by exact rfl)) ?_
 refine r_nil ?_
 refine r_block ?_
 refine r_loop (α := Nat) [4, 6, 9, 10, 11, 12, 13, 14, 15, 16, 17, 18, 19, 20, 21, 22, 23, 24, 25, 26, 27, 28, 29, 30, 31, 32, 33, 34, 35, 36, 37, 38, 39] (fun k g w => g 9 = .int .i64 (k : Nat) ∧ k ≤ f.length ∧ Blk w b1 129 [.int .i64 x.kind, S x.text, .int .i64 x.id] ∧ At w b1 0 [.int .i64 x.kind, S x.text, .int .i64 x.id] ∧ (∀ j, j < k → clash x (f.getD j default) = false) ∧ w2.heap.size ≤ w.heap.size ∧ Evo w0 w []) (fun k => f.length - k) 0 ?_ ?_
 ·refine ⟨(by first | exact rfl | exact congrArg (Value.int _) (by omega) | exact congrArg (Value.int _) (by dsimp only; omega) | exact congrArg (Value.int _) (by simp) | exact congrArg S (by simp)), (by first | assumption | omega | (dsimp only; omega) | (simp; done)), hbb1, hAb1, (fun j h1 => by omega), (by first | assumption | omega | (dsimp only; omega) | (simp; done)), hV⟩
 ·rintro k g w4 ⟨hj5, hk_k, hbb1, hAb1, hall, hzl3, hV⟩
  have hs_w4hV := hV.size
  have hlt6 := hbb1.lt
  replace hf := hf0 _ hV
  refine r_know (i := 9) (v := .int .i64 (k : Nat)) (by exact hj5) ?_
  refine r_seq ?_
  refine r_region ?_
  refine r_op rfl rfl rfl (run_lss rfl (by exact rfl) (by exact rfl)) ?_
  refine r_nil ?_
  refine r_seq ?_
  refine r_cond (by exact rfl) (fun hc7 => ?_) (fun hc7 => ?_)
  ·skip
   refine r_skip ?_
   refine r_seq ?_
   refine r_block ?_
   refine r_seq ?_
   refine r_region ?_
   refine r_op rfl rfl rfl (run_ix (k) rfl Try.underlying85 ty_129 (by exact rfl) (by exact rfl) (by first | exact rfl | omega) (by omega) (hf.addr (i := k) (by omega))) ?_
   have hA80 := fun (w' : World) (h : Evo w0 w' []) => (hf0 w' h).atD (k) (by omega)
   have hA8 := hA80 _ hV
   refine r_op rfl rfl rfl (run_ldN rfl ag_129 ty_129 (by exact rfl) rfl hA8) ?_
   refine r_var (zs := [_, _, _]) (vs := [_, _, _]) ty_129 (by exact rfl) rfl (by exact rfl) (fun _ => rfl) (by exact rfl) rfl rfl (by exact rfl) ?_
   intro b9 w10 heb9 hEw10 hbb9 hzb9
   have hs_w10 := (hEw10).size
   replace hV := evo_step0 hV hEw10
   replace hf := hf0 _ hV
   replace hbb1 := hbb1.evo0 hEw10
   replace hAb1 := hAb1.evo0 hEw10
   have hAb9 := hbb9.at
   refine r_nil ?_
   refine r_seq ?_
   refine r_seq ?_
   have hb4 := hsm.2.2 k
   refine r_region ?_
   refine r_op rfl rfl rfl (run_ldN rfl ag_129 ty_129 (by exact rfl) rfl hAb9) ?_
   refine r_opcall rfl rfl rfl (run_callf (vs := [.agg _]) rfl (by exact rfl) Try.func143 rfl (by kernel_rfl)) istag_calls ?_
   rintro e w11 ⟨rfl, hE11⟩
   refine ⟨_, rfl, ?_⟩
   have hs_w11 := (hE11).size
   replace hV := evo_step0 hV hE11
   replace hf := hf0 _ hV
   replace hbb1 := hbb1.evo0 hE11
   replace hAb1 := hAb1.evo0 hE11
   replace hbb9 := hbb9.evo0 hE11
   replace hAb9 := hAb9.evo0 hE11
   refine r_op rfl rfl rfl (run_notb rfl (by exact rfl)) ?_
   refine r_op rfl rfl rfl (run_mvb rfl (by exact rfl)) ?_
   refine r_g rfl (wantF (by exact rfl)) rfl (fun hg => run_fa rfl (by exact rfl) fo_129_2) ?_
   refine r_g rfl (wantF (by exact rfl)) rfl (fun hg => run_ld1 rfl ag_3 (glv (by exact rfl) (fun h => h) hg) (hAb9.cell 2 (by exact rfl))) ?_
   refine r_g rfl (wantF (by exact rfl)) rfl (fun hg => run_fa rfl (by exact rfl) fo_129_2) ?_
   refine r_g rfl (wantF (by exact rfl)) rfl (fun hg => run_ld1 rfl ag_3 (glv (by exact rfl) (fun h => h) hg) (hAb1.cell 2 (by exact rfl))) ?_
   refine r_g rfl (wantF (by exact rfl)) rfl (fun hg => run_neq rfl (glv (by exact rfl) (fun h => h) hg) (glv (by exact rfl) (fun h => h) hg)) ?_
   refine r_op rfl rfl rfl (run_pick_or rfl (by exact rfl) rfl (fun hq => glv (by exact rfl) (fun h => h) hq)) ?_
   refine r_nil ?_
   refine r_cond (by exact rfl) (fun hc12 => ?_) (fun hc12 => ?_)
   ·skip
    refine r_exit rfl ?_
    refine r_region ?_
    refine r_op rfl rfl rfl (run_add rfl (by exact rfl) (by exact rfl) (by omega) (by omega)) ?_
    refine r_op rfl rfl rfl (run_mv (v := .int _ _) rfl (by exact rfl)) ?_
    refine r_nil ?_
    refine r_again (k + 1) ?_ ?_ ?_
    ·first | omega | (dsimp only; omega)
    ·refine ⟨(by first | exact rfl | exact congrArg (Value.int _) (by omega) | exact congrArg (Value.int _) (by dsimp only; omega) | exact congrArg (Value.int _) (by simp) | exact congrArg S (by simp)), (by first | assumption | omega | (dsimp only; omega) | (simp; done)), hbb1, hAb1, (upto0 hall (by first | exact clash_no1 hc12 | exact clash_no2 hc12)), (by first | assumption | omega | (dsimp only; omega) | (simp; done)), hV⟩
    ·repeat (first | (with_reducible exact Agree.merge _ _ _) | (with_reducible exact Agree.refl _ _) | (with_reducible refine Agree.upd ?_ _ _ rfl) | ((with_reducible refine Agree.inner ?_ ?_); (kernel_rfl)))
   ·skip
    refine r_skip ?_
    refine r_seq ?_
    refine r_qregion (by kernel_rfl) (by kernel_rfl) ?_
    refine q_op rfl rfl rfl (fun w' hC => run_fa rfl (by exact rfl) fo_129_0) ?_
    refine q_op rfl rfl rfl (fun w' hC => run_ld1 rfl ag_3 (by exact rfl) ((hAb1.evo0 hC).cell 0 (by exact rfl))) ?_
    refine q_op rfl rfl rfl (fun w' hC => run_neq rfl (by exact rfl) (by exact rfl)) ?_
    refine q_op rfl rfl rfl (fun w' hC => run_mv (v := .bool _) rfl (by exact rfl)) ?_
    refine q_g rfl (wantF (by exact rfl)) rfl (fun hg w' hC => run_fa rfl (by exact rfl) fo_129_0) ?_
    refine q_g rfl (wantF (by exact rfl)) rfl (fun hg w' hC => run_ld1 rfl ag_3 (glv (by exact rfl) (fun h => h) hg) ((hAb9.evo0 hC).cell 0 (by exact rfl))) ?_
    refine q_g rfl (wantF (by exact rfl)) rfl (fun hg w' hC => run_neq rfl (glv (by exact rfl) (fun h => h) hg) (by exact rfl)) ?_
    refine q_op rfl rfl rfl (fun w' hC => run_pick_or rfl (by exact rfl) rfl (fun hq => glv (by exact rfl) (fun h => h) hq)) ?_
    refine q_op rfl rfl rfl (fun w' hC => run_mv (v := .bool _) rfl (by exact rfl)) ?_
    refine q_g rfl (wantF (by exact rfl)) rfl (fun hg w' hC => run_fa rfl (by exact rfl) fo_129_1) ?_
    refine q_g rfl (wantF (by exact rfl)) rfl (fun hg w' hC => run_ld1 rfl ag_9 (glv (by exact rfl) (fun h => h) hg) ((hAb9.evo0 hC).cell 1 (by exact rfl))) ?_
    refine q_gcall rfl (wantF (by exact rfl)) rfl (fun hg w' hC => run_callf rfl (argcons (v := S _) (glv (by exact rfl) (fun h => h) hg) (rfl)) Try.func177 rfl (by kernel_rfl)) (fun hg w' hC => (name_calls (by omega)).mono (fun e w'' h => ⟨h.1, evo_step0 hC h.2⟩)) ?_
    refine q_g rfl (wantF (by exact rfl)) rfl (fun hg w' hC => run_fa rfl (by exact rfl) fo_129_1) ?_
    refine q_g rfl (wantF (by exact rfl)) rfl (fun hg w' hC => run_ld1 rfl ag_9 (glv (by exact rfl) (fun h => h) hg) ((hAb1.evo0 hC).cell 1 (by exact rfl))) ?_
    refine q_g rfl (wantF (by exact rfl)) rfl (fun hg w' hC => run_sneq rfl (glv (by exact rfl) (fun h => h) hg) (glv (by exact rfl) (fun h => h) hg)) ?_
    refine q_op rfl rfl rfl (fun w' hC => run_pick_or rfl (by exact rfl) rfl (fun hq => glv (by exact rfl) (fun h => h) hq)) ?_
    refine q_nil (fun w13 hE14 => ?_)
    have hs_w13 := (hE14).size
    replace hV := evo_step0 hV hE14
    replace hf := hf0 _ hV
    replace hbb1 := hbb1.evo0 hE14
    replace hAb1 := hAb1.evo0 hE14
    refine r_cond (by exact rfl) (fun hc15 => ?_) (fun hc15 => ?_)
    ·skip
     refine r_seq ?_
     refine r_region ?_
     refine r_op rfl rfl rfl (run_asg (v := .bool _) rfl (by exact rfl)) ?_
     refine r_nil ?_
     refine r_ret (res1 (v := .bool _) rfl (by exact rfl)) ?_
     exact ⟨ret_bool (by rw [any_yes (d := default) k (by omega) (clash_yes (by assumption) hc15)]; rfl), hV⟩
    ·skip
     refine r_skip ?_
     refine r_blk ?_
     refine r_region ?_
     refine r_op rfl rfl rfl (run_add rfl (by exact rfl) (by exact rfl) (by omega) (by omega)) ?_
     refine r_op rfl rfl rfl (run_mv (v := .int _ _) rfl (by exact rfl)) ?_
     refine r_nil ?_
     refine r_again (k + 1) ?_ ?_ ?_
     ·first | omega | (dsimp only; omega)
     ·refine ⟨(by first | exact rfl | exact congrArg (Value.int _) (by omega) | exact congrArg (Value.int _) (by dsimp only; omega) | exact congrArg (Value.int _) (by simp) | exact congrArg S (by simp)), (by first | assumption | omega | (dsimp only; omega) | (simp; done)), hbb1, hAb1, (upto0 hall (by first | exact clash_no1 hc15 | exact clash_no2 hc15)), (by first | assumption | omega | (dsimp only; omega) | (simp; done)), hV⟩
     ·repeat (first | (with_reducible exact Agree.merge _ _ _) | (with_reducible exact Agree.refl _ _) | (with_reducible refine Agree.upd ?_ _ _ rfl) | ((with_reducible refine Agree.inner ?_ ?_); (kernel_rfl)))
  ·skip
   refine r_exit rfl ?_
   refine r_seq ?_
   refine r_region ?_
   refine r_op rfl rfl rfl (run_asg (v := .bool _) rfl (by exact rfl)) ?_
   refine r_nil ?_
   refine r_ret (res1 (v := .bool _) rfl (by exact rfl)) ?_
   exact ⟨ret_bool (by rw [any_no (d := default) (fun j hj => hall j (by omega))]; rfl), hV⟩

theorem mcheck_calls {ao : Option Addr} {b off cap : Nat} {f : List Vc.Item} {x : Vc.Item} {w0 : World} (hf : RowE w0 ao b off cap f) (hsm : Mid f) :
    Calls Try.prog 147 #[.slice ao f.length cap, .agg (Enc.enc x).toArray] w0 fun e w' => e = .returned (.int .i64 (checkL f x)) ∧ Evo w0 w' [] := by
 have hs1 := hsm.1; have hs2 := hsm.2.1; have hs3 := hsm.2.2
 refine calls_enter (n := 114) (args := [.slice ao f.length cap, .agg (Enc.enc x).toArray]) Try.func147 rfl Try.ntmps147 rfl ?_
 have hV : Evo w0 w0 [] := Evo.refl _ _
 have hf0 := keepE hf
 have hbd_hf := hf.bd
 refine r_seq ?_
 refine r_region ?_
 refine r_box (vs := [_, _, _]) (by exact rfl) (by exact rfl) rfl ?_
 intro b1 w2 heb1 hEw2 hbb1 hzb1
 have hs_w2 := (hEw2).size
 replace hV := evo_step0 hV hEw2
 replace hf := hf0 _ hV
 have hAb1 := hbb1.at
 refine r_op rfl rfl rfl (run_asg (v := .int _ _) rfl (by exact rfl)) ?_
 refine r_nil ?_
 refine r_seq ?_
 refine r_seq ?_
 refine r_region ?_
 refine r_op rfl rfl rfl (run_fa rfl (by exact rfl) fo_129_0) ?_
 refine r_op rfl rfl rfl (run_ld1 rfl ag_3 (by exact rfl) (hAb1.cell 0 (by exact rfl))) ?_
 refine r_nil ?_
 refine r_block ?_
 refine r_seq ?_
 refine r_region ?_
 refine r_op rfl rfl rfl (run_eql rfl (by exact rfl) (by exact rfl)) ?_
 refine r_op rfl rfl rfl (run_asg (v := .bool _) rfl (by exact rfl)) ?_
 refine r_nil ?_
 refine r_cut [4, 11, 12, 13, 14, 15, 16, 17, 18, 19, 20, 21, 22, 23, 24, 25, 26, 27, 28, 29, 30, 31, 32, 33, 34, 35, 36, 37, 38, 39, 40, 41, 42, 43, 44, 45, 46, 47, 48, 49, 50, 51, 52, 53, 54, 55, 56, 57, 58, 59, 60, 61, 62, 63, 64, 65, 66, 67, 68, 69, 70, 71, 72, 73, 74, 75, 76, 77] (fun g w => Blk w b1 129 [.int .i64 x.kind, S x.text, .int .i64 x.id] ∧ At w b1 0 [.int .i64 x.kind, S x.text, .int .i64 x.id] ∧ (formed f x = true ∧ isTag x = true) ∧ w2.heap.size ≤ w.heap.size ∧ Evo w0 w []) ?_ ?_
 ·skip
  refine r_cond (by exact rfl) (fun hc4 => ?_) (fun hc4 => ?_)
  ·skip
   refine r_seq ?_
   refine r_seq ?_
   refine r_region ?_
   refine r_op rfl rfl rfl (run_fa rfl (by exact rfl) fo_129_1) ?_
   refine r_op rfl rfl rfl (run_ld1 rfl ag_9 (by exact rfl) (hAb1.cell 1 (by exact rfl))) ?_
   refine r_op rfl rfl rfl (run_seql rfl (by exact rfl) (by exact rfl)) ?_
   refine r_op rfl rfl rfl (run_mv (v := .bool _) rfl (by exact rfl)) ?_
   refine r_g rfl (wantF (by exact rfl)) rfl (fun hg => run_fa rfl (by exact rfl) fo_129_2) ?_
   refine r_g rfl (wantF (by exact rfl)) rfl (fun hg => run_ld1 rfl ag_3 (glv (by exact rfl) (fun h => h) hg) (hAb1.cell 2 (by exact rfl))) ?_
   refine r_g rfl (wantF (by exact rfl)) rfl (fun hg => run_neq rfl (glv (by exact rfl) (fun h => h) hg) (by exact rfl)) ?_
   refine r_op rfl rfl rfl (run_pick_or rfl (by exact rfl) rfl (fun hq => glv (by exact rfl) (fun h => h) hq)) ?_
   refine r_op rfl rfl rfl (run_mv (v := .bool _) rfl (by exact rfl)) ?_
   refine r_g rfl (wantF (by exact rfl)) rfl (fun hg => run_mv (v := .slice _ _ _) rfl (by exact rfl)) ?_
   refine r_g rfl (wantF (by exact rfl)) rfl (fun hg => run_lenSl rfl (glv (by exact rfl) (fun h => h) hg) Try.underlying85) ?_
   refine r_g rfl (wantF (by exact rfl)) rfl (fun hg => run_gtr rfl (glv (by exact rfl) (fun h => h) hg) (by exact rfl)) ?_
   refine r_g rfl (wantF (by exact rfl)) rfl (fun hg => run_mv (v := .bool _) rfl (glv (by exact rfl) (fun h => h) hg)) ?_
   refine r_g rfl (wantTg (by exact rfl)) rfl (fun hg => run_mv (v := .slice _ _ _) rfl (by exact rfl)) ?_
   refine r_g rfl (wantTg (by exact rfl)) rfl (fun hg => run_mv (v := .slice _ _ _) rfl (by exact rfl)) ?_
   refine r_g rfl (wantTg (by exact rfl)) rfl (fun hg => run_lenSl rfl (glv (by exact rfl) (fun h => h) hg) Try.underlying85) ?_
   refine r_g rfl (wantTg (by exact rfl)) rfl (fun hg => run_sub rfl (glv (by exact rfl) (fun h => h) hg) (by exact rfl) (by omega) (by omega)) ?_
   refine r_g rfl (wantTg (by exact rfl)) rfl (fun hg => run_ix ((f.length - 1)) rfl Try.underlying85 ty_129 (glv (by exact rfl) (fun h => h) hg) (glv (by exact rfl) (fun h => h) hg) (by omega) (by omega) (hf.addr (i := (f.length - 1)) (by omega))) ?_
   refine r_g rfl (wantTg (by exact rfl)) rfl (fun hg => run_fa rfl (glv (by exact rfl) (fun h => h) hg) fo_129_0) ?_
   refine r_g rfl (wantTg (by exact rfl)) rfl (fun hg => run_ld1 rfl ag_3 (glv (by exact rfl) (fun h => h) hg) ((hf.atD ((f.length - 1)) (by omega)).cell 0 (by exact rfl))) ?_
   refine r_g rfl (wantTg (by exact rfl)) rfl (fun hg => run_eql rfl (glv (by exact rfl) (fun h => h) hg) (by exact rfl)) ?_
   refine r_g rfl (wantF (by exact rfl)) rfl (fun hg => run_pick_and rfl (glv (by exact rfl) (fun h => h) hg) (fun hq => glv (by exact rfl) (fun h => h) (And.intro hg hq)) rfl) ?_
   refine r_op rfl rfl rfl (run_pick_or rfl (by exact rfl) rfl (fun hq => glv (by exact rfl) (fun h => h) hq)) ?_
   refine r_nil ?_
   refine r_cond (by exact rfl) (fun hc5 => ?_) (fun hc5 => ?_)
   ·skip
    refine r_seq ?_
    refine r_region ?_
    refine r_op rfl rfl rfl (run_asg (v := .int _ _) rfl (by exact rfl)) ?_
    refine r_nil ?_
    refine r_ret (res1 (v := .int _ _) rfl (by exact rfl)) ?_
    exact ⟨ret_int (by rw [chk_text_bad (by assumption) hc5]), hV⟩
   ·skip
    refine r_skip ?_
    refine r_seq ?_
    refine r_region ?_
    refine r_op rfl rfl rfl (run_asg (v := .int _ _) rfl (by exact rfl)) ?_
    refine r_nil ?_
    refine r_ret (res1 (v := .int _ _) rfl (by exact rfl)) ?_
    exact ⟨ret_int (by rw [chk_text_ok (by assumption) hc5]), hV⟩
  ·skip
   refine r_seq ?_
   refine r_region ?_
   refine r_op rfl rfl rfl (run_eql rfl (by exact rfl) (by exact rfl)) ?_
   refine r_op rfl rfl rfl (run_asg (v := .bool _) rfl (by exact rfl)) ?_
   refine r_nil ?_
   refine r_cond (by exact rfl) (fun hc6 => ?_) (fun hc6 => ?_)
   ·skip
    refine r_seq ?_
    refine r_seq ?_
    refine r_region ?_
    refine r_op rfl rfl rfl (run_fa rfl (by exact rfl) fo_129_1) ?_
    refine r_op rfl rfl rfl (run_ld1 rfl ag_9 (by exact rfl) (hAb1.cell 1 (by exact rfl))) ?_
    refine r_opcall rfl rfl rfl (run_callf (vs := [S _]) rfl (by exact rfl) Try.func119 rfl (by kernel_rfl)) risname_calls ?_
    rintro e w7 ⟨rfl, hE7⟩
    refine ⟨_, rfl, ?_⟩
    have hs_w7 := (hE7).size
    replace hV := evo_step0 hV hE7
    replace hf := hf0 _ hV
    replace hbb1 := hbb1.evo0 hE7
    replace hAb1 := hAb1.evo0 hE7
    refine r_op rfl rfl rfl (run_notb rfl (by exact rfl)) ?_
    refine r_op rfl rfl rfl (run_mvb rfl (by exact rfl)) ?_
    refine r_g rfl (wantF (by exact rfl)) rfl (fun hg => run_fa rfl (by exact rfl) fo_129_2) ?_
    refine r_g rfl (wantF (by exact rfl)) rfl (fun hg => run_ld1 rfl ag_3 (glv (by exact rfl) (fun h => h) hg) (hAb1.cell 2 (by exact rfl))) ?_
    refine r_g rfl (wantF (by exact rfl)) rfl (fun hg => run_neq rfl (glv (by exact rfl) (fun h => h) hg) (by exact rfl)) ?_
    refine r_op rfl rfl rfl (run_pick_or rfl (by exact rfl) rfl (fun hq => glv (by exact rfl) (fun h => h) hq)) ?_
    refine r_nil ?_
    refine r_cond (by exact rfl) (fun hc8 => ?_) (fun hc8 => ?_)
    ·skip
     refine r_seq ?_
     refine r_region ?_
     refine r_op rfl rfl rfl (run_asg (v := .int _ _) rfl (by exact rfl)) ?_
     refine r_nil ?_
     refine r_ret (res1 (v := .int _ _) rfl (by exact rfl)) ?_
     exact ⟨ret_int (by rw [chk_slot_bad (by assumption) hc8]), hV⟩
    ·skip
     refine r_skip ?_
     refine r_seq ?_
     refine r_region ?_
     refine r_op rfl rfl rfl (run_asg (v := .int _ _) rfl (by exact rfl)) ?_
     refine r_nil ?_
     refine r_ret (res1 (v := .int _ _) rfl (by exact rfl)) ?_
     exact ⟨ret_int (by rw [chk_slot_ok (by assumption) hc8]), hV⟩
   ·skip
    refine r_seq ?_
    refine r_seq ?_
    refine r_region ?_
    refine r_op rfl rfl rfl (run_eql rfl (by exact rfl) (by exact rfl)) ?_
    refine r_op rfl rfl rfl (run_asg (v := .bool _) rfl (by exact rfl)) ?_
    refine r_nil ?_
    refine r_cond (by exact rfl) (fun hc9 => ?_) (fun hc9 => ?_)
    ·skip
     refine r_skip ?_
     refine r_condT (by exact rfl) hc9 ?_
     refine r_seq ?_
     refine r_region ?_
     refine r_op rfl rfl rfl (run_fa rfl (by exact rfl) fo_129_1) ?_
     refine r_op rfl rfl rfl (run_ld1 rfl ag_9 (by exact rfl) (hAb1.cell 1 (by exact rfl))) ?_
     refine r_opcall rfl rfl rfl (run_callf (vs := [S _]) rfl (by exact rfl) Try.func190 rfl (by kernel_rfl)) riscont_calls ?_
     rintro e w10 ⟨rfl, hE10⟩
     refine ⟨_, rfl, ?_⟩
     have hs_w10 := (hE10).size
     replace hV := evo_step0 hV hE10
     replace hf := hf0 _ hV
     replace hbb1 := hbb1.evo0 hE10
     replace hAb1 := hAb1.evo0 hE10
     refine r_op rfl rfl rfl (run_notb rfl (by exact rfl)) ?_
     refine r_op rfl rfl rfl (run_mvb rfl (by exact rfl)) ?_
     refine r_g rfl (wantF (by exact rfl)) rfl (fun hg => run_fa rfl (by exact rfl) fo_129_2) ?_
     refine r_g rfl (wantF (by exact rfl)) rfl (fun hg => run_ld1 rfl ag_3 (glv (by exact rfl) (fun h => h) hg) (hAb1.cell 2 (by exact rfl))) ?_
     refine r_g rfl (wantF (by exact rfl)) rfl (fun hg => run_lss rfl (glv (by exact rfl) (fun h => h) hg) (by exact rfl)) ?_
     refine r_op rfl rfl rfl (run_pick_or rfl (by exact rfl) rfl (fun hq => glv (by exact rfl) (fun h => h) hq)) ?_
     refine r_op rfl rfl rfl (run_mv (v := .bool _) rfl (by exact rfl)) ?_
     refine r_g rfl (wantF (by exact rfl)) rfl (fun hg => run_fa rfl (by exact rfl) fo_129_2) ?_
     refine r_g rfl (wantF (by exact rfl)) rfl (fun hg => run_ld1 rfl ag_3 (glv (by exact rfl) (fun h => h) hg) (hAb1.cell 2 (by exact rfl))) ?_
     refine r_g rfl (wantF (by exact rfl)) rfl (fun hg => run_gtr rfl (glv (by exact rfl) (fun h => h) hg) (by exact rfl)) ?_
     refine r_op rfl rfl rfl (run_pick_or rfl (by exact rfl) rfl (fun hq => glv (by exact rfl) (fun h => h) hq)) ?_
     refine r_nil ?_
     refine r_cond (by exact rfl) (fun hc11 => ?_) (fun hc11 => ?_)
     ·skip
      refine r_seq ?_
      refine r_region ?_
      refine r_op rfl rfl rfl (run_asg (v := .int _ _) rfl (by exact rfl)) ?_
      refine r_nil ?_
      refine r_ret (res1 (v := .int _ _) rfl (by exact rfl)) ?_
      exact ⟨ret_int (by rw [chk_open_bad (.inl (by assumption)) hc11]), hV⟩
     ·skip
      refine r_skip ?_
      refine r_cut_end ?_ ?_
      ·refine ⟨hbb1, hAb1, (by first | exact form_open (.inl (by assumption)) hc11 | exact form_open (.inr (by assumption)) hc11 | exact form_close (by assumption) hc11), (by first | assumption | omega | (dsimp only; omega) | (simp; done)), hV⟩
      ·repeat (first | (with_reducible exact Agree.merge _ _ _) | (with_reducible exact Agree.refl _ _) | (with_reducible refine Agree.upd ?_ _ _ rfl) | ((with_reducible refine Agree.inner ?_ ?_); (kernel_rfl)))
    ·skip
     refine r_region ?_
     refine r_op rfl rfl rfl (run_eql rfl (by exact rfl) (by exact rfl)) ?_
     refine r_op rfl rfl rfl (run_asg (v := .bool _) rfl (by exact rfl)) ?_
     refine r_nil ?_
     refine r_cond (by exact rfl) (fun hc12 => ?_) (fun hc12 => ?_)
     ·skip
      refine r_seq ?_
      refine r_region ?_
      refine r_op rfl rfl rfl (run_fa rfl (by exact rfl) fo_129_1) ?_
      refine r_op rfl rfl rfl (run_ld1 rfl ag_9 (by exact rfl) (hAb1.cell 1 (by exact rfl))) ?_
      refine r_opcall rfl rfl rfl (run_callf (vs := [S _]) rfl (by exact rfl) Try.func190 rfl (by kernel_rfl)) riscont_calls ?_
      rintro e w13 ⟨rfl, hE13⟩
      refine ⟨_, rfl, ?_⟩
      have hs_w13 := (hE13).size
      replace hV := evo_step0 hV hE13
      replace hf := hf0 _ hV
      replace hbb1 := hbb1.evo0 hE13
      replace hAb1 := hAb1.evo0 hE13
      refine r_op rfl rfl rfl (run_notb rfl (by exact rfl)) ?_
      refine r_op rfl rfl rfl (run_mvb rfl (by exact rfl)) ?_
      refine r_g rfl (wantF (by exact rfl)) rfl (fun hg => run_fa rfl (by exact rfl) fo_129_2) ?_
      refine r_g rfl (wantF (by exact rfl)) rfl (fun hg => run_ld1 rfl ag_3 (glv (by exact rfl) (fun h => h) hg) (hAb1.cell 2 (by exact rfl))) ?_
      refine r_g rfl (wantF (by exact rfl)) rfl (fun hg => run_lss rfl (glv (by exact rfl) (fun h => h) hg) (by exact rfl)) ?_
      refine r_op rfl rfl rfl (run_pick_or rfl (by exact rfl) rfl (fun hq => glv (by exact rfl) (fun h => h) hq)) ?_
      refine r_op rfl rfl rfl (run_mv (v := .bool _) rfl (by exact rfl)) ?_
      refine r_g rfl (wantF (by exact rfl)) rfl (fun hg => run_fa rfl (by exact rfl) fo_129_2) ?_
      refine r_g rfl (wantF (by exact rfl)) rfl (fun hg => run_ld1 rfl ag_3 (glv (by exact rfl) (fun h => h) hg) (hAb1.cell 2 (by exact rfl))) ?_
      refine r_g rfl (wantF (by exact rfl)) rfl (fun hg => run_gtr rfl (glv (by exact rfl) (fun h => h) hg) (by exact rfl)) ?_
      refine r_op rfl rfl rfl (run_pick_or rfl (by exact rfl) rfl (fun hq => glv (by exact rfl) (fun h => h) hq)) ?_
      refine r_nil ?_
      refine r_cond (by exact rfl) (fun hc14 => ?_) (fun hc14 => ?_)
      ·skip
       refine r_seq ?_
       refine r_region ?_
       refine r_op rfl rfl rfl (run_asg (v := .int _ _) rfl (by exact rfl)) ?_
       refine r_nil ?_
       refine r_ret (res1 (v := .int _ _) rfl (by exact rfl)) ?_
       exact ⟨ret_int (by rw [chk_open_bad (.inr (by assumption)) hc14]), hV⟩
      ·skip
       refine r_skip ?_
       refine r_cut_end ?_ ?_
       ·refine ⟨hbb1, hAb1, (by first | exact form_open (.inl (by assumption)) hc14 | exact form_open (.inr (by assumption)) hc14 | exact form_close (by assumption) hc14), (by first | assumption | omega | (dsimp only; omega) | (simp; done)), hV⟩
       ·repeat (first | (with_reducible exact Agree.merge _ _ _) | (with_reducible exact Agree.refl _ _) | (with_reducible refine Agree.upd ?_ _ _ rfl) | ((with_reducible refine Agree.inner ?_ ?_); (kernel_rfl)))
     ·skip
      refine r_seq ?_
      refine r_region ?_
      refine r_op rfl rfl rfl (run_eql rfl (by exact rfl) (by exact rfl)) ?_
      refine r_op rfl rfl rfl (run_asg (v := .bool _) rfl (by exact rfl)) ?_
      refine r_nil ?_
      refine r_cond (by exact rfl) (fun hc15 => ?_) (fun hc15 => ?_)
      ·skip
       refine r_seq ?_
       refine r_region ?_
       refine r_op rfl rfl rfl (run_fa rfl (by exact rfl) fo_129_1) ?_
       refine r_op rfl rfl rfl (run_ld1 rfl ag_9 (by exact rfl) (hAb1.cell 1 (by exact rfl))) ?_
       refine r_opcall rfl rfl rfl (run_callf (vs := [S _]) rfl (by exact rfl) Try.func119 rfl (by kernel_rfl)) risname_calls ?_
       rintro e w16 ⟨rfl, hE16⟩
       refine ⟨_, rfl, ?_⟩
       have hs_w16 := (hE16).size
       replace hV := evo_step0 hV hE16
       replace hf := hf0 _ hV
       replace hbb1 := hbb1.evo0 hE16
       replace hAb1 := hAb1.evo0 hE16
       refine r_op rfl rfl rfl (run_notb rfl (by exact rfl)) ?_
       refine r_op rfl rfl rfl (run_mvb rfl (by exact rfl)) ?_
       refine r_g rfl (wantF (by exact rfl)) rfl (fun hg => run_fa rfl (by exact rfl) fo_129_2) ?_
       refine r_g rfl (wantF (by exact rfl)) rfl (fun hg => run_ld1 rfl ag_3 (glv (by exact rfl) (fun h => h) hg) (hAb1.cell 2 (by exact rfl))) ?_
       refine r_g rfl (wantF (by exact rfl)) rfl (fun hg => run_lss rfl (glv (by exact rfl) (fun h => h) hg) (by exact rfl)) ?_
       refine r_op rfl rfl rfl (run_pick_or rfl (by exact rfl) rfl (fun hq => glv (by exact rfl) (fun h => h) hq)) ?_
       refine r_op rfl rfl rfl (run_mv (v := .bool _) rfl (by exact rfl)) ?_
       refine r_g rfl (wantF (by exact rfl)) rfl (fun hg => run_fa rfl (by exact rfl) fo_129_2) ?_
       refine r_g rfl (wantF (by exact rfl)) rfl (fun hg => run_ld1 rfl ag_3 (glv (by exact rfl) (fun h => h) hg) (hAb1.cell 2 (by exact rfl))) ?_
       refine r_g rfl (wantF (by exact rfl)) rfl (fun hg => run_gtr rfl (glv (by exact rfl) (fun h => h) hg) (by exact rfl)) ?_
       refine r_op rfl rfl rfl (run_pick_or rfl (by exact rfl) rfl (fun hq => glv (by exact rfl) (fun h => h) hq)) ?_
       refine r_nil ?_
       refine r_cond (by exact rfl) (fun hc17 => ?_) (fun hc17 => ?_)
       ·skip
        refine r_seq ?_
        refine r_region ?_
        refine r_op rfl rfl rfl (run_asg (v := .int _ _) rfl (by exact rfl)) ?_
        refine r_nil ?_
        refine r_ret (res1 (v := .int _ _) rfl (by exact rfl)) ?_
        exact ⟨ret_int (by rw [chk_close_bad (by assumption) hc17]), hV⟩
       ·skip
        refine r_skip ?_
        refine r_cut_end ?_ ?_
        ·refine ⟨hbb1, hAb1, (by first | exact form_open (.inl (by assumption)) hc17 | exact form_open (.inr (by assumption)) hc17 | exact form_close (by assumption) hc17), (by first | assumption | omega | (dsimp only; omega) | (simp; done)), hV⟩
        ·repeat (first | (with_reducible exact Agree.merge _ _ _) | (with_reducible exact Agree.refl _ _) | (with_reducible refine Agree.upd ?_ _ _ rfl) | ((with_reducible refine Agree.inner ?_ ?_); (kernel_rfl)))
      ·skip
       refine r_seq ?_
       refine r_region ?_
       refine r_op rfl rfl rfl (run_asg (v := .int _ _) rfl (by exact rfl)) ?_
       refine r_nil ?_
       refine r_ret (res1 (v := .int _ _) rfl (by exact rfl)) ?_
       exact ⟨ret_int (by rw [chk_other (by assumption) (by assumption) (by assumption) (by assumption) (by assumption)]), hV⟩
 ·rintro g w18 ⟨hbb1, hAb1, hfo, hzl3, hV⟩
  have hs_w18hV := hV.size
  have hlt19 := hbb1.lt
  replace hf := hf0 _ hV
  refine r_blk ?_
  refine r_seq ?_
  refine r_seq ?_
  refine r_region ?_
  refine r_op rfl rfl rfl (run_mv (v := .slice _ _ _) rfl (by exact rfl)) ?_
  refine r_op rfl rfl rfl (run_lenSl rfl (by exact rfl) Try.underlying85) ?_
  refine r_op rfl rfl rfl (run_mv (v := .int _ _) rfl (by exact rfl)) ?_
  refine r_nil ?_
  refine r_block ?_
  refine r_loop (α := Nat) [4, 5, 6, 80, 81, 82, 83, 84, 85, 86, 87, 88, 89, 90, 91, 92, 93, 94, 95, 96, 97, 98, 99, 100, 101, 102, 103, 104, 105, 106, 107, 108, 109, 110, 111, 112, 113] (fun k g w => g 80 = .int .i64 (k : Nat) ∧ k ≤ f.length ∧ Blk w b1 129 [.int .i64 x.kind, S x.text, .int .i64 x.id] ∧ At w b1 0 [.int .i64 x.kind, S x.text, .int .i64 x.id] ∧ (∀ j, j < k → clash x (f.getD j default) = false) ∧ w18.heap.size ≤ w.heap.size ∧ Evo w0 w []) (fun k => f.length - k) 0 ?_ ?_
  ·refine ⟨(by first | exact rfl | exact congrArg (Value.int _) (by omega) | exact congrArg (Value.int _) (by dsimp only; omega) | exact congrArg (Value.int _) (by simp) | exact congrArg S (by simp)), (by first | assumption | omega | (dsimp only; omega) | (simp; done)), hbb1, hAb1, (fun j h1 => by omega), (by first | assumption | omega | (dsimp only; omega) | (simp; done)), hV⟩
  ·rintro k g w21 ⟨hj22, hk_k, hbb1, hAb1, hall, hzl20, hV⟩
   have hs_w21hV := hV.size
   have hlt23 := hbb1.lt
   replace hf := hf0 _ hV
   refine r_know (i := 80) (v := .int .i64 (k : Nat)) (by exact hj22) ?_
   refine r_seq ?_
   refine r_region ?_
   refine r_op rfl rfl rfl (run_lss rfl (by exact rfl) (by exact rfl)) ?_
   refine r_nil ?_
   refine r_seq ?_
   refine r_cond (by exact rfl) (fun hc24 => ?_) (fun hc24 => ?_)
   ·skip
    refine r_skip ?_
    refine r_seq ?_
    refine r_block ?_
    refine r_seq ?_
    refine r_region ?_
    refine r_op rfl rfl rfl (run_mv (v := .int _ _) rfl (by exact rfl)) ?_
    refine r_op rfl rfl rfl (run_asg (v := .int _ _) rfl (by exact rfl)) ?_
    refine r_nil ?_
    refine r_seq ?_
    refine r_region ?_
    refine r_op rfl rfl rfl (run_mv (v := .slice _ _ _) rfl (by exact rfl)) ?_
    refine r_op rfl rfl rfl (run_mv (v := .int _ _) rfl (by exact rfl)) ?_
    refine r_op rfl rfl rfl (run_ix (k) rfl Try.underlying85 ty_129 (by exact rfl) (by exact rfl) (by first | exact rfl | omega) (by omega) (hf.addr (i := k) (by omega))) ?_
    have hA250 := fun (w' : World) (h : Evo w0 w' []) => (hf0 w' h).atD (k) (by omega)
    have hA25 := hA250 _ hV
    refine r_op rfl rfl rfl (run_ldN rfl ag_129 ty_129 (by exact rfl) rfl hA25) ?_
    refine r_var (zs := [_, _, _]) (vs := [_, _, _]) ty_129 (by exact rfl) rfl (by exact rfl) (fun _ => rfl) (by exact rfl) rfl rfl (by exact rfl) ?_
    intro b26 w27 heb26 hEw27 hbb26 hzb26
    have hs_w27 := (hEw27).size
    replace hV := evo_step0 hV hEw27
    replace hf := hf0 _ hV
    replace hbb1 := hbb1.evo0 hEw27
    replace hAb1 := hAb1.evo0 hEw27
    have hAb26 := hbb26.at
    refine r_nil ?_
    refine r_seq ?_
    refine r_seq ?_
    have hb4 := hsm.2.2 k
    refine r_region ?_
    refine r_op rfl rfl rfl (run_ldN rfl ag_129 ty_129 (by exact rfl) rfl hAb26) ?_
    refine r_opcall rfl rfl rfl (run_callf (vs := [.agg _]) rfl (by exact rfl) Try.func191 rfl (by kernel_rfl)) ristag_calls ?_
    rintro e w28 ⟨rfl, hE28⟩
    refine ⟨_, rfl, ?_⟩
    have hs_w28 := (hE28).size
    replace hV := evo_step0 hV hE28
    replace hf := hf0 _ hV
    replace hbb1 := hbb1.evo0 hE28
    replace hAb1 := hAb1.evo0 hE28
    replace hbb26 := hbb26.evo0 hE28
    replace hAb26 := hAb26.evo0 hE28
    refine r_op rfl rfl rfl (run_notb rfl (by exact rfl)) ?_
    refine r_op rfl rfl rfl (run_mvb rfl (by exact rfl)) ?_
    refine r_g rfl (wantF (by exact rfl)) rfl (fun hg => run_fa rfl (by exact rfl) fo_129_2) ?_
    refine r_g rfl (wantF (by exact rfl)) rfl (fun hg => run_ld1 rfl ag_3 (glv (by exact rfl) (fun h => h) hg) (hAb26.cell 2 (by exact rfl))) ?_
    refine r_g rfl (wantF (by exact rfl)) rfl (fun hg => run_fa rfl (by exact rfl) fo_129_2) ?_
    refine r_g rfl (wantF (by exact rfl)) rfl (fun hg => run_ld1 rfl ag_3 (glv (by exact rfl) (fun h => h) hg) (hAb1.cell 2 (by exact rfl))) ?_
    refine r_g rfl (wantF (by exact rfl)) rfl (fun hg => run_neq rfl (glv (by exact rfl) (fun h => h) hg) (glv (by exact rfl) (fun h => h) hg)) ?_
    refine r_op rfl rfl rfl (run_pick_or rfl (by exact rfl) rfl (fun hq => glv (by exact rfl) (fun h => h) hq)) ?_
    refine r_nil ?_
    refine r_cond (by exact rfl) (fun hc29 => ?_) (fun hc29 => ?_)
    ·skip
     refine r_exit rfl ?_
     refine r_region ?_
     refine r_op rfl rfl rfl (run_add rfl (by exact rfl) (by exact rfl) (by omega) (by omega)) ?_
     refine r_op rfl rfl rfl (run_mv (v := .int _ _) rfl (by exact rfl)) ?_
     refine r_nil ?_
     refine r_again (k + 1) ?_ ?_ ?_
     ·first | omega | (dsimp only; omega)
     ·refine ⟨(by first | exact rfl | exact congrArg (Value.int _) (by omega) | exact congrArg (Value.int _) (by dsimp only; omega) | exact congrArg (Value.int _) (by simp) | exact congrArg S (by simp)), (by first | assumption | omega | (dsimp only; omega) | (simp; done)), hbb1, hAb1, (upto0 hall (by first | exact clash_no1 hc29 | exact clash_no2 hc29)), (by first | assumption | omega | (dsimp only; omega) | (simp; done)), hV⟩
     ·repeat (first | (with_reducible exact Agree.merge _ _ _) | (with_reducible exact Agree.refl _ _) | (with_reducible refine Agree.upd ?_ _ _ rfl) | ((with_reducible refine Agree.inner ?_ ?_); (kernel_rfl)))
    ·skip
     refine r_skip ?_
     refine r_seq ?_
     have hb4 := hsm.2.2 k
     refine r_qregion (by kernel_rfl) (by kernel_rfl) ?_
     refine q_op rfl rfl rfl (fun w' hC => run_fa rfl (by exact rfl) fo_129_0) ?_
     refine q_op rfl rfl rfl (fun w' hC => run_ld1 rfl ag_3 (by exact rfl) ((hAb1.evo0 hC).cell 0 (by exact rfl))) ?_
     refine q_op rfl rfl rfl (fun w' hC => run_neq rfl (by exact rfl) (by exact rfl)) ?_
     refine q_op rfl rfl rfl (fun w' hC => run_mv (v := .bool _) rfl (by exact rfl)) ?_
     refine q_g rfl (wantF (by exact rfl)) rfl (fun hg w' hC => run_fa rfl (by exact rfl) fo_129_0) ?_
     refine q_g rfl (wantF (by exact rfl)) rfl (fun hg w' hC => run_ld1 rfl ag_3 (glv (by exact rfl) (fun h => h) hg) ((hAb26.evo0 hC).cell 0 (by exact rfl))) ?_
     refine q_g rfl (wantF (by exact rfl)) rfl (fun hg w' hC => run_neq rfl (glv (by exact rfl) (fun h => h) hg) (by exact rfl)) ?_
     refine q_op rfl rfl rfl (fun w' hC => run_pick_or rfl (by exact rfl) rfl (fun hq => glv (by exact rfl) (fun h => h) hq)) ?_
     refine q_op rfl rfl rfl (fun w' hC => run_mv (v := .bool _) rfl (by exact rfl)) ?_
     refine q_g rfl (wantF (by exact rfl)) rfl (fun hg w' hC => run_fa rfl (by exact rfl) fo_129_1) ?_
     refine q_g rfl (wantF (by exact rfl)) rfl (fun hg w' hC => run_ld1 rfl ag_9 (glv (by exact rfl) (fun h => h) hg) ((hAb26.evo0 hC).cell 1 (by exact rfl))) ?_
     refine q_gcall rfl (wantF (by exact rfl)) rfl (fun hg w' hC => run_callf rfl (argcons (v := S _) (glv (by exact rfl) (fun h => h) hg) (rfl)) Try.func105 rfl (by kernel_rfl)) (fun hg w' hC => (rname_calls (by omega)).mono (fun e w'' h => ⟨h.1, evo_step0 hC h.2⟩)) ?_
     refine q_g rfl (wantF (by exact rfl)) rfl (fun hg w' hC => run_fa rfl (by exact rfl) fo_129_1) ?_
     refine q_g rfl (wantF (by exact rfl)) rfl (fun hg w' hC => run_ld1 rfl ag_9 (glv (by exact rfl) (fun h => h) hg) ((hAb1.evo0 hC).cell 1 (by exact rfl))) ?_
     refine q_g rfl (wantF (by exact rfl)) rfl (fun hg w' hC => run_sneq rfl (glv (by exact rfl) (fun h => h) hg) (glv (by exact rfl) (fun h => h) hg)) ?_
     refine q_op rfl rfl rfl (fun w' hC => run_pick_or rfl (by exact rfl) rfl (fun hq => glv (by exact rfl) (fun h => h) hq)) ?_
     refine q_nil (fun w30 hE31 => ?_)
     have hs_w30 := (hE31).size
     replace hV := evo_step0 hV hE31
     replace hf := hf0 _ hV
     replace hbb1 := hbb1.evo0 hE31
     replace hAb1 := hAb1.evo0 hE31
     refine r_cond (by exact rfl) (fun hc32 => ?_) (fun hc32 => ?_)
     ·skip
      refine r_seq ?_
      refine r_region ?_
      refine r_op rfl rfl rfl (run_asg (v := .int _ _) rfl (by exact rfl)) ?_
      refine r_nil ?_
      refine r_ret (res1 (v := .int _ _) rfl (by exact rfl)) ?_
      exact ⟨ret_int (by rw [check_tag hfo.1 hfo.2 (any_yes (d := default) k (by omega) (clash_yes (by assumption) hc32))]), hV⟩
     ·skip
      refine r_skip ?_
      refine r_blk ?_
      refine r_region ?_
      refine r_op rfl rfl rfl (run_add rfl (by exact rfl) (by exact rfl) (by omega) (by omega)) ?_
      refine r_op rfl rfl rfl (run_mv (v := .int _ _) rfl (by exact rfl)) ?_
      refine r_nil ?_
      refine r_again (k + 1) ?_ ?_ ?_
      ·first | omega | (dsimp only; omega)
      ·refine ⟨(by first | exact rfl | exact congrArg (Value.int _) (by omega) | exact congrArg (Value.int _) (by dsimp only; omega) | exact congrArg (Value.int _) (by simp) | exact congrArg S (by simp)), (by first | assumption | omega | (dsimp only; omega) | (simp; done)), hbb1, hAb1, (upto0 hall (by first | exact clash_no1 hc32 | exact clash_no2 hc32)), (by first | assumption | omega | (dsimp only; omega) | (simp; done)), hV⟩
      ·repeat (first | (with_reducible exact Agree.merge _ _ _) | (with_reducible exact Agree.refl _ _) | (with_reducible refine Agree.upd ?_ _ _ rfl) | ((with_reducible refine Agree.inner ?_ ?_); (kernel_rfl)))
   ·skip
    refine r_exit rfl ?_
    refine r_seq ?_
    refine r_region ?_
    refine r_op rfl rfl rfl (run_asg (v := .int _ _) rfl (by exact rfl)) ?_
    refine r_nil ?_
    refine r_ret (res1 (v := .int _ _) rfl (by exact rfl)) ?_
    exact ⟨ret_int (by rw [check_ok hfo.1 (by rw [any_no (d := default) (fun j hj => hall j (by omega))]; simp)]), hV⟩

theorem mrvalidate_calls {ao : Option Addr} {b off cap : Nat} {f : List Vc.Item} {w0 : World} (hf : RowE w0 ao b off cap f) (hsm : Mid f) :
    Calls Try.prog 110 #[.slice ao f.length cap] w0 fun e w' => e = .returned (.int .i64 (validateL f)) ∧ Evo w0 w' [] := by
 have hs1 := hsm.1; have hs2 := hsm.2.1; have hs3 := hsm.2.2
 refine calls_enter (n := 30) (args := [.slice ao f.length cap]) Try.func110 rfl Try.ntmps110 rfl ?_
 have hV : Evo w0 w0 [] := Evo.refl _ _
 have hf0 := keepE hf
 have hbd_hf := hf.bd
 refine r_seq ?_
 refine r_region ?_
 refine r_op rfl rfl rfl (run_asg (v := .int _ _) rfl (by exact rfl)) ?_
 refine r_nil ?_
 refine r_seq ?_
 refine r_seq ?_
 refine r_region ?_
 refine r_op rfl rfl rfl (run_mv (v := .slice _ _ _) rfl (by exact rfl)) ?_
 refine r_op rfl rfl rfl (run_lenSl rfl (by exact rfl) Try.underlying85) ?_
 refine r_op rfl rfl rfl (run_gtr rfl (by exact rfl) (by exact rfl)) ?_
 refine r_op rfl rfl rfl (run_mv (v := .bool _) rfl (by exact rfl)) ?_
 refine r_g rfl (wantF (by exact rfl)) rfl (fun hg => run_mv (v := .slice _ _ _) rfl (by exact rfl)) ?_
 refine r_gcall rfl (wantF (by exact rfl)) rfl (fun hg => run_callf rfl (argcons (v := .slice _ _ _) (glv (by exact rfl) (fun h => h) hg) (rfl)) Try.func60 rfl (by kernel_rfl)) (fun hg => (mrlength_calls hf (by assumption)).mono (fun e w' h => ⟨h.1, h.2⟩)) (fun w1 hE2 => ?_)
 have hs_w1 := (hE2).size
 replace hV := evo_step0 hV hE2
 replace hf := hf0 _ hV
 refine r_g rfl (wantF (by exact rfl)) rfl (fun hg => run_gtr rfl (glv (by exact rfl) (fun h => h) hg) (by exact rfl)) ?_
 refine r_op rfl rfl rfl (run_pick_or rfl (by exact rfl) rfl (fun hq => glv (by exact rfl) (fun h => h) hq)) ?_
 refine r_nil ?_
 refine r_cond (by exact rfl) (fun hc3 => ?_) (fun hc3 => ?_)
 ·skip
  refine r_seq ?_
  refine r_region ?_
  refine r_op rfl rfl rfl (run_asg (v := .int _ _) rfl (by exact rfl)) ?_
  refine r_nil ?_
  refine r_ret (res1 (v := .int _ _) rfl (by exact rfl)) ?_
  exact ⟨ret_int (by rw [val_limit (by assumption)]), hV⟩
 ·skip
  refine r_skip ?_
  refine r_seq ?_
  refine r_seq ?_
  refine r_region ?_
  refine r_op rfl rfl rfl (run_mv (v := .slice _ _ _) rfl (by exact rfl)) ?_
  refine r_op rfl rfl rfl (run_lenSl rfl (by exact rfl) Try.underlying85) ?_
  refine r_op rfl rfl rfl (run_mv (v := .int _ _) rfl (by exact rfl)) ?_
  refine r_nil ?_
  refine r_block ?_
  refine r_loop (α := Nat) [2, 3, 4, 15, 16, 17, 18, 19, 20, 21, 22, 23, 24, 25, 26, 27, 28, 29] (fun k g w => g 15 = .int .i64 (k : Nat) ∧ k ≤ f.length ∧ validateL f = valGo (f.take k) (f.drop k) ∧ w1.heap.size ≤ w.heap.size ∧ Evo w0 w []) (fun k => f.length - k) 0 ?_ ?_
  ·refine ⟨(by first | exact rfl | exact congrArg (Value.int _) (by omega) | exact congrArg (Value.int _) (by dsimp only; omega) | exact congrArg (Value.int _) (by simp) | exact congrArg S (by simp)), (by first | assumption | omega | (dsimp only; omega) | (simp; done)), (by rw [val_start (by omega)]; rfl), (by first | assumption | omega | (dsimp only; omega) | (simp; done)), hV⟩
  ·rintro k g w5 ⟨hj6, hk_k, hv, hzl4, hV⟩
   have hs_w5hV := hV.size
   replace hf := hf0 _ hV
   refine r_know (i := 15) (v := .int .i64 (k : Nat)) (by exact hj6) ?_
   refine r_seq ?_
   refine r_region ?_
   refine r_op rfl rfl rfl (run_lss rfl (by exact rfl) (by exact rfl)) ?_
   refine r_nil ?_
   refine r_seq ?_
   refine r_cond (by exact rfl) (fun hc7 => ?_) (fun hc7 => ?_)
   ·skip
    refine r_skip ?_
    refine r_seq ?_
    refine r_block ?_
    refine r_seq ?_
    refine r_region ?_
    refine r_op rfl rfl rfl (run_mv (v := .int _ _) rfl (by exact rfl)) ?_
    refine r_op rfl rfl rfl (run_asg (v := .int _ _) rfl (by exact rfl)) ?_
    refine r_nil ?_
    refine r_seq ?_
    refine r_qregion (by kernel_rfl) (by kernel_rfl) ?_
    refine q_op rfl rfl rfl (fun w' hC => run_mv (v := .slice _ _ _) rfl (by exact rfl)) ?_
    refine q_op rfl rfl rfl (fun w' hC => run_mv (v := .int _ _) rfl (by exact rfl)) ?_
    refine q_op rfl rfl rfl (fun w' hC => run_slE (0) (k) rfl Try.underlying85 ty_129 (by exact rfl) (hf.evo0 hC) lo0 (at1 (by exact rfl) (by omega)) (by first | omega | (simp; omega)) (by first | omega | (simp; omega)) List.drop_zero) ?_
    have hS80 := fun (w' : World) (h : Evo w0 w' []) => (by have h9 := ((hf0 w' h).take (k)).drop (0); rw [List.drop_zero] at h9; exact h9)
    have hS8 := (by have h9 := (hf.take (k)).drop (0); rw [List.drop_zero] at h9; exact h9)
    have hbd_hS8 := hS8.bd
    refine q_op rfl rfl rfl (fun w' hC => run_mv (v := .slice _ _ _) rfl (by exact rfl)) ?_
    refine q_op rfl rfl rfl (fun w' hC => run_mv (v := .int _ _) rfl (by exact rfl)) ?_
    refine q_op rfl rfl rfl (fun w' hC => run_ix (k) rfl Try.underlying85 ty_129 (by exact rfl) (by exact rfl) (by first | exact rfl | omega) (by omega) (hf.addr (i := k) (by omega))) ?_
    have hA90 := fun (w' : World) (h : Evo w0 w' []) => (hf0 w' h).atD (k) (by omega)
    have hA9 := hA90 _ hV
    refine q_op rfl rfl rfl (fun w' hC => run_ldN rfl ag_129 ty_129 (by exact rfl) rfl (hA9.evo0 hC)) ?_
    refine q_call rfl rfl rfl (fun w' hC => run_callf rfl (argcons (v := .slice _ _ _) (by exact rfl) (argcons (v := .agg _) (by exact rfl) (rfl))) Try.func147 rfl (by kernel_rfl)) (fun w' hC => (mcheck_calls (hS8.evo0 hC) (by first | assumption | exact mid_take (by assumption) _)).mono (fun e w'' h => ⟨h.1, evo_step0 hC h.2⟩)) ?_
    refine q_op rfl rfl rfl (fun w' hC => run_asg (v := .int _ _) rfl (by exact rfl)) ?_
    refine q_nil (fun w10 hE11 => ?_)
    have hs_w10 := (hE11).size
    replace hV := evo_step0 hV hE11
    replace hf := hf0 _ hV
    refine r_seq ?_
    refine r_region ?_
    refine r_op rfl rfl rfl (run_mv (v := .int _ _) rfl (by exact rfl)) ?_
    refine r_op rfl rfl rfl (run_neq rfl (by exact rfl) (by exact rfl)) ?_
    refine r_nil ?_
    refine r_cond (by exact rfl) (fun hc12 => ?_) (fun hc12 => ?_)
    ·skip
     refine r_seq ?_
     refine r_region ?_
     refine r_op rfl rfl rfl (run_mv (v := .int _ _) rfl (by exact rfl)) ?_
     refine r_op rfl rfl rfl (run_asg (v := .int _ _) rfl (by exact rfl)) ?_
     refine r_nil ?_
     refine r_ret (res1 (v := .int _ _) rfl (by exact rfl)) ?_
     exact ⟨ret_int (by rw [hv, val_no (by omega) hc12]), hV⟩
    ·skip
     refine r_skip ?_
     refine r_blk ?_
     refine r_region ?_
     refine r_op rfl rfl rfl (run_add rfl (by exact rfl) (by exact rfl) (by omega) (by omega)) ?_
     refine r_op rfl rfl rfl (run_mv (v := .int _ _) rfl (by exact rfl)) ?_
     refine r_nil ?_
     refine r_again (k + 1) ?_ ?_ ?_
     ·first | omega | (dsimp only; omega)
     ·refine ⟨(by first | exact rfl | exact congrArg (Value.int _) (by omega) | exact congrArg (Value.int _) (by dsimp only; omega) | exact congrArg (Value.int _) (by simp) | exact congrArg S (by simp)), (by first | assumption | omega | (dsimp only; omega) | (simp; done)), (by rw [hv, val_ok (by omega) (Classical.not_not.1 hc12)]), (by first | assumption | omega | (dsimp only; omega) | (simp; done)), hV⟩
     ·repeat (first | (with_reducible exact Agree.merge _ _ _) | (with_reducible exact Agree.refl _ _) | (with_reducible refine Agree.upd ?_ _ _ rfl) | ((with_reducible refine Agree.inner ?_ ?_); (kernel_rfl)))
   ·skip
    refine r_exit rfl ?_
    refine r_seq ?_
    refine r_region ?_
    refine r_op rfl rfl rfl (run_asg (v := .int _ _) rfl (by exact rfl)) ?_
    refine r_nil ?_
    refine r_ret (res1 (v := .int _ _) rfl (by exact rfl)) ?_
    exact ⟨ret_int (by rw [hv, val_end (by omega)]), hV⟩

theorem mvalidate_calls {ao : Option Addr} {b off cap : Nat} {f : List Vc.Item} {w0 : World} (hf : RowE w0 ao b off cap f) (hsm : Mid f) :
    Calls Try.prog 107 #[.slice ao f.length cap] w0 fun e w' => e = .returned (.int .i64 (validateL f)) ∧ Evo w0 w' [] := by
 have hs1 := hsm.1; have hs2 := hsm.2.1; have hs3 := hsm.2.2
 refine calls_enter (n := 35) (args := [.slice ao f.length cap]) Try.func107 rfl Try.ntmps107 rfl ?_
 have hV : Evo w0 w0 [] := Evo.refl _ _
 have hf0 := keepE hf
 have hbd_hf := hf.bd
 refine r_seq ?_
 refine r_region ?_
 refine r_op rfl rfl rfl (run_asg (v := .int _ _) rfl (by exact rfl)) ?_
 refine r_nil ?_
 refine r_seq ?_
 refine r_seq ?_
 refine r_region ?_
 refine r_op rfl rfl rfl (run_mv (v := .slice _ _ _) rfl (by exact rfl)) ?_
 refine r_op rfl rfl rfl (run_lenSl rfl (by exact rfl) Try.underlying85) ?_
 refine r_op rfl rfl rfl (run_gtr rfl (by exact rfl) (by exact rfl)) ?_
 refine r_op rfl rfl rfl (run_mv (v := .bool _) rfl (by exact rfl)) ?_
 refine r_g rfl (wantF (by exact rfl)) rfl (fun hg => run_mv (v := .slice _ _ _) rfl (by exact rfl)) ?_
 refine r_gcall rfl (wantF (by exact rfl)) rfl (fun hg => run_callf rfl (argcons (v := .slice _ _ _) (glv (by exact rfl) (fun h => h) hg) (rfl)) Try.func141 rfl (by kernel_rfl)) (fun hg => (mlength_calls hf (by assumption)).mono (fun e w' h => ⟨h.1, h.2⟩)) (fun w1 hE2 => ?_)
 have hs_w1 := (hE2).size
 replace hV := evo_step0 hV hE2
 replace hf := hf0 _ hV
 refine r_g rfl (wantF (by exact rfl)) rfl (fun hg => run_gtr rfl (glv (by exact rfl) (fun h => h) hg) (by exact rfl)) ?_
 refine r_op rfl rfl rfl (run_pick_or rfl (by exact rfl) rfl (fun hq => glv (by exact rfl) (fun h => h) hq)) ?_
 refine r_nil ?_
 refine r_cond (by exact rfl) (fun hc3 => ?_) (fun hc3 => ?_)
 ·skip
  refine r_seq ?_
  refine r_region ?_
  refine r_op rfl rfl rfl (run_asg (v := .int _ _) rfl (by exact rfl)) ?_
  refine r_nil ?_
  refine r_ret (res1 (v := .int _ _) rfl (by exact rfl)) ?_
  exact ⟨ret_int (by rw [val_limit (by assumption)]), hV⟩
 ·skip
  refine r_skip ?_
  refine r_seq ?_
  refine r_seq ?_
  refine r_region ?_
  refine r_op rfl rfl rfl (run_mv (v := .slice _ _ _) rfl (by exact rfl)) ?_
  refine r_op rfl rfl rfl (run_lenSl rfl (by exact rfl) Try.underlying85) ?_
  refine r_op rfl rfl rfl (run_mv (v := .int _ _) rfl (by exact rfl)) ?_
  refine r_nil ?_
  refine r_block ?_
  refine r_loop (α := Nat) [2, 3, 4, 15, 16, 17, 18, 19, 20, 21, 22, 23, 24, 25, 26, 27, 28, 29, 30, 31, 32, 33, 34] (fun k g w => g 15 = .int .i64 (k : Nat) ∧ k ≤ f.length ∧ validateL f = valGo (f.take k) (f.drop k) ∧ w1.heap.size ≤ w.heap.size ∧ Evo w0 w []) (fun k => f.length - k) 0 ?_ ?_
  ·refine ⟨(by first | exact rfl | exact congrArg (Value.int _) (by omega) | exact congrArg (Value.int _) (by dsimp only; omega) | exact congrArg (Value.int _) (by simp) | exact congrArg S (by simp)), (by first | assumption | omega | (dsimp only; omega) | (simp; done)), (by rw [val_start (by omega)]; rfl), (by first | assumption | omega | (dsimp only; omega) | (simp; done)), hV⟩
  ·rintro k g w5 ⟨hj6, hk_k, hv, hzl4, hV⟩
   have hs_w5hV := hV.size
   replace hf := hf0 _ hV
   refine r_know (i := 15) (v := .int .i64 (k : Nat)) (by exact hj6) ?_
   refine r_seq ?_
   refine r_region ?_
   refine r_op rfl rfl rfl (run_lss rfl (by exact rfl) (by exact rfl)) ?_
   refine r_nil ?_
   refine r_seq ?_
   refine r_cond (by exact rfl) (fun hc7 => ?_) (fun hc7 => ?_)
   ·skip
    refine r_skip ?_
    refine r_seq ?_
    refine r_block ?_
    refine r_seq ?_
    refine r_region ?_
    refine r_op rfl rfl rfl (run_mv (v := .int _ _) rfl (by exact rfl)) ?_
    refine r_op rfl rfl rfl (run_ix (k) rfl Try.underlying85 ty_129 (by exact rfl) (by exact rfl) (by first | exact rfl | omega) (by omega) (hf.addr (i := k) (by omega))) ?_
    have hA80 := fun (w' : World) (h : Evo w0 w' []) => (hf0 w' h).atD (k) (by omega)
    have hA8 := hA80 _ hV
    refine r_op rfl rfl rfl (run_ldN rfl ag_129 ty_129 (by exact rfl) rfl hA8) ?_
    refine r_alloc (zs := [_, _, _]) ty_129 (by exact rfl) rfl ?_
    intro b9 w10 heb9 hEw10 hbb9 hzb9
    have hs_w10 := (hEw10).size
    replace hV := evo_step0 hV hEw10
    replace hf := hf0 _ hV
    replace hA8 := hA80 _ hV
    have hAb9 := hbb9.at
    refine r_op rfl rfl rfl (run_asg (v := .int _ _) rfl (by exact rfl)) ?_
    refine r_store (v := .agg _) (vs := [_, _, _]) (cs' := [_, _, _]) (by exact rfl) (by exact rfl) hbb9 ty_129 (by exact rfl) rfl (by exact rfl) rfl (by exact rfl) ?_
    intro w11 hEw11 hzw11 hb_new
    have hs_w11 := (hEw11).size
    replace hV := evo_step1 hV hEw11 (by first | exact .inl (by omega) | exact .inr (by simp))
    replace hf := hf0 _ hV
    replace hbb9 := hb_new
    have hAb9 := hbb9.at
    clear hb_new
    refine r_nil ?_
    refine r_seq ?_
    refine r_seq ?_
    refine r_region ?_
    refine r_op rfl rfl rfl (run_mv (v := .slice _ _ _) rfl (by exact rfl)) ?_
    refine r_op rfl rfl rfl (run_mv (v := .int _ _) rfl (by exact rfl)) ?_
    refine r_opcall rfl rfl rfl (run_callf (vs := [.slice _ _ _, .int _ _]) rfl (by exact rfl) Try.func142 rfl (by kernel_rfl)) (wellformed_calls hf (by omega)) ?_
    rintro e w12 ⟨rfl, hE12⟩
    refine ⟨_, rfl, ?_⟩
    have hs_w12 := (hE12).size
    replace hV := evo_step0 hV hE12
    replace hf := hf0 _ hV
    replace hbb9 := hbb9.evo0 hE12
    replace hAb9 := hAb9.evo0 hE12
    refine r_op rfl rfl rfl (run_notb rfl (by exact rfl)) ?_
    refine r_nil ?_
    refine r_condb (by exact rfl) (fun hc13 => ?_) (fun hc13 => ?_)
    ·skip
     have hfo : ¬ formed (f.take k) (f.getD k default) = true := by simpa using hc13
     refine r_seq ?_
     refine r_region ?_
     refine r_op rfl rfl rfl (run_asg (v := .int _ _) rfl (by exact rfl)) ?_
     refine r_nil ?_
     refine r_ret (res1 (v := .int _ _) rfl (by exact rfl)) ?_
     exact ⟨ret_int (by rw [hv, val_no (by omega) (by rw [check_bad hfo]; decide), check_bad hfo]), hV⟩
    ·skip
     have hfo : formed (f.take k) (f.getD k default) = true := by simpa using hc13
     refine r_skip ?_
     refine r_seq ?_
     refine r_qregion (by kernel_rfl) (by kernel_rfl) ?_
     refine q_op rfl rfl rfl (fun w' hC => run_ldN rfl ag_129 ty_129 (by exact rfl) rfl (hAb9.evo0 hC)) ?_
     refine q_call rfl rfl rfl (fun w' hC => run_callf rfl (argcons (v := .agg _) (by exact rfl) (rfl)) Try.func143 rfl (by kernel_rfl)) (fun w' hC => (istag_calls ).mono (fun e w'' h => ⟨h.1, evo_step0 hC h.2⟩)) ?_
     refine q_op rfl rfl rfl (fun w' hC => run_mvb rfl (by exact rfl)) ?_
     refine q_g rfl (wantT (by exact rfl)) rfl (fun hg w' hC => run_mv (v := .slice _ _ _) rfl (by exact rfl)) ?_
     refine q_g rfl (wantT (by exact rfl)) rfl (fun hg w' hC => run_mv (v := .int _ _) rfl (by exact rfl)) ?_
     refine q_g rfl (wantT (by exact rfl)) rfl (fun hg w' hC => run_slE (0) (k) rfl Try.underlying85 ty_129 (glv (by exact rfl) (fun h => h) hg) (hf.evo0 hC) lo0 (at1 (glv (by exact rfl) (fun h => h) hg) (by omega)) (by first | omega | (simp; omega)) (by first | omega | (simp; omega)) List.drop_zero) ?_
     have hS140 := fun (w' : World) (h : Evo w0 w' []) => (by have h9 := ((hf0 w' h).take (k)).drop (0); rw [List.drop_zero] at h9; exact h9)
     have hS14 := (by have h9 := (hf.take (k)).drop (0); rw [List.drop_zero] at h9; exact h9)
     have hbd_hS14 := hS14.bd
     refine q_g rfl (wantT (by exact rfl)) rfl (fun hg w' hC => run_ldN rfl ag_129 ty_129 (by exact rfl) rfl (hAb9.evo0 hC)) ?_
     refine q_gcall rfl (wantT (by exact rfl)) rfl (fun hg w' hC => run_callf rfl (argcons (v := .slice _ _ _) (glv (by exact rfl) (fun h => h) hg) (argcons (v := .agg _) (glv (by exact rfl) (fun h => h) hg) (rfl))) Try.func144 rfl (by kernel_rfl)) (fun hg w' hC => (mfits_calls (hS14.evo0 hC) (by first | assumption | exact mid_take (by assumption) _)).mono (fun e w'' h => ⟨h.1, evo_step0 hC h.2⟩)) ?_
     refine q_g rfl (wantT (by exact rfl)) rfl (fun hg w' hC => run_notb rfl (glv (by exact rfl) (fun h => h) hg)) ?_
     refine q_op rfl rfl rfl (fun w' hC => run_pick_andB rfl (by exact rfl) (fun hq => glv (by exact rfl) (fun h => h) hq) rfl) ?_
     refine q_nil (fun w15 hE16 => ?_)
     have hs_w15 := (hE16).size
     replace hV := evo_step0 hV hE16
     replace hf := hf0 _ hV
     refine r_cond (by exact rfl) (fun hc17 => ?_) (fun hc17 => ?_)
     ·skip
      refine r_seq ?_
      refine r_region ?_
      refine r_op rfl rfl rfl (run_asg (v := .int _ _) rfl (by exact rfl)) ?_
      refine r_nil ?_
      refine r_ret (res1 (v := .int _ _) rfl (by exact rfl)) ?_
      exact ⟨ret_int (by rw [hv, val_no (by omega) (by rw [check_tag hfo hc17.1 (by simpa using hc17.2)]; decide), check_tag hfo hc17.1 (by simpa using hc17.2)]), hV⟩
     ·skip
      refine r_skip ?_
      refine r_blk ?_
      refine r_region ?_
      refine r_op rfl rfl rfl (run_add rfl (by exact rfl) (by exact rfl) (by omega) (by omega)) ?_
      refine r_op rfl rfl rfl (run_mv (v := .int _ _) rfl (by exact rfl)) ?_
      refine r_nil ?_
      refine r_again (k + 1) ?_ ?_ ?_
      ·first | omega | (dsimp only; omega)
      ·refine ⟨(by first | exact rfl | exact congrArg (Value.int _) (by omega) | exact congrArg (Value.int _) (by dsimp only; omega) | exact congrArg (Value.int _) (by simp) | exact congrArg S (by simp)), (by first | assumption | omega | (dsimp only; omega) | (simp; done)), (by rw [hv, val_ok (by omega) (check_ok hfo (by simpa using hc17))]), (by first | assumption | omega | (dsimp only; omega) | (simp; done)), hV⟩
      ·repeat (first | (with_reducible exact Agree.merge _ _ _) | (with_reducible exact Agree.refl _ _) | (with_reducible refine Agree.upd ?_ _ _ rfl) | ((with_reducible refine Agree.inner ?_ ?_); (kernel_rfl)))
   ·skip
    refine r_exit rfl ?_
    refine r_seq ?_
    refine r_region ?_
    refine r_op rfl rfl rfl (run_asg (v := .int _ _) rfl (by exact rfl)) ?_
    refine r_nil ?_
    refine r_ret (res1 (v := .int _ _) rfl (by exact rfl)) ?_
    exact ⟨ret_int (by rw [hv, val_end (by omega)]), hV⟩

end Go.Proofs.Ytomklacppmaljaa

namespace Go.Proofs.Ytomklacppmaljaa
open Go.RowKit Go.Vc
theorem ag_81 : aggP Try.prog 81 = some true := by kernel_rfl
theorem ag_85 : aggP Try.prog 85 = some false := by kernel_rfl
theorem ty_34 : tyP Try.prog 34 = some (1, 24, some (.slice none 0 0)) := by kernel_rfl
theorem ty_85 : tyP Try.prog 85 = some (1, 24, some (.slice none 0 0)) := by kernel_rfl
theorem ssort_calls {w : World} {base : Nat} {v : Value} {l : List Str} (h : OwnE w base 9 v l) : Calls Try.prog 109 #[v] w fun e w' => e = .returned (.tuple #[]) ∧ Evo w w' v.ownBlock.toList ∧ OwnE w' base 9 v (sortS l) :=
  ssort_of Try.slices_Sort_string (Try.slices_Sort_string_none none 0) h
/-- how many bytes the texts of a fragment have -/
def txtN (f : List Vc.Item) : Nat := ((f.filter fun x => decide (x.kind = 1)).map fun x => x.text.length).sum
theorem txtN_yes {f : List Vc.Item} {k : Nat} (h : k < f.length) (hk : (f.getD k default).kind = 1) : txtN (f.take (k + 1)) = txtN (f.take k) + (f.getD k default).text.length := by
  unfold txtN; rw [take_succD f k h, List.filter_append]; simp only [List.filter_cons, hk, decide_true, if_true, List.filter_nil, List.map_append, List.sum_append, List.map_cons, List.map_nil, List.sum_cons, List.sum_nil]; omega
theorem txtN_no {f : List Vc.Item} {k : Nat} (h : k < f.length) (hk : ¬ (f.getD k default).kind = 1) : txtN (f.take (k + 1)) = txtN (f.take k) := by
  have e : [f.getD k default].filter (fun x => decide (x.kind = 1)) = [] := by rw [List.filter_cons, if_neg (by simpa using hk)]; rfl
  unfold txtN; rw [take_succD f k h, List.filter_append, e]; simp
theorem txtN_le : ∀ f : List Vc.Item, txtN f ≤ sizeL f
  | [] => Nat.le_refl _
  | x :: f => by
    have := txtN_le f
    unfold txtN sizeL at *
    rw [List.filter_cons]
    split <;> simp only [List.map_cons, List.sum_cons] <;> omega
def ancP (x : Vc.Item) : Bool := decide (x.kind = 7) || decide (x.kind = 5) || decide (x.kind = 2) || decide (x.kind = 4)
theorem ancP_iff {x : Vc.Item} : ancP x = true ↔ (((x.kind = 7 ∨ x.kind = 5) ∨ x.kind = 2) ∨ x.kind = 4) := by simp [ancP]
def ancT (l : List Vc.Item) : List Str := (l.filter ancP).map fun x => x.text
theorem ancT_yes {l : List Vc.Item} {k : Nat} (h : k < l.length) (hk : ancP (l.getD k default) = true) : ancT (l.take (k + 1)) = ancT (l.take k) ++ [(l.getD k default).text] := by
  unfold ancT; rw [take_succD l k h, List.filter_append, List.map_append, List.filter_cons, hk]; rfl
theorem ancT_no {l : List Vc.Item} {k : Nat} (h : k < l.length) (hk : ¬ ancP (l.getD k default) = true) : ancT (l.take (k + 1)) = ancT (l.take k) := by
  unfold ancT; rw [take_succD l k h, List.filter_append, List.map_append, List.filter_cons, if_neg hk]; simp
theorem ancT_len (l : List Vc.Item) : (ancT l).length ≤ l.length := by unfold ancT; rw [List.length_map]; exact List.length_filter_le _ _
def sideOf (f : List Vc.Item) : Side := ⟨(txtN f : Nat), sortS (ancT (toks f))⟩
def sidesE (ll : List (List Vc.Item)) : Int := if 64 < ll.length then 3 else firstE (fun i => validateL (ll.getD i default)) ll.length
def sidesL (ll : List (List Vc.Item)) : List Side := if sidesE ll = 0 then ll.map sideOf else []
theorem fold_anc {l : List Vc.Item} {k : Nat} (h : k < l.length) (hk : ancP (l.getD k default) = true) : (ancT (l.take (k + 1))).foldl insS [] = insS ((ancT (l.take k)).foldl insS []) (l.getD k default).text := by
  rw [ancT_yes h hk, List.foldl_append]; rfl
theorem fold_anc_len (l : List Str) : (l.foldl insS []).length = l.length := by rw [fold_ins, sortS_len]
theorem anc_case {x : Vc.Item} (h : x.kind = 7 ∨ x.kind = 5 ∨ x.kind = 2 ∨ x.kind = 4) : ancP x = true := ancP_iff.2 (by omega)
theorem anc_none {x : Vc.Item} (h1 : ¬ x.kind = 7) (h2 : ¬ x.kind = 5) (h3 : ¬ x.kind = 2) (h4 : ¬ x.kind = 4) : ¬ ancP x = true := fun h => by have := ancP_iff.1 h; omega
theorem map_succD {f : List Vc.Item → Side} {ll : List (List Vc.Item)} {i : Nat} (h : i < ll.length) : (ll.take (i + 1)).map f = (ll.take i).map f ++ [f (ll.getD i default)] := by
  rw [take_succD ll i h, List.map_append]; rfl

theorem insert_calls {ao : Option Addr} {b off cap : Nat} {l : List Str} {x : Str} {w0 : World} (hl : RowE w0 ao b off cap l) (hs : l.length ≤ 1000000000) :
    Calls Try.prog 111 #[.slice ao l.length cap, S x] w0 fun e w' => ∃ v, e = .returned v ∧ Evo w0 w' [] ∧ OwnE w' w0.heap.size 9 v (insS l x) := by
 refine calls_enter (n := 33) (args := [.slice ao l.length cap, S x]) Try.func111 rfl Try.ntmps111 rfl ?_
 have hV : Evo w0 w0 [] := Evo.refl _ _
 have hl0 := keepE hl
 have hbd_hl := hl.bd
 refine r_seq ?_
 refine r_region ?_
 refine r_op rfl rfl rfl (run_asg (v := .slice _ _ _) rfl (by exact rfl)) ?_
 refine r_nil ?_
 refine r_seq ?_
 refine r_region ?_
 refine r_op rfl rfl rfl (run_asg (v := .int _ _) rfl (by exact rfl)) ?_
 refine r_nil ?_
 refine r_seq ?_
 refine r_block ?_
 refine r_loop (α := Nat) [5, 7, 8, 9, 10, 11, 12, 13, 14, 15, 16, 17, 18, 19, 20] (fun k g w => g 5 = .int .i64 (k : Nat) ∧ k ≤ l.length ∧ (∀ j, j < k → l.getD j default ≤ x) ∧ w0.heap.size ≤ w.heap.size ∧ Evo w0 w []) (fun k => l.length - k) 0 ?_ ?_
 ·refine ⟨rfl, (by first | assumption | omega | (dsimp only; omega) | (simp; done)), (fun j h1 => by omega), (by first | assumption | omega | (dsimp only; omega) | (simp; done)), hV⟩
 ·rintro k g w2 ⟨hj3, hk, hall, hzl1, hV⟩
  have hs_w2hV := hV.size
  replace hl := hl0 _ hV
  refine r_know (i := 5) (v := .int .i64 (k : Nat)) (by exact hj3) ?_
  refine r_seq ?_
  refine r_seq ?_
  refine r_region ?_
  refine r_op rfl rfl rfl (run_mv (v := .int _ _) rfl (by exact rfl)) ?_
  refine r_op rfl rfl rfl (run_mv (v := .slice _ _ _) rfl (by exact rfl)) ?_
  refine r_op rfl rfl rfl (run_lenSl rfl (by exact rfl) Try.underlying34) ?_
  refine r_op rfl rfl rfl (run_lss rfl (by exact rfl) (by exact rfl)) ?_
  refine r_op rfl rfl rfl (run_mv (v := .bool _) rfl (by exact rfl)) ?_
  refine r_g rfl (wantT (by exact rfl)) rfl (fun hg => run_mv (v := .slice _ _ _) rfl (by exact rfl)) ?_
  refine r_g rfl (wantT (by exact rfl)) rfl (fun hg => run_mv (v := .int _ _) rfl (by exact rfl)) ?_
  refine r_g rfl (wantT (by exact rfl)) rfl (fun hg => run_ix (k) rfl Try.underlying34 ty_9 (glv (by exact rfl) (fun h => h) hg) (glv (by exact rfl) (fun h => h) hg) (by first | exact rfl | omega) (by omega) (hl.addr (i := k) (by omega))) ?_
  refine r_g rfl (wantT (by exact rfl)) rfl (fun hg => run_ld1 rfl ag_9 (glv (by exact rfl) (fun h => h) hg) ((hl.atD (k) (by omega)).cell 0 (by exact rfl))) ?_
  refine r_g rfl (wantT (by exact rfl)) rfl (fun hg => run_mv (v := S _) rfl (by exact rfl)) ?_
  refine r_g rfl (wantT (by exact rfl)) rfl (fun hg => run_sleqD rfl (glv (by exact rfl) (fun h => h) hg) (glv (by exact rfl) (fun h => h) hg)) ?_
  refine r_op rfl rfl rfl (run_pick_and rfl (by exact rfl) (fun hq => glv (by exact rfl) (fun h => h) hq) rfl) ?_
  refine r_nil ?_
  refine r_cond (by exact rfl) (fun hc4 => ?_) (fun hc4 => ?_)
  ·skip
   refine r_skip ?_
   refine r_block ?_
   refine r_region ?_
   refine r_op rfl rfl rfl (run_mv (v := .int _ _) rfl (by exact rfl)) ?_
   refine r_op rfl rfl rfl (run_add rfl (by exact rfl) (by exact rfl) (by omega) (by omega)) ?_
   refine r_op rfl rfl rfl (run_asg (v := .int _ _) rfl (by exact rfl)) ?_
   refine r_nil ?_
   refine r_blk ?_
   refine r_again (k + 1) ?_ ?_ ?_
   ·first | omega | (dsimp only; omega)
   ·refine ⟨(by first | exact rfl | exact congrArg (Value.int _) (by omega) | exact congrArg (Value.int _) (by dsimp only; omega) | exact congrArg (Value.int _) (by simp) | exact congrArg S (by simp)), (by first | assumption | omega | (dsimp only; omega) | (simp; done)), (upto0 hall ((sleq_iff _ _).1 hc4.2)), (by first | assumption | omega | (dsimp only; omega) | (simp; done)), hV⟩
   ·repeat (first | (with_reducible exact Agree.merge _ _ _) | (with_reducible exact Agree.refl _ _) | (with_reducible refine Agree.upd ?_ _ _ rfl) | ((with_reducible refine Agree.inner ?_ ?_); (kernel_rfl)))
  ·skip
   refine r_exit rfl ?_
   refine r_seq ?_
   refine r_region ?_
   refine r_op rfl rfl rfl (run_mv (v := .slice _ _ _) rfl (by exact rfl)) ?_
   refine r_op rfl rfl rfl (run_mv (v := .int _ _) rfl (by exact rfl)) ?_
   refine r_op rfl rfl rfl (by exact run_slE (0) (k) rfl Try.underlying34 ty_9 (by exact rfl) hl lo0 (at1 (by exact rfl) (by omega)) (by first | omega | (simp; omega)) (by first | omega | (simp; omega)) List.drop_zero) ?_
   have hS50 := fun (w' : World) (h : Evo w0 w' []) => (by have h9 := ((hl0 w' h).take (k)).drop (0); rw [List.drop_zero] at h9; exact h9)
   have hS5 := (by have h9 := (hl.take (k)).drop (0); rw [List.drop_zero] at h9; exact h9)
   have hbd_hS5 := hS5.bd
   refine r_appendE rfl Try.underlying34 ty_9 (by exact rfl) (OwnE.nil (α := Str) _ w0.heap.size _) (by exact rfl) (by exact rfl) hS5 rfl (by simp; omega) (by simp; omega) (by omega) ?_
   intro v6 w7 hEw7 hov6 hlv6
   have hs_w7 := (hEw7).size
   replace hV := evo_step0 hV hEw7
   replace hl := hl0 _ hV
   refine r_op rfl rfl rfl (run_mv (v := S _) rfl (by exact rfl)) ?_
   refine r_append1E (u := S _) (y := _) rfl rfl Try.underlying34 ty_9 (by exact rfl) hov6 (fun _ => (by exact rfl)) (by exact rfl) (by first | exact rfl | (show _ = List.toArray [_]; first | (dsimp only; done) | exact rfl | (dsimp only; exact rfl))) ((by simp; omega)) ((by simp; omega)) (by omega) ?_
   intro q_v8 v8 w9 hEw9 hov8 hlv8
   have hs_w9 := (hEw9).size
   replace hV := evo_stepo hV hEw9 (fun g hg => .inl (by first | exact (hov6.block hg).1 | (have := hov6.block hg; omega)))
   replace hl := hl0 _ hV
   refine r_op rfl rfl rfl (run_asg (v := v8) rfl (by exact rfl)) ?_
   refine r_nil ?_
   refine r_seq ?_
   refine r_region ?_
   refine r_op rfl rfl rfl (run_mv (v := v8) rfl (by exact rfl)) ?_
   refine r_op rfl rfl rfl (run_mv (v := .slice _ _ _) rfl (by exact rfl)) ?_
   refine r_op rfl rfl rfl (run_mv (v := .int _ _) rfl (by exact rfl)) ?_
   refine r_op rfl rfl rfl (by exact run_slE0 (k) rfl Try.underlying34 ty_9 rfl (by exact rfl) hl (at1 (by exact rfl) (by omega)) (by first | omega | (simp; omega))) ?_
   have hS100 := fun (w' : World) (h : Evo w0 w' []) => (hl0 w' h).drop (k)
   have hS10 := hl.drop (k)
   have hbd_hS10 := hS10.bd
   refine r_appendE rfl Try.underlying34 ty_9 (by exact rfl) hov8 (by exact rfl) (by exact rfl) hS10 rfl ((by simp; omega)) ((by simp; omega)) (by omega) ?_
   intro v11 w12 hEw12 hov11 hlv11
   have hs_w12 := (hEw12).size
   replace hV := evo_stepo hV hEw12 (fun g hg => .inl (by first | exact (hov8.block hg).1 | (have := hov8.block hg; omega)))
   replace hl := hl0 _ hV
   refine r_op rfl rfl rfl (run_asg (v := v11) rfl (by exact rfl)) ?_
   refine r_nil ?_
   refine r_ret (res1 (v := v11) rfl (by exact rfl)) ?_
   exact ⟨_, rfl, hV, by have h9 := hov11; rw [List.nil_append, insS_at l x k hk hall ((Nat.lt_or_ge k l.length).elim (fun h => .inr (fun h2 => hc4 ⟨by omega, (sleq_iff _ _).2 h2⟩)) (fun h => .inl (by omega)))] at h9; exact h9.base_le (by omega)⟩

theorem sides_many {ll : List (List Vc.Item)} (h : 64 < ll.length) : sidesE ll = 3 := if_pos h
theorem sides_bad {ll : List (List Vc.Item)} {i : Nat} (h : ¬ 64 < ll.length) (h1 : ∀ j, j < i → validateL (ll.getD j default) = 0) (h2 : ¬ validateL (ll.getD i default) = 0) (hi : i < ll.length) : sidesE ll = validateL (ll.getD i default) := by
  unfold sidesE; rw [if_neg h, firstE_at h1 h2 hi]
theorem sides_ok {ll : List (List Vc.Item)} {i : Nat} (h : ¬ 64 < ll.length) (h1 : ∀ j, j < i → validateL (ll.getD j default) = 0) (hi : ll.length ≤ i) : sidesE ll = 0 := by
  unfold sidesE; rw [if_neg h, firstE_none (fun j hj => h1 j (by omega))]
theorem sidesL_no {ll : List (List Vc.Item)} (h : ¬ sidesE ll = 0) : sidesL ll = [] := if_neg h
theorem sidesL_yes {ll : List (List Vc.Item)} (h : sidesE ll = 0) : sidesL ll = ll.map sideOf := if_pos h
theorem ret_vi {v : Value} {a b : Int} (h : a = b) : Ending.returned (.tuple #[v, .int .i64 a]) = .returned (.tuple #[v, .int .i64 b]) := by rw [h]

set_option maxHeartbeats 1000000 in
theorem sides_calls {ao : Option Addr} {b off cap : Nat} {ll : List (List Vc.Item)} {w0 : World} (hl : RowR w0 ao b off cap ll) (hsm : ∀ f ∈ ll, Mid f) :
    Calls Try.prog 63 #[.slice ao ll.length cap] w0 fun e w' => ∃ v, e = .returned (.tuple #[v, .int .i64 (sidesE ll)]) ∧ Evo w0 w' [] ∧ OwnR w' w0.heap.size 149 [] v (sidesL ll) := by
 refine calls_enter (n := 75) (args := [.slice ao ll.length cap]) Try.func63 rfl Try.ntmps63 rfl ?_
 have hV : Evo w0 w0 [] := Evo.refl _ _
 have hl0 := hl.keep
 have hbd_hl := hl.bd
 refine r_seq ?_
 refine r_region ?_
 refine r_op rfl rfl rfl (run_asg (v := .slice _ _ _) rfl (by exact rfl)) ?_
 refine r_op rfl rfl rfl (run_asg (v := .int _ _) rfl (by exact rfl)) ?_
 refine r_nil ?_
 refine r_seq ?_
 refine r_seq ?_
 refine r_region ?_
 refine r_op rfl rfl rfl (run_mv (v := .slice _ _ _) rfl (by exact rfl)) ?_
 refine r_op rfl rfl rfl (run_lenSl rfl (by exact rfl) Try.underlying90) ?_
 refine r_op rfl rfl rfl (run_gtr rfl (by exact rfl) (by exact rfl)) ?_
 refine r_nil ?_
 refine r_cond (by exact rfl) (fun hc1 => ?_) (fun hc1 => ?_)
 ·skip
  refine r_seq ?_
  refine r_region ?_
  refine r_op rfl rfl rfl (run_asg (v := .slice _ _ _) rfl (by exact rfl)) ?_
  refine r_op rfl rfl rfl (run_asg (v := .int _ _) rfl (by exact rfl)) ?_
  refine r_nil ?_
  refine r_ret (res2 (v := .slice _ _ _) (u := .int _ _) rfl (by exact rfl) (by exact rfl)) ?_
  exact ⟨_, ret_vi (sides_many (by omega)).symm, hV, by rw [sidesL_no (by rw [sides_many (by omega)]; decide)]; exact OwnR.nil _ _ _ _⟩
 ·skip
  refine r_skip ?_
  refine r_seq ?_
  refine r_region ?_
  refine r_op rfl rfl rfl (run_asg (v := .slice _ _ _) rfl (by exact rfl)) ?_
  refine r_nil ?_
  refine r_seq ?_
  refine r_seq ?_
  refine r_region ?_
  refine r_op rfl rfl rfl (run_mv (v := .slice _ _ _) rfl (by exact rfl)) ?_
  refine r_op rfl rfl rfl (run_lenSl rfl (by exact rfl) Try.underlying90) ?_
  refine r_op rfl rfl rfl (run_mv (v := .int _ _) rfl (by exact rfl)) ?_
  refine r_nil ?_
  refine r_block ?_
  refine r_loop (α := Nat) [2, 3, 4, 6, 7, 8, 10, 12, 18, 19, 20, 21, 22, 23, 24, 25, 26, 27, 28, 29, 30, 31, 32, 33, 34, 35, 36, 37, 38, 39, 40, 41, 42, 43, 44, 45, 46, 47, 48, 49, 50, 51, 52, 53, 54, 55, 56, 57, 58, 59, 60, 61, 62, 63, 64, 65, 66, 67, 68, 69, 70, 71, 72, 73] (fun i g w => ∃ vo : Value, g 18 = .int .i64 (i : Nat) ∧ g 4 = vo ∧ i ≤ ll.length ∧ OwnR w w0.heap.size 149 [] vo ((ll.take i).map sideOf) ∧ (∀ j, j < i → validateL (ll.getD j default) = 0) ∧ w0.heap.size ≤ w.heap.size ∧ Evo w0 w []) (fun i => ll.length - i) 0 ?_ ?_
  ·refine ⟨_, (by first | exact rfl | exact congrArg (Value.int _) (by omega) | exact congrArg (Value.int _) (by dsimp only; omega) | exact congrArg (Value.int _) (by simp) | exact congrArg S (by simp)), rfl, (by first | assumption | omega | (dsimp only; omega) | (simp; done)), (OwnR.nil _ _ _ _), (fun j h => by omega), (by first | assumption | omega | (dsimp only; omega) | (simp; done)), hV⟩
  ·rintro i g w3 ⟨vo, hj4, hj5, hk_i, hoR, hno, hzl2, hV⟩
   have hs_w3hV := hV.size
   replace hl := hl0.now hV
   refine r_know (i := 18) (v := .int .i64 (i : Nat)) (by exact hj4) ?_
   refine r_know (i := 4) (v := vo) (by exact hj5) ?_
   refine r_seq ?_
   refine r_region ?_
   refine r_op rfl rfl rfl (run_lss rfl (by exact rfl) (by exact rfl)) ?_
   refine r_nil ?_
   refine r_seq ?_
   refine r_cond (by exact rfl) (fun hc6 => ?_) (fun hc6 => ?_)
   ·skip
    refine r_skip ?_
    refine r_seq ?_
    refine r_block ?_
    refine r_seq ?_
    have hI : Evo w3 w3 [] := Evo.refl _ _
    have hoR0 := hoR
    have hobR := fun g hg => (hoR.block (g := g) hg).2
    have hmi := hsm _ (getD_in (show i < ll.length by omega))
    refine r_region ?_
    refine r_op rfl rfl rfl (run_ix (i) rfl Try.underlying90 ty_85 (by exact rfl) (by exact rfl) (by first | exact rfl | omega) (by omega) (hl.addr (i := i) (by omega))) ?_
    obtain ⟨ao7, b7, off7, cap7, hX⟩ := sl_atK hl0 (i) (by omega)
    have hA70 := fun (w' : World) (h : Evo w0 w' []) => (hX w' h).1
    have hA7 := hA70 _ hV
    have hR70 := fun (w' : World) (h : Evo w0 w' []) => (hX w' h).2
    have hR7 := hR70 _ hV
    clear hX
    have hbd_hR7 := hR7.bd
    refine r_op rfl rfl rfl (run_ld1 rfl ag_85 (by exact rfl) (hA7.cell 0 (by exact rfl))) ?_
    refine r_op rfl rfl rfl (run_asg (v := .slice _ _ _) rfl (by exact rfl)) ?_
    refine r_nil ?_
    refine r_seq ?_
    refine r_seq ?_
    refine r_region ?_
    refine r_op rfl rfl rfl (run_mv (v := .slice _ _ _) rfl (by exact rfl)) ?_
    refine r_opcall rfl rfl rfl (run_callf (vs := [.slice _ _ _]) rfl (by exact rfl) Try.func107 rfl (by kernel_rfl)) (mvalidate_calls hR7 hmi) ?_
    rintro e w8 ⟨rfl, hE8⟩
    refine ⟨_, rfl, ?_⟩
    have hs_w8 := (hE8).size
    replace hV := evo_step0 hV hE8
    replace hI := evo_step0 hI hE8
    replace hl := hl0.now hV
    replace hR7 := hR70 _ hV
    refine r_op rfl rfl rfl (run_asg (v := .int _ _) rfl (by exact rfl)) ?_
    refine r_nil ?_
    refine r_seq ?_
    refine r_region ?_
    refine r_op rfl rfl rfl (run_mv (v := .int _ _) rfl (by exact rfl)) ?_
    refine r_op rfl rfl rfl (run_neq rfl (by exact rfl) (by exact rfl)) ?_
    refine r_nil ?_
    refine r_cond (by exact rfl) (fun hc9 => ?_) (fun hc9 => ?_)
    ·skip
     refine r_seq ?_
     refine r_region ?_
     refine r_op rfl rfl rfl (run_mv (v := .int _ _) rfl (by exact rfl)) ?_
     refine r_op rfl rfl rfl (run_asg (v := .slice _ _ _) rfl (by exact rfl)) ?_
     refine r_op rfl rfl rfl (run_asg (v := .int _ _) rfl (by exact rfl)) ?_
     refine r_nil ?_
     refine r_ret (res2 (v := .slice _ _ _) (u := .int _ _) rfl (by exact rfl) (by exact rfl)) ?_
     exact ⟨_, ret_vi (sides_bad (by omega) hno hc9 (by omega)).symm, hV, by rw [sidesL_no (by rw [sides_bad (by omega) hno hc9 (by omega)]; exact hc9)]; exact OwnR.nil _ _ _ _⟩
    ·skip
     refine r_skip ?_
     refine r_seq ?_
     have hsi := valid_small (Classical.not_not.1 hc9); have hs1 := hsi.1; have hs2 := hsi.2; have hzi : fLen (ll.getD i default) + (ll.getD i default).length ≤ 1000000000 := by (have : fLen (ll.getD i default) = sizeL (ll.getD i default) := rfl); omega
     have htl := toks_len (ll.getD i default); have hfz : fLen (ll.getD i default) = sizeL (ll.getD i default) := rfl
     refine r_region ?_
     refine r_alloc (zs := [_, _]) ty_149 (by exact rfl) rfl ?_
     intro b10 w11 heb10 hEw11 hbb10 hzb10
     have hs_w11 := (hEw11).size
     replace hV := evo_step0 hV hEw11
     replace hI := evo_step0 hI hEw11
     replace hl := hl0.now hV
     replace hR7 := hR70 _ hV
     have hAb10 := hbb10.at
     refine r_nil ?_
     refine r_seq ?_
     refine r_seq ?_
     refine r_region ?_
     refine r_op rfl rfl rfl (run_mv (v := .slice _ _ _) rfl (by exact rfl)) ?_
     refine r_op rfl rfl rfl (run_lenSl rfl (by exact rfl) Try.underlying85) ?_
     refine r_op rfl rfl rfl (run_mv (v := .int _ _) rfl (by exact rfl)) ?_
     refine r_nil ?_
     refine r_block ?_
     refine r_loop (α := Nat) [10, 29, 30, 31, 32, 33, 34, 35, 36, 37, 38, 39, 40, 41, 42, 43] (fun k g w => g 29 = .int .i64 (k : Nat) ∧ k ≤ (ll.getD i default).length ∧ Blk w b10 149 [.int .i64 ((txtN ((ll.getD i default).take k) : Nat) : Int), .slice none 0 0] ∧ At w b10 0 [.int .i64 ((txtN ((ll.getD i default).take k) : Nat) : Int), .slice none 0 0] ∧ w11.heap.size ≤ w.heap.size ∧ Evo w0 w [] ∧ Evo w3 w []) (fun k => (ll.getD i default).length - k) 0 ?_ ?_
     ·refine ⟨(by first | exact rfl | exact congrArg (Value.int _) (by omega) | exact congrArg (Value.int _) (by dsimp only; omega) | exact congrArg (Value.int _) (by simp) | exact congrArg S (by simp)), (by first | assumption | omega | (dsimp only; omega) | (simp; done)), hbb10, hbb10.at, (by first | assumption | omega | (dsimp only; omega) | (simp; done)), hV, hI⟩
     ·rintro k g w13 ⟨hj14, hk_k, hbb10, hAb10, hzl12, hV, hI⟩
      have hs_w13hV := hV.size
      have hs_w13hI := hI.size
      have hlt15 := hbb10.lt
      replace hl := hl0.now hV
      replace hA7 := hA70 _ hV
      replace hR7 := hR70 _ hV
      refine r_know (i := 29) (v := .int .i64 (k : Nat)) (by exact hj14) ?_
      have hxn := txtN_le ((ll.getD i default).take k)
      have hxz := sizeL_take (ll.getD i default) k
      have hxs := sizeL_succ (ll.getD i default) k
      have hxy := sizeL_take (ll.getD i default) (k + 1)
      refine r_seq ?_
      refine r_region ?_
      refine r_op rfl rfl rfl (run_lss rfl (by exact rfl) (by exact rfl)) ?_
      refine r_nil ?_
      refine r_seq ?_
      refine r_cond (by exact rfl) (fun hc16 => ?_) (fun hc16 => ?_)
      ·skip
       refine r_skip ?_
       refine r_seq ?_
       refine r_block ?_
       refine r_seq ?_
       refine r_region ?_
       refine r_op rfl rfl rfl (run_ix (k) rfl Try.underlying85 ty_129 (by exact rfl) (by exact rfl) (by first | exact rfl | omega) (by omega) (hR7.addr (i := k) (by omega))) ?_
       have hA170 := fun (w' : World) (h : Evo w0 w' []) => (hR70 w' h).atD (k) (by omega)
       have hA17 := hA170 _ hV
       refine r_op rfl rfl rfl (run_ldN rfl ag_129 ty_129 (by exact rfl) rfl hA17) ?_
       refine r_var (zs := [_, _, _]) (vs := [_, _, _]) ty_129 (by exact rfl) rfl (by exact rfl) (fun _ => rfl) (by exact rfl) rfl rfl (by exact rfl) ?_
       intro b18 w19 heb18 hEw19 hbb18 hzb18
       have hs_w19 := (hEw19).size
       replace hV := evo_step0 hV hEw19
       replace hI := evo_step0 hI hEw19
       replace hl := hl0.now hV
       replace hbb10 := hbb10.evo0 hEw19
       replace hAb10 := hAb10.evo0 hEw19
       have hAb18 := hbb18.at
       refine r_nil ?_
       refine r_seq ?_
       refine r_region ?_
       refine r_op rfl rfl rfl (run_fa rfl (by exact rfl) fo_129_0) ?_
       refine r_op rfl rfl rfl (run_ld1 rfl ag_3 (by exact rfl) (hAb18.cell 0 (by exact rfl))) ?_
       refine r_op rfl rfl rfl (run_eql rfl (by exact rfl) (by exact rfl)) ?_
       refine r_nil ?_
       refine r_cond (by exact rfl) (fun hc20 => ?_) (fun hc20 => ?_)
       ·skip
        refine r_region ?_
        refine r_op rfl rfl rfl (run_fa rfl (by exact rfl) fo_149_0) ?_
        refine r_op rfl rfl rfl (run_ld1 rfl ag_3 (by exact rfl) (hAb10.cell 0 (by exact rfl))) ?_
        refine r_op rfl rfl rfl (run_fa rfl (by exact rfl) fo_129_1) ?_
        refine r_op rfl rfl rfl (run_ld1 rfl ag_9 (by exact rfl) (hAb18.cell 1 (by exact rfl))) ?_
        refine r_op rfl rfl rfl (run_lenS rfl (by exact rfl) Try.underlying9) ?_
        refine r_op rfl rfl rfl (run_add rfl (by exact rfl) (by exact rfl) (by omega) (by omega)) ?_
        refine r_op rfl rfl rfl (run_fa rfl (by exact rfl) fo_149_0) ?_
        refine r_store (v := .int _ _) (vs := [_]) (cs' := [_, _]) (by exact rfl) (by exact rfl) hbb10 ty_3 (by exact rfl) rfl (by exact rfl) rfl (by exact rfl) ?_
        intro w21 hEw21 hzw21 hb_new
        have hs_w21 := (hEw21).size
        replace hV := evo_step1 hV hEw21 (by first | exact .inl (by omega) | exact .inr (by simp))
        replace hI := evo_step1 hI hEw21 (by first | exact .inl (by omega) | exact .inr (by simp))
        replace hl := hl0.now hV
        replace hbb10 := hb_new
        have hAb10 := hbb10.at
        clear hb_new
        refine r_nil ?_
        refine r_blk ?_
        refine r_region ?_
        refine r_op rfl rfl rfl (run_add rfl (by exact rfl) (by exact rfl) (by omega) (by omega)) ?_
        refine r_op rfl rfl rfl (run_mv (v := .int _ _) rfl (by exact rfl)) ?_
        refine r_nil ?_
        refine r_again (k + 1) ?_ ?_ ?_
        ·first | omega | (dsimp only; omega)
        ·refine ⟨(by first | exact rfl | exact congrArg (Value.int _) (by omega) | exact congrArg (Value.int _) (by dsimp only; omega) | exact congrArg (Value.int _) (by simp) | exact congrArg S (by simp)), (by first | assumption | omega | (dsimp only; omega) | (simp; done)), (by first | (rw [txtN_no (by omega) hc20]; exact hbb10) | (rw [txtN_yes (by omega) hc20]; exact hbb10)), (by first | (rw [txtN_no (by omega) hc20]; exact hbb10.at) | (rw [txtN_yes (by omega) hc20]; exact hbb10.at)), (by first | assumption | omega | (dsimp only; omega) | (simp; done)), hV, hI⟩
        ·repeat (first | (with_reducible exact Agree.merge _ _ _) | (with_reducible exact Agree.refl _ _) | (with_reducible refine Agree.upd ?_ _ _ rfl) | ((with_reducible refine Agree.inner ?_ ?_); (kernel_rfl)))
       ·skip
        refine r_skip ?_
        refine r_blk ?_
        refine r_region ?_
        refine r_op rfl rfl rfl (run_add rfl (by exact rfl) (by exact rfl) (by omega) (by omega)) ?_
        refine r_op rfl rfl rfl (run_mv (v := .int _ _) rfl (by exact rfl)) ?_
        refine r_nil ?_
        refine r_again (k + 1) ?_ ?_ ?_
        ·first | omega | (dsimp only; omega)
        ·refine ⟨(by first | exact rfl | exact congrArg (Value.int _) (by omega) | exact congrArg (Value.int _) (by dsimp only; omega) | exact congrArg (Value.int _) (by simp) | exact congrArg S (by simp)), (by first | assumption | omega | (dsimp only; omega) | (simp; done)), (by first | (rw [txtN_no (by omega) hc20]; exact hbb10) | (rw [txtN_yes (by omega) hc20]; exact hbb10)), (by first | (rw [txtN_no (by omega) hc20]; exact hbb10.at) | (rw [txtN_yes (by omega) hc20]; exact hbb10.at)), (by first | assumption | omega | (dsimp only; omega) | (simp; done)), hV, hI⟩
        ·repeat (first | (with_reducible exact Agree.merge _ _ _) | (with_reducible exact Agree.refl _ _) | (with_reducible refine Agree.upd ?_ _ _ rfl) | ((with_reducible refine Agree.inner ?_ ?_); (kernel_rfl)))
      ·skip
       refine r_exit rfl ?_
       refine r_seq ?_
       refine r_seq ?_
       have hk8 := hk_k
       rw [List.take_of_length_le (show (ll.getD i default).length ≤ k by omega)] at hbb10
       have hAb10 := hbb10.at
       clear hk8
       refine r_region ?_
       refine r_op rfl rfl rfl (run_mv (v := .slice _ _ _) rfl (by exact rfl)) ?_
       refine r_opcall rfl rfl rfl (run_callf (vs := [.slice _ _ _]) rfl (by exact rfl) Try.func108 rfl (by kernel_rfl)) (tokens_calls hR7 hzi) ?_
       rintro e w22 ⟨vt22, rfl, hE22, hot22⟩
       refine ⟨_, rfl, ?_⟩
       have hs_w22 := (hE22).size
       replace hV := evo_step0 hV hE22
       replace hI := evo_step0 hI hE22
       replace hl := hl0.now hV
       replace hbb10 := hbb10.evo0 hE22
       replace hAb10 := hAb10.evo0 hE22
       refine r_op rfl rfl rfl (run_lenOE rfl (by exact rfl) Try.underlying63 hot22) ?_
       refine r_op rfl rfl rfl (run_mv (v := .int _ _) rfl (by exact rfl)) ?_
       refine r_nil ?_
       refine r_block ?_
       have hT : Evo w22 w22 [b10] := Evo.refl _ _
       obtain ⟨ao23, g23, cp23, hv23, hr23, hg23⟩ := hot22.rowOf
       subst hv23
       have hr230 := fun w9 (h9 : Evo w22 w9 [b10]) => row_keep hr23 h9 (fun hne hm => by have h2 := (hg23 hne).2; simp at hm; omega)
       refine r_loop (α := Nat) [12, 47, 48, 49, 50, 51, 52, 53, 54, 55, 56, 57, 58, 59, 60, 61, 62, 63, 64, 65] (fun q g w => ∃ vs : Value, g 47 = .int .i64 (q : Nat) ∧ q ≤ (toks (ll.getD i default)).length ∧ OwnE w w22.heap.size 9 vs (ancT ((toks (ll.getD i default)).take q)) ∧ Blk w b10 149 [.int .i64 ((txtN (ll.getD i default) : Nat) : Int), vs] ∧ At w b10 0 [.int .i64 ((txtN (ll.getD i default) : Nat) : Int), vs] ∧ w22.heap.size ≤ w.heap.size ∧ Evo w0 w [] ∧ Evo w3 w [] ∧ Evo w22 w [b10]) (fun q => (toks (ll.getD i default)).length - q) 0 ?_ ?_
       ·refine ⟨_, (by first | exact rfl | exact congrArg (Value.int _) (by omega) | exact congrArg (Value.int _) (by dsimp only; omega) | exact congrArg (Value.int _) (by simp) | exact congrArg S (by simp)), (by first | assumption | omega | (dsimp only; omega) | (simp; done)), (OwnE.nil _ _ _), hbb10, hbb10.at, (by first | assumption | omega | (dsimp only; omega) | (simp; done)), hV, hI, hT⟩
       ·rintro q g w25 ⟨vs, hj26, hk_q, hos, hbb10, hAb10, hzl24, hV, hI, hT⟩
        have hs_w25hV := hV.size
        have hs_w25hI := hI.size
        have hs_w25hT := hT.size
        have hlt27 := hbb10.lt
        replace hl := hl0.now hV
        replace hA7 := hA70 _ hV
        replace hR7 := hR70 _ hV
        replace hr23 := hr230 _ hT
        refine r_know (i := 47) (v := .int .i64 (q : Nat)) (by exact hj26) ?_
        have hal := ancT_len ((toks (ll.getD i default)).take q)
        have htk : ((toks (ll.getD i default)).take q).length ≤ q := List.length_take_le _ _
        refine r_seq ?_
        refine r_region ?_
        refine r_op rfl rfl rfl (run_lss rfl (by exact rfl) (by exact rfl)) ?_
        refine r_nil ?_
        refine r_seq ?_
        refine r_cond (by exact rfl) (fun hc28 => ?_) (fun hc28 => ?_)
        ·skip
         refine r_skip ?_
         refine r_seq ?_
         refine r_block ?_
         refine r_seq ?_
         refine r_region ?_
         refine r_op rfl rfl rfl (run_ix (q) rfl Try.underlying63 ty_81 (by exact rfl) (by exact rfl) (by first | exact rfl | omega) (by omega) (hr23.addr (i := q) (by omega))) ?_
         have hA290 := fun (w' : World) (h : Evo w22 w' [b10]) => (hr230 w' h).atD (q) (by omega)
         have hA29 := hA290 _ hT
         refine r_op rfl rfl rfl (run_ldN rfl ag_81 ty_81 (by exact rfl) rfl hA29) ?_
         have hob30 := fun g hg => (hos.block (g := g) hg).2
         refine r_var (zs := [_, _, _]) (vs := [_, _, _]) ty_81 (by exact rfl) rfl (by exact rfl) (fun _ => rfl) (by exact rfl) rfl rfl (by exact rfl) ?_
         intro b31 w32 heb31 hEw32 hbb31 hzb31
         have hs_w32 := (hEw32).size
         replace hV := evo_step0 hV hEw32
         replace hI := evo_step0 hI hEw32
         replace hT := evo_step0 hT hEw32
         replace hl := hl0.now hV
         replace hr23 := hr230 _ hT
         replace hos := hos.evo0 hEw32
         replace hbb10 := hbb10.evo0 hEw32
         replace hAb10 := hAb10.evo0 hEw32
         have hAb31 := hbb31.at
         refine r_nil ?_
         refine r_seq ?_
         refine r_region ?_
         refine r_op rfl rfl rfl (run_fa rfl (by exact rfl) fo_81_0) ?_
         refine r_op rfl rfl rfl (run_ld1 rfl ag_3 (by exact rfl) (hAb31.cell 0 (by exact rfl))) ?_
         refine r_nil ?_
         refine r_block ?_
         refine r_seq ?_
         refine r_seq ?_
         refine r_region ?_
         refine r_op rfl rfl rfl (run_eql rfl (by exact rfl) (by exact rfl)) ?_
         refine r_op rfl rfl rfl (run_asg (v := .bool _) rfl (by exact rfl)) ?_
         refine r_nil ?_
         refine r_cond (by exact rfl) (fun hc33 => ?_) (fun hc33 => ?_)
         ·skip
          refine r_skip ?_
          refine r_condT (by exact rfl) hc33 ?_
          refine r_region ?_
          refine r_op rfl rfl rfl (run_fa rfl (by exact rfl) fo_149_1) ?_
          refine r_op rfl rfl rfl (run_ld1 rfl ag_34 (by exact rfl) (hAb10.cell 1 (by exact rfl))) ?_
          refine r_op rfl rfl rfl (run_fa rfl (by exact rfl) fo_81_1) ?_
          refine r_op rfl rfl rfl (run_ld1 rfl ag_9 (by exact rfl) (hAb31.cell 1 (by exact rfl))) ?_
          refine r_append1E (u := S _) (y := _) rfl rfl Try.underlying34 ty_9 (by exact rfl) hos (fun _ => (by exact rfl)) (by exact rfl) (by first | exact rfl | (show _ = List.toArray [_]; first | (dsimp only; done) | exact rfl | (dsimp only; exact rfl))) ((by first | omega | (simp; omega))) ((by first | omega | (simp; omega))) (by omega) ?_
          intro q_v34 v34 w35 hEw35 hov34 hlv34
          have hs_w35 := (hEw35).size
          replace hV := evo_stepo hV hEw35 (fun g hg => .inl (by first | exact (hos.block hg).1 | (have := hos.block hg; omega)))
          replace hI := evo_stepo hI hEw35 (fun g hg => .inl (by first | exact (hos.block hg).1 | (have := hos.block hg; omega)))
          replace hT := evo_stepo hT hEw35 (fun g hg => .inl (by first | exact (hos.block hg).1 | (have := hos.block hg; omega)))
          replace hl := hl0.now hV
          replace hr23 := hr230 _ hT
          replace hbb10 := hbb10.evo hEw35 (by intro hm; have hm2 := Option.mem_toList.1 hm; first | (have := hos.block hm2; omega) | (simp [Value.ownBlock] at hm2; omega))
          replace hAb10 := hAb10.evo hEw35 (by intro hm; have hm2 := Option.mem_toList.1 hm; first | (have := hos.block hm2; omega) | (simp [Value.ownBlock] at hm2; omega))
          have hos := hov34
          refine r_op rfl rfl rfl (run_fa rfl (by exact rfl) fo_149_1) ?_
          obtain ⟨ao36, cp36, hv36⟩ := hos.shape
          subst hv36
          refine r_store (v := .slice _ _ _) (vs := [_]) (cs' := [_, _]) (by exact rfl) (by exact rfl) hbb10 ty_34 (by exact rfl) rfl (by exact rfl) rfl (by exact rfl) ?_
          intro w37 hEw37 hzw37 hb_new
          have hs_w37 := (hEw37).size
          replace hV := evo_step1 hV hEw37 (by first | exact .inl (by omega) | exact .inr (by simp))
          replace hI := evo_step1 hI hEw37 (by first | exact .inl (by omega) | exact .inr (by simp))
          replace hT := evo_step1 hT hEw37 (by first | exact .inl (by omega) | exact .inr (by simp))
          replace hl := hl0.now hV
          replace hr23 := hr230 _ hT
          replace hos := hos.evo hEw37 (by intro g hg hm; simp at hm; subst hm; have := hos.block hg; omega)
          replace hbb10 := hb_new
          have hAb10 := hbb10.at
          clear hb_new
          refine r_nil ?_
          refine r_blk ?_
          refine r_blk ?_
          refine r_region ?_
          refine r_op rfl rfl rfl (run_add rfl (by exact rfl) (by exact rfl) (by omega) (by omega)) ?_
          refine r_op rfl rfl rfl (run_mv (v := .int _ _) rfl (by exact rfl)) ?_
          refine r_nil ?_
          refine r_again (q + 1) ?_ ?_ ?_
          ·first | omega | (dsimp only; omega)
          ·refine ⟨_, (by first | exact rfl | exact congrArg (Value.int _) (by omega) | exact congrArg (Value.int _) (by dsimp only; omega) | exact congrArg (Value.int _) (by simp) | exact congrArg S (by simp)), (by first | assumption | omega | (dsimp only; omega) | (simp; done)), (by first | (rw [ancT_yes (by omega) (anc_case (by first | exact .inl (by assumption) | exact .inr (.inl (by assumption)) | exact .inr (.inr (.inl (by assumption))) | exact .inr (.inr (.inr (by assumption)))))]; exact hos) | (rw [ancT_no (by omega) (anc_none (by assumption) (by assumption) (by assumption) (by assumption))]; exact hos)), hbb10, hbb10.at, (by first | assumption | omega | (dsimp only; omega) | (simp; done)), hV, hI, hT⟩
          ·repeat (first | (with_reducible exact Agree.merge _ _ _) | (with_reducible exact Agree.refl _ _) | (with_reducible refine Agree.upd ?_ _ _ rfl) | ((with_reducible refine Agree.inner ?_ ?_); (kernel_rfl)))
         ·skip
          refine r_seq ?_
          refine r_region ?_
          refine r_op rfl rfl rfl (run_eql rfl (by exact rfl) (by exact rfl)) ?_
          refine r_op rfl rfl rfl (run_asg (v := .bool _) rfl (by exact rfl)) ?_
          refine r_nil ?_
          refine r_cond (by exact rfl) (fun hc38 => ?_) (fun hc38 => ?_)
          ·skip
           refine r_skip ?_
           refine r_condT (by exact rfl) hc38 ?_
           refine r_region ?_
           refine r_op rfl rfl rfl (run_fa rfl (by exact rfl) fo_149_1) ?_
           refine r_op rfl rfl rfl (run_ld1 rfl ag_34 (by exact rfl) (hAb10.cell 1 (by exact rfl))) ?_
           refine r_op rfl rfl rfl (run_fa rfl (by exact rfl) fo_81_1) ?_
           refine r_op rfl rfl rfl (run_ld1 rfl ag_9 (by exact rfl) (hAb31.cell 1 (by exact rfl))) ?_
           refine r_append1E (u := S _) (y := _) rfl rfl Try.underlying34 ty_9 (by exact rfl) hos (fun _ => (by exact rfl)) (by exact rfl) (by first | exact rfl | (show _ = List.toArray [_]; first | (dsimp only; done) | exact rfl | (dsimp only; exact rfl))) ((by first | omega | (simp; omega))) ((by first | omega | (simp; omega))) (by omega) ?_
           intro q_v39 v39 w40 hEw40 hov39 hlv39
           have hs_w40 := (hEw40).size
           replace hV := evo_stepo hV hEw40 (fun g hg => .inl (by first | exact (hos.block hg).1 | (have := hos.block hg; omega)))
           replace hI := evo_stepo hI hEw40 (fun g hg => .inl (by first | exact (hos.block hg).1 | (have := hos.block hg; omega)))
           replace hT := evo_stepo hT hEw40 (fun g hg => .inl (by first | exact (hos.block hg).1 | (have := hos.block hg; omega)))
           replace hl := hl0.now hV
           replace hr23 := hr230 _ hT
           replace hbb10 := hbb10.evo hEw40 (by intro hm; have hm2 := Option.mem_toList.1 hm; first | (have := hos.block hm2; omega) | (simp [Value.ownBlock] at hm2; omega))
           replace hAb10 := hAb10.evo hEw40 (by intro hm; have hm2 := Option.mem_toList.1 hm; first | (have := hos.block hm2; omega) | (simp [Value.ownBlock] at hm2; omega))
           have hos := hov39
           refine r_op rfl rfl rfl (run_fa rfl (by exact rfl) fo_149_1) ?_
           obtain ⟨ao41, cp41, hv41⟩ := hos.shape
           subst hv41
           refine r_store (v := .slice _ _ _) (vs := [_]) (cs' := [_, _]) (by exact rfl) (by exact rfl) hbb10 ty_34 (by exact rfl) rfl (by exact rfl) rfl (by exact rfl) ?_
           intro w42 hEw42 hzw42 hb_new
           have hs_w42 := (hEw42).size
           replace hV := evo_step1 hV hEw42 (by first | exact .inl (by omega) | exact .inr (by simp))
           replace hI := evo_step1 hI hEw42 (by first | exact .inl (by omega) | exact .inr (by simp))
           replace hT := evo_step1 hT hEw42 (by first | exact .inl (by omega) | exact .inr (by simp))
           replace hl := hl0.now hV
           replace hr23 := hr230 _ hT
           replace hos := hos.evo hEw42 (by intro g hg hm; simp at hm; subst hm; have := hos.block hg; omega)
           replace hbb10 := hb_new
           have hAb10 := hbb10.at
           clear hb_new
           refine r_nil ?_
           refine r_blk ?_
           refine r_blk ?_
           refine r_region ?_
           refine r_op rfl rfl rfl (run_add rfl (by exact rfl) (by exact rfl) (by omega) (by omega)) ?_
           refine r_op rfl rfl rfl (run_mv (v := .int _ _) rfl (by exact rfl)) ?_
           refine r_nil ?_
           refine r_again (q + 1) ?_ ?_ ?_
           ·first | omega | (dsimp only; omega)
           ·refine ⟨_, (by first | exact rfl | exact congrArg (Value.int _) (by omega) | exact congrArg (Value.int _) (by dsimp only; omega) | exact congrArg (Value.int _) (by simp) | exact congrArg S (by simp)), (by first | assumption | omega | (dsimp only; omega) | (simp; done)), (by first | (rw [ancT_yes (by omega) (anc_case (by first | exact .inl (by assumption) | exact .inr (.inl (by assumption)) | exact .inr (.inr (.inl (by assumption))) | exact .inr (.inr (.inr (by assumption)))))]; exact hos) | (rw [ancT_no (by omega) (anc_none (by assumption) (by assumption) (by assumption) (by assumption))]; exact hos)), hbb10, hbb10.at, (by first | assumption | omega | (dsimp only; omega) | (simp; done)), hV, hI, hT⟩
           ·repeat (first | (with_reducible exact Agree.merge _ _ _) | (with_reducible exact Agree.refl _ _) | (with_reducible refine Agree.upd ?_ _ _ rfl) | ((with_reducible refine Agree.inner ?_ ?_); (kernel_rfl)))
          ·skip
           refine r_seq ?_
           refine r_region ?_
           refine r_op rfl rfl rfl (run_eql rfl (by exact rfl) (by exact rfl)) ?_
           refine r_op rfl rfl rfl (run_asg (v := .bool _) rfl (by exact rfl)) ?_
           refine r_nil ?_
           refine r_cond (by exact rfl) (fun hc43 => ?_) (fun hc43 => ?_)
           ·skip
            refine r_skip ?_
            refine r_condT (by exact rfl) hc43 ?_
            refine r_region ?_
            refine r_op rfl rfl rfl (run_fa rfl (by exact rfl) fo_149_1) ?_
            refine r_op rfl rfl rfl (run_ld1 rfl ag_34 (by exact rfl) (hAb10.cell 1 (by exact rfl))) ?_
            refine r_op rfl rfl rfl (run_fa rfl (by exact rfl) fo_81_1) ?_
            refine r_op rfl rfl rfl (run_ld1 rfl ag_9 (by exact rfl) (hAb31.cell 1 (by exact rfl))) ?_
            refine r_append1E (u := S _) (y := _) rfl rfl Try.underlying34 ty_9 (by exact rfl) hos (fun _ => (by exact rfl)) (by exact rfl) (by first | exact rfl | (show _ = List.toArray [_]; first | (dsimp only; done) | exact rfl | (dsimp only; exact rfl))) ((by first | omega | (simp; omega))) ((by first | omega | (simp; omega))) (by omega) ?_
            intro q_v44 v44 w45 hEw45 hov44 hlv44
            have hs_w45 := (hEw45).size
            replace hV := evo_stepo hV hEw45 (fun g hg => .inl (by first | exact (hos.block hg).1 | (have := hos.block hg; omega)))
            replace hI := evo_stepo hI hEw45 (fun g hg => .inl (by first | exact (hos.block hg).1 | (have := hos.block hg; omega)))
            replace hT := evo_stepo hT hEw45 (fun g hg => .inl (by first | exact (hos.block hg).1 | (have := hos.block hg; omega)))
            replace hl := hl0.now hV
            replace hr23 := hr230 _ hT
            replace hbb10 := hbb10.evo hEw45 (by intro hm; have hm2 := Option.mem_toList.1 hm; first | (have := hos.block hm2; omega) | (simp [Value.ownBlock] at hm2; omega))
            replace hAb10 := hAb10.evo hEw45 (by intro hm; have hm2 := Option.mem_toList.1 hm; first | (have := hos.block hm2; omega) | (simp [Value.ownBlock] at hm2; omega))
            have hos := hov44
            refine r_op rfl rfl rfl (run_fa rfl (by exact rfl) fo_149_1) ?_
            obtain ⟨ao46, cp46, hv46⟩ := hos.shape
            subst hv46
            refine r_store (v := .slice _ _ _) (vs := [_]) (cs' := [_, _]) (by exact rfl) (by exact rfl) hbb10 ty_34 (by exact rfl) rfl (by exact rfl) rfl (by exact rfl) ?_
            intro w47 hEw47 hzw47 hb_new
            have hs_w47 := (hEw47).size
            replace hV := evo_step1 hV hEw47 (by first | exact .inl (by omega) | exact .inr (by simp))
            replace hI := evo_step1 hI hEw47 (by first | exact .inl (by omega) | exact .inr (by simp))
            replace hT := evo_step1 hT hEw47 (by first | exact .inl (by omega) | exact .inr (by simp))
            replace hl := hl0.now hV
            replace hr23 := hr230 _ hT
            replace hos := hos.evo hEw47 (by intro g hg hm; simp at hm; subst hm; have := hos.block hg; omega)
            replace hbb10 := hb_new
            have hAb10 := hbb10.at
            clear hb_new
            refine r_nil ?_
            refine r_blk ?_
            refine r_blk ?_
            refine r_region ?_
            refine r_op rfl rfl rfl (run_add rfl (by exact rfl) (by exact rfl) (by omega) (by omega)) ?_
            refine r_op rfl rfl rfl (run_mv (v := .int _ _) rfl (by exact rfl)) ?_
            refine r_nil ?_
            refine r_again (q + 1) ?_ ?_ ?_
            ·first | omega | (dsimp only; omega)
            ·refine ⟨_, (by first | exact rfl | exact congrArg (Value.int _) (by omega) | exact congrArg (Value.int _) (by dsimp only; omega) | exact congrArg (Value.int _) (by simp) | exact congrArg S (by simp)), (by first | assumption | omega | (dsimp only; omega) | (simp; done)), (by first | (rw [ancT_yes (by omega) (anc_case (by first | exact .inl (by assumption) | exact .inr (.inl (by assumption)) | exact .inr (.inr (.inl (by assumption))) | exact .inr (.inr (.inr (by assumption)))))]; exact hos) | (rw [ancT_no (by omega) (anc_none (by assumption) (by assumption) (by assumption) (by assumption))]; exact hos)), hbb10, hbb10.at, (by first | assumption | omega | (dsimp only; omega) | (simp; done)), hV, hI, hT⟩
            ·repeat (first | (with_reducible exact Agree.merge _ _ _) | (with_reducible exact Agree.refl _ _) | (with_reducible refine Agree.upd ?_ _ _ rfl) | ((with_reducible refine Agree.inner ?_ ?_); (kernel_rfl)))
           ·skip
            refine r_region ?_
            refine r_op rfl rfl rfl (run_eql rfl (by exact rfl) (by exact rfl)) ?_
            refine r_op rfl rfl rfl (run_asg (v := .bool _) rfl (by exact rfl)) ?_
            refine r_nil ?_
            refine r_cond (by exact rfl) (fun hc48 => ?_) (fun hc48 => ?_)
            ·skip
             refine r_region ?_
             refine r_op rfl rfl rfl (run_fa rfl (by exact rfl) fo_149_1) ?_
             refine r_op rfl rfl rfl (run_ld1 rfl ag_34 (by exact rfl) (hAb10.cell 1 (by exact rfl))) ?_
             refine r_op rfl rfl rfl (run_fa rfl (by exact rfl) fo_81_1) ?_
             refine r_op rfl rfl rfl (run_ld1 rfl ag_9 (by exact rfl) (hAb31.cell 1 (by exact rfl))) ?_
             refine r_append1E (u := S _) (y := _) rfl rfl Try.underlying34 ty_9 (by exact rfl) hos (fun _ => (by exact rfl)) (by exact rfl) (by first | exact rfl | (show _ = List.toArray [_]; first | (dsimp only; done) | exact rfl | (dsimp only; exact rfl))) ((by first | omega | (simp; omega))) ((by first | omega | (simp; omega))) (by omega) ?_
             intro q_v49 v49 w50 hEw50 hov49 hlv49
             have hs_w50 := (hEw50).size
             replace hV := evo_stepo hV hEw50 (fun g hg => .inl (by first | exact (hos.block hg).1 | (have := hos.block hg; omega)))
             replace hI := evo_stepo hI hEw50 (fun g hg => .inl (by first | exact (hos.block hg).1 | (have := hos.block hg; omega)))
             replace hT := evo_stepo hT hEw50 (fun g hg => .inl (by first | exact (hos.block hg).1 | (have := hos.block hg; omega)))
             replace hl := hl0.now hV
             replace hr23 := hr230 _ hT
             replace hbb10 := hbb10.evo hEw50 (by intro hm; have hm2 := Option.mem_toList.1 hm; first | (have := hos.block hm2; omega) | (simp [Value.ownBlock] at hm2; omega))
             replace hAb10 := hAb10.evo hEw50 (by intro hm; have hm2 := Option.mem_toList.1 hm; first | (have := hos.block hm2; omega) | (simp [Value.ownBlock] at hm2; omega))
             have hos := hov49
             refine r_op rfl rfl rfl (run_fa rfl (by exact rfl) fo_149_1) ?_
             obtain ⟨ao51, cp51, hv51⟩ := hos.shape
             subst hv51
             refine r_store (v := .slice _ _ _) (vs := [_]) (cs' := [_, _]) (by exact rfl) (by exact rfl) hbb10 ty_34 (by exact rfl) rfl (by exact rfl) rfl (by exact rfl) ?_
             intro w52 hEw52 hzw52 hb_new
             have hs_w52 := (hEw52).size
             replace hV := evo_step1 hV hEw52 (by first | exact .inl (by omega) | exact .inr (by simp))
             replace hI := evo_step1 hI hEw52 (by first | exact .inl (by omega) | exact .inr (by simp))
             replace hT := evo_step1 hT hEw52 (by first | exact .inl (by omega) | exact .inr (by simp))
             replace hl := hl0.now hV
             replace hr23 := hr230 _ hT
             replace hos := hos.evo hEw52 (by intro g hg hm; simp at hm; subst hm; have := hos.block hg; omega)
             replace hbb10 := hb_new
             have hAb10 := hbb10.at
             clear hb_new
             refine r_nil ?_
             refine r_blk ?_
             refine r_blk ?_
             refine r_region ?_
             refine r_op rfl rfl rfl (run_add rfl (by exact rfl) (by exact rfl) (by omega) (by omega)) ?_
             refine r_op rfl rfl rfl (run_mv (v := .int _ _) rfl (by exact rfl)) ?_
             refine r_nil ?_
             refine r_again (q + 1) ?_ ?_ ?_
             ·first | omega | (dsimp only; omega)
             ·refine ⟨_, (by first | exact rfl | exact congrArg (Value.int _) (by omega) | exact congrArg (Value.int _) (by dsimp only; omega) | exact congrArg (Value.int _) (by simp) | exact congrArg S (by simp)), (by first | assumption | omega | (dsimp only; omega) | (simp; done)), (by first | (rw [ancT_yes (by omega) (anc_case (by first | exact .inl (by assumption) | exact .inr (.inl (by assumption)) | exact .inr (.inr (.inl (by assumption))) | exact .inr (.inr (.inr (by assumption)))))]; exact hos) | (rw [ancT_no (by omega) (anc_none (by assumption) (by assumption) (by assumption) (by assumption))]; exact hos)), hbb10, hbb10.at, (by first | assumption | omega | (dsimp only; omega) | (simp; done)), hV, hI, hT⟩
             ·repeat (first | (with_reducible exact Agree.merge _ _ _) | (with_reducible exact Agree.refl _ _) | (with_reducible refine Agree.upd ?_ _ _ rfl) | ((with_reducible refine Agree.inner ?_ ?_); (kernel_rfl)))
            ·skip
             refine r_skip ?_
             refine r_blk ?_
             refine r_blk ?_
             refine r_region ?_
             refine r_op rfl rfl rfl (run_add rfl (by exact rfl) (by exact rfl) (by omega) (by omega)) ?_
             refine r_op rfl rfl rfl (run_mv (v := .int _ _) rfl (by exact rfl)) ?_
             refine r_nil ?_
             refine r_again (q + 1) ?_ ?_ ?_
             ·first | omega | (dsimp only; omega)
             ·refine ⟨_, (by first | exact rfl | exact congrArg (Value.int _) (by omega) | exact congrArg (Value.int _) (by dsimp only; omega) | exact congrArg (Value.int _) (by simp) | exact congrArg S (by simp)), (by first | assumption | omega | (dsimp only; omega) | (simp; done)), (by first | (rw [ancT_yes (by omega) (anc_case (by first | exact .inl (by assumption) | exact .inr (.inl (by assumption)) | exact .inr (.inr (.inl (by assumption))) | exact .inr (.inr (.inr (by assumption)))))]; exact hos) | (rw [ancT_no (by omega) (anc_none (by assumption) (by assumption) (by assumption) (by assumption))]; exact hos)), hbb10, hbb10.at, (by first | assumption | omega | (dsimp only; omega) | (simp; done)), hV, hI, hT⟩
             ·repeat (first | (with_reducible exact Agree.merge _ _ _) | (with_reducible exact Agree.refl _ _) | (with_reducible refine Agree.upd ?_ _ _ rfl) | ((with_reducible refine Agree.inner ?_ ?_); (kernel_rfl)))
        ·skip
         refine r_exit rfl ?_
         refine r_seq ?_
         rw [List.take_of_length_le (show (toks (ll.getD i default)).length ≤ q by omega)] at hos
         refine r_region ?_
         refine r_op rfl rfl rfl (run_fa rfl (by exact rfl) fo_149_1) ?_
         refine r_op rfl rfl rfl (run_ld1 rfl ag_34 (by exact rfl) (hAb10.cell 1 (by exact rfl))) ?_
         refine r_opcall rfl rfl rfl (run_callf (vs := [vs]) rfl (by exact rfl) Try.func109 rfl (by kernel_rfl)) (ssort_calls hos) ?_
         rintro e w53 ⟨rfl, hE53, hs53⟩
         refine ⟨_, rfl, ?_⟩
         have hs_w53 := (hE53).size
         replace hV := evo_stepo hV hE53 (fun g hg => .inl (by first | exact (hos.block hg).1 | (have := hos.block hg; omega)))
         replace hI := evo_stepo hI hE53 (fun g hg => .inl (by first | exact (hos.block hg).1 | (have := hos.block hg; omega)))
         replace hl := hl0.now hV
         replace hr23 := hr230 _ hT
         replace hbb10 := hbb10.evo hE53 (by intro hm; have hm2 := Option.mem_toList.1 hm; first | (have := hos.block hm2; omega) | (simp [Value.ownBlock] at hm2; omega))
         replace hAb10 := hAb10.evo hE53 (by intro hm; have hm2 := Option.mem_toList.1 hm; first | (have := hos.block hm2; omega) | (simp [Value.ownBlock] at hm2; omega))
         replace hos := hs53
         refine r_nil ?_
         have hoR := hoR0.evo0 hI
         clear hoR0
         obtain ⟨aoS, cpS, hvS⟩ := hos.shape
         subst hvS
         refine r_region ?_
         refine r_op rfl rfl rfl (run_mv (v := vo) rfl (by exact rfl)) ?_
         refine r_op rfl rfl rfl (run_ldN rfl ag_149 ty_149 (by exact rfl) rfl hAb10) ?_
         refine r_append1R (u := .agg _) (us := [_, _]) rfl rfl Try.underlying92 ty_149 (by exact rfl) rfl rfl hoR (fun _ => (by exact rfl)) (by exact rfl) (by exact rfl) rfl (by exact rfl) (side_own _ hos (by simp) (fun g hg => by have := hobR g hg; omega)) ((by first | omega | (simp; omega))) ((by first | omega | (simp; omega))) (by omega) ?_
         intro q_v54 v54 w55 hEw55 hov54 hlv54
         have hs_w55 := (hEw55).size
         replace hV := evo_stepo hV hEw55 (fun g hg => .inl (by first | exact (hoR.block hg).1 | (have := hoR.block hg; omega)))
         replace hl := hl0.now hV
         replace hr23 := hr230 _ hT
         refine r_op rfl rfl rfl (run_asg (v := v54) rfl (by exact rfl)) ?_
         refine r_nil ?_
         refine r_blk ?_
         refine r_region ?_
         refine r_op rfl rfl rfl (run_add rfl (by exact rfl) (by exact rfl) (by omega) (by omega)) ?_
         refine r_op rfl rfl rfl (run_mv (v := .int _ _) rfl (by exact rfl)) ?_
         refine r_nil ?_
         refine r_again (i + 1) ?_ ?_ ?_
         ·first | omega | (dsimp only; omega)
         ·refine ⟨_, (by first | exact rfl | exact congrArg (Value.int _) (by omega) | exact congrArg (Value.int _) (by dsimp only; omega) | exact congrArg (Value.int _) (by simp) | exact congrArg S (by simp)), rfl, (by first | assumption | omega | (dsimp only; omega) | (simp; done)), (by rw [map_succD (by omega)]; exact hov54), (upto0 hno (Classical.not_not.1 (by assumption))), (by first | assumption | omega | (dsimp only; omega) | (simp; done)), hV⟩
         ·repeat (first | (with_reducible exact Agree.merge _ _ _) | (with_reducible exact Agree.refl _ _) | (with_reducible refine Agree.upd ?_ _ _ rfl) | ((with_reducible refine Agree.inner ?_ ?_); (kernel_rfl)))
   ·skip
    refine r_exit rfl ?_
    refine r_seq ?_
    refine r_region ?_
    refine r_op rfl rfl rfl (run_mv (v := vo) rfl (by exact rfl)) ?_
    refine r_op rfl rfl rfl (run_asg (v := vo) rfl (by exact rfl)) ?_
    refine r_op rfl rfl rfl (run_asg (v := .int _ _) rfl (by exact rfl)) ?_
    refine r_nil ?_
    refine r_ret (res2 (v := vo) (u := .int _ _) rfl (by exact rfl) (by exact rfl)) ?_
    exact ⟨_, ret_vi (sides_ok (by omega) hno (by omega)).symm, hV, by rw [sidesL_yes (sides_ok (by omega) hno (by omega))]; rw [List.take_of_length_le (by omega)] at hoR; exact hoR⟩

end Go.Proofs.Ytomklacppmaljaa

