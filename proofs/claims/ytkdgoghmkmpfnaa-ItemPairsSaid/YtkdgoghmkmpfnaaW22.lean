import Derived.Test.YtkdgoghmkmpfnaaW21
import Derived.Test.YtkdgoghmkmpfnaaLb
namespace Go.Proofs.Ytkdgoghmkmpfnaa
open Go.RowKit Go.Vc

theorem rpair_calls {aoa aob : Option Addr} {ba offa capa bb offb capb : Nat} {a b : List Vc.Item} {w0 : World} (ha : RowE w0 aoa ba offa capa a) (hb : RowE w0 aob bb offb capb b) (hsa : Small a) (hsb : Small b) :
    Calls Try.prog 42 #[.slice aoa a.length capa, .slice aob b.length capb] w0 fun e w' => ∃ v u, e = .returned (.tuple #[v, u]) ∧ Evo w0 w' [] ∧ OwnE w' w0.heap.size 3 v (pairL a b).1 ∧ OwnE w' w0.heap.size 3 u (pairL a b).2 := by
 have hs1 := hsa.1; have hs2 := hsb.1; have hq1 := numsL_len a; have hq2 := numsL_len b
 refine calls_enter (n := 79) (args := [.slice aoa a.length capa, .slice aob b.length capb]) Try.func42 rfl Try.ntmps42 rfl ?_
 have hV : Evo w0 w0 [] := Evo.refl _ _
 have ha0 := keepE ha
 have hbd_ha := ha.bd
 have hb0 := keepE hb
 have hbd_hb := hb.bd
 refine r_seq ?_
 refine r_region ?_
 refine r_op rfl rfl rfl (run_asg (v := .slice _ _ _) rfl (by exact rfl)) ?_
 refine r_op rfl rfl rfl (run_asg (v := .slice _ _ _) rfl (by exact rfl)) ?_
 refine r_nil ?_
 refine r_seq ?_
 refine r_region ?_
 refine r_op rfl rfl rfl (run_asg (v := .slice _ _ _) rfl (by exact rfl)) ?_
 refine r_op rfl rfl rfl (run_asg (v := .slice _ _ _) rfl (by exact rfl)) ?_
 refine r_nil ?_
 refine r_seq ?_
 refine r_region ?_
 refine r_op rfl rfl rfl (run_mv (v := .slice _ _ _) rfl (by exact rfl)) ?_
 refine r_opcall rfl rfl rfl (run_callf (vs := [.slice _ _ _]) rfl (by exact rfl) Try.func55 rfl (by kernel_rfl)) (rnumbers_calls ha (by first | assumption | exact MF.small (by assumption) | exact kf_small | exact small_take (by assumption) _)) ?_
 rintro e w1 ⟨vu1, rfl, hE1, hou1⟩
 refine ⟨_, rfl, ?_⟩
 have hs_w1 := (hE1).size
 replace hV := evo_step0 hV hE1
 replace ha := ha0 _ hV
 replace hb := hb0 _ hV
 refine r_op rfl rfl rfl (run_mv (v := .slice _ _ _) rfl (by exact rfl)) ?_
 refine r_opcall rfl rfl rfl (run_callf (vs := [.slice _ _ _]) rfl (by exact rfl) Try.func55 rfl (by kernel_rfl)) (rnumbers_calls hb (by first | assumption | exact MF.small (by assumption) | exact kf_small | exact small_take (by assumption) _)) ?_
 rintro e w2 ⟨vu2, rfl, hE2, hou2⟩
 refine ⟨_, rfl, ?_⟩
 have hs_w2 := (hE2).size
 replace hV := evo_step0 hV hE2
 replace ha := ha0 _ hV
 replace hb := hb0 _ hV
 replace hou1 := hou1.evo0 hE2
 refine r_op rfl rfl rfl (run_asg (v := vu1) rfl (by exact rfl)) ?_
 refine r_op rfl rfl rfl (run_asg (v := vu2) rfl (by exact rfl)) ?_
 refine r_nil ?_
 refine r_seq ?_
 refine r_seq ?_
 refine r_region ?_
 refine r_op rfl rfl rfl (run_mv (v := vu1) rfl (by exact rfl)) ?_
 refine r_op rfl rfl rfl (run_lenOE rfl (by exact rfl) Try.underlying24 hou1) ?_
 refine r_op rfl rfl rfl (run_mv (v := .int _ _) rfl (by exact rfl)) ?_
 refine r_nil ?_
 refine r_block ?_
 have hI : Evo w2 w2 [] := Evo.refl _ _
 obtain ⟨ao3, g3, cp3, hv3, hr3, hg3⟩ := hou1.rowOf
 subst hv3
 have hr30 := keepE hr3
 obtain ⟨ao4, g4, cp4, hv4, hr4, hg4⟩ := hou2.rowOf
 subst hv4
 have hr40 := keepE hr4
 refine r_loop (α := Nat) [6, 7, 10, 11, 12, 13, 20, 21, 22, 23, 24, 25, 26, 27, 28, 29, 30, 31, 32, 33, 34, 35, 36, 37, 38, 39, 40, 41, 42, 43, 44, 45, 46, 47, 48, 49, 50, 51, 52, 53, 54, 55, 56, 57, 58, 59, 60, 61, 62, 63, 64, 65, 66, 67, 68, 69, 70, 71, 72, 73, 74, 75, 76] (fun k g w => ∃ vf : Value, ∃ vt : Value, g 20 = .int .i64 (k : Nat) ∧ g 6 = vf ∧ g 7 = vt ∧ k ≤ (numsL a).length ∧ OwnE w w2.heap.size 3 vf (pairGo a b ((numsL a).take k)).1 ∧ OwnE w w2.heap.size 3 vt (pairGo a b ((numsL a).take k)).2 ∧ Sep vf vt ∧ w2.heap.size ≤ w.heap.size ∧ Evo w0 w [] ∧ Evo w2 w []) (fun k => (numsL a).length - k) 0 ?_ ?_
 ·refine ⟨_, _, (by first | exact rfl | exact congrArg (Value.int _) (by omega) | exact congrArg (Value.int _) (by dsimp only; omega) | exact congrArg (Value.int _) (by simp) | exact congrArg S (by simp)), rfl, rfl, (by first | assumption | omega | (dsimp only; omega) | (simp; done)), (OwnE.nil _ _ _), (OwnE.nil _ _ _), (Sep.nil_l _), (by first | assumption | omega | (dsimp only; omega) | (simp; done)), hV, hI⟩
 ·rintro k g w6 ⟨vf, vt, hj7, hj8, hj9, hk_k, hof, hot, hsep, hzl5, hV, hI⟩
  have hs_w6hV := hV.size
  have hs_w6hI := hI.size
  replace ha := ha0 _ hV
  replace hb := hb0 _ hV
  replace hr3 := hr30 _ hI
  replace hr4 := hr40 _ hI
  refine r_know (i := 20) (v := .int .i64 (k : Nat)) (by exact hj7) ?_
  refine r_know (i := 6) (v := vf) (by exact hj8) ?_
  refine r_know (i := 7) (v := vt) (by exact hj9) ?_
  refine r_seq ?_
  refine r_region ?_
  refine r_op rfl rfl rfl (run_lss rfl (by exact rfl) (by exact rfl)) ?_
  refine r_nil ?_
  refine r_seq ?_
  refine r_cond (by exact rfl) (fun hc10 => ?_) (fun hc10 => ?_)
  ·skip
   refine r_skip ?_
   refine r_seq ?_
   refine r_block ?_
   refine r_seq ?_
   refine r_region ?_
   refine r_op rfl rfl rfl (run_mv (v := .int _ _) rfl (by exact rfl)) ?_
   refine r_op rfl rfl rfl (run_asg (v := .int _ _) rfl (by exact rfl)) ?_
   refine r_nil ?_
   refine r_seq ?_
   have hok := pairGo_ok a b ((numsL a).take k); have hok1 := hok.len; have hok2 := hok.le; rw [List.length_take] at hok2
   have hobF := fun g hg => (hof.block (g := g) hg).2; have hobT := fun g hg => (hot.block (g := g) hg).2
   refine r_region ?_
   refine r_op rfl rfl rfl (run_mv (v := .slice _ _ _) rfl (by exact rfl)) ?_
   refine r_op rfl rfl rfl (run_mv (v := .slice _ _ _) rfl (by exact rfl)) ?_
   refine r_op rfl rfl rfl (run_mv (v := .int _ _) rfl (by exact rfl)) ?_
   refine r_op rfl rfl rfl (run_ix (k) rfl Try.underlying24 ty_3 (by exact rfl) (by exact rfl) (by first | exact rfl | omega) (by omega) (hr3.addr (i := k) (by omega))) ?_
   have hA110 := fun (w' : World) (h : Evo w2 w' []) => (hr30 w' h).atD (k) (by omega)
   have hA11 := hA110 _ hI
   refine r_op rfl rfl rfl (run_ld1 rfl ag_3 (by exact rfl) (hA11.cell 0 (by exact rfl))) ?_
   refine r_opcall rfl rfl rfl (run_callf (vs := [.slice _ _ _, .int _ _]) rfl (by exact rfl) Try.func78 rfl (by kernel_rfl)) (rfirst_calls ha) ?_
   rintro e w12 ⟨rfl, hE12⟩
   refine ⟨_, rfl, ?_⟩
   have hs_w12 := (hE12).size
   replace hV := evo_step0 hV hE12
   replace hI := evo_step0 hI hE12
   replace ha := ha0 _ hV
   replace hb := hb0 _ hV
   replace hr3 := hr30 _ hI
   replace hr4 := hr40 _ hI
   replace hof := hof.evo0 hE12
   replace hot := hot.evo0 hE12
   have hob13 := fun g hg => (hof.block (g := g) hg).2
   have hob14 := fun g hg => (hot.block (g := g) hg).2
   refine r_var (zs := [_, _, _]) (vs := [_, _, _]) ty_26 (by exact rfl) rfl (by exact rfl) (fun _ => rfl) (by exact rfl) rfl rfl (by exact rfl) ?_
   intro b15 w16 heb15 hEw16 hbb15 hzb15
   have hs_w16 := (hEw16).size
   replace hV := evo_step0 hV hEw16
   replace hI := evo_step0 hI hEw16
   replace ha := ha0 _ hV
   replace hb := hb0 _ hV
   replace hr3 := hr30 _ hI
   replace hr4 := hr40 _ hI
   replace hof := hof.evo0 hEw16
   replace hot := hot.evo0 hEw16
   have hAb15 := hbb15.at
   refine r_nil ?_
   refine r_seq ?_
   refine r_region ?_
   refine r_op rfl rfl rfl (run_mv (v := .slice _ _ _) rfl (by exact rfl)) ?_
   refine r_op rfl rfl rfl (run_lenSl rfl (by exact rfl) Try.underlying24) ?_
   refine r_op rfl rfl rfl (run_mv (v := .int _ _) rfl (by exact rfl)) ?_
   refine r_nil ?_
   refine r_block ?_
   refine r_loop (α := Nat) [6, 7, 12, 13, 31, 32, 33, 34, 35, 36, 37, 38, 39, 40, 41, 42, 43, 44, 45, 46, 47, 48, 49, 50, 51, 52, 53, 54, 55, 56, 57, 58, 59, 60, 61, 62, 63, 64, 65, 66, 67, 68, 69, 70, 71, 72, 73, 74, 75] (fun j g w => g 31 = .int .i64 (j : Nat) ∧ g 6 = vf ∧ g 7 = vt ∧ j ≤ (numsL b).length ∧ OwnE w w2.heap.size 3 vf (pairGo a b ((numsL a).take k)).1 ∧ OwnE w w2.heap.size 3 vt (pairGo a b ((numsL a).take k)).2 ∧ Blk w b15 26 [.int .i64 (firstT a ((numsL a).getD k default)).kind, S (firstT a ((numsL a).getD k default)).text, .int .i64 (firstT a ((numsL a).getD k default)).id] ∧ At w b15 0 [.int .i64 (firstT a ((numsL a).getD k default)).kind, S (firstT a ((numsL a).getD k default)).text, .int .i64 (firstT a ((numsL a).getD k default)).id] ∧ (∀ i, i < j → (decide (¬ (numsL b).getD i default ∈ (pairGo a b ((numsL a).take k)).2) && pairQ a b ((numsL a).getD k default) ((numsL b).getD i default)) = false) ∧ w16.heap.size ≤ w.heap.size ∧ Evo w0 w [] ∧ Evo w2 w []) (fun j => (numsL b).length - j) 0 ?_ ?_
   ·refine ⟨(by first | exact rfl | exact congrArg (Value.int _) (by omega) | exact congrArg (Value.int _) (by dsimp only; omega) | exact congrArg (Value.int _) (by simp) | exact congrArg S (by simp)), rfl, rfl, (by first | assumption | omega | (dsimp only; omega) | (simp; done)), hof, hot, hbb15, hAb15, (fun i h1 => by omega), (by first | assumption | omega | (dsimp only; omega) | (simp; done)), hV, hI⟩
   ·rintro j g w18 ⟨hj19, hj20, hj21, hk_j, hof, hot, hbb15, hAb15, hall, hzl17, hV, hI⟩
    have hs_w18hV := hV.size
    have hs_w18hI := hI.size
    have hlt22 := hbb15.lt
    replace ha := ha0 _ hV
    replace hb := hb0 _ hV
    replace hr3 := hr30 _ hI
    replace hr4 := hr40 _ hI
    replace hA11 := hA110 _ hI
    refine r_know (i := 31) (v := .int .i64 (j : Nat)) (by exact hj19) ?_
    refine r_know (i := 6) (v := vf) (by exact hj20) ?_
    refine r_know (i := 7) (v := vt) (by exact hj21) ?_
    refine r_seq ?_
    refine r_region ?_
    refine r_op rfl rfl rfl (run_lss rfl (by exact rfl) (by exact rfl)) ?_
    refine r_nil ?_
    refine r_seq ?_
    refine r_cond (by exact rfl) (fun hc23 => ?_) (fun hc23 => ?_)
    ·skip
     refine r_skip ?_
     refine r_seq ?_
     refine r_block ?_
     refine r_seq ?_
     refine r_region ?_
     refine r_op rfl rfl rfl (run_mv (v := .int _ _) rfl (by exact rfl)) ?_
     refine r_op rfl rfl rfl (run_asg (v := .int _ _) rfl (by exact rfl)) ?_
     refine r_nil ?_
     refine r_seq ?_
     have hobF := fun g hg => (hof.block (g := g) hg).2; have hobT := fun g hg => (hot.block (g := g) hg).2
     refine r_region ?_
     refine r_op rfl rfl rfl (run_mv (v := .slice _ _ _) rfl (by exact rfl)) ?_
     refine r_op rfl rfl rfl (run_mv (v := .slice _ _ _) rfl (by exact rfl)) ?_
     refine r_op rfl rfl rfl (run_mv (v := .int _ _) rfl (by exact rfl)) ?_
     refine r_op rfl rfl rfl (run_ix (j) rfl Try.underlying24 ty_3 (by exact rfl) (by exact rfl) (by first | exact rfl | omega) (by omega) (hr4.addr (i := j) (by omega))) ?_
     have hA240 := fun (w' : World) (h : Evo w2 w' []) => (hr40 w' h).atD (j) (by omega)
     have hA24 := hA240 _ hI
     refine r_op rfl rfl rfl (run_ld1 rfl ag_3 (by exact rfl) (hA24.cell 0 (by exact rfl))) ?_
     refine r_opcall rfl rfl rfl (run_callf (vs := [.slice _ _ _, .int _ _]) rfl (by exact rfl) Try.func78 rfl (by kernel_rfl)) (rfirst_calls hb) ?_
     rintro e w25 ⟨rfl, hE25⟩
     refine ⟨_, rfl, ?_⟩
     have hs_w25 := (hE25).size
     replace hV := evo_step0 hV hE25
     replace hI := evo_step0 hI hE25
     replace ha := ha0 _ hV
     replace hb := hb0 _ hV
     replace hr3 := hr30 _ hI
     replace hr4 := hr40 _ hI
     replace hof := hof.evo0 hE25
     replace hot := hot.evo0 hE25
     replace hbb15 := hbb15.evo0 hE25
     replace hAb15 := hAb15.evo0 hE25
     have hob26 := fun g hg => (hof.block (g := g) hg).2
     have hob27 := fun g hg => (hot.block (g := g) hg).2
     refine r_var (zs := [_, _, _]) (vs := [_, _, _]) ty_26 (by exact rfl) rfl (by exact rfl) (fun _ => rfl) (by exact rfl) rfl rfl (by exact rfl) ?_
     intro b28 w29 heb28 hEw29 hbb28 hzb28
     have hs_w29 := (hEw29).size
     replace hV := evo_step0 hV hEw29
     replace hI := evo_step0 hI hEw29
     replace ha := ha0 _ hV
     replace hb := hb0 _ hV
     replace hr3 := hr30 _ hI
     replace hr4 := hr40 _ hI
     replace hof := hof.evo0 hEw29
     replace hot := hot.evo0 hEw29
     replace hbb15 := hbb15.evo0 hEw29
     replace hAb15 := hAb15.evo0 hEw29
     have hAb28 := hbb28.at
     refine r_nil ?_
     refine r_seq ?_
     refine r_region ?_
     refine r_op rfl rfl rfl (run_mv (v := vt) rfl (by exact rfl)) ?_
     refine r_op rfl rfl rfl (run_mv (v := .slice _ _ _) rfl (by exact rfl)) ?_
     refine r_op rfl rfl rfl (run_mv (v := .int _ _) rfl (by exact rfl)) ?_
     refine r_op rfl rfl rfl (run_ix (j) rfl Try.underlying24 ty_3 (by exact rfl) (by exact rfl) (by first | exact rfl | omega) (by omega) (hr4.addr (i := j) (by omega))) ?_
     have hA300 := fun (w' : World) (h : Evo w2 w' []) => (hr40 w' h).atD (j) (by omega)
     have hA30 := hA300 _ hI
     refine r_op rfl rfl rfl (run_ld1 rfl ag_3 (by exact rfl) (hA30.cell 0 (by exact rfl))) ?_
     obtain ⟨ao31, g31, cp31, hv31, hr31, hg31⟩ := hot.rowOf
     subst hv31
     refine r_opcall rfl rfl rfl (run_callf (vs := [.slice _ _ _, .int _ _]) rfl (by exact rfl) Try.func43 rfl (by kernel_rfl)) (has_calls hr31) ?_
     rintro e w32 ⟨rfl, hE32⟩
     refine ⟨_, rfl, ?_⟩
     have hs_w32 := (hE32).size
     replace hV := evo_step0 hV hE32
     replace hI := evo_step0 hI hE32
     replace ha := ha0 _ hV
     replace hb := hb0 _ hV
     replace hr3 := hr30 _ hI
     replace hr4 := hr40 _ hI
     replace hof := hof.evo0 hE32
     replace hot := hot.evo0 hE32
     replace hbb15 := hbb15.evo0 hE32
     replace hAb15 := hAb15.evo0 hE32
     replace hbb28 := hbb28.evo0 hE32
     replace hAb28 := hAb28.evo0 hE32
     replace hr31 := hr31.evo0 hE32
     refine r_op rfl rfl rfl (run_not rfl (by exact rfl)) ?_
     refine r_op rfl rfl rfl (run_mv (v := .bool _) rfl (by exact rfl)) ?_
     refine r_g rfl (wantT (by exact rfl)) rfl (fun hg => run_fa rfl (by exact rfl) fo_26_0) ?_
     refine r_g rfl (wantT (by exact rfl)) rfl (fun hg => run_ld1 rfl ag_3 (glv (by exact rfl) (fun h => h) hg) (hAb15.cell 0 (by exact rfl))) ?_
     refine r_g rfl (wantT (by exact rfl)) rfl (fun hg => run_fa rfl (by exact rfl) fo_26_0) ?_
     refine r_g rfl (wantT (by exact rfl)) rfl (fun hg => run_ld1 rfl ag_3 (glv (by exact rfl) (fun h => h) hg) (hAb28.cell 0 (by exact rfl))) ?_
     refine r_g rfl (wantT (by exact rfl)) rfl (fun hg => run_eql rfl (glv (by exact rfl) (fun h => h) hg) (glv (by exact rfl) (fun h => h) hg)) ?_
     refine r_op rfl rfl rfl (run_pick_and rfl (by exact rfl) (fun hq => glv (by exact rfl) (fun h => h) hq) rfl) ?_
     refine r_op rfl rfl rfl (run_mv (v := .bool _) rfl (by exact rfl)) ?_
     refine r_g rfl (wantT (by exact rfl)) rfl (fun hg => run_fa rfl (by exact rfl) fo_26_1) ?_
     refine r_g rfl (wantT (by exact rfl)) rfl (fun hg => run_ld1 rfl ag_9 (glv (by exact rfl) (fun h => h) hg) (hAb15.cell 1 (by exact rfl))) ?_
     refine r_g rfl (wantT (by exact rfl)) rfl (fun hg => run_fa rfl (by exact rfl) fo_26_1) ?_
     refine r_g rfl (wantT (by exact rfl)) rfl (fun hg => run_ld1 rfl ag_9 (glv (by exact rfl) (fun h => h) hg) (hAb28.cell 1 (by exact rfl))) ?_
     refine r_g rfl (wantT (by exact rfl)) rfl (fun hg => run_seql rfl (glv (by exact rfl) (fun h => h) hg) (glv (by exact rfl) (fun h => h) hg)) ?_
     refine r_op rfl rfl rfl (run_pick_and rfl (by exact rfl) (fun hq => glv (by exact rfl) (fun h => h) hq) rfl) ?_
     refine r_nil ?_
     refine r_cond (by exact rfl) (fun hc33 => ?_) (fun hc33 => ?_)
     ·skip
      refine r_seq ?_
      have hps : pairStep a b (pairGo a b ((numsL a).take k)) ((numsL a).getD k default) = ((pairGo a b ((numsL a).take k)).1 ++ [((numsL a).getD k default)], (pairGo a b ((numsL a).take k)).2 ++ [(numsL b).getD j default]) := pair_yes (find_at (by omega) hall (rpair_yes hc33))
      have hobF := fun g hg => (hof.block (g := g) hg).2; have hobT := fun g hg => (hot.block (g := g) hg).2
      refine r_cut [6, 7, 61, 62, 63, 64, 65, 66, 67, 68, 69, 70, 71, 72, 73, 74] (fun g w => ∃ vf2 : Value, ∃ vt2 : Value, g 6 = vf2 ∧ g 7 = vt2 ∧ OwnE w w2.heap.size 3 vf2 ((pairGo a b ((numsL a).take k)).1 ++ [((numsL a).getD k default)]) ∧ OwnE w w2.heap.size 3 vt2 ((pairGo a b ((numsL a).take k)).2 ++ [(numsL b).getD j default]) ∧ Sep vf2 vt2 ∧ w32.heap.size ≤ w.heap.size ∧ Evo w0 w [] ∧ Evo w2 w []) ?_ ?_
      ·skip
       have hV_q := hV
       have hI_q := hI
       have hof_own := fun {g : Nat} (hg : _ = some g) => hof.block (g := g) hg
       have hot_own := fun {g : Nat} (hg : _ = some g) => hot.block (g := g) hg
       refine h_region (vf.ownBlock.toList ++ (Value.slice ao31 (pairGo a b ((numsL a).take k)).2.length cp31).ownBlock.toList) (by kernel_rfl) ?_
       intro w35 hE36 hC37
       have hs_w35 := (hE36).size
       replace hV := evo_step0 hV hE36
       replace hI := evo_step0 hI hE36
       replace ha := ha0 _ hV
       replace hb := hb0 _ hV
       replace hr3 := hr30 _ hI
       replace hr4 := hr40 _ hI
       replace hof := hof.evo0 hE36
       replace hot := hot.evo0 hE36
       replace hr31 := hr31.evo0 hE36
       refine h_take (i := 0) (by exact rfl) rfl rfl rfl (by kernel_rfl) (fun w' hC => run_mv (v := vf) rfl (by exact rfl)) hC37 ?_
       refine h_take (i := 1) (by exact rfl) rfl rfl rfl (by kernel_rfl) (fun w' hC => run_mv (v := .slice _ _ _) rfl (by exact rfl)) hC37 ?_
       refine h_take (i := 2) (by exact rfl) rfl rfl rfl (by kernel_rfl) (fun w' hC => run_mv (v := .int _ _) rfl (by exact rfl)) hC37 ?_
       refine h_take (i := 3) (by exact rfl) rfl rfl rfl (by kernel_rfl) (fun w' hC => run_ix (k) rfl Try.underlying24 ty_3 (by exact rfl) (by exact rfl) (by first | exact rfl | omega) (by omega) (hr3.addr (i := k) (by omega))) hC37 ?_
       have hA380 := fun (w' : World) (h : Evo w2 w' []) => (hr30 w' h).atD (k) (by omega)
       have hA38 := hA380 _ hI
       refine h_take (i := 4) (by exact rfl) rfl rfl rfl (by kernel_rfl) (fun w' hC => run_ld1 rfl ag_3 (by exact rfl) ((hA380 _ (evo_steps hI_q hC (fun g hg => .inl (by (rcases List.mem_append.1 hg with h7 | h7); all_goals first | (have h8 := hof_own (Option.mem_toList.1 h7); omega) | (have h8 := hot_own (Option.mem_toList.1 h7); omega))))).cell 0 (by exact rfl))) hC37 ?_
       refine h_take (i := 7) (by exact rfl) rfl rfl rfl (by kernel_rfl) (fun w' hC => run_mv (v := .slice _ _ _) rfl (by exact rfl)) hC37 ?_
       refine h_take (i := 8) (by exact rfl) rfl rfl rfl (by kernel_rfl) (fun w' hC => run_mv (v := .slice _ _ _) rfl (by exact rfl)) hC37 ?_
       refine h_take (i := 9) (by exact rfl) rfl rfl rfl (by kernel_rfl) (fun w' hC => run_mv (v := .int _ _) rfl (by exact rfl)) hC37 ?_
       refine h_take (i := 10) (by exact rfl) rfl rfl rfl (by kernel_rfl) (fun w' hC => run_ix (j) rfl Try.underlying24 ty_3 (by exact rfl) (by exact rfl) (by first | exact rfl | omega) (by omega) (hr4.addr (i := j) (by omega))) hC37 ?_
       have hA390 := fun (w' : World) (h : Evo w2 w' []) => (hr40 w' h).atD (j) (by omega)
       have hA39 := hA390 _ hI
       refine h_take (i := 11) (by exact rfl) rfl rfl rfl (by kernel_rfl) (fun w' hC => run_ld1 rfl ag_3 (by exact rfl) ((hA390 _ (evo_steps hI_q hC (fun g hg => .inl (by (rcases List.mem_append.1 hg with h7 | h7); all_goals first | (have h8 := hof_own (Option.mem_toList.1 h7); omega) | (have h8 := hot_own (Option.mem_toList.1 h7); omega))))).cell 0 (by exact rfl))) hC37 ?_
       refine h_two (i := 5) (j := 12) (by kernel_rfl) ?_ ?_
       ·skip
        refine h_do (by exact rfl) ?_
        have hob40 := fun g hg => (hof.block (g := g) hg).2
        have hob41 := fun g hg => (hot.block (g := g) hg).2
        refine r_bslice (pv := [(0, .int _ _)]) (zs := [_]) (cs := [_]) Try.underlying24 ty_3 (by exact rfl) rfl (by exact rfl) rfl (by exact rfl) ?_
        intro b42 w43 heb42 hEw43 hbb42 hzb42
        have hs_w43 := (hEw43).size
        replace hV := evo_step0 hV hEw43
        replace hI := evo_step0 hI hEw43
        replace hC37 := evo_step0 hC37 hEw43
        replace ha := ha0 _ hV
        replace hb := hb0 _ hV
        replace hr3 := hr30 _ hI
        replace hr4 := hr40 _ hI
        replace hof := hof.evo0 hEw43
        replace hot := hot.evo0 hEw43
        replace hr31 := hr31.evo0 hEw43
        have hAb42 := hbb42.at
        have hrb42 := rowLit (α := Int) [_] hbb42 (by show [_] = [_]; first | (dsimp only; done) | exact rfl | (dsimp only; exact rfl)) rfl
        refine h_next hC37 ?_
        refine h_two (i := 6) (j := 12) (by kernel_rfl) ?_ ?_
        ·skip
         refine h_do (by exact rfl) ?_
         refine r_appendE rfl Try.underlying24 ty_3 (by exact rfl) hof (by exact rfl) (by exact rfl) hrb42 rfl ((by first | omega | (simp; omega))) ((by first | omega | (simp; omega))) (by omega) ?_
         intro v44 w45 hEw45 hov44 hlv44
         have hs_w45 := (hEw45).size
         replace hV := evo_stepo hV hEw45 (fun g hg => .inl (by first | exact (hof.block hg).1 | (have := hof.block hg; omega)))
         replace hI := evo_stepo hI hEw45 (fun g hg => .inl (by first | exact (hof.block hg).1 | (have := hof.block hg; omega)))
         replace hC37 := evo_stepo hC37 hEw45 (fun g hg => .inr (List.mem_append.2 (.inl (Option.mem_toList.2 hg))))
         replace ha := ha0 _ hV
         replace hb := hb0 _ hV
         replace hr3 := hr30 _ hI
         replace hr4 := hr40 _ hI
         replace hot := hot.evo hEw45 (by intro g hg hm; exact hsep.symm _ hg _ (Option.mem_toList.1 hm) rfl)
         have hsepA := hsep.grown hlv44 hobT (by omega); have hob2A := fun g hg => (hov44.block (g := g) hg).2
         refine h_next hC37 ?_
         refine h_one (i := 12) (by kernel_rfl) ?_
         refine h_do (by exact rfl) ?_
         have hob46 := fun g hg => (hot.block (g := g) hg).2
         have hob47 := fun g hg => (hov44.block (g := g) hg).2
         refine r_bslice (pv := [(0, .int _ _)]) (zs := [_]) (cs := [_]) Try.underlying24 ty_3 (by exact rfl) rfl (by exact rfl) rfl (by exact rfl) ?_
         intro b48 w49 heb48 hEw49 hbb48 hzb48
         have hs_w49 := (hEw49).size
         replace hV := evo_step0 hV hEw49
         replace hI := evo_step0 hI hEw49
         replace hC37 := evo_step0 hC37 hEw49
         replace ha := ha0 _ hV
         replace hb := hb0 _ hV
         replace hr3 := hr30 _ hI
         replace hr4 := hr40 _ hI
         replace hot := hot.evo0 hEw49
         replace hov44 := hov44.evo0 hEw49
         have hAb48 := hbb48.at
         have hrb48 := rowLit (α := Int) [_] hbb48 (by show [_] = [_]; first | (dsimp only; done) | exact rfl | (dsimp only; exact rfl)) rfl
         refine h_next hC37 ?_
         refine h_one (i := 13) (by kernel_rfl) ?_
         refine h_do (by exact rfl) ?_
         refine r_appendE rfl Try.underlying24 ty_3 (by exact rfl) hot (by exact rfl) (by exact rfl) hrb48 rfl ((by first | omega | (simp; omega))) ((by first | omega | (simp; omega))) (by omega) ?_
         intro v50 w51 hEw51 hov50 hlv50
         have hs_w51 := (hEw51).size
         replace hV := evo_stepo hV hEw51 (fun g hg => .inl (by first | exact (hot.block hg).1 | (have := hot.block hg; omega)))
         replace hI := evo_stepo hI hEw51 (fun g hg => .inl (by first | exact (hot.block hg).1 | (have := hot.block hg; omega)))
         replace ha := ha0 _ hV
         replace hb := hb0 _ hV
         replace hr3 := hr30 _ hI
         replace hr4 := hr40 _ hI
         replace hov44 := hov44.evo hEw51 (by intro g hg hm; exact hsepA _ hg _ (Option.mem_toList.1 hm) rfl)
         refine h_last (by kernel_rfl) ?_
         refine h_one (i := 14) (by kernel_rfl) ?_
         refine h_do (by exact rfl) ?_
         refine r_op rfl rfl rfl (run_asg (v := v44) rfl (by exact rfl)) ?_
         refine h_last (by kernel_rfl) ?_
         refine h_one (i := 15) (by kernel_rfl) ?_
         refine h_do (by exact rfl) ?_
         refine r_op rfl rfl rfl (run_asg (v := v50) rfl (by exact rfl)) ?_
         refine h_last (by kernel_rfl) ?_
         refine h_done (by kernel_rfl) ?_
         refine r_cut_end ?_ ?_
         ·refine ⟨_, _, rfl, rfl, hov44, hov50, (by first | exact (hsepA.symm.grown hlv50 hob2A (by omega)).symm | exact hsepB.grown hlv44 hob2B (by omega)), (by first | assumption | omega | (dsimp only; omega) | (simp; done)), hV, hI⟩
         ·repeat (first | (with_reducible exact Agree.merge _ _ _) | (with_reducible exact Agree.refl _ _) | (with_reducible refine Agree.upd ?_ _ _ rfl) | ((with_reducible refine Agree.inner ?_ ?_); (kernel_rfl)))
        ·skip
         refine h_do (by exact rfl) ?_
         have hob52 := fun g hg => (hof.block (g := g) hg).2
         have hob53 := fun g hg => (hot.block (g := g) hg).2
         refine r_bslice (pv := [(0, .int _ _)]) (zs := [_]) (cs := [_]) Try.underlying24 ty_3 (by exact rfl) rfl (by exact rfl) rfl (by exact rfl) ?_
         intro b54 w55 heb54 hEw55 hbb54 hzb54
         have hs_w55 := (hEw55).size
         replace hV := evo_step0 hV hEw55
         replace hI := evo_step0 hI hEw55
         replace hC37 := evo_step0 hC37 hEw55
         replace ha := ha0 _ hV
         replace hb := hb0 _ hV
         replace hr3 := hr30 _ hI
         replace hr4 := hr40 _ hI
         replace hof := hof.evo0 hEw55
         replace hot := hot.evo0 hEw55
         replace hr31 := hr31.evo0 hEw55
         replace hrb42 := hrb42.evo0 hEw55
         have hAb54 := hbb54.at
         have hrb54 := rowLit (α := Int) [_] hbb54 (by show [_] = [_]; first | (dsimp only; done) | exact rfl | (dsimp only; exact rfl)) rfl
         refine h_next hC37 ?_
         refine h_one (i := 6) (by kernel_rfl) ?_
         refine h_do (by exact rfl) ?_
         refine r_appendE rfl Try.underlying24 ty_3 (by exact rfl) hof (by exact rfl) (by exact rfl) hrb42 rfl ((by first | omega | (simp; omega))) ((by first | omega | (simp; omega))) (by omega) ?_
         intro v56 w57 hEw57 hov56 hlv56
         have hs_w57 := (hEw57).size
         replace hV := evo_stepo hV hEw57 (fun g hg => .inl (by first | exact (hof.block hg).1 | (have := hof.block hg; omega)))
         replace hI := evo_stepo hI hEw57 (fun g hg => .inl (by first | exact (hof.block hg).1 | (have := hof.block hg; omega)))
         replace hC37 := evo_stepo hC37 hEw57 (fun g hg => .inr (List.mem_append.2 (.inl (Option.mem_toList.2 hg))))
         replace ha := ha0 _ hV
         replace hb := hb0 _ hV
         replace hr3 := hr30 _ hI
         replace hr4 := hr40 _ hI
         replace hot := hot.evo hEw57 (by intro g hg hm; exact hsep.symm _ hg _ (Option.mem_toList.1 hm) rfl)
         replace hrb54 := hrb54.evo hEw57 (by intro hm; have hm2 := Option.mem_toList.1 hm; have := hob52 _ hm2; omega)
         have hsepA := hsep.grown hlv56 hobT (by omega); have hob2A := fun g hg => (hov56.block (g := g) hg).2
         refine h_next hC37 ?_
         refine h_one (i := 13) (by kernel_rfl) ?_
         refine h_do (by exact rfl) ?_
         refine r_appendE rfl Try.underlying24 ty_3 (by exact rfl) hot (by exact rfl) (by exact rfl) hrb54 rfl ((by first | omega | (simp; omega))) ((by first | omega | (simp; omega))) (by omega) ?_
         intro v58 w59 hEw59 hov58 hlv58
         have hs_w59 := (hEw59).size
         replace hV := evo_stepo hV hEw59 (fun g hg => .inl (by first | exact (hot.block hg).1 | (have := hot.block hg; omega)))
         replace hI := evo_stepo hI hEw59 (fun g hg => .inl (by first | exact (hot.block hg).1 | (have := hot.block hg; omega)))
         replace ha := ha0 _ hV
         replace hb := hb0 _ hV
         replace hr3 := hr30 _ hI
         replace hr4 := hr40 _ hI
         replace hov56 := hov56.evo hEw59 (by intro g hg hm; exact hsepA _ hg _ (Option.mem_toList.1 hm) rfl)
         refine h_last (by kernel_rfl) ?_
         refine h_one (i := 14) (by kernel_rfl) ?_
         refine h_do (by exact rfl) ?_
         refine r_op rfl rfl rfl (run_asg (v := v56) rfl (by exact rfl)) ?_
         refine h_last (by kernel_rfl) ?_
         refine h_one (i := 15) (by kernel_rfl) ?_
         refine h_do (by exact rfl) ?_
         refine r_op rfl rfl rfl (run_asg (v := v58) rfl (by exact rfl)) ?_
         refine h_last (by kernel_rfl) ?_
         refine h_done (by kernel_rfl) ?_
         refine r_cut_end ?_ ?_
         ·refine ⟨_, _, rfl, rfl, hov56, hov58, (by first | exact (hsepA.symm.grown hlv58 hob2A (by omega)).symm | exact hsepB.grown hlv56 hob2B (by omega)), (by first | assumption | omega | (dsimp only; omega) | (simp; done)), hV, hI⟩
         ·repeat (first | (with_reducible exact Agree.merge _ _ _) | (with_reducible exact Agree.refl _ _) | (with_reducible refine Agree.upd ?_ _ _ rfl) | ((with_reducible refine Agree.inner ?_ ?_); (kernel_rfl)))
       ·skip
        refine h_do (by exact rfl) ?_
        have hob60 := fun g hg => (hof.block (g := g) hg).2
        have hob61 := fun g hg => (hot.block (g := g) hg).2
        refine r_bslice (pv := [(0, .int _ _)]) (zs := [_]) (cs := [_]) Try.underlying24 ty_3 (by exact rfl) rfl (by exact rfl) rfl (by exact rfl) ?_
        intro b62 w63 heb62 hEw63 hbb62 hzb62
        have hs_w63 := (hEw63).size
        replace hV := evo_step0 hV hEw63
        replace hI := evo_step0 hI hEw63
        replace hC37 := evo_step0 hC37 hEw63
        replace ha := ha0 _ hV
        replace hb := hb0 _ hV
        replace hr3 := hr30 _ hI
        replace hr4 := hr40 _ hI
        replace hof := hof.evo0 hEw63
        replace hot := hot.evo0 hEw63
        replace hr31 := hr31.evo0 hEw63
        have hAb62 := hbb62.at
        have hrb62 := rowLit (α := Int) [_] hbb62 (by show [_] = [_]; first | (dsimp only; done) | exact rfl | (dsimp only; exact rfl)) rfl
        refine h_next hC37 ?_
        refine h_one (i := 5) (by kernel_rfl) ?_
        refine h_do (by exact rfl) ?_
        have hob64 := fun g hg => (hof.block (g := g) hg).2
        have hob65 := fun g hg => (hot.block (g := g) hg).2
        refine r_bslice (pv := [(0, .int _ _)]) (zs := [_]) (cs := [_]) Try.underlying24 ty_3 (by exact rfl) rfl (by exact rfl) rfl (by exact rfl) ?_
        intro b66 w67 heb66 hEw67 hbb66 hzb66
        have hs_w67 := (hEw67).size
        replace hV := evo_step0 hV hEw67
        replace hI := evo_step0 hI hEw67
        replace hC37 := evo_step0 hC37 hEw67
        replace ha := ha0 _ hV
        replace hb := hb0 _ hV
        replace hr3 := hr30 _ hI
        replace hr4 := hr40 _ hI
        replace hof := hof.evo0 hEw67
        replace hot := hot.evo0 hEw67
        replace hr31 := hr31.evo0 hEw67
        replace hrb62 := hrb62.evo0 hEw67
        have hAb66 := hbb66.at
        have hrb66 := rowLit (α := Int) [_] hbb66 (by show [_] = [_]; first | (dsimp only; done) | exact rfl | (dsimp only; exact rfl)) rfl
        refine h_next hC37 ?_
        refine h_one (i := 6) (by kernel_rfl) ?_
        refine h_do (by exact rfl) ?_
        refine r_appendE rfl Try.underlying24 ty_3 (by exact rfl) hof (by exact rfl) (by exact rfl) hrb66 rfl ((by first | omega | (simp; omega))) ((by first | omega | (simp; omega))) (by omega) ?_
        intro v68 w69 hEw69 hov68 hlv68
        have hs_w69 := (hEw69).size
        replace hV := evo_stepo hV hEw69 (fun g hg => .inl (by first | exact (hof.block hg).1 | (have := hof.block hg; omega)))
        replace hI := evo_stepo hI hEw69 (fun g hg => .inl (by first | exact (hof.block hg).1 | (have := hof.block hg; omega)))
        replace hC37 := evo_stepo hC37 hEw69 (fun g hg => .inr (List.mem_append.2 (.inl (Option.mem_toList.2 hg))))
        replace ha := ha0 _ hV
        replace hb := hb0 _ hV
        replace hr3 := hr30 _ hI
        replace hr4 := hr40 _ hI
        replace hot := hot.evo hEw69 (by intro g hg hm; exact hsep.symm _ hg _ (Option.mem_toList.1 hm) rfl)
        replace hrb62 := hrb62.evo hEw69 (by intro hm; have hm2 := Option.mem_toList.1 hm; have := hob60 _ hm2; omega)
        have hsepA := hsep.grown hlv68 hobT (by omega); have hob2A := fun g hg => (hov68.block (g := g) hg).2
        refine h_next hC37 ?_
        refine h_one (i := 13) (by kernel_rfl) ?_
        refine h_do (by exact rfl) ?_
        refine r_appendE rfl Try.underlying24 ty_3 (by exact rfl) hot (by exact rfl) (by exact rfl) hrb62 rfl ((by first | omega | (simp; omega))) ((by first | omega | (simp; omega))) (by omega) ?_
        intro v70 w71 hEw71 hov70 hlv70
        have hs_w71 := (hEw71).size
        replace hV := evo_stepo hV hEw71 (fun g hg => .inl (by first | exact (hot.block hg).1 | (have := hot.block hg; omega)))
        replace hI := evo_stepo hI hEw71 (fun g hg => .inl (by first | exact (hot.block hg).1 | (have := hot.block hg; omega)))
        replace ha := ha0 _ hV
        replace hb := hb0 _ hV
        replace hr3 := hr30 _ hI
        replace hr4 := hr40 _ hI
        replace hov68 := hov68.evo hEw71 (by intro g hg hm; exact hsepA _ hg _ (Option.mem_toList.1 hm) rfl)
        refine h_last (by kernel_rfl) ?_
        refine h_one (i := 14) (by kernel_rfl) ?_
        refine h_do (by exact rfl) ?_
        refine r_op rfl rfl rfl (run_asg (v := v68) rfl (by exact rfl)) ?_
        refine h_last (by kernel_rfl) ?_
        refine h_one (i := 15) (by kernel_rfl) ?_
        refine h_do (by exact rfl) ?_
        refine r_op rfl rfl rfl (run_asg (v := v70) rfl (by exact rfl)) ?_
        refine h_last (by kernel_rfl) ?_
        refine h_done (by kernel_rfl) ?_
        refine r_cut_end ?_ ?_
        ·refine ⟨_, _, rfl, rfl, hov68, hov70, (by first | exact (hsepA.symm.grown hlv70 hob2A (by omega)).symm | exact hsepB.grown hlv68 hob2B (by omega)), (by first | assumption | omega | (dsimp only; omega) | (simp; done)), hV, hI⟩
        ·repeat (first | (with_reducible exact Agree.merge _ _ _) | (with_reducible exact Agree.refl _ _) | (with_reducible refine Agree.upd ?_ _ _ rfl) | ((with_reducible refine Agree.inner ?_ ?_); (kernel_rfl)))
      ·rintro g w72 ⟨vf2, vt2, hj73, hj74, hof, hot, hsep3, hzl34, hV, hI⟩
       have hs_w72hV := hV.size
       have hs_w72hI := hI.size
       replace ha := ha0 _ hV
       replace hb := hb0 _ hV
       replace hr3 := hr30 _ hI
       replace hr4 := hr40 _ hI
       replace hA11 := hA110 _ hI
       replace hA24 := hA240 _ hI
       replace hA30 := hA300 _ hI
       refine r_know (i := 6) (v := vf2) (by exact hj73) ?_
       refine r_know (i := 7) (v := vt2) (by exact hj74) ?_
       refine r_exit rfl ?_
       refine r_blk ?_
       refine r_region ?_
       refine r_op rfl rfl rfl (run_add rfl (by exact rfl) (by exact rfl) (by omega) (by omega)) ?_
       refine r_op rfl rfl rfl (run_mv (v := .int _ _) rfl (by exact rfl)) ?_
       refine r_nil ?_
       refine r_again (k + 1) ?_ ?_ ?_
       ·first | omega | (dsimp only; omega)
       ·refine ⟨_, _, (by first | exact rfl | exact congrArg (Value.int _) (by omega) | exact congrArg (Value.int _) (by dsimp only; omega) | exact congrArg (Value.int _) (by simp) | exact congrArg S (by simp)), rfl, rfl, (by first | assumption | omega | (dsimp only; omega) | (simp; done)), (by rw [pairGo_succ a b _ k (by omega), hps]; exact hof), (by rw [pairGo_succ a b _ k (by omega), hps]; exact hot), (by first | exact hsep | exact hsep3), (by first | assumption | omega | (dsimp only; omega) | (simp; done)), hV, hI⟩
       ·repeat (first | (with_reducible exact Agree.merge _ _ _) | (with_reducible exact Agree.refl _ _) | (with_reducible refine Agree.upd ?_ _ _ rfl) | ((with_reducible refine Agree.inner ?_ ?_); (kernel_rfl)))
     ·skip
      refine r_skip ?_
      refine r_blk ?_
      refine r_region ?_
      refine r_op rfl rfl rfl (run_add rfl (by exact rfl) (by exact rfl) (by omega) (by omega)) ?_
      refine r_op rfl rfl rfl (run_mv (v := .int _ _) rfl (by exact rfl)) ?_
      refine r_nil ?_
      refine r_again (j + 1) ?_ ?_ ?_
      ·first | omega | (dsimp only; omega)
      ·refine ⟨(by first | exact rfl | exact congrArg (Value.int _) (by omega) | exact congrArg (Value.int _) (by dsimp only; omega) | exact congrArg (Value.int _) (by simp) | exact congrArg S (by simp)), rfl, rfl, (by first | assumption | omega | (dsimp only; omega) | (simp; done)), hof, hot, hbb15, hAb15, (upto0 hall (rpair_no hc33)), (by first | assumption | omega | (dsimp only; omega) | (simp; done)), hV, hI⟩
      ·repeat (first | (with_reducible exact Agree.merge _ _ _) | (with_reducible exact Agree.refl _ _) | (with_reducible refine Agree.upd ?_ _ _ rfl) | ((with_reducible refine Agree.inner ?_ ?_); (kernel_rfl)))
    ·skip
     refine r_exit rfl ?_
     refine r_blk ?_
     have hps : pairStep a b (pairGo a b ((numsL a).take k)) ((numsL a).getD k default) = (pairGo a b ((numsL a).take k)) := pair_no (find_no (fun i hi => hall i (by omega)))
     refine r_region ?_
     refine r_op rfl rfl rfl (run_add rfl (by exact rfl) (by exact rfl) (by omega) (by omega)) ?_
     refine r_op rfl rfl rfl (run_mv (v := .int _ _) rfl (by exact rfl)) ?_
     refine r_nil ?_
     refine r_again (k + 1) ?_ ?_ ?_
     ·first | omega | (dsimp only; omega)
     ·refine ⟨_, _, (by first | exact rfl | exact congrArg (Value.int _) (by omega) | exact congrArg (Value.int _) (by dsimp only; omega) | exact congrArg (Value.int _) (by simp) | exact congrArg S (by simp)), rfl, rfl, (by first | assumption | omega | (dsimp only; omega) | (simp; done)), (by rw [pairGo_succ a b _ k (by omega), hps]; exact hof), (by rw [pairGo_succ a b _ k (by omega), hps]; exact hot), (by first | exact hsep | exact hsep3), (by first | assumption | omega | (dsimp only; omega) | (simp; done)), hV, hI⟩
     ·repeat (first | (with_reducible exact Agree.merge _ _ _) | (with_reducible exact Agree.refl _ _) | (with_reducible refine Agree.upd ?_ _ _ rfl) | ((with_reducible refine Agree.inner ?_ ?_); (kernel_rfl)))
  ·skip
   refine r_exit rfl ?_
   refine r_seq ?_
   refine r_region ?_
   refine r_op rfl rfl rfl (run_mv (v := vf) rfl (by exact rfl)) ?_
   refine r_op rfl rfl rfl (run_mv (v := vt) rfl (by exact rfl)) ?_
   refine r_op rfl rfl rfl (run_asg (v := vf) rfl (by exact rfl)) ?_
   refine r_op rfl rfl rfl (run_asg (v := vt) rfl (by exact rfl)) ?_
   refine r_nil ?_
   refine r_ret (res2 (v := vf) (u := vt) rfl (by exact rfl) (by exact rfl)) ?_
   exact ⟨_, _, rfl, hV, by rw [List.take_of_length_le (by omega)] at hof; exact hof.base_le (by omega), by rw [List.take_of_length_le (by omega)] at hot; exact hot.base_le (by omega)⟩

end Go.Proofs.Ytkdgoghmkmpfnaa
