import Derived.Test.YtkdgoghmkmpfnaaW10
namespace Go.Proofs.Ytkdgoghmkmpfnaa
open Go.RowKit Go.Vc

theorem rrename_calls {aof aoa aob : Option Addr} {bf_ offf capf ba offa capa bb offb capb : Nat} {f : List Vc.Item} {fr to_ : List Int} {w0 : World} (rf : RowE w0 aof bf_ offf capf f) (ra : RowE w0 aoa ba offa capa fr) (rb : RowE w0 aob bb offb capb to_) (hsm : Small f) (hla : fr.length ≤ 100000) (hlb : to_.length ≤ 100000) :
    Calls Try.prog 38 #[.slice aof f.length capf, .slice aoa fr.length capa, .slice aob to_.length capb] w0 fun e w' => ∃ v, e = .returned v ∧ Evo w0 w' [] ∧ OwnE w' w0.heap.size 26 v (renL fr to_ f) := by
 have hs1 := hsm.1
 refine calls_enter (n := 61) (args := [.slice aof f.length capf, .slice aoa fr.length capa, .slice aob to_.length capb]) Try.func38 rfl Try.ntmps38 rfl ?_
 have hV : Evo w0 w0 [] := Evo.refl _ _
 have rf0 := keepE rf
 have hbd_rf := rf.bd
 have ra0 := keepE ra
 have hbd_ra := ra.bd
 have rb0 := keepE rb
 have hbd_rb := rb.bd
 refine r_seq ?_
 refine r_region ?_
 refine r_op rfl rfl rfl (run_asg (v := .slice _ _ _) rfl (by exact rfl)) ?_
 refine r_nil ?_
 refine r_seq ?_
 refine r_region ?_
 refine r_op rfl rfl rfl (run_asg (v := .slice _ _ _) rfl (by exact rfl)) ?_
 refine r_nil ?_
 refine r_seq ?_
 refine r_seq ?_
 refine r_region ?_
 refine r_op rfl rfl rfl (run_mv (v := .slice _ _ _) rfl (by exact rfl)) ?_
 refine r_op rfl rfl rfl (run_lenSl rfl (by exact rfl) Try.underlying30) ?_
 refine r_op rfl rfl rfl (run_mv (v := .int _ _) rfl (by exact rfl)) ?_
 refine r_nil ?_
 refine r_block ?_
 refine r_loop (α := Nat) [7, 8, 9, 10, 13, 14, 15, 16, 17, 18, 19, 20, 21, 22, 23, 24, 25, 26, 27, 28, 29, 30, 31, 32, 33, 34, 35, 36, 37, 38, 39, 40, 41, 42, 43, 44, 45, 46, 47, 48, 49, 50, 51, 52, 53, 54, 55, 56, 57, 58] (fun i g w => ∃ vo : Value, g 13 = .int .i64 (i : Nat) ∧ g 7 = vo ∧ i ≤ f.length ∧ OwnE w w0.heap.size 26 vo (renF fr to_ (f.take i)) ∧ w0.heap.size ≤ w.heap.size ∧ Evo w0 w []) (fun i => f.length - i) 0 ?_ ?_
 ·refine ⟨_, (by first | exact rfl | exact congrArg (Value.int _) (by omega) | exact congrArg (Value.int _) (by dsimp only; omega) | exact congrArg (Value.int _) (by simp) | exact congrArg S (by simp)), rfl, (by first | assumption | omega | (dsimp only; omega) | (simp; done)), (OwnE.nil _ _ _), (by first | assumption | omega | (dsimp only; omega) | (simp; done)), hV⟩
 ·rintro i g w2 ⟨vo, hj3, hj4, hk_i, hoo, hzl1, hV⟩
  have hs_w2hV := hV.size
  replace rf := rf0 _ hV
  replace ra := ra0 _ hV
  replace rb := rb0 _ hV
  refine r_know (i := 13) (v := .int .i64 (i : Nat)) (by exact hj3) ?_
  refine r_know (i := 7) (v := vo) (by exact hj4) ?_
  refine r_seq ?_
  refine r_region ?_
  refine r_op rfl rfl rfl (run_lss rfl (by exact rfl) (by exact rfl)) ?_
  refine r_nil ?_
  refine r_seq ?_
  refine r_cond (by exact rfl) (fun hc5 => ?_) (fun hc5 => ?_)
  ·skip
   refine r_skip ?_
   refine r_seq ?_
   refine r_block ?_
   refine r_seq ?_
   refine r_region ?_
   refine r_op rfl rfl rfl (run_mv (v := .int _ _) rfl (by exact rfl)) ?_
   refine r_op rfl rfl rfl (run_asg (v := .int _ _) rfl (by exact rfl)) ?_
   refine r_nil ?_
   refine r_seq ?_
   have hobO := fun g hg => (hoo.block (g := g) hg).2
   refine r_region ?_
   refine r_op rfl rfl rfl (run_mv (v := .slice _ _ _) rfl (by exact rfl)) ?_
   refine r_op rfl rfl rfl (run_mv (v := .int _ _) rfl (by exact rfl)) ?_
   refine r_op rfl rfl rfl (run_ix (i) rfl Try.underlying30 ty_26 (by exact rfl) (by exact rfl) (by first | exact rfl | omega) (by omega) (rf.addr (i := i) (by omega))) ?_
   have hA60 := fun (w' : World) (h : Evo w0 w' []) => (rf0 w' h).atD (i) (by omega)
   have hA6 := hA60 _ hV
   refine r_op rfl rfl rfl (run_ldN rfl ag_26 ty_26 (by exact rfl) rfl hA6) ?_
   have hob7 := fun g hg => (hoo.block (g := g) hg).2
   refine r_var (zs := [_, _, _]) (vs := [_, _, _]) ty_26 (by exact rfl) rfl (by exact rfl) (fun _ => rfl) (by exact rfl) rfl rfl (by exact rfl) ?_
   intro b8 w9 heb8 hEw9 hbb8 hzb8
   have hs_w9 := (hEw9).size
   replace hV := evo_step0 hV hEw9
   replace rf := rf0 _ hV
   replace ra := ra0 _ hV
   replace rb := rb0 _ hV
   replace hoo := hoo.evo0 hEw9
   have hAb8 := hbb8.at
   refine r_nil ?_
   refine r_seq ?_
   refine r_seq ?_
   have hneX : ∀ g, vo.ownBlock = some g → g ≠ b8 := fun g hg h => by have := hobO g hg; omega
   have hn1 := renF_bd fr to_ (f.take i); have hn2 : (f.take i).length ≤ i := List.length_take_le _ _
   refine r_region ?_
   refine r_op rfl rfl rfl (run_ldN rfl ag_26 ty_26 (by exact rfl) rfl hAb8) ?_
   refine r_opcall rfl rfl rfl (run_callf (vs := [.agg _]) rfl (by exact rfl) Try.func75 rfl (by kernel_rfl)) ristag_calls ?_
   rintro e w10 ⟨rfl, hE10⟩
   refine ⟨_, rfl, ?_⟩
   have hs_w10 := (hE10).size
   replace hV := evo_step0 hV hE10
   replace rf := rf0 _ hV
   replace ra := ra0 _ hV
   replace rb := rb0 _ hV
   replace hoo := hoo.evo0 hE10
   replace hbb8 := hbb8.evo0 hE10
   replace hAb8 := hAb8.evo0 hE10
   refine r_op rfl rfl rfl (run_notb rfl (by exact rfl)) ?_
   refine r_nil ?_
   refine r_condb (by exact rfl) (fun hc11 => ?_) (fun hc11 => ?_)
   ·skip
    have htg : ¬ isTag (f.getD i default) = true := by simpa using hc11
    refine r_seq ?_
    refine r_region ?_
    refine r_op rfl rfl rfl (run_mv (v := vo) rfl (by exact rfl)) ?_
    refine r_op rfl rfl rfl (run_ldN rfl ag_26 ty_26 (by exact rfl) rfl hAb8) ?_
    refine r_append1E (u := .agg _) (y := ⟨_, _, _⟩) rfl rfl Try.underlying30 ty_26 (by exact rfl) hoo (fun _ => (by exact rfl)) (by exact rfl) (by first | exact rfl | (show _ = List.toArray [_, _, _]; first | (dsimp only; done) | exact rfl | (dsimp only; exact rfl))) ((by first | omega | (simp; omega))) ((by first | omega | (simp; omega))) (by omega) ?_
    intro q_v12 v12 w13 hEw13 hov12 hlv12
    have hs_w13 := (hEw13).size
    replace hV := evo_stepo hV hEw13 (fun g hg => .inl (by first | exact (hoo.block hg).1 | (have := hoo.block hg; omega)))
    replace rf := rf0 _ hV
    replace ra := ra0 _ hV
    replace rb := rb0 _ hV
    replace hbb8 := hbb8.evo hEw13 (by intro hm; have hm2 := Option.mem_toList.1 hm; have := hob7 _ hm2; omega)
    replace hAb8 := hAb8.evo hEw13 (by intro hm; have hm2 := Option.mem_toList.1 hm; have := hob7 _ hm2; omega)
    refine r_op rfl rfl rfl (run_asg (v := v12) rfl (by exact rfl)) ?_
    refine r_nil ?_
    refine r_exit rfl ?_
    refine r_region ?_
    refine r_op rfl rfl rfl (run_add rfl (by exact rfl) (by exact rfl) (by omega) (by omega)) ?_
    refine r_op rfl rfl rfl (run_mv (v := .int _ _) rfl (by exact rfl)) ?_
    refine r_nil ?_
    refine r_again (i + 1) ?_ ?_ ?_
    ·first | omega | (dsimp only; omega)
    ·refine ⟨_, (by first | exact rfl | exact congrArg (Value.int _) (by omega) | exact congrArg (Value.int _) (by dsimp only; omega) | exact congrArg (Value.int _) (by simp) | exact congrArg S (by simp)), rfl, (by first | assumption | omega | (dsimp only; omega) | (simp; done)), (by first | (rw [renF_succ fr to_ f i (by omega), ren_other htg]; exact hov12) | (rw [renF_succ fr to_ f i (by omega), ren_some htg (hnf.trans (by rw [firstM_at (by omega) (by omega), if_pos hc11]))]; exact hov12) | (rw [renF_succ fr to_ f i (by omega), ren_none htg (hnf.trans (firstM_end (by omega) _)), List.append_nil]; exact hov12)), (by first | assumption | omega | (dsimp only; omega) | (simp; done)), hV⟩
    ·repeat (first | (with_reducible exact Agree.merge _ _ _) | (with_reducible exact Agree.refl _ _) | (with_reducible refine Agree.upd ?_ _ _ rfl) | ((with_reducible refine Agree.inner ?_ ?_); (kernel_rfl)))
   ·skip
    have htg : isTag (f.getD i default) = true := by simpa using hc11
    refine r_skip ?_
    refine r_seq ?_
    refine r_region ?_
    refine r_op rfl rfl rfl (run_asg (v := .int _ _) rfl (by exact rfl)) ?_
    refine r_nil ?_
    refine r_block ?_
    refine r_loop (α := Nat) [7, 10, 27, 28, 29, 30, 31, 32, 33, 34, 35, 36, 37, 38, 39, 40, 41, 42, 43, 44, 45, 46, 47, 48, 49, 50, 51, 52, 53, 54, 55, 56, 57] (fun k g w => g 10 = .int .i64 (k : Nat) ∧ g 7 = vo ∧ OwnE w w0.heap.size 26 vo (renF fr to_ (f.take i)) ∧ Blk w b8 26 [.int .i64 (f.getD i default).kind, S (f.getD i default).text, .int .i64 (f.getD i default).id] ∧ At w b8 0 [.int .i64 (f.getD i default).kind, S (f.getD i default).text, .int .i64 (f.getD i default).id] ∧ (firstM fr to_ (f.getD i default).id = firstM (fr.drop k) (to_.drop k) (f.getD i default).id) ∧ (k ≤ fr.length ∧ k ≤ to_.length) ∧ w10.heap.size ≤ w.heap.size ∧ Evo w0 w []) (fun k => fr.length - k) 0 ?_ ?_
    ·refine ⟨(by first | exact rfl | exact congrArg (Value.int _) (by omega) | exact congrArg (Value.int _) (by dsimp only; omega) | exact congrArg (Value.int _) (by simp) | exact congrArg S (by simp)), rfl, hoo, hbb8, hAb8, rfl, (by first | assumption | omega | (dsimp only; omega) | (simp; done)), (by first | assumption | omega | (dsimp only; omega) | (simp; done)), hV⟩
    ·rintro k g w15 ⟨hj16, hj17, hoo, hbb8, hAb8, hnf, hka, hzl14, hV⟩
     have hs_w15hV := hV.size
     have hlt18 := hbb8.lt
     replace rf := rf0 _ hV
     replace ra := ra0 _ hV
     replace rb := rb0 _ hV
     replace hA6 := hA60 _ hV
     refine r_know (i := 10) (v := .int .i64 (k : Nat)) (by exact hj16) ?_
     refine r_know (i := 7) (v := vo) (by exact hj17) ?_
     refine r_seq ?_
     refine r_seq ?_
     refine r_region ?_
     refine r_op rfl rfl rfl (run_mv (v := .int _ _) rfl (by exact rfl)) ?_
     refine r_op rfl rfl rfl (run_mv (v := .slice _ _ _) rfl (by exact rfl)) ?_
     refine r_op rfl rfl rfl (run_lenSl rfl (by exact rfl) Try.underlying24) ?_
     refine r_op rfl rfl rfl (run_lss rfl (by exact rfl) (by exact rfl)) ?_
     refine r_op rfl rfl rfl (run_mv (v := .bool _) rfl (by exact rfl)) ?_
     refine r_g rfl (wantT (by exact rfl)) rfl (fun hg => run_mv (v := .int _ _) rfl (by exact rfl)) ?_
     refine r_g rfl (wantT (by exact rfl)) rfl (fun hg => run_mv (v := .slice _ _ _) rfl (by exact rfl)) ?_
     refine r_g rfl (wantT (by exact rfl)) rfl (fun hg => run_lenSl rfl (glv (by exact rfl) (fun h => h) hg) Try.underlying24) ?_
     refine r_g rfl (wantT (by exact rfl)) rfl (fun hg => run_lss rfl (glv (by exact rfl) (fun h => h) hg) (glv (by exact rfl) (fun h => h) hg)) ?_
     refine r_op rfl rfl rfl (run_pick_and rfl (by exact rfl) (fun hq => glv (by exact rfl) (fun h => h) hq) rfl) ?_
     refine r_nil ?_
     refine r_cond (by exact rfl) (fun hc19 => ?_) (fun hc19 => ?_)
     ·skip
      refine r_skip ?_
      refine r_seq ?_
      refine r_block ?_
      refine r_seq ?_
      refine r_qregion (by kernel_rfl) (by kernel_rfl) ?_
      refine q_op rfl rfl rfl (fun w' hC => run_mv (v := .slice _ _ _) rfl (by exact rfl)) ?_
      refine q_op rfl rfl rfl (fun w' hC => run_mv (v := .int _ _) rfl (by exact rfl)) ?_
      refine q_op rfl rfl rfl (fun w' hC => run_ix (k) rfl Try.underlying24 ty_3 (by exact rfl) (by exact rfl) (by first | exact rfl | omega) (by omega) (ra.addr (i := k) (by omega))) ?_
      have hA200 := fun (w' : World) (h : Evo w0 w' []) => (ra0 w' h).atD (k) (by omega)
      have hA20 := hA200 _ hV
      refine q_op rfl rfl rfl (fun w' hC => run_ld1 rfl ag_3 (by exact rfl) ((hA20.evo0 hC).cell 0 (by exact rfl))) ?_
      refine q_op rfl rfl rfl (fun w' hC => run_fa rfl (by exact rfl) fo_26_2) ?_
      refine q_op rfl rfl rfl (fun w' hC => run_ld1 rfl ag_3 (by exact rfl) ((hAb8.evo0 hC).cell 2 (by exact rfl))) ?_
      refine q_op rfl rfl rfl (fun w' hC => run_eql rfl (by exact rfl) (by exact rfl)) ?_
      refine q_nil (fun w21 hE22 => ?_)
      have hs_w21 := (hE22).size
      replace hV := evo_step0 hV hE22
      replace rf := rf0 _ hV
      replace ra := ra0 _ hV
      replace rb := rb0 _ hV
      replace hoo := hoo.evo0 hE22
      replace hbb8 := hbb8.evo0 hE22
      replace hAb8 := hAb8.evo0 hE22
      refine r_cond (by exact rfl) (fun hc23 => ?_) (fun hc23 => ?_)
      ·skip
       refine r_seq ?_
       have hbb8_q := hbb8
       have hAb8_q := hAb8
       have hV_q := hV
       refine h_region ([]) (by kernel_rfl) ?_
       intro w24 hE25 hC26
       have hs_w24 := (hE25).size
       replace hV := evo_step0 hV hE25
       replace rf := rf0 _ hV
       replace ra := ra0 _ hV
       replace rb := rb0 _ hV
       replace hoo := hoo.evo0 hE25
       replace hbb8 := hbb8.evo0 hE25
       replace hAb8 := hAb8.evo0 hE25
       refine h_take (i := 0) (by exact rfl) rfl rfl rfl (by kernel_rfl) (fun w' hC => run_mv (v := vo) rfl (by exact rfl)) hC26 ?_
       refine h_take (i := 1) (by exact rfl) rfl rfl rfl (by kernel_rfl) (fun w' hC => run_fa rfl (by exact rfl) fo_26_0) hC26 ?_
       refine h_take (i := 2) (by exact rfl) rfl rfl rfl (by kernel_rfl) (fun w' hC => run_ld1 rfl ag_3 (by exact rfl) ((hAb8_q.evo0 hC).cell 0 (by exact rfl))) hC26 ?_
       refine h_take (i := 3) (by exact rfl) rfl rfl rfl (by kernel_rfl) (fun w' hC => run_fa rfl (by exact rfl) fo_26_1) hC26 ?_
       refine h_take (i := 4) (by exact rfl) rfl rfl rfl (by kernel_rfl) (fun w' hC => run_ld1 rfl ag_9 (by exact rfl) ((hAb8_q.evo0 hC).cell 1 (by exact rfl))) hC26 ?_
       refine h_take (i := 5) (by exact rfl) rfl rfl rfl (by kernel_rfl) (fun w' hC => run_mv (v := .slice _ _ _) rfl (by exact rfl)) hC26 ?_
       refine h_take (i := 6) (by exact rfl) rfl rfl rfl (by kernel_rfl) (fun w' hC => run_mv (v := .int _ _) rfl (by exact rfl)) hC26 ?_
       refine h_take (i := 7) (by exact rfl) rfl rfl rfl (by kernel_rfl) (fun w' hC => run_ix (k) rfl Try.underlying24 ty_3 (by exact rfl) (by exact rfl) (by first | exact rfl | omega) (by omega) (rb.addr (i := k) (by omega))) hC26 ?_
       have hA270 := fun (w' : World) (h : Evo w0 w' []) => (rb0 w' h).atD (k) (by omega)
       have hA27 := hA270 _ hV
       refine h_take (i := 8) (by exact rfl) rfl rfl rfl (by kernel_rfl) (fun w' hC => run_ld1 rfl ag_3 (by exact rfl) ((hA270 _ (evo_step0 hV_q hC)).cell 0 (by exact rfl))) hC26 ?_
       refine h_take (i := 9) (by exact rfl) rfl rfl rfl (by kernel_rfl) (fun w' hC => run_bld (pv := [(0, .int _ _), (1, S _), (2, .int _ _)]) (zs := [_, _, _]) (cells := [_, _, _]) rfl ty_26 (by exact rfl) pl_26 (by exact rfl) (by exact rfl)) hC26 ?_
       refine h_one (i := 10) (by kernel_rfl) ?_
       refine h_do (by exact rfl) ?_
       refine r_bslice (pv := [(0, .agg _)]) (zs := [_, _, _]) (cs := [_, _, _]) Try.underlying30 ty_26 (by exact rfl) rfl (by exact rfl) rfl (by exact rfl) ?_
       intro b28 w29 heb28 hEw29 hbb28 hzb28
       have hs_w29 := (hEw29).size
       replace hV := evo_step0 hV hEw29
       replace hC26 := evo_step0 hC26 hEw29
       replace rf := rf0 _ hV
       replace ra := ra0 _ hV
       replace rb := rb0 _ hV
       replace hoo := hoo.evo0 hEw29
       replace hbb8 := hbb8.evo0 hEw29
       replace hAb8 := hAb8.evo0 hEw29
       have hAb28 := hbb28.at
       have hrb28 := rowLit (α := Vc.Item) [⟨_, _, _⟩] hbb28 (by show [_, _, _] = [_, _, _]; first | (dsimp only; done) | exact rfl | (dsimp only; exact rfl)) rfl
       refine h_next hC26 ?_
       refine h_one (i := 11) (by kernel_rfl) ?_
       refine h_do (by exact rfl) ?_
       refine r_appendE rfl Try.underlying30 ty_26 (by exact rfl) hoo (by exact rfl) (by exact rfl) hrb28 rfl ((by first | omega | (simp; omega))) ((by first | omega | (simp; omega))) (by omega) ?_
       intro v30 w31 hEw31 hov30 hlv30
       have hs_w31 := (hEw31).size
       replace hV := evo_stepo hV hEw31 (fun g hg => .inl (by first | exact (hoo.block hg).1 | (have := hoo.block hg; omega)))
       replace rf := rf0 _ hV
       replace ra := ra0 _ hV
       replace rb := rb0 _ hV
       replace hbb8 := hbb8.evo hEw31 (by intro hm; exact hneX _ (Option.mem_toList.1 hm) rfl)
       replace hAb8 := hAb8.evo hEw31 (by intro hm; exact hneX _ (Option.mem_toList.1 hm) rfl)
       refine h_last (by kernel_rfl) ?_
       refine h_one (i := 12) (by kernel_rfl) ?_
       refine h_do (by exact rfl) ?_
       refine r_op rfl rfl rfl (run_asg (v := v30) rfl (by exact rfl)) ?_
       refine h_last (by kernel_rfl) ?_
       refine h_done (by kernel_rfl) ?_
       refine r_exit rfl ?_
       refine r_blk ?_
       refine r_region ?_
       refine r_op rfl rfl rfl (run_add rfl (by exact rfl) (by exact rfl) (by omega) (by omega)) ?_
       refine r_op rfl rfl rfl (run_mv (v := .int _ _) rfl (by exact rfl)) ?_
       refine r_nil ?_
       refine r_again (i + 1) ?_ ?_ ?_
       ·first | omega | (dsimp only; omega)
       ·refine ⟨_, (by first | exact rfl | exact congrArg (Value.int _) (by omega) | exact congrArg (Value.int _) (by dsimp only; omega) | exact congrArg (Value.int _) (by simp) | exact congrArg S (by simp)), rfl, (by first | assumption | omega | (dsimp only; omega) | (simp; done)), (by first | (rw [renF_succ fr to_ f i (by omega), ren_other htg]; exact hov30) | (rw [renF_succ fr to_ f i (by omega), ren_some htg (hnf.trans (by rw [firstM_at (by omega) (by omega), if_pos hc23]))]; exact hov30) | (rw [renF_succ fr to_ f i (by omega), ren_none htg (hnf.trans (firstM_end (by omega) _)), List.append_nil]; exact hov30)), (by first | assumption | omega | (dsimp only; omega) | (simp; done)), hV⟩
       ·repeat (first | (with_reducible exact Agree.merge _ _ _) | (with_reducible exact Agree.refl _ _) | (with_reducible refine Agree.upd ?_ _ _ rfl) | ((with_reducible refine Agree.inner ?_ ?_); (kernel_rfl)))
      ·skip
       refine r_skip ?_
       refine r_blk ?_
       refine r_region ?_
       refine r_op rfl rfl rfl (run_mv (v := .int _ _) rfl (by exact rfl)) ?_
       refine r_op rfl rfl rfl (run_add rfl (by exact rfl) (by exact rfl) (by omega) (by omega)) ?_
       refine r_op rfl rfl rfl (run_asg (v := .int _ _) rfl (by exact rfl)) ?_
       refine r_nil ?_
       refine r_again (k + 1) ?_ ?_ ?_
       ·first | omega | (dsimp only; omega)
       ·refine ⟨(by first | exact rfl | exact congrArg (Value.int _) (by omega) | exact congrArg (Value.int _) (by dsimp only; omega) | exact congrArg (Value.int _) (by simp) | exact congrArg S (by simp)), rfl, hoo, hbb8, hAb8, (hnf.trans (by rw [firstM_at (by omega) (by omega), if_neg hc23])), (by first | assumption | omega | (dsimp only; omega) | (simp; done)), (by first | assumption | omega | (dsimp only; omega) | (simp; done)), hV⟩
       ·repeat (first | (with_reducible exact Agree.merge _ _ _) | (with_reducible exact Agree.refl _ _) | (with_reducible refine Agree.upd ?_ _ _ rfl) | ((with_reducible refine Agree.inner ?_ ?_); (kernel_rfl)))
     ·skip
      refine r_exit rfl ?_
      refine r_blk ?_
      refine r_region ?_
      refine r_op rfl rfl rfl (run_add rfl (by exact rfl) (by exact rfl) (by omega) (by omega)) ?_
      refine r_op rfl rfl rfl (run_mv (v := .int _ _) rfl (by exact rfl)) ?_
      refine r_nil ?_
      refine r_again (i + 1) ?_ ?_ ?_
      ·first | omega | (dsimp only; omega)
      ·refine ⟨_, (by first | exact rfl | exact congrArg (Value.int _) (by omega) | exact congrArg (Value.int _) (by dsimp only; omega) | exact congrArg (Value.int _) (by simp) | exact congrArg S (by simp)), rfl, (by first | assumption | omega | (dsimp only; omega) | (simp; done)), (by first | (rw [renF_succ fr to_ f i (by omega), ren_other htg]; exact hoo) | (rw [renF_succ fr to_ f i (by omega), ren_some htg (hnf.trans (by rw [firstM_at (by omega) (by omega), if_pos hc19]))]; exact hoo) | (rw [renF_succ fr to_ f i (by omega), ren_none htg (hnf.trans (firstM_end (by omega) _)), List.append_nil]; exact hoo)), (by first | assumption | omega | (dsimp only; omega) | (simp; done)), hV⟩
      ·repeat (first | (with_reducible exact Agree.merge _ _ _) | (with_reducible exact Agree.refl _ _) | (with_reducible refine Agree.upd ?_ _ _ rfl) | ((with_reducible refine Agree.inner ?_ ?_); (kernel_rfl)))
  ·skip
   refine r_exit rfl ?_
   refine r_seq ?_
   rw [List.take_of_length_le (by omega)] at hoo
   refine r_region ?_
   refine r_op rfl rfl rfl (run_mv (v := vo) rfl (by exact rfl)) ?_
   obtain ⟨ao32, g32, cp32, hv32, hr32, hg32⟩ := hoo.rowOf
   subst hv32
   refine r_opcall rfl rfl rfl (run_callf (vs := [.slice _ _ _]) rfl (by exact rfl) Try.func48 rfl (by kernel_rfl)) (rnormalize_calls hr32 (by first | assumption | exact small_ren (by assumption) | exact small_norm (by assumption) | (rw [flat2]; assumption))) ?_
   rintro e w33 ⟨vn33, rfl, hE33, hon33⟩
   refine ⟨_, rfl, ?_⟩
   have hs_w33 := (hE33).size
   replace hV := evo_step0 hV hE33
   replace rf := rf0 _ hV
   replace ra := ra0 _ hV
   replace rb := rb0 _ hV
   replace hoo := hoo.evo0 hE33
   replace hr32 := hr32.evo0 hE33
   refine r_op rfl rfl rfl (run_asg (v := vn33) rfl (by exact rfl)) ?_
   refine r_nil ?_
   refine r_ret (res1 (v := vn33) rfl (by exact rfl)) ?_
   exact ⟨_, rfl, hV, by have h9 := hon33; exact h9.base_le (by omega)⟩

theorem rcanonical_calls {aos aot : Option Addr} {bs_ offs caps bt_ offt capt : Nat} {s t : List Vc.Item} {w0 : World} (rs : RowE w0 aos bs_ offs caps s) (rt : RowE w0 aot bt_ offt capt t) (hss : Small s) (hst : Small t) (hsm : Small (s ++ t)) :
    Calls Try.prog 36 #[.slice aos s.length caps, .slice aot t.length capt] w0 fun e w' => ∃ v u, e = .returned (.tuple #[v, u]) ∧ Evo w0 w' [] ∧ OwnE w' w0.heap.size 26 v (renL (numsL (s ++ t)) (upL (numsL (s ++ t)).length) s) ∧ OwnE w' w0.heap.size 26 u (renL (numsL (s ++ t)) (upL (numsL (s ++ t)).length) t) := by
 have hs9 := hsm.1; rw [List.length_append] at hs9
 refine calls_enter (n := 24) (args := [.slice aos s.length caps, .slice aot t.length capt]) Try.func36 rfl Try.ntmps36 rfl ?_
 have hV : Evo w0 w0 [] := Evo.refl _ _
 have rs0 := keepE rs
 have hbd_rs := rs.bd
 have rt0 := keepE rt
 have hbd_rt := rt.bd
 refine r_seq ?_
 refine r_region ?_
 refine r_op rfl rfl rfl (run_asg (v := .slice _ _ _) rfl (by exact rfl)) ?_
 refine r_op rfl rfl rfl (run_asg (v := .slice _ _ _) rfl (by exact rfl)) ?_
 refine r_nil ?_
 refine r_seq ?_
 refine r_region ?_
 refine r_op rfl rfl rfl (run_mv (v := .slice _ _ _) rfl (by exact rfl)) ?_
 refine r_appendE rfl Try.underlying30 ty_26 (by exact rfl) (OwnE.nil (α := Vc.Item) _ w0.heap.size _) (by exact rfl) (by exact rfl) rs rfl ((by simp; omega)) ((by simp; omega)) (by omega) ?_
 intro v1 w2 hEw2 hov1 hlv1
 have hs_w2 := (hEw2).size
 replace hV := evo_step0 hV hEw2
 replace rs := rs0 _ hV
 replace rt := rt0 _ hV
 refine r_op rfl rfl rfl (run_mv (v := .slice _ _ _) rfl (by exact rfl)) ?_
 refine r_appendE rfl Try.underlying30 ty_26 (by exact rfl) hov1 (by exact rfl) (by exact rfl) rt rfl ((by simp; omega)) ((by simp; omega)) (by omega) ?_
 intro v3 w4 hEw4 hov3 hlv3
 have hs_w4 := (hEw4).size
 replace hV := evo_stepo hV hEw4 (fun g hg => .inl (by first | exact (hov1.block hg).1 | (have := hov1.block hg; omega)))
 replace rs := rs0 _ hV
 replace rt := rt0 _ hV
 obtain ⟨ao5, g5, cp5, hv5, hr5, hg5⟩ := hov3.rowOf
 subst hv5
 refine r_opcall rfl rfl rfl (run_callf (vs := [.slice _ _ _]) rfl (by exact rfl) Try.func55 rfl (by kernel_rfl)) (rnumbers_calls hr5 (by first | assumption | exact hsm)) ?_
 rintro e w6 ⟨vu6, rfl, hE6, hou6⟩
 refine ⟨_, rfl, ?_⟩
 have hs_w6 := (hE6).size
 replace hV := evo_step0 hV hE6
 replace rs := rs0 _ hV
 replace rt := rt0 _ hV
 replace hov3 := hov3.evo0 hE6
 replace hr5 := hr5.evo0 hE6
 refine r_op rfl rfl rfl (run_asg (v := vu6) rfl (by exact rfl)) ?_
 refine r_nil ?_
 refine r_seq ?_
 rw [List.nil_append] at hou6
 have hq1 := numsL_len (s ++ t); rw [List.length_append] at hq1; have hq2 := upL_len (numsL (s ++ t)).length; have hq3 := hss.1; have hq4 := hst.1; have hq5 := hsm.1; rw [List.length_append] at hq5
 refine r_region ?_
 refine r_op rfl rfl rfl (run_mv (v := vu6) rfl (by exact rfl)) ?_
 refine r_op rfl rfl rfl (run_lenOE rfl (by exact rfl) Try.underlying24 hou6) ?_
 refine r_opcall rfl rfl rfl (run_callf (vs := [.int _ _]) rfl (by exact rfl) Try.func74 rfl (by kernel_rfl)) (upto_calls (by omega)) ?_
 rintro e w7 ⟨vu7, rfl, hE7, hou7⟩
 refine ⟨_, rfl, ?_⟩
 have hs_w7 := (hE7).size
 replace hV := evo_step0 hV hE7
 replace rs := rs0 _ hV
 replace rt := rt0 _ hV
 replace hov3 := hov3.evo0 hE7
 replace hr5 := hr5.evo0 hE7
 replace hou6 := hou6.evo0 hE7
 refine r_op rfl rfl rfl (run_asg (v := vu7) rfl (by exact rfl)) ?_
 refine r_nil ?_
 refine r_seq ?_
 refine r_region ?_
 refine r_op rfl rfl rfl (run_mv (v := .slice _ _ _) rfl (by exact rfl)) ?_
 refine r_op rfl rfl rfl (run_mv (v := vu6) rfl (by exact rfl)) ?_
 refine r_op rfl rfl rfl (run_mv (v := vu7) rfl (by exact rfl)) ?_
 obtain ⟨ao8, g8, cp8, hv8, hr8, hg8⟩ := hou6.rowOf
 subst hv8
 obtain ⟨ao9, g9, cp9, hv9, hr9, hg9⟩ := hou7.rowOf
 subst hv9
 refine r_opcall rfl rfl rfl (run_callf (vs := [.slice _ _ _, .slice _ _ _, .slice _ _ _]) rfl (by exact rfl) Try.func38 rfl (by kernel_rfl)) (rrename_calls rs hr8 hr9 (by assumption) (by omega) (by omega)) ?_
 rintro e w10 ⟨vn10, rfl, hE10, hon10⟩
 refine ⟨_, rfl, ?_⟩
 have hs_w10 := (hE10).size
 replace hV := evo_step0 hV hE10
 replace rs := rs0 _ hV
 replace rt := rt0 _ hV
 replace hov3 := hov3.evo0 hE10
 replace hr5 := hr5.evo0 hE10
 replace hou6 := hou6.evo0 hE10
 replace hou7 := hou7.evo0 hE10
 replace hr8 := hr8.evo0 hE10
 replace hr9 := hr9.evo0 hE10
 refine r_op rfl rfl rfl (run_mv (v := .slice _ _ _) rfl (by exact rfl)) ?_
 refine r_op rfl rfl rfl (run_mv (v := .slice _ _ _) rfl (by exact rfl)) ?_
 refine r_op rfl rfl rfl (run_mv (v := .slice _ _ _) rfl (by exact rfl)) ?_
 refine r_opcall rfl rfl rfl (run_callf (vs := [.slice _ _ _, .slice _ _ _, .slice _ _ _]) rfl (by exact rfl) Try.func38 rfl (by kernel_rfl)) (rrename_calls rt hr8 hr9 (by assumption) (by omega) (by omega)) ?_
 rintro e w11 ⟨vn11, rfl, hE11, hon11⟩
 refine ⟨_, rfl, ?_⟩
 have hs_w11 := (hE11).size
 replace hV := evo_step0 hV hE11
 replace rs := rs0 _ hV
 replace rt := rt0 _ hV
 replace hov3 := hov3.evo0 hE11
 replace hr5 := hr5.evo0 hE11
 replace hou6 := hou6.evo0 hE11
 replace hou7 := hou7.evo0 hE11
 replace hr8 := hr8.evo0 hE11
 replace hr9 := hr9.evo0 hE11
 replace hon10 := hon10.evo0 hE11
 refine r_op rfl rfl rfl (run_asg (v := vn10) rfl (by exact rfl)) ?_
 refine r_op rfl rfl rfl (run_asg (v := vn11) rfl (by exact rfl)) ?_
 refine r_nil ?_
 refine r_ret (res2 (v := vn10) (u := vn11) rfl (by exact rfl) (by exact rfl)) ?_
 exact ⟨_, _, rfl, hV, by have h9 := hon10; exact h9.base_le (by omega), by have h9 := hon11; exact h9.base_le (by omega)⟩

theorem canonical_calls {aos aot : Option Addr} {bs_ offs caps bt_ offt capt : Nat} {s t : List Vc.Item} {w0 : World} (rs : RowE w0 aos bs_ offs caps s) (rt : RowE w0 aot bt_ offt capt t) (hss : Small s) (hst : Small t) (hsm : Small (s ++ t)) :
    Calls Try.prog 35 #[.slice aos s.length caps, .slice aot t.length capt] w0 fun e w' => ∃ v u, e = .returned (.tuple #[v, u]) ∧ Evo w0 w' [] ∧ OwnE w' w0.heap.size 26 v (renL (numsL (s ++ t)) (upL (numsL (s ++ t)).length) s) ∧ OwnE w' w0.heap.size 26 u (renL (numsL (s ++ t)) (upL (numsL (s ++ t)).length) t) := by
 refine calls_enter (n := 39) (args := [.slice aos s.length caps, .slice aot t.length capt]) Try.func35 rfl Try.ntmps35 rfl ?_
 have hV : Evo w0 w0 [] := Evo.refl _ _
 have rs0 := keepE rs
 have hbd_rs := rs.bd
 have rt0 := keepE rt
 have hbd_rt := rt.bd
 refine r_seq ?_
 refine r_region ?_
 refine r_op rfl rfl rfl (run_asg (v := .slice _ _ _) rfl (by exact rfl)) ?_
 refine r_op rfl rfl rfl (run_asg (v := .slice _ _ _) rfl (by exact rfl)) ?_
 refine r_nil ?_
 refine r_seq ?_
 have hq8 := numsL_len s; have hq9 := numsL_len t; have hq3 := hss.1; have hq4 := hst.1
 refine r_region ?_
 refine r_op rfl rfl rfl (run_mv (v := .slice _ _ _) rfl (by exact rfl)) ?_
 refine r_opcall rfl rfl rfl (run_callf (vs := [.slice _ _ _]) rfl (by exact rfl) Try.func40 rfl (by kernel_rfl)) (numbers_calls rs (by assumption)) ?_
 rintro e w1 ⟨vu1, rfl, hE1, hou1⟩
 refine ⟨_, rfl, ?_⟩
 have hs_w1 := (hE1).size
 replace hV := evo_step0 hV hE1
 replace rs := rs0 _ hV
 replace rt := rt0 _ hV
 refine r_op rfl rfl rfl (run_asg (v := vu1) rfl (by exact rfl)) ?_
 refine r_nil ?_
 refine r_seq ?_
 refine r_seq ?_
 have hobL := fun g hg => (hou1.block (g := g) hg).2
 refine r_region ?_
 refine r_op rfl rfl rfl (run_mv (v := .slice _ _ _) rfl (by exact rfl)) ?_
 refine r_opcall rfl rfl rfl (run_callf (vs := [.slice _ _ _]) rfl (by exact rfl) Try.func40 rfl (by kernel_rfl)) (numbers_calls rt (by assumption)) ?_
 rintro e w2 ⟨vu2, rfl, hE2, hou2⟩
 refine ⟨_, rfl, ?_⟩
 have hs_w2 := (hE2).size
 replace hV := evo_step0 hV hE2
 replace rs := rs0 _ hV
 replace rt := rt0 _ hV
 replace hou1 := hou1.evo0 hE2
 refine r_op rfl rfl rfl (run_lenOE rfl (by exact rfl) Try.underlying24 hou2) ?_
 refine r_op rfl rfl rfl (run_mv (v := .int _ _) rfl (by exact rfl)) ?_
 refine r_nil ?_
 refine r_block ?_
 obtain ⟨ao3, g3, cp3, hv3, hr3, hg3⟩ := hou2.rowOf
 subst hv3
 refine r_loop (α := Nat) [6, 8, 14, 15, 16, 17, 18, 19, 20, 21, 22, 23, 24, 25, 26] (fun k g w => ∃ vo : Value, g 14 = .int .i64 (k : Nat) ∧ g 6 = vo ∧ k ≤ (numsL t).length ∧ OwnE w w0.heap.size 3 vo (((numsL t).take k).foldl addL (numsL s)) ∧ RowE w ao3 g3 0 cp3 (numsL t) ∧ (numsL t ≠ [] → ∀ g, vo.ownBlock = some g → g ≠ g3) ∧ (numsL t ≠ [] → g3 < w.heap.size) ∧ w2.heap.size ≤ w.heap.size ∧ Evo w0 w []) (fun k => (numsL t).length - k) 0 ?_ ?_
 ·refine ⟨_, (by first | exact rfl | exact congrArg (Value.int _) (by omega) | exact congrArg (Value.int _) (by dsimp only; omega) | exact congrArg (Value.int _) (by simp) | exact congrArg S (by simp)), rfl, (by first | assumption | omega | (dsimp only; omega) | (simp; done)), (hou1.base_le (by omega)), hr3, (fun hne g hg h9 => by have h1 := (hg3 hne).2.1; have h2 := hobL g hg; omega), (fun hne => (hg3 hne).2.2), (by first | assumption | omega | (dsimp only; omega) | (simp; done)), hV⟩
 ·rintro k g w5 ⟨vo, hj6, hj7, hk_k, hoo, hrt, hneT, hgT, hzl4, hV⟩
  have hs_w5hV := hV.size
  replace rs := rs0 _ hV
  replace rt := rt0 _ hV
  refine r_know (i := 14) (v := .int .i64 (k : Nat)) (by exact hj6) ?_
  refine r_know (i := 6) (v := vo) (by exact hj7) ?_
  refine r_seq ?_
  refine r_region ?_
  refine r_op rfl rfl rfl (run_lss rfl (by exact rfl) (by exact rfl)) ?_
  refine r_nil ?_
  refine r_seq ?_
  refine r_cond (by exact rfl) (fun hc8 => ?_) (fun hc8 => ?_)
  ·skip
   refine r_skip ?_
   refine r_seq ?_
   refine r_block ?_
   refine r_seq ?_
   refine r_region ?_
   refine r_op rfl rfl rfl (run_ix (k) rfl Try.underlying24 ty_3 (by exact rfl) (by exact rfl) (by first | exact rfl | omega) (by omega) (hrt.addr (i := k) (by omega))) ?_
   have hA9 := hrt.atD (k) (by omega)
   refine r_op rfl rfl rfl (run_ld1 rfl ag_3 (by exact rfl) (hA9.cell 0 (by exact rfl))) ?_
   refine r_op rfl rfl rfl (run_asg (v := .int _ _) rfl (by exact rfl)) ?_
   refine r_nil ?_
   refine r_seq ?_
   have hq6 := fold_len (numsL s) ((numsL t).take k); have hq7 : ((numsL t).take k).length ≤ k := List.length_take_le _ _; have hq8 := numsL_len s; have hq9 := numsL_len t; have hq3 := hss.1; have hq4 := hst.1
   refine r_region ?_
   refine r_op rfl rfl rfl (run_mv (v := vo) rfl (by exact rfl)) ?_
   refine r_op rfl rfl rfl (run_mv (v := .int _ _) rfl (by exact rfl)) ?_
   obtain ⟨ao10, g10, cp10, hv10, hr10, hg10⟩ := hoo.rowOf
   subst hv10
   refine r_opcall rfl rfl rfl (run_callf (vs := [.slice _ _ _, .int _ _]) rfl (by exact rfl) Try.func72 rfl (by kernel_rfl)) (scontains_calls hr10) ?_
   rintro e w11 ⟨rfl, hE11⟩
   refine ⟨_, rfl, ?_⟩
   have hs_w11 := (hE11).size
   replace hV := evo_step0 hV hE11
   replace rs := rs0 _ hV
   replace rt := rt0 _ hV
   replace hoo := hoo.evo0 hE11
   replace hrt := hrt.evo0 hE11
   replace hr10 := hr10.evo0 hE11
   refine r_op rfl rfl rfl (run_not rfl (by exact rfl)) ?_
   refine r_nil ?_
   refine r_cond (by exact rfl) (fun hc12 => ?_) (fun hc12 => ?_)
   ·skip
    refine r_region ?_
    refine r_op rfl rfl rfl (run_mv (v := .slice _ _ _) rfl (by exact rfl)) ?_
    refine r_op rfl rfl rfl (run_mv (v := .int _ _) rfl (by exact rfl)) ?_
    refine r_append1E (u := .int _ _) (y := _) rfl rfl Try.underlying24 ty_3 (by exact rfl) hoo (fun _ => (by exact rfl)) (by exact rfl) (by first | exact rfl | (show _ = List.toArray [_]; first | (dsimp only; done) | exact rfl | (dsimp only; exact rfl))) ((by first | omega | (simp; omega))) ((by first | omega | (simp; omega))) (by omega) ?_
    intro q_v13 v13 w14 hEw14 hov13 hlv13
    have hs_w14 := (hEw14).size
    replace hV := evo_stepo hV hEw14 (fun g hg => .inl (by first | exact (hoo.block hg).1 | (have := hoo.block hg; omega)))
    replace rs := rs0 _ hV
    replace rt := rt0 _ hV
    replace hrt := row_keep hrt hEw14 (fun hne hm => hneT hne _ (Option.mem_toList.1 hm) rfl)
    refine r_op rfl rfl rfl (run_asg (v := v13) rfl (by exact rfl)) ?_
    refine r_nil ?_
    refine r_blk ?_
    refine r_region ?_
    refine r_op rfl rfl rfl (run_add rfl (by exact rfl) (by exact rfl) (by omega) (by omega)) ?_
    refine r_op rfl rfl rfl (run_mv (v := .int _ _) rfl (by exact rfl)) ?_
    refine r_nil ?_
    refine r_again (k + 1) ?_ ?_ ?_
    ·first | omega | (dsimp only; omega)
    ·refine ⟨_, (by first | exact rfl | exact congrArg (Value.int _) (by omega) | exact congrArg (Value.int _) (by dsimp only; omega) | exact congrArg (Value.int _) (by simp) | exact congrArg S (by simp)), rfl, (by first | assumption | omega | (dsimp only; omega) | (simp; done)), (by first | (rw [foldl_succ addL (numsL s) (numsL t) k (by omega), addL_new hc12]; exact hov13) | (rw [foldl_succ addL (numsL s) (numsL t) k (by omega), addL_old (Classical.not_not.1 hc12)]; exact hov13)), hrt, (by first | exact hneT | exact (fun hne g hg => hlv13.elim (fun h => hneT hne g (h.symm.trans hg)) (fun ⟨g2, h, h2⟩ => by have h7 := hgT hne; have h8 : g2 = g := Option.some.inj (h.symm.trans hg); omega))), (fun hne => by have h7 := hgT hne; omega), (by first | assumption | omega | (dsimp only; omega) | (simp; done)), hV⟩
    ·repeat (first | (with_reducible exact Agree.merge _ _ _) | (with_reducible exact Agree.refl _ _) | (with_reducible refine Agree.upd ?_ _ _ rfl) | ((with_reducible refine Agree.inner ?_ ?_); (kernel_rfl)))
   ·skip
    refine r_skip ?_
    refine r_blk ?_
    refine r_region ?_
    refine r_op rfl rfl rfl (run_add rfl (by exact rfl) (by exact rfl) (by omega) (by omega)) ?_
    refine r_op rfl rfl rfl (run_mv (v := .int _ _) rfl (by exact rfl)) ?_
    refine r_nil ?_
    refine r_again (k + 1) ?_ ?_ ?_
    ·first | omega | (dsimp only; omega)
    ·refine ⟨_, (by first | exact rfl | exact congrArg (Value.int _) (by omega) | exact congrArg (Value.int _) (by dsimp only; omega) | exact congrArg (Value.int _) (by simp) | exact congrArg S (by simp)), rfl, (by first | assumption | omega | (dsimp only; omega) | (simp; done)), (by first | (rw [foldl_succ addL (numsL s) (numsL t) k (by omega), addL_new hc12]; exact hoo) | (rw [foldl_succ addL (numsL s) (numsL t) k (by omega), addL_old (Classical.not_not.1 hc12)]; exact hoo)), hrt, (by first | exact hneT | exact (fun hne g hg => hl.slice _ _ _.elim (fun h => hneT hne g (h.symm.trans hg)) (fun ⟨g2, h, h2⟩ => by have h7 := hgT hne; have h8 : g2 = g := Option.some.inj (h.symm.trans hg); omega))), (fun hne => by have h7 := hgT hne; omega), (by first | assumption | omega | (dsimp only; omega) | (simp; done)), hV⟩
    ·repeat (first | (with_reducible exact Agree.merge _ _ _) | (with_reducible exact Agree.refl _ _) | (with_reducible refine Agree.upd ?_ _ _ rfl) | ((with_reducible refine Agree.inner ?_ ?_); (kernel_rfl)))
  ·skip
   refine r_exit rfl ?_
   refine r_seq ?_
   rw [List.take_of_length_le (by omega), nums_both] at hoo
   have hq1 := numsL_len (s ++ t); rw [List.length_append] at hq1; have hq2 := upL_len (numsL (s ++ t)).length; have hq3 := hss.1; have hq4 := hst.1; have hq5 := hsm.1; rw [List.length_append] at hq5
   refine r_region ?_
   refine r_op rfl rfl rfl (run_mv (v := .slice _ _ _) rfl (by exact rfl)) ?_
   refine r_op rfl rfl rfl (run_mv (v := vo) rfl (by exact rfl)) ?_
   refine r_op rfl rfl rfl (run_mv (v := vo) rfl (by exact rfl)) ?_
   refine r_op rfl rfl rfl (run_lenOE rfl (by exact rfl) Try.underlying24 hoo) ?_
   refine r_opcall rfl rfl rfl (run_callf (vs := [.int _ _]) rfl (by exact rfl) Try.func73 rfl (by kernel_rfl)) (counting_calls (by omega)) ?_
   rintro e w15 ⟨vr15, rfl, hE15, ao15, br15, cr15, rfl, hr15⟩
   refine ⟨_, rfl, ?_⟩
   have hs_w15 := (hE15).size
   replace hV := evo_step0 hV hE15
   replace rs := rs0 _ hV
   replace rt := rt0 _ hV
   replace hoo := hoo.evo0 hE15
   replace hrt := hrt.evo0 hE15
   obtain ⟨ao16, g16, cp16, hv16, hr16, hg16⟩ := hoo.rowOf
   subst hv16
   refine r_opcall rfl rfl rfl (run_callf (vs := [.slice _ _ _, .slice _ _ _, .slice _ _ _]) rfl (by exact rfl) Try.func37 rfl (by kernel_rfl)) (rename_calls rs hr16 hr15 (by assumption) (by omega) (by omega)) ?_
   rintro e w17 ⟨vn17, rfl, hE17, hon17⟩
   refine ⟨_, rfl, ?_⟩
   have hs_w17 := (hE17).size
   replace hV := evo_step0 hV hE17
   replace rs := rs0 _ hV
   replace rt := rt0 _ hV
   replace hoo := hoo.evo0 hE17
   replace hrt := hrt.evo0 hE17
   replace hr15 := hr15.evo0 hE17
   replace hr16 := hr16.evo0 hE17
   refine r_op rfl rfl rfl (run_mv (v := .slice _ _ _) rfl (by exact rfl)) ?_
   refine r_op rfl rfl rfl (run_mv (v := .slice _ _ _) rfl (by exact rfl)) ?_
   refine r_op rfl rfl rfl (run_mv (v := .slice _ _ _) rfl (by exact rfl)) ?_
   refine r_op rfl rfl rfl (run_lenSl rfl (by exact rfl) Try.underlying24) ?_
   refine r_opcall rfl rfl rfl (run_callf (vs := [.int _ _]) rfl (by exact rfl) Try.func73 rfl (by kernel_rfl)) (counting_calls (by omega)) ?_
   rintro e w18 ⟨vr18, rfl, hE18, ao18, br18, cr18, rfl, hr18⟩
   refine ⟨_, rfl, ?_⟩
   have hs_w18 := (hE18).size
   replace hV := evo_step0 hV hE18
   replace rs := rs0 _ hV
   replace rt := rt0 _ hV
   replace hoo := hoo.evo0 hE18
   replace hrt := hrt.evo0 hE18
   replace hr15 := hr15.evo0 hE18
   replace hr16 := hr16.evo0 hE18
   replace hon17 := hon17.evo0 hE18
   refine r_opcall rfl rfl rfl (run_callf (vs := [.slice _ _ _, .slice _ _ _, .slice _ _ _]) rfl (by exact rfl) Try.func37 rfl (by kernel_rfl)) (rename_calls rt hr16 hr18 (by assumption) (by omega) (by omega)) ?_
   rintro e w19 ⟨vn19, rfl, hE19, hon19⟩
   refine ⟨_, rfl, ?_⟩
   have hs_w19 := (hE19).size
   replace hV := evo_step0 hV hE19
   replace rs := rs0 _ hV
   replace rt := rt0 _ hV
   replace hoo := hoo.evo0 hE19
   replace hrt := hrt.evo0 hE19
   replace hr15 := hr15.evo0 hE19
   replace hr16 := hr16.evo0 hE19
   replace hon17 := hon17.evo0 hE19
   replace hr18 := hr18.evo0 hE19
   refine r_op rfl rfl rfl (run_asg (v := vn17) rfl (by exact rfl)) ?_
   refine r_op rfl rfl rfl (run_asg (v := vn19) rfl (by exact rfl)) ?_
   refine r_nil ?_
   refine r_ret (res2 (v := vn17) (u := vn19) rfl (by exact rfl) (by exact rfl)) ?_
   exact ⟨_, _, rfl, hV, by have h9 := hon17; exact h9.base_le (by omega), by have h9 := hon19; exact h9.base_le (by omega)⟩

theorem renames_law {aof : Option Addr} {bf offf capf : Nat} {f : List Vc.Item} {aog : Option Addr} {bg offg capg : Nat} {g : List Vc.Item} {aofr : Option Addr} {bfr offfr capfr : Nat} {fr : List Int} {aott : Option Addr} {btt offtt captt : Nat} {tt : List Int} {w0 : World} (rf : RowE w0 aof bf offf capf f) (htf : ∀ x ∈ f, x.text.length ≤ reachBytes) (rg : RowE w0 aog bg offg capg g) (htg : ∀ x ∈ g, x.text.length ≤ reachBytes) (rfr : RowE w0 aofr bfr offfr capfr fr) (rtt : RowE w0 aott btt offtt captt tt) :
    Calls Try.prog 10 #[.slice aof f.length capf, .slice aog g.length capg, .slice aofr fr.length capfr, .slice aott tt.length captt] w0 fun e w' => e = .returned (.bool true) ∧ Evo w0 w' [] := by
 refine calls_enter (n := 66) (args := [.slice aof f.length capf, .slice aog g.length capg, .slice aofr fr.length capfr, .slice aott tt.length captt]) Try.func10 rfl Try.ntmps10 rfl ?_
 have hV : Evo w0 w0 [] := Evo.refl _ _
 have rf0 := keepE rf
 have hbd_rf := rf.bd
 have rg0 := keepE rg
 have hbd_rg := rg.bd
 have rfr0 := keepE rfr
 have hbd_rfr := rfr.bd
 have rtt0 := keepE rtt
 have hbd_rtt := rtt.bd
 refine r_seq ?_
 refine r_region ?_
 refine r_op rfl rfl rfl (run_asg (v := .bool _) rfl (by exact rfl)) ?_
 refine r_nil ?_
 refine r_seq ?_
 refine r_seq ?_
 refine r_region ?_
 refine r_op rfl rfl rfl (run_mv (v := .slice _ _ _) rfl (by exact rfl)) ?_
 refine r_opcall rfl rfl rfl (run_callf (vs := [.slice _ _ _]) rfl (by exact rfl) Try.func22 rfl (by kernel_rfl)) (few_calls rf (texts_at htf)) ?_
 rintro e w1 ⟨lx1, rfl, hlx1, hE1⟩
 refine ⟨_, rfl, ?_⟩
 have hs_w1 := (hE1).size
 replace hV := evo_step0 hV hE1
 replace rf := rf0 _ hV
 replace rg := rg0 _ hV
 replace rfr := rfr0 _ hV
 replace rtt := rtt0 _ hV
 refine r_op rfl rfl rfl (run_notb rfl (by exact rfl)) ?_
 refine r_op rfl rfl rfl (run_mvb rfl (by exact rfl)) ?_
 refine r_g rfl (wantF (by exact rfl)) rfl (fun hg => run_mv (v := .slice _ _ _) rfl (by exact rfl)) ?_
 refine r_gcallB rfl (wantF (by exact rfl)) rfl (fun hg => run_callf rfl (argcons (v := .slice _ _ _) (glv (by exact rfl) (fun h => h) hg) (rfl)) Try.func22 rfl (by kernel_rfl)) (fun hg => (few_calls rg (texts_at htg))) ?_
 intro gx4 w2 hgx4 hE3
 have hs_w2 := (hE3).size
 replace hV := evo_step0 hV hE3
 replace rf := rf0 _ hV
 replace rg := rg0 _ hV
 replace rfr := rfr0 _ hV
 replace rtt := rtt0 _ hV
 refine r_g rfl (wantF (by exact rfl)) rfl (fun hg => run_not rfl (glv (by exact rfl) (fun h => h) hg)) ?_
 refine r_op rfl rfl rfl (run_pick_or rfl (by exact rfl) rfl (fun hq => glv (by exact rfl) (fun h => h) hq)) ?_
 refine r_op rfl rfl rfl (run_mv (v := .bool _) rfl (by exact rfl)) ?_
 refine r_g rfl (wantF (by exact rfl)) rfl (fun hg => run_mv (v := .slice _ _ _) rfl (by exact rfl)) ?_
 refine r_g rfl (wantF (by exact rfl)) rfl (fun hg => run_lenSl rfl (glv (by exact rfl) (fun h => h) hg) Try.underlying24) ?_
 refine r_g rfl (wantF (by exact rfl)) rfl (fun hg => run_gtr rfl (glv (by exact rfl) (fun h => h) hg) (by exact rfl)) ?_
 refine r_op rfl rfl rfl (run_pick_or rfl (by exact rfl) rfl (fun hq => glv (by exact rfl) (fun h => h) hq)) ?_
 refine r_op rfl rfl rfl (run_mv (v := .bool _) rfl (by exact rfl)) ?_
 refine r_g rfl (wantF (by exact rfl)) rfl (fun hg => run_mv (v := .slice _ _ _) rfl (by exact rfl)) ?_
 refine r_g rfl (wantF (by exact rfl)) rfl (fun hg => run_lenSl rfl (glv (by exact rfl) (fun h => h) hg) Try.underlying24) ?_
 refine r_g rfl (wantF (by exact rfl)) rfl (fun hg => run_gtr rfl (glv (by exact rfl) (fun h => h) hg) (by exact rfl)) ?_
 refine r_op rfl rfl rfl (run_pick_or rfl (by exact rfl) rfl (fun hq => glv (by exact rfl) (fun h => h) hq)) ?_
 refine r_nil ?_
 refine r_cond (by exact rfl) (fun hc5 => ?_) (fun hc5 => ?_)
 ·skip
  refine r_seq ?_
  refine r_region ?_
  refine r_opcall rfl rfl rfl (run_callf (vs := []) rfl (by exact rfl) Try.func21 rfl (by kernel_rfl)) known_calls ?_
  rintro e w6 ⟨rfl, hE6⟩
  refine ⟨_, rfl, ?_⟩
  have hs_w6 := (hE6).size
  replace hV := evo_step0 hV hE6
  replace rf := rf0 _ hV
  replace rg := rg0 _ hV
  replace rfr := rfr0 _ hV
  replace rtt := rtt0 _ hV
  refine r_op rfl rfl rfl (run_asg (v := .bool _) rfl (by exact rfl)) ?_
  refine r_nil ?_
  refine r_ret (res1 (v := .bool _) rfl (by exact rfl)) ?_
  exact ⟨rfl, hV⟩
 ·skip
  refine r_skip ?_
  refine r_seq ?_
  have b1 := hlx1 (by simp_all); have b2 := hgx4 (by simp_all) (by simp_all)
  have s1 : Small f := few_small b1; have s2 : Small g := few_small b2; have s4 : Small (f ++ g) := small_app (by omega) (by omega) (by omega) (by omega)
  refine r_region ?_
  refine r_op rfl rfl rfl (run_mv (v := .slice _ _ _) rfl (by exact rfl)) ?_
  refine r_op rfl rfl rfl (run_mv (v := .slice _ _ _) rfl (by exact rfl)) ?_
  refine r_opcall rfl rfl rfl (run_callf (vs := [.slice _ _ _, .slice _ _ _]) rfl (by exact rfl) Try.func35 rfl (by kernel_rfl)) (canonical_calls rf rg (by assumption) (by assumption) (by assumption)) ?_
  rintro e w7 ⟨vp7, vq7, rfl, hE7, hop7, hoq7⟩
  refine ⟨_, rfl, ?_⟩
  have hs_w7 := (hE7).size
  replace hV := evo_step0 hV hE7
  replace rf := rf0 _ hV
  replace rg := rg0 _ hV
  replace rfr := rfr0 _ hV
  replace rtt := rtt0 _ hV
  refine r_op rfl rfl rfl (run_mv (v := .tuple _) rfl (by exact rfl)) ?_
  refine r_op rfl rfl rfl (run_extract (v := vp7) rfl (by exact rfl) (by exact rfl)) ?_
  refine r_op rfl rfl rfl (run_extract (v := vq7) rfl (by exact rfl) (by exact rfl)) ?_
  refine r_op rfl rfl rfl (run_asg (v := vp7) rfl (by exact rfl)) ?_
  refine r_op rfl rfl rfl (run_asg (v := vq7) rfl (by exact rfl)) ?_
  refine r_nil ?_
  refine r_seq ?_
  refine r_region ?_
  refine r_op rfl rfl rfl (run_mv (v := .slice _ _ _) rfl (by exact rfl)) ?_
  refine r_op rfl rfl rfl (run_mv (v := .slice _ _ _) rfl (by exact rfl)) ?_
  refine r_opcall rfl rfl rfl (run_callf (vs := [.slice _ _ _, .slice _ _ _]) rfl (by exact rfl) Try.func36 rfl (by kernel_rfl)) (rcanonical_calls rf rg (by assumption) (by assumption) (by assumption)) ?_
  rintro e w8 ⟨vp8, vq8, rfl, hE8, hop8, hoq8⟩
  refine ⟨_, rfl, ?_⟩
  have hs_w8 := (hE8).size
  replace hV := evo_step0 hV hE8
  replace rf := rf0 _ hV
  replace rg := rg0 _ hV
  replace rfr := rfr0 _ hV
  replace rtt := rtt0 _ hV
  replace hop7 := hop7.evo0 hE8
  replace hoq7 := hoq7.evo0 hE8
  refine r_op rfl rfl rfl (run_mv (v := .tuple _) rfl (by exact rfl)) ?_
  refine r_op rfl rfl rfl (run_extract (v := vp8) rfl (by exact rfl) (by exact rfl)) ?_
  refine r_op rfl rfl rfl (run_extract (v := vq8) rfl (by exact rfl) (by exact rfl)) ?_
  refine r_op rfl rfl rfl (run_asg (v := vp8) rfl (by exact rfl)) ?_
  refine r_op rfl rfl rfl (run_asg (v := vq8) rfl (by exact rfl)) ?_
  refine r_nil ?_
  refine r_seq ?_
  refine r_region ?_
  refine r_op rfl rfl rfl (run_mv (v := .slice _ _ _) rfl (by exact rfl)) ?_
  refine r_op rfl rfl rfl (run_mv (v := .slice _ _ _) rfl (by exact rfl)) ?_
  refine r_op rfl rfl rfl (run_mv (v := .slice _ _ _) rfl (by exact rfl)) ?_
  refine r_opcall rfl rfl rfl (run_callf (vs := [.slice _ _ _, .slice _ _ _, .slice _ _ _]) rfl (by exact rfl) Try.func37 rfl (by kernel_rfl)) (rename_calls rf rfr rtt (by assumption) (by omega) (by omega)) ?_
  rintro e w9 ⟨vn9, rfl, hE9, hon9⟩
  refine ⟨_, rfl, ?_⟩
  have hs_w9 := (hE9).size
  replace hV := evo_step0 hV hE9
  replace rf := rf0 _ hV
  replace rg := rg0 _ hV
  replace rfr := rfr0 _ hV
  replace rtt := rtt0 _ hV
  replace hop7 := hop7.evo0 hE9
  replace hoq7 := hoq7.evo0 hE9
  replace hop8 := hop8.evo0 hE9
  replace hoq8 := hoq8.evo0 hE9
  refine r_op rfl rfl rfl (run_mv (v := .slice _ _ _) rfl (by exact rfl)) ?_
  refine r_op rfl rfl rfl (run_mv (v := .slice _ _ _) rfl (by exact rfl)) ?_
  refine r_op rfl rfl rfl (run_mv (v := .slice _ _ _) rfl (by exact rfl)) ?_
  refine r_opcall rfl rfl rfl (run_callf (vs := [.slice _ _ _, .slice _ _ _, .slice _ _ _]) rfl (by exact rfl) Try.func38 rfl (by kernel_rfl)) (rrename_calls rf rfr rtt (by assumption) (by omega) (by omega)) ?_
  rintro e w10 ⟨vn10, rfl, hE10, hon10⟩
  refine ⟨_, rfl, ?_⟩
  have hs_w10 := (hE10).size
  replace hV := evo_step0 hV hE10
  replace rf := rf0 _ hV
  replace rg := rg0 _ hV
  replace rfr := rfr0 _ hV
  replace rtt := rtt0 _ hV
  replace hop7 := hop7.evo0 hE10
  replace hoq7 := hoq7.evo0 hE10
  replace hop8 := hop8.evo0 hE10
  replace hoq8 := hoq8.evo0 hE10
  replace hon9 := hon9.evo0 hE10
  obtain ⟨ao11, g11, cp11, hv11, hr11, hg11⟩ := hon9.rowOf
  subst hv11
  obtain ⟨ao12, g12, cp12, hv12, hr12, hg12⟩ := hon10.rowOf
  subst hv12
  refine r_opcall rfl rfl rfl (run_callf (vs := [.slice _ _ _, .slice _ _ _]) rfl (by exact rfl) Try.func31 rfl (by kernel_rfl)) (same_calls hr11 hr12) ?_
  rintro e w13 ⟨rfl, hE13⟩
  refine ⟨_, rfl, ?_⟩
  have hs_w13 := (hE13).size
  replace hV := evo_step0 hV hE13
  replace rf := rf0 _ hV
  replace rg := rg0 _ hV
  replace rfr := rfr0 _ hV
  replace rtt := rtt0 _ hV
  replace hop7 := hop7.evo0 hE13
  replace hoq7 := hoq7.evo0 hE13
  replace hop8 := hop8.evo0 hE13
  replace hoq8 := hoq8.evo0 hE13
  replace hon9 := hon9.evo0 hE13
  replace hon10 := hon10.evo0 hE13
  replace hr11 := hr11.evo0 hE13
  replace hr12 := hr12.evo0 hE13
  refine r_op rfl rfl rfl (run_mv (v := .bool _) rfl (by exact rfl)) ?_
  refine r_gyes rfl (wantT (by exact rfl)) (by exact rfl) ?_
  refine r_op rfl rfl rfl (run_mv (v := vp7) rfl (by exact rfl)) ?_
  refine r_gyes rfl (wantT (by exact rfl)) (by exact rfl) ?_
  refine r_op rfl rfl rfl (run_mv (v := vp8) rfl (by exact rfl)) ?_
  refine r_gyes rfl (wantT (by exact rfl)) (by exact rfl) ?_
  obtain ⟨ao14, g14, cp14, hv14, hr14, hg14⟩ := hop7.rowOf
  subst hv14
  obtain ⟨ao15, g15, cp15, hv15, hr15, hg15⟩ := hop8.rowOf
  subst hv15
  refine r_opcall rfl rfl rfl (run_callf (vs := [.slice _ _ _, .slice _ _ _]) rfl (by exact rfl) Try.func31 rfl (by kernel_rfl)) (same_calls hr14 hr15) ?_
  rintro e w16 ⟨rfl, hE16⟩
  refine ⟨_, rfl, ?_⟩
  have hs_w16 := (hE16).size
  replace hV := evo_step0 hV hE16
  replace rf := rf0 _ hV
  replace rg := rg0 _ hV
  replace rfr := rfr0 _ hV
  replace rtt := rtt0 _ hV
  replace hop7 := hop7.evo0 hE16
  replace hoq7 := hoq7.evo0 hE16
  replace hop8 := hop8.evo0 hE16
  replace hoq8 := hoq8.evo0 hE16
  replace hon9 := hon9.evo0 hE16
  replace hon10 := hon10.evo0 hE16
  replace hr11 := hr11.evo0 hE16
  replace hr12 := hr12.evo0 hE16
  replace hr14 := hr14.evo0 hE16
  replace hr15 := hr15.evo0 hE16
  refine r_op rfl rfl rfl (run_pick_and rfl (by exact rfl) (fun _ => (by exact rfl)) rfl) ?_
  refine r_op rfl rfl rfl (run_mv (v := .bool _) rfl (by exact rfl)) ?_
  refine r_gyes rfl (wantT (by exact rfl)) (by exact ⟨rfl, rfl⟩) ?_
  refine r_op rfl rfl rfl (run_mv (v := vq7) rfl (by exact rfl)) ?_
  refine r_gyes rfl (wantT (by exact rfl)) (by exact ⟨rfl, rfl⟩) ?_
  refine r_op rfl rfl rfl (run_mv (v := vq8) rfl (by exact rfl)) ?_
  refine r_gyes rfl (wantT (by exact rfl)) (by exact ⟨rfl, rfl⟩) ?_
  obtain ⟨ao17, g17, cp17, hv17, hr17, hg17⟩ := hoq7.rowOf
  subst hv17
  obtain ⟨ao18, g18, cp18, hv18, hr18, hg18⟩ := hoq8.rowOf
  subst hv18
  refine r_opcall rfl rfl rfl (run_callf (vs := [.slice _ _ _, .slice _ _ _]) rfl (by exact rfl) Try.func31 rfl (by kernel_rfl)) (same_calls hr17 hr18) ?_
  rintro e w19 ⟨rfl, hE19⟩
  refine ⟨_, rfl, ?_⟩
  have hs_w19 := (hE19).size
  replace hV := evo_step0 hV hE19
  replace rf := rf0 _ hV
  replace rg := rg0 _ hV
  replace rfr := rfr0 _ hV
  replace rtt := rtt0 _ hV
  replace hop7 := hop7.evo0 hE19
  replace hoq7 := hoq7.evo0 hE19
  replace hop8 := hop8.evo0 hE19
  replace hoq8 := hoq8.evo0 hE19
  replace hon9 := hon9.evo0 hE19
  replace hon10 := hon10.evo0 hE19
  replace hr11 := hr11.evo0 hE19
  replace hr12 := hr12.evo0 hE19
  replace hr14 := hr14.evo0 hE19
  replace hr15 := hr15.evo0 hE19
  replace hr17 := hr17.evo0 hE19
  replace hr18 := hr18.evo0 hE19
  refine r_op rfl rfl rfl (run_pick_and rfl (by exact rfl) (fun _ => (by exact rfl)) rfl) ?_
  refine r_op rfl rfl rfl (run_mv (v := .bool _) rfl (by exact rfl)) ?_
  refine r_gyes rfl (wantT (by exact rfl)) (by exact ⟨⟨rfl, rfl⟩, rfl⟩) ?_
  refine r_opcall rfl rfl rfl (run_callf (vs := []) rfl (by exact rfl) Try.func21 rfl (by kernel_rfl)) known_calls ?_
  rintro e w20 ⟨rfl, hE20⟩
  refine ⟨_, rfl, ?_⟩
  have hs_w20 := (hE20).size
  replace hV := evo_step0 hV hE20
  replace rf := rf0 _ hV
  replace rg := rg0 _ hV
  replace rfr := rfr0 _ hV
  replace rtt := rtt0 _ hV
  replace hop7 := hop7.evo0 hE20
  replace hoq7 := hoq7.evo0 hE20
  replace hop8 := hop8.evo0 hE20
  replace hoq8 := hoq8.evo0 hE20
  replace hon9 := hon9.evo0 hE20
  replace hon10 := hon10.evo0 hE20
  replace hr11 := hr11.evo0 hE20
  replace hr12 := hr12.evo0 hE20
  replace hr14 := hr14.evo0 hE20
  replace hr15 := hr15.evo0 hE20
  replace hr17 := hr17.evo0 hE20
  replace hr18 := hr18.evo0 hE20
  refine r_op rfl rfl rfl (run_pick_and rfl (by exact rfl) (fun _ => (by exact rfl)) rfl) ?_
  refine r_op rfl rfl rfl (run_asg (v := .bool _) rfl (by exact rfl)) ?_
  refine r_nil ?_
  refine r_ret (res1 (v := .bool _) rfl (by exact rfl)) ?_
  exact ⟨ret_bool (decide_eq_true ⟨⟨⟨rfl, rfl⟩, rfl⟩, trivial⟩), hV⟩

end Go.Proofs.Ytkdgoghmkmpfnaa
