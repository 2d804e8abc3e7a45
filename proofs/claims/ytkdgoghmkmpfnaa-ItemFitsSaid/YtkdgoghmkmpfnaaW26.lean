import Derived.Test.YtkdgoghmkmpfnaaW25
namespace Go.Proofs.Ytkdgoghmkmpfnaa
open Go.RowKit Go.Vc

set_option maxHeartbeats 1000000 in
theorem target_calls {T bs : Nat} {ao : Option Addr} {b off cap : Nat} {l : List Int} {N : Nat} {aos : Option Addr} {bso offs caps : Nat} {src : List Vc.Item} {w0 : World} (hb : Blk w0 bs T [.slice ao l.length cap, .int .i64 (N : Nat)]) (hl : ∀ w', Evo w0 w' [bs] → RowE w' ao b off cap l) (hN : N ≤ 100000) (hsr : ∀ w', Evo w0 w' [bs] → RowE w' aos bso offs caps src) (hsl : src.length ≤ 100) (hsz0 : sizeL src ≤ 10000) :
    Calls Try.prog 44 #[.pointer (some ⟨bs, 0, none⟩), .slice aos src.length caps] w0 fun e w' => ∃ v, ∃ f : List Vc.Item, ∃ N', e = .returned v ∧ (skel f = skel src ∧ f.length ≤ 2 * src.length ∧ sizeL f ≤ sizeL src + 26 * src.length) ∧ (N ≤ N' ∧ N' ≤ N + 10 * src.length) ∧ Evo w0 w' [bs] ∧ Blk w' bs T [.slice ao l.length cap, .int .i64 (N' : Nat)] ∧ OwnE w' w0.heap.size 26 v f := by
 have hAs := hb.at; have hbslt := hb.lt
 refine calls_enter (n := 46) (args := [.pointer (some ⟨bs, 0, none⟩), .slice aos src.length caps]) Try.func44 rfl Try.ntmps44 rfl ?_
 have hV : Evo w0 w0 [bs] := Evo.refl _ _
 have hl0 := hl
 replace hl := hl0 _ hV
 have hbd_hl := hl.bd
 have hsr0 := hsr
 replace hsr := hsr0 _ hV
 have hbd_hsr := hsr.bd
 refine r_seq ?_
 refine r_region ?_
 refine r_op rfl rfl rfl (run_asg (v := .slice _ _ _) rfl (by exact rfl)) ?_
 refine r_nil ?_
 refine r_seq ?_
 refine r_region ?_
 refine r_op rfl rfl rfl (run_asg (v := .slice _ _ _) rfl (by exact rfl)) ?_
 refine r_nil ?_
 refine r_seq ?_
 refine r_seq ?_
 refine r_region ?_
 refine r_op rfl rfl rfl (run_mv (v := .slice _ _ _) rfl (by exact rfl)) ?_
 refine r_op rfl rfl rfl (run_lenSl rfl (by exact rfl) Try.underlying30) ?_
 refine r_op rfl rfl rfl (run_mv (v := .int _ _) rfl (by exact rfl)) ?_
 refine r_nil ?_
 refine r_block ?_
 refine r_loop (α := Nat) [5, 6, 7, 10, 11, 12, 13, 14, 15, 16, 17, 18, 19, 20, 21, 22, 23, 24, 25, 26, 27, 28, 29, 30, 31, 32, 33, 34, 35, 36, 37, 38, 39, 40, 41, 42, 43, 44] (fun k g w => ∃ vf : Value, ∃ f : List Vc.Item, ∃ N1 : Nat, g 10 = .int .i64 (k : Nat) ∧ g 5 = vf ∧ k ≤ src.length ∧ OwnE w w0.heap.size 26 vf f ∧ Blk w bs T [.slice ao l.length cap, .int .i64 (N1 : Nat)] ∧ At w bs 0 [.slice ao l.length cap, .int .i64 (N1 : Nat)] ∧ skel f = skel (src.take k) ∧ (f.length ≤ 2 * k ∧ sizeL f ≤ sizeL (src.take k) + 26 * k ∧ N ≤ N1 ∧ N1 ≤ N + 10 * k) ∧ w0.heap.size ≤ w.heap.size ∧ Evo w0 w [bs]) (fun k => src.length - k) 0 ?_ ?_
 ·refine ⟨_, [], _, (by first | exact rfl | exact congrArg (Value.int _) (by omega) | exact congrArg (Value.int _) (by dsimp only; omega) | exact congrArg (Value.int _) (by simp) | exact congrArg S (by simp)), rfl, (by first | assumption | omega | (dsimp only; omega) | (simp; done)), (OwnE.nil _ _ _), hb, hb.at, rfl, (by simp [sizeL]), (by first | assumption | omega | (dsimp only; omega) | (simp; done)), hV⟩
 ·rintro k g w2 ⟨vf, f, N1, hj3, hj4, hk_k, hof, hb, hAs, hsk, hsz, hzl1, hV⟩
  have hs_w2hV := hV.size
  have hlt5 := hb.lt
  replace hl := hl0 _ hV
  replace hsr := hsr0 _ hV
  refine r_know (i := 10) (v := .int .i64 (k : Nat)) (by exact hj3) ?_
  refine r_know (i := 5) (v := vf) (by exact hj4) ?_
  refine r_seq ?_
  refine r_region ?_
  refine r_op rfl rfl rfl (run_lss rfl (by exact rfl) (by exact rfl)) ?_
  refine r_nil ?_
  refine r_seq ?_
  refine r_cond (by exact rfl) (fun hc6 => ?_) (fun hc6 => ?_)
  ·skip
   refine r_skip ?_
   refine r_seq ?_
   refine r_block ?_
   refine r_seq ?_
   refine r_region ?_
   refine r_op rfl rfl rfl (run_mv (v := .int _ _) rfl (by exact rfl)) ?_
   refine r_op rfl rfl rfl (run_asg (v := .int _ _) rfl (by exact rfl)) ?_
   refine r_nil ?_
   refine r_seq ?_
   have hobF := fun g hg => (hof.block (g := g) hg).2
   refine r_region ?_
   refine r_op rfl rfl rfl (run_mv (v := .slice _ _ _) rfl (by exact rfl)) ?_
   refine r_op rfl rfl rfl (run_mv (v := .int _ _) rfl (by exact rfl)) ?_
   refine r_op rfl rfl rfl (run_ix (k) rfl Try.underlying30 ty_26 (by exact rfl) (by exact rfl) (by first | exact rfl | omega) (by omega) (hsr.addr (i := k) (by omega))) ?_
   have hA70 := fun (w' : World) (h : Evo w0 w' [bs]) => (hsr0 w' h).atD (k) (by omega)
   have hA7 := hA70 _ hV
   refine r_op rfl rfl rfl (run_ldN rfl ag_26 ty_26 (by exact rfl) rfl hA7) ?_
   have hob8 := fun g hg => (hof.block (g := g) hg).2
   refine r_var (zs := [_, _, _]) (vs := [_, _, _]) ty_26 (by exact rfl) rfl (by exact rfl) (fun _ => rfl) (by exact rfl) rfl rfl (by exact rfl) ?_
   intro b9 w10 heb9 hEw10 hbb9 hzb9
   have hs_w10 := (hEw10).size
   replace hV := evo_step0 hV hEw10
   replace hl := hl0 _ hV
   replace hsr := hsr0 _ hV
   replace hof := hof.evo0 hEw10
   replace hb := hb.evo0 hEw10
   replace hAs := hAs.evo0 hEw10
   have hAb9 := hbb9.at
   refine r_nil ?_
   refine r_seq ?_
   refine r_seq ?_
   have hz1 := sizeL_at src k; have hz2 := sizeL_succ src k (by omega); have hz3 := sizeL_take src (k + 1)
   refine r_region ?_
   refine r_op rfl rfl rfl (run_fa rfl (by exact rfl) fo_26_0) ?_
   refine r_op rfl rfl rfl (run_ld1 rfl ag_3 (by exact rfl) (hAb9.cell 0 (by exact rfl))) ?_
   refine r_op rfl rfl rfl (run_eql rfl (by exact rfl) (by exact rfl)) ?_
   refine r_nil ?_
   refine r_cut [5, 20, 21, 22, 23, 24, 25, 26, 27, 28, 29, 30, 31, 32, 33, 34, 35, 36, 37, 38, 39] (fun g w => ∃ vf2 : Value, ∃ f2 : List Vc.Item, ∃ tx : Str, ∃ N2 : Nat, g 5 = vf2 ∧ OwnE w w0.heap.size 26 vf2 f2 ∧ Blk w b9 26 [.int .i64 (src.getD k default).kind, S tx, .int .i64 (src.getD k default).id] ∧ At w b9 0 [.int .i64 (src.getD k default).kind, S tx, .int .i64 (src.getD k default).id] ∧ Blk w bs T [.slice ao l.length cap, .int .i64 (N2 : Nat)] ∧ At w bs 0 [.slice ao l.length cap, .int .i64 (N2 : Nat)] ∧ skel f2 = skel f ∧ (¬ (src.getD k default).kind = 1 → tx = (src.getD k default).text) ∧ (f2.length ≤ f.length + 1 ∧ sizeL f2 + tx.length ≤ sizeL f + (src.getD k default).text.length + 18 ∧ N1 ≤ N2 ∧ N2 ≤ N1 + 10) ∧ w10.heap.size ≤ w.heap.size ∧ Evo w0 w [bs]) ?_ ?_
   ·skip
    refine r_cond (by exact rfl) (fun hc12 => ?_) (fun hc12 => ?_)
    ·skip
     refine r_cut [20, 21, 22, 23, 24, 25, 26, 27, 28, 29, 30] (fun g w => ∃ tx : Str, OwnE w w0.heap.size 26 vf f ∧ Blk w b9 26 [.int .i64 (src.getD k default).kind, S tx, .int .i64 (src.getD k default).id] ∧ At w b9 0 [.int .i64 (src.getD k default).kind, S tx, .int .i64 (src.getD k default).id] ∧ Blk w bs T [.slice ao l.length cap, .int .i64 ((N1 + 1) : Nat)] ∧ At w bs 0 [.slice ao l.length cap, .int .i64 ((N1 + 1) : Nat)] ∧ tx.length ≤ (src.getD k default).text.length + 8 ∧ w10.heap.size ≤ w.heap.size ∧ Evo w0 w [bs]) ?_ ?_
     ·skip
      have hb_q := hb
      have hAs_q := hAs
      have hbb9_q := hbb9
      have hAb9_q := hAb9
      have hV_q := hV
      refine h_region ([bs]) (by kernel_rfl) ?_
      intro w14 hE15 hC16
      have hs_w14 := (hE15).size
      replace hV := evo_step0 hV hE15
      replace hl := hl0 _ hV
      replace hsr := hsr0 _ hV
      replace hof := hof.evo0 hE15
      replace hb := hb.evo0 hE15
      replace hAs := hAs.evo0 hE15
      replace hbb9 := hbb9.evo0 hE15
      replace hAb9 := hAb9.evo0 hE15
      refine h_take (i := 0) (by exact rfl) rfl rfl rfl (by kernel_rfl) (fun w' hC => run_fa rfl (by exact rfl) fo_26_1) hC16 ?_
      refine h_take (i := 1) (by exact rfl) rfl rfl rfl (by kernel_rfl) (fun w' hC => run_ld1 rfl ag_9 (by exact rfl) ((hAb9_q.evo hC (by simp; omega)).cell 1 (by exact rfl))) hC16 ?_
      refine h_take (i := 2) (by exact rfl) rfl rfl rfl (by kernel_rfl) (fun w' hC => run_sadd rfl (by exact rfl) (by exact rfl) (by simp only [List.length_cons, List.length_nil]; omega)) hC16 ?_
      refine h_take (i := 3) (by exact rfl) rfl rfl rfl (by kernel_rfl) (fun w' hC => run_fa rfl (by exact rfl) fo_26_1) hC16 ?_
      refine h_take (i := 4) (by exact rfl) rfl rfl rfl (by kernel_rfl) (fun w' hC => run_ld1 rfl ag_9 (by exact rfl) ((hAb9_q.evo hC (by simp; omega)).cell 1 (by exact rfl))) hC16 ?_
      refine h_take (i := 6) (by exact rfl) rfl rfl rfl (by kernel_rfl) (fun w' hC => run_mv (v := .pointer _) rfl (by exact rfl)) hC16 ?_
      refine h_two (i := 5) (j := 7) (by kernel_rfl) ?_ ?_
      ·skip
       refine h_do (by exact rfl) ?_
       refine r_bslice (pv := [(0, S _), (1, S _), (2, S _), (3, S _), (4, S _)]) (zs := [_]) (cs := [_, _, _, _, _]) Try.underlying67 ty_9 (by exact rfl) rfl (by exact rfl) rfl (by exact rfl) ?_
       intro b17 w18 heb17 hEw18 hbb17 hzb17
       have hs_w18 := (hEw18).size
       replace hV := evo_step0 hV hEw18
       replace hC16 := evo_step0 hC16 hEw18
       replace hl := hl0 _ hV
       replace hsr := hsr0 _ hV
       replace hof := hof.evo0 hEw18
       replace hb := hb.evo0 hEw18
       replace hAs := hAs.evo0 hEw18
       replace hbb9 := hbb9.evo0 hEw18
       replace hAb9 := hAb9.evo0 hEw18
       have hAb17 := hbb17.at
       have hrb17 : RowE w18 (some ⟨b17, 0, none⟩) b17 0 5 (tgtW (src.getD k default).text) := rowLit (tgtW (src.getD k default).text) hbb17 rfl rfl
       refine h_next hC16 ?_
       refine h_one (i := 7) (by kernel_rfl) ?_
       refine h_do (by exact rfl) ?_
       refine r_opcall rfl rfl rfl (run_callf (vs := [.pointer _, .int _ _]) rfl (by exact rfl) Try.func69 rfl (by kernel_rfl)) (nx_calls hb hl (by omega) (by omega) (by omega)) ?_
       rintro e w19 ⟨nx19, rfl, hx19, hE19, hn19⟩
       refine ⟨_, rfl, ?_⟩
       have hs_w19 := (hE19).size
       replace hV := evo_step1 hV hE19 (.inr (by simp))
       replace hC16 := evo_step1 hC16 hE19 (by first | exact .inl (by omega) | exact .inr (by simp))
       replace hl := hl0 _ hV
       replace hsr := hsr0 _ hV
       replace hof := hof.evo hE19 (by intro g hg hm; simp at hm; subst hm; have h7 := hobF g hg; have h8 := hof.block hg; omega)
       replace hbb9 := hbb9.evo hE19 (by simp; omega)
       replace hAb9 := hAb9.evo hE19 (by simp; omega)
       replace hrb17 := hrb17.evo hE19 (by simp; omega)
       replace hb := hn19
       clear hn19
       have hAs := hb.at
       refine h_next hC16 ?_
       refine h_take (i := 8) (by exact rfl) rfl rfl rfl (by kernel_rfl) (fun w' hC => run_ix (nx19.toNat) rfl Try.underlying67 ty_9 (by exact rfl) (by exact rfl) (by omega) (by show _ < 5; omega) (hrb17.addr (i := nx19.toNat) (by show _ < 5; omega))) hC16 ?_
       have hA20 := hrb17.atD (nx19.toNat) (by show _ < 5; omega)
       refine h_one (i := 9) (by kernel_rfl) ?_
       refine h_do (by exact rfl) ?_
       refine r_op rfl rfl rfl (run_ld1 rfl ag_9 (by exact rfl) (hA20.cell 0 (by exact rfl))) ?_
       refine h_last (by kernel_rfl) ?_
       refine h_one (i := 10) (by kernel_rfl) ?_
       refine h_do (by exact rfl) ?_
       refine r_op rfl rfl rfl (run_fa rfl (by exact rfl) fo_26_1) ?_
       refine h_last (by kernel_rfl) ?_
       refine h_one (i := 11) (by kernel_rfl) ?_
       refine h_do (by exact rfl) ?_
       refine r_store (v := S _) (vs := [_]) (cs' := [_, _, _]) (by exact rfl) (by exact rfl) hbb9 ty_9 (by exact rfl) rfl (by exact rfl) rfl (by exact rfl) ?_
       intro w21 hEw21 hzw21 hb_new
       have hs_w21 := (hEw21).size
       replace hV := evo_step1 hV hEw21 (by first | exact .inl (by omega) | exact .inr (by simp))
       replace hl := hl0 _ hV
       replace hsr := hsr0 _ hV
       replace hof := hof.evo hEw21 (by intro g hg hm; simp at hm; subst hm; have h7 := hobF g hg; have h8 := hof.block hg; omega)
       replace hb := hb.evo hEw21 (by simp; omega)
       replace hbb9 := hb_new
       have hAb9 := hbb9.at
       clear hb_new
       refine h_last (by kernel_rfl) ?_
       refine h_done (by kernel_rfl) ?_
       refine r_cut_end ?_ ?_
       ·refine ⟨_, hof, hbb9, hbb9.at, hb, hb.at, (tgtW_bd _ _), (by first | assumption | omega | (dsimp only; omega) | (simp; done)), hV⟩
       ·repeat (first | (with_reducible exact Agree.merge _ _ _) | (with_reducible exact Agree.refl _ _) | (with_reducible refine Agree.upd ?_ _ _ rfl) | ((with_reducible refine Agree.inner ?_ ?_); (kernel_rfl)))
      ·skip
       refine h_do (by exact rfl) ?_
       refine r_opcall rfl rfl rfl (run_callf (vs := [.pointer _, .int _ _]) rfl (by exact rfl) Try.func69 rfl (by kernel_rfl)) (nx_calls hb hl (by omega) (by omega) (by omega)) ?_
       rintro e w22 ⟨nx22, rfl, hx22, hE22, hn22⟩
       refine ⟨_, rfl, ?_⟩
       have hs_w22 := (hE22).size
       replace hV := evo_step1 hV hE22 (.inr (by simp))
       replace hC16 := evo_step1 hC16 hE22 (by first | exact .inl (by omega) | exact .inr (by simp))
       replace hl := hl0 _ hV
       replace hsr := hsr0 _ hV
       replace hof := hof.evo hE22 (by intro g hg hm; simp at hm; subst hm; have h7 := hobF g hg; have h8 := hof.block hg; omega)
       replace hbb9 := hbb9.evo hE22 (by simp; omega)
       replace hAb9 := hAb9.evo hE22 (by simp; omega)
       replace hb := hn22
       clear hn22
       have hAs := hb.at
       refine h_next hC16 ?_
       refine h_one (i := 5) (by kernel_rfl) ?_
       refine h_do (by exact rfl) ?_
       refine r_bslice (pv := [(0, S _), (1, S _), (2, S _), (3, S _), (4, S _)]) (zs := [_]) (cs := [_, _, _, _, _]) Try.underlying67 ty_9 (by exact rfl) rfl (by exact rfl) rfl (by exact rfl) ?_
       intro b23 w24 heb23 hEw24 hbb23 hzb23
       have hs_w24 := (hEw24).size
       replace hV := evo_step0 hV hEw24
       replace hC16 := evo_step0 hC16 hEw24
       replace hl := hl0 _ hV
       replace hsr := hsr0 _ hV
       replace hof := hof.evo0 hEw24
       replace hbb9 := hbb9.evo0 hEw24
       replace hAb9 := hAb9.evo0 hEw24
       replace hb := hb.evo0 hEw24
       have hAb23 := hbb23.at
       have hrb23 : RowE w24 (some ⟨b23, 0, none⟩) b23 0 5 (tgtW (src.getD k default).text) := rowLit (tgtW (src.getD k default).text) hbb23 rfl rfl
       refine h_next hC16 ?_
       refine h_take (i := 8) (by exact rfl) rfl rfl rfl (by kernel_rfl) (fun w' hC => run_ix (nx22.toNat) rfl Try.underlying67 ty_9 (by exact rfl) (by exact rfl) (by omega) (by show _ < 5; omega) (hrb23.addr (i := nx22.toNat) (by show _ < 5; omega))) hC16 ?_
       have hA25 := hrb23.atD (nx22.toNat) (by show _ < 5; omega)
       refine h_one (i := 9) (by kernel_rfl) ?_
       refine h_do (by exact rfl) ?_
       refine r_op rfl rfl rfl (run_ld1 rfl ag_9 (by exact rfl) (hA25.cell 0 (by exact rfl))) ?_
       refine h_last (by kernel_rfl) ?_
       refine h_one (i := 10) (by kernel_rfl) ?_
       refine h_do (by exact rfl) ?_
       refine r_op rfl rfl rfl (run_fa rfl (by exact rfl) fo_26_1) ?_
       refine h_last (by kernel_rfl) ?_
       refine h_one (i := 11) (by kernel_rfl) ?_
       refine h_do (by exact rfl) ?_
       refine r_store (v := S _) (vs := [_]) (cs' := [_, _, _]) (by exact rfl) (by exact rfl) hbb9 ty_9 (by exact rfl) rfl (by exact rfl) rfl (by exact rfl) ?_
       intro w26 hEw26 hzw26 hb_new
       have hs_w26 := (hEw26).size
       replace hV := evo_step1 hV hEw26 (by first | exact .inl (by omega) | exact .inr (by simp))
       replace hl := hl0 _ hV
       replace hsr := hsr0 _ hV
       replace hof := hof.evo hEw26 (by intro g hg hm; simp at hm; subst hm; have h7 := hobF g hg; have h8 := hof.block hg; omega)
       replace hb := hb.evo hEw26 (by simp; omega)
       replace hbb9 := hb_new
       have hAb9 := hbb9.at
       clear hb_new
       refine h_last (by kernel_rfl) ?_
       refine h_done (by kernel_rfl) ?_
       refine r_cut_end ?_ ?_
       ·refine ⟨_, hof, hbb9, hbb9.at, hb, hb.at, (tgtW_bd _ _), (by first | assumption | omega | (dsimp only; omega) | (simp; done)), hV⟩
       ·repeat (first | (with_reducible exact Agree.merge _ _ _) | (with_reducible exact Agree.refl _ _) | (with_reducible refine Agree.upd ?_ _ _ rfl) | ((with_reducible refine Agree.inner ?_ ?_); (kernel_rfl)))
     ·rintro g w27 ⟨tx, hof, hbb9, hAb9, hb, hAs, htl, hzl13, hV⟩
      have hs_w27hV := hV.size
      have hlt28 := hbb9.lt
      have hlt29 := hb.lt
      replace hl := hl0 _ hV
      replace hsr := hsr0 _ hV
      replace hA7 := hA70 _ hV
      refine r_cut_end ?_ ?_
      ·refine ⟨_, _, _, _, rfl, (hof.base_le (by omega)), hbb9, hbb9.at, hb, hb.at, (by first | rfl | exact skel_add _ _), (by first | exact (fun h9 => absurd (by omega) h9) | exact (fun _ => rfl)), (by first | omega | exact ⟨(hnb9 _).1, Nat.le_trans (Nat.add_le_add_right (hnb9 _).2 _) (by omega), by omega, by omega⟩), (by first | assumption | omega | (dsimp only; omega) | (simp; done)), hV⟩
      ·repeat (first | (with_reducible exact Agree.merge _ _ _) | (with_reducible exact Agree.refl _ _) | (with_reducible refine Agree.upd ?_ _ _ rfl) | ((with_reducible refine Agree.inner ?_ ?_); (kernel_rfl)))
    ·skip
     refine r_seq ?_
     refine r_region ?_
     refine r_op rfl rfl rfl (run_mv (v := .pointer _) rfl (by exact rfl)) ?_
     refine r_opcall rfl rfl rfl (run_callf (vs := [.pointer _, .int _ _]) rfl (by exact rfl) Try.func69 rfl (by kernel_rfl)) (nx_calls hb hl (by omega) (by omega) (by omega)) ?_
     rintro e w30 ⟨nx30, rfl, hx30, hE30, hn30⟩
     refine ⟨_, rfl, ?_⟩
     have hs_w30 := (hE30).size
     replace hV := evo_step1 hV hE30 (.inr (by simp))
     replace hl := hl0 _ hV
     replace hsr := hsr0 _ hV
     replace hof := hof.evo hE30 (by intro g hg hm; simp at hm; subst hm; have h7 := hobF g hg; have h8 := hof.block hg; omega)
     replace hbb9 := hbb9.evo hE30 (by simp; omega)
     replace hAb9 := hAb9.evo hE30 (by simp; omega)
     replace hb := hn30
     clear hn30
     have hAs := hb.at
     refine r_op rfl rfl rfl (run_eql rfl (by exact rfl) (by exact rfl)) ?_
     refine r_nil ?_
     refine r_cond (by exact rfl) (fun hc31 => ?_) (fun hc31 => ?_)
     ·skip
      have hnb9 : ∀ t : Str, (normL (f ++ [⟨1, t, 0⟩])).length ≤ f.length + 1 ∧ sizeL (normL (f ++ [⟨1, t, 0⟩])) ≤ sizeL f + t.length := fun t => by have h1 := normL_len (f ++ [⟨1, t, 0⟩]); have h2 := normL_size (f ++ [⟨1, t, 0⟩]); rw [List.length_append] at h1; rw [sizeL_append, sizeL_one] at h2; exact ⟨h1, h2⟩
      have hsm9 : ∀ t : Str, t.length ≤ 18 → Small (f ++ [⟨1, t, 0⟩]) := fun t ht => ⟨by rw [List.length_append]; simp; omega, by rw [sizeL_append, sizeL_one]; simp; omega⟩
      refine r_region ?_
      refine r_op rfl rfl rfl (run_mv (v := vf) rfl (by exact rfl)) ?_
      refine r_op rfl rfl rfl (run_mv (v := .pointer _) rfl (by exact rfl)) ?_
      refine r_opcall rfl rfl rfl (run_callf (vs := [.pointer _, .int _ _]) rfl (by exact rfl) Try.func79 rfl (by kernel_rfl)) (line_calls hb (fun w9 h9 => hl0 _ (Evo.trans hV h9 (fun x hx _ => hx))) (by omega) (by omega) (by omega) (by omega)) ?_
      rintro e w32 ⟨tl32, Nl32, rfl, htl32, hNl32, hE32, hn32⟩
      refine ⟨_, rfl, ?_⟩
      have hs_w32 := (hE32).size
      replace hV := evo_step1 hV hE32 (.inr (by simp))
      replace hl := hl0 _ hV
      replace hsr := hsr0 _ hV
      replace hof := hof.evo hE32 (by intro g hg hm; simp at hm; subst hm; have h7 := hobF g hg; have h8 := hof.block hg; omega)
      replace hbb9 := hbb9.evo hE32 (by simp; omega)
      replace hAb9 := hAb9.evo hE32 (by simp; omega)
      replace hb := hn32
      clear hn32
      have hAs := hb.at
      refine r_op rfl rfl rfl (run_bld (pv := [(0, .int _ _), (1, S _)]) (zs := [_, _, _]) (cells := [_, _, _]) rfl ty_26 (by exact rfl) pl_26 (by exact rfl) (by exact rfl)) ?_
      refine r_bslice (pv := [(0, .agg _)]) (zs := [_, _, _]) (cs := [_, _, _]) Try.underlying30 ty_26 (by exact rfl) rfl (by exact rfl) rfl (by exact rfl) ?_
      intro b33 w34 heb33 hEw34 hbb33 hzb33
      have hs_w34 := (hEw34).size
      replace hV := evo_step0 hV hEw34
      replace hl := hl0 _ hV
      replace hsr := hsr0 _ hV
      replace hof := hof.evo0 hEw34
      replace hbb9 := hbb9.evo0 hEw34
      replace hAb9 := hAb9.evo0 hEw34
      replace hb := hb.evo0 hEw34
      have hAb33 := hbb33.at
      have hrb33 : RowE w34 (some ⟨b33, 0, none⟩) b33 0 1 ([⟨1, tl32, 0⟩] : List Vc.Item) := rowLit ([⟨1, tl32, 0⟩] : List Vc.Item) hbb33 rfl rfl
      obtain ⟨ao35, g35, cp35, hv35, hr35, hg35⟩ := hof.rowOf
      subst hv35
      refine r_opcall rfl rfl rfl (run_callf (vs := [.slice _ _ _, .slice (some ⟨b33, 0, none⟩) _ _]) rfl (by exact rfl) Try.func58 rfl (by kernel_rfl)) (rconcat_calls hr35 hrb33 (hsm9 _ (by omega))) ?_
      rintro e w36 ⟨vn36, rfl, hE36, hon36⟩
      refine ⟨_, rfl, ?_⟩
      have hs_w36 := (hE36).size
      replace hV := evo_step0 hV hE36
      replace hl := hl0 _ hV
      replace hsr := hsr0 _ hV
      replace hof := hof.evo0 hE36
      replace hbb9 := hbb9.evo0 hE36
      replace hAb9 := hAb9.evo0 hE36
      replace hb := hb.evo0 hE36
      replace hrb33 := hrb33.evo0 hE36
      replace hr35 := hr35.evo0 hE36
      refine r_op rfl rfl rfl (run_asg (v := vn36) rfl (by exact rfl)) ?_
      refine r_nil ?_
      refine r_cut_end ?_ ?_
      ·refine ⟨_, _, _, _, rfl, (hon36.base_le (by omega)), hbb9, hbb9.at, hb, hb.at, (by first | rfl | exact skel_add _ _), (by first | exact (fun h9 => absurd (by omega) h9) | exact (fun _ => rfl)), (by first | omega | exact ⟨(hnb9 _).1, Nat.le_trans (Nat.add_le_add_right (hnb9 _).2 _) (by omega), by omega, by omega⟩), (by first | assumption | omega | (dsimp only; omega) | (simp; done)), hV⟩
      ·repeat (first | (with_reducible exact Agree.merge _ _ _) | (with_reducible exact Agree.refl _ _) | (with_reducible refine Agree.upd ?_ _ _ rfl) | ((with_reducible refine Agree.inner ?_ ?_); (kernel_rfl)))
     ·skip
      refine r_skip ?_
      refine r_cut_end ?_ ?_
      ·refine ⟨_, _, _, _, rfl, (hof.base_le (by omega)), hbb9, hbb9.at, hb, hb.at, (by first | rfl | exact skel_add _ _), (by first | exact (fun h9 => absurd (by omega) h9) | exact (fun _ => rfl)), (by first | omega | exact ⟨(hnb9 _).1, Nat.le_trans (Nat.add_le_add_right (hnb9 _).2 _) (by omega), by omega, by omega⟩), (by first | assumption | omega | (dsimp only; omega) | (simp; done)), hV⟩
      ·repeat (first | (with_reducible exact Agree.merge _ _ _) | (with_reducible exact Agree.refl _ _) | (with_reducible refine Agree.upd ?_ _ _ rfl) | ((with_reducible refine Agree.inner ?_ ?_); (kernel_rfl)))
   ·rintro g w37 ⟨vf2, f2, tx, N2, hj38, hof, hbb9, hAb9, hb, hAs, hsk2, htx, hsz2, hzl11, hV⟩
    have hs_w37hV := hV.size
    have hlt39 := hbb9.lt
    have hlt40 := hb.lt
    replace hl := hl0 _ hV
    replace hsr := hsr0 _ hV
    replace hA7 := hA70 _ hV
    refine r_know (i := 5) (v := vf2) (by exact hj38) ?_
    have hsm10 : Small (f2 ++ [⟨(src.getD k default).kind, tx, (src.getD k default).id⟩]) := ⟨by rw [List.length_append]; simp; omega, by rw [sizeL_append, sizeL_one]; simp; omega⟩
    have hobF := fun g hg => (hof.block (g := g) hg).2
    refine r_region ?_
    refine r_op rfl rfl rfl (run_mv (v := vf2) rfl (by exact rfl)) ?_
    refine r_op rfl rfl rfl (run_ldN rfl ag_26 ty_26 (by exact rfl) rfl hAb9) ?_
    refine r_bslice (pv := [(0, .agg _)]) (zs := [_, _, _]) (cs := [_, _, _]) Try.underlying30 ty_26 (by exact rfl) rfl (by exact rfl) rfl (by exact rfl) ?_
    intro b41 w42 heb41 hEw42 hbb41 hzb41
    have hs_w42 := (hEw42).size
    replace hV := evo_step0 hV hEw42
    replace hl := hl0 _ hV
    replace hsr := hsr0 _ hV
    replace hof := hof.evo0 hEw42
    replace hb := hb.evo0 hEw42
    have hAb41 := hbb41.at
    have hrb41 : RowE w42 (some ⟨b41, 0, none⟩) b41 0 1 ([⟨(src.getD k default).kind, tx, (src.getD k default).id⟩] : List Vc.Item) := rowLit ([⟨(src.getD k default).kind, tx, (src.getD k default).id⟩] : List Vc.Item) hbb41 rfl rfl
    obtain ⟨ao43, g43, cp43, hv43, hr43, hg43⟩ := hof.rowOf
    subst hv43
    refine r_opcall rfl rfl rfl (run_callf (vs := [.slice _ _ _, .slice (some ⟨b41, 0, none⟩) _ _]) rfl (by exact rfl) Try.func58 rfl (by kernel_rfl)) (rconcat_calls hr43 hrb41 hsm10) ?_
    rintro e w44 ⟨vn44, rfl, hE44, hon44⟩
    refine ⟨_, rfl, ?_⟩
    have hs_w44 := (hE44).size
    replace hV := evo_step0 hV hE44
    replace hl := hl0 _ hV
    replace hsr := hsr0 _ hV
    replace hof := hof.evo0 hE44
    replace hb := hb.evo0 hE44
    replace hrb41 := hrb41.evo0 hE44
    replace hr43 := hr43.evo0 hE44
    refine r_op rfl rfl rfl (run_asg (v := vn44) rfl (by exact rfl)) ?_
    refine r_nil ?_
    refine r_blk ?_
    refine r_region ?_
    refine r_op rfl rfl rfl (run_add rfl (by exact rfl) (by exact rfl) (by omega) (by omega)) ?_
    refine r_op rfl rfl rfl (run_mv (v := .int _ _) rfl (by exact rfl)) ?_
    refine r_nil ?_
    refine r_again (k + 1) ?_ ?_ ?_
    ·first | omega | (dsimp only; omega)
    ·refine ⟨_, _, _, (by first | exact rfl | exact congrArg (Value.int _) (by omega) | exact congrArg (Value.int _) (by dsimp only; omega) | exact congrArg (Value.int _) (by simp) | exact congrArg S (by simp)), rfl, (by first | assumption | omega | (dsimp only; omega) | (simp; done)), (hon44.base_le (by omega)), hb, hb.at, (by rw [skel_succ src k (by omega), ← hsk]; exact skel_step hsk2 htx), (by have h1 := normL_len (f2 ++ [⟨(src.getD k default).kind, tx, (src.getD k default).id⟩]); have h2 := normL_size (f2 ++ [⟨(src.getD k default).kind, tx, (src.getD k default).id⟩]); have h3 := sizeL_succ src k (by omega); rw [List.length_append] at h1; rw [sizeL_append, sizeL_one] at h2; simp only [List.length_cons, List.length_nil] at h1 h2; omega), (by first | assumption | omega | (dsimp only; omega) | (simp; done)), hV⟩
    ·repeat (first | (with_reducible exact Agree.merge _ _ _) | (with_reducible exact Agree.refl _ _) | (with_reducible refine Agree.upd ?_ _ _ rfl) | ((with_reducible refine Agree.inner ?_ ?_); (kernel_rfl)))
  ·skip
   refine r_exit rfl ?_
   refine r_seq ?_
   refine r_region ?_
   refine r_op rfl rfl rfl (run_mv (v := vf) rfl (by exact rfl)) ?_
   refine r_op rfl rfl rfl (run_asg (v := vf) rfl (by exact rfl)) ?_
   refine r_nil ?_
   refine r_ret (res1 (v := vf) rfl (by exact rfl)) ?_
   exact ⟨_, _, N1, rfl, ⟨by rw [List.take_of_length_le (by omega)] at hsk; exact hsk, by omega, by rw [List.take_of_length_le (by omega)] at hsz; omega⟩, by omega, hV, hb, hof⟩

end Go.Proofs.Ytkdgoghmkmpfnaa
