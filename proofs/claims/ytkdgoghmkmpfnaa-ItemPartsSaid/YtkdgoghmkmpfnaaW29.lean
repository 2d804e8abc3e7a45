import Derived.Test.YtkdgoghmkmpfnaaW24
namespace Go.Proofs.Ytkdgoghmkmpfnaa
open Go.RowKit Go.Vc

theorem rplain_calls {ao : Option Addr} {b off cap : Nat} {f : List Vc.Item} {w0 : World} (hf : RowE w0 ao b off cap f) (hsm : Small f) :
    Calls Try.prog 49 #[.slice ao f.length cap] w0 fun e w' => e = .returned (S (plainL f)) ∧ Evo w0 w' [] := by
 have hs1 := hsm.1; have hs2 := hsm.2
 refine calls_enter (n := 33) (args := [.slice ao f.length cap]) Try.func49 rfl Try.ntmps49 rfl ?_
 have hV : Evo w0 w0 [] := Evo.refl _ _
 have hf0 := keepE hf
 have hbd_hf := hf.bd
 refine r_seq ?_
 refine r_region ?_
 refine r_op rfl rfl rfl (run_asg (v := S _) rfl (by exact rfl)) ?_
 refine r_nil ?_
 refine r_seq ?_
 refine r_region ?_
 refine r_op rfl rfl rfl (run_asg (v := S _) rfl (by exact rfl)) ?_
 refine r_nil ?_
 refine r_seq ?_
 refine r_seq ?_
 refine r_region ?_
 refine r_op rfl rfl rfl (run_mv (v := .slice _ _ _) rfl (by exact rfl)) ?_
 refine r_op rfl rfl rfl (run_lenSl rfl (by exact rfl) Try.underlying30) ?_
 refine r_op rfl rfl rfl (run_mv (v := .int _ _) rfl (by exact rfl)) ?_
 refine r_nil ?_
 refine r_block ?_
 refine r_loop (α := Nat) [3, 4, 7, 8, 9, 10, 11, 12, 13, 14, 15, 16, 17, 18, 19, 20, 21, 22, 23, 24, 25, 26, 27, 28, 29, 30, 31] (fun k g w => g 7 = .int .i64 (k : Nat) ∧ g 3 = S (plainL (f.take k)) ∧ k ≤ f.length ∧ w0.heap.size ≤ w.heap.size ∧ Evo w0 w []) (fun k => f.length - k) 0 ?_ ?_
 ·refine ⟨(by first | exact rfl | exact congrArg (Value.int _) (by omega) | exact congrArg (Value.int _) (by dsimp only; omega) | exact congrArg (Value.int _) (by simp) | exact congrArg S (by simp)), rfl, (by first | assumption | omega | (dsimp only; omega) | (simp; done)), (by first | assumption | omega | (dsimp only; omega) | (simp; done)), hV⟩
 ·rintro k g w2 ⟨hj3, hj4, hk_k, hzl1, hV⟩
  have hs_w2hV := hV.size
  replace hf := hf0 _ hV
  refine r_know (i := 7) (v := .int .i64 (k : Nat)) (by exact hj3) ?_
  refine r_know (i := 3) (v := S (plainL (f.take k))) (by exact hj4) ?_
  refine r_seq ?_
  refine r_region ?_
  refine r_op rfl rfl rfl (run_lss rfl (by exact rfl) (by exact rfl)) ?_
  refine r_nil ?_
  refine r_seq ?_
  refine r_cond (by exact rfl) (fun hc5 => ?_) (fun hc5 => ?_)
  ·skip
   refine r_skip ?_
   refine r_seq ?_
   refine r_block ?_
   refine r_seq ?_
   refine r_region ?_
   refine r_op rfl rfl rfl (run_mv (v := .int _ _) rfl (by exact rfl)) ?_
   refine r_op rfl rfl rfl (run_asg (v := .int _ _) rfl (by exact rfl)) ?_
   refine r_nil ?_
   refine r_seq ?_
   refine r_seq ?_
   have hp1 := plainL_len (f.take k); have hp2 := sizeL_take f k; have hp3 := sizeL_at f k; have hp5 : (f.take k).length ≤ k := List.length_take_le _ _
   refine r_region ?_
   refine r_op rfl rfl rfl (run_mv (v := .slice _ _ _) rfl (by exact rfl)) ?_
   refine r_op rfl rfl rfl (run_mv (v := .int _ _) rfl (by exact rfl)) ?_
   refine r_op rfl rfl rfl (run_ix (k) rfl Try.underlying30 ty_26 (by exact rfl) (by exact rfl) (by first | exact rfl | omega) (by omega) (hf.addr (i := k) (by omega))) ?_
   have hA60 := fun (w' : World) (h : Evo w0 w' []) => (hf0 w' h).atD (k) (by omega)
   have hA6 := hA60 _ hV
   refine r_op rfl rfl rfl (run_fa rfl (by exact rfl) fo_26_0) ?_
   refine r_op rfl rfl rfl (run_ld1 rfl ag_3 (by exact rfl) (hA6.cell 0 (by exact rfl))) ?_
   refine r_op rfl rfl rfl (run_eql rfl (by exact rfl) (by exact rfl)) ?_
   refine r_nil ?_
   refine r_cond (by exact rfl) (fun hc7 => ?_) (fun hc7 => ?_)
   ·skip
    refine r_region ?_
    refine r_op rfl rfl rfl (run_mv (v := S _) rfl (by exact rfl)) ?_
    refine r_op rfl rfl rfl (run_mv (v := .slice _ _ _) rfl (by exact rfl)) ?_
    refine r_op rfl rfl rfl (run_mv (v := .int _ _) rfl (by exact rfl)) ?_
    refine r_op rfl rfl rfl (run_ix (k) rfl Try.underlying30 ty_26 (by exact rfl) (by exact rfl) (by first | exact rfl | omega) (by omega) (hf.addr (i := k) (by omega))) ?_
    have hA80 := fun (w' : World) (h : Evo w0 w' []) => (hf0 w' h).atD (k) (by omega)
    have hA8 := hA80 _ hV
    refine r_op rfl rfl rfl (run_fa rfl (by exact rfl) fo_26_1) ?_
    refine r_op rfl rfl rfl (run_ld1 rfl ag_9 (by exact rfl) (hA8.cell 1 (by exact rfl))) ?_
    refine r_op rfl rfl rfl (run_sadd rfl (by exact rfl) (by exact rfl) (by omega)) ?_
    refine r_op rfl rfl rfl (run_asg (v := S _) rfl (by exact rfl)) ?_
    refine r_nil ?_
    refine r_seq ?_
    refine r_region ?_
    refine r_op rfl rfl rfl (run_mv (v := .slice _ _ _) rfl (by exact rfl)) ?_
    refine r_op rfl rfl rfl (run_mv (v := .int _ _) rfl (by exact rfl)) ?_
    refine r_op rfl rfl rfl (run_ix (k) rfl Try.underlying30 ty_26 (by exact rfl) (by exact rfl) (by first | exact rfl | omega) (by omega) (hf.addr (i := k) (by omega))) ?_
    have hA90 := fun (w' : World) (h : Evo w0 w' []) => (hf0 w' h).atD (k) (by omega)
    have hA9 := hA90 _ hV
    refine r_op rfl rfl rfl (run_fa rfl (by exact rfl) fo_26_0) ?_
    refine r_op rfl rfl rfl (run_ld1 rfl ag_3 (by exact rfl) (hA9.cell 0 (by exact rfl))) ?_
    refine r_op rfl rfl rfl (run_eql rfl (by exact rfl) (by exact rfl)) ?_
    refine r_nil ?_
    refine r_cond (by exact rfl) (fun hc10 => ?_) (fun hc10 => ?_)
    ·skip
     refine r_region ?_
     refine r_op rfl rfl rfl (run_mv (v := S _) rfl (by exact rfl)) ?_
     refine r_op rfl rfl rfl (run_sadd rfl (by exact rfl) (by exact rfl) (by simp only [List.length_append, List.length_cons, List.length_nil]; omega)) ?_
     refine r_op rfl rfl rfl (run_asg (v := S _) rfl (by exact rfl)) ?_
     refine r_nil ?_
     refine r_blk ?_
     refine r_region ?_
     refine r_op rfl rfl rfl (run_add rfl (by exact rfl) (by exact rfl) (by omega) (by omega)) ?_
     refine r_op rfl rfl rfl (run_mv (v := .int _ _) rfl (by exact rfl)) ?_
     refine r_nil ?_
     refine r_again (k + 1) ?_ ?_ ?_
     ·first | omega | (dsimp only; omega)
     ·refine ⟨(by first | exact rfl | exact congrArg (Value.int _) (by omega) | exact congrArg (Value.int _) (by dsimp only; omega) | exact congrArg (Value.int _) (by simp) | exact congrArg S (by simp)), (congrArg S (by first | (rw [plainL_succ f k (by omega), plainI_text (by assumption)]; done) | (rw [plainL_succ f k (by omega), plainI_slot (by assumption)]; done) | (rw [plainL_succ f k (by omega), plainI_other (by assumption) (by assumption), List.append_nil]; done) | (exfalso; omega))), (by first | assumption | omega | (dsimp only; omega) | (simp; done)), (by first | assumption | omega | (dsimp only; omega) | (simp; done)), hV⟩
     ·repeat (first | (with_reducible exact Agree.merge _ _ _) | (with_reducible exact Agree.refl _ _) | (with_reducible refine Agree.upd ?_ _ _ rfl) | ((with_reducible refine Agree.inner ?_ ?_); (kernel_rfl)))
    ·skip
     refine r_skip ?_
     refine r_blk ?_
     refine r_region ?_
     refine r_op rfl rfl rfl (run_add rfl (by exact rfl) (by exact rfl) (by omega) (by omega)) ?_
     refine r_op rfl rfl rfl (run_mv (v := .int _ _) rfl (by exact rfl)) ?_
     refine r_nil ?_
     refine r_again (k + 1) ?_ ?_ ?_
     ·first | omega | (dsimp only; omega)
     ·refine ⟨(by first | exact rfl | exact congrArg (Value.int _) (by omega) | exact congrArg (Value.int _) (by dsimp only; omega) | exact congrArg (Value.int _) (by simp) | exact congrArg S (by simp)), (congrArg S (by first | (rw [plainL_succ f k (by omega), plainI_text (by assumption)]; done) | (rw [plainL_succ f k (by omega), plainI_slot (by assumption)]; done) | (rw [plainL_succ f k (by omega), plainI_other (by assumption) (by assumption), List.append_nil]; done) | (exfalso; omega))), (by first | assumption | omega | (dsimp only; omega) | (simp; done)), (by first | assumption | omega | (dsimp only; omega) | (simp; done)), hV⟩
     ·repeat (first | (with_reducible exact Agree.merge _ _ _) | (with_reducible exact Agree.refl _ _) | (with_reducible refine Agree.upd ?_ _ _ rfl) | ((with_reducible refine Agree.inner ?_ ?_); (kernel_rfl)))
   ·skip
    refine r_skip ?_
    refine r_seq ?_
    refine r_region ?_
    refine r_op rfl rfl rfl (run_mv (v := .slice _ _ _) rfl (by exact rfl)) ?_
    refine r_op rfl rfl rfl (run_mv (v := .int _ _) rfl (by exact rfl)) ?_
    refine r_op rfl rfl rfl (run_ix (k) rfl Try.underlying30 ty_26 (by exact rfl) (by exact rfl) (by first | exact rfl | omega) (by omega) (hf.addr (i := k) (by omega))) ?_
    have hA110 := fun (w' : World) (h : Evo w0 w' []) => (hf0 w' h).atD (k) (by omega)
    have hA11 := hA110 _ hV
    refine r_op rfl rfl rfl (run_fa rfl (by exact rfl) fo_26_0) ?_
    refine r_op rfl rfl rfl (run_ld1 rfl ag_3 (by exact rfl) (hA11.cell 0 (by exact rfl))) ?_
    refine r_op rfl rfl rfl (run_eql rfl (by exact rfl) (by exact rfl)) ?_
    refine r_nil ?_
    refine r_cond (by exact rfl) (fun hc12 => ?_) (fun hc12 => ?_)
    ·skip
     refine r_region ?_
     refine r_op rfl rfl rfl (run_mv (v := S _) rfl (by exact rfl)) ?_
     refine r_op rfl rfl rfl (run_sadd rfl (by exact rfl) (by exact rfl) (by simp only [List.length_append, List.length_cons, List.length_nil]; omega)) ?_
     refine r_op rfl rfl rfl (run_asg (v := S _) rfl (by exact rfl)) ?_
     refine r_nil ?_
     refine r_blk ?_
     refine r_region ?_
     refine r_op rfl rfl rfl (run_add rfl (by exact rfl) (by exact rfl) (by omega) (by omega)) ?_
     refine r_op rfl rfl rfl (run_mv (v := .int _ _) rfl (by exact rfl)) ?_
     refine r_nil ?_
     refine r_again (k + 1) ?_ ?_ ?_
     ·first | omega | (dsimp only; omega)
     ·refine ⟨(by first | exact rfl | exact congrArg (Value.int _) (by omega) | exact congrArg (Value.int _) (by dsimp only; omega) | exact congrArg (Value.int _) (by simp) | exact congrArg S (by simp)), (congrArg S (by first | (rw [plainL_succ f k (by omega), plainI_text (by assumption)]; done) | (rw [plainL_succ f k (by omega), plainI_slot (by assumption)]; done) | (rw [plainL_succ f k (by omega), plainI_other (by assumption) (by assumption), List.append_nil]; done) | (exfalso; omega))), (by first | assumption | omega | (dsimp only; omega) | (simp; done)), (by first | assumption | omega | (dsimp only; omega) | (simp; done)), hV⟩
     ·repeat (first | (with_reducible exact Agree.merge _ _ _) | (with_reducible exact Agree.refl _ _) | (with_reducible refine Agree.upd ?_ _ _ rfl) | ((with_reducible refine Agree.inner ?_ ?_); (kernel_rfl)))
    ·skip
     refine r_skip ?_
     refine r_blk ?_
     refine r_region ?_
     refine r_op rfl rfl rfl (run_add rfl (by exact rfl) (by exact rfl) (by omega) (by omega)) ?_
     refine r_op rfl rfl rfl (run_mv (v := .int _ _) rfl (by exact rfl)) ?_
     refine r_nil ?_
     refine r_again (k + 1) ?_ ?_ ?_
     ·first | omega | (dsimp only; omega)
     ·refine ⟨(by first | exact rfl | exact congrArg (Value.int _) (by omega) | exact congrArg (Value.int _) (by dsimp only; omega) | exact congrArg (Value.int _) (by simp) | exact congrArg S (by simp)), (congrArg S (by first | (rw [plainL_succ f k (by omega), plainI_text (by assumption)]; done) | (rw [plainL_succ f k (by omega), plainI_slot (by assumption)]; done) | (rw [plainL_succ f k (by omega), plainI_other (by assumption) (by assumption), List.append_nil]; done) | (exfalso; omega))), (by first | assumption | omega | (dsimp only; omega) | (simp; done)), (by first | assumption | omega | (dsimp only; omega) | (simp; done)), hV⟩
     ·repeat (first | (with_reducible exact Agree.merge _ _ _) | (with_reducible exact Agree.refl _ _) | (with_reducible refine Agree.upd ?_ _ _ rfl) | ((with_reducible refine Agree.inner ?_ ?_); (kernel_rfl)))
  ·skip
   refine r_exit rfl ?_
   refine r_seq ?_
   refine r_region ?_
   refine r_op rfl rfl rfl (run_mv (v := S _) rfl (by exact rfl)) ?_
   refine r_op rfl rfl rfl (run_asg (v := S _) rfl (by exact rfl)) ?_
   refine r_nil ?_
   refine r_ret (res1 (v := S _) rfl (by exact rfl)) ?_
   exact ⟨by rw [List.take_of_length_le (by omega)], hV⟩

theorem sleqt_calls {aoa aob : Option Addr} {ba offa capa bb offb capb : Nat} {a b : List Vc.Item} {w0 : World} (ha : RowE w0 aoa ba offa capa a) (hb : RowE w0 aob bb offb capb b) :
    Calls Try.prog 85 #[.slice aoa a.length capa, .slice aob b.length capb] w0 fun e w' => e = .returned (.bool (decide (a = b))) ∧ Evo w0 w' [] := by
 refine calls_enter (n := 26) (args := [.slice aoa a.length capa, .slice aob b.length capb]) Try.func85 rfl Try.ntmps85 rfl ?_
 have hV : Evo w0 w0 [] := Evo.refl _ _
 have ha0 := keepE ha
 have hbd_ha := ha.bd
 have hb0 := keepE hb
 have hbd_hb := hb.bd
 refine r_seq ?_
 refine r_region ?_
 refine r_op rfl rfl rfl (run_asg (v := .bool _) rfl (by exact rfl)) ?_
 refine r_nil ?_
 refine r_seq ?_
 refine r_seq ?_
 refine r_region ?_
 refine r_op rfl rfl rfl (run_mv (v := .slice _ _ _) rfl (by exact rfl)) ?_
 refine r_op rfl rfl rfl (run_lenSl rfl (by exact rfl) Try.underlying30) ?_
 refine r_op rfl rfl rfl (run_mv (v := .slice _ _ _) rfl (by exact rfl)) ?_
 refine r_op rfl rfl rfl (run_lenSl rfl (by exact rfl) Try.underlying30) ?_
 refine r_op rfl rfl rfl (run_neq rfl (by exact rfl) (by exact rfl)) ?_
 refine r_nil ?_
 refine r_cond (by exact rfl) (fun hc1 => ?_) (fun hc1 => ?_)
 ·skip
  refine r_seq ?_
  refine r_region ?_
  refine r_op rfl rfl rfl (run_asg (v := .bool _) rfl (by exact rfl)) ?_
  refine r_nil ?_
  refine r_ret (res1 (v := .bool _) rfl (by exact rfl)) ?_
  exact ⟨by rw [decide_eq_false (fun h => by subst h; omega)], hV⟩
 ·skip
  refine r_skip ?_
  refine r_seq ?_
  refine r_seq ?_
  refine r_region ?_
  refine r_op rfl rfl rfl (run_mv (v := .slice _ _ _) rfl (by exact rfl)) ?_
  refine r_op rfl rfl rfl (run_lenSl rfl (by exact rfl) Try.underlying30) ?_
  refine r_op rfl rfl rfl (run_mv (v := .int _ _) rfl (by exact rfl)) ?_
  refine r_nil ?_
  refine r_block ?_
  refine r_loop (α := Nat) [4, 5, 13, 14, 15, 16, 17, 18, 19, 20, 21, 22, 23, 24, 25] (fun k g w => g 13 = .int .i64 (k : Nat) ∧ k ≤ a.length ∧ a.take k = b.take k ∧ w0.heap.size ≤ w.heap.size ∧ Evo w0 w []) (fun k => a.length - k) 0 ?_ ?_
  ·refine ⟨(by first | exact rfl | exact congrArg (Value.int _) (by omega) | exact congrArg (Value.int _) (by dsimp only; omega) | exact congrArg (Value.int _) (by simp) | exact congrArg S (by simp)), (by first | assumption | omega | (dsimp only; omega) | (simp; done)), (by simp), (by first | assumption | omega | (dsimp only; omega) | (simp; done)), hV⟩
  ·rintro k g w3 ⟨hj4, hk_k, hpre, hzl2, hV⟩
   have hs_w3hV := hV.size
   replace ha := ha0 _ hV
   replace hb := hb0 _ hV
   refine r_know (i := 13) (v := .int .i64 (k : Nat)) (by exact hj4) ?_
   refine r_seq ?_
   refine r_region ?_
   refine r_op rfl rfl rfl (run_lss rfl (by exact rfl) (by exact rfl)) ?_
   refine r_nil ?_
   refine r_seq ?_
   refine r_cond (by exact rfl) (fun hc5 => ?_) (fun hc5 => ?_)
   ·skip
    refine r_skip ?_
    refine r_seq ?_
    refine r_block ?_
    refine r_seq ?_
    refine r_region ?_
    refine r_op rfl rfl rfl (run_mv (v := .int _ _) rfl (by exact rfl)) ?_
    refine r_op rfl rfl rfl (run_asg (v := .int _ _) rfl (by exact rfl)) ?_
    refine r_nil ?_
    refine r_seq ?_
    refine r_qregion (by kernel_rfl) (by kernel_rfl) ?_
    refine q_op rfl rfl rfl (fun w' hC => run_mv (v := .slice _ _ _) rfl (by exact rfl)) ?_
    refine q_op rfl rfl rfl (fun w' hC => run_mv (v := .int _ _) rfl (by exact rfl)) ?_
    refine q_op rfl rfl rfl (fun w' hC => run_ix (k) rfl Try.underlying30 ty_26 (by exact rfl) (by exact rfl) (by first | exact rfl | omega) (by omega) (ha.addr (i := k) (by omega))) ?_
    have hA60 := fun (w' : World) (h : Evo w0 w' []) => (ha0 w' h).atD (k) (by omega)
    have hA6 := hA60 _ hV
    refine q_op rfl rfl rfl (fun w' hC => run_ldN rfl ag_26 ty_26 (by exact rfl) rfl (hA6.evo0 hC)) ?_
    refine q_op rfl rfl rfl (fun w' hC => run_mv (v := .slice _ _ _) rfl (by exact rfl)) ?_
    refine q_op rfl rfl rfl (fun w' hC => run_mv (v := .int _ _) rfl (by exact rfl)) ?_
    refine q_op rfl rfl rfl (fun w' hC => run_ix (k) rfl Try.underlying30 ty_26 (by exact rfl) (by exact rfl) (by first | exact rfl | omega) (by omega) (hb.addr (i := k) (by omega))) ?_
    have hA70 := fun (w' : World) (h : Evo w0 w' []) => (hb0 w' h).atD (k) (by omega)
    have hA7 := hA70 _ hV
    refine q_op rfl rfl rfl (fun w' hC => run_ldN rfl ag_26 ty_26 (by exact rfl) rfl (hA7.evo0 hC)) ?_
    refine q_op rfl rfl rfl (fun w' hC => run_neqI _ _ rfl Try.eqGuardType26 ei_26 (by exact rfl) (by exact rfl)) ?_
    refine q_nil (fun w8 hE9 => ?_)
    have hs_w8 := (hE9).size
    replace hV := evo_step0 hV hE9
    replace ha := ha0 _ hV
    replace hb := hb0 _ hV
    refine r_cond (by exact rfl) (fun hc10 => ?_) (fun hc10 => ?_)
    ·skip
     refine r_seq ?_
     refine r_region ?_
     refine r_op rfl rfl rfl (run_asg (v := .bool _) rfl (by exact rfl)) ?_
     refine r_nil ?_
     refine r_ret (res1 (v := .bool _) rfl (by exact rfl)) ?_
     exact ⟨by rw [decide_eq_false (fun h => by subst h; exact hc10 rfl)], hV⟩
    ·skip
     refine r_skip ?_
     refine r_blk ?_
     refine r_region ?_
     refine r_op rfl rfl rfl (run_add rfl (by exact rfl) (by exact rfl) (by omega) (by omega)) ?_
     refine r_op rfl rfl rfl (run_mv (v := .int _ _) rfl (by exact rfl)) ?_
     refine r_nil ?_
     refine r_again (k + 1) ?_ ?_ ?_
     ·first | omega | (dsimp only; omega)
     ·refine ⟨(by first | exact rfl | exact congrArg (Value.int _) (by omega) | exact congrArg (Value.int _) (by dsimp only; omega) | exact congrArg (Value.int _) (by simp) | exact congrArg S (by simp)), (by first | assumption | omega | (dsimp only; omega) | (simp; done)), (take_bothI hpre (by omega) (by omega) (Classical.not_not.1 hc10)), (by first | assumption | omega | (dsimp only; omega) | (simp; done)), hV⟩
     ·repeat (first | (with_reducible exact Agree.merge _ _ _) | (with_reducible exact Agree.refl _ _) | (with_reducible refine Agree.upd ?_ _ _ rfl) | ((with_reducible refine Agree.inner ?_ ?_); (kernel_rfl)))
   ·skip
    refine r_exit rfl ?_
    refine r_seq ?_
    refine r_region ?_
    refine r_op rfl rfl rfl (run_asg (v := .bool _) rfl (by exact rfl)) ?_
    refine r_nil ?_
    refine r_ret (res1 (v := .bool _) rfl (by exact rfl)) ?_
    exact ⟨by rw [decide_eq_true (by rw [List.take_of_length_le (by omega), List.take_of_length_le (by omega)] at hpre; exact hpre)], hV⟩

theorem isame_calls {aoa aob : Option Addr} {ba offa capa bb offb capb : Nat} {a b : List Vc.Item} {w0 : World} (ha : RowE w0 aoa ba offa capa a) (hb : RowE w0 aob bb offb capb b) :
    Calls Try.prog 57 #[.slice aoa a.length capa, .slice aob b.length capb] w0 fun e w' => e = .returned (.bool (decide (a = b))) ∧ Evo w0 w' [] := by
 refine calls_enter (n := 8) (args := [.slice aoa a.length capa, .slice aob b.length capb]) Try.func57 rfl Try.ntmps57 rfl ?_
 have hV : Evo w0 w0 [] := Evo.refl _ _
 have ha0 := keepE ha
 have hbd_ha := ha.bd
 have hb0 := keepE hb
 have hbd_hb := hb.bd
 refine r_seq ?_
 refine r_region ?_
 refine r_op rfl rfl rfl (run_asg (v := .bool _) rfl (by exact rfl)) ?_
 refine r_nil ?_
 refine r_seq ?_
 refine r_region ?_
 refine r_op rfl rfl rfl (run_mv (v := .slice _ _ _) rfl (by exact rfl)) ?_
 refine r_op rfl rfl rfl (run_mv (v := .slice _ _ _) rfl (by exact rfl)) ?_
 refine r_opcall rfl rfl rfl (run_callf (vs := [.slice _ _ _, .slice _ _ _]) rfl (by exact rfl) Try.func85 rfl (by kernel_rfl)) (sleqt_calls ha hb) ?_
 rintro e w1 ⟨rfl, hE1⟩
 refine ⟨_, rfl, ?_⟩
 have hs_w1 := (hE1).size
 replace hV := evo_step0 hV hE1
 replace ha := ha0 _ hV
 replace hb := hb0 _ hV
 refine r_op rfl rfl rfl (run_asg (v := .bool _) rfl (by exact rfl)) ?_
 refine r_nil ?_
 refine r_ret (res1 (v := .bool _) rfl (by exact rfl)) ?_
 exact ⟨rfl, hV⟩

theorem parts_law {aof : Option Addr} {bf offf capf : Nat} {f : List Vc.Item} {aou : Option Addr} {bu offu capu : Nat} {u : List Vc.Item} {w0 : World} (rf : RowE w0 aof bf offf capf f) (htf : ∀ x ∈ f, x.text.length ≤ reachBytes) (ru : RowE w0 aou bu offu capu u) (htu : ∀ x ∈ u, x.text.length ≤ reachBytes) :
    Calls Try.prog 15 #[.slice aof f.length capf, .slice aou u.length capu] w0 fun e w' => e = .returned (.bool true) ∧ Evo w0 w' [] := by
 refine calls_enter (n := 87) (args := [.slice aof f.length capf, .slice aou u.length capu]) Try.func15 rfl Try.ntmps15 rfl ?_
 have hV : Evo w0 w0 [] := Evo.refl _ _
 have rf0 := keepE rf
 have hbd_rf := rf.bd
 have ru0 := keepE ru
 have hbd_ru := ru.bd
 refine r_seq ?_
 refine r_region ?_
 refine r_op rfl rfl rfl (run_asg (v := .bool _) rfl (by exact rfl)) ?_
 refine r_nil ?_
 refine r_seq ?_
 refine r_seq ?_
 refine r_region ?_
 refine r_op rfl rfl rfl (run_mv (v := .slice _ _ _) rfl (by exact rfl)) ?_
 refine r_opcall rfl rfl rfl (run_callf (vs := [.slice _ _ _]) rfl (by exact rfl) Try.func22 rfl (by kernel_rfl)) (few_calls rf (texts_at htf)) ?_
 rintro e w1 ⟨lx1, rfl, hlx1, hE1⟩
 refine ⟨_, rfl, ?_⟩
 have hs_w1 := (hE1).size
 replace hV := evo_step0 hV hE1
 replace rf := rf0 _ hV
 replace ru := ru0 _ hV
 refine r_op rfl rfl rfl (run_notb rfl (by exact rfl)) ?_
 refine r_op rfl rfl rfl (run_mvb rfl (by exact rfl)) ?_
 refine r_g rfl (wantF (by exact rfl)) rfl (fun hg => run_mv (v := .slice _ _ _) rfl (by exact rfl)) ?_
 refine r_gcallB rfl (wantF (by exact rfl)) rfl (fun hg => run_callf rfl (argcons (v := .slice _ _ _) (glv (by exact rfl) (fun h => h) hg) (rfl)) Try.func22 rfl (by kernel_rfl)) (fun hg => (few_calls ru (texts_at htu))) ?_
 intro gx4 w2 hgx4 hE3
 have hs_w2 := (hE3).size
 replace hV := evo_step0 hV hE3
 replace rf := rf0 _ hV
 replace ru := ru0 _ hV
 refine r_g rfl (wantF (by exact rfl)) rfl (fun hg => run_not rfl (glv (by exact rfl) (fun h => h) hg)) ?_
 refine r_op rfl rfl rfl (run_pick_or rfl (by exact rfl) rfl (fun hq => glv (by exact rfl) (fun h => h) hq)) ?_
 refine r_nil ?_
 refine r_cond (by exact rfl) (fun hc5 => ?_) (fun hc5 => ?_)
 ·skip
  refine r_seq ?_
  refine r_region ?_
  refine r_opcall rfl rfl rfl (run_callf (vs := []) rfl (by exact rfl) Try.func21 rfl (by kernel_rfl)) known_calls ?_
  rintro e w6 ⟨rfl, hE6⟩
  refine ⟨_, rfl, ?_⟩
  have hs_w6 := (hE6).size
  replace hV := evo_step0 hV hE6
  replace rf := rf0 _ hV
  replace ru := ru0 _ hV
  refine r_op rfl rfl rfl (run_asg (v := .bool _) rfl (by exact rfl)) ?_
  refine r_nil ?_
  refine r_ret (res1 (v := .bool _) rfl (by exact rfl)) ?_
  exact ⟨rfl, hV⟩
 ·skip
  refine r_skip ?_
  refine r_seq ?_
  refine r_seq ?_
  have b1 := hlx1 (by simp_all); have b2 := hgx4 (by simp_all) (by simp_all)
  have s1 : Small f := few_small b1; have s2 : Small u := few_small b2; have s4 : Small (f ++ u) := small_app (by omega) (by omega) (by omega) (by omega)
  refine r_region ?_
  refine r_op rfl rfl rfl (run_mv (v := .slice _ _ _) rfl (by exact rfl)) ?_
  refine r_opcall rfl rfl rfl (run_callf (vs := [.slice _ _ _]) rfl (by exact rfl) Try.func25 rfl (by kernel_rfl)) (length_calls rf (by first | assumption | exact kf_small | exact small_take (by assumption) _ | exact small_ren (by assumption) | exact small_norm (by assumption))) ?_
  rintro e w7 ⟨rfl, hE7⟩
  refine ⟨_, rfl, ?_⟩
  have hs_w7 := (hE7).size
  replace hV := evo_step0 hV hE7
  replace rf := rf0 _ hV
  replace ru := ru0 _ hV
  refine r_op rfl rfl rfl (run_mv (v := .slice _ _ _) rfl (by exact rfl)) ?_
  refine r_opcall rfl rfl rfl (run_callf (vs := [.slice _ _ _]) rfl (by exact rfl) Try.func47 rfl (by kernel_rfl)) (rlength_calls rf (by first | assumption | exact kf_small | exact small_take (by assumption) _ | exact small_ren (by assumption) | exact small_norm (by assumption))) ?_
  rintro e w8 ⟨rfl, hE8⟩
  refine ⟨_, rfl, ?_⟩
  have hs_w8 := (hE8).size
  replace hV := evo_step0 hV hE8
  replace rf := rf0 _ hV
  replace ru := ru0 _ hV
  refine r_op rfl rfl rfl (run_neq rfl (by exact rfl) (by exact rfl)) ?_
  refine r_op rfl rfl rfl (run_mv (v := .bool _) rfl (by exact rfl)) ?_
  refine r_gyes rfl (wantF (by exact rfl)) (by exact (by simp)) ?_
  refine r_op rfl rfl rfl (run_mv (v := .slice _ _ _) rfl (by exact rfl)) ?_
  refine r_gyes rfl (wantF (by exact rfl)) (by exact (by simp)) ?_
  refine r_opcall rfl rfl rfl (run_callf (vs := [.slice _ _ _]) rfl (by exact rfl) Try.func34 rfl (by kernel_rfl)) (normalize_calls rf (by first | assumption | exact kf_small | exact small_take (by assumption) _ | exact small_ren (by assumption) | exact small_norm (by assumption))) ?_
  rintro e w9 ⟨vn9, rfl, hE9, hon9⟩
  refine ⟨_, rfl, ?_⟩
  have hs_w9 := (hE9).size
  replace hV := evo_step0 hV hE9
  replace rf := rf0 _ hV
  replace ru := ru0 _ hV
  refine r_gyes rfl (wantF (by exact rfl)) (by exact (by simp)) ?_
  refine r_op rfl rfl rfl (run_mv (v := .slice _ _ _) rfl (by exact rfl)) ?_
  refine r_gyes rfl (wantF (by exact rfl)) (by exact (by simp)) ?_
  refine r_opcall rfl rfl rfl (run_callf (vs := [.slice _ _ _]) rfl (by exact rfl) Try.func48 rfl (by kernel_rfl)) (rnormalize_calls rf (by first | assumption | exact kf_small | exact small_take (by assumption) _ | exact small_ren (by assumption) | exact small_norm (by assumption))) ?_
  rintro e w10 ⟨vn10, rfl, hE10, hon10⟩
  refine ⟨_, rfl, ?_⟩
  have hs_w10 := (hE10).size
  replace hV := evo_step0 hV hE10
  replace rf := rf0 _ hV
  replace ru := ru0 _ hV
  replace hon9 := hon9.evo0 hE10
  refine r_gyes rfl (wantF (by exact rfl)) (by exact (by simp)) ?_
  obtain ⟨ao11, g11, cp11, hv11, hr11, hg11⟩ := hon9.rowOf
  subst hv11
  obtain ⟨ao12, g12, cp12, hv12, hr12, hg12⟩ := hon10.rowOf
  subst hv12
  refine r_opcall rfl rfl rfl (run_callf (vs := [.slice _ _ _, .slice _ _ _]) rfl (by exact rfl) Try.func31 rfl (by kernel_rfl)) (same_calls hr11 hr12) ?_
  rintro e w13 ⟨rfl, hE13⟩
  refine ⟨_, rfl, ?_⟩
  have hs_w13 := (hE13).size
  replace hV := evo_step0 hV hE13
  replace rf := rf0 _ hV
  replace ru := ru0 _ hV
  replace hon9 := hon9.evo0 hE13
  replace hon10 := hon10.evo0 hE13
  replace hr11 := hr11.evo0 hE13
  replace hr12 := hr12.evo0 hE13
  refine r_gyes rfl (wantF (by exact rfl)) (by exact (by simp)) ?_
  refine r_op rfl rfl rfl (run_not rfl (by exact rfl)) ?_
  refine r_op rfl rfl rfl (run_pick_or rfl (by exact rfl) rfl (fun _ => (by exact rfl))) ?_
  refine r_op rfl rfl rfl (run_mv (v := .bool _) rfl (by exact rfl)) ?_
  refine r_gyes rfl (wantF (by exact rfl)) (by exact (by simp)) ?_
  refine r_op rfl rfl rfl (run_mv (v := .slice _ _ _) rfl (by exact rfl)) ?_
  refine r_gyes rfl (wantF (by exact rfl)) (by exact (by simp)) ?_
  refine r_opcall rfl rfl rfl (run_callf (vs := [.slice _ _ _]) rfl (by exact rfl) Try.func33 rfl (by kernel_rfl)) (plain_calls rf (by first | assumption | exact kf_small | exact small_take (by assumption) _ | exact small_ren (by assumption) | exact small_norm (by assumption))) ?_
  rintro e w14 ⟨rfl, hE14⟩
  refine ⟨_, rfl, ?_⟩
  have hs_w14 := (hE14).size
  replace hV := evo_step0 hV hE14
  replace rf := rf0 _ hV
  replace ru := ru0 _ hV
  replace hon9 := hon9.evo0 hE14
  replace hon10 := hon10.evo0 hE14
  replace hr11 := hr11.evo0 hE14
  replace hr12 := hr12.evo0 hE14
  refine r_gyes rfl (wantF (by exact rfl)) (by exact (by simp)) ?_
  refine r_op rfl rfl rfl (run_mv (v := .slice _ _ _) rfl (by exact rfl)) ?_
  refine r_gyes rfl (wantF (by exact rfl)) (by exact (by simp)) ?_
  refine r_opcall rfl rfl rfl (run_callf (vs := [.slice _ _ _]) rfl (by exact rfl) Try.func49 rfl (by kernel_rfl)) (rplain_calls rf (by first | assumption | exact kf_small | exact small_take (by assumption) _ | exact small_ren (by assumption) | exact small_norm (by assumption))) ?_
  rintro e w15 ⟨rfl, hE15⟩
  refine ⟨_, rfl, ?_⟩
  have hs_w15 := (hE15).size
  replace hV := evo_step0 hV hE15
  replace rf := rf0 _ hV
  replace ru := ru0 _ hV
  replace hon9 := hon9.evo0 hE15
  replace hon10 := hon10.evo0 hE15
  replace hr11 := hr11.evo0 hE15
  replace hr12 := hr12.evo0 hE15
  refine r_gyes rfl (wantF (by exact rfl)) (by exact (by simp)) ?_
  refine r_op rfl rfl rfl (run_sneq rfl (by exact rfl) (by exact rfl)) ?_
  refine r_op rfl rfl rfl (run_pick_or rfl (by exact rfl) rfl (fun _ => (by exact rfl))) ?_
  refine r_op rfl rfl rfl (run_mv (v := .bool _) rfl (by exact rfl)) ?_
  refine r_gyes rfl (wantF (by exact rfl)) (by exact (by simp)) ?_
  refine r_op rfl rfl rfl (run_mv (v := .slice _ _ _) rfl (by exact rfl)) ?_
  refine r_gyes rfl (wantF (by exact rfl)) (by exact (by simp)) ?_
  refine r_opcall rfl rfl rfl (run_callf (vs := [.slice _ _ _]) rfl (by exact rfl) Try.func50 rfl (by kernel_rfl)) (tags_calls rf (by first | assumption | exact kf_small | exact small_take (by assumption) _ | exact small_ren (by assumption) | exact small_norm (by assumption))) ?_
  rintro e w16 ⟨vn16, rfl, hE16, hon16⟩
  refine ⟨_, rfl, ?_⟩
  have hs_w16 := (hE16).size
  replace hV := evo_step0 hV hE16
  replace rf := rf0 _ hV
  replace ru := ru0 _ hV
  replace hon9 := hon9.evo0 hE16
  replace hon10 := hon10.evo0 hE16
  replace hr11 := hr11.evo0 hE16
  replace hr12 := hr12.evo0 hE16
  refine r_gyes rfl (wantF (by exact rfl)) (by exact (by simp)) ?_
  refine r_op rfl rfl rfl (run_mv (v := .slice _ _ _) rfl (by exact rfl)) ?_
  refine r_gyes rfl (wantF (by exact rfl)) (by exact (by simp)) ?_
  refine r_opcall rfl rfl rfl (run_callf (vs := [.slice _ _ _]) rfl (by exact rfl) Try.func51 rfl (by kernel_rfl)) (rtags_calls rf (by first | assumption | exact kf_small | exact small_take (by assumption) _ | exact small_ren (by assumption) | exact small_norm (by assumption))) ?_
  rintro e w17 ⟨vn17, rfl, hE17, hon17⟩
  refine ⟨_, rfl, ?_⟩
  have hs_w17 := (hE17).size
  replace hV := evo_step0 hV hE17
  replace rf := rf0 _ hV
  replace ru := ru0 _ hV
  replace hon9 := hon9.evo0 hE17
  replace hon10 := hon10.evo0 hE17
  replace hr11 := hr11.evo0 hE17
  replace hr12 := hr12.evo0 hE17
  replace hon16 := hon16.evo0 hE17
  refine r_gyes rfl (wantF (by exact rfl)) (by exact (by simp)) ?_
  obtain ⟨ao18, g18, cp18, hv18, hr18, hg18⟩ := hon16.rowOf
  subst hv18
  obtain ⟨ao19, g19, cp19, hv19, hr19, hg19⟩ := hon17.rowOf
  subst hv19
  refine r_opcall rfl rfl rfl (run_callf (vs := [.slice _ _ _, .slice _ _ _]) rfl (by exact rfl) Try.func31 rfl (by kernel_rfl)) (same_calls hr18 hr19) ?_
  rintro e w20 ⟨rfl, hE20⟩
  refine ⟨_, rfl, ?_⟩
  have hs_w20 := (hE20).size
  replace hV := evo_step0 hV hE20
  replace rf := rf0 _ hV
  replace ru := ru0 _ hV
  replace hon9 := hon9.evo0 hE20
  replace hon10 := hon10.evo0 hE20
  replace hr11 := hr11.evo0 hE20
  replace hr12 := hr12.evo0 hE20
  replace hon16 := hon16.evo0 hE20
  replace hon17 := hon17.evo0 hE20
  replace hr18 := hr18.evo0 hE20
  replace hr19 := hr19.evo0 hE20
  refine r_gyes rfl (wantF (by exact rfl)) (by exact (by simp)) ?_
  refine r_op rfl rfl rfl (run_not rfl (by exact rfl)) ?_
  refine r_op rfl rfl rfl (run_pick_or rfl (by exact rfl) rfl (fun _ => (by exact rfl))) ?_
  refine r_nil ?_
  refine r_cond (by exact rfl) (fun hc21 => ?_) (fun hc21 => ?_)
  ·skip
   refine r_seq ?_
   refine r_region ?_
   refine r_op rfl rfl rfl (run_asg (v := .bool _) rfl (by exact rfl)) ?_
   refine r_nil ?_
   refine r_ret (res1 (v := .bool _) rfl (by exact rfl)) ?_
   exact absurd hc21 (by simp)
  ·skip
   refine r_skip ?_
   refine r_seq ?_
   refine r_region ?_
   refine r_op rfl rfl rfl (run_mv (v := .slice _ _ _) rfl (by exact rfl)) ?_
   refine r_opcall rfl rfl rfl (run_callf (vs := [.slice _ _ _]) rfl (by exact rfl) Try.func53 rfl (by kernel_rfl)) (slots_calls rf (by first | assumption | exact kf_small | exact small_take (by assumption) _ | exact small_ren (by assumption) | exact small_norm (by assumption))) ?_
   rintro e w22 ⟨vn22, rfl, hE22, hon22⟩
   refine ⟨_, rfl, ?_⟩
   have hs_w22 := (hE22).size
   replace hV := evo_step0 hV hE22
   replace rf := rf0 _ hV
   replace ru := ru0 _ hV
   replace hon9 := hon9.evo0 hE22
   replace hon10 := hon10.evo0 hE22
   replace hr11 := hr11.evo0 hE22
   replace hr12 := hr12.evo0 hE22
   replace hon16 := hon16.evo0 hE22
   replace hon17 := hon17.evo0 hE22
   replace hr18 := hr18.evo0 hE22
   replace hr19 := hr19.evo0 hE22
   refine r_op rfl rfl rfl (run_mv (v := .slice _ _ _) rfl (by exact rfl)) ?_
   refine r_opcall rfl rfl rfl (run_callf (vs := [.slice _ _ _]) rfl (by exact rfl) Try.func54 rfl (by kernel_rfl)) (rslots_calls rf (by first | assumption | exact kf_small | exact small_take (by assumption) _ | exact small_ren (by assumption) | exact small_norm (by assumption))) ?_
   rintro e w23 ⟨vn23, rfl, hE23, hon23⟩
   refine ⟨_, rfl, ?_⟩
   have hs_w23 := (hE23).size
   replace hV := evo_step0 hV hE23
   replace rf := rf0 _ hV
   replace ru := ru0 _ hV
   replace hon9 := hon9.evo0 hE23
   replace hon10 := hon10.evo0 hE23
   replace hr11 := hr11.evo0 hE23
   replace hr12 := hr12.evo0 hE23
   replace hon16 := hon16.evo0 hE23
   replace hon17 := hon17.evo0 hE23
   replace hr18 := hr18.evo0 hE23
   replace hr19 := hr19.evo0 hE23
   replace hon22 := hon22.evo0 hE23
   obtain ⟨ao24, g24, cp24, hv24, hr24, hg24⟩ := hon22.rowOf
   subst hv24
   obtain ⟨ao25, g25, cp25, hv25, hr25, hg25⟩ := hon23.rowOf
   subst hv25
   refine r_opcall rfl rfl rfl (run_callf (vs := [.slice _ _ _, .slice _ _ _]) rfl (by exact rfl) Try.func52 rfl (by kernel_rfl)) (sametexts_calls hr24 hr25) ?_
   rintro e w26 ⟨rfl, hE26⟩
   refine ⟨_, rfl, ?_⟩
   have hs_w26 := (hE26).size
   replace hV := evo_step0 hV hE26
   replace rf := rf0 _ hV
   replace ru := ru0 _ hV
   replace hon9 := hon9.evo0 hE26
   replace hon10 := hon10.evo0 hE26
   replace hr11 := hr11.evo0 hE26
   replace hr12 := hr12.evo0 hE26
   replace hon16 := hon16.evo0 hE26
   replace hon17 := hon17.evo0 hE26
   replace hr18 := hr18.evo0 hE26
   replace hr19 := hr19.evo0 hE26
   replace hon22 := hon22.evo0 hE26
   replace hon23 := hon23.evo0 hE26
   replace hr24 := hr24.evo0 hE26
   replace hr25 := hr25.evo0 hE26
   refine r_op rfl rfl rfl (run_mv (v := .bool _) rfl (by exact rfl)) ?_
   refine r_gyes rfl (wantT (by exact rfl)) (by exact rfl) ?_
   refine r_op rfl rfl rfl (run_mv (v := .slice _ _ _) rfl (by exact rfl)) ?_
   refine r_gyes rfl (wantT (by exact rfl)) (by exact rfl) ?_
   refine r_opcall rfl rfl rfl (run_callf (vs := [.slice _ _ _]) rfl (by exact rfl) Try.func40 rfl (by kernel_rfl)) (numbers_calls rf (by first | assumption | exact kf_small | exact small_take (by assumption) _ | exact small_ren (by assumption) | exact small_norm (by assumption))) ?_
   rintro e w27 ⟨vu27, rfl, hE27, hou27⟩
   refine ⟨_, rfl, ?_⟩
   have hs_w27 := (hE27).size
   replace hV := evo_step0 hV hE27
   replace rf := rf0 _ hV
   replace ru := ru0 _ hV
   replace hon9 := hon9.evo0 hE27
   replace hon10 := hon10.evo0 hE27
   replace hr11 := hr11.evo0 hE27
   replace hr12 := hr12.evo0 hE27
   replace hon16 := hon16.evo0 hE27
   replace hon17 := hon17.evo0 hE27
   replace hr18 := hr18.evo0 hE27
   replace hr19 := hr19.evo0 hE27
   replace hon22 := hon22.evo0 hE27
   replace hon23 := hon23.evo0 hE27
   replace hr24 := hr24.evo0 hE27
   replace hr25 := hr25.evo0 hE27
   refine r_gyes rfl (wantT (by exact rfl)) (by exact rfl) ?_
   refine r_op rfl rfl rfl (run_mv (v := .slice _ _ _) rfl (by exact rfl)) ?_
   refine r_gyes rfl (wantT (by exact rfl)) (by exact rfl) ?_
   refine r_opcall rfl rfl rfl (run_callf (vs := [.slice _ _ _]) rfl (by exact rfl) Try.func55 rfl (by kernel_rfl)) (rnumbers_calls rf (by first | assumption | exact kf_small | exact small_take (by assumption) _ | exact small_ren (by assumption) | exact small_norm (by assumption))) ?_
   rintro e w28 ⟨vu28, rfl, hE28, hou28⟩
   refine ⟨_, rfl, ?_⟩
   have hs_w28 := (hE28).size
   replace hV := evo_step0 hV hE28
   replace rf := rf0 _ hV
   replace ru := ru0 _ hV
   replace hon9 := hon9.evo0 hE28
   replace hon10 := hon10.evo0 hE28
   replace hr11 := hr11.evo0 hE28
   replace hr12 := hr12.evo0 hE28
   replace hon16 := hon16.evo0 hE28
   replace hon17 := hon17.evo0 hE28
   replace hr18 := hr18.evo0 hE28
   replace hr19 := hr19.evo0 hE28
   replace hon22 := hon22.evo0 hE28
   replace hon23 := hon23.evo0 hE28
   replace hr24 := hr24.evo0 hE28
   replace hr25 := hr25.evo0 hE28
   replace hou27 := hou27.evo0 hE28
   refine r_gyes rfl (wantT (by exact rfl)) (by exact rfl) ?_
   obtain ⟨ao29, g29, cp29, hv29, hr29, hg29⟩ := hou27.rowOf
   subst hv29
   obtain ⟨ao30, g30, cp30, hv30, hr30, hg30⟩ := hou28.rowOf
   subst hv30
   refine r_opcall rfl rfl rfl (run_callf (vs := [.slice _ _ _, .slice _ _ _]) rfl (by exact rfl) Try.func28 rfl (by kernel_rfl)) (sameints_calls hr29 hr30) ?_
   rintro e w31 ⟨rfl, hE31⟩
   refine ⟨_, rfl, ?_⟩
   have hs_w31 := (hE31).size
   replace hV := evo_step0 hV hE31
   replace rf := rf0 _ hV
   replace ru := ru0 _ hV
   replace hon9 := hon9.evo0 hE31
   replace hon10 := hon10.evo0 hE31
   replace hr11 := hr11.evo0 hE31
   replace hr12 := hr12.evo0 hE31
   replace hon16 := hon16.evo0 hE31
   replace hon17 := hon17.evo0 hE31
   replace hr18 := hr18.evo0 hE31
   replace hr19 := hr19.evo0 hE31
   replace hon22 := hon22.evo0 hE31
   replace hon23 := hon23.evo0 hE31
   replace hr24 := hr24.evo0 hE31
   replace hr25 := hr25.evo0 hE31
   replace hou27 := hou27.evo0 hE31
   replace hou28 := hou28.evo0 hE31
   replace hr29 := hr29.evo0 hE31
   replace hr30 := hr30.evo0 hE31
   refine r_op rfl rfl rfl (run_pick_and rfl (by exact rfl) (fun _ => (by exact rfl)) rfl) ?_
   refine r_op rfl rfl rfl (run_mv (v := .bool _) rfl (by exact rfl)) ?_
   refine r_gyes rfl (wantT (by exact rfl)) (by exact ⟨rfl, rfl⟩) ?_
   refine r_op rfl rfl rfl (run_mv (v := .slice _ _ _) rfl (by exact rfl)) ?_
   refine r_gyes rfl (wantT (by exact rfl)) (by exact ⟨rfl, rfl⟩) ?_
   refine r_opcall rfl rfl rfl (run_callf (vs := [.slice _ _ _]) rfl (by exact rfl) Try.func39 rfl (by kernel_rfl)) (renumber_calls rf (by first | assumption | exact kf_small | exact small_take (by assumption) _ | exact small_ren (by assumption) | exact small_norm (by assumption))) ?_
   rintro e w32 ⟨vn32, rfl, hE32, hon32⟩
   refine ⟨_, rfl, ?_⟩
   have hs_w32 := (hE32).size
   replace hV := evo_step0 hV hE32
   replace rf := rf0 _ hV
   replace ru := ru0 _ hV
   replace hon9 := hon9.evo0 hE32
   replace hon10 := hon10.evo0 hE32
   replace hr11 := hr11.evo0 hE32
   replace hr12 := hr12.evo0 hE32
   replace hon16 := hon16.evo0 hE32
   replace hon17 := hon17.evo0 hE32
   replace hr18 := hr18.evo0 hE32
   replace hr19 := hr19.evo0 hE32
   replace hon22 := hon22.evo0 hE32
   replace hon23 := hon23.evo0 hE32
   replace hr24 := hr24.evo0 hE32
   replace hr25 := hr25.evo0 hE32
   replace hou27 := hou27.evo0 hE32
   replace hou28 := hou28.evo0 hE32
   replace hr29 := hr29.evo0 hE32
   replace hr30 := hr30.evo0 hE32
   refine r_gyes rfl (wantT (by exact rfl)) (by exact ⟨rfl, rfl⟩) ?_
   refine r_op rfl rfl rfl (run_mv (v := .slice _ _ _) rfl (by exact rfl)) ?_
   refine r_gyes rfl (wantT (by exact rfl)) (by exact ⟨rfl, rfl⟩) ?_
   refine r_opcall rfl rfl rfl (run_callf (vs := [.slice _ _ _]) rfl (by exact rfl) Try.func56 rfl (by kernel_rfl)) (rrenumber_calls rf (by first | assumption | exact kf_small | exact small_take (by assumption) _ | exact small_ren (by assumption) | exact small_norm (by assumption))) ?_
   rintro e w33 ⟨vn33, rfl, hE33, hon33⟩
   refine ⟨_, rfl, ?_⟩
   have hs_w33 := (hE33).size
   replace hV := evo_step0 hV hE33
   replace rf := rf0 _ hV
   replace ru := ru0 _ hV
   replace hon9 := hon9.evo0 hE33
   replace hon10 := hon10.evo0 hE33
   replace hr11 := hr11.evo0 hE33
   replace hr12 := hr12.evo0 hE33
   replace hon16 := hon16.evo0 hE33
   replace hon17 := hon17.evo0 hE33
   replace hr18 := hr18.evo0 hE33
   replace hr19 := hr19.evo0 hE33
   replace hon22 := hon22.evo0 hE33
   replace hon23 := hon23.evo0 hE33
   replace hr24 := hr24.evo0 hE33
   replace hr25 := hr25.evo0 hE33
   replace hou27 := hou27.evo0 hE33
   replace hou28 := hou28.evo0 hE33
   replace hr29 := hr29.evo0 hE33
   replace hr30 := hr30.evo0 hE33
   replace hon32 := hon32.evo0 hE33
   refine r_gyes rfl (wantT (by exact rfl)) (by exact ⟨rfl, rfl⟩) ?_
   obtain ⟨ao34, g34, cp34, hv34, hr34, hg34⟩ := hon32.rowOf
   subst hv34
   obtain ⟨ao35, g35, cp35, hv35, hr35, hg35⟩ := hon33.rowOf
   subst hv35
   refine r_opcall rfl rfl rfl (run_callf (vs := [.slice _ _ _, .slice _ _ _]) rfl (by exact rfl) Try.func31 rfl (by kernel_rfl)) (same_calls hr34 hr35) ?_
   rintro e w36 ⟨rfl, hE36⟩
   refine ⟨_, rfl, ?_⟩
   have hs_w36 := (hE36).size
   replace hV := evo_step0 hV hE36
   replace rf := rf0 _ hV
   replace ru := ru0 _ hV
   replace hon9 := hon9.evo0 hE36
   replace hon10 := hon10.evo0 hE36
   replace hr11 := hr11.evo0 hE36
   replace hr12 := hr12.evo0 hE36
   replace hon16 := hon16.evo0 hE36
   replace hon17 := hon17.evo0 hE36
   replace hr18 := hr18.evo0 hE36
   replace hr19 := hr19.evo0 hE36
   replace hon22 := hon22.evo0 hE36
   replace hon23 := hon23.evo0 hE36
   replace hr24 := hr24.evo0 hE36
   replace hr25 := hr25.evo0 hE36
   replace hou27 := hou27.evo0 hE36
   replace hou28 := hou28.evo0 hE36
   replace hr29 := hr29.evo0 hE36
   replace hr30 := hr30.evo0 hE36
   replace hon32 := hon32.evo0 hE36
   replace hon33 := hon33.evo0 hE36
   replace hr34 := hr34.evo0 hE36
   replace hr35 := hr35.evo0 hE36
   refine r_op rfl rfl rfl (run_pick_and rfl (by exact rfl) (fun _ => (by exact rfl)) rfl) ?_
   refine r_op rfl rfl rfl (run_mv (v := .bool _) rfl (by exact rfl)) ?_
   refine r_gyes rfl (wantT (by exact rfl)) (by exact ⟨⟨rfl, rfl⟩, rfl⟩) ?_
   refine r_op rfl rfl rfl (run_mv (v := .slice _ _ _) rfl (by exact rfl)) ?_
   refine r_gyes rfl (wantT (by exact rfl)) (by exact ⟨⟨rfl, rfl⟩, rfl⟩) ?_
   refine r_op rfl rfl rfl (run_mv (v := .slice _ _ _) rfl (by exact rfl)) ?_
   refine r_gyes rfl (wantT (by exact rfl)) (by exact ⟨⟨rfl, rfl⟩, rfl⟩) ?_
   refine r_opcall rfl rfl rfl (run_callf (vs := [.slice _ _ _, .slice _ _ _]) rfl (by exact rfl) Try.func57 rfl (by kernel_rfl)) (isame_calls rf ru) ?_
   rintro e w37 ⟨rfl, hE37⟩
   refine ⟨_, rfl, ?_⟩
   have hs_w37 := (hE37).size
   replace hV := evo_step0 hV hE37
   replace rf := rf0 _ hV
   replace ru := ru0 _ hV
   replace hon9 := hon9.evo0 hE37
   replace hon10 := hon10.evo0 hE37
   replace hr11 := hr11.evo0 hE37
   replace hr12 := hr12.evo0 hE37
   replace hon16 := hon16.evo0 hE37
   replace hon17 := hon17.evo0 hE37
   replace hr18 := hr18.evo0 hE37
   replace hr19 := hr19.evo0 hE37
   replace hon22 := hon22.evo0 hE37
   replace hon23 := hon23.evo0 hE37
   replace hr24 := hr24.evo0 hE37
   replace hr25 := hr25.evo0 hE37
   replace hou27 := hou27.evo0 hE37
   replace hou28 := hou28.evo0 hE37
   replace hr29 := hr29.evo0 hE37
   replace hr30 := hr30.evo0 hE37
   replace hon32 := hon32.evo0 hE37
   replace hon33 := hon33.evo0 hE37
   replace hr34 := hr34.evo0 hE37
   replace hr35 := hr35.evo0 hE37
   refine r_gyes rfl (wantT (by exact rfl)) (by exact ⟨⟨rfl, rfl⟩, rfl⟩) ?_
   refine r_op rfl rfl rfl (run_mv (v := .slice _ _ _) rfl (by exact rfl)) ?_
   refine r_gyes rfl (wantT (by exact rfl)) (by exact ⟨⟨rfl, rfl⟩, rfl⟩) ?_
   refine r_op rfl rfl rfl (run_mv (v := .slice _ _ _) rfl (by exact rfl)) ?_
   refine r_gyes rfl (wantT (by exact rfl)) (by exact ⟨⟨rfl, rfl⟩, rfl⟩) ?_
   refine r_opcall rfl rfl rfl (run_callf (vs := [.slice _ _ _, .slice _ _ _]) rfl (by exact rfl) Try.func31 rfl (by kernel_rfl)) (same_calls rf ru) ?_
   rintro e w38 ⟨rfl, hE38⟩
   refine ⟨_, rfl, ?_⟩
   have hs_w38 := (hE38).size
   replace hV := evo_step0 hV hE38
   replace rf := rf0 _ hV
   replace ru := ru0 _ hV
   replace hon9 := hon9.evo0 hE38
   replace hon10 := hon10.evo0 hE38
   replace hr11 := hr11.evo0 hE38
   replace hr12 := hr12.evo0 hE38
   replace hon16 := hon16.evo0 hE38
   replace hon17 := hon17.evo0 hE38
   replace hr18 := hr18.evo0 hE38
   replace hr19 := hr19.evo0 hE38
   replace hon22 := hon22.evo0 hE38
   replace hon23 := hon23.evo0 hE38
   replace hr24 := hr24.evo0 hE38
   replace hr25 := hr25.evo0 hE38
   replace hou27 := hou27.evo0 hE38
   replace hou28 := hou28.evo0 hE38
   replace hr29 := hr29.evo0 hE38
   replace hr30 := hr30.evo0 hE38
   replace hon32 := hon32.evo0 hE38
   replace hon33 := hon33.evo0 hE38
   replace hr34 := hr34.evo0 hE38
   replace hr35 := hr35.evo0 hE38
   refine r_gyes rfl (wantT (by exact rfl)) (by exact ⟨⟨rfl, rfl⟩, rfl⟩) ?_
   refine r_op rfl rfl rfl (run_beql rfl Try.underlying4 (by exact rfl) (by exact rfl)) ?_
   refine r_op rfl rfl rfl (run_pick_and rfl (by exact rfl) (fun _ => (by exact rfl)) rfl) ?_
   refine r_op rfl rfl rfl (run_mv (v := .bool _) rfl (by exact rfl)) ?_
   refine r_gyes rfl (wantT (by exact rfl)) (by exact ⟨⟨⟨rfl, rfl⟩, rfl⟩, Iff.rfl⟩) ?_
   refine r_op rfl rfl rfl (run_mv (v := .slice _ _ _) rfl (by exact rfl)) ?_
   refine r_gyes rfl (wantT (by exact rfl)) (by exact ⟨⟨⟨rfl, rfl⟩, rfl⟩, Iff.rfl⟩) ?_
   refine r_op rfl rfl rfl (run_mv (v := .slice _ _ _) rfl (by exact rfl)) ?_
   refine r_gyes rfl (wantT (by exact rfl)) (by exact ⟨⟨⟨rfl, rfl⟩, rfl⟩, Iff.rfl⟩) ?_
   refine r_opcall rfl rfl rfl (run_callf (vs := [.slice _ _ _, .slice _ _ _]) rfl (by exact rfl) Try.func57 rfl (by kernel_rfl)) (isame_calls rf rf) ?_
   rintro e w39 ⟨rfl, hE39⟩
   refine ⟨_, rfl, ?_⟩
   have hs_w39 := (hE39).size
   replace hV := evo_step0 hV hE39
   replace rf := rf0 _ hV
   replace ru := ru0 _ hV
   replace hon9 := hon9.evo0 hE39
   replace hon10 := hon10.evo0 hE39
   replace hr11 := hr11.evo0 hE39
   replace hr12 := hr12.evo0 hE39
   replace hon16 := hon16.evo0 hE39
   replace hon17 := hon17.evo0 hE39
   replace hr18 := hr18.evo0 hE39
   replace hr19 := hr19.evo0 hE39
   replace hon22 := hon22.evo0 hE39
   replace hon23 := hon23.evo0 hE39
   replace hr24 := hr24.evo0 hE39
   replace hr25 := hr25.evo0 hE39
   replace hou27 := hou27.evo0 hE39
   replace hou28 := hou28.evo0 hE39
   replace hr29 := hr29.evo0 hE39
   replace hr30 := hr30.evo0 hE39
   replace hon32 := hon32.evo0 hE39
   replace hon33 := hon33.evo0 hE39
   replace hr34 := hr34.evo0 hE39
   replace hr35 := hr35.evo0 hE39
   refine r_op rfl rfl rfl (run_pick_and rfl (by exact rfl) (fun _ => (by exact rfl)) rfl) ?_
   refine r_op rfl rfl rfl (run_mv (v := .bool _) rfl (by exact rfl)) ?_
   refine r_gyes rfl (wantT (by exact rfl)) (by exact ⟨⟨⟨⟨rfl, rfl⟩, rfl⟩, Iff.rfl⟩, rfl⟩) ?_
   refine r_op rfl rfl rfl (run_mv (v := .slice _ _ _) rfl (by exact rfl)) ?_
   refine r_gyes rfl (wantT (by exact rfl)) (by exact ⟨⟨⟨⟨rfl, rfl⟩, rfl⟩, Iff.rfl⟩, rfl⟩) ?_
   refine r_op rfl rfl rfl (run_mv (v := .slice _ _ _) rfl (by exact rfl)) ?_
   refine r_gyes rfl (wantT (by exact rfl)) (by exact ⟨⟨⟨⟨rfl, rfl⟩, rfl⟩, Iff.rfl⟩, rfl⟩) ?_
   refine r_opcall rfl rfl rfl (run_callf (vs := [.slice _ _ _, .slice _ _ _]) rfl (by exact rfl) Try.func32 rfl (by kernel_rfl)) (concat_calls rf ru (by assumption)) ?_
   rintro e w40 ⟨vn40, rfl, hE40, hon40⟩
   refine ⟨_, rfl, ?_⟩
   have hs_w40 := (hE40).size
   replace hV := evo_step0 hV hE40
   replace rf := rf0 _ hV
   replace ru := ru0 _ hV
   replace hon9 := hon9.evo0 hE40
   replace hon10 := hon10.evo0 hE40
   replace hr11 := hr11.evo0 hE40
   replace hr12 := hr12.evo0 hE40
   replace hon16 := hon16.evo0 hE40
   replace hon17 := hon17.evo0 hE40
   replace hr18 := hr18.evo0 hE40
   replace hr19 := hr19.evo0 hE40
   replace hon22 := hon22.evo0 hE40
   replace hon23 := hon23.evo0 hE40
   replace hr24 := hr24.evo0 hE40
   replace hr25 := hr25.evo0 hE40
   replace hou27 := hou27.evo0 hE40
   replace hou28 := hou28.evo0 hE40
   replace hr29 := hr29.evo0 hE40
   replace hr30 := hr30.evo0 hE40
   replace hon32 := hon32.evo0 hE40
   replace hon33 := hon33.evo0 hE40
   replace hr34 := hr34.evo0 hE40
   replace hr35 := hr35.evo0 hE40
   refine r_gyes rfl (wantT (by exact rfl)) (by exact ⟨⟨⟨⟨rfl, rfl⟩, rfl⟩, Iff.rfl⟩, rfl⟩) ?_
   refine r_op rfl rfl rfl (run_mv (v := .slice _ _ _) rfl (by exact rfl)) ?_
   refine r_gyes rfl (wantT (by exact rfl)) (by exact ⟨⟨⟨⟨rfl, rfl⟩, rfl⟩, Iff.rfl⟩, rfl⟩) ?_
   refine r_op rfl rfl rfl (run_mv (v := .slice _ _ _) rfl (by exact rfl)) ?_
   refine r_gyes rfl (wantT (by exact rfl)) (by exact ⟨⟨⟨⟨rfl, rfl⟩, rfl⟩, Iff.rfl⟩, rfl⟩) ?_
   refine r_opcall rfl rfl rfl (run_callf (vs := [.slice _ _ _, .slice _ _ _]) rfl (by exact rfl) Try.func58 rfl (by kernel_rfl)) (rconcat_calls rf ru (by assumption)) ?_
   rintro e w41 ⟨vn41, rfl, hE41, hon41⟩
   refine ⟨_, rfl, ?_⟩
   have hs_w41 := (hE41).size
   replace hV := evo_step0 hV hE41
   replace rf := rf0 _ hV
   replace ru := ru0 _ hV
   replace hon9 := hon9.evo0 hE41
   replace hon10 := hon10.evo0 hE41
   replace hr11 := hr11.evo0 hE41
   replace hr12 := hr12.evo0 hE41
   replace hon16 := hon16.evo0 hE41
   replace hon17 := hon17.evo0 hE41
   replace hr18 := hr18.evo0 hE41
   replace hr19 := hr19.evo0 hE41
   replace hon22 := hon22.evo0 hE41
   replace hon23 := hon23.evo0 hE41
   replace hr24 := hr24.evo0 hE41
   replace hr25 := hr25.evo0 hE41
   replace hou27 := hou27.evo0 hE41
   replace hou28 := hou28.evo0 hE41
   replace hr29 := hr29.evo0 hE41
   replace hr30 := hr30.evo0 hE41
   replace hon32 := hon32.evo0 hE41
   replace hon33 := hon33.evo0 hE41
   replace hr34 := hr34.evo0 hE41
   replace hr35 := hr35.evo0 hE41
   replace hon40 := hon40.evo0 hE41
   refine r_gyes rfl (wantT (by exact rfl)) (by exact ⟨⟨⟨⟨rfl, rfl⟩, rfl⟩, Iff.rfl⟩, rfl⟩) ?_
   obtain ⟨ao42, g42, cp42, hv42, hr42, hg42⟩ := hon40.rowOf
   subst hv42
   obtain ⟨ao43, g43, cp43, hv43, hr43, hg43⟩ := hon41.rowOf
   subst hv43
   refine r_opcall rfl rfl rfl (run_callf (vs := [.slice _ _ _, .slice _ _ _]) rfl (by exact rfl) Try.func31 rfl (by kernel_rfl)) (same_calls hr42 hr43) ?_
   rintro e w44 ⟨rfl, hE44⟩
   refine ⟨_, rfl, ?_⟩
   have hs_w44 := (hE44).size
   replace hV := evo_step0 hV hE44
   replace rf := rf0 _ hV
   replace ru := ru0 _ hV
   replace hon9 := hon9.evo0 hE44
   replace hon10 := hon10.evo0 hE44
   replace hr11 := hr11.evo0 hE44
   replace hr12 := hr12.evo0 hE44
   replace hon16 := hon16.evo0 hE44
   replace hon17 := hon17.evo0 hE44
   replace hr18 := hr18.evo0 hE44
   replace hr19 := hr19.evo0 hE44
   replace hon22 := hon22.evo0 hE44
   replace hon23 := hon23.evo0 hE44
   replace hr24 := hr24.evo0 hE44
   replace hr25 := hr25.evo0 hE44
   replace hou27 := hou27.evo0 hE44
   replace hou28 := hou28.evo0 hE44
   replace hr29 := hr29.evo0 hE44
   replace hr30 := hr30.evo0 hE44
   replace hon32 := hon32.evo0 hE44
   replace hon33 := hon33.evo0 hE44
   replace hr34 := hr34.evo0 hE44
   replace hr35 := hr35.evo0 hE44
   replace hon40 := hon40.evo0 hE44
   replace hon41 := hon41.evo0 hE44
   replace hr42 := hr42.evo0 hE44
   replace hr43 := hr43.evo0 hE44
   refine r_op rfl rfl rfl (run_pick_and rfl (by exact rfl) (fun _ => (by exact rfl)) rfl) ?_
   refine r_op rfl rfl rfl (run_mv (v := .bool _) rfl (by exact rfl)) ?_
   refine r_gyes rfl (wantT (by exact rfl)) (by exact ⟨⟨⟨⟨⟨rfl, rfl⟩, rfl⟩, Iff.rfl⟩, rfl⟩, rfl⟩) ?_
   refine r_opcall rfl rfl rfl (run_callf (vs := []) rfl (by exact rfl) Try.func21 rfl (by kernel_rfl)) known_calls ?_
   rintro e w45 ⟨rfl, hE45⟩
   refine ⟨_, rfl, ?_⟩
   have hs_w45 := (hE45).size
   replace hV := evo_step0 hV hE45
   replace rf := rf0 _ hV
   replace ru := ru0 _ hV
   replace hon9 := hon9.evo0 hE45
   replace hon10 := hon10.evo0 hE45
   replace hr11 := hr11.evo0 hE45
   replace hr12 := hr12.evo0 hE45
   replace hon16 := hon16.evo0 hE45
   replace hon17 := hon17.evo0 hE45
   replace hr18 := hr18.evo0 hE45
   replace hr19 := hr19.evo0 hE45
   replace hon22 := hon22.evo0 hE45
   replace hon23 := hon23.evo0 hE45
   replace hr24 := hr24.evo0 hE45
   replace hr25 := hr25.evo0 hE45
   replace hou27 := hou27.evo0 hE45
   replace hou28 := hou28.evo0 hE45
   replace hr29 := hr29.evo0 hE45
   replace hr30 := hr30.evo0 hE45
   replace hon32 := hon32.evo0 hE45
   replace hon33 := hon33.evo0 hE45
   replace hr34 := hr34.evo0 hE45
   replace hr35 := hr35.evo0 hE45
   replace hon40 := hon40.evo0 hE45
   replace hon41 := hon41.evo0 hE45
   replace hr42 := hr42.evo0 hE45
   replace hr43 := hr43.evo0 hE45
   refine r_op rfl rfl rfl (run_pick_and rfl (by exact rfl) (fun _ => (by exact rfl)) rfl) ?_
   refine r_op rfl rfl rfl (run_asg (v := .bool _) rfl (by exact rfl)) ?_
   refine r_nil ?_
   refine r_ret (res1 (v := .bool _) rfl (by exact rfl)) ?_
   exact ⟨ret_bool (decide_eq_true ⟨⟨⟨⟨⟨⟨rfl, rfl⟩, rfl⟩, Iff.rfl⟩, rfl⟩, rfl⟩, trivial⟩), hV⟩

end Go.Proofs.Ytkdgoghmkmpfnaa
