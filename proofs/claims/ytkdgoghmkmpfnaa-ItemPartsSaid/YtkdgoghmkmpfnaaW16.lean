import Derived.Test.YtkdgoghmkmpfnaaW14
import Derived.Test.YtkdgoghmkmpfnaaLb
namespace Go.Proofs.Ytkdgoghmkmpfnaa
open Go.RowKit Go.Vc

def shC (f : List Vc.Item) : List Int := ((shapeL f).getD ([], [])).1
def shO (f : List Vc.Item) : List Int := ((shapeL f).getD ([], [])).2
theorem shape_mono {f : List Vc.Item} {k : Nat} (hk : k ≤ f.length) (h : shapeL (f.take k) = none) : shapeL f = none := by
  have e : ∀ l : List Vc.Item, l.foldl shapeStep none = none := fun l => by
    induction l with
    | nil => rfl
    | cons x l ih => rw [List.foldl_cons]; exact ih
  have h1 : shapeL f = (f.drop k).foldl shapeStep (shapeL (f.take k)) := by
    unfold shapeL; rw [← List.foldl_append, List.take_append_drop]
  rw [h1, h, e]
theorem shape_no {f : List Vc.Item} {k : Nat} {c s : List Int} (hk : k < f.length) (ho : shapeL (f.take k) = some (c, s)) (h : (f.getD k default).kind = 3) (hs : ¬ s.length = 0) (he : ¬ s.getD (s.length - 1) default = (f.getD k default).id) : shapeL f = none :=
  shape_mono (k := k + 1) (by omega) (by rw [shape_succ f k hk, shape_cross ho h hs he])
theorem sh_some {f : List Vc.Item} {c s : List Int} (h : shapeL f = some (c, s)) : (shapeL f).isSome = true ∧ shC f = c ∧ shO f = s := by unfold shC shO; rw [h]; exact ⟨rfl, rfl, rfl⟩
theorem sh_none {f : List Vc.Item} (h : shapeL f = none) : (shapeL f).isSome = false ∧ shC f = [] ∧ shO f = [] := by unfold shC shO; rw [h]; exact ⟨rfl, rfl, rfl⟩

theorem shape_calls {ao : Option Addr} {b off cap : Nat} {f : List Vc.Item} {w0 : World} (hf : RowE w0 ao b off cap f) (hsm : Small f) :
    Calls Try.prog 26 #[.slice ao f.length cap] w0 fun e w' => ∃ v u, e = .returned (.tuple #[v, u, .bool (shapeL f).isSome]) ∧ Evo w0 w' [] ∧ OwnE w' w0.heap.size 3 v (shC f) ∧ OwnE w' w0.heap.size 3 u (shO f) := by
 have hs1 := hsm.1
 refine calls_enter (n := 63) (args := [.slice ao f.length cap]) Try.func26 rfl Try.ntmps26 rfl ?_
 have hV : Evo w0 w0 [] := Evo.refl _ _
 have hf0 := keepE hf
 have hbd_hf := hf.bd
 refine r_seq ?_
 refine r_region ?_
 refine r_op rfl rfl rfl (run_asg (v := .slice _ _ _) rfl (by exact rfl)) ?_
 refine r_op rfl rfl rfl (run_asg (v := .slice _ _ _) rfl (by exact rfl)) ?_
 refine r_op rfl rfl rfl (run_asg (v := .bool _) rfl (by exact rfl)) ?_
 refine r_nil ?_
 refine r_seq ?_
 refine r_seq ?_
 refine r_region ?_
 refine r_op rfl rfl rfl (run_mv (v := .slice _ _ _) rfl (by exact rfl)) ?_
 refine r_op rfl rfl rfl (run_lenSl rfl (by exact rfl) Try.underlying30) ?_
 refine r_op rfl rfl rfl (run_mv (v := .int _ _) rfl (by exact rfl)) ?_
 refine r_nil ?_
 refine r_block ?_
 refine r_loop (α := Nat) [2, 3, 4, 6, 9, 10, 11, 12, 13, 14, 15, 16, 17, 18, 19, 20, 21, 22, 23, 24, 25, 26, 27, 28, 29, 30, 31, 32, 33, 34, 35, 36, 37, 38, 39, 40, 41, 42, 43, 44, 45, 46, 47, 48, 49, 50, 51, 52, 53, 54, 55, 56, 57, 58, 59, 60] (fun k g w => ∃ vc : Value, ∃ vo : Value, ∃ cl : List Int, ∃ op : List Int, g 9 = .int .i64 (k : Nat) ∧ g 2 = vc ∧ g 3 = vo ∧ k ≤ f.length ∧ OwnE w w0.heap.size 3 vc cl ∧ OwnE w w0.heap.size 3 vo op ∧ Sep vc vo ∧ shapeL (f.take k) = some (cl, op) ∧ (cl.length ≤ k ∧ op.length ≤ k) ∧ w0.heap.size ≤ w.heap.size ∧ Evo w0 w []) (fun k => f.length - k) 0 ?_ ?_
 ·refine ⟨_, _, [], [], (by first | exact rfl | exact congrArg (Value.int _) (by omega) | exact congrArg (Value.int _) (by dsimp only; omega) | exact congrArg (Value.int _) (by simp) | exact congrArg S (by simp)), rfl, rfl, (by first | assumption | omega | (dsimp only; omega) | (simp; done)), (OwnE.nil _ _ _), (OwnE.nil _ _ _), (Sep.nil_l _), rfl, (by simp), (by first | assumption | omega | (dsimp only; omega) | (simp; done)), hV⟩
 ·rintro k g w2 ⟨vc, vo, cl, op, hj3, hj4, hj5, hk_k, hoc, hoo, hsep, hsh, hlen, hzl1, hV⟩
  have hs_w2hV := hV.size
  replace hf := hf0 _ hV
  refine r_know (i := 9) (v := .int .i64 (k : Nat)) (by exact hj3) ?_
  refine r_know (i := 2) (v := vc) (by exact hj4) ?_
  refine r_know (i := 3) (v := vo) (by exact hj5) ?_
  refine r_seq ?_
  refine r_region ?_
  refine r_op rfl rfl rfl (run_lss rfl (by exact rfl) (by exact rfl)) ?_
  refine r_nil ?_
  refine r_seq ?_
  refine r_cond (by exact rfl) (fun hc6 => ?_) (fun hc6 => ?_)
  ·skip
   refine r_skip ?_
   refine r_seq ?_
   refine r_block ?_
   refine r_seq ?_
   have hobC := fun g hg => (hoc.block (g := g) hg).2; have hobO := fun g hg => (hoo.block (g := g) hg).2
   refine r_region ?_
   refine r_op rfl rfl rfl (run_ix (k) rfl Try.underlying30 ty_26 (by exact rfl) (by exact rfl) (by first | exact rfl | omega) (by omega) (hf.addr (i := k) (by omega))) ?_
   have hA70 := fun (w' : World) (h : Evo w0 w' []) => (hf0 w' h).atD (k) (by omega)
   have hA7 := hA70 _ hV
   refine r_op rfl rfl rfl (run_ldN rfl ag_26 ty_26 (by exact rfl) rfl hA7) ?_
   have hob8 := fun g hg => (hoc.block (g := g) hg).2
   have hob9 := fun g hg => (hoo.block (g := g) hg).2
   refine r_var (zs := [_, _, _]) (vs := [_, _, _]) ty_26 (by exact rfl) rfl (by exact rfl) (fun _ => rfl) (by exact rfl) rfl rfl (by exact rfl) ?_
   intro b10 w11 heb10 hEw11 hbb10 hzb10
   have hs_w11 := (hEw11).size
   replace hV := evo_step0 hV hEw11
   replace hf := hf0 _ hV
   replace hoc := hoc.evo0 hEw11
   replace hoo := hoo.evo0 hEw11
   have hAb10 := hbb10.at
   refine r_nil ?_
   refine r_block ?_
   refine r_seq ?_
   refine r_region ?_
   refine r_op rfl rfl rfl (run_fa rfl (by exact rfl) fo_26_0) ?_
   refine r_op rfl rfl rfl (run_ld1 rfl ag_3 (by exact rfl) (hAb10.cell 0 (by exact rfl))) ?_
   refine r_op rfl rfl rfl (run_eql rfl (by exact rfl) (by exact rfl)) ?_
   refine r_op rfl rfl rfl (run_asg (v := .bool _) rfl (by exact rfl)) ?_
   refine r_nil ?_
   refine r_cond (by exact rfl) (fun hc12 => ?_) (fun hc12 => ?_)
   ·skip
    refine r_region ?_
    refine r_op rfl rfl rfl (run_mv (v := vo) rfl (by exact rfl)) ?_
    refine r_op rfl rfl rfl (run_fa rfl (by exact rfl) fo_26_2) ?_
    refine r_op rfl rfl rfl (run_ld1 rfl ag_3 (by exact rfl) (hAb10.cell 2 (by exact rfl))) ?_
    refine r_append1E (u := .int _ _) (y := _) rfl rfl Try.underlying24 ty_3 (by exact rfl) hoo (fun _ => (by exact rfl)) (by exact rfl) (by first | exact rfl | (show _ = List.toArray [_]; first | (dsimp only; done) | exact rfl | (dsimp only; exact rfl))) ((by omega)) ((by omega)) (by omega) ?_
    intro q_v13 v13 w14 hEw14 hov13 hlv13
    have hs_w14 := (hEw14).size
    replace hV := evo_stepo hV hEw14 (fun g hg => .inl (by first | exact (hoo.block hg).1 | (have := hoo.block hg; omega)))
    replace hf := hf0 _ hV
    replace hoc := hoc.evo hEw14 (by intro g hg hm; exact hsep _ hg _ (Option.mem_toList.1 hm) rfl)
    refine r_op rfl rfl rfl (run_asg (v := v13) rfl (by exact rfl)) ?_
    refine r_nil ?_
    refine r_blk ?_
    refine r_blk ?_
    refine r_region ?_
    refine r_op rfl rfl rfl (run_add rfl (by exact rfl) (by exact rfl) (by omega) (by omega)) ?_
    refine r_op rfl rfl rfl (run_mv (v := .int _ _) rfl (by exact rfl)) ?_
    refine r_nil ?_
    refine r_again (k + 1) ?_ ?_ ?_
    ·first | omega | (dsimp only; omega)
    ·refine ⟨_, _, _, _, (by first | exact rfl | exact congrArg (Value.int _) (by omega) | exact congrArg (Value.int _) (by dsimp only; omega) | exact congrArg (Value.int _) (by simp) | exact congrArg S (by simp)), rfl, rfl, (by first | assumption | omega | (dsimp only; omega) | (simp; done)), hoc, hov13, (by first | exact hsep | exact (hsep.symm.grow hlv13 hobC (by omega)).symm | exact hsep.grow hlvc hobO (by omega) | exact (hsep.symm.same hlv13).symm), (by first | exact (shape_succ f k (by omega)).trans (shape_open hsh (by assumption)) | exact (shape_succ f k (by omega)).trans (shape_free hsh (by first | assumption | exact hc12.1) (by first | omega | (have := hc12; omega))) | exact (shape_succ f k (by omega)).trans (shape_match hsh (by first | assumption | exact hc12.1) (by omega) (by first | exact hc12 | exact hc12.2)) | exact (shape_succ f k (by omega)).trans ((shape_other (by omega) (by omega)).trans hsh)), (by first | omega | (simp only [List.length_append, List.length_cons, List.length_nil, List.length_take]; omega)), (by first | assumption | omega | (dsimp only; omega) | (simp; done)), hV⟩
    ·repeat (first | (with_reducible exact Agree.merge _ _ _) | (with_reducible exact Agree.refl _ _) | (with_reducible refine Agree.upd ?_ _ _ rfl) | ((with_reducible refine Agree.inner ?_ ?_); (kernel_rfl)))
   ·skip
    refine r_seq ?_
    refine r_region ?_
    refine r_op rfl rfl rfl (run_fa rfl (by exact rfl) fo_26_0) ?_
    refine r_op rfl rfl rfl (run_ld1 rfl ag_3 (by exact rfl) (hAb10.cell 0 (by exact rfl))) ?_
    refine r_op rfl rfl rfl (run_eql rfl (by exact rfl) (by exact rfl)) ?_
    refine r_op rfl rfl rfl (run_mv (v := .bool _) rfl (by exact rfl)) ?_
    refine r_g rfl (wantT (by exact rfl)) rfl (fun hg => run_mv (v := vo) rfl (by exact rfl)) ?_
    refine r_g rfl (wantT (by exact rfl)) rfl (fun hg => run_lenOE rfl (glv (by exact rfl) (fun h => h) hg) Try.underlying24 hoo) ?_
    refine r_g rfl (wantT (by exact rfl)) rfl (fun hg => run_eql rfl (glv (by exact rfl) (fun h => h) hg) (by exact rfl)) ?_
    refine r_op rfl rfl rfl (run_pick_and rfl (by exact rfl) (fun hq => glv (by exact rfl) (fun h => h) hq) rfl) ?_
    refine r_op rfl rfl rfl (run_asg (v := .bool _) rfl (by exact rfl)) ?_
    refine r_nil ?_
    refine r_cond (by exact rfl) (fun hc15 => ?_) (fun hc15 => ?_)
    ·skip
     refine r_region ?_
     refine r_op rfl rfl rfl (run_mv (v := vc) rfl (by exact rfl)) ?_
     refine r_op rfl rfl rfl (run_fa rfl (by exact rfl) fo_26_2) ?_
     refine r_op rfl rfl rfl (run_ld1 rfl ag_3 (by exact rfl) (hAb10.cell 2 (by exact rfl))) ?_
     refine r_append1E (u := .int _ _) (y := _) rfl rfl Try.underlying24 ty_3 (by exact rfl) hoc (fun _ => (by exact rfl)) (by exact rfl) (by first | exact rfl | (show _ = List.toArray [_]; first | (dsimp only; done) | exact rfl | (dsimp only; exact rfl))) ((by omega)) ((by omega)) (by omega) ?_
     intro q_v16 v16 w17 hEw17 hov16 hlv16
     have hs_w17 := (hEw17).size
     replace hV := evo_stepo hV hEw17 (fun g hg => .inl (by first | exact (hoc.block hg).1 | (have := hoc.block hg; omega)))
     replace hf := hf0 _ hV
     replace hoo := hoo.evo hEw17 (by intro g hg hm; exact hsep.symm _ hg _ (Option.mem_toList.1 hm) rfl)
     refine r_op rfl rfl rfl (run_asg (v := v16) rfl (by exact rfl)) ?_
     refine r_nil ?_
     refine r_blk ?_
     refine r_blk ?_
     refine r_region ?_
     refine r_op rfl rfl rfl (run_add rfl (by exact rfl) (by exact rfl) (by omega) (by omega)) ?_
     refine r_op rfl rfl rfl (run_mv (v := .int _ _) rfl (by exact rfl)) ?_
     refine r_nil ?_
     refine r_again (k + 1) ?_ ?_ ?_
     ·first | omega | (dsimp only; omega)
     ·refine ⟨_, _, _, _, (by first | exact rfl | exact congrArg (Value.int _) (by omega) | exact congrArg (Value.int _) (by dsimp only; omega) | exact congrArg (Value.int _) (by simp) | exact congrArg S (by simp)), rfl, rfl, (by first | assumption | omega | (dsimp only; omega) | (simp; done)), hov16, hoo, (by first | exact hsep | exact (hsep.symm.grow hlvo hobC (by omega)).symm | exact hsep.grow hlv16 hobO (by omega) | exact (hsep.symm.same hlvo).symm), (by first | exact (shape_succ f k (by omega)).trans (shape_open hsh (by assumption)) | exact (shape_succ f k (by omega)).trans (shape_free hsh (by first | assumption | exact hc15.1) (by first | omega | (have := hc15; omega))) | exact (shape_succ f k (by omega)).trans (shape_match hsh (by first | assumption | exact hc15.1) (by omega) (by first | exact hc15 | exact hc15.2)) | exact (shape_succ f k (by omega)).trans ((shape_other (by omega) (by omega)).trans hsh)), (by first | omega | (simp only [List.length_append, List.length_cons, List.length_nil, List.length_take]; omega)), (by first | assumption | omega | (dsimp only; omega) | (simp; done)), hV⟩
     ·repeat (first | (with_reducible exact Agree.merge _ _ _) | (with_reducible exact Agree.refl _ _) | (with_reducible refine Agree.upd ?_ _ _ rfl) | ((with_reducible refine Agree.inner ?_ ?_); (kernel_rfl)))
    ·skip
     refine r_seq ?_
     obtain ⟨ao18, g18, cp18, hv18, hr18, hg18⟩ := hoo.rowOf
     subst hv18
     refine r_qregion (by kernel_rfl) (by kernel_rfl) ?_
     refine q_op rfl rfl rfl (fun w' hC => run_fa rfl (by exact rfl) fo_26_0) ?_
     refine q_op rfl rfl rfl (fun w' hC => run_ld1 rfl ag_3 (by exact rfl) ((hAb10.evo0 hC).cell 0 (by exact rfl))) ?_
     refine q_op rfl rfl rfl (fun w' hC => run_eql rfl (by exact rfl) (by exact rfl)) ?_
     refine q_op rfl rfl rfl (fun w' hC => run_mv (v := .bool _) rfl (by exact rfl)) ?_
     refine q_g rfl (wantT (by exact rfl)) rfl (fun hg w' hC => run_mv (v := .slice _ _ _) rfl (by exact rfl)) ?_
     refine q_g rfl (wantT (by exact rfl)) rfl (fun hg w' hC => run_mv (v := .slice _ _ _) rfl (by exact rfl)) ?_
     refine q_g rfl (wantT (by exact rfl)) rfl (fun hg w' hC => run_lenSl rfl (glv (by exact rfl) (fun h => h) hg) Try.underlying24) ?_
     refine q_g rfl (wantT (by exact rfl)) rfl (fun hg w' hC => run_sub rfl (glv (by exact rfl) (fun h => h) hg) (by exact rfl) (by omega) (by omega)) ?_
     refine q_g rfl (wantT (by exact rfl)) rfl (fun hg w' hC => run_ix ((op.length - 1)) rfl Try.underlying24 ty_3 (glv (by exact rfl) (fun h => h) hg) (glv (by exact rfl) (fun h => h) hg) (by omega) (by omega) (hr18.addr (i := (op.length - 1)) (by omega))) ?_
     refine q_g rfl (wantT (by exact rfl)) rfl (fun hg w' hC => run_ld1 rfl ag_3 (glv (by exact rfl) (fun h => h) hg) (((hr18.atD ((op.length - 1)) (by omega)).evo0 hC).cell 0 (by exact rfl))) ?_
     refine q_g rfl (wantT (by exact rfl)) rfl (fun hg w' hC => run_fa rfl (by exact rfl) fo_26_2) ?_
     refine q_g rfl (wantT (by exact rfl)) rfl (fun hg w' hC => run_ld1 rfl ag_3 (glv (by exact rfl) (fun h => h) hg) ((hAb10.evo0 hC).cell 2 (by exact rfl))) ?_
     refine q_g rfl (wantT (by exact rfl)) rfl (fun hg w' hC => run_eql rfl (glv (by exact rfl) (fun h => h) hg) (glv (by exact rfl) (fun h => h) hg)) ?_
     refine q_op rfl rfl rfl (fun w' hC => run_pick_and rfl (by exact rfl) (fun hq => glv (by exact rfl) (fun h => h) hq) rfl) ?_
     refine q_op rfl rfl rfl (fun w' hC => run_asg (v := .bool _) rfl (by exact rfl)) ?_
     refine q_nil (fun w19 hE20 => ?_)
     have hs_w19 := (hE20).size
     replace hV := evo_step0 hV hE20
     replace hf := hf0 _ hV
     replace hoc := hoc.evo0 hE20
     replace hoo := hoo.evo0 hE20
     replace hbb10 := hbb10.evo0 hE20
     replace hAb10 := hAb10.evo0 hE20
     replace hr18 := hr18.evo0 hE20
     refine r_cond (by exact rfl) (fun hc21 => ?_) (fun hc21 => ?_)
     ·skip
      refine r_region ?_
      refine r_op rfl rfl rfl (run_mv (v := .slice _ _ _) rfl (by exact rfl)) ?_
      refine r_op rfl rfl rfl (run_mv (v := .slice _ _ _) rfl (by exact rfl)) ?_
      refine r_op rfl rfl rfl (run_lenSl rfl (by exact rfl) Try.underlying24) ?_
      refine r_op rfl rfl rfl (run_sub rfl (by exact rfl) (by exact rfl) (by omega) (by omega)) ?_
      refine r_cutOwn ((op.length - 1)) rfl Try.underlying24 ty_3 hoo (by exact rfl) (hi1 (by exact rfl) (by omega)) (by omega) (by omega) ?_
      intro v22 hov22 hlv22
      refine r_op rfl rfl rfl (run_asg (v := v22) rfl (by exact rfl)) ?_
      refine r_nil ?_
      refine r_blk ?_
      refine r_blk ?_
      refine r_region ?_
      refine r_op rfl rfl rfl (run_add rfl (by exact rfl) (by exact rfl) (by omega) (by omega)) ?_
      refine r_op rfl rfl rfl (run_mv (v := .int _ _) rfl (by exact rfl)) ?_
      refine r_nil ?_
      refine r_again (k + 1) ?_ ?_ ?_
      ·first | omega | (dsimp only; omega)
      ·refine ⟨_, _, _, _, (by first | exact rfl | exact congrArg (Value.int _) (by omega) | exact congrArg (Value.int _) (by dsimp only; omega) | exact congrArg (Value.int _) (by simp) | exact congrArg S (by simp)), rfl, rfl, (by first | assumption | omega | (dsimp only; omega) | (simp; done)), hoc, hov22, (by first | exact hsep | exact (hsep.symm.grow hlv22 hobC (by omega)).symm | exact hsep.grow hlvc hobO (by omega) | exact (hsep.symm.same hlv22).symm), (by first | exact (shape_succ f k (by omega)).trans (shape_open hsh (by assumption)) | exact (shape_succ f k (by omega)).trans (shape_free hsh (by first | assumption | exact hc21.1) (by first | omega | (have := hc21; omega))) | exact (shape_succ f k (by omega)).trans (shape_match hsh (by first | assumption | exact hc21.1) (by omega) (by first | exact hc21 | exact hc21.2)) | exact (shape_succ f k (by omega)).trans ((shape_other (by omega) (by omega)).trans hsh)), (by first | omega | (simp only [List.length_append, List.length_cons, List.length_nil, List.length_take]; omega)), (by first | assumption | omega | (dsimp only; omega) | (simp; done)), hV⟩
      ·repeat (first | (with_reducible exact Agree.merge _ _ _) | (with_reducible exact Agree.refl _ _) | (with_reducible refine Agree.upd ?_ _ _ rfl) | ((with_reducible refine Agree.inner ?_ ?_); (kernel_rfl)))
     ·skip
      refine r_seq ?_
      refine r_region ?_
      refine r_op rfl rfl rfl (run_fa rfl (by exact rfl) fo_26_0) ?_
      refine r_op rfl rfl rfl (run_ld1 rfl ag_3 (by exact rfl) (hAb10.cell 0 (by exact rfl))) ?_
      refine r_op rfl rfl rfl (run_eql rfl (by exact rfl) (by exact rfl)) ?_
      refine r_op rfl rfl rfl (run_asg (v := .bool _) rfl (by exact rfl)) ?_
      refine r_nil ?_
      refine r_cond (by exact rfl) (fun hc23 => ?_) (fun hc23 => ?_)
      ·skip
       refine r_seq ?_
       have hno : shapeL f = none := shape_no (by omega) hsh (by assumption) (by omega) (by omega)
       refine r_region ?_
       refine r_op rfl rfl rfl (run_asg (v := .slice _ _ _) rfl (by exact rfl)) ?_
       refine r_op rfl rfl rfl (run_asg (v := .slice _ _ _) rfl (by exact rfl)) ?_
       refine r_op rfl rfl rfl (run_asg (v := .bool _) rfl (by exact rfl)) ?_
       refine r_nil ?_
       refine r_ret (res3 (v := .slice _ _ _) (u := .slice _ _ _) (x := .bool _) rfl (by exact rfl) (by exact rfl) (by exact rfl)) ?_
       exact ⟨_, _, by rw [(sh_none hno).1], hV, by rw [(sh_none hno).2.1]; exact OwnE.nil _ _ _, by rw [(sh_none hno).2.2]; exact OwnE.nil _ _ _⟩
      ·skip
       refine r_skip ?_
       refine r_blk ?_
       refine r_blk ?_
       refine r_region ?_
       refine r_op rfl rfl rfl (run_add rfl (by exact rfl) (by exact rfl) (by omega) (by omega)) ?_
       refine r_op rfl rfl rfl (run_mv (v := .int _ _) rfl (by exact rfl)) ?_
       refine r_nil ?_
       refine r_again (k + 1) ?_ ?_ ?_
       ·first | omega | (dsimp only; omega)
       ·refine ⟨_, _, _, _, (by first | exact rfl | exact congrArg (Value.int _) (by omega) | exact congrArg (Value.int _) (by dsimp only; omega) | exact congrArg (Value.int _) (by simp) | exact congrArg S (by simp)), rfl, rfl, (by first | assumption | omega | (dsimp only; omega) | (simp; done)), hoc, hoo, (by first | exact hsep | exact (hsep.symm.grow hl.slice _ _ _ hobC (by omega)).symm | exact hsep.grow hlvc hobO (by omega) | exact (hsep.symm.same hl.slice _ _ _).symm), (by first | exact (shape_succ f k (by omega)).trans (shape_open hsh (by assumption)) | exact (shape_succ f k (by omega)).trans (shape_free hsh (by first | assumption | exact hc23.1) (by first | omega | (have := hc23; omega))) | exact (shape_succ f k (by omega)).trans (shape_match hsh (by first | assumption | exact hc23.1) (by omega) (by first | exact hc23 | exact hc23.2)) | exact (shape_succ f k (by omega)).trans ((shape_other (by omega) (by omega)).trans hsh)), (by first | omega | (simp only [List.length_append, List.length_cons, List.length_nil, List.length_take]; omega)), (by first | assumption | omega | (dsimp only; omega) | (simp; done)), hV⟩
       ·repeat (first | (with_reducible exact Agree.merge _ _ _) | (with_reducible exact Agree.refl _ _) | (with_reducible refine Agree.upd ?_ _ _ rfl) | ((with_reducible refine Agree.inner ?_ ?_); (kernel_rfl)))
  ·skip
   refine r_exit rfl ?_
   refine r_seq ?_
   rw [List.take_of_length_le (by omega)] at hsh
   refine r_region ?_
   refine r_op rfl rfl rfl (run_mv (v := vc) rfl (by exact rfl)) ?_
   refine r_op rfl rfl rfl (run_mv (v := vo) rfl (by exact rfl)) ?_
   refine r_op rfl rfl rfl (run_asg (v := vc) rfl (by exact rfl)) ?_
   refine r_op rfl rfl rfl (run_asg (v := vo) rfl (by exact rfl)) ?_
   refine r_op rfl rfl rfl (run_asg (v := .bool _) rfl (by exact rfl)) ?_
   refine r_nil ?_
   refine r_ret (res3 (v := vc) (u := vo) (x := .bool _) rfl (by exact rfl) (by exact rfl) (by exact rfl)) ?_
   exact ⟨_, _, by rw [(sh_some hsh).1], hV, by rw [(sh_some hsh).2.1]; exact hoc, by rw [(sh_some hsh).2.2]; exact hoo⟩

theorem rshape_calls {ao : Option Addr} {b off cap : Nat} {f : List Vc.Item} {w0 : World} (hf : RowE w0 ao b off cap f) (hsm : Small f) :
    Calls Try.prog 27 #[.slice ao f.length cap] w0 fun e w' => ∃ v u, e = .returned (.tuple #[v, u, .bool (shapeL f).isSome]) ∧ Evo w0 w' [] ∧ OwnE w' w0.heap.size 3 v (shC f) ∧ OwnE w' w0.heap.size 3 u (shO f) := by
 have hs1 := hsm.1
 refine calls_enter (n := 63) (args := [.slice ao f.length cap]) Try.func27 rfl Try.ntmps27 rfl ?_
 have hV : Evo w0 w0 [] := Evo.refl _ _
 have hf0 := keepE hf
 have hbd_hf := hf.bd
 refine r_seq ?_
 refine r_region ?_
 refine r_op rfl rfl rfl (run_asg (v := .slice _ _ _) rfl (by exact rfl)) ?_
 refine r_op rfl rfl rfl (run_asg (v := .slice _ _ _) rfl (by exact rfl)) ?_
 refine r_op rfl rfl rfl (run_asg (v := .bool _) rfl (by exact rfl)) ?_
 refine r_nil ?_
 refine r_seq ?_
 refine r_region ?_
 refine r_op rfl rfl rfl (run_asg (v := .slice _ _ _) rfl (by exact rfl)) ?_
 refine r_op rfl rfl rfl (run_asg (v := .slice _ _ _) rfl (by exact rfl)) ?_
 refine r_nil ?_
 refine r_seq ?_
 refine r_seq ?_
 refine r_region ?_
 refine r_op rfl rfl rfl (run_mv (v := .slice _ _ _) rfl (by exact rfl)) ?_
 refine r_op rfl rfl rfl (run_lenSl rfl (by exact rfl) Try.underlying30) ?_
 refine r_op rfl rfl rfl (run_mv (v := .int _ _) rfl (by exact rfl)) ?_
 refine r_nil ?_
 refine r_block ?_
 refine r_loop (α := Nat) [2, 3, 4, 5, 6, 7, 8, 11, 12, 13, 14, 15, 16, 17, 18, 19, 20, 21, 22, 23, 24, 25, 26, 27, 28, 29, 30, 31, 32, 33, 34, 35, 36, 37, 38, 39, 40, 41, 42, 43, 44, 45, 46, 47, 48, 49, 50, 51, 52, 53, 54, 55, 56, 57, 58, 59, 60] (fun k g w => ∃ vc : Value, ∃ vo : Value, ∃ cl : List Int, ∃ op : List Int, g 11 = .int .i64 (k : Nat) ∧ g 5 = vc ∧ g 6 = vo ∧ k ≤ f.length ∧ OwnE w w0.heap.size 3 vc cl ∧ OwnE w w0.heap.size 3 vo op ∧ Sep vc vo ∧ shapeL (f.take k) = some (cl, op) ∧ (cl.length ≤ k ∧ op.length ≤ k) ∧ w0.heap.size ≤ w.heap.size ∧ Evo w0 w []) (fun k => f.length - k) 0 ?_ ?_
 ·refine ⟨_, _, [], [], (by first | exact rfl | exact congrArg (Value.int _) (by omega) | exact congrArg (Value.int _) (by dsimp only; omega) | exact congrArg (Value.int _) (by simp) | exact congrArg S (by simp)), rfl, rfl, (by first | assumption | omega | (dsimp only; omega) | (simp; done)), (OwnE.nil _ _ _), (OwnE.nil _ _ _), (Sep.nil_l _), rfl, (by simp), (by first | assumption | omega | (dsimp only; omega) | (simp; done)), hV⟩
 ·rintro k g w2 ⟨vc, vo, cl, op, hj3, hj4, hj5, hk_k, hoc, hoo, hsep, hsh, hlen, hzl1, hV⟩
  have hs_w2hV := hV.size
  replace hf := hf0 _ hV
  refine r_know (i := 11) (v := .int .i64 (k : Nat)) (by exact hj3) ?_
  refine r_know (i := 5) (v := vc) (by exact hj4) ?_
  refine r_know (i := 6) (v := vo) (by exact hj5) ?_
  refine r_seq ?_
  refine r_region ?_
  refine r_op rfl rfl rfl (run_lss rfl (by exact rfl) (by exact rfl)) ?_
  refine r_nil ?_
  refine r_seq ?_
  refine r_cond (by exact rfl) (fun hc6 => ?_) (fun hc6 => ?_)
  ·skip
   refine r_skip ?_
   refine r_seq ?_
   refine r_block ?_
   refine r_seq ?_
   have hobC := fun g hg => (hoc.block (g := g) hg).2; have hobO := fun g hg => (hoo.block (g := g) hg).2
   refine r_region ?_
   refine r_op rfl rfl rfl (run_mv (v := .int _ _) rfl (by exact rfl)) ?_
   refine r_op rfl rfl rfl (run_asg (v := .int _ _) rfl (by exact rfl)) ?_
   refine r_nil ?_
   refine r_seq ?_
   refine r_region ?_
   refine r_op rfl rfl rfl (run_mv (v := .slice _ _ _) rfl (by exact rfl)) ?_
   refine r_op rfl rfl rfl (run_mv (v := .int _ _) rfl (by exact rfl)) ?_
   refine r_op rfl rfl rfl (run_ix (k) rfl Try.underlying30 ty_26 (by exact rfl) (by exact rfl) (by first | exact rfl | omega) (by omega) (hf.addr (i := k) (by omega))) ?_
   have hA70 := fun (w' : World) (h : Evo w0 w' []) => (hf0 w' h).atD (k) (by omega)
   have hA7 := hA70 _ hV
   refine r_op rfl rfl rfl (run_fa rfl (by exact rfl) fo_26_0) ?_
   refine r_op rfl rfl rfl (run_ld1 rfl ag_3 (by exact rfl) (hA7.cell 0 (by exact rfl))) ?_
   refine r_nil ?_
   refine r_block ?_
   refine r_seq ?_
   refine r_region ?_
   refine r_op rfl rfl rfl (run_eql rfl (by exact rfl) (by exact rfl)) ?_
   refine r_op rfl rfl rfl (run_asg (v := .bool _) rfl (by exact rfl)) ?_
   refine r_nil ?_
   refine r_cond (by exact rfl) (fun hc8 => ?_) (fun hc8 => ?_)
   ·skip
    refine r_region ?_
    refine r_op rfl rfl rfl (run_mv (v := vo) rfl (by exact rfl)) ?_
    refine r_op rfl rfl rfl (run_mv (v := .slice _ _ _) rfl (by exact rfl)) ?_
    refine r_op rfl rfl rfl (run_mv (v := .int _ _) rfl (by exact rfl)) ?_
    refine r_op rfl rfl rfl (run_ix (k) rfl Try.underlying30 ty_26 (by exact rfl) (by exact rfl) (by first | exact rfl | omega) (by omega) (hf.addr (i := k) (by omega))) ?_
    have hA90 := fun (w' : World) (h : Evo w0 w' []) => (hf0 w' h).atD (k) (by omega)
    have hA9 := hA90 _ hV
    refine r_op rfl rfl rfl (run_fa rfl (by exact rfl) fo_26_2) ?_
    refine r_op rfl rfl rfl (run_ld1 rfl ag_3 (by exact rfl) (hA9.cell 2 (by exact rfl))) ?_
    refine r_append1E (u := .int _ _) (y := _) rfl rfl Try.underlying24 ty_3 (by exact rfl) hoo (fun _ => (by exact rfl)) (by exact rfl) (by first | exact rfl | (show _ = List.toArray [_]; first | (dsimp only; done) | exact rfl | (dsimp only; exact rfl))) ((by omega)) ((by omega)) (by omega) ?_
    intro q_v10 v10 w11 hEw11 hov10 hlv10
    have hs_w11 := (hEw11).size
    replace hV := evo_stepo hV hEw11 (fun g hg => .inl (by first | exact (hoo.block hg).1 | (have := hoo.block hg; omega)))
    replace hf := hf0 _ hV
    replace hoc := hoc.evo hEw11 (by intro g hg hm; exact hsep _ hg _ (Option.mem_toList.1 hm) rfl)
    refine r_op rfl rfl rfl (run_asg (v := v10) rfl (by exact rfl)) ?_
    refine r_nil ?_
    refine r_blk ?_
    refine r_blk ?_
    refine r_region ?_
    refine r_op rfl rfl rfl (run_add rfl (by exact rfl) (by exact rfl) (by omega) (by omega)) ?_
    refine r_op rfl rfl rfl (run_mv (v := .int _ _) rfl (by exact rfl)) ?_
    refine r_nil ?_
    refine r_again (k + 1) ?_ ?_ ?_
    ·first | omega | (dsimp only; omega)
    ·refine ⟨_, _, _, _, (by first | exact rfl | exact congrArg (Value.int _) (by omega) | exact congrArg (Value.int _) (by dsimp only; omega) | exact congrArg (Value.int _) (by simp) | exact congrArg S (by simp)), rfl, rfl, (by first | assumption | omega | (dsimp only; omega) | (simp; done)), hoc, hov10, (by first | exact hsep | exact (hsep.symm.grow hlv10 hobC (by omega)).symm | exact hsep.grow hlvc hobO (by omega) | exact (hsep.symm.same hlv10).symm), (by first | exact (shape_succ f k (by omega)).trans (shape_open hsh (by assumption)) | exact (shape_succ f k (by omega)).trans (shape_free hsh (by first | assumption | exact hc8.1) (by first | omega | (have := hc8; omega))) | exact (shape_succ f k (by omega)).trans (shape_match hsh (by first | assumption | exact hc8.1) (by omega) (by first | exact hc8 | exact hc8.2)) | exact (shape_succ f k (by omega)).trans ((shape_other (by omega) (by omega)).trans hsh)), (by first | omega | (simp only [List.length_append, List.length_cons, List.length_nil, List.length_take]; omega)), (by first | assumption | omega | (dsimp only; omega) | (simp; done)), hV⟩
    ·repeat (first | (with_reducible exact Agree.merge _ _ _) | (with_reducible exact Agree.refl _ _) | (with_reducible refine Agree.upd ?_ _ _ rfl) | ((with_reducible refine Agree.inner ?_ ?_); (kernel_rfl)))
   ·skip
    refine r_seq ?_
    refine r_region ?_
    refine r_op rfl rfl rfl (run_eql rfl (by exact rfl) (by exact rfl)) ?_
    refine r_op rfl rfl rfl (run_asg (v := .bool _) rfl (by exact rfl)) ?_
    refine r_nil ?_
    refine r_cond (by exact rfl) (fun hc12 => ?_) (fun hc12 => ?_)
    ·skip
     refine r_seq ?_
     refine r_region ?_
     refine r_op rfl rfl rfl (run_mv (v := vo) rfl (by exact rfl)) ?_
     refine r_op rfl rfl rfl (run_lenOE rfl (by exact rfl) Try.underlying24 hoo) ?_
     refine r_op rfl rfl rfl (run_asg (v := .int _ _) rfl (by exact rfl)) ?_
     refine r_nil ?_
     refine r_block ?_
     refine r_seq ?_
     refine r_region ?_
     refine r_op rfl rfl rfl (run_mv (v := .int _ _) rfl (by exact rfl)) ?_
     refine r_op rfl rfl rfl (run_eql rfl (by exact rfl) (by exact rfl)) ?_
     refine r_op rfl rfl rfl (run_asg (v := .bool _) rfl (by exact rfl)) ?_
     refine r_nil ?_
     refine r_cond (by exact rfl) (fun hc13 => ?_) (fun hc13 => ?_)
     ·skip
      refine r_region ?_
      refine r_op rfl rfl rfl (run_mv (v := vc) rfl (by exact rfl)) ?_
      refine r_op rfl rfl rfl (run_mv (v := .slice _ _ _) rfl (by exact rfl)) ?_
      refine r_op rfl rfl rfl (run_mv (v := .int _ _) rfl (by exact rfl)) ?_
      refine r_op rfl rfl rfl (run_ix (k) rfl Try.underlying30 ty_26 (by exact rfl) (by exact rfl) (by first | exact rfl | omega) (by omega) (hf.addr (i := k) (by omega))) ?_
      have hA140 := fun (w' : World) (h : Evo w0 w' []) => (hf0 w' h).atD (k) (by omega)
      have hA14 := hA140 _ hV
      refine r_op rfl rfl rfl (run_fa rfl (by exact rfl) fo_26_2) ?_
      refine r_op rfl rfl rfl (run_ld1 rfl ag_3 (by exact rfl) (hA14.cell 2 (by exact rfl))) ?_
      refine r_append1E (u := .int _ _) (y := _) rfl rfl Try.underlying24 ty_3 (by exact rfl) hoc (fun _ => (by exact rfl)) (by exact rfl) (by first | exact rfl | (show _ = List.toArray [_]; first | (dsimp only; done) | exact rfl | (dsimp only; exact rfl))) ((by omega)) ((by omega)) (by omega) ?_
      intro q_v15 v15 w16 hEw16 hov15 hlv15
      have hs_w16 := (hEw16).size
      replace hV := evo_stepo hV hEw16 (fun g hg => .inl (by first | exact (hoc.block hg).1 | (have := hoc.block hg; omega)))
      replace hf := hf0 _ hV
      replace hoo := hoo.evo hEw16 (by intro g hg hm; exact hsep.symm _ hg _ (Option.mem_toList.1 hm) rfl)
      refine r_op rfl rfl rfl (run_asg (v := v15) rfl (by exact rfl)) ?_
      refine r_nil ?_
      refine r_blk ?_
      refine r_blk ?_
      refine r_blk ?_
      refine r_region ?_
      refine r_op rfl rfl rfl (run_add rfl (by exact rfl) (by exact rfl) (by omega) (by omega)) ?_
      refine r_op rfl rfl rfl (run_mv (v := .int _ _) rfl (by exact rfl)) ?_
      refine r_nil ?_
      refine r_again (k + 1) ?_ ?_ ?_
      ·first | omega | (dsimp only; omega)
      ·refine ⟨_, _, _, _, (by first | exact rfl | exact congrArg (Value.int _) (by omega) | exact congrArg (Value.int _) (by dsimp only; omega) | exact congrArg (Value.int _) (by simp) | exact congrArg S (by simp)), rfl, rfl, (by first | assumption | omega | (dsimp only; omega) | (simp; done)), hov15, hoo, (by first | exact hsep | exact (hsep.symm.grow hlvo hobC (by omega)).symm | exact hsep.grow hlv15 hobO (by omega) | exact (hsep.symm.same hlvo).symm), (by first | exact (shape_succ f k (by omega)).trans (shape_open hsh (by assumption)) | exact (shape_succ f k (by omega)).trans (shape_free hsh (by first | assumption | exact hc13.1) (by first | omega | (have := hc13; omega))) | exact (shape_succ f k (by omega)).trans (shape_match hsh (by first | assumption | exact hc13.1) (by omega) (by first | exact hc13 | exact hc13.2)) | exact (shape_succ f k (by omega)).trans ((shape_other (by omega) (by omega)).trans hsh)), (by first | omega | (simp only [List.length_append, List.length_cons, List.length_nil, List.length_take]; omega)), (by first | assumption | omega | (dsimp only; omega) | (simp; done)), hV⟩
      ·repeat (first | (with_reducible exact Agree.merge _ _ _) | (with_reducible exact Agree.refl _ _) | (with_reducible refine Agree.upd ?_ _ _ rfl) | ((with_reducible refine Agree.inner ?_ ?_); (kernel_rfl)))
     ·skip
      refine r_seq ?_
      obtain ⟨ao17, g17, cp17, hv17, hr17, hg17⟩ := hoo.rowOf
      subst hv17
      refine r_qregion (by kernel_rfl) (by kernel_rfl) ?_
      refine q_op rfl rfl rfl (fun w' hC => run_mv (v := .slice _ _ _) rfl (by exact rfl)) ?_
      refine q_op rfl rfl rfl (fun w' hC => run_mv (v := .int _ _) rfl (by exact rfl)) ?_
      refine q_op rfl rfl rfl (fun w' hC => run_sub rfl (by exact rfl) (by exact rfl) (by omega) (by omega)) ?_
      refine q_op rfl rfl rfl (fun w' hC => run_ix ((op.length - 1)) rfl Try.underlying24 ty_3 (by exact rfl) (by exact rfl) (by omega) (by omega) (hr17.addr (i := (op.length - 1)) (by omega))) ?_
      have hA18 := hr17.atD ((op.length - 1)) (by omega)
      refine q_op rfl rfl rfl (fun w' hC => run_ld1 rfl ag_3 (by exact rfl) ((hA18.evo0 hC).cell 0 (by exact rfl))) ?_
      refine q_op rfl rfl rfl (fun w' hC => run_mv (v := .slice _ _ _) rfl (by exact rfl)) ?_
      refine q_op rfl rfl rfl (fun w' hC => run_mv (v := .int _ _) rfl (by exact rfl)) ?_
      refine q_op rfl rfl rfl (fun w' hC => run_ix (k) rfl Try.underlying30 ty_26 (by exact rfl) (by exact rfl) (by first | exact rfl | omega) (by omega) (hf.addr (i := k) (by omega))) ?_
      have hA190 := fun (w' : World) (h : Evo w0 w' []) => (hf0 w' h).atD (k) (by omega)
      have hA19 := hA190 _ hV
      refine q_op rfl rfl rfl (fun w' hC => run_fa rfl (by exact rfl) fo_26_2) ?_
      refine q_op rfl rfl rfl (fun w' hC => run_ld1 rfl ag_3 (by exact rfl) ((hA19.evo0 hC).cell 2 (by exact rfl))) ?_
      refine q_op rfl rfl rfl (fun w' hC => run_eql rfl (by exact rfl) (by exact rfl)) ?_
      refine q_op rfl rfl rfl (fun w' hC => run_asg (v := .bool _) rfl (by exact rfl)) ?_
      refine q_nil (fun w20 hE21 => ?_)
      have hs_w20 := (hE21).size
      replace hV := evo_step0 hV hE21
      replace hf := hf0 _ hV
      replace hoc := hoc.evo0 hE21
      replace hoo := hoo.evo0 hE21
      replace hr17 := hr17.evo0 hE21
      refine r_cond (by exact rfl) (fun hc22 => ?_) (fun hc22 => ?_)
      ·skip
       refine r_region ?_
       refine r_op rfl rfl rfl (run_mv (v := .slice _ _ _) rfl (by exact rfl)) ?_
       refine r_op rfl rfl rfl (run_mv (v := .int _ _) rfl (by exact rfl)) ?_
       refine r_op rfl rfl rfl (run_sub rfl (by exact rfl) (by exact rfl) (by omega) (by omega)) ?_
       refine r_cutOwn ((op.length - 1)) rfl Try.underlying24 ty_3 hoo (by exact rfl) (hi1 (by exact rfl) (by omega)) (by omega) (by omega) ?_
       intro v23 hov23 hlv23
       refine r_op rfl rfl rfl (run_asg (v := v23) rfl (by exact rfl)) ?_
       refine r_nil ?_
       refine r_blk ?_
       refine r_blk ?_
       refine r_blk ?_
       refine r_region ?_
       refine r_op rfl rfl rfl (run_add rfl (by exact rfl) (by exact rfl) (by omega) (by omega)) ?_
       refine r_op rfl rfl rfl (run_mv (v := .int _ _) rfl (by exact rfl)) ?_
       refine r_nil ?_
       refine r_again (k + 1) ?_ ?_ ?_
       ·first | omega | (dsimp only; omega)
       ·refine ⟨_, _, _, _, (by first | exact rfl | exact congrArg (Value.int _) (by omega) | exact congrArg (Value.int _) (by dsimp only; omega) | exact congrArg (Value.int _) (by simp) | exact congrArg S (by simp)), rfl, rfl, (by first | assumption | omega | (dsimp only; omega) | (simp; done)), hoc, hov23, (by first | exact hsep | exact (hsep.symm.grow hlv23 hobC (by omega)).symm | exact hsep.grow hlvc hobO (by omega) | exact (hsep.symm.same hlv23).symm), (by first | exact (shape_succ f k (by omega)).trans (shape_open hsh (by assumption)) | exact (shape_succ f k (by omega)).trans (shape_free hsh (by first | assumption | exact hc22.1) (by first | omega | (have := hc22; omega))) | exact (shape_succ f k (by omega)).trans (shape_match hsh (by first | assumption | exact hc22.1) (by omega) (by first | exact hc22 | exact hc22.2)) | exact (shape_succ f k (by omega)).trans ((shape_other (by omega) (by omega)).trans hsh)), (by first | omega | (simp only [List.length_append, List.length_cons, List.length_nil, List.length_take]; omega)), (by first | assumption | omega | (dsimp only; omega) | (simp; done)), hV⟩
       ·repeat (first | (with_reducible exact Agree.merge _ _ _) | (with_reducible exact Agree.refl _ _) | (with_reducible refine Agree.upd ?_ _ _ rfl) | ((with_reducible refine Agree.inner ?_ ?_); (kernel_rfl)))
      ·skip
       refine r_seq ?_
       have hno : shapeL f = none := shape_no (by omega) hsh (by assumption) (by omega) (by omega)
       refine r_region ?_
       refine r_op rfl rfl rfl (run_asg (v := .slice _ _ _) rfl (by exact rfl)) ?_
       refine r_op rfl rfl rfl (run_asg (v := .slice _ _ _) rfl (by exact rfl)) ?_
       refine r_op rfl rfl rfl (run_asg (v := .bool _) rfl (by exact rfl)) ?_
       refine r_nil ?_
       refine r_ret (res3 (v := .slice _ _ _) (u := .slice _ _ _) (x := .bool _) rfl (by exact rfl) (by exact rfl) (by exact rfl)) ?_
       exact ⟨_, _, by rw [(sh_none hno).1], hV, by rw [(sh_none hno).2.1]; exact OwnE.nil _ _ _, by rw [(sh_none hno).2.2]; exact OwnE.nil _ _ _⟩
    ·skip
     refine r_skip ?_
     refine r_blk ?_
     refine r_blk ?_
     refine r_region ?_
     refine r_op rfl rfl rfl (run_add rfl (by exact rfl) (by exact rfl) (by omega) (by omega)) ?_
     refine r_op rfl rfl rfl (run_mv (v := .int _ _) rfl (by exact rfl)) ?_
     refine r_nil ?_
     refine r_again (k + 1) ?_ ?_ ?_
     ·first | omega | (dsimp only; omega)
     ·refine ⟨_, _, _, _, (by first | exact rfl | exact congrArg (Value.int _) (by omega) | exact congrArg (Value.int _) (by dsimp only; omega) | exact congrArg (Value.int _) (by simp) | exact congrArg S (by simp)), rfl, rfl, (by first | assumption | omega | (dsimp only; omega) | (simp; done)), hoc, hoo, (by first | exact hsep | exact (hsep.symm.grow hlvo hobC (by omega)).symm | exact hsep.grow hlvc hobO (by omega) | exact (hsep.symm.same hlvo).symm), (by first | exact (shape_succ f k (by omega)).trans (shape_open hsh (by assumption)) | exact (shape_succ f k (by omega)).trans (shape_free hsh (by first | assumption | exact hc12.1) (by first | omega | (have := hc12; omega))) | exact (shape_succ f k (by omega)).trans (shape_match hsh (by first | assumption | exact hc12.1) (by omega) (by first | exact hc12 | exact hc12.2)) | exact (shape_succ f k (by omega)).trans ((shape_other (by omega) (by omega)).trans hsh)), (by first | omega | (simp only [List.length_append, List.length_cons, List.length_nil, List.length_take]; omega)), (by first | assumption | omega | (dsimp only; omega) | (simp; done)), hV⟩
     ·repeat (first | (with_reducible exact Agree.merge _ _ _) | (with_reducible exact Agree.refl _ _) | (with_reducible refine Agree.upd ?_ _ _ rfl) | ((with_reducible refine Agree.inner ?_ ?_); (kernel_rfl)))
  ·skip
   refine r_exit rfl ?_
   refine r_seq ?_
   rw [List.take_of_length_le (by omega)] at hsh
   refine r_region ?_
   refine r_op rfl rfl rfl (run_mv (v := vc) rfl (by exact rfl)) ?_
   refine r_op rfl rfl rfl (run_mv (v := vo) rfl (by exact rfl)) ?_
   refine r_op rfl rfl rfl (run_asg (v := vc) rfl (by exact rfl)) ?_
   refine r_op rfl rfl rfl (run_asg (v := vo) rfl (by exact rfl)) ?_
   refine r_op rfl rfl rfl (run_asg (v := .bool _) rfl (by exact rfl)) ?_
   refine r_nil ?_
   refine r_ret (res3 (v := vc) (u := vo) (x := .bool _) rfl (by exact rfl) (by exact rfl) (by exact rfl)) ?_
   exact ⟨_, _, by rw [(sh_some hsh).1], hV, by rw [(sh_some hsh).2.1]; exact hoc, by rw [(sh_some hsh).2.2]; exact hoo⟩

theorem sameints_calls {aoa aob : Option Addr} {ba offa capa bb offb capb : Nat} {a b : List Int} {w0 : World} (ha : RowE w0 aoa ba offa capa a) (hb : RowE w0 aob bb offb capb b) :
    Calls Try.prog 28 #[.slice aoa a.length capa, .slice aob b.length capb] w0 fun e w' => e = .returned (.bool (decide (a = b))) ∧ Evo w0 w' [] := by
 refine calls_enter (n := 26) (args := [.slice aoa a.length capa, .slice aob b.length capb]) Try.func28 rfl Try.ntmps28 rfl ?_
 have hV : Evo w0 w0 [] := Evo.refl _ _
 have ha0 := keepE ha
 have hbd_ha := ha.bd
 have hb0 := keepE hb
 have hbd_hb := hb.bd
 refine r_seq ?_
 refine r_region ?_
 refine r_op rfl rfl rfl (run_asg (v := .bool _) rfl (by exact rfl)) ?_
 refine r_nil ?_
 refine r_seq ?_
 refine r_seq ?_
 refine r_region ?_
 refine r_op rfl rfl rfl (run_mv (v := .slice _ _ _) rfl (by exact rfl)) ?_
 refine r_op rfl rfl rfl (run_lenSl rfl (by exact rfl) Try.underlying24) ?_
 refine r_op rfl rfl rfl (run_mv (v := .slice _ _ _) rfl (by exact rfl)) ?_
 refine r_op rfl rfl rfl (run_lenSl rfl (by exact rfl) Try.underlying24) ?_
 refine r_op rfl rfl rfl (run_neq rfl (by exact rfl) (by exact rfl)) ?_
 refine r_nil ?_
 refine r_cond (by exact rfl) (fun hc1 => ?_) (fun hc1 => ?_)
 ·skip
  refine r_seq ?_
  refine r_region ?_
  refine r_op rfl rfl rfl (run_asg (v := .bool _) rfl (by exact rfl)) ?_
  refine r_nil ?_
  refine r_ret (res1 (v := .bool _) rfl (by exact rfl)) ?_
  exact ⟨by rw [decide_eq_false (fun h => by subst h; omega)], hV⟩
 ·skip
  refine r_skip ?_
  refine r_seq ?_
  refine r_seq ?_
  refine r_region ?_
  refine r_op rfl rfl rfl (run_mv (v := .slice _ _ _) rfl (by exact rfl)) ?_
  refine r_op rfl rfl rfl (run_lenSl rfl (by exact rfl) Try.underlying24) ?_
  refine r_op rfl rfl rfl (run_mv (v := .int _ _) rfl (by exact rfl)) ?_
  refine r_nil ?_
  refine r_block ?_
  refine r_loop (α := Nat) [4, 5, 13, 14, 15, 16, 17, 18, 19, 20, 21, 22, 23, 24, 25] (fun k g w => g 13 = .int .i64 (k : Nat) ∧ k ≤ a.length ∧ a.take k = b.take k ∧ w0.heap.size ≤ w.heap.size ∧ Evo w0 w []) (fun k => a.length - k) 0 ?_ ?_
  ·refine ⟨(by first | exact rfl | exact congrArg (Value.int _) (by omega) | exact congrArg (Value.int _) (by dsimp only; omega) | exact congrArg (Value.int _) (by simp) | exact congrArg S (by simp)), (by first | assumption | omega | (dsimp only; omega) | (simp; done)), (by simp), (by first | assumption | omega | (dsimp only; omega) | (simp; done)), hV⟩
  ·rintro k g w3 ⟨hj4, hk_k, hpre, hzl2, hV⟩
   have hs_w3hV := hV.size
   replace ha := ha0 _ hV
   replace hb := hb0 _ hV
   refine r_know (i := 13) (v := .int .i64 (k : Nat)) (by exact hj4) ?_
   refine r_seq ?_
   refine r_region ?_
   refine r_op rfl rfl rfl (run_lss rfl (by exact rfl) (by exact rfl)) ?_
   refine r_nil ?_
   refine r_seq ?_
   refine r_cond (by exact rfl) (fun hc5 => ?_) (fun hc5 => ?_)
   ·skip
    refine r_skip ?_
    refine r_seq ?_
    refine r_block ?_
    refine r_seq ?_
    refine r_region ?_
    refine r_op rfl rfl rfl (run_mv (v := .int _ _) rfl (by exact rfl)) ?_
    refine r_op rfl rfl rfl (run_asg (v := .int _ _) rfl (by exact rfl)) ?_
    refine r_nil ?_
    refine r_seq ?_
    refine r_qregion (by kernel_rfl) (by kernel_rfl) ?_
    refine q_op rfl rfl rfl (fun w' hC => run_mv (v := .slice _ _ _) rfl (by exact rfl)) ?_
    refine q_op rfl rfl rfl (fun w' hC => run_mv (v := .int _ _) rfl (by exact rfl)) ?_
    refine q_op rfl rfl rfl (fun w' hC => run_ix (k) rfl Try.underlying24 ty_3 (by exact rfl) (by exact rfl) (by first | exact rfl | omega) (by omega) (ha.addr (i := k) (by omega))) ?_
    have hA60 := fun (w' : World) (h : Evo w0 w' []) => (ha0 w' h).atD (k) (by omega)
    have hA6 := hA60 _ hV
    refine q_op rfl rfl rfl (fun w' hC => run_ld1 rfl ag_3 (by exact rfl) ((hA6.evo0 hC).cell 0 (by exact rfl))) ?_
    refine q_op rfl rfl rfl (fun w' hC => run_mv (v := .slice _ _ _) rfl (by exact rfl)) ?_
    refine q_op rfl rfl rfl (fun w' hC => run_mv (v := .int _ _) rfl (by exact rfl)) ?_
    refine q_op rfl rfl rfl (fun w' hC => run_ix (k) rfl Try.underlying24 ty_3 (by exact rfl) (by exact rfl) (by first | exact rfl | omega) (by omega) (hb.addr (i := k) (by omega))) ?_
    have hA70 := fun (w' : World) (h : Evo w0 w' []) => (hb0 w' h).atD (k) (by omega)
    have hA7 := hA70 _ hV
    refine q_op rfl rfl rfl (fun w' hC => run_ld1 rfl ag_3 (by exact rfl) ((hA7.evo0 hC).cell 0 (by exact rfl))) ?_
    refine q_op rfl rfl rfl (fun w' hC => run_neq rfl (by exact rfl) (by exact rfl)) ?_
    refine q_nil (fun w8 hE9 => ?_)
    have hs_w8 := (hE9).size
    replace hV := evo_step0 hV hE9
    replace ha := ha0 _ hV
    replace hb := hb0 _ hV
    refine r_cond (by exact rfl) (fun hc10 => ?_) (fun hc10 => ?_)
    ·skip
     refine r_seq ?_
     refine r_region ?_
     refine r_op rfl rfl rfl (run_asg (v := .bool _) rfl (by exact rfl)) ?_
     refine r_nil ?_
     refine r_ret (res1 (v := .bool _) rfl (by exact rfl)) ?_
     exact ⟨by rw [decide_eq_false (fun h => by subst h; exact hc10 rfl)], hV⟩
    ·skip
     refine r_skip ?_
     refine r_blk ?_
     refine r_region ?_
     refine r_op rfl rfl rfl (run_add rfl (by exact rfl) (by exact rfl) (by omega) (by omega)) ?_
     refine r_op rfl rfl rfl (run_mv (v := .int _ _) rfl (by exact rfl)) ?_
     refine r_nil ?_
     refine r_again (k + 1) ?_ ?_ ?_
     ·first | omega | (dsimp only; omega)
     ·refine ⟨(by first | exact rfl | exact congrArg (Value.int _) (by omega) | exact congrArg (Value.int _) (by dsimp only; omega) | exact congrArg (Value.int _) (by simp) | exact congrArg S (by simp)), (by first | assumption | omega | (dsimp only; omega) | (simp; done)), (take_bothI hpre (by omega) (by omega) (Classical.not_not.1 hc10)), (by first | assumption | omega | (dsimp only; omega) | (simp; done)), hV⟩
     ·repeat (first | (with_reducible exact Agree.merge _ _ _) | (with_reducible exact Agree.refl _ _) | (with_reducible refine Agree.upd ?_ _ _ rfl) | ((with_reducible refine Agree.inner ?_ ?_); (kernel_rfl)))
   ·skip
    refine r_exit rfl ?_
    refine r_seq ?_
    refine r_region ?_
    refine r_op rfl rfl rfl (run_asg (v := .bool _) rfl (by exact rfl)) ?_
    refine r_nil ?_
    refine r_ret (res1 (v := .bool _) rfl (by exact rfl)) ?_
    exact ⟨by rw [decide_eq_true (by rw [List.take_of_length_le (by omega), List.take_of_length_le (by omega)] at hpre; exact hpre)], hV⟩

end Go.Proofs.Ytkdgoghmkmpfnaa
