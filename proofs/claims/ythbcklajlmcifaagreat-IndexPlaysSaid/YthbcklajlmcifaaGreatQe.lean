/-
  Library, plain laws and walks that the statements reach (joined by a program out of smaller texts).
-/
import Derived.Test.YthbcklajlmcifaaGreatQd
import Derived.Test.YthbcklajlmcifaaGreatQc
import Derived.Test.YthbcklajlmcifaaGreatQa
set_option linter.unusedVariables false
set_option linter.unusedSimpArgs false
namespace Go.Proofs.YthbcklajlmcifaaGreat
open Go.RowKit Go.Vc
theorem fo_62_0 : fieldP Tryz.prog 62 0 = some 0 := by kernel_rfl
theorem fo_62_1 : fieldP Tryz.prog 62 1 = some 1 := by kernel_rfl
theorem fo_62_2 : fieldP Tryz.prog 62 2 = some 2 := by kernel_rfl
theorem pl_52 : placesP Tryz.prog 52 = some [(0, 1), (1, 1), (2, 1)] := by kernel_rfl
theorem ty_52 : tyP Tryz.prog 52 = some (3, 24, some (.agg #[(.map none), (.map none), (.map none)])) := by kernel_rfl
theorem sameints_calls {aoa aob : Option Addr} {ba offa capa bb offb capb : Nat} {a b : List Int} {w0 : World} (ha : RowE w0 aoa ba offa capa a) (hb : RowE w0 aob bb offb capb b) :
    Calls Tryz.prog 11 #[.slice aoa a.length capa, .slice aob b.length capb] w0 fun e w' => e = .returned (.bool (decide (a = b))) ∧ Evo w0 w' [] := by
 refine calls_enter (n := 26) (args := [.slice aoa a.length capa, .slice aob b.length capb]) Tryz.func11 rfl Tryz.ntmps11 rfl ?_
 have hV : Evo w0 w0 [] := Evo.refl _ _
 have ha0 := keepE ha
 have hbd_ha := ha.bd
 have hb0 := keepE hb
 have hbd_hb := hb.bd
 refine r_seq ?_
 refine r_region ?_
 refine r_op rfl rfl rfl (run_asg (v := .bool _) rfl (by exact rfl)) ?_
 refine r_nil ?_
 refine r_seq ?_
 refine r_seq ?_
 refine r_region ?_
 refine r_op rfl rfl rfl (run_mv (v := .slice _ _ _) rfl (by exact rfl)) ?_
 refine r_op rfl rfl rfl (run_lenSl rfl (by exact rfl) Tryz.underlying22) ?_
 refine r_op rfl rfl rfl (run_mv (v := .slice _ _ _) rfl (by exact rfl)) ?_
 refine r_op rfl rfl rfl (run_lenSl rfl (by exact rfl) Tryz.underlying22) ?_
 refine r_op rfl rfl rfl (run_neq rfl (by exact rfl) (by exact rfl)) ?_
 refine r_nil ?_
 refine r_cond (by exact rfl) (fun hc1 => ?_) (fun hc1 => ?_)
 ·skip
  refine r_seq ?_
  refine r_region ?_
  refine r_op rfl rfl rfl (run_asg (v := .bool _) rfl (by exact rfl)) ?_
  refine r_nil ?_
  refine r_ret (res1 (v := .bool _) rfl (by exact rfl)) ?_
  exact ⟨by rw [decide_eq_false (fun h => by subst h; omega)], hV⟩
 ·skip
  refine r_skip ?_
  refine r_seq ?_
  refine r_seq ?_
  refine r_region ?_
  refine r_op rfl rfl rfl (run_mv (v := .slice _ _ _) rfl (by exact rfl)) ?_
  refine r_op rfl rfl rfl (run_lenSl rfl (by exact rfl) Tryz.underlying22) ?_
  refine r_op rfl rfl rfl (run_mv (v := .int _ _) rfl (by exact rfl)) ?_
  refine r_nil ?_
  refine r_block ?_
  refine r_loop (α := Nat) [4, 5, 13, 14, 15, 16, 17, 18, 19, 20, 21, 22, 23, 24, 25] (fun k g w => g 13 = .int .i64 (k : Nat) ∧ k ≤ a.length ∧ a.take k = b.take k ∧ w0.heap.size ≤ w.heap.size ∧ Evo w0 w []) (fun k => a.length - k) 0 ?_ ?_
  ·refine ⟨(by first | exact rfl | exact congrArg (Value.int _) (by omega) | exact congrArg (Value.int _) (by dsimp only; omega) | exact congrArg (Value.int _) (by simp) | exact congrArg S (by simp)), (by first | assumption | omega | (dsimp only; omega) | (simp; done)), (by simp), (by first | assumption | omega | (dsimp only; omega) | (simp; done)), hV⟩
  ·rintro k g w3 ⟨hj4, hk_k, hpre, hzl2, hV⟩
   have hs_w3hV := hV.size
   replace ha := ha0 _ hV
   replace hb := hb0 _ hV
   refine r_know (i := 13) (v := .int .i64 (k : Nat)) (by exact hj4) ?_
   refine r_seq ?_
   refine r_region ?_
   refine r_op rfl rfl rfl (run_lss rfl (by exact rfl) (by exact rfl)) ?_
   refine r_nil ?_
   refine r_seq ?_
   refine r_cond (by exact rfl) (fun hc5 => ?_) (fun hc5 => ?_)
   ·skip
    refine r_skip ?_
    refine r_seq ?_
    refine r_block ?_
    refine r_seq ?_
    refine r_region ?_
    refine r_op rfl rfl rfl (run_mv (v := .int _ _) rfl (by exact rfl)) ?_
    refine r_op rfl rfl rfl (run_asg (v := .int _ _) rfl (by exact rfl)) ?_
    refine r_nil ?_
    refine r_seq ?_
    refine r_qregion (by kernel_rfl) (by kernel_rfl) ?_
    refine q_op rfl rfl rfl (fun w' hC => run_mv (v := .slice _ _ _) rfl (by exact rfl)) ?_
    refine q_op rfl rfl rfl (fun w' hC => run_mv (v := .int _ _) rfl (by exact rfl)) ?_
    refine q_op rfl rfl rfl (fun w' hC => run_ix (k) rfl Tryz.underlying22 ty_3 (by exact rfl) (by exact rfl) (by first | exact rfl | omega) (by omega) (ha.addr (i := k) (by omega))) ?_
    have hA60 := fun (w' : World) (h : Evo w0 w' []) => (ha0 w' h).atD (k) (by omega)
    have hA6 := hA60 _ hV
    refine q_op rfl rfl rfl (fun w' hC => run_ld1 rfl ag_3 (by exact rfl) ((hA6.evo0 hC).cell 0 (by exact rfl))) ?_
    refine q_op rfl rfl rfl (fun w' hC => run_mv (v := .slice _ _ _) rfl (by exact rfl)) ?_
    refine q_op rfl rfl rfl (fun w' hC => run_mv (v := .int _ _) rfl (by exact rfl)) ?_
    refine q_op rfl rfl rfl (fun w' hC => run_ix (k) rfl Tryz.underlying22 ty_3 (by exact rfl) (by exact rfl) (by first | exact rfl | omega) (by omega) (hb.addr (i := k) (by omega))) ?_
    have hA70 := fun (w' : World) (h : Evo w0 w' []) => (hb0 w' h).atD (k) (by omega)
    have hA7 := hA70 _ hV
    refine q_op rfl rfl rfl (fun w' hC => run_ld1 rfl ag_3 (by exact rfl) ((hA7.evo0 hC).cell 0 (by exact rfl))) ?_
    refine q_op rfl rfl rfl (fun w' hC => run_neq rfl (by exact rfl) (by exact rfl)) ?_
    refine q_nil (fun w8 hE9 => ?_)
    have hs_w8 := (hE9).size
    replace hV := evo_step0 hV hE9
    replace ha := ha0 _ hV
    replace hb := hb0 _ hV
    refine r_cond (by exact rfl) (fun hc10 => ?_) (fun hc10 => ?_)
    ·skip
     refine r_seq ?_
     refine r_region ?_
     refine r_op rfl rfl rfl (run_asg (v := .bool _) rfl (by exact rfl)) ?_
     refine r_nil ?_
     refine r_ret (res1 (v := .bool _) rfl (by exact rfl)) ?_
     exact ⟨by rw [decide_eq_false (fun h => by subst h; exact hc10 rfl)], hV⟩
    ·skip
     refine r_skip ?_
     refine r_blk ?_
     refine r_region ?_
     refine r_op rfl rfl rfl (run_add rfl (by exact rfl) (by exact rfl) (by omega) (by omega)) ?_
     refine r_op rfl rfl rfl (run_mv (v := .int _ _) rfl (by exact rfl)) ?_
     refine r_nil ?_
     refine r_again (k + 1) ?_ ?_ ?_
     ·first | omega | (dsimp only; omega)
     ·refine ⟨(by first | exact rfl | exact congrArg (Value.int _) (by omega) | exact congrArg (Value.int _) (by dsimp only; omega) | exact congrArg (Value.int _) (by simp) | exact congrArg S (by simp)), (by first | assumption | omega | (dsimp only; omega) | (simp; done)), (take_bothI hpre (by omega) (by omega) (Classical.not_not.1 hc10)), (by first | assumption | omega | (dsimp only; omega) | (simp; done)), hV⟩
     ·repeat (first | (with_reducible exact Agree.merge _ _ _) | (with_reducible exact Agree.refl _ _) | (with_reducible refine Agree.upd ?_ _ _ rfl) | ((with_reducible refine Agree.inner ?_ ?_); (kernel_rfl)))
   ·skip
    refine r_exit rfl ?_
    refine r_seq ?_
    refine r_region ?_
    refine r_op rfl rfl rfl (run_asg (v := .bool _) rfl (by exact rfl)) ?_
    refine r_nil ?_
    refine r_ret (res1 (v := .bool _) rfl (by exact rfl)) ?_
    exact ⟨by rw [decide_eq_true (by rw [List.take_of_length_le (by omega), List.take_of_length_le (by omega)] at hpre; exact hpre)], hV⟩
def sortI2 (l : List Int) : List Int := l.mergeSort fun x y => decide (x ≤ y)
theorem isort_calls {w : World} {base : Nat} {v : Value} {l : List Int} (h : OwnE w base 3 v l) : Calls Tryz.prog 24 #[v] w fun e w' => e = .returned (.tuple #[]) ∧ Evo w w' v.ownBlock.toList ∧ OwnE w' base 3 v (sortI2 l) :=
  isort_of Tryz.slices_Sort_int (Tryz.slices_Sort_int_none none 0) h
theorem ktoki : KeyLaw Tryz.prog 43 (fun x : Vc.Item => Value.agg (Enc.enc x).toArray) := key_item Tryz.underlying43 (by decide) (by decide) (by decide) rfl rfl rfl Tryz.underlying3 Tryz.underlying9 Tryz.underlying3 ag_3 ag_9 ag_3 ei_43
theorem kgram : KeyLaw Tryz.prog 76 (fun x : Str × Str => Value.agg (Enc.enc x).toArray) :=
  key_pair Tryz.underlying76 (by decide) (by decide) rfl rfl Tryz.underlying9 Tryz.underlying9 ag_9 ag_9 (fun w x y => equalIn_pair 9998 Tryz.underlying76 Tryz.stoodInHeld76 (by decide) (by decide) rfl rfl Tryz.underlying9 Tryz.underlying9 ag_9 ag_9 x y)
theorem ixtag_calls {x : Vc.Item} {w0 : World}  :
    Calls Tryz.prog 37 #[.agg (Enc.enc x).toArray] w0 fun e w' => e = .returned (.bool (decide (tgB x))) ∧ Evo w0 w' [] := by
 refine calls_enter (n := 16) (args := [.agg (Enc.enc x).toArray]) Tryz.func37 rfl Tryz.ntmps37 rfl ?_
 have hV : Evo w0 w0 [] := Evo.refl _ _
 refine r_seq ?_
 refine r_region ?_
 refine r_box (vs := [_, _, _]) (by exact rfl) (by exact rfl) rfl ?_
 intro b1 w2 heb1 hEw2 hbb1 hzb1
 have hs_w2 := (hEw2).size
 replace hV := evo_step0 hV hEw2
 have hAb1 := hbb1.at
 refine r_op rfl rfl rfl (run_asg (v := .bool _) rfl (by exact rfl)) ?_
 refine r_nil ?_
 refine r_seq ?_
 refine r_region ?_
 refine r_op rfl rfl rfl (run_fa rfl (by exact rfl) fo_43_0) ?_
 refine r_op rfl rfl rfl (run_ld1 rfl ag_3 (by exact rfl) (hAb1.cell 0 (by exact rfl))) ?_
 refine r_op rfl rfl rfl (run_eql rfl (by exact rfl) (by exact rfl)) ?_
 refine r_op rfl rfl rfl (run_mv (v := .bool _) rfl (by exact rfl)) ?_
 refine r_g rfl (wantF (by exact rfl)) rfl (fun hg => run_fa rfl (by exact rfl) fo_43_0) ?_
 refine r_g rfl (wantF (by exact rfl)) rfl (fun hg => run_ld1 rfl ag_3 (glv (by exact rfl) (fun h => h) hg) (hAb1.cell 0 (by exact rfl))) ?_
 refine r_g rfl (wantF (by exact rfl)) rfl (fun hg => run_eql rfl (glv (by exact rfl) (fun h => h) hg) (by exact rfl)) ?_
 refine r_op rfl rfl rfl (run_pick_or rfl (by exact rfl) rfl (fun hq => glv (by exact rfl) (fun h => h) hq)) ?_
 refine r_op rfl rfl rfl (run_mv (v := .bool _) rfl (by exact rfl)) ?_
 refine r_g rfl (wantF (by exact rfl)) rfl (fun hg => run_fa rfl (by exact rfl) fo_43_0) ?_
 refine r_g rfl (wantF (by exact rfl)) rfl (fun hg => run_ld1 rfl ag_3 (glv (by exact rfl) (fun h => h) hg) (hAb1.cell 0 (by exact rfl))) ?_
 refine r_g rfl (wantF (by exact rfl)) rfl (fun hg => run_eql rfl (glv (by exact rfl) (fun h => h) hg) (by exact rfl)) ?_
 refine r_op rfl rfl rfl (run_pick_or rfl (by exact rfl) rfl (fun hq => glv (by exact rfl) (fun h => h) hq)) ?_
 refine r_op rfl rfl rfl (run_asg (v := .bool _) rfl (by exact rfl)) ?_
 refine r_nil ?_
 refine r_ret (res1 (v := .bool _) rfl (by exact rfl)) ?_
 exact ⟨ret_bool (decide_eq_decide.2 (by unfold tgB; omega)), hV⟩
theorem allowed_calls {t p : Int} {w0 : World}  :
    Calls Tryz.prog 23 #[.int .i64 t, .int .i64 p] w0 fun e w' => e = .returned (.int .i64 (allowL t p)) ∧ Evo w0 w' [] := by
 refine calls_enter (n := 21) (args := [.int .i64 t, .int .i64 p]) Tryz.func23 rfl Tryz.ntmps23 rfl ?_
 have hV : Evo w0 w0 [] := Evo.refl _ _
 refine r_seq ?_
 refine r_region ?_
 refine r_op rfl rfl rfl (run_asg (v := .int _ _) rfl (by exact rfl)) ?_
 refine r_nil ?_
 refine r_seq ?_
 refine r_block ?_
 refine r_seq ?_
 refine r_region ?_
 refine r_op rfl rfl rfl (run_mv (v := .int _ _) rfl (by exact rfl)) ?_
 refine r_op rfl rfl rfl (run_gtr rfl (by exact rfl) (by exact rfl)) ?_
 refine r_op rfl rfl rfl (run_asg (v := .bool _) rfl (by exact rfl)) ?_
 refine r_nil ?_
 refine r_cond (by exact rfl) (fun hc1 => ?_) (fun hc1 => ?_)
 ·skip
  refine r_seq ?_
  refine r_region ?_
  refine r_op rfl rfl rfl (run_asg (v := .int _ _) rfl (by exact rfl)) ?_
  refine r_nil ?_
  refine r_ret (res1 (v := .int _ _) rfl (by exact rfl)) ?_
  exact ⟨ret_int (allow_a (by omega)), hV⟩
 ·skip
  refine r_seq ?_
  refine r_region ?_
  refine r_op rfl rfl rfl (run_mv (v := .int _ _) rfl (by exact rfl)) ?_
  refine r_op rfl rfl rfl (run_lss rfl (by exact rfl) (by exact rfl)) ?_
  refine r_op rfl rfl rfl (run_mv (v := .bool _) rfl (by exact rfl)) ?_
  refine r_g rfl (wantF (by exact rfl)) rfl (fun hg => run_mv (v := .int _ _) rfl (by exact rfl)) ?_
  refine r_g rfl (wantF (by exact rfl)) rfl (fun hg => run_lss rfl (glv (by exact rfl) (fun h => h) hg) (by exact rfl)) ?_
  refine r_op rfl rfl rfl (run_pick_or rfl (by exact rfl) rfl (fun hq => glv (by exact rfl) (fun h => h) hq)) ?_
  refine r_op rfl rfl rfl (run_asg (v := .bool _) rfl (by exact rfl)) ?_
  refine r_nil ?_
  refine r_cond (by exact rfl) (fun hc2 => ?_) (fun hc2 => ?_)
  ·skip
   refine r_seq ?_
   refine r_region ?_
   refine r_op rfl rfl rfl (run_asg (v := .int _ _) rfl (by exact rfl)) ?_
   refine r_nil ?_
   refine r_ret (res1 (v := .int _ _) rfl (by exact rfl)) ?_
   exact ⟨ret_int (allow_b (by omega) (by omega)), hV⟩
  ·skip
   refine r_skip ?_
   refine r_blk ?_
   refine r_seq ?_
   have hmu := allow_mul (t := t) (p := p) (by omega) (by omega); have htd := Int.tdiv_eq_ediv_of_nonneg (b := 100) hmu.1
   refine r_region ?_
   refine r_op rfl rfl rfl (run_mv (v := .int _ _) rfl (by exact rfl)) ?_
   refine r_op rfl rfl rfl (run_min rfl (by exact rfl) (by exact rfl)) ?_
   refine r_op rfl rfl rfl (run_mv (v := .int _ _) rfl (by exact rfl)) ?_
   refine r_op rfl rfl rfl (run_sub rfl (by exact rfl) (by exact rfl) (by omega) (by omega)) ?_
   refine r_op rfl rfl rfl (run_mul rfl (by exact rfl) (by exact rfl) (by omega) (by omega)) ?_
   refine r_op rfl rfl rfl (run_quo rfl (by exact rfl) (by exact rfl) (by omega) (by omega) (by omega)) ?_
   refine r_op rfl rfl rfl (run_asg (v := .int _ _) rfl (by exact rfl)) ?_
   refine r_nil ?_
   refine r_ret (res1 (v := .int _ _) rfl (by exact rfl)) ?_
   exact ⟨ret_int (allow_c (by omega) (by omega)), hV⟩
theorem total_calls {ao : Option Addr} {b off cap : Nat} {l : List Vc.Item} {w0 : World} (hl : RowE w0 ao b off cap l) (hs : l.length ≤ 1000000) :
    Calls Tryz.prog 35 #[.slice ao l.length cap] w0 fun e w' => e = .returned (.int .i64 (totT l)) ∧ Evo w0 w' [] := by
 refine calls_enter (n := 18) (args := [.slice ao l.length cap]) Tryz.func35 rfl Tryz.ntmps35 rfl ?_
 have hV : Evo w0 w0 [] := Evo.refl _ _
 have hl0 := keepE hl
 have hbd_hl := hl.bd
 refine r_seq ?_
 refine r_region ?_
 refine r_op rfl rfl rfl (run_asg (v := .int _ _) rfl (by exact rfl)) ?_
 refine r_nil ?_
 refine r_seq ?_
 refine r_region ?_
 refine r_op rfl rfl rfl (run_asg (v := .int _ _) rfl (by exact rfl)) ?_
 refine r_nil ?_
 refine r_seq ?_
 refine r_seq ?_
 refine r_region ?_
 refine r_op rfl rfl rfl (run_mv (v := .slice _ _ _) rfl (by exact rfl)) ?_
 refine r_op rfl rfl rfl (run_lenSl rfl (by exact rfl) Tryz.underlying23) ?_
 refine r_op rfl rfl rfl (run_mv (v := .int _ _) rfl (by exact rfl)) ?_
 refine r_nil ?_
 refine r_block ?_
 refine r_loop (α := Nat) [3, 5, 8, 9, 10, 11, 12, 13, 14, 15, 16] (fun k g w => g 8 = .int .i64 (k : Nat) ∧ g 3 = .int .i64 (totT (l.take k)) ∧ k ≤ l.length ∧ w0.heap.size ≤ w.heap.size ∧ Evo w0 w []) (fun k => l.length - k) 0 ?_ ?_
 ·refine ⟨(by first | exact rfl | exact congrArg (Value.int _) (by omega) | exact congrArg (Value.int _) (by dsimp only; omega) | exact congrArg (Value.int _) (by simp) | exact congrArg S (by simp)), rfl, (by first | assumption | omega | (dsimp only; omega) | (simp; done)), (by first | assumption | omega | (dsimp only; omega) | (simp; done)), hV⟩
 ·rintro k g w2 ⟨hj3, hj4, hk_k, hzl1, hV⟩
  have hs_w2hV := hV.size
  replace hl := hl0 _ hV
  refine r_know (i := 8) (v := .int .i64 (k : Nat)) (by exact hj3) ?_
  refine r_know (i := 3) (v := .int .i64 (totT (l.take k))) (by exact hj4) ?_
  refine r_seq ?_
  refine r_region ?_
  refine r_op rfl rfl rfl (run_lss rfl (by exact rfl) (by exact rfl)) ?_
  refine r_nil ?_
  refine r_seq ?_
  refine r_cond (by exact rfl) (fun hc5 => ?_) (fun hc5 => ?_)
  ·skip
   refine r_skip ?_
   refine r_seq ?_
   refine r_block ?_
   refine r_seq ?_
   refine r_region ?_
   refine r_op rfl rfl rfl (run_ix (k) rfl Tryz.underlying23 ty_43 (by exact rfl) (by exact rfl) (by first | exact rfl | omega) (by omega) (hl.addr (i := k) (by omega))) ?_
   have hA60 := fun (w' : World) (h : Evo w0 w' []) => (hl0 w' h).atD (k) (by omega)
   have hA6 := hA60 _ hV
   refine r_op rfl rfl rfl (run_ldN rfl ag_43 ty_43 (by exact rfl) rfl hA6) ?_
   refine r_var (zs := [_, _, _]) (vs := [_, _, _]) ty_43 (by exact rfl) rfl (by exact rfl) (fun _ => rfl) (by exact rfl) rfl rfl (by exact rfl) ?_
   intro b7 w8 heb7 hEw8 hbb7 hzb7
   have hs_w8 := (hEw8).size
   replace hV := evo_step0 hV hEw8
   replace hl := hl0 _ hV
   have hAb7 := hbb7.at
   refine r_nil ?_
   have htk := totT_bd (l.take k); have hlk := List.length_take_le k l; have hwk := wK_bd (l.getD k default).kind
   refine r_region ?_
   refine r_op rfl rfl rfl (run_mv (v := .int _ _) rfl (by exact rfl)) ?_
   refine r_op rfl rfl rfl (run_ldN rfl ag_43 ty_43 (by exact rfl) rfl hAb7) ?_
   refine r_opcall rfl rfl rfl (run_callf (vs := [.agg _]) rfl (by exact rfl) Tryz.func38 rfl (by kernel_rfl)) (weight_calls (x := (l.getD k default))) ?_
   rintro e w9 ⟨rfl, hE9⟩
   refine ⟨_, rfl, ?_⟩
   have hs_w9 := (hE9).size
   replace hV := evo_step0 hV hE9
   replace hl := hl0 _ hV
   refine r_op rfl rfl rfl (run_add rfl (by exact rfl) (by exact rfl) (by omega) (by omega)) ?_
   refine r_op rfl rfl rfl (run_asg (v := .int _ _) rfl (by exact rfl)) ?_
   refine r_nil ?_
   refine r_blk ?_
   have htk := totT_bd (l.take k); have hlk := List.length_take_le k l; have hwk := wK_bd (l.getD k default).kind
   refine r_region ?_
   refine r_op rfl rfl rfl (run_add rfl (by exact rfl) (by exact rfl) (by omega) (by omega)) ?_
   refine r_op rfl rfl rfl (run_mv (v := .int _ _) rfl (by exact rfl)) ?_
   refine r_nil ?_
   refine r_again (k + 1) ?_ ?_ ?_
   ·first | omega | (dsimp only; omega)
   ·refine ⟨(by first | exact rfl | exact congrArg (Value.int _) (by omega) | exact congrArg (Value.int _) (by dsimp only; omega) | exact congrArg (Value.int _) (by simp) | exact congrArg S (by simp)), (congrArg (Value.int _) (totT_succ (by omega)).symm), (by first | assumption | omega | (dsimp only; omega) | (simp; done)), (by first | assumption | omega | (dsimp only; omega) | (simp; done)), hV⟩
   ·repeat (first | (with_reducible exact Agree.merge _ _ _) | (with_reducible exact Agree.refl _ _) | (with_reducible refine Agree.upd ?_ _ _ rfl) | ((with_reducible refine Agree.inner ?_ ?_); (kernel_rfl)))
  ·skip
   refine r_exit rfl ?_
   refine r_seq ?_
   refine r_region ?_
   refine r_op rfl rfl rfl (run_mv (v := .int _ _) rfl (by exact rfl)) ?_
   refine r_op rfl rfl rfl (run_asg (v := .int _ _) rfl (by exact rfl)) ?_
   refine r_nil ?_
   refine r_ret (res1 (v := .int _ _) rfl (by exact rfl)) ?_
   exact ⟨ret_int (by rw [List.take_of_length_le (by omega)]), hV⟩
theorem rtotal_calls {ao : Option Addr} {b off cap : Nat} {l : List Vc.Item} {w0 : World} (hl : RowE w0 ao b off cap l) (hs : l.length ≤ 1000000) :
    Calls Tryz.prog 45 #[.slice ao l.length cap] w0 fun e w' => e = .returned (.int .i64 (totT l)) ∧ Evo w0 w' [] := by
 refine calls_enter (n := 18) (args := [.slice ao l.length cap]) Tryz.func45 rfl Tryz.ntmps45 rfl ?_
 have hV : Evo w0 w0 [] := Evo.refl _ _
 have hl0 := keepE hl
 have hbd_hl := hl.bd
 refine r_seq ?_
 refine r_region ?_
 refine r_op rfl rfl rfl (run_asg (v := .int _ _) rfl (by exact rfl)) ?_
 refine r_nil ?_
 refine r_seq ?_
 refine r_region ?_
 refine r_op rfl rfl rfl (run_asg (v := .int _ _) rfl (by exact rfl)) ?_
 refine r_nil ?_
 refine r_seq ?_
 refine r_seq ?_
 refine r_region ?_
 refine r_op rfl rfl rfl (run_mv (v := .slice _ _ _) rfl (by exact rfl)) ?_
 refine r_op rfl rfl rfl (run_lenSl rfl (by exact rfl) Tryz.underlying23) ?_
 refine r_op rfl rfl rfl (run_mv (v := .int _ _) rfl (by exact rfl)) ?_
 refine r_nil ?_
 refine r_block ?_
 refine r_loop (α := Nat) [3, 5, 8, 9, 10, 11, 12, 13, 14, 15, 16] (fun k g w => g 8 = .int .i64 (k : Nat) ∧ g 3 = .int .i64 (totT (l.take k)) ∧ k ≤ l.length ∧ w0.heap.size ≤ w.heap.size ∧ Evo w0 w []) (fun k => l.length - k) 0 ?_ ?_
 ·refine ⟨(by first | exact rfl | exact congrArg (Value.int _) (by omega) | exact congrArg (Value.int _) (by dsimp only; omega) | exact congrArg (Value.int _) (by simp) | exact congrArg S (by simp)), rfl, (by first | assumption | omega | (dsimp only; omega) | (simp; done)), (by first | assumption | omega | (dsimp only; omega) | (simp; done)), hV⟩
 ·rintro k g w2 ⟨hj3, hj4, hk_k, hzl1, hV⟩
  have hs_w2hV := hV.size
  replace hl := hl0 _ hV
  refine r_know (i := 8) (v := .int .i64 (k : Nat)) (by exact hj3) ?_
  refine r_know (i := 3) (v := .int .i64 (totT (l.take k))) (by exact hj4) ?_
  refine r_seq ?_
  refine r_region ?_
  refine r_op rfl rfl rfl (run_lss rfl (by exact rfl) (by exact rfl)) ?_
  refine r_nil ?_
  refine r_seq ?_
  refine r_cond (by exact rfl) (fun hc5 => ?_) (fun hc5 => ?_)
  ·skip
   refine r_skip ?_
   refine r_seq ?_
   refine r_block ?_
   refine r_seq ?_
   refine r_region ?_
   refine r_op rfl rfl rfl (run_ix (k) rfl Tryz.underlying23 ty_43 (by exact rfl) (by exact rfl) (by first | exact rfl | omega) (by omega) (hl.addr (i := k) (by omega))) ?_
   have hA60 := fun (w' : World) (h : Evo w0 w' []) => (hl0 w' h).atD (k) (by omega)
   have hA6 := hA60 _ hV
   refine r_op rfl rfl rfl (run_ldN rfl ag_43 ty_43 (by exact rfl) rfl hA6) ?_
   refine r_var (zs := [_, _, _]) (vs := [_, _, _]) ty_43 (by exact rfl) rfl (by exact rfl) (fun _ => rfl) (by exact rfl) rfl rfl (by exact rfl) ?_
   intro b7 w8 heb7 hEw8 hbb7 hzb7
   have hs_w8 := (hEw8).size
   replace hV := evo_step0 hV hEw8
   replace hl := hl0 _ hV
   have hAb7 := hbb7.at
   refine r_nil ?_
   have htk := totT_bd (l.take k); have hlk := List.length_take_le k l; have hwk := wK_bd (l.getD k default).kind
   refine r_region ?_
   refine r_op rfl rfl rfl (run_mv (v := .int _ _) rfl (by exact rfl)) ?_
   refine r_op rfl rfl rfl (run_ldN rfl ag_43 ty_43 (by exact rfl) rfl hAb7) ?_
   refine r_opcall rfl rfl rfl (run_callf (vs := [.agg _]) rfl (by exact rfl) Tryz.func75 rfl (by kernel_rfl)) (rweight_calls (x := (l.getD k default))) ?_
   rintro e w9 ⟨rfl, hE9⟩
   refine ⟨_, rfl, ?_⟩
   have hs_w9 := (hE9).size
   replace hV := evo_step0 hV hE9
   replace hl := hl0 _ hV
   refine r_op rfl rfl rfl (run_add rfl (by exact rfl) (by exact rfl) (by omega) (by omega)) ?_
   refine r_op rfl rfl rfl (run_asg (v := .int _ _) rfl (by exact rfl)) ?_
   refine r_nil ?_
   refine r_blk ?_
   have htk := totT_bd (l.take k); have hlk := List.length_take_le k l; have hwk := wK_bd (l.getD k default).kind
   refine r_region ?_
   refine r_op rfl rfl rfl (run_add rfl (by exact rfl) (by exact rfl) (by omega) (by omega)) ?_
   refine r_op rfl rfl rfl (run_mv (v := .int _ _) rfl (by exact rfl)) ?_
   refine r_nil ?_
   refine r_again (k + 1) ?_ ?_ ?_
   ·first | omega | (dsimp only; omega)
   ·refine ⟨(by first | exact rfl | exact congrArg (Value.int _) (by omega) | exact congrArg (Value.int _) (by dsimp only; omega) | exact congrArg (Value.int _) (by simp) | exact congrArg S (by simp)), (congrArg (Value.int _) (totT_succ (by omega)).symm), (by first | assumption | omega | (dsimp only; omega) | (simp; done)), (by first | assumption | omega | (dsimp only; omega) | (simp; done)), hV⟩
   ·repeat (first | (with_reducible exact Agree.merge _ _ _) | (with_reducible exact Agree.refl _ _) | (with_reducible refine Agree.upd ?_ _ _ rfl) | ((with_reducible refine Agree.inner ?_ ?_); (kernel_rfl)))
  ·skip
   refine r_exit rfl ?_
   refine r_seq ?_
   refine r_region ?_
   refine r_op rfl rfl rfl (run_mv (v := .int _ _) rfl (by exact rfl)) ?_
   refine r_op rfl rfl rfl (run_asg (v := .int _ _) rfl (by exact rfl)) ?_
   refine r_nil ?_
   refine r_ret (res1 (v := .int _ _) rfl (by exact rfl)) ?_
   exact ⟨ret_int (by rw [List.take_of_length_le (by omega)]), hV⟩
theorem rboth_calls {aoa aob : Option Addr} {ba offa capa bb offb capb : Nat} {a b : List Vc.Item} {w0 : World} (ha : RowE w0 aoa ba offa capa a) (hb : RowE w0 aob bb offb capb b) (hsa : a.length ≤ 1000000) (hsb : b.length ≤ 1000000) :
    Calls Tryz.prog 27 #[.slice aoa a.length capa, .slice aob b.length capb] w0 fun e w' => e = .returned (.int .i64 (max (totT a) (totT b))) ∧ Evo w0 w' [] := by
 refine calls_enter (n := 10) (args := [.slice aoa a.length capa, .slice aob b.length capb]) Tryz.func27 rfl Tryz.ntmps27 rfl ?_
 have hV : Evo w0 w0 [] := Evo.refl _ _
 have ha0 := keepE ha
 have hbd_ha := ha.bd
 have hb0 := keepE hb
 have hbd_hb := hb.bd
 refine r_seq ?_
 refine r_region ?_
 refine r_op rfl rfl rfl (run_asg (v := .int _ _) rfl (by exact rfl)) ?_
 refine r_nil ?_
 refine r_seq ?_
 refine r_region ?_
 refine r_op rfl rfl rfl (run_mv (v := .slice _ _ _) rfl (by exact rfl)) ?_
 refine r_opcall rfl rfl rfl (run_callf (vs := [.slice _ _ _]) rfl (by exact rfl) Tryz.func45 rfl (by kernel_rfl)) (rtotal_calls ha (by omega)) ?_
 rintro e w1 ⟨rfl, hE1⟩
 refine ⟨_, rfl, ?_⟩
 have hs_w1 := (hE1).size
 replace hV := evo_step0 hV hE1
 replace ha := ha0 _ hV
 replace hb := hb0 _ hV
 refine r_op rfl rfl rfl (run_mv (v := .slice _ _ _) rfl (by exact rfl)) ?_
 refine r_opcall rfl rfl rfl (run_callf (vs := [.slice _ _ _]) rfl (by exact rfl) Tryz.func45 rfl (by kernel_rfl)) (rtotal_calls hb (by omega)) ?_
 rintro e w2 ⟨rfl, hE2⟩
 refine ⟨_, rfl, ?_⟩
 have hs_w2 := (hE2).size
 replace hV := evo_step0 hV hE2
 replace ha := ha0 _ hV
 replace hb := hb0 _ hV
 refine r_op rfl rfl rfl (run_max rfl (by exact rfl) (by exact rfl)) ?_
 refine r_op rfl rfl rfl (run_asg (v := .int _ _) rfl (by exact rfl)) ?_
 refine r_nil ?_
 refine r_ret (res1 (v := .int _ _) rfl (by exact rfl)) ?_
 exact ⟨rfl, hV⟩
theorem ixbound_calls {a b c : Sum3} {w0 : World} (ha : Sm3 a) (hb : Sm3 b) (hc : Sm3 c) :
    Calls Tryz.prog 22 #[.agg (Enc.enc a).toArray, .agg (Enc.enc b).toArray, .agg (Enc.enc c).toArray] w0 fun e w' => e = .returned (.int .i64 (bndL a b c)) ∧ Evo w0 w' [] := by
 obtain ⟨ha1, ha2, ha3, ha4, ha5, ha6⟩ := ha; obtain ⟨hb1, hb2, hb3, hb4, hb5, hb6⟩ := hb; obtain ⟨hc1, hc2, hc3, hc4, hc5, hc6⟩ := hc; have htd := td2_bd (max a.p b.p - c.p + 1) (by omega)
 refine calls_enter (n := 42) (args := [.agg (Enc.enc a).toArray, .agg (Enc.enc b).toArray, .agg (Enc.enc c).toArray]) Tryz.func22 rfl Tryz.ntmps22 rfl ?_
 have hV : Evo w0 w0 [] := Evo.refl _ _
 refine r_seq ?_
 refine r_region ?_
 refine r_box (vs := [_, _, _]) (by exact rfl) (by exact rfl) rfl ?_
 intro b1 w2 heb1 hEw2 hbb1 hzb1
 have hs_w2 := (hEw2).size
 replace hV := evo_step0 hV hEw2
 have hAb1 := hbb1.at
 refine r_box (vs := [_, _, _]) (by exact rfl) (by exact rfl) rfl ?_
 intro b3 w4 heb3 hEw4 hbb3 hzb3
 have hs_w4 := (hEw4).size
 replace hV := evo_step0 hV hEw4
 replace hbb1 := hbb1.evo0 hEw4
 replace hAb1 := hAb1.evo0 hEw4
 have hAb3 := hbb3.at
 refine r_box (vs := [_, _, _]) (by exact rfl) (by exact rfl) rfl ?_
 intro b5 w6 heb5 hEw6 hbb5 hzb5
 have hs_w6 := (hEw6).size
 replace hV := evo_step0 hV hEw6
 replace hbb1 := hbb1.evo0 hEw6
 replace hAb1 := hAb1.evo0 hEw6
 replace hbb3 := hbb3.evo0 hEw6
 replace hAb3 := hAb3.evo0 hEw6
 have hAb5 := hbb5.at
 refine r_op rfl rfl rfl (run_asg (v := .int _ _) rfl (by exact rfl)) ?_
 refine r_nil ?_
 refine r_seq ?_
 refine r_region ?_
 refine r_op rfl rfl rfl (run_fa rfl (by exact rfl) fo_62_1) ?_
 refine r_op rfl rfl rfl (run_ld1 rfl ag_3 (by exact rfl) (hAb1.cell 1 (by exact rfl))) ?_
 refine r_op rfl rfl rfl (run_fa rfl (by exact rfl) fo_62_1) ?_
 refine r_op rfl rfl rfl (run_ld1 rfl ag_3 (by exact rfl) (hAb3.cell 1 (by exact rfl))) ?_
 refine r_op rfl rfl rfl (run_max rfl (by exact rfl) (by exact rfl)) ?_
 refine r_op rfl rfl rfl (run_fa rfl (by exact rfl) fo_62_1) ?_
 refine r_op rfl rfl rfl (run_ld1 rfl ag_3 (by exact rfl) (hAb5.cell 1 (by exact rfl))) ?_
 refine r_op rfl rfl rfl (run_sub rfl (by exact rfl) (by exact rfl) (by omega) (by omega)) ?_
 refine r_op rfl rfl rfl (run_fa rfl (by exact rfl) fo_62_2) ?_
 refine r_op rfl rfl rfl (run_ld1 rfl ag_3 (by exact rfl) (hAb1.cell 2 (by exact rfl))) ?_
 refine r_op rfl rfl rfl (run_fa rfl (by exact rfl) fo_62_2) ?_
 refine r_op rfl rfl rfl (run_ld1 rfl ag_3 (by exact rfl) (hAb3.cell 2 (by exact rfl))) ?_
 refine r_op rfl rfl rfl (run_add rfl (by exact rfl) (by exact rfl) (by omega) (by omega)) ?_
 refine r_op rfl rfl rfl (run_fa rfl (by exact rfl) fo_62_2) ?_
 refine r_op rfl rfl rfl (run_ld1 rfl ag_3 (by exact rfl) (hAb5.cell 2 (by exact rfl))) ?_
 refine r_op rfl rfl rfl (run_mul rfl (by exact rfl) (by exact rfl) (by omega) (by omega)) ?_
 refine r_op rfl rfl rfl (run_sub rfl (by exact rfl) (by exact rfl) (by omega) (by omega)) ?_
 refine r_op rfl rfl rfl (run_mul rfl (by exact rfl) (by exact rfl) (by omega) (by omega)) ?_
 refine r_op rfl rfl rfl (run_add rfl (by exact rfl) (by exact rfl) (by omega) (by omega)) ?_
 refine r_op rfl rfl rfl (run_asg (v := .int _ _) rfl (by exact rfl)) ?_
 refine r_nil ?_
 refine r_seq ?_
 refine r_region ?_
 refine r_op rfl rfl rfl (run_fa rfl (by exact rfl) fo_62_0) ?_
 refine r_op rfl rfl rfl (run_ld1 rfl ag_3 (by exact rfl) (hAb1.cell 0 (by exact rfl))) ?_
 refine r_op rfl rfl rfl (run_fa rfl (by exact rfl) fo_62_0) ?_
 refine r_op rfl rfl rfl (run_ld1 rfl ag_3 (by exact rfl) (hAb3.cell 0 (by exact rfl))) ?_
 refine r_op rfl rfl rfl (run_max rfl (by exact rfl) (by exact rfl)) ?_
 refine r_op rfl rfl rfl (run_fa rfl (by exact rfl) fo_62_0) ?_
 refine r_op rfl rfl rfl (run_ld1 rfl ag_3 (by exact rfl) (hAb5.cell 0 (by exact rfl))) ?_
 refine r_op rfl rfl rfl (run_sub rfl (by exact rfl) (by exact rfl) (by omega) (by omega)) ?_
 refine r_op rfl rfl rfl (run_asg (v := .int _ _) rfl (by exact rfl)) ?_
 refine r_nil ?_
 refine r_seq ?_
 refine r_region ?_
 refine r_op rfl rfl rfl (run_mv (v := .int _ _) rfl (by exact rfl)) ?_
 refine r_op rfl rfl rfl (run_mv (v := .int _ _) rfl (by exact rfl)) ?_
 refine r_op rfl rfl rfl (run_add rfl (by exact rfl) (by exact rfl) (by omega) (by omega)) ?_
 refine r_op rfl rfl rfl (run_quo rfl (by exact rfl) (by exact rfl) (by omega) (by omega) (by omega)) ?_
 refine r_op rfl rfl rfl (run_mul rfl (by exact rfl) (by exact rfl) (by omega) (by omega)) ?_
 refine r_op rfl rfl rfl (run_max rfl (by exact rfl) (by exact rfl)) ?_
 refine r_op rfl rfl rfl (run_asg (v := .int _ _) rfl (by exact rfl)) ?_
 refine r_nil ?_
 refine r_ret (res1 (v := .int _ _) rfl (by exact rfl)) ?_
 exact ⟨ret_int rfl, hV⟩
abbrev Idx := IdxG 52 74 79
theorem ixnew_calls  {w0 : World}  :
    Calls Tryz.prog 6 #[] w0 fun e w' => ∃ bx F, e = .returned (.pointer (some ⟨bx, 0, none⟩)) ∧ Evo w0 w' [] ∧ Idx w' bx [] F ∧ (∀ g ∈ F, w0.heap.size ≤ g) := by
 refine calls_enter (n := 6) (args := []) Tryz.func6 rfl Tryz.ntmps6 rfl ?_
 have hV : Evo w0 w0 [] := Evo.refl _ _
 refine r_seq ?_
 refine r_region ?_
 refine r_op rfl rfl rfl (run_asg (v := .pointer _) rfl (by exact rfl)) ?_
 refine r_nil ?_
 refine r_seq ?_
 refine r_region ?_
 refine r_makeMap (α := Int) (β := LV) (Value.int .i64) evL rfl ?_
 intro b1 w2 heb1 hEw2 hmb1 hzb1
 have hs_w2 := (hEw2).size
 replace hV := evo_step0 hV hEw2
 refine r_makeMap (α := Str × Str) (β := Value) (fun x : Str × Str => Value.agg (Enc.enc x).toArray) idV rfl ?_
 intro b3 w4 heb3 hEw4 hmb3 hzb3
 have hs_w4 := (hEw4).size
 replace hV := evo_step0 hV hEw4
 replace hmb1 := hmb1.evo0 hEw4
 refine r_makeMap (α := Vc.Item) (β := Value) (fun x : Vc.Item => Value.agg (Enc.enc x).toArray) idV rfl ?_
 intro b5 w6 heb5 hEw6 hmb5 hzb5
 have hs_w6 := (hEw6).size
 replace hV := evo_step0 hV hEw6
 replace hmb1 := hmb1.evo0 hEw6
 replace hmb3 := hmb3.evo0 hEw6
 refine r_op rfl rfl rfl (run_bld (pv := [(0, .map _), (1, .map _), (2, .map _)]) (zs := [_, _, _]) (cells := [_, _, _]) rfl ty_52 (by exact rfl) pl_52 (by exact rfl) (by exact rfl)) ?_
 refine r_box (vs := [_, _, _]) (by exact rfl) (by exact rfl) rfl ?_
 intro b7 w8 heb7 hEw8 hbb7 hzb7
 have hs_w8 := (hEw8).size
 replace hV := evo_step0 hV hEw8
 replace hmb1 := hmb1.evo0 hEw8
 replace hmb3 := hmb3.evo0 hEw8
 replace hmb5 := hmb5.evo0 hEw8
 have hAb7 := hbb7.at
 refine r_op rfl rfl rfl (run_asg (v := .pointer _) rfl (by exact rfl)) ?_
 refine r_nil ?_
 refine r_ret (res1 (v := .pointer _) rfl (by exact rfl)) ?_
 exact ⟨_, _, rfl, hV, idx_new hbb7 hmb1 hmb3 hmb5 (by omega) (by omega) (by omega) (by omega) (by omega) (by omega), by intro g9 hg9; simp only [List.mem_cons, List.not_mem_nil, or_false] at hg9; omega⟩
end Go.Proofs.YthbcklajlmcifaaGreat
namespace Go.Proofs.YthbcklajlmcifaaGreat
open Go.RowKit Go.Vc
theorem ag_59 : aggP Tryz.prog 59 = some false := by kernel_rfl
theorem ag_60 : aggP Tryz.prog 60 = some false := by kernel_rfl
theorem ag_64 : aggP Tryz.prog 64 = some true := by kernel_rfl
theorem fo_64_0 : fieldP Tryz.prog 64 0 = some 0 := by kernel_rfl
theorem fo_64_1 : fieldP Tryz.prog 64 1 = some 1 := by kernel_rfl
theorem fo_64_2 : fieldP Tryz.prog 64 2 = some 2 := by kernel_rfl
theorem pl_64 : placesP Tryz.prog 64 = some [(0, 1), (1, 1), (2, 3), (5, 1)] := by kernel_rfl
theorem ty_64 : tyP Tryz.prog 64 = some (6, 64, some (.agg #[(.slice none 0 0), (.map none), (.int .i64 0), (.int .i64 0), (.int .i64 0), (.int .i64 0)])) := by kernel_rfl
set_option maxHeartbeats 1000000 in
theorem survey_calls {ao : Option Addr} {b off cap : Nat} {l : List Vc.Item} {w0 : World} (hl : RowE w0 ao b off cap l) (hq : ∀ x ∈ l, x.text.length ≤ 140737488355328) (hs : l.length ≤ 1000000) :
    Calls Tryz.prog 20 #[.slice ao l.length cap] w0 fun e w' => ∃ ga gl gc cb M, e = .returned (evL ⟨ga, gl, gc, some cb, smL l, totT l⟩) ∧ Evo w0 w' [] ∧ OwnE w' w0.heap.size 74 (.slice ga gl gc) (gramsL (wordsT l)) ∧ MapIs w' cb (fun x : Vc.Item => Value.agg (Enc.enc x).toArray) (Value.int .i64) M ∧ (∀ x, getM M x = cntO (clsL l) x) ∧ w0.heap.size ≤ cb := by
 refine calls_enter (n := 71) (args := [.slice ao l.length cap]) Tryz.func20 rfl Tryz.ntmps20 rfl ?_
 have hV : Evo w0 w0 [] := Evo.refl _ _
 have hl0 := keepE hl
 have hbd_hl := hl.bd
 refine r_seq ?_
 refine r_region ?_
 refine r_alloc (zs := [_, _, _, _, _, _]) ty_64 (by exact rfl) rfl ?_
 intro b1 w2 heb1 hEw2 hbb1 hzb1
 have hs_w2 := (hEw2).size
 replace hV := evo_step0 hV hEw2
 replace hl := hl0 _ hV
 have hAb1 := hbb1.at
 refine r_nil ?_
 refine r_seq ?_
 refine r_region ?_
 refine r_op rfl rfl rfl (run_mv (v := .slice _ _ _) rfl (by exact rfl)) ?_
 refine r_opcall rfl rfl rfl (run_callf (vs := [.slice _ _ _]) rfl (by exact rfl) Tryz.func34 rfl (by kernel_rfl)) (words_calls hl hq (by omega)) ?_
 rintro e w3 ⟨vw3, rfl, hE3, how3⟩
 refine ⟨_, rfl, ?_⟩
 have hs_w3 := (hE3).size
 replace hV := evo_step0 hV hE3
 replace hl := hl0 _ hV
 replace hbb1 := hbb1.evo0 hE3
 replace hAb1 := hAb1.evo0 hE3
 have hwl := wordsT_len l; have hgl := gramsL_len (wordsT l); have hgb := gsum_bd (wordsT l)
 obtain ⟨ao4, g4, cp4, hv4, hr4, hg4⟩ := how3.rowOf
 subst hv4
 refine r_opcall rfl rfl rfl (run_callf (vs := [.slice _ _ _]) rfl (by exact rfl) Tryz.func33 rfl (by kernel_rfl)) (grams_calls hr4 (by omega)) ?_
 rintro e w5 ⟨vg5, rfl, hE5, hog5⟩
 refine ⟨_, rfl, ?_⟩
 have hs_w5 := (hE5).size
 replace hV := evo_step0 hV hE5
 replace hl := hl0 _ hV
 replace hbb1 := hbb1.evo0 hE5
 replace hAb1 := hAb1.evo0 hE5
 replace how3 := how3.evo0 hE5
 replace hr4 := hr4.evo0 hE5
 have hobG := fun g hg => (hog5.block (g := g) hg).2; have hobG0 := fun g hg => (hog5.block (g := g) hg).1
 obtain ⟨ao6, g6, cp6, hv6, hr6, hg6⟩ := hog5.rowOf
 subst hv6
 refine r_makeMap (α := Vc.Item) (β := Int) (fun x : Vc.Item => Value.agg (Enc.enc x).toArray) (Value.int .i64) rfl ?_
 intro b7 w8 heb7 hEw8 hmb7 hzb7
 have hs_w8 := (hEw8).size
 replace hV := evo_step0 hV hEw8
 replace hl := hl0 _ hV
 replace hbb1 := hbb1.evo0 hEw8
 replace hAb1 := hAb1.evo0 hEw8
 replace how3 := how3.evo0 hEw8
 replace hr4 := hr4.evo0 hEw8
 replace hog5 := hog5.evo0 hEw8
 replace hr6 := hr6.evo0 hEw8
 refine r_op rfl rfl rfl (run_mv (v := .slice _ _ _) rfl (by exact rfl)) ?_
 refine r_opcall rfl rfl rfl (run_callf (vs := [.slice _ _ _]) rfl (by exact rfl) Tryz.func35 rfl (by kernel_rfl)) (total_calls hl (by omega)) ?_
 rintro e w9 ⟨rfl, hE9⟩
 refine ⟨_, rfl, ?_⟩
 have hs_w9 := (hE9).size
 replace hV := evo_step0 hV hE9
 replace hl := hl0 _ hV
 replace hbb1 := hbb1.evo0 hE9
 replace hAb1 := hAb1.evo0 hE9
 replace how3 := how3.evo0 hE9
 replace hr4 := hr4.evo0 hE9
 replace hog5 := hog5.evo0 hE9
 replace hr6 := hr6.evo0 hE9
 replace hmb7 := hmb7.evo0 hE9
 refine r_op rfl rfl rfl (run_bld (pv := [(0, .slice _ _ _), (1, .map _), (3, .int _ _)]) (zs := [_, _, _, _, _, _]) (cells := [_, _, _, _, _, _]) rfl ty_64 (by exact rfl) pl_64 (by exact rfl) (by exact rfl)) ?_
 have hob10 := fun g hg => (how3.block (g := g) hg).2
 have hob11 := fun g hg => (hog5.block (g := g) hg).2
 refine r_var (zs := [_, _, _, _, _, _]) (vs := [_, _, _, _, _, _]) ty_64 (by exact rfl) rfl (by exact rfl) (fun _ => rfl) (by exact rfl) rfl rfl (by exact rfl) ?_
 intro b12 w13 heb12 hEw13 hbb12 hzb12
 have hs_w13 := (hEw13).size
 replace hV := evo_step0 hV hEw13
 replace hl := hl0 _ hV
 replace hbb1 := hbb1.evo0 hEw13
 replace hAb1 := hAb1.evo0 hEw13
 replace how3 := how3.evo0 hEw13
 replace hr4 := hr4.evo0 hEw13
 replace hog5 := hog5.evo0 hEw13
 replace hr6 := hr6.evo0 hEw13
 replace hmb7 := hmb7.evo0 hEw13
 have hAb12 := hbb12.at
 refine r_nil ?_
 refine r_seq ?_
 refine r_seq ?_
 have hI2 : Evo w13 w13 [b12, b7] := Evo.refl _ _
 have hr60 := fun w9 (h9 : Evo w13 w9 [b12, b7]) => row_keep hr6 h9 (fun hne hm => by have h2 := (hg6 hne).2; simp at hm; omega)
 have hog50 := fun w9 (h9 : Evo w13 w9 [b12, b7]) => hog5.evo h9 (fun g hg hm => by have := hobG g hg; simp at hm; omega)
 have hnb : b7 ≠ b12 := by omega
 refine r_region ?_
 refine r_op rfl rfl rfl (run_fa rfl (by exact rfl) fo_64_0) ?_
 refine r_op rfl rfl rfl (run_ld1 rfl ag_59 (by exact rfl) (hAb12.cell 0 (by exact rfl))) ?_
 refine r_op rfl rfl rfl (run_lenSl rfl (by exact rfl) Tryz.underlying59) ?_
 refine r_op rfl rfl rfl (run_mv (v := .int _ _) rfl (by exact rfl)) ?_
 refine r_nil ?_
 refine r_block ?_
 refine r_loop (α := Nat) [5, 20, 21, 22, 23, 24, 25, 26, 27, 28, 29, 30, 31, 32] (fun k g w => g 20 = .int .i64 (k : Nat) ∧ k ≤ (gramsL (wordsT l)).length ∧ Blk w b12 64 [.slice ao6 (gramsL (wordsT l)).length cp6, .map (some b7), .int .i64 (sumC ((gramsL (wordsT l)).take k)), .int .i64 (0), .int .i64 (0), .int .i64 (totT l)] ∧ At w b12 0 [.slice ao6 (gramsL (wordsT l)).length cp6, .map (some b7), .int .i64 (sumC ((gramsL (wordsT l)).take k)), .int .i64 (0), .int .i64 (0), .int .i64 (totT l)] ∧ Blk w b1 64 [.slice none 0 0, .map none, .int .i64 0, .int .i64 0, .int .i64 0, .int .i64 0] ∧ At w b1 0 [.slice none 0 0, .map none, .int .i64 0, .int .i64 0, .int .i64 0, .int .i64 0] ∧ MapIs w b7 (fun x : Vc.Item => Value.agg (Enc.enc x).toArray) (Value.int .i64) [] ∧ w13.heap.size ≤ w.heap.size ∧ Evo w0 w [] ∧ Evo w13 w [b12, b7]) (fun k => (gramsL (wordsT l)).length - k) 0 ?_ ?_
 ·refine ⟨(by first | exact rfl | exact congrArg (Value.int _) (by omega) | exact congrArg (Value.int _) (by dsimp only; omega) | exact congrArg (Value.int _) (by simp) | exact congrArg S (by simp)), (by first | assumption | omega | (dsimp only; omega) | (simp; done)), hbb12, hAb12, hbb1, hAb1, hmb7, (by first | assumption | omega | (dsimp only; omega) | (simp; done)), hV, hI2⟩
 ·rintro k g w15 ⟨hj16, hk_k, hbb12, hAb12, hbb1, hAb1, hmb7, hzl14, hV, hI2⟩
  have hs_w15hV := hV.size
  have hs_w15hI2 := hI2.size
  have hlt17 := hbb12.lt
  have hlt18 := hbb1.lt
  have hlt19 := hmb7.lt
  replace hl := hl0 _ hV
  replace hog5 := hog50 _ hI2
  replace hr6 := hr60 _ hI2
  refine r_know (i := 20) (v := .int .i64 (k : Nat)) (by exact hj16) ?_
  have hgk := hgb k; have hgk1 := hgb (k + 1)
  refine r_seq ?_
  refine r_region ?_
  refine r_op rfl rfl rfl (run_lss rfl (by exact rfl) (by exact rfl)) ?_
  refine r_nil ?_
  refine r_seq ?_
  refine r_cond (by exact rfl) (fun hc20 => ?_) (fun hc20 => ?_)
  ·skip
   refine r_skip ?_
   refine r_seq ?_
   refine r_block ?_
   refine r_seq ?_
   refine r_region ?_
   refine r_op rfl rfl rfl (run_ix (k) rfl Tryz.underlying59 ty_74 (by exact rfl) (by exact rfl) (by first | exact rfl | omega) (by omega) (hr6.addr (i := k) (by omega))) ?_
   have hA210 := fun (w' : World) (h : Evo w13 w' [b12, b7]) => (hr60 w' h).atD (k) (by omega)
   have hA21 := hA210 _ hI2
   refine r_op rfl rfl rfl (run_ldN rfl ag_74 ty_74 (by exact rfl) rfl hA21) ?_
   refine r_var (zs := [_, _, _]) (vs := [_, _, _]) ty_74 (by exact rfl) rfl (by exact rfl) (fun _ => rfl) (by exact rfl) rfl rfl (by exact rfl) ?_
   intro b22 w23 heb22 hEw23 hbb22 hzb22
   have hs_w23 := (hEw23).size
   replace hV := evo_step0 hV hEw23
   replace hI2 := evo_step0 hI2 hEw23
   replace hl := hl0 _ hV
   replace hog5 := hog50 _ hI2
   replace hr6 := hr60 _ hI2
   replace hbb12 := hbb12.evo0 hEw23
   replace hAb12 := hAb12.evo0 hEw23
   replace hbb1 := hbb1.evo0 hEw23
   replace hAb1 := hAb1.evo0 hEw23
   replace hmb7 := hmb7.evo0 hEw23
   have hAb22 := hbb22.at
   refine r_nil ?_
   have hss := sumC_succ (g := (gramsL (wordsT l))) (k := k) (by omega)
   refine r_region ?_
   refine r_op rfl rfl rfl (run_fa rfl (by exact rfl) fo_64_2) ?_
   refine r_op rfl rfl rfl (run_fa rfl (by exact rfl) fo_62_0) ?_
   refine r_op rfl rfl rfl (run_ld1 rfl ag_3 (by exact rfl) (hAb12.cell 2 (by exact rfl))) ?_
   refine r_op rfl rfl rfl (run_fa rfl (by exact rfl) fo_74_2) ?_
   refine r_op rfl rfl rfl (run_ld1 rfl ag_3 (by exact rfl) (hAb22.cell 2 (by exact rfl))) ?_
   refine r_op rfl rfl rfl (run_add rfl (by exact rfl) (by exact rfl) (by omega) (by omega)) ?_
   refine r_op rfl rfl rfl (run_fa rfl (by exact rfl) fo_64_2) ?_
   refine r_op rfl rfl rfl (run_fa rfl (by exact rfl) fo_62_0) ?_
   refine r_store (v := .int _ _) (vs := [_]) (cs' := [_, _, _, _, _, _]) (by exact rfl) (by exact rfl) hbb12 ty_3 (by exact rfl) rfl (by exact rfl) rfl (by exact rfl) ?_
   intro w24 hEw24 hzw24 hb_new
   have hs_w24 := (hEw24).size
   replace hV := evo_step1 hV hEw24 (by first | exact .inl (by omega) | exact .inr (by simp))
   replace hI2 := evo_step1 hI2 hEw24 (by first | exact .inl (by omega) | exact .inr (by simp))
   replace hl := hl0 _ hV
   replace hog5 := hog50 _ hI2
   replace hr6 := hr60 _ hI2
   replace hbb1 := hbb1.evo hEw24 (by simp; omega)
   replace hAb1 := hAb1.evo hEw24 (by simp; omega)
   replace hmb7 := hmb7.evo hEw24 (by simp; omega)
   replace hbb12 := hb_new
   have hAb12 := hbb12.at
   clear hb_new
   refine r_nil ?_
   refine r_blk ?_
   refine r_region ?_
   refine r_op rfl rfl rfl (run_add rfl (by exact rfl) (by exact rfl) (by omega) (by omega)) ?_
   refine r_op rfl rfl rfl (run_mv (v := .int _ _) rfl (by exact rfl)) ?_
   refine r_nil ?_
   refine r_again (k + 1) ?_ ?_ ?_
   ·first | omega | (dsimp only; omega)
   ·refine ⟨(by first | exact rfl | exact congrArg (Value.int _) (by omega) | exact congrArg (Value.int _) (by dsimp only; omega) | exact congrArg (Value.int _) (by simp) | exact congrArg S (by simp)), (by first | assumption | omega | (dsimp only; omega) | (simp; done)), (by rw [sumC_succ (by omega)]; exact hbb12), (by rw [sumC_succ (by omega)]; exact hAb12), hbb1, hAb1, hmb7, (by first | assumption | omega | (dsimp only; omega) | (simp; done)), hV, hI2⟩
   ·repeat (first | (with_reducible exact Agree.merge _ _ _) | (with_reducible exact Agree.refl _ _) | (with_reducible refine Agree.upd ?_ _ _ rfl) | ((with_reducible refine Agree.inner ?_ ?_); (kernel_rfl)))
  ·skip
   refine r_exit rfl ?_
   refine r_seq ?_
   refine r_seq ?_
   refine r_region ?_
   refine r_op rfl rfl rfl (run_mv (v := .slice _ _ _) rfl (by exact rfl)) ?_
   refine r_op rfl rfl rfl (run_lenSl rfl (by exact rfl) Tryz.underlying23) ?_
   refine r_op rfl rfl rfl (run_mv (v := .int _ _) rfl (by exact rfl)) ?_
   refine r_nil ?_
   refine r_block ?_
   refine r_loop (α := Nat) [7, 8, 9, 35, 36, 37, 38, 39, 40, 41, 42, 43, 44, 45, 46, 47, 48, 49, 50, 51, 52, 53, 54, 55, 56, 57, 58, 59, 60, 61, 62, 63, 64, 65, 66, 67, 68, 69] (fun k g w => ∃ m : List (Vc.Item × Int), g 35 = .int .i64 (k : Nat) ∧ k ≤ l.length ∧ Blk w b12 64 [.slice ao6 (gramsL (wordsT l)).length cp6, .map (some b7), .int .i64 (((wordsT l).length : Int) + 1), .int .i64 (wN (l.take k)), .int .i64 (tN (l.take k)), .int .i64 (totT l)] ∧ At w b12 0 [.slice ao6 (gramsL (wordsT l)).length cp6, .map (some b7), .int .i64 (((wordsT l).length : Int) + 1), .int .i64 (wN (l.take k)), .int .i64 (tN (l.take k)), .int .i64 (totT l)] ∧ Blk w b1 64 [.slice none 0 0, .map none, .int .i64 0, .int .i64 0, .int .i64 0, .int .i64 0] ∧ At w b1 0 [.slice none 0 0, .map none, .int .i64 0, .int .i64 0, .int .i64 0, .int .i64 0] ∧ MapIs w b7 (fun x : Vc.Item => Value.agg (Enc.enc x).toArray) (Value.int .i64) m ∧ (∀ x, getM m x = cntO (clsL (l.take k)) x) ∧ w15.heap.size ≤ w.heap.size ∧ Evo w0 w [] ∧ Evo w13 w [b12, b7]) (fun k => l.length - k) 0 ?_ ?_
   ·refine ⟨[], (by first | exact rfl | exact congrArg (Value.int _) (by omega) | exact congrArg (Value.int _) (by dsimp only; omega) | exact congrArg (Value.int _) (by simp) | exact congrArg S (by simp)), (by first | assumption | omega | (dsimp only; omega) | (simp; done)), (by have h9 := hbb12; rw [List.take_of_length_le (by omega), sumC_grams] at h9; exact h9), (by have h9 := hAb12; rw [List.take_of_length_le (by omega), sumC_grams] at h9; exact h9), hbb1, hAb1, hmb7, (fun x => (cntO_nil x).symm), (by first | assumption | omega | (dsimp only; omega) | (simp; done)), hV, hI2⟩
   ·rintro k g w26 ⟨m, hj27, hk_k, hbb12, hAb12, hbb1, hAb1, hmb7, hmm, hzl25, hV, hI2⟩
    have hs_w26hV := hV.size
    have hs_w26hI2 := hI2.size
    have hlt28 := hbb12.lt
    have hlt29 := hbb1.lt
    have hlt30 := hmb7.lt
    replace hl := hl0 _ hV
    replace hog5 := hog50 _ hI2
    replace hr6 := hr60 _ hI2
    refine r_know (i := 35) (v := .int .i64 (k : Nat)) (by exact hj27) ?_
    have hw9 := wK_bd (clV (l.getD k default)).kind
    have hwk := wN_bd (l.take k); have htk := tN_bd (l.take k); have hlk := List.length_take_le k l
    refine r_seq ?_
    refine r_region ?_
    refine r_op rfl rfl rfl (run_lss rfl (by exact rfl) (by exact rfl)) ?_
    refine r_nil ?_
    refine r_seq ?_
    refine r_cond (by exact rfl) (fun hc31 => ?_) (fun hc31 => ?_)
    ·skip
     refine r_skip ?_
     refine r_seq ?_
     refine r_block ?_
     refine r_seq ?_
     refine r_region ?_
     refine r_op rfl rfl rfl (run_ix (k) rfl Tryz.underlying23 ty_43 (by exact rfl) (by exact rfl) (by first | exact rfl | omega) (by omega) (hl.addr (i := k) (by omega))) ?_
     have hA320 := fun (w' : World) (h : Evo w0 w' []) => (hl0 w' h).atD (k) (by omega)
     have hA32 := hA320 _ hV
     refine r_op rfl rfl rfl (run_ldN rfl ag_43 ty_43 (by exact rfl) rfl hA32) ?_
     refine r_var (zs := [_, _, _]) (vs := [_, _, _]) ty_43 (by exact rfl) rfl (by exact rfl) (fun _ => rfl) (by exact rfl) rfl rfl (by exact rfl) ?_
     intro b33 w34 heb33 hEw34 hbb33 hzb33
     have hs_w34 := (hEw34).size
     replace hV := evo_step0 hV hEw34
     replace hI2 := evo_step0 hI2 hEw34
     replace hl := hl0 _ hV
     replace hog5 := hog50 _ hI2
     replace hr6 := hr60 _ hI2
     replace hbb12 := hbb12.evo0 hEw34
     replace hAb12 := hAb12.evo0 hEw34
     replace hbb1 := hbb1.evo0 hEw34
     replace hAb1 := hAb1.evo0 hEw34
     replace hmb7 := hmb7.evo0 hEw34
     have hAb33 := hbb33.at
     refine r_nil ?_
     refine r_seq ?_
     refine r_region ?_
     refine r_op rfl rfl rfl (run_ldN rfl ag_43 ty_43 (by exact rfl) rfl hAb33) ?_
     refine r_opcall rfl rfl rfl (run_callf (vs := [.agg _]) rfl (by exact rfl) Tryz.func36 rfl (by kernel_rfl)) (class2_calls ((hq _ (getD_in (show k < l.length by omega))))) ?_
     rintro e w35 ⟨rfl, hE35⟩
     refine ⟨_, rfl, ?_⟩
     have hs_w35 := (hE35).size
     replace hV := evo_step0 hV hE35
     replace hI2 := evo_step0 hI2 hE35
     replace hl := hl0 _ hV
     replace hog5 := hog50 _ hI2
     replace hr6 := hr60 _ hI2
     replace hbb12 := hbb12.evo0 hE35
     replace hAb12 := hAb12.evo0 hE35
     replace hbb1 := hbb1.evo0 hE35
     replace hAb1 := hAb1.evo0 hE35
     replace hmb7 := hmb7.evo0 hE35
     refine r_op rfl rfl rfl (run_mv (v := .tuple _) rfl (by exact rfl)) ?_
     refine r_op rfl rfl rfl (run_extract (v := .agg _) rfl (by exact rfl) (by exact rfl)) ?_
     refine r_op rfl rfl rfl (run_extract (v := .bool _) rfl (by exact rfl) (by exact rfl)) ?_
     refine r_var (zs := [_, _, _]) (vs := [_, _, _]) ty_43 (by exact rfl) rfl (by exact rfl) (fun _ => rfl) (by exact rfl) rfl rfl (by exact rfl) ?_
     intro b36 w37 heb36 hEw37 hbb36 hzb36
     have hs_w37 := (hEw37).size
     replace hV := evo_step0 hV hEw37
     replace hI2 := evo_step0 hI2 hEw37
     replace hl := hl0 _ hV
     replace hog5 := hog50 _ hI2
     replace hr6 := hr60 _ hI2
     replace hbb12 := hbb12.evo0 hEw37
     replace hAb12 := hAb12.evo0 hEw37
     replace hbb1 := hbb1.evo0 hEw37
     replace hAb1 := hAb1.evo0 hEw37
     replace hmb7 := hmb7.evo0 hEw37
     have hAb36 := hbb36.at
     refine r_op rfl rfl rfl (run_asg (v := .bool _) rfl (by exact rfl)) ?_
     refine r_nil ?_
     refine r_seq ?_
     refine r_seq ?_
     refine r_region ?_
     refine r_op rfl rfl rfl (run_mv (v := .bool _) rfl (by exact rfl)) ?_
     refine r_op rfl rfl rfl (run_not rfl (by exact rfl)) ?_
     refine r_nil ?_
     refine r_cond (by exact rfl) (fun hc38 => ?_) (fun hc38 => ?_)
     ·skip
      have hok := hc38
      refine r_exit rfl ?_
      refine r_region ?_
      refine r_op rfl rfl rfl (run_add rfl (by exact rfl) (by exact rfl) (by omega) (by omega)) ?_
      refine r_op rfl rfl rfl (run_mv (v := .int _ _) rfl (by exact rfl)) ?_
      refine r_nil ?_
      refine r_again (k + 1) ?_ ?_ ?_
      ·first | omega | (dsimp only; omega)
      ·refine ⟨_, (by first | exact rfl | exact congrArg (Value.int _) (by omega) | exact congrArg (Value.int _) (by dsimp only; omega) | exact congrArg (Value.int _) (by simp) | exact congrArg S (by simp)), (by first | assumption | omega | (dsimp only; omega) | (simp; done)), (by first | (have hy := cls_yes (l := l) (k := k) (by omega) hok; rw [wN_snoc hy, tN_snoc hy, (wC_tag hc38).1, (wC_tag hc38).2, Int.add_zero]; exact hbb12) | (have hy := cls_yes (l := l) (k := k) (by omega) hok; rw [wN_snoc hy, tN_snoc hy, (wC_not hc38).1, (wC_not hc38).2, Int.add_zero]; exact hbb12) | (have hy := cls_no (l := l) (k := k) (by omega) hok; rw [wN_same hy, tN_same hy]; exact hbb12)), (by first | (have hy := cls_yes (l := l) (k := k) (by omega) hok; rw [wN_snoc hy, tN_snoc hy, (wC_tag hc38).1, (wC_tag hc38).2, Int.add_zero]; exact hAb12) | (have hy := cls_yes (l := l) (k := k) (by omega) hok; rw [wN_snoc hy, tN_snoc hy, (wC_not hc38).1, (wC_not hc38).2, Int.add_zero]; exact hAb12) | (have hy := cls_no (l := l) (k := k) (by omega) hok; rw [wN_same hy, tN_same hy]; exact hAb12)), hbb1, hAb1, hmb7, (by first | (rw [cls_yes (by omega) hok]; exact cntO_snoc hmm hm2) | (rw [cls_no (by omega) hok]; exact hmm)), (by first | assumption | omega | (dsimp only; omega) | (simp; done)), hV, hI2⟩
      ·repeat (first | (with_reducible exact Agree.merge _ _ _) | (with_reducible exact Agree.refl _ _) | (with_reducible refine Agree.upd ?_ _ _ rfl) | ((with_reducible refine Agree.inner ?_ ?_); (kernel_rfl)))
     ·skip
      have hok := Classical.not_not.1 hc38
      refine r_skip ?_
      refine r_seq ?_
      have hA9 := hmm (clV (l.getD k default)); have hB9 : (getM (setM m (clV (l.getD k default)) ((getM m (clV (l.getD k default))).getD 0)) (clV (l.getD k default))).getD 0 = (getM m (clV (l.getD k default))).getD 0 := by rw [getM_setM, if_pos rfl]; rfl
      have hC9 : (getM m (clV (l.getD k default))).getD 0 = ((clsL (l.take k)).count (clV (l.getD k default)) : Nat) := by rw [hA9, cntO_get]
      have hl9 := List.count_le_length (a := (clV (l.getD k default))) (l := clsL (l.take k)); have hk9 := cls_len (l.take k)
      refine r_cut [46, 47, 48, 49, 50, 51, 52] (fun g w => ∃ m2 : List (Vc.Item × Int), Blk w b12 64 [.slice ao6 (gramsL (wordsT l)).length cp6, .map (some b7), .int .i64 (((wordsT l).length : Int) + 1), .int .i64 (wN (l.take k)), .int .i64 (tN (l.take k)), .int .i64 (totT l)] ∧ At w b12 0 [.slice ao6 (gramsL (wordsT l)).length cp6, .map (some b7), .int .i64 (((wordsT l).length : Int) + 1), .int .i64 (wN (l.take k)), .int .i64 (tN (l.take k)), .int .i64 (totT l)] ∧ Blk w b1 64 [.slice none 0 0, .map none, .int .i64 0, .int .i64 0, .int .i64 0, .int .i64 0] ∧ At w b1 0 [.slice none 0 0, .map none, .int .i64 0, .int .i64 0, .int .i64 0, .int .i64 0] ∧ Blk w b36 43 (Enc.enc (clV (l.getD k default))) ∧ At w b36 0 (Enc.enc (clV (l.getD k default))) ∧ MapIs w b7 (fun x : Vc.Item => Value.agg (Enc.enc x).toArray) (Value.int .i64) m2 ∧ Bump m m2 (clV (l.getD k default)) 1 ∧ w37.heap.size ≤ w.heap.size ∧ Evo w0 w [] ∧ Evo w13 w [b12, b7]) ?_ ?_
      ·skip
       have hbb12_q := hbb12
       have hAb12_q := hAb12
       have hbb1_q := hbb1
       have hAb1_q := hAb1
       have hmb7_q := hmb7
       have hbb36_q := hbb36
       have hAb36_q := hAb36
       have hV_q := hV
       have hI2_q := hI2
       refine h_region ([b7]) (by kernel_rfl) ?_
       intro w40 hE41 hC42
       have hs_w40 := (hE41).size
       replace hV := evo_step0 hV hE41
       replace hI2 := evo_step0 hI2 hE41
       replace hl := hl0 _ hV
       replace hog5 := hog50 _ hI2
       replace hr6 := hr60 _ hI2
       replace hbb12 := hbb12.evo0 hE41
       replace hAb12 := hAb12.evo0 hE41
       replace hbb1 := hbb1.evo0 hE41
       replace hAb1 := hAb1.evo0 hE41
       replace hmb7 := hmb7.evo0 hE41
       replace hbb36 := hbb36.evo0 hE41
       replace hAb36 := hAb36.evo0 hE41
       refine h_take (i := 0) (by exact rfl) rfl rfl rfl (by kernel_rfl) (fun w' hC => run_fa rfl (by exact rfl) fo_64_1) hC42 ?_
       refine h_take (i := 1) (by exact rfl) rfl rfl rfl (by kernel_rfl) (fun w' hC => run_ld1 rfl ag_60 (by exact rfl) ((hAb12_q.evo hC (by simp; omega)).cell 1 (by exact rfl))) hC42 ?_
       refine h_take (i := 2) (by exact rfl) rfl rfl rfl (by kernel_rfl) (fun w' hC => run_ldN rfl ag_43 ty_43 (by exact rfl) rfl (hAb36_q.evo hC (by simp; omega))) hC42 ?_
       refine h_two (i := 3) (j := 5) (by kernel_rfl) ?_ ?_
       ·skip
        refine h_do (by exact rfl) ?_
        refine r_op rfl rfl rfl (run_lookup1 (a := (clV (l.getD k default))) (z := 0) (v := .int _ _) ktoki rfl Tryz.underlying60 ty_3 (by exact rfl) (by exact rfl) hmb7 rfl) ?_
        refine h_next hC42 ?_
        refine h_take (i := 4) (by exact rfl) rfl rfl rfl (by kernel_rfl) (fun w' hC => run_add rfl (by exact rfl) (by exact rfl) (by omega) (by omega)) hC42 ?_
        refine h_one (i := 5) (by kernel_rfl) ?_
        refine h_do (by exact rfl) ?_
        refine r_mapEntry (a := (clV (l.getD k default))) (z := 0) ktoki rfl Tryz.underlying60 ty_3 (by exact rfl) (by exact rfl) hmb7 ?_
        intro s43 w43 hE43 hzw43 hm_new hst43
        have hs_w43 := (hE43).size
        replace hV := evo_step1 hV hE43 (by first | exact .inl (by omega) | exact .inr (by simp))
        replace hI2 := evo_step1 hI2 hE43 (by first | exact .inl (by omega) | exact .inr (by simp))
        replace hC42 := evo_step1 hC42 hE43 (by first | exact .inl (by omega) | exact .inr (by simp))
        replace hl := hl0 _ hV
        replace hog5 := hog50 _ hI2
        replace hr6 := hr60 _ hI2
        replace hbb12 := hbb12.evo hE43 (by simp; omega)
        replace hAb12 := hAb12.evo hE43 (by simp; omega)
        replace hbb1 := hbb1.evo hE43 (by simp; omega)
        replace hAb1 := hAb1.evo hE43 (by simp; omega)
        replace hbb36 := hbb36.evo hE43 (by simp; omega)
        replace hAb36 := hAb36.evo hE43 (by simp; omega)
        replace hmb7 := hm_new
        clear hm_new
        refine h_next hC42 ?_
        refine h_take (i := 6) (by exact rfl) rfl rfl rfl (by kernel_rfl) (fun w' hC => run_extract (v := .int _ _) rfl (by exact rfl) (by exact rfl)) hC42 ?_
        refine h_one (i := 7) (by kernel_rfl) ?_
        refine h_do (by exact rfl) ?_
        refine r_entryStore (a := (clV (l.getD k default))) ktoki (by exact rfl) (by exact rfl) (by exact rfl) hmb7 hst43 ?_
        intro w44 hE44 hzw44 hm_new
        have hs_w44 := (hE44).size
        replace hV := evo_step1 hV hE44 (by first | exact .inl (by omega) | exact .inr (by simp))
        replace hI2 := evo_step1 hI2 hE44 (by first | exact .inl (by omega) | exact .inr (by simp))
        replace hl := hl0 _ hV
        replace hog5 := hog50 _ hI2
        replace hr6 := hr60 _ hI2
        replace hbb12 := hbb12.evo hE44 (by simp; omega)
        replace hAb12 := hAb12.evo hE44 (by simp; omega)
        replace hbb1 := hbb1.evo hE44 (by simp; omega)
        replace hAb1 := hAb1.evo hE44 (by simp; omega)
        replace hbb36 := hbb36.evo hE44 (by simp; omega)
        replace hAb36 := hAb36.evo hE44 (by simp; omega)
        replace hmb7 := hm_new
        clear hm_new
        refine h_last (by kernel_rfl) ?_
        refine h_done (by kernel_rfl) ?_
        refine r_cut_end ?_ ?_
        ·refine ⟨_, hbb12, hAb12, hbb1, hAb1, hbb36, hAb36, hmb7, (by first | exact bumpF 1 | exact bumpT 1), (by first | assumption | omega | (dsimp only; omega) | (simp; done)), hV, hI2⟩
        ·repeat (first | (with_reducible exact Agree.merge _ _ _) | (with_reducible exact Agree.refl _ _) | (with_reducible refine Agree.upd ?_ _ _ rfl) | ((with_reducible refine Agree.inner ?_ ?_); (kernel_rfl)))
       ·skip
        refine h_do (by exact rfl) ?_
        refine r_mapEntry (a := (clV (l.getD k default))) (z := 0) ktoki rfl Tryz.underlying60 ty_3 (by exact rfl) (by exact rfl) hmb7 ?_
        intro s45 w45 hE45 hzw45 hm_new hst45
        have hs_w45 := (hE45).size
        replace hV := evo_step1 hV hE45 (by first | exact .inl (by omega) | exact .inr (by simp))
        replace hI2 := evo_step1 hI2 hE45 (by first | exact .inl (by omega) | exact .inr (by simp))
        replace hC42 := evo_step1 hC42 hE45 (by first | exact .inl (by omega) | exact .inr (by simp))
        replace hl := hl0 _ hV
        replace hog5 := hog50 _ hI2
        replace hr6 := hr60 _ hI2
        replace hbb12 := hbb12.evo hE45 (by simp; omega)
        replace hAb12 := hAb12.evo hE45 (by simp; omega)
        replace hbb1 := hbb1.evo hE45 (by simp; omega)
        replace hAb1 := hAb1.evo hE45 (by simp; omega)
        replace hbb36 := hbb36.evo hE45 (by simp; omega)
        replace hAb36 := hAb36.evo hE45 (by simp; omega)
        replace hmb7 := hm_new
        clear hm_new
        refine h_next hC42 ?_
        refine h_take (i := 6) (by exact rfl) rfl rfl rfl (by kernel_rfl) (fun w' hC => run_extract (v := .int _ _) rfl (by exact rfl) (by exact rfl)) hC42 ?_
        refine h_one (i := 3) (by kernel_rfl) ?_
        refine h_do (by exact rfl) ?_
        refine r_op rfl rfl rfl (run_lookup1 (a := (clV (l.getD k default))) (z := 0) (v := .int _ _) ktoki rfl Tryz.underlying60 ty_3 (by exact rfl) (by exact rfl) hmb7 rfl) ?_
        refine h_next hC42 ?_
        refine h_take (i := 4) (by exact rfl) rfl rfl rfl (by kernel_rfl) (fun w' hC => run_add rfl (by exact rfl) (by exact rfl) (by omega) (by omega)) hC42 ?_
        refine h_one (i := 7) (by kernel_rfl) ?_
        refine h_do (by exact rfl) ?_
        refine r_entryStore (a := (clV (l.getD k default))) ktoki (by exact rfl) (by exact rfl) (by exact rfl) hmb7 hst45 ?_
        intro w46 hE46 hzw46 hm_new
        have hs_w46 := (hE46).size
        replace hV := evo_step1 hV hE46 (by first | exact .inl (by omega) | exact .inr (by simp))
        replace hI2 := evo_step1 hI2 hE46 (by first | exact .inl (by omega) | exact .inr (by simp))
        replace hl := hl0 _ hV
        replace hog5 := hog50 _ hI2
        replace hr6 := hr60 _ hI2
        replace hbb12 := hbb12.evo hE46 (by simp; omega)
        replace hAb12 := hAb12.evo hE46 (by simp; omega)
        replace hbb1 := hbb1.evo hE46 (by simp; omega)
        replace hAb1 := hAb1.evo hE46 (by simp; omega)
        replace hbb36 := hbb36.evo hE46 (by simp; omega)
        replace hAb36 := hAb36.evo hE46 (by simp; omega)
        replace hmb7 := hm_new
        clear hm_new
        refine h_last (by kernel_rfl) ?_
        refine h_done (by kernel_rfl) ?_
        refine r_cut_end ?_ ?_
        ·refine ⟨_, hbb12, hAb12, hbb1, hAb1, hbb36, hAb36, hmb7, (by first | exact bumpF 1 | exact bumpT 1), (by first | assumption | omega | (dsimp only; omega) | (simp; done)), hV, hI2⟩
        ·repeat (first | (with_reducible exact Agree.merge _ _ _) | (with_reducible exact Agree.refl _ _) | (with_reducible refine Agree.upd ?_ _ _ rfl) | ((with_reducible refine Agree.inner ?_ ?_); (kernel_rfl)))
      ·rintro g w47 ⟨m2, hbb12, hAb12, hbb1, hAb1, hbb36, hAb36, hmb7, hm2, hzl39, hV, hI2⟩
       have hs_w47hV := hV.size
       have hs_w47hI2 := hI2.size
       have hlt48 := hbb12.lt
       have hlt49 := hbb1.lt
       have hlt50 := hbb36.lt
       have hlt51 := hmb7.lt
       replace hl := hl0 _ hV
       replace hog5 := hog50 _ hI2
       replace hr6 := hr60 _ hI2
       replace hA32 := hA320 _ hV
       refine r_seq ?_
       refine r_region ?_
       refine r_op rfl rfl rfl (run_ldN rfl ag_43 ty_43 (by exact rfl) rfl hAb36) ?_
       refine r_opcall rfl rfl rfl (run_callf (vs := [.agg _]) rfl (by exact rfl) Tryz.func37 rfl (by kernel_rfl)) (ixtag_calls (x := (clV (l.getD k default)))) ?_
       rintro e w52 ⟨rfl, hE52⟩
       refine ⟨_, rfl, ?_⟩
       have hs_w52 := (hE52).size
       replace hV := evo_step0 hV hE52
       replace hI2 := evo_step0 hI2 hE52
       replace hl := hl0 _ hV
       replace hog5 := hog50 _ hI2
       replace hr6 := hr60 _ hI2
       replace hbb12 := hbb12.evo0 hE52
       replace hAb12 := hAb12.evo0 hE52
       replace hbb1 := hbb1.evo0 hE52
       replace hAb1 := hAb1.evo0 hE52
       replace hbb36 := hbb36.evo0 hE52
       replace hAb36 := hAb36.evo0 hE52
       replace hmb7 := hmb7.evo0 hE52
       refine r_nil ?_
       refine r_cond (by exact rfl) (fun hc53 => ?_) (fun hc53 => ?_)
       ·skip
        refine r_region ?_
        refine r_op rfl rfl rfl (run_fa rfl (by exact rfl) fo_64_2) ?_
        refine r_op rfl rfl rfl (run_fa rfl (by exact rfl) fo_62_2) ?_
        refine r_op rfl rfl rfl (run_ld1 rfl ag_3 (by exact rfl) (hAb12.cell 4 (by exact rfl))) ?_
        refine r_op rfl rfl rfl (run_add rfl (by exact rfl) (by exact rfl) (by omega) (by omega)) ?_
        refine r_op rfl rfl rfl (run_fa rfl (by exact rfl) fo_64_2) ?_
        refine r_op rfl rfl rfl (run_fa rfl (by exact rfl) fo_62_2) ?_
        refine r_store (v := .int _ _) (vs := [_]) (cs' := [_, _, _, _, _, _]) (by exact rfl) (by exact rfl) hbb12 ty_3 (by exact rfl) rfl (by exact rfl) rfl (by exact rfl) ?_
        intro w54 hEw54 hzw54 hb_new
        have hs_w54 := (hEw54).size
        replace hV := evo_step1 hV hEw54 (by first | exact .inl (by omega) | exact .inr (by simp))
        replace hI2 := evo_step1 hI2 hEw54 (by first | exact .inl (by omega) | exact .inr (by simp))
        replace hl := hl0 _ hV
        replace hog5 := hog50 _ hI2
        replace hr6 := hr60 _ hI2
        replace hbb1 := hbb1.evo hEw54 (by simp; omega)
        replace hAb1 := hAb1.evo hEw54 (by simp; omega)
        replace hmb7 := hmb7.evo hEw54 (by simp; omega)
        replace hbb12 := hb_new
        have hAb12 := hbb12.at
        clear hb_new
        refine r_nil ?_
        refine r_blk ?_
        refine r_region ?_
        refine r_op rfl rfl rfl (run_add rfl (by exact rfl) (by exact rfl) (by omega) (by omega)) ?_
        refine r_op rfl rfl rfl (run_mv (v := .int _ _) rfl (by exact rfl)) ?_
        refine r_nil ?_
        refine r_again (k + 1) ?_ ?_ ?_
        ·first | omega | (dsimp only; omega)
        ·refine ⟨_, (by first | exact rfl | exact congrArg (Value.int _) (by omega) | exact congrArg (Value.int _) (by dsimp only; omega) | exact congrArg (Value.int _) (by simp) | exact congrArg S (by simp)), (by first | assumption | omega | (dsimp only; omega) | (simp; done)), (by first | (have hy := cls_yes (l := l) (k := k) (by omega) hok; rw [wN_snoc hy, tN_snoc hy, (wC_tag hc53).1, (wC_tag hc53).2, Int.add_zero]; exact hbb12) | (have hy := cls_yes (l := l) (k := k) (by omega) hok; rw [wN_snoc hy, tN_snoc hy, (wC_not hc53).1, (wC_not hc53).2, Int.add_zero]; exact hbb12) | (have hy := cls_no (l := l) (k := k) (by omega) hok; rw [wN_same hy, tN_same hy]; exact hbb12)), (by first | (have hy := cls_yes (l := l) (k := k) (by omega) hok; rw [wN_snoc hy, tN_snoc hy, (wC_tag hc53).1, (wC_tag hc53).2, Int.add_zero]; exact hAb12) | (have hy := cls_yes (l := l) (k := k) (by omega) hok; rw [wN_snoc hy, tN_snoc hy, (wC_not hc53).1, (wC_not hc53).2, Int.add_zero]; exact hAb12) | (have hy := cls_no (l := l) (k := k) (by omega) hok; rw [wN_same hy, tN_same hy]; exact hAb12)), hbb1, hAb1, hmb7, (by first | (rw [cls_yes (by omega) hok]; exact cntO_snoc hmm hm2) | (rw [cls_no (by omega) hok]; exact hmm)), (by first | assumption | omega | (dsimp only; omega) | (simp; done)), hV, hI2⟩
        ·repeat (first | (with_reducible exact Agree.merge _ _ _) | (with_reducible exact Agree.refl _ _) | (with_reducible refine Agree.upd ?_ _ _ rfl) | ((with_reducible refine Agree.inner ?_ ?_); (kernel_rfl)))
       ·skip
        have hbb12_q := hbb12
        have hAb12_q := hAb12
        have hbb1_q := hbb1
        have hAb1_q := hAb1
        have hbb36_q := hbb36
        have hAb36_q := hAb36
        have hmb7_q := hmb7
        have hV_q := hV
        have hI2_q := hI2
        refine h_region ([]) (by kernel_rfl) ?_
        intro w55 hE56 hC57
        have hs_w55 := (hE56).size
        replace hV := evo_step0 hV hE56
        replace hI2 := evo_step0 hI2 hE56
        replace hl := hl0 _ hV
        replace hog5 := hog50 _ hI2
        replace hr6 := hr60 _ hI2
        replace hbb12 := hbb12.evo0 hE56
        replace hAb12 := hAb12.evo0 hE56
        replace hbb1 := hbb1.evo0 hE56
        replace hAb1 := hAb1.evo0 hE56
        replace hbb36 := hbb36.evo0 hE56
        replace hAb36 := hAb36.evo0 hE56
        replace hmb7 := hmb7.evo0 hE56
        refine h_take (i := 0) (by exact rfl) rfl rfl rfl (by kernel_rfl) (fun w' hC => run_fa rfl (by exact rfl) fo_64_2) hC57 ?_
        refine h_take (i := 1) (by exact rfl) rfl rfl rfl (by kernel_rfl) (fun w' hC => run_fa rfl (by exact rfl) fo_62_1) hC57 ?_
        refine h_take (i := 2) (by exact rfl) rfl rfl rfl (by kernel_rfl) (fun w' hC => run_ld1 rfl ag_3 (by exact rfl) ((hAb12_q.evo0 hC).cell 3 (by exact rfl))) hC57 ?_
        refine h_take (i := 3) (by exact rfl) rfl rfl rfl (by kernel_rfl) (fun w' hC => run_ldN rfl ag_43 ty_43 (by exact rfl) rfl (hAb36_q.evo0 hC)) hC57 ?_
        refine h_one (i := 4) (by kernel_rfl) ?_
        refine h_do (by exact rfl) ?_
        refine r_opcall rfl rfl rfl (run_callf (vs := [.agg _]) rfl (by exact rfl) Tryz.func38 rfl (by kernel_rfl)) (weight_calls (x := (clV (l.getD k default)))) ?_
        rintro e w58 ⟨rfl, hE58⟩
        refine ⟨_, rfl, ?_⟩
        have hs_w58 := (hE58).size
        replace hV := evo_step0 hV hE58
        replace hI2 := evo_step0 hI2 hE58
        replace hC57 := evo_step0 hC57 hE58
        replace hl := hl0 _ hV
        replace hog5 := hog50 _ hI2
        replace hr6 := hr60 _ hI2
        replace hbb12 := hbb12.evo0 hE58
        replace hAb12 := hAb12.evo0 hE58
        replace hbb1 := hbb1.evo0 hE58
        replace hAb1 := hAb1.evo0 hE58
        replace hmb7 := hmb7.evo0 hE58
        refine h_next hC57 ?_
        refine h_take (i := 5) (by exact rfl) rfl rfl rfl (by kernel_rfl) (fun w' hC => run_add rfl (by exact rfl) (by exact rfl) (by omega) (by omega)) hC57 ?_
        refine h_take (i := 6) (by exact rfl) rfl rfl rfl (by kernel_rfl) (fun w' hC => run_fa rfl (by exact rfl) fo_64_2) hC57 ?_
        refine h_take (i := 7) (by exact rfl) rfl rfl rfl (by kernel_rfl) (fun w' hC => run_fa rfl (by exact rfl) fo_62_1) hC57 ?_
        refine h_one (i := 8) (by kernel_rfl) ?_
        refine h_do (by exact rfl) ?_
        refine r_store (v := .int _ _) (vs := [_]) (cs' := [_, _, _, _, _, _]) (by exact rfl) (by exact rfl) hbb12 ty_3 (by exact rfl) rfl (by exact rfl) rfl (by exact rfl) ?_
        intro w59 hEw59 hzw59 hb_new
        have hs_w59 := (hEw59).size
        replace hV := evo_step1 hV hEw59 (by first | exact .inl (by omega) | exact .inr (by simp))
        replace hI2 := evo_step1 hI2 hEw59 (by first | exact .inl (by omega) | exact .inr (by simp))
        replace hl := hl0 _ hV
        replace hog5 := hog50 _ hI2
        replace hr6 := hr60 _ hI2
        replace hbb1 := hbb1.evo hEw59 (by simp; omega)
        replace hAb1 := hAb1.evo hEw59 (by simp; omega)
        replace hmb7 := hmb7.evo hEw59 (by simp; omega)
        replace hbb12 := hb_new
        have hAb12 := hbb12.at
        clear hb_new
        refine h_last (by kernel_rfl) ?_
        refine h_done (by kernel_rfl) ?_
        refine r_blk ?_
        refine r_region ?_
        refine r_op rfl rfl rfl (run_add rfl (by exact rfl) (by exact rfl) (by omega) (by omega)) ?_
        refine r_op rfl rfl rfl (run_mv (v := .int _ _) rfl (by exact rfl)) ?_
        refine r_nil ?_
        refine r_again (k + 1) ?_ ?_ ?_
        ·first | omega | (dsimp only; omega)
        ·refine ⟨_, (by first | exact rfl | exact congrArg (Value.int _) (by omega) | exact congrArg (Value.int _) (by dsimp only; omega) | exact congrArg (Value.int _) (by simp) | exact congrArg S (by simp)), (by first | assumption | omega | (dsimp only; omega) | (simp; done)), (by first | (have hy := cls_yes (l := l) (k := k) (by omega) hok; rw [wN_snoc hy, tN_snoc hy, (wC_tag hc53).1, (wC_tag hc53).2, Int.add_zero]; exact hbb12) | (have hy := cls_yes (l := l) (k := k) (by omega) hok; rw [wN_snoc hy, tN_snoc hy, (wC_not hc53).1, (wC_not hc53).2, Int.add_zero]; exact hbb12) | (have hy := cls_no (l := l) (k := k) (by omega) hok; rw [wN_same hy, tN_same hy]; exact hbb12)), (by first | (have hy := cls_yes (l := l) (k := k) (by omega) hok; rw [wN_snoc hy, tN_snoc hy, (wC_tag hc53).1, (wC_tag hc53).2, Int.add_zero]; exact hAb12) | (have hy := cls_yes (l := l) (k := k) (by omega) hok; rw [wN_snoc hy, tN_snoc hy, (wC_not hc53).1, (wC_not hc53).2, Int.add_zero]; exact hAb12) | (have hy := cls_no (l := l) (k := k) (by omega) hok; rw [wN_same hy, tN_same hy]; exact hAb12)), hbb1, hAb1, hmb7, (by first | (rw [cls_yes (by omega) hok]; exact cntO_snoc hmm hm2) | (rw [cls_no (by omega) hok]; exact hmm)), (by first | assumption | omega | (dsimp only; omega) | (simp; done)), hV, hI2⟩
        ·repeat (first | (with_reducible exact Agree.merge _ _ _) | (with_reducible exact Agree.refl _ _) | (with_reducible refine Agree.upd ?_ _ _ rfl) | ((with_reducible refine Agree.inner ?_ ?_); (kernel_rfl)))
    ·skip
     refine r_exit rfl ?_
     refine r_seq ?_
     rw [List.take_of_length_le (by omega)] at hbb12 hAb12 hmm
     refine r_region ?_
     refine r_op rfl rfl rfl (run_ldN rfl ag_64 ty_64 (by exact rfl) rfl hAb12) ?_
     refine r_store (v := .agg _) (vs := [_, _, _, _, _, _]) (cs' := [_, _, _, _, _, _]) (by exact rfl) (by exact rfl) hbb1 ty_64 (by exact rfl) rfl (by exact rfl) rfl (by exact rfl) ?_
     intro w60 hEw60 hzw60 hb_new
     have hs_w60 := (hEw60).size
     replace hV := evo_step1 hV hEw60 (by first | exact .inl (by omega) | exact .inr (by simp))
     replace hl := hl0 _ hV
     replace hog5 := hog5.evo hEw60 (by intro g hg hm; simp at hm; subst hm; have h7 := hobG0 g hg; omega)
     replace hbb12 := hbb12.evo hEw60 (by simp; omega)
     replace hAb12 := hAb12.evo hEw60 (by simp; omega)
     replace hmb7 := hmb7.evo hEw60 (by simp; omega)
     replace hbb1 := hb_new
     have hAb1 := hbb1.at
     clear hb_new
     refine r_nil ?_
     refine r_ret (resC1 (cs := [_, _, _, _, _, _]) rfl ag_64 ty_64 (by exact rfl) rfl hAb1) ?_
     exact ⟨_, _, _, _, _, rfl, hV, hog5.base_le (by omega), hmb7, hmm, by omega⟩
end Go.Proofs.YthbcklajlmcifaaGreat
namespace Go.Proofs.YthbcklajlmcifaaGreat
open Go.RowKit Go.Vc
theorem ag_48 : aggP Tryz.prog 48 = some false := by kernel_rfl
theorem ag_49 : aggP Tryz.prog 49 = some false := by kernel_rfl
theorem ag_50 : aggP Tryz.prog 50 = some false := by kernel_rfl
theorem ag_76 : aggP Tryz.prog 76 = some true := by kernel_rfl
theorem fo_52_0 : fieldP Tryz.prog 52 0 = some 0 := by kernel_rfl
theorem fo_52_1 : fieldP Tryz.prog 52 1 = some 1 := by kernel_rfl
theorem fo_52_2 : fieldP Tryz.prog 52 2 = some 2 := by kernel_rfl
theorem pl_76 : placesP Tryz.prog 76 = some [(0, 1), (1, 1)] := by kernel_rfl
theorem pl_79 : placesP Tryz.prog 79 = some [(0, 1), (1, 1)] := by kernel_rfl
theorem ty_76 : tyP Tryz.prog 76 = some (2, 32, some (.agg #[(.string ⟨#[]⟩), (.string ⟨#[]⟩)])) := by kernel_rfl
theorem ty_77 : tyP Tryz.prog 77 = some (1, 24, some (.slice none 0 0)) := by kernel_rfl
theorem ty_79 : tyP Tryz.prog 79 = some (2, 16, some (.agg #[(.int .i64 0), (.int .i64 0)])) := by kernel_rfl
set_option maxHeartbeats 2000000 in
theorem ixadd_calls {ao : Option Addr} {b off cap : Nat} {l : List Vc.Item} {bx : Nat} {A : Stored} {F : List Nat} {id : Int} {w0 : World} (hx : Idx w0 bx A F) (hl : RowE w0 ao b off cap l) (hq : ∀ x ∈ l, x.text.length ≤ 140737488355328) (hs : l.length ≤ 1000000) :
    Calls Tryz.prog 15 #[.pointer (some ⟨bx, 0, none⟩), .int .i64 id, .slice ao l.length cap] w0 fun e w' => ∃ F', e = .returned (.bool (decide (addOk A id))) ∧ Evo w0 w' F ∧ Idx w' bx (addA A id l) F' ∧ (∀ g ∈ F', g ∈ F ∨ w0.heap.size ≤ g) := by
 obtain ⟨ml, mg, mc, L, F1, F2, F3, hp, rfl⟩ := hx
 have hW : Evo w0 w0 [] := Evo.refl _ _
 have hbx := fun w9 (h9 : Evo w0 w9 []) => (hp.evo h9 (by simp)).blk.at
 have hlm := fun w9 (h9 : Evo w0 w9 []) => (hp.evo h9 (by simp)).lists
 have hlb := hp.blk.lt; have hll := hp.lists.lt; have hlg := hp.grams.lt; have hlc := hp.classes.lt
 have hLA := hp.lvs.len
 obtain ⟨n1, n2, n3, n4, n5, n6⟩ := hp.ne
 have hids := hp.lists.nodup
 rw [hp.lvs.1] at hids
 refine calls_enter (n := 89) (args := [.pointer (some ⟨bx, 0, none⟩), .int .i64 id, .slice ao l.length cap]) Tryz.func15 rfl Tryz.ntmps15 rfl ?_
 have hV : Evo w0 w0 (feet bx ml mg mc F1 F2 F3) := Evo.refl _ _
 have hbx0 := hbx
 replace hbx := hbx0 _ hW
 have hlm0 := hlm
 replace hlm := hlm0 _ hW
 have hl0 := keepE hl
 have hbd_hl := hl.bd
 refine r_seq ?_
 refine r_region ?_
 refine r_op rfl rfl rfl (run_asg (v := .bool _) rfl (by exact rfl)) ?_
 refine r_nil ?_
 refine r_seq ?_
 refine r_seq ?_
 refine r_region ?_
 refine r_op rfl rfl rfl (run_mv (v := (.pointer (some ⟨bx, 0, none⟩))) rfl (by exact rfl)) ?_
 refine r_op rfl rfl rfl (run_nc rfl (by exact rfl)) ?_
 refine r_op rfl rfl rfl (run_fa rfl (by exact rfl) fo_52_0) ?_
 refine r_op rfl rfl rfl (run_ld1 rfl ag_48 (by exact rfl) (hbx.cell 0 (by exact rfl))) ?_
 refine r_op rfl rfl rfl (run_mv (v := .int _ _) rfl (by exact rfl)) ?_
 refine r_op rfl rfl rfl (run_lookup2 (a := _) (z := (⟨none, 0, 0, none, ⟨0, 0, 0⟩, 0⟩ : LV)) (v := .agg _) (key_int Tryz.underlying3) rfl Tryz.underlying48 ty_64 (by exact rfl) (by exact rfl) hlm rfl) ?_
 refine r_op rfl rfl rfl (run_mv (v := .tuple _) rfl (by exact rfl)) ?_
 refine r_op rfl rfl rfl (run_extract (v := .agg _) rfl (by exact rfl) (by exact rfl)) ?_
 refine r_op rfl rfl rfl (run_extract (v := .bool _) rfl (by exact rfl) (by exact rfl)) ?_
 refine r_var (zs := [_, _, _, _, _, _]) (vs := [_, _, _, _, _, _]) ty_64 (by exact rfl) rfl (by exact rfl) (fun _ => rfl) (by exact rfl) rfl rfl (by exact rfl) ?_
 intro b1 w2 heb1 hEw2 hbb1 hzb1
 have hs_w2 := (hEw2).size
 replace hV := evo_step0 hV hEw2
 replace hW := evo_step0 hW hEw2
 replace hbx := hbx0 _ hW
 replace hlm := hlm0 _ hW
 replace hl := hl0 _ hW
 have hAb1 := hbb1.at
 refine r_op rfl rfl rfl (run_asg (v := .bool _) rfl (by exact rfl)) ?_
 refine r_knowL (i := 8) (v := .bool (decide (id ∈ A.map (·.1)))) (congrArg Value.bool (lv_some hp.lvs id)) ?_
 refine r_nil ?_
 refine r_seq ?_
 refine r_region ?_
 refine r_op rfl rfl rfl (run_mv (v := .bool _) rfl (by exact rfl)) ?_
 refine r_op rfl rfl rfl (run_mv (v := .bool _) rfl (by exact rfl)) ?_
 refine r_g rfl (wantF (by exact rfl)) rfl (fun hg => run_mv (v := (.pointer (some ⟨bx, 0, none⟩))) rfl (by exact rfl)) ?_
 refine r_g rfl (wantF (by exact rfl)) rfl (fun hg => run_nc rfl (glv (by exact rfl) (fun h => h) hg)) ?_
 refine r_g rfl (wantF (by exact rfl)) rfl (fun hg => run_fa rfl (glv (by exact rfl) (fun h => h) hg) fo_52_0) ?_
 refine r_g rfl (wantF (by exact rfl)) rfl (fun hg => run_ld1 rfl ag_48 (glv (by exact rfl) (fun h => h) hg) (hbx.cell 0 (by exact rfl))) ?_
 refine r_g rfl (wantF (by exact rfl)) rfl (fun hg => run_lenM rfl Tryz.underlying48 (glv (by exact rfl) (fun h => h) hg) hlm) ?_
 refine r_g rfl (wantF (by exact rfl)) rfl (fun hg => run_geq rfl (glv (by exact rfl) (fun h => h) hg) (by exact rfl)) ?_
 refine r_op rfl rfl rfl (run_pick_or rfl (by exact rfl) rfl (fun hq => glv (by exact rfl) (fun h => h) hq)) ?_
 refine r_nil ?_
 refine r_cond (by exact rfl) (fun hc3 => ?_) (fun hc3 => ?_)
 ·skip
  refine r_seq ?_
  refine r_region ?_
  refine r_op rfl rfl rfl (run_asg (v := .bool _) rfl (by exact rfl)) ?_
  refine r_nil ?_
  refine r_ret (res1 (v := .bool _) rfl (by exact rfl)) ?_
  exact ⟨_, ret_bool (decide_eq_false (fun h9 => h9 (by rw [← hLA]; exact hc3))).symm, hV, by rw [addA_no (fun h9 => h9 (by rw [← hLA]; exact hc3))]; exact ⟨ml, mg, mc, L, F1, F2, F3, hp.evo hW (by simp), rfl⟩, fun g hg => .inl hg⟩
 ·skip
  refine r_skip ?_
  refine r_seq ?_
  have hok : addOk A id := by unfold addOk; rw [← hLA]; exact hc3
  have hid : id ∉ A.map (·.1) := fun q => hok (.inl q)
  have hlen : A.length < 1024 := by have h9 : ¬ 1024 ≤ (A.length : Int) := (fun q => hok (.inr q)); omega
  refine r_region ?_
  refine r_op rfl rfl rfl (run_mv (v := .slice _ _ _) rfl (by exact rfl)) ?_
  refine r_opcall rfl rfl rfl (run_callf (vs := [.slice _ _ _]) rfl (by exact rfl) Tryz.func20 rfl (by kernel_rfl)) (survey_calls hl hq hs) ?_
  rintro e w4 ⟨ga4, gl4, gc4, cb4, M4, rfl, hE4, hog4, hcm4, hcq4, hcb4⟩
  refine ⟨_, rfl, ?_⟩
  have hs_w4 := (hE4).size
  replace hV := evo_step0 hV hE4
  replace hW := evo_step0 hW hE4
  replace hbx := hbx0 _ hW
  replace hlm := hlm0 _ hW
  replace hl := hl0 _ hW
  have hob5 := fun g hg => (hog4.block (g := g) hg).2
  refine r_var (zs := [_, _, _, _, _, _]) (vs := [_, _, _, _, _, _]) ty_64 (by exact rfl) rfl (by exact rfl) (fun _ => rfl) (by exact rfl) rfl rfl (by exact rfl) ?_
  intro b6 w7 heb6 hEw7 hbb6 hzb6
  have hs_w7 := (hEw7).size
  replace hV := evo_step0 hV hEw7
  replace hW := evo_step0 hW hEw7
  replace hbx := hbx0 _ hW
  replace hlm := hlm0 _ hW
  replace hl := hl0 _ hW
  replace hog4 := hog4.evo0 hEw7
  replace hcm4 := hcm4.evo0 hEw7
  have hAb6 := hbb6.at
  refine r_nil ?_
  refine r_seq ?_
  have hobG := fun g hg => (hog4.block (g := g) hg); have hcl := hcm4.lt
  obtain ⟨hgl4, g4, hr4, hg4⟩ := hog4.row_of; subst hgl4
  have hp5 := hp.evo hW (by simp)
  have hA5 : Evo w7 w7 [ml] := Evo.refl _ _
  have hbx0 := fun w9 (h9 : Evo w7 w9 [ml]) => (hp5.blk.evo h9 hp.bx0).at; have hbx := hbx0 _ hA5; have hlm := hp5.lists
  have hr40 := fun w9 (h9 : Evo w7 w9 [ml]) => row_keep hr4 h9 (fun hne hm => by have h2 := (hg4 hne).2; simp at hm; omega)
  have hcm4_q := hcm4
  have hbb6_q := hbb6
  have hAb6_q := hAb6
  have hlm_q := hlm
  have hV_q := hV
  have hA5_q := hA5
  refine h_region ([ml]) (by kernel_rfl) ?_
  intro w8 hE9 hCst5
  have hs_w8 := (hE9).size
  replace hV := evo_step0 hV hE9
  replace hA5 := evo_step0 hA5 hE9
  replace hog4 := hog4.evo0 hE9
  replace hcm4 := hcm4.evo0 hE9
  replace hbb6 := hbb6.evo0 hE9
  replace hAb6 := hAb6.evo0 hE9
  replace hbx := hbx0 _ hA5
  replace hlm := hlm.evo0 hE9
  replace hr4 := hr40 _ hA5
  refine h_take (i := 0) (by exact rfl) rfl rfl rfl (by kernel_rfl) (fun w' hC => run_mv (v := (.pointer (some ⟨bx, 0, none⟩))) rfl (by exact rfl)) hCst5 ?_
  refine h_take (i := 1) (by exact rfl) rfl rfl rfl (by kernel_rfl) (fun w' hC => run_nc rfl (by exact rfl)) hCst5 ?_
  refine h_take (i := 2) (by exact rfl) rfl rfl rfl (by kernel_rfl) (fun w' hC => run_fa rfl (by exact rfl) fo_52_0) hCst5 ?_
  refine h_take (i := 3) (by exact rfl) rfl rfl rfl (by kernel_rfl) (fun w' hC => run_ld1 rfl ag_48 (by exact rfl) ((hbx0 _ (evo_steps hA5_q hC (fun g hg => by simp at hg; subst hg; first | exact .inr (by simp) | exact .inr (mem_feet.2 (.inr (.inl rfl)))))).cell 0 (by exact rfl))) hCst5 ?_
  refine h_take (i := 4) (by exact rfl) rfl rfl rfl (by kernel_rfl) (fun w' hC => run_mv (v := .int _ _) rfl (by exact rfl)) hCst5 ?_
  refine h_take (i := 5) (by exact rfl) rfl rfl rfl (by kernel_rfl) (fun w' hC => run_ldN rfl ag_64 ty_64 (by exact rfl) rfl (hAb6_q.evo hC (fun hm => by simp at hm; omega))) hCst5 ?_
  refine h_one (i := 6) (by kernel_rfl) ?_
  refine h_do (by exact rfl) ?_
  refine r_mapset (a := id) (v := (⟨ga4, (gramsL (wordsT l)).length, gc4, some cb4, smL l, totT l⟩ : LV)) (key_int Tryz.underlying3) Tryz.underlying48 (by exact rfl) (by exact rfl) (by exact rfl) hlm ?_
  intro w10 hEw10 hzw10 hm_new
  have hs_w10 := (hEw10).size
  replace hV := evo_step1 hV hEw10 (.inr (mem_feet.2 (.inr (.inl rfl))))
  replace hA5 := evo_step1 hA5 hEw10 (by first | exact .inl (by omega) | exact .inr (by simp))
  replace hog4 := hog4.evo hEw10 (by intro g hg hm; simp at hm; subst hm; have h7 := (hobG g hg).1; omega)
  replace hcm4 := hcm4.evo hEw10 (by simp; omega)
  replace hbb6 := hbb6.evo hEw10 (by simp; omega)
  replace hAb6 := hAb6.evo hEw10 (by simp; omega)
  replace hbx := hbx0 _ hA5
  replace hr4 := hr40 _ hA5
  replace hlm := hm_new
  clear hm_new
  refine h_last (by kernel_rfl) ?_
  refine h_done (by kernel_rfl) ?_
  refine r_seq ?_
  refine r_seq ?_
  have hbk6 := hp5.blk.evo hA5 hp.bx0; have hgr6 := hp5.grams.evo hA5 hp.mg0 hp.f10; have hcl6 := hp5.classes.evo hA5 hp.mc0 hp.f20; have hlv6 := hp5.lvs.evo hA5 hp.f30
  rw [setM_new (by rw [hp.lvs.1]; exact hid)] at hlm
  have hr41 := hr40 _ hA5
  have hI : Evo w10 w10 (mg :: F1) := Evo.refl _ _
  have hbx0 := fun w9 (h9 : Evo w10 w9 (mg :: F1)) => (hbk6.evo h9 hp.bx1).at; replace hbx := hbx0 _ hI
  have hr40 := fun w9 (h9 : Evo w10 w9 (mg :: F1)) => row_keep hr41 h9 (fun hne hm => by have h2 := (hg4 hne).2; exact hp.nw1 _ (by omega) hm); replace hr4 := hr40 _ hI
  have hog6 := hog4; have hcm6 := hcm4; have hlm6 := hlm; have hgn := gramsL_nodup (wordsT l); have hgl := gramsL_len (wordsT l); have hwl := wordsT_len l
  have hAb60 := fun w9 (h9 : Evo w10 w9 (mg :: F1)) => hAb6.evo h9 (hp.nw1 _ (by omega)); replace hAb6 := hAb60 _ hI
  refine r_region ?_
  refine r_op rfl rfl rfl (run_fa rfl (by exact rfl) fo_64_0) ?_
  refine r_op rfl rfl rfl (run_ld1 rfl ag_59 (by exact rfl) (hAb6.cell 0 (by exact rfl))) ?_
  refine r_knowL (i := 42) (v := (.slice ga4 (gramsL (wordsT l)).length gc4)) rfl ?_
  refine r_op rfl rfl rfl (run_lenSl rfl (by exact rfl) Tryz.underlying59) ?_
  refine r_op rfl rfl rfl (run_mv (v := .int _ _) rfl (by exact rfl)) ?_
  refine r_nil ?_
  refine r_block ?_
  refine r_loop (α := Nat) [11, 12, 44, 45, 46, 47, 48, 49, 50, 51, 52, 53, 54, 55, 56, 57, 58, 59, 60, 61, 62, 63, 64, 65, 66, 67] (fun k g w => ∃ G1 : List Nat, g 44 = .int .i64 (k : Nat) ∧ k ≤ (gramsL (wordsT l)).length ∧ FamIs w mg ekP 79 (mix (((gramsL (wordsT l)).drop k).map prG) (post gcN A) (post gcN (A ++ [(id, l)]))) G1 ∧ (∀ g ∈ G1, g ∈ F1 ∨ w10.heap.size ≤ g) ∧ w10.heap.size ≤ w.heap.size ∧ Evo w0 w (feet bx ml mg mc F1 F2 F3) ∧ Evo w10 w (mg :: F1)) (fun k => (gramsL (wordsT l)).length - k) 0 ?_ ?_
  ·refine ⟨F1, (by first | exact rfl | exact congrArg (Value.int _) (by omega) | exact congrArg (Value.int _) (by dsimp only; omega) | exact congrArg (Value.int _) (by simp) | exact congrArg S (by simp)), (by first | assumption | omega | (dsimp only; omega) | (simp; done)), (hgr6.congr (mix_all (fun y hy => (post_add0 (gram_none hy)).symm))), (fun g hg => .inl hg), (by first | assumption | omega | (dsimp only; omega) | (simp; done)), hV, hI⟩
  ·rintro k g w12 ⟨G1, hj13, hk_k, hfg, hG1, hzl11, hV, hI⟩
   have hs_w12hV := hV.size
   have hs_w12hI := hI.size
   replace hAb6 := hAb60 _ hI
   replace hbx := hbx0 _ hI
   replace hr4 := hr40 _ hI
   refine r_know (i := 44) (v := .int .i64 (k : Nat)) (by exact hj13) ?_
   have hfs := hfg.flt
   refine r_seq ?_
   refine r_region ?_
   refine r_op rfl rfl rfl (run_lss rfl (by exact rfl) (by exact rfl)) ?_
   refine r_nil ?_
   refine r_seq ?_
   refine r_cond (by exact rfl) (fun hc14 => ?_) (fun hc14 => ?_)
   ·skip
    refine r_skip ?_
    refine r_seq ?_
    refine r_block ?_
    refine r_seq ?_
    refine r_region ?_
    refine r_op rfl rfl rfl (run_ix (k) rfl Tryz.underlying59 ty_74 (by exact rfl) (by exact rfl) (by first | exact rfl | omega) (by omega) (hr4.addr (i := k) (by omega))) ?_
    have hA150 := fun (w' : World) (h : Evo w10 w' (mg :: F1)) => (hr40 w' h).atD (k) (by omega)
    have hA15 := hA150 _ hI
    refine r_op rfl rfl rfl (run_ldN rfl ag_74 ty_74 (by exact rfl) rfl hA15) ?_
    refine r_var (zs := [_, _, _]) (vs := [_, _, _]) ty_74 (by exact rfl) rfl (by exact rfl) (fun _ => rfl) (by exact rfl) rfl rfl (by exact rfl) ?_
    intro b16 w17 heb16 hEw17 hbb16 hzb16
    have hs_w17 := (hEw17).size
    replace hV := evo_step0 hV hEw17
    replace hI := evo_step0 hI hEw17
    replace hAb6 := hAb60 _ hI
    replace hbx := hbx0 _ hI
    replace hr4 := hr40 _ hI
    replace hfg := hfg.evo0 hEw17
    have hAb16 := hbb16.at
    refine r_nil ?_
    refine r_seq ?_
    refine r_region ?_
    refine r_op rfl rfl rfl (run_fa rfl (by exact rfl) fo_74_0) ?_
    refine r_op rfl rfl rfl (run_ld1 rfl ag_9 (by exact rfl) (hAb16.cell 0 (by exact rfl))) ?_
    refine r_op rfl rfl rfl (run_fa rfl (by exact rfl) fo_74_1) ?_
    refine r_op rfl rfl rfl (run_ld1 rfl ag_9 (by exact rfl) (hAb16.cell 1 (by exact rfl))) ?_
    refine r_op rfl rfl rfl (run_bld (pv := [(0, S _), (1, S _)]) (zs := [_, _]) (cells := [_, _]) rfl ty_76 (by exact rfl) pl_76 (by exact rfl) (by exact rfl)) ?_
    refine r_var (zs := [_, _]) (vs := [_, _]) ty_76 (by exact rfl) rfl (by exact rfl) (fun _ => rfl) (by exact rfl) rfl rfl (by exact rfl) ?_
    intro b18 w19 heb18 hEw19 hbb18 hzb18
    have hs_w19 := (hEw19).size
    replace hV := evo_step0 hV hEw19
    replace hI := evo_step0 hI hEw19
    replace hAb6 := hAb60 _ hI
    replace hbx := hbx0 _ hI
    replace hr4 := hr40 _ hI
    replace hfg := hfg.evo0 hEw19
    replace hbb16 := hbb16.evo0 hEw19
    replace hAb16 := hAb16.evo0 hEw19
    have hAb18 := hbb18.at
    refine r_nil ?_
    obtain ⟨M, hm, hfm, hmn, hfl⟩ := hfg; have ho := hfm.own (prG ((gramsL (wordsT l)).getD k default)); have hmw := hm.lt
    have hml : (mix (((gramsL (wordsT l)).drop k).map prG) (post gcN A) (post gcN (A ++ [(id, l)])) (prG ((gramsL (wordsT l)).getD k default))).length ≤ A.length := (by rw [mix_at ((keys_drop (by omega) _).2 (.inl rfl))]; exact post_len)
    have hR : Evo w19 w19 ([mg] ++ (atV M (prG ((gramsL (wordsT l)).getD k default))).ownBlock.toList) := Evo.refl _ _
    have hEI : ∀ g ∈ ([mg] ++ (atV M (prG ((gramsL (wordsT l)).getD k default))).ownBlock.toList), w10.heap.size ≤ g ∨ g ∈ mg :: F1 := fun g hg => (List.mem_append.1 hg).elim (fun h => .inr (List.mem_cons.2 (.inl (by simpa using h)))) (fun h => (hG1 g (hfm.foot _ g (Option.mem_toList.1 h))).elim (fun h2 => .inr (List.mem_cons_of_mem _ h2)) (fun h2 => .inl (by omega)))
    have hEV : ∀ g ∈ ([mg] ++ (atV M (prG ((gramsL (wordsT l)).getD k default))).ownBlock.toList), w0.heap.size ≤ g ∨ g ∈ (feet bx ml mg mc F1 F2 F3) := fun g hg => (hEI g hg).elim (fun h => .inl (by omega)) (fun h => .inr ((List.mem_cons.1 h).elim (fun h2 => (mem_feet.2 (.inr (.inr (.inl h2))))) (fun h2 => (mem_feet.2 (.inr (.inr (.inr (.inr (.inl h2)))))))))
    have hbb16_q := hbb16
    have hAb16_q := hAb16
    have hbb18_q := hbb18
    have hAb18_q := hAb18
    have hm_q := hm
    have hV_q := hV
    have hI_q := hI
    have hR_q := hR
    refine h_region (([mg] ++ (atV M (prG ((gramsL (wordsT l)).getD k default))).ownBlock.toList)) (by kernel_rfl) ?_
    intro w20 hE21 hCst10
    have hs_w20 := (hE21).size
    replace hV := evo_step0 hV hE21
    replace hI := evo_step0 hI hE21
    replace hR := evo_step0 hR hE21
    replace hAb6 := hAb60 _ hI
    replace hbx := hbx0 _ hI
    replace hr4 := hr40 _ hI
    replace hbb16 := hbb16.evo0 hE21
    replace hAb16 := hAb16.evo0 hE21
    replace hbb18 := hbb18.evo0 hE21
    replace hAb18 := hAb18.evo0 hE21
    replace hm := hm.evo0 hE21
    replace ho := ho.evo0 hE21
    refine h_take (i := 0) (by exact rfl) rfl rfl rfl (by kernel_rfl) (fun w' hC => run_mv (v := (.pointer (some ⟨bx, 0, none⟩))) rfl (by exact rfl)) hCst10 ?_
    refine h_take (i := 1) (by exact rfl) rfl rfl rfl (by kernel_rfl) (fun w' hC => run_nc rfl (by exact rfl)) hCst10 ?_
    refine h_take (i := 2) (by exact rfl) rfl rfl rfl (by kernel_rfl) (fun w' hC => run_fa rfl (by exact rfl) fo_52_1) hCst10 ?_
    refine h_take (i := 3) (by exact rfl) rfl rfl rfl (by kernel_rfl) (fun w' hC => run_ld1 rfl ag_49 (by exact rfl) ((hbx0 _ (evo_steps hI_q hC (fun g hg => by first | exact hEI g hg | exact hEV g hg))).cell 1 (by exact rfl))) hCst10 ?_
    refine h_take (i := 4) (by exact rfl) rfl rfl rfl (by kernel_rfl) (fun w' hC => run_ldN rfl ag_76 ty_76 (by exact rfl) rfl (hAb18_q.evo hC (fun hm => by rcases List.mem_append.1 hm with h8 | h8; (simp at h8; omega); (have h7 := hfs _ (hfm.foot _ _ (Option.mem_toList.1 h8)); omega)))) hCst10 ?_
    refine h_take (i := 5) (by exact rfl) rfl rfl rfl (by kernel_rfl) (fun w' hC => run_mv (v := .int _ _) rfl (by exact rfl)) hCst10 ?_
    refine h_take (i := 6) (by exact rfl) rfl rfl rfl (by kernel_rfl) (fun w' hC => run_fa rfl (by exact rfl) fo_74_2) hCst10 ?_
    refine h_take (i := 7) (by exact rfl) rfl rfl rfl (by kernel_rfl) (fun w' hC => run_ld1 rfl ag_3 (by exact rfl) ((hAb16_q.evo hC (fun hm => by rcases List.mem_append.1 hm with h8 | h8; (simp at h8; omega); (have h7 := hfs _ (hfm.foot _ _ (Option.mem_toList.1 h8)); omega))).cell 2 (by exact rfl))) hCst10 ?_
    refine h_take (i := 8) (by exact rfl) rfl rfl rfl (by kernel_rfl) (fun w' hC => run_bld (pv := [(0, .int _ _), (1, .int _ _)]) (zs := [_, _]) (cells := [_, _]) rfl ty_79 (by exact rfl) pl_79 (by exact rfl) (by exact rfl)) hCst10 ?_
    refine h_one (i := 9) (by kernel_rfl) ?_
    refine h_do (by exact rfl) ?_
    have hob22 := fun g hg => (ho.block (g := g) hg).2
    refine r_bslice (pv := [(0, .agg _)]) (zs := [_, _]) (cs := [_, _]) Tryz.underlying77 ty_79 (by exact rfl) rfl (by exact rfl) rfl (by exact rfl) ?_
    intro b23 w24 heb23 hEw24 hbb23 hzb23
    have hs_w24 := (hEw24).size
    replace hV := evo_step0 hV hEw24
    replace hI := evo_step0 hI hEw24
    replace hR := evo_step0 hR hEw24
    replace hCst10 := evo_step0 hCst10 hEw24
    replace hAb6 := hAb60 _ hI
    replace hbx := hbx0 _ hI
    replace hr4 := hr40 _ hI
    replace hbb18 := hbb18.evo0 hEw24
    replace hAb18 := hAb18.evo0 hEw24
    replace hm := hm.evo0 hEw24
    replace ho := ho.evo0 hEw24
    have hAb23 := hbb23.at
    have hrb23 := rowLit (α := Range) [⟨_, _⟩] hbb23 (by show [_, _] = [_, _]; first | (dsimp only; done) | exact rfl | (dsimp only; exact rfl)) rfl
    refine h_next hCst10 ?_
    refine h_one (i := 10) (by kernel_rfl) ?_
    refine h_do (by exact rfl) ?_
    refine r_mapEntry (a := (prG ((gramsL (wordsT l)).getD k default))) (z := nilV) kgram rfl Tryz.underlying49 ty_77 (by exact rfl) (by exact rfl) hm ?_
    intro s25 w25 hE25 hzw25 hm_new hst25
    have hs_w25 := (hE25).size
    replace hV := evo_step1 hV hE25 (.inr (mem_feet.2 (.inr (.inr (.inl rfl)))))
    replace hI := evo_step1 hI hE25 (by first | exact .inl (by omega) | exact .inr (by simp))
    replace hR := evo_step1 hR hE25 (by first | exact .inl (by omega) | exact .inr (by simp))
    replace hCst10 := evo_step1 hCst10 hE25 (by first | exact .inl (by omega) | exact .inr (by simp))
    replace hAb6 := hAb60 _ hI
    replace hbx := hbx0 _ hI
    replace hr4 := hr40 _ hI
    replace ho := ho.evo hE25 (by intro g hg hm; simp at hm; subst hm; exact hmn (hfm.foot _ _ hg))
    replace hrb23 := hrb23.evo hE25 (by simp; omega)
    replace hm := hm_new
    clear hm_new
    refine h_next hCst10 ?_
    refine h_take (i := 11) (by exact rfl) rfl rfl rfl (by kernel_rfl) (fun w' hC => run_extract (v := (atV M (prG ((gramsL (wordsT l)).getD k default)))) rfl (by exact rfl) (by exact rfl)) hCst10 ?_
    refine h_take (i := 13) (by exact rfl) rfl rfl rfl (by kernel_rfl) (fun w' hC => run_extract (v := .int _ _) rfl (by exact rfl) (by exact rfl)) hCst10 ?_
    refine h_one (i := 12) (by kernel_rfl) ?_
    refine h_do (by exact rfl) ?_
    refine r_appendE rfl Tryz.underlying77 ty_79 (by exact rfl) ho (by exact rfl) (by exact rfl) hrb23 rfl ((by simp only [List.length_cons, List.length_nil]; omega)) ((by simp only [List.length_cons, List.length_nil]; omega)) (by omega) ?_
    intro v26 w27 hEw27 hov26 hlv26
    have hs_w27 := (hEw27).size
    replace hV := evo_stepo hV hEw27 (fun g hg => (hEV g (List.mem_append_right _ (Option.mem_toList.2 hg))))
    replace hI := evo_stepo hI hEw27 (fun g hg => (hEI g (List.mem_append_right _ (Option.mem_toList.2 hg))))
    replace hR := evo_stepo hR hEw27 (fun g hg => .inr (List.mem_append_right _ (Option.mem_toList.2 hg)))
    replace hCst10 := evo_stepo hCst10 hEw27 (fun g hg => .inr (List.mem_append_right _ (Option.mem_toList.2 hg)))
    replace hAb6 := hAb60 _ hI
    replace hbx := hbx0 _ hI
    replace hr4 := hr40 _ hI
    replace hm := hm.evo hEw27 (by intro hm9; exact hmn (hfm.foot _ _ (Option.mem_toList.1 hm9)))
    replace hst25 := hst25.evo2 hEw27 (by intro hm9; exact hmn (hfm.foot _ _ (Option.mem_toList.1 hm9)))
    refine h_next hCst10 ?_
    refine h_one (i := 14) (by kernel_rfl) ?_
    refine h_do (by exact rfl) ?_
    refine r_entryStore (a := (prG ((gramsL (wordsT l)).getD k default))) kgram (by exact rfl) (by exact rfl) (by exact rfl) hm hst25 ?_
    intro w28 hE28 hzw28 hm_new
    have hs_w28 := (hE28).size
    replace hV := evo_step1 hV hE28 (.inr (mem_feet.2 (.inr (.inr (.inl rfl)))))
    replace hI := evo_step1 hI hE28 (by first | exact .inl (by omega) | exact .inr (by simp))
    replace hR := evo_step1 hR hE28 (by first | exact .inl (by omega) | exact .inr (by simp))
    replace hAb6 := hAb60 _ hI
    replace hbx := hbx0 _ hI
    replace hr4 := hr40 _ hI
    replace hov26 := hov26.evo hE28 (by intro g hg hm; simp at hm; subst hm; rcases hlv26 with h7 | h7; exact hmn (hfm.foot _ _ (h7 ▸ hg)); (rw [hg] at h7; injection h7; omega))
    replace hm := hm_new
    clear hm_new
    refine h_last (by kernel_rfl) ?_
    refine h_done (by kernel_rfl) ?_
    refine r_blk ?_
    refine r_region ?_
    refine r_op rfl rfl rfl (run_add rfl (by exact rfl) (by exact rfl) (by omega) (by omega)) ?_
    refine r_op rfl rfl rfl (run_mv (v := .int _ _) rfl (by exact rfl)) ?_
    refine r_nil ?_
    refine r_again (k + 1) ?_ ?_ ?_
    ·first | omega | (dsimp only; omega)
    ·refine ⟨(v26.ownBlock.toList ++ G1), (by first | exact rfl | exact congrArg (Value.int _) (by omega) | exact congrArg (Value.int _) (by dsimp only; omega) | exact congrArg (Value.int _) (by simp) | exact congrArg S (by simp)), (by first | assumption | omega | (dsimp only; omega) | (simp; done)), (stepA hfm hmn hfl hmw hR hm hov26 (gram_count (getD_in (by omega))).1 (gram_count (getD_in (by omega))).2 (loc_imp hlv26 (by omega)) (keys_drop (by omega)) (keys_drop_no hgn (by omega))), (foot_new hG1 (hfm.foot (prG ((gramsL (wordsT l)).getD k default))) (loc_imp hlv26 (Nat.le_refl _)) (by omega)), (by first | assumption | omega | (dsimp only; omega) | (simp; done)), hV, hI⟩
    ·repeat (first | (with_reducible exact Agree.merge _ _ _) | (with_reducible exact Agree.refl _ _) | (with_reducible refine Agree.upd ?_ _ _ rfl) | ((with_reducible refine Agree.inner ?_ ?_); (kernel_rfl)))
   ·skip
    refine r_exit rfl ?_
    refine r_seq ?_
    refine r_seq ?_
    have e8 : ((gramsL (wordsT l)).drop k).map prG = [] := by rw [List.drop_of_length_le (by omega)]; rfl
    replace hfg := hfg.congr (P' := post gcN (A ++ [(id, l)])) (fun y => by rw [e8]; exact mix_nil y)
    have hcm4 := hcm6.evo hI (hp.nw1 _ (by omega)); have hcn := hcm4.nodup
    have hbk9 := hbk6.evo hI hp.bx1; have hcl9 := hcl6.evo hI hp.mc1 hp.f21; have hlv9 := hlv6.evo hI hp.f31; have hlm9 := hlm6.evo hI hp.ml1; have hog9 := hog6.evo hI (fun g hg => hp.nw1 g (by have := (hobG g hg).1; omega)); have hcm9 := hcm6.evo hI (hp.nw1 _ (by omega)); have hgr9 := hfg
    have hAb60 := fun w9 (h9 : Evo w12 w9 (mc :: F2)) => hAb6.evo h9 (hp.nw2 _ (by omega))
    have hI2 : Evo w12 w12 (mc :: F2) := Evo.refl _ _
    have hbx0 := fun w9 (h9 : Evo w12 w9 (mc :: F2)) => (hbk9.evo h9 hp.bx2).at; replace hbx := hbx0 _ hI2
    refine r_region ?_
    refine r_op rfl rfl rfl (run_fa rfl (by exact rfl) fo_64_1) ?_
    refine r_op rfl rfl rfl (run_ld1 rfl ag_60 (by exact rfl) (hAb6.cell 1 (by exact rfl))) ?_
    refine r_range rfl Tryz.underlying60 (by exact rfl) hcm4 ?_
    intro r29 w30 her29 hEw30 hir29 hzr29
    have hs_w30 := (hEw30).size
    replace hV := evo_step0 hV hEw30
    replace hI2 := evo_step0 hI2 hEw30
    replace hAb6 := hAb60 _ hI2
    replace hbx := hbx0 _ hI2
    replace hcm4 := hcm4.evo0 hEw30
    refine r_nil ?_
    refine r_block ?_
    have hil := hir29.lt
    refine r_loop (α := List (Vc.Item × Int)) [13, 14, 71, 72, 73, 74, 75, 76, 77, 78, 79, 80, 81, 82, 83, 84, 85, 86, 87, 88] (fun left g w => ∃ la : Option (Vc.Item × Int), ∃ G2 : List Nat, IterIs w r29 cb4 (fun x : Vc.Item => Value.agg (Enc.enc x).toArray) (Value.int .i64) M4 left la ∧ FamIs w mc ekT 79 (mix (left.map (·.1)) (post ccN A) (post ccN (A ++ [(id, l)]))) G2 ∧ (∀ g ∈ G2, g ∈ F2 ∨ w30.heap.size ≤ g) ∧ left.Sublist M4 ∧ w30.heap.size ≤ w.heap.size ∧ Evo w0 w (feet bx ml mg mc F1 F2 F3) ∧ Evo w12 w (mc :: F2)) (fun left => left.length) M4 ?_ ?_
    ·refine ⟨_, F2, hir29, ((hcl9.evo0 hEw30).congr (mix_all (fun y hy => (post_add0 (cnt_none hcq4 hy)).symm))), (fun g hg => .inl hg), (List.Sublist.refl _), (by first | assumption | omega | (dsimp only; omega) | (simp; done)), hV, hI2⟩
    ·rintro left g w32 ⟨la, G2, hir29, hfc, hG2, hls, hzl31, hV, hI2⟩
     have hs_w32hV := hV.size
     have hs_w32hI2 := hI2.size
     replace hbx := hbx0 _ hI2
     have hfs := hfc.flt
     refine r_seq ?_
     refine r_region ?_
     refine r_next rfl (by exact rfl) hir29 (fun hn33 => ?_) (fun l1_33 p33 l2_33 w33 hl33 hE33 hz33 hi_new => ?_)
     ·skip
      subst hn33
      refine r_op rfl rfl rfl (run_extract (v := .bool _) rfl (by exact rfl) (by exact rfl)) ?_
      refine r_nil ?_
      refine r_seq ?_
      refine r_cond_no (by exact rfl) ?_
      refine r_exit rfl ?_
      refine r_seq ?_
      refine r_region ?_
      refine r_op rfl rfl rfl (run_asg (v := .bool _) rfl (by exact rfl)) ?_
      refine r_nil ?_
      refine r_ret (res1 (v := .bool _) rfl (by exact rfl)) ?_
      have hfc9 := hfc.congr (P' := post ccN (A ++ [(id, l)])) mix_nil
      have hfin := idx_add (id := id) (l := l) (F4 := (Value.slice ga4 (gramsL (wordsT l)).length gc4).ownBlock.toList ++ [cb4]) (n1 := w10.heap.size) (n2 := w30.heap.size) hp (hbk9.evo hI2 hp.bx2) (hlm9.evo hI2 hp.ml2) (hlv9.evo hI2 hp.f32)
        ⟨(hog9.evo hI2 (fun g hg => hp.nw2 g (by have := (hobG g hg).1; omega))).base_le (Nat.zero_le _), ⟨cb4, M4, rfl, hcm9.evo hI2 (hp.nw2 _ (by omega)), hcq4, List.mem_append_right _ (by simp)⟩, fun g hg => List.mem_append_left _ (Option.mem_toList.2 hg), rfl, rfl⟩
        (hgr9.evo hI2 hp.mg2 (fun g hg => (hG1 g hg).elim (hp.f12 g) (fun h => hp.nw2 g (by omega)))) hfc9 hG1 (fun g hg => Nat.lt_of_lt_of_le (hgr9.flt g hg) (by omega)) hG2 (fun g hg => by rcases List.mem_append.1 hg with h | h; (have := hobG g (Option.mem_toList.1 h); omega); (simp at h; omega)) (by omega) (by omega) (by omega)
      exact ⟨_, ret_bool (decide_eq_true hok).symm, hV, by rw [addA_yes hok]; exact hfin.1, hfin.2⟩
     ·skip
      have hs_w33 := (hE33).size
      replace hV := evo_step1 hV hE33 (by first | exact .inl (by omega) | exact .inr (by simp))
      replace hI2 := evo_step1 hI2 hE33 (by first | exact .inl (by omega) | exact .inr (by simp))
      replace hbx := hbx0 _ hI2
      replace hfc := hfc.evo hE33 (by simp; omega) (fun g hg hm => by have h6 : g = r29 := (by simpa using hm); rcases hG2 _ hg with h7 | h7; (have h8 := hp.l2 _ h7; omega); omega)
      replace hir29 := hi_new
      clear hi_new
      refine r_op rfl rfl rfl (run_extract (v := .bool _) rfl (by exact rfl) (by exact rfl)) ?_
      refine r_nil ?_
      refine r_seq ?_
      refine r_cond_yes (by exact rfl) ?_
      refine r_skip ?_
      refine r_block ?_
      refine r_seq ?_
      refine r_region ?_
      refine r_op rfl rfl rfl (run_entryI rfl (by exact rfl) hir29) ?_
      refine r_op rfl rfl rfl (run_extract (v := .agg _) rfl (by exact rfl) (by exact rfl)) ?_
      refine r_op rfl rfl rfl (run_extract (v := .int _ _) rfl (by exact rfl) (by exact rfl)) ?_
      refine r_var (zs := [_, _, _]) (vs := [_, _, _]) ty_43 (by exact rfl) rfl (by exact rfl) (fun _ => rfl) (by exact rfl) rfl rfl (by exact rfl) ?_
      intro b34 w35 heb34 hEw35 hbb34 hzb34
      have hs_w35 := (hEw35).size
      replace hV := evo_step0 hV hEw35
      replace hI2 := evo_step0 hI2 hEw35
      replace hbx := hbx0 _ hI2
      replace hfc := hfc.evo0 hEw35
      replace hir29 := hir29.evo0 hEw35
      have hAb34 := hbb34.at
      refine r_op rfl rfl rfl (run_asg (v := .int _ _) rfl (by exact rfl)) ?_
      refine r_nil ?_
      obtain ⟨M, hm, hfm, hmn, hfl⟩ := hfc; have ho := hfm.own p33.1; have hmw := hm.lt
      have hml : (mix (left.map (·.1)) (post ccN A) (post ccN (A ++ [(id, l)])) p33.1).length ≤ A.length := (by rw [mix_at (by rw [hl33]; simp)]; exact post_len)
      have hR : Evo w35 w35 ([mc] ++ (atV M p33.1).ownBlock.toList) := Evo.refl _ _
      have hEI : ∀ g ∈ ([mc] ++ (atV M p33.1).ownBlock.toList), w12.heap.size ≤ g ∨ g ∈ mc :: F2 := fun g hg => (List.mem_append.1 hg).elim (fun h => .inr (List.mem_cons.2 (.inl (by simpa using h)))) (fun h => (hG2 g (hfm.foot _ g (Option.mem_toList.1 h))).elim (fun h2 => .inr (List.mem_cons_of_mem _ h2)) (fun h2 => .inl (by omega)))
      have hEV : ∀ g ∈ ([mc] ++ (atV M p33.1).ownBlock.toList), w0.heap.size ≤ g ∨ g ∈ (feet bx ml mg mc F1 F2 F3) := fun g hg => (hEI g hg).elim (fun h => .inl (by omega)) (fun h => .inr ((List.mem_cons.1 h).elim (fun h2 => (mem_feet.2 (.inr (.inr (.inr (.inl h2)))))) (fun h2 => (mem_feet.2 (.inr (.inr (.inr (.inr (.inr (.inl h2))))))))))
      have hbb34_q := hbb34
      have hAb34_q := hAb34
      have hm_q := hm
      have hV_q := hV
      have hI2_q := hI2
      have hR_q := hR
      refine h_region (([mc] ++ (atV M p33.1).ownBlock.toList)) (by kernel_rfl) ?_
      intro w36 hE37 hCst15
      have hs_w36 := (hE37).size
      replace hV := evo_step0 hV hE37
      replace hI2 := evo_step0 hI2 hE37
      replace hR := evo_step0 hR hE37
      replace hbx := hbx0 _ hI2
      replace hir29 := hir29.evo0 hE37
      replace hbb34 := hbb34.evo0 hE37
      replace hAb34 := hAb34.evo0 hE37
      replace hm := hm.evo0 hE37
      replace ho := ho.evo0 hE37
      refine h_take (i := 0) (by exact rfl) rfl rfl rfl (by kernel_rfl) (fun w' hC => run_mv (v := (.pointer (some ⟨bx, 0, none⟩))) rfl (by exact rfl)) hCst15 ?_
      refine h_take (i := 1) (by exact rfl) rfl rfl rfl (by kernel_rfl) (fun w' hC => run_nc rfl (by exact rfl)) hCst15 ?_
      refine h_take (i := 2) (by exact rfl) rfl rfl rfl (by kernel_rfl) (fun w' hC => run_fa rfl (by exact rfl) fo_52_2) hCst15 ?_
      refine h_take (i := 3) (by exact rfl) rfl rfl rfl (by kernel_rfl) (fun w' hC => run_ld1 rfl ag_50 (by exact rfl) ((hbx0 _ (evo_steps hI2_q hC (fun g hg => by first | exact hEI g hg | exact hEV g hg))).cell 2 (by exact rfl))) hCst15 ?_
      refine h_take (i := 4) (by exact rfl) rfl rfl rfl (by kernel_rfl) (fun w' hC => run_ldN rfl ag_43 ty_43 (by exact rfl) rfl (hAb34_q.evo hC (fun hm => by rcases List.mem_append.1 hm with h8 | h8; (simp at h8; omega); (have h7 := hfs _ (hfm.foot _ _ (Option.mem_toList.1 h8)); omega)))) hCst15 ?_
      refine h_take (i := 5) (by exact rfl) rfl rfl rfl (by kernel_rfl) (fun w' hC => run_mv (v := .int _ _) rfl (by exact rfl)) hCst15 ?_
      refine h_take (i := 6) (by exact rfl) rfl rfl rfl (by kernel_rfl) (fun w' hC => run_mv (v := .int _ _) rfl (by exact rfl)) hCst15 ?_
      refine h_take (i := 7) (by exact rfl) rfl rfl rfl (by kernel_rfl) (fun w' hC => run_bld (pv := [(0, .int _ _), (1, .int _ _)]) (zs := [_, _]) (cells := [_, _]) rfl ty_79 (by exact rfl) pl_79 (by exact rfl) (by exact rfl)) hCst15 ?_
      refine h_one (i := 8) (by kernel_rfl) ?_
      refine h_do (by exact rfl) ?_
      have hob38 := fun g hg => (ho.block (g := g) hg).2
      refine r_bslice (pv := [(0, .agg _)]) (zs := [_, _]) (cs := [_, _]) Tryz.underlying77 ty_79 (by exact rfl) rfl (by exact rfl) rfl (by exact rfl) ?_
      intro b39 w40 heb39 hEw40 hbb39 hzb39
      have hs_w40 := (hEw40).size
      replace hV := evo_step0 hV hEw40
      replace hI2 := evo_step0 hI2 hEw40
      replace hR := evo_step0 hR hEw40
      replace hCst15 := evo_step0 hCst15 hEw40
      replace hbx := hbx0 _ hI2
      replace hir29 := hir29.evo0 hEw40
      replace hbb34 := hbb34.evo0 hEw40
      replace hAb34 := hAb34.evo0 hEw40
      replace hm := hm.evo0 hEw40
      replace ho := ho.evo0 hEw40
      have hAb39 := hbb39.at
      have hrb39 := rowLit (α := Range) [⟨_, _⟩] hbb39 (by show [_, _] = [_, _]; first | (dsimp only; done) | exact rfl | (dsimp only; exact rfl)) rfl
      refine h_next hCst15 ?_
      refine h_one (i := 9) (by kernel_rfl) ?_
      refine h_do (by exact rfl) ?_
      refine r_mapEntry (a := p33.1) (z := nilV) ktoki rfl Tryz.underlying50 ty_77 (by exact rfl) (by exact rfl) hm ?_
      intro s41 w41 hE41 hzw41 hm_new hst41
      have hs_w41 := (hE41).size
      replace hV := evo_step1 hV hE41 (.inr (mem_feet.2 (.inr (.inr (.inr (.inl rfl))))))
      replace hI2 := evo_step1 hI2 hE41 (by first | exact .inl (by omega) | exact .inr (by simp))
      replace hR := evo_step1 hR hE41 (by first | exact .inl (by omega) | exact .inr (by simp))
      replace hCst15 := evo_step1 hCst15 hE41 (by first | exact .inl (by omega) | exact .inr (by simp))
      replace hbx := hbx0 _ hI2
      replace hir29 := hir29.evo hE41 (by simp; omega) (by simp; omega)
      replace ho := ho.evo hE41 (by intro g hg hm; simp at hm; subst hm; exact hmn (hfm.foot _ _ hg))
      replace hrb39 := hrb39.evo hE41 (by simp; omega)
      replace hm := hm_new
      clear hm_new
      refine h_next hCst15 ?_
      refine h_take (i := 10) (by exact rfl) rfl rfl rfl (by kernel_rfl) (fun w' hC => run_extract (v := (atV M p33.1)) rfl (by exact rfl) (by exact rfl)) hCst15 ?_
      refine h_take (i := 12) (by exact rfl) rfl rfl rfl (by kernel_rfl) (fun w' hC => run_extract (v := .int _ _) rfl (by exact rfl) (by exact rfl)) hCst15 ?_
      refine h_one (i := 11) (by kernel_rfl) ?_
      refine h_do (by exact rfl) ?_
      refine r_appendE rfl Tryz.underlying77 ty_79 (by exact rfl) ho (by exact rfl) (by exact rfl) hrb39 rfl ((by simp only [List.length_cons, List.length_nil]; omega)) ((by simp only [List.length_cons, List.length_nil]; omega)) (by omega) ?_
      intro v42 w43 hEw43 hov42 hlv42
      have hs_w43 := (hEw43).size
      replace hV := evo_stepo hV hEw43 (fun g hg => (hEV g (List.mem_append_right _ (Option.mem_toList.2 hg))))
      replace hI2 := evo_stepo hI2 hEw43 (fun g hg => (hEI g (List.mem_append_right _ (Option.mem_toList.2 hg))))
      replace hR := evo_stepo hR hEw43 (fun g hg => .inr (List.mem_append_right _ (Option.mem_toList.2 hg)))
      replace hCst15 := evo_stepo hCst15 hEw43 (fun g hg => .inr (List.mem_append_right _ (Option.mem_toList.2 hg)))
      replace hbx := hbx0 _ hI2
      replace hir29 := hir29.evo hEw43 (by intro hm9; have h6 := hfm.foot _ _ (Option.mem_toList.1 hm9); rcases hG2 _ h6 with h7 | h7; (have h8 := hp.l2 _ h7; omega); omega) (by intro hm9; have h6 := hfm.foot _ _ (Option.mem_toList.1 hm9); rcases hG2 _ h6 with h7 | h7; (have h8 := hp.l2 _ h7; omega); omega)
      replace hm := hm.evo hEw43 (by intro hm9; exact hmn (hfm.foot _ _ (Option.mem_toList.1 hm9)))
      replace hst41 := hst41.evo2 hEw43 (by intro hm9; exact hmn (hfm.foot _ _ (Option.mem_toList.1 hm9)))
      refine h_next hCst15 ?_
      refine h_one (i := 13) (by kernel_rfl) ?_
      refine h_do (by exact rfl) ?_
      refine r_entryStore (a := p33.1) ktoki (by exact rfl) (by exact rfl) (by exact rfl) hm hst41 ?_
      intro w44 hE44 hzw44 hm_new
      have hs_w44 := (hE44).size
      replace hV := evo_step1 hV hE44 (.inr (mem_feet.2 (.inr (.inr (.inr (.inl rfl))))))
      replace hI2 := evo_step1 hI2 hE44 (by first | exact .inl (by omega) | exact .inr (by simp))
      replace hR := evo_step1 hR hE44 (by first | exact .inl (by omega) | exact .inr (by simp))
      replace hbx := hbx0 _ hI2
      replace hir29 := hir29.evo hE44 (by simp; omega) (by simp; omega)
      replace hov42 := hov42.evo hE44 (by intro g hg hm; simp at hm; subst hm; rcases hlv42 with h7 | h7; exact hmn (hfm.foot _ _ (h7 ▸ hg)); (rw [hg] at h7; injection h7; omega))
      replace hm := hm_new
      clear hm_new
      refine h_last (by kernel_rfl) ?_
      refine h_done (by kernel_rfl) ?_
      refine r_blk ?_
      have ho_new := hov42
      have hpc := cnt_mem hcq4 hcn (hls.subset (by rw [hl33]; simp : p33 ∈ left))
      refine r_again (l1_33 ++ l2_33) ?_ ?_ ?_
      ·rw [hl33]; simp
      ·refine ⟨_, (v42.ownBlock.toList ++ G2), hir29, (by rw [hl33] at hfm ho_new; exact stepA hfm hmn hfl hmw hR hm ho_new hpc.1 hpc.2 (loc_imp hlv42 (by omega)) keys_split (keys_split_no (by rw [← hl33]; exact hcn.sublist (hls.map _)))), (foot_new hG2 (hfm.foot p33.1) (loc_imp hlv42 (Nat.le_refl _)) (by omega)), (List.Sublist.trans ((List.Sublist.refl l1_33).append (List.sublist_cons_self p33 l2_33)) (by rw [← hl33]; exact hls)), (by first | assumption | omega | (dsimp only; omega) | (simp; done)), hV, hI2⟩
      ·repeat (first | (with_reducible exact Agree.merge _ _ _) | (with_reducible exact Agree.refl _ _) | (with_reducible refine Agree.upd ?_ _ _ rfl) | ((with_reducible refine Agree.inner ?_ ?_); (kernel_rfl)))
end Go.Proofs.YthbcklajlmcifaaGreat
namespace Go.Proofs.YthbcklajlmcifaaGreat
open Go.RowKit Go.Vc
theorem ag_79 : aggP Tryz.prog 79 = some true := by kernel_rfl
theorem fo_79_0 : fieldP Tryz.prog 79 0 = some 0 := by kernel_rfl
theorem without1_calls {p : Range} {id : Int} {bn : Nat} {w0 : World} (hn : Blk w0 bn 3 [.int .i64 id]) :
    Calls Tryz.prog 52 #[.agg (Enc.enc p).toArray, .pointer (some ⟨bn, 0, none⟩)] w0 fun e w' => e = .returned (.bool (decide (p.lo = id))) ∧ Evo w0 w' [] := by
 have hAn := hn.at; have hnlt := hn.lt
 refine calls_enter (n := 8) (args := [.agg (Enc.enc p).toArray, .pointer (some ⟨bn, 0, none⟩)]) Tryz.func52 rfl Tryz.ntmps52 rfl ?_
 have hV : Evo w0 w0 [] := Evo.refl _ _
 refine r_seq ?_
 refine r_region ?_
 refine r_box (vs := [_, _]) (by exact rfl) (by exact rfl) rfl ?_
 intro b1 w2 heb1 hEw2 hbb1 hzb1
 have hs_w2 := (hEw2).size
 replace hV := evo_step0 hV hEw2
 replace hn := hn.evo0 hEw2
 replace hAn := hAn.evo0 hEw2
 have hAb1 := hbb1.at
 refine r_op rfl rfl rfl (run_asg (v := .bool _) rfl (by exact rfl)) ?_
 refine r_nil ?_
 refine r_seq ?_
 refine r_region ?_
 refine r_op rfl rfl rfl (run_fa rfl (by exact rfl) fo_79_0) ?_
 refine r_op rfl rfl rfl (run_ld1 rfl ag_3 (by exact rfl) (hAb1.cell 0 (by exact rfl))) ?_
 refine r_op rfl rfl rfl (run_ld1 rfl ag_3 (by exact rfl) (hAn.cell 0 (by exact rfl))) ?_
 refine r_op rfl rfl rfl (run_eql rfl (by exact rfl) (by exact rfl)) ?_
 refine r_op rfl rfl rfl (run_asg (v := .bool _) rfl (by exact rfl)) ?_
 refine r_nil ?_
 refine r_ret (res1 (v := .bool _) rfl (by exact rfl)) ?_
 exact ⟨rfl, hV⟩
theorem pindexf_calls {ao : Option Addr} {b off cap : Nat} {l : List Range} {id : Int} {bn : Nat} {w0 : World} (hl : RowE w0 ao b off cap l) (hn : Blk w0 bn 3 [.int .i64 id]) :
    Calls Tryz.prog 77 #[.slice ao l.length cap, .func (.func 52) #[] #[.pointer (some ⟨bn, 0, none⟩)]] w0 fun e w' => ∃ r, e = .returned (.int .i64 r) ∧ Evo w0 w' [] ∧ ((r = -1 ∧ ∀ j, j < l.length → ¬ (l.getD j default).lo = id) ∨ ∃ k : Nat, k < l.length ∧ r = (k : Int) ∧ (l.getD k default).lo = id ∧ ∀ j, j < k → ¬ (l.getD j default).lo = id) := by
 have hAn := hn.at; have hnlt := hn.lt
 refine calls_enter (n := 19) (args := [.slice ao l.length cap, .func (.func 52) #[] #[.pointer (some ⟨bn, 0, none⟩)]]) Tryz.func77 rfl Tryz.ntmps77 rfl ?_
 have hV : Evo w0 w0 [] := Evo.refl _ _
 have hl0 := keepE hl
 have hbd_hl := hl.bd
 refine r_seq ?_
 refine r_region ?_
 refine r_op rfl rfl rfl (run_asg (v := .int _ _) rfl (by exact rfl)) ?_
 refine r_nil ?_
 refine r_seq ?_
 refine r_seq ?_
 refine r_region ?_
 refine r_op rfl rfl rfl (run_mv (v := .slice _ _ _) rfl (by exact rfl)) ?_
 refine r_op rfl rfl rfl (run_lenSl rfl (by exact rfl) Tryz.underlying77) ?_
 refine r_op rfl rfl rfl (run_mv (v := .int _ _) rfl (by exact rfl)) ?_
 refine r_nil ?_
 refine r_block ?_
 refine r_loop (α := Nat) [4, 5, 8, 9, 10, 11, 12, 13, 14, 15, 16, 17, 18] (fun k g w => g 8 = .int .i64 (k : Nat) ∧ k ≤ l.length ∧ Blk w bn 3 [.int .i64 id] ∧ (∀ j, j < k → ¬ (l.getD j default).lo = id) ∧ w0.heap.size ≤ w.heap.size ∧ Evo w0 w []) (fun k => l.length - k) 0 ?_ ?_
 ·refine ⟨(by first | exact rfl | exact congrArg (Value.int _) (by omega) | exact congrArg (Value.int _) (by dsimp only; omega) | exact congrArg (Value.int _) (by simp) | exact congrArg S (by simp)), (by first | assumption | omega | (dsimp only; omega) | (simp; done)), hn, (fun j h => by omega), (by first | assumption | omega | (dsimp only; omega) | (simp; done)), hV⟩
 ·rintro k g w2 ⟨hj3, hk_k, hn, hno, hzl1, hV⟩
  have hs_w2hV := hV.size
  have hlt4 := hn.lt
  replace hl := hl0 _ hV
  refine r_know (i := 8) (v := .int .i64 (k : Nat)) (by exact hj3) ?_
  refine r_seq ?_
  refine r_region ?_
  refine r_op rfl rfl rfl (run_lss rfl (by exact rfl) (by exact rfl)) ?_
  refine r_nil ?_
  refine r_seq ?_
  refine r_cond (by exact rfl) (fun hc5 => ?_) (fun hc5 => ?_)
  ·skip
   refine r_skip ?_
   refine r_seq ?_
   refine r_block ?_
   refine r_seq ?_
   refine r_region ?_
   refine r_op rfl rfl rfl (run_mv (v := .int _ _) rfl (by exact rfl)) ?_
   refine r_op rfl rfl rfl (run_asg (v := .int _ _) rfl (by exact rfl)) ?_
   refine r_nil ?_
   refine r_seq ?_
   refine r_region ?_
   refine r_op rfl rfl rfl (run_mv (v := .func _ _ _) rfl (by exact rfl)) ?_
   refine r_op rfl rfl rfl (run_mv (v := .slice _ _ _) rfl (by exact rfl)) ?_
   refine r_op rfl rfl rfl (run_mv (v := .int _ _) rfl (by exact rfl)) ?_
   refine r_op rfl rfl rfl (run_ix (k) rfl Tryz.underlying77 ty_79 (by exact rfl) (by exact rfl) (by first | exact rfl | omega) (by omega) (hl.addr (i := k) (by omega))) ?_
   have hA60 := fun (w' : World) (h : Evo w0 w' []) => (hl0 w' h).atD (k) (by omega)
   have hA6 := hA60 _ hV
   refine r_op rfl rfl rfl (run_ldN rfl ag_79 ty_79 (by exact rfl) rfl hA6) ?_
   refine r_opcall rfl rfl rfl (run_callfn (vs := [.agg _]) (cs := [.pointer (some ⟨bn, 0, none⟩)]) rfl (by exact rfl) (by exact rfl) Tryz.func52 rfl (by kernel_rfl)) (without1_calls (p := (l.getD k default)) hn) ?_
   rintro e w7 ⟨rfl, hE7⟩
   refine ⟨_, rfl, ?_⟩
   have hs_w7 := (hE7).size
   replace hV := evo_step0 hV hE7
   replace hl := hl0 _ hV
   replace hn := hn.evo0 hE7
   refine r_nil ?_
   refine r_cond (by exact rfl) (fun hc8 => ?_) (fun hc8 => ?_)
   ·skip
    refine r_seq ?_
    refine r_region ?_
    refine r_op rfl rfl rfl (run_mv (v := .int _ _) rfl (by exact rfl)) ?_
    refine r_op rfl rfl rfl (run_asg (v := .int _ _) rfl (by exact rfl)) ?_
    refine r_nil ?_
    refine r_ret (res1 (v := .int _ _) rfl (by exact rfl)) ?_
    exact ⟨_, rfl, hV, .inr ⟨k, by omega, rfl, hc8, hno⟩⟩
   ·skip
    refine r_skip ?_
    refine r_blk ?_
    refine r_region ?_
    refine r_op rfl rfl rfl (run_add rfl (by exact rfl) (by exact rfl) (by omega) (by omega)) ?_
    refine r_op rfl rfl rfl (run_mv (v := .int _ _) rfl (by exact rfl)) ?_
    refine r_nil ?_
    refine r_again (k + 1) ?_ ?_ ?_
    ·first | omega | (dsimp only; omega)
    ·refine ⟨(by first | exact rfl | exact congrArg (Value.int _) (by omega) | exact congrArg (Value.int _) (by dsimp only; omega) | exact congrArg (Value.int _) (by simp) | exact congrArg S (by simp)), (by first | assumption | omega | (dsimp only; omega) | (simp; done)), hn, (upto0 hno hc8), (by first | assumption | omega | (dsimp only; omega) | (simp; done)), hV⟩
    ·repeat (first | (with_reducible exact Agree.merge _ _ _) | (with_reducible exact Agree.refl _ _) | (with_reducible refine Agree.upd ?_ _ _ rfl) | ((with_reducible refine Agree.inner ?_ ?_); (kernel_rfl)))
  ·skip
   refine r_exit rfl ?_
   refine r_seq ?_
   refine r_region ?_
   refine r_op rfl rfl rfl (run_asg (v := .int _ _) rfl (by exact rfl)) ?_
   refine r_nil ?_
   refine r_ret (res1 (v := .int _ _) rfl (by exact rfl)) ?_
   exact ⟨_, rfl, hV, .inl ⟨rfl, fun j hj => hno j (by omega)⟩⟩
theorem pdeletef0_calls {base : Nat} {ao : Option Addr} {cap : Nat} {l : List Range} {id : Int} {bn : Nat} {w0 : World} (hov : OwnE w0 base 79 (Value.slice ao l.length cap) l) (hn : Blk w0 bn 3 [.int .i64 id]) (hbn : ∀ g, (Value.slice ao l.length cap).ownBlock = some g → g ≠ bn) :
    Calls Tryz.prog 51 #[.slice ao l.length cap, .func (.func 52) #[] #[.pointer (some ⟨bn, 0, none⟩)]] w0 fun e w' => ∃ v', e = .returned v' ∧ Evo w0 w' (Value.slice ao l.length cap).ownBlock.toList ∧ OwnE w' base 79 v' (l.filter (keepB id)) ∧ v'.ownBlock = (Value.slice ao l.length cap).ownBlock := by
 have hAn := hn.at; have hnlt := hn.lt; have hbd := hov.bd
 refine calls_enter (n := 42) (args := [.slice ao l.length cap, .func (.func 52) #[] #[.pointer (some ⟨bn, 0, none⟩)]]) Tryz.func51 rfl Tryz.ntmps51 rfl ?_
 have hV : Evo w0 w0 (Value.slice ao l.length cap).ownBlock.toList := Evo.refl _ _
 refine r_seq ?_
 refine r_region ?_
 refine r_op rfl rfl rfl (run_asg (v := .slice _ _ _) rfl (by exact rfl)) ?_
 refine r_nil ?_
 refine r_seq ?_
 refine r_region ?_
 refine r_op rfl rfl rfl (run_mv (v := .slice _ _ _) rfl (by exact rfl)) ?_
 refine r_op rfl rfl rfl (run_mv (v := .func _ _ _) rfl (by exact rfl)) ?_
 obtain ⟨ao1, g1, cp1, hv1, hr1, hg1⟩ := hov.rowOf
 injection hv1 with ha1 hx1 hc1
 subst ha1; subst hc1
 refine r_opcall rfl rfl rfl (run_callf (vs := [.slice _ _ _, .func _ _ _]) rfl (by exact rfl) Tryz.func77 rfl (by kernel_rfl)) (pindexf_calls hr1 hn) ?_
 rintro e w2 ⟨ri2, rfl, hE2, hri2⟩
 refine ⟨_, rfl, ?_⟩
 have hs_w2 := (hE2).size
 replace hV := evo_step0 hV hE2
 replace hov := hov.evo0 hE2
 replace hn := hn.evo0 hE2
 replace hAn := hAn.evo0 hE2
 replace hr1 := hr1.evo0 hE2
 refine r_op rfl rfl rfl (run_asg (v := .int _ _) rfl (by exact rfl)) ?_
 refine r_nil ?_
 refine r_seq ?_
 refine r_seq ?_
 refine r_region ?_
 refine r_op rfl rfl rfl (run_mv (v := .int _ _) rfl (by exact rfl)) ?_
 refine r_op rfl rfl rfl (run_eql rfl (by exact rfl) (by exact rfl)) ?_
 refine r_nil ?_
 refine r_cond (by exact rfl) (fun hc3 => ?_) (fun hc3 => ?_)
 ·skip
  refine r_seq ?_
  refine r_region ?_
  refine r_op rfl rfl rfl (run_mv (v := .slice _ _ _) rfl (by exact rfl)) ?_
  refine r_op rfl rfl rfl (run_asg (v := .slice _ _ _) rfl (by exact rfl)) ?_
  refine r_nil ?_
  refine r_ret (res1 (v := .slice _ _ _) rfl (by exact rfl)) ?_
  exact ⟨_, rfl, hV, by rw [del_none (hri2.elim (fun h => h.2) (fun ⟨k, _, h, _⟩ => by omega))]; exact hov, rfl⟩
 ·skip
  refine r_skip ?_
  refine r_seq ?_
  refine r_seq ?_
  obtain ⟨k0, hk0, rfl, hk1, hk2⟩ : ∃ k : Nat, k < l.length ∧ ri2 = (k : Int) ∧ (l.getD k default).lo = id ∧ ∀ j, j < k → ¬ (l.getD j default).lo = id := (hri2).elim (fun h => absurd h.1 hc3) (fun h => h)
  refine r_region ?_
  refine r_op rfl rfl rfl (run_mv (v := .int _ _) rfl (by exact rfl)) ?_
  refine r_op rfl rfl rfl (run_add rfl (by exact rfl) (by exact rfl) (by omega) (by omega)) ?_
  refine r_op rfl rfl rfl (run_asg (v := .int _ _) rfl (by exact rfl)) ?_
  refine r_nil ?_
  refine r_block ?_
  refine r_loop (α := Nat) [5, 6, 7, 16, 17, 18, 19, 20, 21, 22, 23, 24, 25, 26, 27, 28, 29, 30, 31, 32, 33, 34, 35] (fun j g w => ∃ i : Nat, ∃ Cl : List Range, g 5 = .int .i64 (i : Nat) ∧ g 6 = .int .i64 (j : Nat) ∧ OwnE w base 79 (Value.slice ao l.length cap) Cl ∧ Blk w bn 3 [.int .i64 id] ∧ DelI id l Cl i j ∧ w2.heap.size ≤ w.heap.size ∧ Evo w0 w (Value.slice ao l.length cap).ownBlock.toList) (fun j => l.length - j) (k0 + 1) ?_ ?_
  ·refine ⟨k0, l, rfl, (congrArg (Value.int _) (by omega)), hov, hn, (DelI.start hk0 hk1 hk2), (by first | assumption | omega | (dsimp only; omega) | (simp; done)), hV⟩
  ·rintro j g w5 ⟨i, Cl, hj6, hj7, hov, hn, hdl, hzl4, hV⟩
   have hs_w5hV := hV.size
   have hlt8 := hn.lt
   refine r_know (i := 5) (v := .int .i64 (i : Nat)) (by exact hj6) ?_
   refine r_know (i := 6) (v := .int .i64 (j : Nat)) (by exact hj7) ?_
   refine r_seq ?_
   refine r_seq ?_
   refine r_region ?_
   refine r_op rfl rfl rfl (run_mv (v := .int _ _) rfl (by exact rfl)) ?_
   refine r_op rfl rfl rfl (run_mv (v := .slice _ _ _) rfl (by exact rfl)) ?_
   refine r_op rfl rfl rfl (run_lenSl rfl (by exact rfl) Tryz.underlying77) ?_
   refine r_op rfl rfl rfl (run_lss rfl (by exact rfl) (by exact rfl)) ?_
   refine r_nil ?_
   refine r_cond (by exact rfl) (fun hc9 => ?_) (fun hc9 => ?_)
   ·skip
    refine r_skip ?_
    refine r_seq ?_
    refine r_block ?_
    refine r_seq ?_
    have hCl := hdl.len; have hij := hdl.lt; have hjl := hdl.le; have hat := hdl.at (by omega)
    obtain ⟨ao10, g10, cp10, hv10, hr10, hg10⟩ := hov.rowOf
    injection hv10 with ha10 hx10 hc10
    subst ha10; subst hc10
    refine r_region ?_
    refine r_op rfl rfl rfl (run_mv (v := .slice _ _ _) rfl (by exact rfl)) ?_
    refine r_op rfl rfl rfl (run_mv (v := .int _ _) rfl (by exact rfl)) ?_
    refine r_op rfl rfl rfl (run_ix (j) rfl Tryz.underlying77 ty_79 (by exact rfl) (by exact rfl) (by first | exact rfl | omega) (by omega) (hr10.addr (i := j) (by omega))) ?_
    have hA11 := hr10.atD (j) (by omega)
    refine r_op rfl rfl rfl (run_ldN rfl ag_79 ty_79 (by exact rfl) rfl hA11) ?_
    have hob12 := fun g hg => (hov.block (g := g) hg).2
    refine r_var (zs := [_, _]) (vs := [_, _]) ty_79 (by exact rfl) rfl (by exact rfl) (fun _ => rfl) (by exact rfl) rfl rfl (by exact rfl) ?_
    intro b13 w14 heb13 hEw14 hbb13 hzb13
    have hs_w14 := (hEw14).size
    replace hV := evo_step0 hV hEw14
    replace hov := hov.evo0 hEw14
    replace hn := hn.evo0 hEw14
    replace hr10 := hr10.evo0 hEw14
    have hAb13 := hbb13.at
    refine r_nil ?_
    refine r_seq ?_
    refine r_region ?_
    refine r_op rfl rfl rfl (run_mv (v := .func _ _ _) rfl (by exact rfl)) ?_
    refine r_op rfl rfl rfl (run_ldN rfl ag_79 ty_79 (by exact rfl) rfl hAb13) ?_
    refine r_opcall rfl rfl rfl (run_callfn (vs := [.agg _]) (cs := [.pointer (some ⟨bn, 0, none⟩)]) rfl (by exact rfl) (by exact rfl) Tryz.func52 rfl (by kernel_rfl)) (without1_calls (p := (Cl.getD j default)) hn) ?_
    rintro e w15 ⟨rfl, hE15⟩
    refine ⟨_, rfl, ?_⟩
    have hs_w15 := (hE15).size
    replace hV := evo_step0 hV hE15
    replace hov := hov.evo0 hE15
    replace hn := hn.evo0 hE15
    replace hr10 := hr10.evo0 hE15
    replace hbb13 := hbb13.evo0 hE15
    replace hAb13 := hAb13.evo0 hE15
    refine r_op rfl rfl rfl (run_not rfl (by exact rfl)) ?_
    refine r_nil ?_
    refine r_cond (by exact rfl) (fun hc16 => ?_) (fun hc16 => ?_)
    ·skip
     refine r_seq ?_
     have hkp := hc16
     obtain ⟨ao17, g17, cp17, hv17, hr17, hg17⟩ := hov.rowOf
     injection hv17 with ha17 hx17 hc17
     subst ha17; subst hc17
     refine r_region ?_
     refine r_op rfl rfl rfl (run_mv (v := .slice _ _ _) rfl (by exact rfl)) ?_
     refine r_op rfl rfl rfl (run_mv (v := .int _ _) rfl (by exact rfl)) ?_
     refine r_op rfl rfl rfl (run_ldN rfl ag_79 ty_79 (by exact rfl) rfl hAb13) ?_
     refine r_op rfl rfl rfl (run_ix (i) rfl Tryz.underlying77 ty_79 (by exact rfl) (by exact rfl) (by first | exact rfl | omega) (by omega) (hr17.addr (i := i) (by omega))) ?_
     have hA18 := hr17.atD (i) (by omega)
     refine r_storeE (u := .agg _) (vs := [_, _]) (i) 0 (Cl.getD j default) (by exact rfl) rfl (by first | rfl | omega) (by exact rfl) hov hr17 (by omega) ty_79 (by exact rfl) rfl (by exact rfl) rfl rfl ?_
     intro w19 hEw19 hzw19 ho_new
     have hs_w19 := (hEw19).size
     replace hV := evo_stepo hV hEw19 (fun g hg => .inr (Option.mem_toList.2 hg))
     replace hn := hn.evo hEw19 (by intro hm; exact hbn _ (Option.mem_toList.1 hm) rfl)
     replace hov := ho_new
     clear ho_new
     refine r_nil ?_
     refine r_region ?_
     refine r_op rfl rfl rfl (run_mv (v := .int _ _) rfl (by exact rfl)) ?_
     refine r_op rfl rfl rfl (run_add rfl (by exact rfl) (by exact rfl) (by omega) (by omega)) ?_
     refine r_op rfl rfl rfl (run_asg (v := .int _ _) rfl (by exact rfl)) ?_
     refine r_nil ?_
     refine r_blk ?_
     refine r_region ?_
     refine r_op rfl rfl rfl (run_mv (v := .int _ _) rfl (by exact rfl)) ?_
     refine r_op rfl rfl rfl (run_add rfl (by exact rfl) (by exact rfl) (by omega) (by omega)) ?_
     refine r_op rfl rfl rfl (run_asg (v := .int _ _) rfl (by exact rfl)) ?_
     refine r_nil ?_
     refine r_again (j + 1) ?_ ?_ ?_
     ·first | omega | (dsimp only; omega)
     ·refine ⟨(i + 1), _, (congrArg (Value.int _) (by omega)), (congrArg (Value.int _) (by omega)), hov, hn, (by first | (rw [hat]; exact hdl.keep (by omega) (by rw [← hat]; exact hc16)) | exact hdl.skip (by omega) (by rw [← hat]; exact Classical.not_not.1 hc16)), (by first | assumption | omega | (dsimp only; omega) | (simp; done)), hV⟩
     ·repeat (first | (with_reducible exact Agree.merge _ _ _) | (with_reducible exact Agree.refl _ _) | (with_reducible refine Agree.upd ?_ _ _ rfl) | ((with_reducible refine Agree.inner ?_ ?_); (kernel_rfl)))
    ·skip
     refine r_skip ?_
     refine r_blk ?_
     refine r_region ?_
     refine r_op rfl rfl rfl (run_mv (v := .int _ _) rfl (by exact rfl)) ?_
     refine r_op rfl rfl rfl (run_add rfl (by exact rfl) (by exact rfl) (by omega) (by omega)) ?_
     refine r_op rfl rfl rfl (run_asg (v := .int _ _) rfl (by exact rfl)) ?_
     refine r_nil ?_
     refine r_again (j + 1) ?_ ?_ ?_
     ·first | omega | (dsimp only; omega)
     ·refine ⟨i, _, (congrArg (Value.int _) (by omega)), (congrArg (Value.int _) (by omega)), hov, hn, (by first | (rw [hat]; exact hdl.keep (by omega) (by rw [← hat]; exact hc16)) | exact hdl.skip (by omega) (by rw [← hat]; exact Classical.not_not.1 hc16)), (by first | assumption | omega | (dsimp only; omega) | (simp; done)), hV⟩
     ·repeat (first | (with_reducible exact Agree.merge _ _ _) | (with_reducible exact Agree.refl _ _) | (with_reducible refine Agree.upd ?_ _ _ rfl) | ((with_reducible refine Agree.inner ?_ ?_); (kernel_rfl)))
   ·skip
    refine r_exit rfl ?_
    refine r_seq ?_
    have hCl := hdl.len; have hij := hdl.lt; have hjl := hdl.le
    refine r_region ?_
    refine r_op rfl rfl rfl (run_mv (v := .slice _ _ _) rfl (by exact rfl)) ?_
    refine r_op rfl rfl rfl (run_mv (v := .int _ _) rfl (by exact rfl)) ?_
    refine r_op rfl rfl rfl (by exact run_sl (i) (l.length) rfl Tryz.underlying77 ty_79 (by exact rfl) (at1 (by exact rfl) (by exact rfl)) hi0 (by omega) (by have := hov.le_cap; omega)) ?_
    refine r_clearO (y0 := (⟨0, 0⟩ : Range)) Tryz.underlying77 ty_79 rfl rfl hov rfl (by omega) (i) (by omega) (by exact rfl) ?_
    intro w20 hEw20 hzw20 ho_new
    have hs_w20 := (hEw20).size
    replace hV := evo_stepo hV hEw20 (fun g hg => .inr (Option.mem_toList.2 hg))
    replace hn := hn.evo hEw20 (by intro hm; exact hbn _ (Option.mem_toList.1 hm) rfl)
    replace hov := ho_new
    clear ho_new
    refine r_nil ?_
    refine r_seq ?_
    refine r_region ?_
    refine r_op rfl rfl rfl (run_mv (v := .slice _ _ _) rfl (by exact rfl)) ?_
    refine r_op rfl rfl rfl (run_mv (v := .int _ _) rfl (by exact rfl)) ?_
    refine r_cutOwn (i) rfl Tryz.underlying77 ty_79 hov (by exact rfl) (hi1 (by exact rfl) (by omega)) (by simp; omega) (by simp; omega) ?_
    intro v21 hov21 hlv21
    refine r_op rfl rfl rfl (run_asg (v := v21) rfl (by exact rfl)) ?_
    refine r_nil ?_
    refine r_ret (res1 (v := v21) rfl (by exact rfl)) ?_
    exact ⟨_, rfl, hV, by have h9 := hov21; rw [List.take_left' (by rw [List.length_take]; omega), hdl.done (by omega)] at h9; exact h9, hlv21⟩
theorem pdeletef_calls {base : Nat} {v : Value} {l : List Range} {id : Int} {bn : Nat} {w0 : World} (hov : OwnE w0 base 79 v l) (hn : Blk w0 bn 3 [.int .i64 id]) (hbn : ∀ g, v.ownBlock = some g → g ≠ bn) :
    Calls Tryz.prog 51 #[v, .func (.func 52) #[] #[.pointer (some ⟨bn, 0, none⟩)]] w0 fun e w' => ∃ v', e = .returned v' ∧ Evo w0 w' v.ownBlock.toList ∧ OwnE w' base 79 v' (l.filter (keepB id)) ∧ v'.ownBlock = v.ownBlock := by
  obtain ⟨ao, cap, rfl⟩ := hov.shape
  exact pdeletef0_calls hov hn hbn
theorem without_calls {base : Nat} {v : Value} {l : List Range} {id : Int} {w0 : World} (hov : OwnE w0 base 79 v l) :
    Calls Tryz.prog 32 #[v, .int .i64 id] w0 fun e w' => ∃ v', e = .returned v' ∧ Evo w0 w' v.ownBlock.toList ∧ OwnE w' base 79 v' (l.filter (keepB id)) ∧ v'.ownBlock = v.ownBlock := by
 have hob0 := fun g hg => (hov.block (g := g) hg).2
 refine calls_enter (n := 8) (args := [v, .int .i64 id]) Tryz.func32 rfl Tryz.ntmps32 rfl ?_
 have hV : Evo w0 w0 v.ownBlock.toList := Evo.refl _ _
 refine r_seq ?_
 refine r_region ?_
 have hob1 := fun g hg => (hov.block (g := g) hg).2
 refine r_box (vs := [_]) (by exact rfl) (by exact rfl) rfl ?_
 intro b2 w3 heb2 hEw3 hbb2 hzb2
 have hs_w3 := (hEw3).size
 replace hV := evo_step0 hV hEw3
 replace hov := hov.evo0 hEw3
 have hAb2 := hbb2.at
 refine r_op rfl rfl rfl (run_asg (v := .slice _ _ _) rfl (by exact rfl)) ?_
 refine r_nil ?_
 refine r_seq ?_
 refine r_region ?_
 refine r_op rfl rfl rfl (run_mv (v := v) rfl (by exact rfl)) ?_
 refine r_op rfl rfl rfl (run_mkF (vs := [.pointer _]) rfl (by exact rfl)) ?_
 refine r_opcall rfl rfl rfl (run_callf (vs := [v, .func _ _ _]) rfl (by exact rfl) Tryz.func51 rfl (by kernel_rfl)) (pdeletef_calls hov hbb2 (fun g hg => by have := hob0 g hg; omega)) ?_
 rintro e w4 ⟨vd4, rfl, hE4, hod4, hdb4⟩
 refine ⟨_, rfl, ?_⟩
 have hs_w4 := (hE4).size
 replace hV := evo_stepo hV hE4 (fun g hg => .inr (Option.mem_toList.2 hg))
 refine r_op rfl rfl rfl (run_asg (v := vd4) rfl (by exact rfl)) ?_
 refine r_nil ?_
 refine r_ret (res1 (v := vd4) rfl (by exact rfl)) ?_
 exact ⟨_, rfl, hV, hod4, hdb4⟩
end Go.Proofs.YthbcklajlmcifaaGreat
namespace Go.Proofs.YthbcklajlmcifaaGreat
open Go.RowKit Go.Vc
theorem ixlen_calls {bx : Nat} {A : Stored} {F : List Nat} {w0 : World} (hx : Idx w0 bx A F) :
    Calls Tryz.prog 10 #[.pointer (some ⟨bx, 0, none⟩)] w0 fun e w' => e = .returned (.int .i64 (A.length : Int)) ∧ Evo w0 w' [] := by
 obtain ⟨ml, mg, mc, L, F1, F2, F3, hp, rfl⟩ := hx
 have hW : Evo w0 w0 [] := Evo.refl _ _
 have hbx := fun w9 (h9 : Evo w0 w9 []) => (hp.evo h9 (by simp)).blk.at
 have hlm := fun w9 (h9 : Evo w0 w9 []) => (hp.evo h9 (by simp)).lists
 have hlb := hp.blk.lt; have hll := hp.lists.lt; have hlg := hp.grams.lt; have hlc := hp.classes.lt
 have hLA := hp.lvs.len
 obtain ⟨n1, n2, n3, n4, n5, n6⟩ := hp.ne
 have hids := hp.lists.nodup
 rw [hp.lvs.1] at hids
 refine calls_enter (n := 8) (args := [.pointer (some ⟨bx, 0, none⟩)]) Tryz.func10 rfl Tryz.ntmps10 rfl ?_
 have hV : Evo w0 w0 [] := Evo.refl _ _
 have hbx0 := hbx
 replace hbx := hbx0 _ hW
 have hlm0 := hlm
 replace hlm := hlm0 _ hW
 refine r_seq ?_
 refine r_region ?_
 refine r_op rfl rfl rfl (run_asg (v := .int _ _) rfl (by exact rfl)) ?_
 refine r_nil ?_
 refine r_seq ?_
 refine r_region ?_
 refine r_op rfl rfl rfl (run_mv (v := (.pointer (some ⟨bx, 0, none⟩))) rfl (by exact rfl)) ?_
 refine r_op rfl rfl rfl (run_nc rfl (by exact rfl)) ?_
 refine r_op rfl rfl rfl (run_fa rfl (by exact rfl) fo_52_0) ?_
 refine r_op rfl rfl rfl (run_ld1 rfl ag_48 (by exact rfl) (hbx.cell 0 (by exact rfl))) ?_
 refine r_op rfl rfl rfl (run_lenM rfl Tryz.underlying48 (by exact rfl) hlm) ?_
 refine r_op rfl rfl rfl (run_asg (v := .int _ _) rfl (by exact rfl)) ?_
 refine r_nil ?_
 refine r_ret (res1 (v := .int _ _) rfl (by exact rfl)) ?_
 exact ⟨ret_int (by rw [hLA]), hV⟩
theorem ixrem0_calls {bx : Nat} {A : Stored} {F : List Nat} {id : Int} {w0 : World} (hx : Idx w0 bx A F) (hid : id ∉ A.map (·.1)) :
    Calls Tryz.prog 19 #[.pointer (some ⟨bx, 0, none⟩), .int .i64 id] w0 fun e w' => ∃ F', e = .returned (.bool false) ∧ Evo w0 w' F ∧ Idx w' bx (without A id) F' ∧ (∀ g ∈ F', g ∈ F ∨ w0.heap.size ≤ g) := by
 obtain ⟨ml, mg, mc, L, F1, F2, F3, hp, rfl⟩ := hx
 have hW : Evo w0 w0 [] := Evo.refl _ _
 have hbx := fun w9 (h9 : Evo w0 w9 []) => (hp.evo h9 (by simp)).blk.at
 have hlm := fun w9 (h9 : Evo w0 w9 []) => (hp.evo h9 (by simp)).lists
 have hlb := hp.blk.lt; have hll := hp.lists.lt; have hlg := hp.grams.lt; have hlc := hp.classes.lt
 have hLA := hp.lvs.len
 obtain ⟨n1, n2, n3, n4, n5, n6⟩ := hp.ne
 have hids := hp.lists.nodup
 rw [hp.lvs.1] at hids
 refine calls_enter (n := 99) (args := [.pointer (some ⟨bx, 0, none⟩), .int .i64 id]) Tryz.func19 rfl Tryz.ntmps19 rfl ?_
 have hV : Evo w0 w0 (feet bx ml mg mc F1 F2 F3) := Evo.refl _ _
 have hbx0 := hbx
 replace hbx := hbx0 _ hW
 have hlm0 := hlm
 replace hlm := hlm0 _ hW
 refine r_seq ?_
 refine r_region ?_
 refine r_op rfl rfl rfl (run_asg (v := .bool _) rfl (by exact rfl)) ?_
 refine r_nil ?_
 refine r_seq ?_
 refine r_region ?_
 refine r_op rfl rfl rfl (run_mv (v := (.pointer (some ⟨bx, 0, none⟩))) rfl (by exact rfl)) ?_
 refine r_op rfl rfl rfl (run_nc rfl (by exact rfl)) ?_
 refine r_op rfl rfl rfl (run_fa rfl (by exact rfl) fo_52_0) ?_
 refine r_op rfl rfl rfl (run_ld1 rfl ag_48 (by exact rfl) (hbx.cell 0 (by exact rfl))) ?_
 refine r_op rfl rfl rfl (run_mv (v := .int _ _) rfl (by exact rfl)) ?_
 refine r_op rfl rfl rfl (run_lookup2 (a := _) (z := (⟨none, 0, 0, none, ⟨0, 0, 0⟩, 0⟩ : LV)) (v := .agg _) (key_int Tryz.underlying3) rfl Tryz.underlying48 ty_64 (by exact rfl) (by exact rfl) hlm rfl) ?_
 refine r_op rfl rfl rfl (run_mv (v := .tuple _) rfl (by exact rfl)) ?_
 refine r_op rfl rfl rfl (run_extract (v := .agg _) rfl (by exact rfl) (by exact rfl)) ?_
 refine r_op rfl rfl rfl (run_extract (v := .bool _) rfl (by exact rfl) (by exact rfl)) ?_
 refine r_var (zs := [_, _, _, _, _, _]) (vs := [_, _, _, _, _, _]) ty_64 (by exact rfl) rfl (by exact rfl) (fun _ => rfl) (by exact rfl) rfl rfl (by exact rfl) ?_
 intro b1 w2 heb1 hEw2 hbb1 hzb1
 have hs_w2 := (hEw2).size
 replace hV := evo_step0 hV hEw2
 replace hW := evo_step0 hW hEw2
 replace hbx := hbx0 _ hW
 replace hlm := hlm0 _ hW
 have hAb1 := hbb1.at
 refine r_op rfl rfl rfl (run_asg (v := .bool _) rfl (by exact rfl)) ?_
 refine r_knowL (i := 6) (v := .bool (decide (id ∈ A.map (·.1)))) (congrArg Value.bool (lv_some hp.lvs id)) ?_
 refine r_nil ?_
 refine r_seq ?_
 refine r_seq ?_
 refine r_region ?_
 refine r_op rfl rfl rfl (run_mv (v := .bool _) rfl (by exact rfl)) ?_
 refine r_op rfl rfl rfl (run_not rfl (by exact rfl)) ?_
 refine r_knowL (i := 21) (v := .bool true) (congrArg Value.bool (decide_eq_true hid)) ?_
 refine r_nil ?_
 refine r_cond_yes (by exact rfl) ?_
 refine r_seq ?_
 refine r_region ?_
 refine r_op rfl rfl rfl (run_asg (v := .bool _) rfl (by exact rfl)) ?_
 refine r_nil ?_
 refine r_ret (res1 (v := .bool _) rfl (by exact rfl)) ?_
 exact ⟨_, rfl, hV, by rw [without_no hid]; exact ⟨ml, mg, mc, L, F1, F2, F3, hp.evo hW (by simp), rfl⟩, fun g hg => .inl hg⟩
set_option maxHeartbeats 2000000 in
theorem ixrem1_calls {bx : Nat} {A : Stored} {F : List Nat} {id : Int} {w0 : World} (hx : Idx w0 bx A F) (hid : id ∈ A.map (·.1)) :
    Calls Tryz.prog 19 #[.pointer (some ⟨bx, 0, none⟩), .int .i64 id] w0 fun e w' => ∃ F', e = .returned (.bool true) ∧ Evo w0 w' F ∧ Idx w' bx (without A id) F' ∧ (∀ g ∈ F', g ∈ F ∨ w0.heap.size ≤ g) := by
 obtain ⟨ml, mg, mc, L, F1, F2, F3, hp, rfl⟩ := hx
 have hW : Evo w0 w0 [] := Evo.refl _ _
 have hbx := fun w9 (h9 : Evo w0 w9 []) => (hp.evo h9 (by simp)).blk.at
 have hlm := fun w9 (h9 : Evo w0 w9 []) => (hp.evo h9 (by simp)).lists
 have hlb := hp.blk.lt; have hll := hp.lists.lt; have hlg := hp.grams.lt; have hlc := hp.classes.lt
 have hLA := hp.lvs.len
 obtain ⟨n1, n2, n3, n4, n5, n6⟩ := hp.ne
 have hids := hp.lists.nodup
 rw [hp.lvs.1] at hids
 obtain ⟨lv, hget⟩ := hp.lvs.got hid
 obtain ⟨l, hAl, hlv⟩ := hp.lvs.at hget
 obtain ⟨ga, gl, gc, cm0, s0, t0⟩ := lv
 obtain ⟨cb, M, hcb, hcm0, hcq, hcF⟩ := hlv.cls
 obtain ⟨hgl0, gb, hgr0, hgg⟩ := hlv.gs.row_of
 have hfg0 := hlv.fg; have hs0 := hlv.s; have ht0 := hlv.tot
 dsimp only at hcb hgl0 hfg0 hs0 ht0 hgr0 hgg
 subst hcb hgl0 hs0 ht0
 have hcn := hcm0.nodup; have hgn := gramsL_nodup (wordsT l); have hgl := gramsL_len (wordsT l); have hwl := wordsT_len l
 have hcl3 := hp.lt3 cb hcF
 refine calls_enter (n := 99) (args := [.pointer (some ⟨bx, 0, none⟩), .int .i64 id]) Tryz.func19 rfl Tryz.ntmps19 rfl ?_
 have hV : Evo w0 w0 (feet bx ml mg mc F1 F2 F3) := Evo.refl _ _
 have hbx0 := hbx
 replace hbx := hbx0 _ hW
 have hlm0 := hlm
 replace hlm := hlm0 _ hW
 refine r_seq ?_
 refine r_region ?_
 refine r_op rfl rfl rfl (run_asg (v := .bool _) rfl (by exact rfl)) ?_
 refine r_nil ?_
 refine r_seq ?_
 refine r_region ?_
 refine r_op rfl rfl rfl (run_mv (v := (.pointer (some ⟨bx, 0, none⟩))) rfl (by exact rfl)) ?_
 refine r_op rfl rfl rfl (run_nc rfl (by exact rfl)) ?_
 refine r_op rfl rfl rfl (run_fa rfl (by exact rfl) fo_52_0) ?_
 refine r_op rfl rfl rfl (run_ld1 rfl ag_48 (by exact rfl) (hbx.cell 0 (by exact rfl))) ?_
 refine r_op rfl rfl rfl (run_mv (v := .int _ _) rfl (by exact rfl)) ?_
 refine r_op rfl rfl rfl (run_lookup2 (a := _) (z := (⟨none, 0, 0, none, ⟨0, 0, 0⟩, 0⟩ : LV)) (v := .agg _) (key_int Tryz.underlying3) rfl Tryz.underlying48 ty_64 (by exact rfl) (by exact rfl) hlm rfl) ?_
 refine r_op rfl rfl rfl (run_mv (v := .tuple _) rfl (by exact rfl)) ?_
 refine r_op rfl rfl rfl (run_extract (v := .agg _) rfl (by exact rfl) (by exact rfl)) ?_
 refine r_knowL (i := 18) (v := (evL ⟨ga, (gramsL (wordsT l)).length, gc, some cb, smL l, totT l⟩)) (by show evL ((getM L id).getD _) = _; rw [hget]; rfl) ?_
 refine r_op rfl rfl rfl (run_extract (v := .bool _) rfl (by exact rfl) (by exact rfl)) ?_
 refine r_var (zs := [_, _, _, _, _, _]) (vs := [_, _, _, _, _, _]) ty_64 (by exact rfl) rfl (by exact rfl) (fun _ => rfl) (by exact rfl) rfl rfl (by exact rfl) ?_
 intro b1 w2 heb1 hEw2 hbb1 hzb1
 have hs_w2 := (hEw2).size
 replace hV := evo_step0 hV hEw2
 replace hW := evo_step0 hW hEw2
 replace hbx := hbx0 _ hW
 replace hlm := hlm0 _ hW
 have hAb1 := hbb1.at
 refine r_op rfl rfl rfl (run_asg (v := .bool _) rfl (by exact rfl)) ?_
 refine r_knowL (i := 6) (v := .bool (decide (id ∈ A.map (·.1)))) (congrArg Value.bool (lv_some hp.lvs id)) ?_
 refine r_nil ?_
 refine r_seq ?_
 refine r_seq ?_
 refine r_region ?_
 refine r_op rfl rfl rfl (run_mv (v := .bool _) rfl (by exact rfl)) ?_
 refine r_op rfl rfl rfl (run_not rfl (by exact rfl)) ?_
 refine r_knowL (i := 21) (v := .bool false) (congrArg Value.bool (decide_eq_false (fun h => h hid))) ?_
 refine r_nil ?_
 refine r_cond_no (by exact rfl) ?_
 refine r_skip ?_
 refine r_seq ?_
 have hWx := hW
 have hp5 := hp.evo hW (by simp)
 have hA5 : Evo w2 w2 [ml] := Evo.refl _ _
 have hbx0 := fun w9 (h9 : Evo w2 w9 [ml]) => (hp5.blk.evo h9 hp.bx0).at; have hbx := hbx0 _ hA5; have hlm := hp5.lists
 have hgs5 := hlv.gs.evo0 hWx; have hcm5 := hcm0.evo0 hWx
 refine r_region ?_
 refine r_op rfl rfl rfl (run_mv (v := (.pointer (some ⟨bx, 0, none⟩))) rfl (by exact rfl)) ?_
 refine r_op rfl rfl rfl (run_nc rfl (by exact rfl)) ?_
 refine r_op rfl rfl rfl (run_fa rfl (by exact rfl) fo_52_0) ?_
 refine r_op rfl rfl rfl (run_ld1 rfl ag_48 (by exact rfl) (hbx.cell 0 (by exact rfl))) ?_
 refine r_op rfl rfl rfl (run_mv (v := .int _ _) rfl (by exact rfl)) ?_
 refine r_delM (a := id) (key_int Tryz.underlying3) Tryz.underlying48 (by exact rfl) (by exact rfl) hlm ?_
 intro w3 hEw3 hzw3 hm_new
 have hs_w3 := (hEw3).size
 replace hV := evo_step1 hV hEw3 (.inr (mem_feet.2 (.inr (.inl rfl))))
 replace hA5 := evo_step1 hA5 hEw3 (by first | exact .inl (by omega) | exact .inr (by simp))
 replace hbb1 := hbb1.evo hEw3 (by simp; omega)
 replace hAb1 := hAb1.evo hEw3 (by simp; omega)
 replace hbx := hbx0 _ hA5
 replace hlm := hm_new
 clear hm_new
 refine r_nil ?_
 refine r_seq ?_
 refine r_seq ?_
 have hbk6 := hp5.blk.evo hA5 hp.bx0; have hgr6 := hp5.grams.evo hA5 hp.mg0 hp.f10; have hcl6 := hp5.classes.evo hA5 hp.mc0 hp.f20; have hlv6 := hp5.lvs.evo hA5 hp.f30; have hlm6 := hlm; have hgs6 := hgs5.evo hA5 (fun g hg => hp.f30 g (hfg0 g hg)); have hcm6 := hcm5.evo hA5 (hp.f30 cb hcF)
 have hI : Evo w3 w3 (mg :: F1) := Evo.refl _ _
 have hbx0 := fun w9 (h9 : Evo w3 w9 (mg :: F1)) => (hbk6.evo h9 hp.bx1).at; replace hbx := hbx0 _ hI
 obtain ⟨g6, hgr6w, hgg6⟩ := hgs6.row_of.2
 have hgrr0 := fun w9 (h9 : Evo w3 w9 (mg :: F1)) => row_keep hgr6w h9 (fun hne hm => hp.f31 _ (hfg0 _ (hgg6 hne).1) hm); have hgrr := hgrr0 _ hI
 have hAb10 := fun w9 (h9 : Evo w3 w9 (mg :: F1)) => hAb1.evo h9 (hp.nw1 _ (by omega)); replace hAb1 := hAb10 _ hI
 have hgsl := hgs6.bd
 refine r_region ?_
 refine r_op rfl rfl rfl (run_fa rfl (by exact rfl) fo_64_0) ?_
 refine r_op rfl rfl rfl (run_ld1 rfl ag_59 (by exact rfl) (hAb1.cell 0 (by exact rfl))) ?_
 refine r_knowL (i := 28) (v := (.slice ga (gramsL (wordsT l)).length gc)) rfl ?_
 refine r_op rfl rfl rfl (run_lenSl rfl (by exact rfl) Tryz.underlying59) ?_
 refine r_op rfl rfl rfl (run_mv (v := .int _ _) rfl (by exact rfl)) ?_
 refine r_nil ?_
 refine r_block ?_
 refine r_loop (α := Nat) [8, 9, 30, 31, 32, 33, 34, 35, 36, 37, 38, 39, 40, 41, 42, 43, 44, 45, 46, 47, 48, 49, 50, 51, 52, 53, 54, 55, 56, 57, 58, 59, 60, 61, 62, 63, 64, 65] (fun k g w => ∃ G1 : List Nat, g 30 = .int .i64 (k : Nat) ∧ k ≤ (gramsL (wordsT l)).length ∧ FamIs w mg ekP 79 (mix (((gramsL (wordsT l)).drop k).map prG) (post gcN A) (post gcN (without A id))) G1 ∧ (∀ g ∈ G1, g ∈ F1 ∨ w3.heap.size ≤ g) ∧ w3.heap.size ≤ w.heap.size ∧ Evo w0 w (feet bx ml mg mc F1 F2 F3) ∧ Evo w3 w (mg :: F1)) (fun k => (gramsL (wordsT l)).length - k) 0 ?_ ?_
 ·refine ⟨F1, (by first | exact rfl | exact congrArg (Value.int _) (by omega) | exact congrArg (Value.int _) (by dsimp only; omega) | exact congrArg (Value.int _) (by simp) | exact congrArg S (by simp)), (by first | assumption | omega | (dsimp only; omega) | (simp; done)), (hgr6.congr (mix_all (fun y hy => (post_keep hids hAl (gram_none hy)).symm))), (fun g hg => .inl hg), (by first | assumption | omega | (dsimp only; omega) | (simp; done)), hV, hI⟩
 ·rintro k g w5 ⟨G1, hj6, hk_k, hfg, hG1, hzl4, hV, hI⟩
  have hs_w5hV := hV.size
  have hs_w5hI := hI.size
  replace hAb1 := hAb10 _ hI
  replace hbx := hbx0 _ hI
  replace hgrr := hgrr0 _ hI
  refine r_know (i := 30) (v := .int .i64 (k : Nat)) (by exact hj6) ?_
  have hfs := hfg.flt
  refine r_seq ?_
  refine r_region ?_
  refine r_op rfl rfl rfl (run_lss rfl (by exact rfl) (by exact rfl)) ?_
  refine r_nil ?_
  refine r_seq ?_
  refine r_cond (by exact rfl) (fun hc7 => ?_) (fun hc7 => ?_)
  ·skip
   refine r_skip ?_
   refine r_seq ?_
   refine r_block ?_
   refine r_seq ?_
   refine r_region ?_
   refine r_op rfl rfl rfl (run_ix (k) rfl Tryz.underlying59 ty_74 (by exact rfl) (by exact rfl) (by first | exact rfl | omega) (by omega) (hgrr.addr (i := k) (by omega))) ?_
   have hA80 := fun (w' : World) (h : Evo w3 w' (mg :: F1)) => (hgrr0 w' h).atD (k) (by omega)
   have hA8 := hA80 _ hI
   refine r_op rfl rfl rfl (run_ldN rfl ag_74 ty_74 (by exact rfl) rfl hA8) ?_
   refine r_var (zs := [_, _, _]) (vs := [_, _, _]) ty_74 (by exact rfl) rfl (by exact rfl) (fun _ => rfl) (by exact rfl) rfl rfl (by exact rfl) ?_
   intro b9 w10 heb9 hEw10 hbb9 hzb9
   have hs_w10 := (hEw10).size
   replace hV := evo_step0 hV hEw10
   replace hI := evo_step0 hI hEw10
   replace hAb1 := hAb10 _ hI
   replace hbx := hbx0 _ hI
   replace hgrr := hgrr0 _ hI
   replace hfg := hfg.evo0 hEw10
   have hAb9 := hbb9.at
   refine r_nil ?_
   refine r_seq ?_
   refine r_region ?_
   refine r_op rfl rfl rfl (run_fa rfl (by exact rfl) fo_74_0) ?_
   refine r_op rfl rfl rfl (run_ld1 rfl ag_9 (by exact rfl) (hAb9.cell 0 (by exact rfl))) ?_
   refine r_op rfl rfl rfl (run_fa rfl (by exact rfl) fo_74_1) ?_
   refine r_op rfl rfl rfl (run_ld1 rfl ag_9 (by exact rfl) (hAb9.cell 1 (by exact rfl))) ?_
   refine r_op rfl rfl rfl (run_bld (pv := [(0, S _), (1, S _)]) (zs := [_, _]) (cells := [_, _]) rfl ty_76 (by exact rfl) pl_76 (by exact rfl) (by exact rfl)) ?_
   refine r_var (zs := [_, _]) (vs := [_, _]) ty_76 (by exact rfl) rfl (by exact rfl) (fun _ => rfl) (by exact rfl) rfl rfl (by exact rfl) ?_
   intro b11 w12 heb11 hEw12 hbb11 hzb11
   have hs_w12 := (hEw12).size
   replace hV := evo_step0 hV hEw12
   replace hI := evo_step0 hI hEw12
   replace hAb1 := hAb10 _ hI
   replace hbx := hbx0 _ hI
   replace hgrr := hgrr0 _ hI
   replace hfg := hfg.evo0 hEw12
   have hAb11 := hbb11.at
   refine r_nil ?_
   refine r_seq ?_
   obtain ⟨M, hm, hfm, hmn, hfl⟩ := hfg; have ho := hfm.own (prG ((gramsL (wordsT l)).getD k default)); have hmw := hm.lt
   have hml : (mix (((gramsL (wordsT l)).drop k).map prG) (post gcN A) (post gcN (without A id)) (prG ((gramsL (wordsT l)).getD k default))).length ≤ A.length := (by rw [mix_at ((keys_drop (by omega) _).2 (.inl rfl))]; exact post_len)
   have hR : Evo w12 w12 ([mg] ++ (atV M (prG ((gramsL (wordsT l)).getD k default))).ownBlock.toList) := Evo.refl _ _
   have hEI : ∀ g ∈ ([mg] ++ (atV M (prG ((gramsL (wordsT l)).getD k default))).ownBlock.toList), w3.heap.size ≤ g ∨ g ∈ mg :: F1 := fun g hg => (List.mem_append.1 hg).elim (fun h => .inr (List.mem_cons.2 (.inl (by simpa using h)))) (fun h => (hG1 g (hfm.foot _ g (Option.mem_toList.1 h))).elim (fun h2 => .inr (List.mem_cons_of_mem _ h2)) (fun h2 => .inl (by omega)))
   have hEV : ∀ g ∈ ([mg] ++ (atV M (prG ((gramsL (wordsT l)).getD k default))).ownBlock.toList), w0.heap.size ≤ g ∨ g ∈ (feet bx ml mg mc F1 F2 F3) := fun g hg => (hEI g hg).elim (fun h => .inl (by omega)) (fun h => .inr ((List.mem_cons.1 h).elim (fun h2 => (mem_feet.2 (.inr (.inr (.inl h2))))) (fun h2 => (mem_feet.2 (.inr (.inr (.inr (.inr (.inl h2)))))))))
   have hbb11_q := hbb11
   have hAb11_q := hAb11
   have hm_q := hm
   have hV_q := hV
   have hI_q := hI
   have hR_q := hR
   refine h_region ((atV M (prG ((gramsL (wordsT l)).getD k default))).ownBlock.toList) (by kernel_rfl) ?_
   intro w13 hE14 hCst9
   have hs_w13 := (hE14).size
   replace hV := evo_step0 hV hE14
   replace hI := evo_step0 hI hE14
   replace hR := evo_step0 hR hE14
   replace hAb1 := hAb10 _ hI
   replace hbx := hbx0 _ hI
   replace hgrr := hgrr0 _ hI
   replace hbb11 := hbb11.evo0 hE14
   replace hAb11 := hAb11.evo0 hE14
   replace hm := hm.evo0 hE14
   replace ho := ho.evo0 hE14
   refine h_take (i := 0) (by exact rfl) rfl rfl rfl (by kernel_rfl) (fun w' hC => run_mv (v := (.pointer (some ⟨bx, 0, none⟩))) rfl (by exact rfl)) hCst9 ?_
   refine h_take (i := 1) (by exact rfl) rfl rfl rfl (by kernel_rfl) (fun w' hC => run_nc rfl (by exact rfl)) hCst9 ?_
   refine h_take (i := 2) (by exact rfl) rfl rfl rfl (by kernel_rfl) (fun w' hC => run_fa rfl (by exact rfl) fo_52_1) hCst9 ?_
   refine h_take (i := 3) (by exact rfl) rfl rfl rfl (by kernel_rfl) (fun w' hC => run_ld1 rfl ag_49 (by exact rfl) ((hbx0 _ (evo_steps hI_q hC (fun g hg => by first | exact hEI g (List.mem_append_right _ hg) | exact hEV g (List.mem_append_right _ hg)))).cell 1 (by exact rfl))) hCst9 ?_
   refine h_take (i := 4) (by exact rfl) rfl rfl rfl (by kernel_rfl) (fun w' hC => run_ldN rfl ag_76 ty_76 (by exact rfl) rfl (hAb11_q.evo hC (fun hm => by first | exact hmn (hfm.foot _ _ (Option.mem_toList.1 hm)) | (have h7 := hfs _ (hfm.foot _ _ (Option.mem_toList.1 hm)); omega)))) hCst9 ?_
   refine h_take (i := 5) (by exact rfl) rfl rfl rfl (by kernel_rfl) (fun w' hC => run_mv (v := (.pointer (some ⟨bx, 0, none⟩))) rfl (by exact rfl)) hCst9 ?_
   refine h_take (i := 6) (by exact rfl) rfl rfl rfl (by kernel_rfl) (fun w' hC => run_nc rfl (by exact rfl)) hCst9 ?_
   refine h_take (i := 7) (by exact rfl) rfl rfl rfl (by kernel_rfl) (fun w' hC => run_fa rfl (by exact rfl) fo_52_1) hCst9 ?_
   refine h_take (i := 8) (by exact rfl) rfl rfl rfl (by kernel_rfl) (fun w' hC => run_ld1 rfl ag_49 (by exact rfl) ((hbx0 _ (evo_steps hI_q hC (fun g hg => by first | exact hEI g (List.mem_append_right _ hg) | exact hEV g (List.mem_append_right _ hg)))).cell 1 (by exact rfl))) hCst9 ?_
   refine h_take (i := 9) (by exact rfl) rfl rfl rfl (by kernel_rfl) (fun w' hC => run_ldN rfl ag_76 ty_76 (by exact rfl) rfl (hAb11_q.evo hC (fun hm => by first | exact hmn (hfm.foot _ _ (Option.mem_toList.1 hm)) | (have h7 := hfs _ (hfm.foot _ _ (Option.mem_toList.1 hm)); omega)))) hCst9 ?_
   refine h_take (i := 10) (by exact rfl) rfl rfl rfl (by kernel_rfl) (fun w' hC => run_lookup1 (a := (prG ((gramsL (wordsT l)).getD k default))) (z := nilV) (v := (atV M (prG ((gramsL (wordsT l)).getD k default)))) kgram rfl Tryz.underlying49 ty_77 (by exact rfl) (by exact rfl) (hm_q.evo hC (fun hm => by first | exact hmn (hfm.foot _ _ (Option.mem_toList.1 hm)) | (have h7 := hfs _ (hfm.foot _ _ (Option.mem_toList.1 hm)); omega))) rfl) hCst9 ?_
   refine h_take (i := 11) (by exact rfl) rfl rfl rfl (by kernel_rfl) (fun w' hC => run_mv (v := .int _ _) rfl (by exact rfl)) hCst9 ?_
   refine h_one (i := 12) (by kernel_rfl) ?_
   refine h_do (by exact rfl) ?_
   refine r_opcall rfl rfl rfl (run_callf (vs := [(atV M (prG ((gramsL (wordsT l)).getD k default))), .int _ _]) rfl (by exact rfl) Tryz.func32 rfl (by kernel_rfl)) (without_calls ho) ?_
   rintro e w15 ⟨vd15, rfl, hE15, hod15, hdb15⟩
   refine ⟨_, rfl, ?_⟩
   have hs_w15 := (hE15).size
   replace hV := evo_stepo hV hE15 (fun g hg => (hEV g (List.mem_append_right _ (Option.mem_toList.2 hg))))
   replace hI := evo_stepo hI hE15 (fun g hg => (hEI g (List.mem_append_right _ (Option.mem_toList.2 hg))))
   replace hR := evo_stepo hR hE15 (fun g hg => .inr (List.mem_append_right _ (Option.mem_toList.2 hg)))
   replace hCst9 := evo_stepo hCst9 hE15 (fun g hg => .inr (Option.mem_toList.2 hg))
   replace hAb1 := hAb10 _ hI
   replace hbx := hbx0 _ hI
   replace hgrr := hgrr0 _ hI
   replace hbb11 := hbb11.evo hE15 (by intro hm; have h7 := hfs _ (hfm.foot _ _ (Option.mem_toList.1 hm)); omega)
   replace hAb11 := hAb11.evo hE15 (by intro hm; have h7 := hfs _ (hfm.foot _ _ (Option.mem_toList.1 hm)); omega)
   replace hm := hm.evo hE15 (by intro hm9; exact hmn (hfm.foot _ _ (Option.mem_toList.1 hm9)))
   refine h_next hCst9 ?_
   refine h_one (i := 13) (by kernel_rfl) ?_
   refine h_do (by exact rfl) ?_
   refine r_mapset (a := (prG ((gramsL (wordsT l)).getD k default))) (v := vd15) kgram Tryz.underlying49 (by exact rfl) (by exact rfl) (by exact rfl) hm ?_
   intro w16 hEw16 hzw16 hm_new
   have hs_w16 := (hEw16).size
   replace hV := evo_step1 hV hEw16 (.inr (mem_feet.2 (.inr (.inr (.inl rfl)))))
   replace hI := evo_step1 hI hEw16 (by first | exact .inl (by omega) | exact .inr (by simp))
   replace hR := evo_step1 hR hEw16 (by first | exact .inl (by omega) | exact .inr (by simp))
   replace hAb1 := hAb10 _ hI
   replace hbx := hbx0 _ hI
   replace hgrr := hgrr0 _ hI
   replace hbb11 := hbb11.evo hEw16 (by simp; omega)
   replace hAb11 := hAb11.evo hEw16 (by simp; omega)
   replace hod15 := hod15.evo hEw16 (by intro g hg hm; simp at hm; subst hm; exact hmn (hfm.foot _ _ (hdb15 ▸ hg)))
   replace hm := hm_new
   clear hm_new
   refine h_last (by kernel_rfl) ?_
   refine h_done (by kernel_rfl) ?_
   refine r_seq ?_
   have hbV := hdb15; have hfam2 := stepR hfm hmn hfl hmw hR hm hod15 hbV (keys_drop (by omega)) (keys_drop_no hgn (by omega))
   have hG2x := foot_new hG1 (hfm.foot (prG ((gramsL (wordsT l)).getD k default))) (.inl hbV) (Nat.le_refl _)
   obtain ⟨M2, hm, hfm2, hmn2, hfl2⟩ := hfam2; have ho2 := hfm2.own (prG ((gramsL (wordsT l)).getD k default)); have hmw2 := hm.lt
   refine r_qregion (by kernel_rfl) (by kernel_rfl) ?_
   refine q_op rfl rfl rfl (fun w' hC => run_mv (v := (.pointer (some ⟨bx, 0, none⟩))) rfl (by exact rfl)) ?_
   refine q_op rfl rfl rfl (fun w' hC => run_nc rfl (by exact rfl)) ?_
   refine q_op rfl rfl rfl (fun w' hC => run_fa rfl (by exact rfl) fo_52_1) ?_
   refine q_op rfl rfl rfl (fun w' hC => run_ld1 rfl ag_49 (by exact rfl) ((hbx.evo0 hC).cell 1 (by exact rfl))) ?_
   refine q_op rfl rfl rfl (fun w' hC => run_ldN rfl ag_76 ty_76 (by exact rfl) rfl (hAb11.evo0 hC)) ?_
   refine q_op rfl rfl rfl (fun w' hC => run_lookup1 (a := (prG ((gramsL (wordsT l)).getD k default))) (z := nilV) (v := (atV M2 (prG ((gramsL (wordsT l)).getD k default)))) kgram rfl Tryz.underlying49 ty_77 (by exact rfl) (by exact rfl) (hm.evo0 hC) rfl) ?_
   refine q_op rfl rfl rfl (fun w' hC => run_lenOE rfl (by exact rfl) Tryz.underlying77 (ho2.evo0 hC)) ?_
   refine q_op rfl rfl rfl (fun w' hC => run_eql rfl (by exact rfl) (by exact rfl)) ?_
   refine q_nil (fun w17 hE18 => ?_)
   have hs_w17 := (hE18).size
   replace hV := evo_step0 hV hE18
   replace hI := evo_step0 hI hE18
   replace hAb1 := hAb10 _ hI
   replace hbx := hbx0 _ hI
   replace hgrr := hgrr0 _ hI
   replace hbb11 := hbb11.evo0 hE18
   replace hAb11 := hAb11.evo0 hE18
   replace hm := hm.evo0 hE18
   replace hfm2 := hfm2.evo hE18 (by simp)
   replace ho2 := ho2.evo0 hE18
   replace hfl2 := fun g hg => Nat.lt_of_lt_of_le (hfl2 g hg) (hE18).size
   refine r_cond (by exact rfl) (fun hc19 => ?_) (fun hc19 => ?_)
   ·skip
    have hz9 := hc19
    have hfm9 := hfm2; have hfl9 := hfl2; have hR2 : Evo w17 w17 [mg] := Evo.refl _ _
    have hbb11_q := hbb11
    have hAb11_q := hAb11
    have hm_q := hm
    have hV_q := hV
    have hI_q := hI
    have hR2_q := hR2
    refine h_region ([mg]) (by kernel_rfl) ?_
    intro w20 hE21 hCst11
    have hs_w20 := (hE21).size
    replace hV := evo_step0 hV hE21
    replace hI := evo_step0 hI hE21
    replace hR2 := evo_step0 hR2 hE21
    replace hAb1 := hAb10 _ hI
    replace hbx := hbx0 _ hI
    replace hgrr := hgrr0 _ hI
    replace hbb11 := hbb11.evo0 hE21
    replace hAb11 := hAb11.evo0 hE21
    replace hm := hm.evo0 hE21
    refine h_take (i := 0) (by exact rfl) rfl rfl rfl (by kernel_rfl) (fun w' hC => run_mv (v := (.pointer (some ⟨bx, 0, none⟩))) rfl (by exact rfl)) hCst11 ?_
    refine h_take (i := 1) (by exact rfl) rfl rfl rfl (by kernel_rfl) (fun w' hC => run_nc rfl (by exact rfl)) hCst11 ?_
    refine h_take (i := 2) (by exact rfl) rfl rfl rfl (by kernel_rfl) (fun w' hC => run_fa rfl (by exact rfl) fo_52_1) hCst11 ?_
    refine h_take (i := 3) (by exact rfl) rfl rfl rfl (by kernel_rfl) (fun w' hC => run_ld1 rfl ag_49 (by exact rfl) ((hbx0 _ (evo_steps hI_q hC (fun g hg => by simp at hg; subst hg; first | exact .inr (by simp) | exact .inr (mem_feet.2 (.inr (.inr (.inl rfl))))))).cell 1 (by exact rfl))) hCst11 ?_
    refine h_take (i := 4) (by exact rfl) rfl rfl rfl (by kernel_rfl) (fun w' hC => run_ldN rfl ag_76 ty_76 (by exact rfl) rfl (hAb11_q.evo hC (fun hm => by simp at hm; omega))) hCst11 ?_
    refine h_one (i := 5) (by kernel_rfl) ?_
    refine h_do (by exact rfl) ?_
    refine r_delM (a := (prG ((gramsL (wordsT l)).getD k default))) kgram Tryz.underlying49 (by exact rfl) (by exact rfl) hm ?_
    intro w22 hEw22 hzw22 hm_new
    have hs_w22 := (hEw22).size
    replace hV := evo_step1 hV hEw22 (.inr (mem_feet.2 (.inr (.inr (.inl rfl)))))
    replace hI := evo_step1 hI hEw22 (by first | exact .inl (by omega) | exact .inr (by simp))
    replace hR2 := evo_step1 hR2 hEw22 (by first | exact .inl (by omega) | exact .inr (by simp))
    replace hAb1 := hAb10 _ hI
    replace hbx := hbx0 _ hI
    replace hgrr := hgrr0 _ hI
    replace hm := hm_new
    clear hm_new
    refine h_last (by kernel_rfl) ?_
    refine h_done (by kernel_rfl) ?_
    refine r_blk ?_
    refine r_region ?_
    refine r_op rfl rfl rfl (run_add rfl (by exact rfl) (by exact rfl) (by omega) (by omega)) ?_
    refine r_op rfl rfl rfl (run_mv (v := .int _ _) rfl (by exact rfl)) ?_
    refine r_nil ?_
    refine r_again (k + 1) ?_ ?_ ?_
    ·first | omega | (dsimp only; omega)
    ·refine ⟨_, (by first | exact rfl | exact congrArg (Value.int _) (by omega) | exact congrArg (Value.int _) (by dsimp only; omega) | exact congrArg (Value.int _) (by simp) | exact congrArg S (by simp)), (by first | assumption | omega | (dsimp only; omega) | (simp; done)), (by first | exact stepD hfm9 hmn2 hfl9 hR2 hm (List.eq_nil_of_length_eq_zero (by omega)) | exact stepK hfm2 hmn2 hfl2 hm), hG2x, (by first | assumption | omega | (dsimp only; omega) | (simp; done)), hV, hI⟩
    ·repeat (first | (with_reducible exact Agree.merge _ _ _) | (with_reducible exact Agree.refl _ _) | (with_reducible refine Agree.upd ?_ _ _ rfl) | ((with_reducible refine Agree.inner ?_ ?_); (kernel_rfl)))
   ·skip
    refine r_skip ?_
    refine r_blk ?_
    refine r_region ?_
    refine r_op rfl rfl rfl (run_add rfl (by exact rfl) (by exact rfl) (by omega) (by omega)) ?_
    refine r_op rfl rfl rfl (run_mv (v := .int _ _) rfl (by exact rfl)) ?_
    refine r_nil ?_
    refine r_again (k + 1) ?_ ?_ ?_
    ·first | omega | (dsimp only; omega)
    ·refine ⟨_, (by first | exact rfl | exact congrArg (Value.int _) (by omega) | exact congrArg (Value.int _) (by dsimp only; omega) | exact congrArg (Value.int _) (by simp) | exact congrArg S (by simp)), (by first | assumption | omega | (dsimp only; omega) | (simp; done)), (by first | exact stepD hfm9 hmn2 hfl9 hR2 hm (List.eq_nil_of_length_eq_zero (by omega)) | exact stepK hfm2 hmn2 hfl2 hm), hG2x, (by first | assumption | omega | (dsimp only; omega) | (simp; done)), hV, hI⟩
    ·repeat (first | (with_reducible exact Agree.merge _ _ _) | (with_reducible exact Agree.refl _ _) | (with_reducible refine Agree.upd ?_ _ _ rfl) | ((with_reducible refine Agree.inner ?_ ?_); (kernel_rfl)))
  ·skip
   refine r_exit rfl ?_
   refine r_seq ?_
   refine r_seq ?_
   have e8 : ((gramsL (wordsT l)).drop k).map prG = [] := by rw [List.drop_of_length_le (by omega)]; rfl
   replace hfg := hfg.congr (P' := post gcN (without A id)) (fun y => by rw [e8]; exact mix_nil y)
   have hcm := hcm6.evo hI (hp.f31 cb hcF)
   have hbk9 := hbk6.evo hI hp.bx1; have hcl9 := hcl6.evo hI hp.mc1 hp.f21; have hlv9 := hlv6.evo hI hp.f31; have hlm9 := hlm6.evo hI hp.ml1; have hgr9 := hfg
   have hAb10 := fun w9 (h9 : Evo w5 w9 (mc :: F2)) => hAb1.evo h9 (hp.nw2 _ (by omega))
   have hI2 : Evo w5 w5 (mc :: F2) := Evo.refl _ _
   have hbx0 := fun w9 (h9 : Evo w5 w9 (mc :: F2)) => (hbk9.evo h9 hp.bx2).at; replace hbx := hbx0 _ hI2
   refine r_region ?_
   refine r_op rfl rfl rfl (run_fa rfl (by exact rfl) fo_64_1) ?_
   refine r_op rfl rfl rfl (run_ld1 rfl ag_60 (by exact rfl) (hAb1.cell 1 (by exact rfl))) ?_
   refine r_range rfl Tryz.underlying60 (by exact rfl) hcm ?_
   intro r23 w24 her23 hEw24 hir23 hzr23
   have hs_w24 := (hEw24).size
   replace hV := evo_step0 hV hEw24
   replace hI2 := evo_step0 hI2 hEw24
   replace hAb1 := hAb10 _ hI2
   replace hbx := hbx0 _ hI2
   replace hcm := hcm.evo0 hEw24
   refine r_nil ?_
   refine r_block ?_
   have hil := hir23.lt
   have hcmc : cb ≠ mc := fun e => (hp.out cb (.inr (.inr hcF))).2.2.2 e
   refine r_loop (α := List (Vc.Item × Int)) [10, 69, 70, 71, 72, 73, 74, 75, 76, 77, 78, 79, 80, 81, 82, 83, 84, 85, 86, 87, 88, 89, 90, 91, 92, 93, 94, 95, 96, 97, 98] (fun left g w => ∃ la : Option (Vc.Item × Int), ∃ G2 : List Nat, IterIs w r23 cb (fun x : Vc.Item => Value.agg (Enc.enc x).toArray) (Value.int .i64) M left la ∧ FamIs w mc ekT 79 (mix (left.map (·.1)) (post ccN A) (post ccN (without A id))) G2 ∧ (∀ g ∈ G2, g ∈ F2 ∨ w24.heap.size ≤ g) ∧ left.Sublist M ∧ w24.heap.size ≤ w.heap.size ∧ Evo w0 w (feet bx ml mg mc F1 F2 F3) ∧ Evo w5 w (mc :: F2)) (fun left => left.length) M ?_ ?_
   ·refine ⟨_, F2, hir23, ((hcl9.evo0 hEw24).congr (mix_all (fun y hy => (post_keep hids hAl (cnt_none hcq hy)).symm))), (fun g hg => .inl hg), (List.Sublist.refl _), (by first | assumption | omega | (dsimp only; omega) | (simp; done)), hV, hI2⟩
   ·rintro left g w26 ⟨la, G2, hir23, hfc, hG2, hls, hzl25, hV, hI2⟩
    have hs_w26hV := hV.size
    have hs_w26hI2 := hI2.size
    replace hbx := hbx0 _ hI2
    have hfs := hfc.flt
    refine r_seq ?_
    refine r_region ?_
    refine r_next rfl (by exact rfl) hir23 (fun hn27 => ?_) (fun l1_27 p27 l2_27 w27 hl27 hE27 hz27 hi_new => ?_)
    ·skip
     subst hn27
     refine r_op rfl rfl rfl (run_extract (v := .bool _) rfl (by exact rfl) (by exact rfl)) ?_
     refine r_nil ?_
     refine r_seq ?_
     refine r_cond_no (by exact rfl) ?_
     refine r_exit rfl ?_
     refine r_seq ?_
     refine r_region ?_
     refine r_op rfl rfl rfl (run_asg (v := .bool _) rfl (by exact rfl)) ?_
     refine r_nil ?_
     refine r_ret (res1 (v := .bool _) rfl (by exact rfl)) ?_
     have hfc9 := hfc.congr (P' := post ccN (without A id)) mix_nil
     have hfin := idx_del (id := id) (n1 := w3.heap.size) (n2 := w24.heap.size) hp (hbk9.evo hI2 hp.bx2) (hlm9.evo hI2 hp.ml2) (hlv9.evo hI2 hp.f32)
       (hgr9.evo hI2 hp.mg2 (fun g hg => (hG1 g hg).elim (hp.f12 g) (fun h => hp.nw2 g (by omega)))) hfc9 hG1 (fun g hg => Nat.lt_of_lt_of_le (hgr9.flt g hg) (by omega)) hG2 (by omega) (by omega) (by omega)
     exact ⟨_, rfl, hV, hfin.1, hfin.2⟩
    ·skip
     have hs_w27 := (hE27).size
     replace hV := evo_step1 hV hE27 (by first | exact .inl (by omega) | exact .inr (by simp))
     replace hI2 := evo_step1 hI2 hE27 (by first | exact .inl (by omega) | exact .inr (by simp))
     replace hbx := hbx0 _ hI2
     replace hfc := hfc.evo hE27 (by simp; omega) (fun g hg hm => by have h6 : g = r23 := (by simpa using hm); rcases hG2 _ hg with h7 | h7; (have h8 := hp.l2 _ h7; omega); omega)
     replace hir23 := hi_new
     clear hi_new
     refine r_op rfl rfl rfl (run_extract (v := .bool _) rfl (by exact rfl) (by exact rfl)) ?_
     refine r_nil ?_
     refine r_seq ?_
     refine r_cond_yes (by exact rfl) ?_
     refine r_skip ?_
     refine r_block ?_
     refine r_seq ?_
     refine r_region ?_
     refine r_op rfl rfl rfl (run_entryI rfl (by exact rfl) hir23) ?_
     refine r_op rfl rfl rfl (run_extract (v := .agg _) rfl (by exact rfl) (by exact rfl)) ?_
     refine r_var (zs := [_, _, _]) (vs := [_, _, _]) ty_43 (by exact rfl) rfl (by exact rfl) (fun _ => rfl) (by exact rfl) rfl rfl (by exact rfl) ?_
     intro b28 w29 heb28 hEw29 hbb28 hzb28
     have hs_w29 := (hEw29).size
     replace hV := evo_step0 hV hEw29
     replace hI2 := evo_step0 hI2 hEw29
     replace hbx := hbx0 _ hI2
     replace hfc := hfc.evo0 hEw29
     replace hir23 := hir23.evo0 hEw29
     have hAb28 := hbb28.at
     refine r_nil ?_
     refine r_seq ?_
     obtain ⟨M, hm, hfm, hmn, hfl⟩ := hfc; have ho := hfm.own p27.1; have hmw := hm.lt
     have hml : (mix (left.map (·.1)) (post ccN A) (post ccN (without A id)) p27.1).length ≤ A.length := (by rw [mix_at (by rw [hl27]; simp)]; exact post_len)
     have hR : Evo w29 w29 ([mc] ++ (atV M p27.1).ownBlock.toList) := Evo.refl _ _
     have hEI : ∀ g ∈ ([mc] ++ (atV M p27.1).ownBlock.toList), w5.heap.size ≤ g ∨ g ∈ mc :: F2 := fun g hg => (List.mem_append.1 hg).elim (fun h => .inr (List.mem_cons.2 (.inl (by simpa using h)))) (fun h => (hG2 g (hfm.foot _ g (Option.mem_toList.1 h))).elim (fun h2 => .inr (List.mem_cons_of_mem _ h2)) (fun h2 => .inl (by omega)))
     have hEV : ∀ g ∈ ([mc] ++ (atV M p27.1).ownBlock.toList), w0.heap.size ≤ g ∨ g ∈ (feet bx ml mg mc F1 F2 F3) := fun g hg => (hEI g hg).elim (fun h => .inl (by omega)) (fun h => .inr ((List.mem_cons.1 h).elim (fun h2 => (mem_feet.2 (.inr (.inr (.inr (.inl h2)))))) (fun h2 => (mem_feet.2 (.inr (.inr (.inr (.inr (.inr (.inl h2))))))))))
     have hbb28_q := hbb28
     have hAb28_q := hAb28
     have hm_q := hm
     have hV_q := hV
     have hI2_q := hI2
     have hR_q := hR
     refine h_region ((atV M p27.1).ownBlock.toList) (by kernel_rfl) ?_
     intro w30 hE31 hCst16
     have hs_w30 := (hE31).size
     replace hV := evo_step0 hV hE31
     replace hI2 := evo_step0 hI2 hE31
     replace hR := evo_step0 hR hE31
     replace hbx := hbx0 _ hI2
     replace hir23 := hir23.evo0 hE31
     replace hbb28 := hbb28.evo0 hE31
     replace hAb28 := hAb28.evo0 hE31
     replace hm := hm.evo0 hE31
     replace ho := ho.evo0 hE31
     refine h_take (i := 0) (by exact rfl) rfl rfl rfl (by kernel_rfl) (fun w' hC => run_mv (v := (.pointer (some ⟨bx, 0, none⟩))) rfl (by exact rfl)) hCst16 ?_
     refine h_take (i := 1) (by exact rfl) rfl rfl rfl (by kernel_rfl) (fun w' hC => run_nc rfl (by exact rfl)) hCst16 ?_
     refine h_take (i := 2) (by exact rfl) rfl rfl rfl (by kernel_rfl) (fun w' hC => run_fa rfl (by exact rfl) fo_52_2) hCst16 ?_
     refine h_take (i := 3) (by exact rfl) rfl rfl rfl (by kernel_rfl) (fun w' hC => run_ld1 rfl ag_50 (by exact rfl) ((hbx0 _ (evo_steps hI2_q hC (fun g hg => by first | exact hEI g (List.mem_append_right _ hg) | exact hEV g (List.mem_append_right _ hg)))).cell 2 (by exact rfl))) hCst16 ?_
     refine h_take (i := 4) (by exact rfl) rfl rfl rfl (by kernel_rfl) (fun w' hC => run_ldN rfl ag_43 ty_43 (by exact rfl) rfl (hAb28_q.evo hC (fun hm => by first | exact hmn (hfm.foot _ _ (Option.mem_toList.1 hm)) | (have h7 := hfs _ (hfm.foot _ _ (Option.mem_toList.1 hm)); omega)))) hCst16 ?_
     refine h_take (i := 5) (by exact rfl) rfl rfl rfl (by kernel_rfl) (fun w' hC => run_mv (v := (.pointer (some ⟨bx, 0, none⟩))) rfl (by exact rfl)) hCst16 ?_
     refine h_take (i := 6) (by exact rfl) rfl rfl rfl (by kernel_rfl) (fun w' hC => run_nc rfl (by exact rfl)) hCst16 ?_
     refine h_take (i := 7) (by exact rfl) rfl rfl rfl (by kernel_rfl) (fun w' hC => run_fa rfl (by exact rfl) fo_52_2) hCst16 ?_
     refine h_take (i := 8) (by exact rfl) rfl rfl rfl (by kernel_rfl) (fun w' hC => run_ld1 rfl ag_50 (by exact rfl) ((hbx0 _ (evo_steps hI2_q hC (fun g hg => by first | exact hEI g (List.mem_append_right _ hg) | exact hEV g (List.mem_append_right _ hg)))).cell 2 (by exact rfl))) hCst16 ?_
     refine h_take (i := 9) (by exact rfl) rfl rfl rfl (by kernel_rfl) (fun w' hC => run_ldN rfl ag_43 ty_43 (by exact rfl) rfl (hAb28_q.evo hC (fun hm => by first | exact hmn (hfm.foot _ _ (Option.mem_toList.1 hm)) | (have h7 := hfs _ (hfm.foot _ _ (Option.mem_toList.1 hm)); omega)))) hCst16 ?_
     refine h_take (i := 10) (by exact rfl) rfl rfl rfl (by kernel_rfl) (fun w' hC => run_lookup1 (a := p27.1) (z := nilV) (v := (atV M p27.1)) ktoki rfl Tryz.underlying50 ty_77 (by exact rfl) (by exact rfl) (hm_q.evo hC (fun hm => by first | exact hmn (hfm.foot _ _ (Option.mem_toList.1 hm)) | (have h7 := hfs _ (hfm.foot _ _ (Option.mem_toList.1 hm)); omega))) rfl) hCst16 ?_
     refine h_take (i := 11) (by exact rfl) rfl rfl rfl (by kernel_rfl) (fun w' hC => run_mv (v := .int _ _) rfl (by exact rfl)) hCst16 ?_
     refine h_one (i := 12) (by kernel_rfl) ?_
     refine h_do (by exact rfl) ?_
     refine r_opcall rfl rfl rfl (run_callf (vs := [(atV M p27.1), .int _ _]) rfl (by exact rfl) Tryz.func32 rfl (by kernel_rfl)) (without_calls ho) ?_
     rintro e w32 ⟨vd32, rfl, hE32, hod32, hdb32⟩
     refine ⟨_, rfl, ?_⟩
     have hs_w32 := (hE32).size
     replace hV := evo_stepo hV hE32 (fun g hg => (hEV g (List.mem_append_right _ (Option.mem_toList.2 hg))))
     replace hI2 := evo_stepo hI2 hE32 (fun g hg => (hEI g (List.mem_append_right _ (Option.mem_toList.2 hg))))
     replace hR := evo_stepo hR hE32 (fun g hg => .inr (List.mem_append_right _ (Option.mem_toList.2 hg)))
     replace hCst16 := evo_stepo hCst16 hE32 (fun g hg => .inr (Option.mem_toList.2 hg))
     replace hbx := hbx0 _ hI2
     replace hir23 := hir23.evo hE32 (by intro hm9; have h6 := hfm.foot _ _ (Option.mem_toList.1 hm9); rcases hG2 _ h6 with h7 | h7; (first | exact hp.d23 _ h7 hcF | (have h8 := hp.l2 _ h7; omega)); omega) (by intro hm9; have h6 := hfm.foot _ _ (Option.mem_toList.1 hm9); rcases hG2 _ h6 with h7 | h7; (first | exact hp.d23 _ h7 hcF | (have h8 := hp.l2 _ h7; omega)); omega)
     replace hbb28 := hbb28.evo hE32 (by intro hm; have h7 := hfs _ (hfm.foot _ _ (Option.mem_toList.1 hm)); omega)
     replace hAb28 := hAb28.evo hE32 (by intro hm; have h7 := hfs _ (hfm.foot _ _ (Option.mem_toList.1 hm)); omega)
     replace hm := hm.evo hE32 (by intro hm9; exact hmn (hfm.foot _ _ (Option.mem_toList.1 hm9)))
     refine h_next hCst16 ?_
     refine h_one (i := 13) (by kernel_rfl) ?_
     refine h_do (by exact rfl) ?_
     refine r_mapset (a := p27.1) (v := vd32) ktoki Tryz.underlying50 (by exact rfl) (by exact rfl) (by exact rfl) hm ?_
     intro w33 hEw33 hzw33 hm_new
     have hs_w33 := (hEw33).size
     replace hV := evo_step1 hV hEw33 (.inr (mem_feet.2 (.inr (.inr (.inr (.inl rfl))))))
     replace hI2 := evo_step1 hI2 hEw33 (by first | exact .inl (by omega) | exact .inr (by simp))
     replace hR := evo_step1 hR hEw33 (by first | exact .inl (by omega) | exact .inr (by simp))
     replace hbx := hbx0 _ hI2
     replace hir23 := hir23.evo hEw33 (by simp; omega) (by simp; omega)
     replace hbb28 := hbb28.evo hEw33 (by simp; omega)
     replace hAb28 := hAb28.evo hEw33 (by simp; omega)
     replace hod32 := hod32.evo hEw33 (by intro g hg hm; simp at hm; subst hm; exact hmn (hfm.foot _ _ (hdb32 ▸ hg)))
     replace hm := hm_new
     clear hm_new
     refine h_last (by kernel_rfl) ?_
     refine h_done (by kernel_rfl) ?_
     refine r_seq ?_
     rw [hl27] at hfm; have hox := hod32; rw [hl27] at hox
     replace hod32 := hox
     have hbV := hdb32; have hfam2 := stepR hfm hmn hfl hmw hR hm hod32 hbV keys_split (keys_split_no (by rw [← hl27]; exact hcn.sublist (hls.map _)))
     have hG2x := foot_new hG2 (hfm.foot p27.1) (.inl hbV) (Nat.le_refl _)
     obtain ⟨M2, hm, hfm2, hmn2, hfl2⟩ := hfam2; have ho2 := hfm2.own p27.1; have hmw2 := hm.lt
     refine r_qregion (by kernel_rfl) (by kernel_rfl) ?_
     refine q_op rfl rfl rfl (fun w' hC => run_mv (v := (.pointer (some ⟨bx, 0, none⟩))) rfl (by exact rfl)) ?_
     refine q_op rfl rfl rfl (fun w' hC => run_nc rfl (by exact rfl)) ?_
     refine q_op rfl rfl rfl (fun w' hC => run_fa rfl (by exact rfl) fo_52_2) ?_
     refine q_op rfl rfl rfl (fun w' hC => run_ld1 rfl ag_50 (by exact rfl) ((hbx.evo0 hC).cell 2 (by exact rfl))) ?_
     refine q_op rfl rfl rfl (fun w' hC => run_ldN rfl ag_43 ty_43 (by exact rfl) rfl (hAb28.evo0 hC)) ?_
     refine q_op rfl rfl rfl (fun w' hC => run_lookup1 (a := p27.1) (z := nilV) (v := (atV M2 p27.1)) ktoki rfl Tryz.underlying50 ty_77 (by exact rfl) (by exact rfl) (hm.evo0 hC) rfl) ?_
     refine q_op rfl rfl rfl (fun w' hC => run_lenOE rfl (by exact rfl) Tryz.underlying77 (ho2.evo0 hC)) ?_
     refine q_op rfl rfl rfl (fun w' hC => run_eql rfl (by exact rfl) (by exact rfl)) ?_
     refine q_nil (fun w34 hE35 => ?_)
     have hs_w34 := (hE35).size
     replace hV := evo_step0 hV hE35
     replace hI2 := evo_step0 hI2 hE35
     replace hbx := hbx0 _ hI2
     replace hir23 := hir23.evo0 hE35
     replace hbb28 := hbb28.evo0 hE35
     replace hAb28 := hAb28.evo0 hE35
     replace hm := hm.evo0 hE35
     replace hfm2 := hfm2.evo hE35 (by simp)
     replace ho2 := ho2.evo0 hE35
     replace hfl2 := fun g hg => Nat.lt_of_lt_of_le (hfl2 g hg) (hE35).size
     refine r_cond (by exact rfl) (fun hc36 => ?_) (fun hc36 => ?_)
     ·skip
      have hz9 := hc36
      have hfm9 := hfm2; have hfl9 := hfl2; have hR2 : Evo w34 w34 [mc] := Evo.refl _ _
      have hbb28_q := hbb28
      have hAb28_q := hAb28
      have hm_q := hm
      have hV_q := hV
      have hI2_q := hI2
      have hR2_q := hR2
      refine h_region ([mc]) (by kernel_rfl) ?_
      intro w37 hE38 hCst18
      have hs_w37 := (hE38).size
      replace hV := evo_step0 hV hE38
      replace hI2 := evo_step0 hI2 hE38
      replace hR2 := evo_step0 hR2 hE38
      replace hbx := hbx0 _ hI2
      replace hir23 := hir23.evo0 hE38
      replace hbb28 := hbb28.evo0 hE38
      replace hAb28 := hAb28.evo0 hE38
      replace hm := hm.evo0 hE38
      refine h_take (i := 0) (by exact rfl) rfl rfl rfl (by kernel_rfl) (fun w' hC => run_mv (v := (.pointer (some ⟨bx, 0, none⟩))) rfl (by exact rfl)) hCst18 ?_
      refine h_take (i := 1) (by exact rfl) rfl rfl rfl (by kernel_rfl) (fun w' hC => run_nc rfl (by exact rfl)) hCst18 ?_
      refine h_take (i := 2) (by exact rfl) rfl rfl rfl (by kernel_rfl) (fun w' hC => run_fa rfl (by exact rfl) fo_52_2) hCst18 ?_
      refine h_take (i := 3) (by exact rfl) rfl rfl rfl (by kernel_rfl) (fun w' hC => run_ld1 rfl ag_50 (by exact rfl) ((hbx0 _ (evo_steps hI2_q hC (fun g hg => by simp at hg; subst hg; first | exact .inr (by simp) | exact .inr (mem_feet.2 (.inr (.inr (.inr (.inl rfl)))))))).cell 2 (by exact rfl))) hCst18 ?_
      refine h_take (i := 4) (by exact rfl) rfl rfl rfl (by kernel_rfl) (fun w' hC => run_ldN rfl ag_43 ty_43 (by exact rfl) rfl (hAb28_q.evo hC (fun hm => by simp at hm; omega))) hCst18 ?_
      refine h_one (i := 5) (by kernel_rfl) ?_
      refine h_do (by exact rfl) ?_
      refine r_delM (a := p27.1) ktoki Tryz.underlying50 (by exact rfl) (by exact rfl) hm ?_
      intro w39 hEw39 hzw39 hm_new
      have hs_w39 := (hEw39).size
      replace hV := evo_step1 hV hEw39 (.inr (mem_feet.2 (.inr (.inr (.inr (.inl rfl))))))
      replace hI2 := evo_step1 hI2 hEw39 (by first | exact .inl (by omega) | exact .inr (by simp))
      replace hR2 := evo_step1 hR2 hEw39 (by first | exact .inl (by omega) | exact .inr (by simp))
      replace hbx := hbx0 _ hI2
      replace hir23 := hir23.evo hEw39 (by simp; omega) (by simp; omega)
      replace hm := hm_new
      clear hm_new
      refine h_last (by kernel_rfl) ?_
      refine h_done (by kernel_rfl) ?_
      refine r_blk ?_
      refine r_again (l1_27 ++ l2_27) ?_ ?_ ?_
      ·rw [hl27]; simp
      ·refine ⟨_, _, hir23, (by first | exact stepD hfm9 hmn2 hfl9 hR2 hm (List.eq_nil_of_length_eq_zero (by omega)) | exact stepK hfm2 hmn2 hfl2 hm), hG2x, (List.Sublist.trans ((List.Sublist.refl l1_27).append (List.sublist_cons_self p27 l2_27)) (by rw [← hl27]; exact hls)), (by first | assumption | omega | (dsimp only; omega) | (simp; done)), hV, hI2⟩
      ·repeat (first | (with_reducible exact Agree.merge _ _ _) | (with_reducible exact Agree.refl _ _) | (with_reducible refine Agree.upd ?_ _ _ rfl) | ((with_reducible refine Agree.inner ?_ ?_); (kernel_rfl)))
     ·skip
      refine r_skip ?_
      refine r_blk ?_
      refine r_again (l1_27 ++ l2_27) ?_ ?_ ?_
      ·rw [hl27]; simp
      ·refine ⟨_, _, hir23, (by first | exact stepD hfm9 hmn2 hfl9 hR2 hm (List.eq_nil_of_length_eq_zero (by omega)) | exact stepK hfm2 hmn2 hfl2 hm), hG2x, (List.Sublist.trans ((List.Sublist.refl l1_27).append (List.sublist_cons_self p27 l2_27)) (by rw [← hl27]; exact hls)), (by first | assumption | omega | (dsimp only; omega) | (simp; done)), hV, hI2⟩
      ·repeat (first | (with_reducible exact Agree.merge _ _ _) | (with_reducible exact Agree.refl _ _) | (with_reducible refine Agree.upd ?_ _ _ rfl) | ((with_reducible refine Agree.inner ?_ ?_); (kernel_rfl)))
theorem ixrem_calls {bx : Nat} {A : Stored} {F : List Nat} {id : Int} {w0 : World} (hx : Idx w0 bx A F) : Calls Tryz.prog 19 #[.pointer (some ⟨bx, 0, none⟩), .int .i64 id] w0 fun e w' => ∃ F', e = .returned (.bool (decide (id ∈ A.map (·.1)))) ∧ Evo w0 w' F ∧ Idx w' bx (without A id) F' ∧ (∀ g ∈ F', g ∈ F ∨ w0.heap.size ≤ g) := by
  by_cases hid : id ∈ A.map (·.1)
  · rw [decide_eq_true hid]; exact ixrem1_calls hx hid
  · rw [decide_eq_false hid]; exact ixrem0_calls hx hid
end Go.Proofs.YthbcklajlmcifaaGreat
namespace Go.Proofs.YthbcklajlmcifaaGreat
open Go.RowKit Go.Vc
theorem ag_62 : aggP Tryz.prog 62 = some true := by kernel_rfl
theorem fo_79_1 : fieldP Tryz.prog 79 1 = some 1 := by kernel_rfl
theorem ty_62 : tyP Tryz.prog 62 = some (3, 24, some (.agg #[(.int .i64 0), (.int .i64 0), (.int .i64 0)])) := by kernel_rfl
set_option maxHeartbeats 2000000 in
theorem ixshared_calls {bx : Nat} {A : Stored} {F : List Nat} {ga : Option Addr} {gc cb : Nat} {l : List Vc.Item} {M : List (Vc.Item × Int)} {w0 : World} (hx : Idx w0 bx A F) (hog : OwnE w0 0 74 (.slice ga (gramsL (wordsT l)).length gc) (gramsL (wordsT l))) (hcm : MapIs w0 cb (fun x : Vc.Item => Value.agg (Enc.enc x).toArray) (Value.int .i64) M) (hcq : ∀ x, getM M x = cntO (clsL l) x) (hs : l.length ≤ 1000000) :
    Calls Tryz.prog 21 #[.pointer (some ⟨bx, 0, none⟩), (evL ⟨ga, (gramsL (wordsT l)).length, gc, some cb, smL l, totT l⟩)] w0 fun e w' => ∃ bo mo, e = .returned (.map (some bo)) ∧ Evo w0 w' [] ∧ MapIs w' bo ekN evS mo ∧ w0.heap.size ≤ bo ∧ ∀ q ∈ A, vS mo q.1 = cmL l q.2 := by
 obtain ⟨ml, mg, mc, L, F1, F2, F3, hp, rfl⟩ := hx
 have hbx := fun w9 (h9 : Evo w0 w9 []) => (hp.evo h9 (by simp)).blk.at
 obtain ⟨MG, hmG0, hfG, _, _⟩ := hp.grams
 obtain ⟨MC, hmC0, hfC, _, _⟩ := hp.classes
 have hmG := fun w9 (h9 : Evo w0 w9 []) => hmG0.evo0 h9
 have hmC := fun w9 (h9 : Evo w0 w9 []) => hmC0.evo0 h9
 have hcml := hcm.lt; have hcn := hcm.nodup; have hcd := cD_len hcq hcn
 have hcm0 := hcm; replace hcm := fun w9 (h9 : Evo w0 w9 []) => hcm0.evo0 h9
 have hids := hp.lists.nodup
 rw [hp.lvs.1] at hids
 obtain ⟨_, gb, hgr, _⟩ := hog.row_of
 have hgl := gramsL_len (wordsT l); have hwl := wordsT_len l
 refine calls_enter (n := 108) (args := [.pointer (some ⟨bx, 0, none⟩), (evL ⟨ga, (gramsL (wordsT l)).length, gc, some cb, smL l, totT l⟩)]) Tryz.func21 rfl Tryz.ntmps21 rfl ?_
 have hV : Evo w0 w0 [] := Evo.refl _ _
 have hbx0 := hbx
 replace hbx := hbx0 _ hV
 have hmG0 := hmG
 replace hmG := hmG0 _ hV
 have hmC0 := hmC
 replace hmC := hmC0 _ hV
 have hcm0 := hcm
 replace hcm := hcm0 _ hV
 have hgr0 := keepE hgr
 refine r_seq ?_
 refine r_region ?_
 refine r_box (vs := [_, _, _, _, _, _]) (by exact rfl) (by exact rfl) rfl ?_
 intro b1 w2 heb1 hEw2 hbb1 hzb1
 have hs_w2 := (hEw2).size
 replace hV := evo_step0 hV hEw2
 replace hbx := hbx0 _ hV
 replace hmG := hmG0 _ hV
 replace hmC := hmC0 _ hV
 replace hcm := hcm0 _ hV
 replace hgr := hgr0 _ hV
 have hAb1 := hbb1.at
 refine r_op rfl rfl rfl (run_asg (v := .map _) rfl (by exact rfl)) ?_
 refine r_nil ?_
 refine r_seq ?_
 refine r_region ?_
 refine r_makeMap (α := Int) (β := Sum3) (Value.int .i64) evS rfl ?_
 intro b3 w4 heb3 hEw4 hmb3 hzb3
 have hs_w4 := (hEw4).size
 replace hV := evo_step0 hV hEw4
 replace hbx := hbx0 _ hV
 replace hmG := hmG0 _ hV
 replace hmC := hmC0 _ hV
 replace hcm := hcm0 _ hV
 replace hgr := hgr0 _ hV
 replace hbb1 := hbb1.evo0 hEw4
 replace hAb1 := hAb1.evo0 hEw4
 refine r_op rfl rfl rfl (run_asg (v := .map _) rfl (by exact rfl)) ?_
 refine r_nil ?_
 refine r_seq ?_
 refine r_seq ?_
 refine r_region ?_
 refine r_op rfl rfl rfl (run_fa rfl (by exact rfl) fo_64_0) ?_
 refine r_op rfl rfl rfl (run_ld1 rfl ag_59 (by exact rfl) (hAb1.cell 0 (by exact rfl))) ?_
 refine r_knowL (i := 18) (v := (.slice ga (gramsL (wordsT l)).length gc)) rfl ?_
 refine r_op rfl rfl rfl (run_lenSl rfl (by exact rfl) Tryz.underlying59) ?_
 refine r_op rfl rfl rfl (run_mv (v := .int _ _) rfl (by exact rfl)) ?_
 refine r_nil ?_
 refine r_block ?_
 refine r_loop (α := Nat) [7, 9, 10, 20, 21, 22, 23, 24, 25, 26, 27, 28, 29, 30, 31, 32, 33, 34, 35, 36, 37, 38, 39, 40, 41, 42, 43, 44, 45, 46, 47, 48, 49, 50, 51, 52, 53, 54, 55, 56, 57] (fun k g w => ∃ m : List (Int × Sum3), g 20 = .int .i64 (k : Nat) ∧ k ≤ (gramsL (wordsT l)).length ∧ MapIs w b3 ekN evS m ∧ (∀ q ∈ A, vS m q.1 = ⟨cpK l q.2 k, 0, 0⟩) ∧ Blk w b1 64 [.slice ga (gramsL (wordsT l)).length gc, .map (some cb), .int .i64 (smL l).p, .int .i64 (smL l).w, .int .i64 (smL l).t, .int .i64 (totT l)] ∧ At w b1 0 [.slice ga (gramsL (wordsT l)).length gc, .map (some cb), .int .i64 (smL l).p, .int .i64 (smL l).w, .int .i64 (smL l).t, .int .i64 (totT l)] ∧ w4.heap.size ≤ w.heap.size ∧ Evo w0 w []) (fun k => (gramsL (wordsT l)).length - k) 0 ?_ ?_
 ·refine ⟨[], (by first | exact rfl | exact congrArg (Value.int _) (by omega) | exact congrArg (Value.int _) (by dsimp only; omega) | exact congrArg (Value.int _) (by simp) | exact congrArg S (by simp)), (by first | assumption | omega | (dsimp only; omega) | (simp; done)), hmb3, (fun q hq => rfl), hbb1, hAb1, (by first | assumption | omega | (dsimp only; omega) | (simp; done)), hV⟩
 ·rintro k g w6 ⟨m, hj7, hk_k, hmb3, hout, hbb1, hAb1, hzl5, hV⟩
  have hs_w6hV := hV.size
  have hlt8 := hmb3.lt
  have hlt9 := hbb1.lt
  replace hbx := hbx0 _ hV
  replace hmG := hmG0 _ hV
  replace hmC := hmC0 _ hV
  replace hcm := hcm0 _ hV
  replace hgr := hgr0 _ hV
  refine r_know (i := 20) (v := .int .i64 (k : Nat)) (by exact hj7) ?_
  refine r_seq ?_
  refine r_region ?_
  refine r_op rfl rfl rfl (run_lss rfl (by exact rfl) (by exact rfl)) ?_
  refine r_nil ?_
  refine r_seq ?_
  refine r_cond (by exact rfl) (fun hc10 => ?_) (fun hc10 => ?_)
  ·skip
   refine r_skip ?_
   refine r_seq ?_
   refine r_block ?_
   refine r_seq ?_
   refine r_region ?_
   refine r_op rfl rfl rfl (run_ix (k) rfl Tryz.underlying59 ty_74 (by exact rfl) (by exact rfl) (by first | exact rfl | omega) (by omega) (hgr.addr (i := k) (by omega))) ?_
   have hA110 := fun (w' : World) (h : Evo w0 w' []) => (hgr0 w' h).atD (k) (by omega)
   have hA11 := hA110 _ hV
   refine r_op rfl rfl rfl (run_ldN rfl ag_74 ty_74 (by exact rfl) rfl hA11) ?_
   refine r_var (zs := [_, _, _]) (vs := [_, _, _]) ty_74 (by exact rfl) rfl (by exact rfl) (fun _ => rfl) (by exact rfl) rfl rfl (by exact rfl) ?_
   intro b12 w13 heb12 hEw13 hbb12 hzb12
   have hs_w13 := (hEw13).size
   replace hV := evo_step0 hV hEw13
   replace hbx := hbx0 _ hV
   replace hmG := hmG0 _ hV
   replace hmC := hmC0 _ hV
   replace hcm := hcm0 _ hV
   replace hgr := hgr0 _ hV
   replace hmb3 := hmb3.evo0 hEw13
   replace hbb1 := hbb1.evo0 hEw13
   replace hAb1 := hAb1.evo0 hEw13
   have hAb12 := hbb12.at
   refine r_nil ?_
   refine r_seq ?_
   obtain ⟨aoP, gP, cpP, hvP, hrP, hgP⟩ := (hfG.own (prG ((gramsL (wordsT l)).getD k default))).rowOf
   have hrP0 := keepE hrP; replace hrP := hrP0 _ hV
   have hpl := post_len (f := gcN) (A := A) (k := (prG ((gramsL (wordsT l)).getD k default)))
   have hbd9 := hrP.bd
   have hgc := gram_cbd (l := l) (k := k) (by omega)
   refine r_qregion (by kernel_rfl) (by kernel_rfl) ?_
   refine q_op rfl rfl rfl (fun w' hC => run_mv (v := (.pointer (some ⟨bx, 0, none⟩))) rfl (by exact rfl)) ?_
   refine q_op rfl rfl rfl (fun w' hC => run_nc rfl (by exact rfl)) ?_
   refine q_op rfl rfl rfl (fun w' hC => run_fa rfl (by exact rfl) fo_52_1) ?_
   refine q_op rfl rfl rfl (fun w' hC => run_ld1 rfl ag_49 (by exact rfl) ((hbx.evo0 hC).cell 1 (by exact rfl))) ?_
   refine q_op rfl rfl rfl (fun w' hC => run_fa rfl (by exact rfl) fo_74_0) ?_
   refine q_op rfl rfl rfl (fun w' hC => run_ld1 rfl ag_9 (by exact rfl) ((hAb12.evo0 hC).cell 0 (by exact rfl))) ?_
   refine q_op rfl rfl rfl (fun w' hC => run_fa rfl (by exact rfl) fo_74_1) ?_
   refine q_op rfl rfl rfl (fun w' hC => run_ld1 rfl ag_9 (by exact rfl) ((hAb12.evo0 hC).cell 1 (by exact rfl))) ?_
   refine q_op rfl rfl rfl (fun w' hC => run_bld (pv := [(0, S _), (1, S _)]) (zs := [_, _]) (cells := [_, _]) rfl ty_76 (by exact rfl) pl_76 (by exact rfl) (by exact rfl)) ?_
   refine q_op rfl rfl rfl (fun w' hC => run_lookup1 (a := (prG ((gramsL (wordsT l)).getD k default))) (z := nilV) (v := (.slice aoP (post gcN A (prG ((gramsL (wordsT l)).getD k default))).length cpP)) kgram rfl Tryz.underlying49 ty_77 (by exact rfl) (by exact rfl) (hmG.evo0 hC) hvP) ?_
   refine q_op rfl rfl rfl (fun w' hC => run_lenSl rfl (by exact rfl) Tryz.underlying77) ?_
   refine q_op rfl rfl rfl (fun w' hC => run_mv (v := .int _ _) rfl (by exact rfl)) ?_
   refine q_nil (fun w14 hE15 => ?_)
   have hs_w14 := (hE15).size
   replace hV := evo_step0 hV hE15
   replace hbx := hbx0 _ hV
   replace hmG := hmG0 _ hV
   replace hmC := hmC0 _ hV
   replace hcm := hcm0 _ hV
   replace hgr := hgr0 _ hV
   replace hmb3 := hmb3.evo0 hE15
   replace hbb1 := hbb1.evo0 hE15
   replace hAb1 := hAb1.evo0 hE15
   replace hbb12 := hbb12.evo0 hE15
   replace hAb12 := hAb12.evo0 hE15
   replace hrP := hrP0 _ hV
   refine r_block ?_
   refine r_loop (α := Nat) [9, 10, 35, 36, 37, 38, 39, 40, 41, 42, 43, 44, 45, 46, 47, 48, 49, 50, 51, 52, 53, 54, 55, 56] (fun j g w => ∃ m2 : List (Int × Sum3), g 35 = .int .i64 (j : Nat) ∧ j ≤ (post gcN A (prG ((gramsL (wordsT l)).getD k default))).length ∧ MapIs w b3 ekN evS m2 ∧ InnS gcN A (prG ((gramsL (wordsT l)).getD k default)) (fun b => ⟨cpK l b k, 0, 0⟩) upP (fun h => min h ((gramsL (wordsT l)).getD k default).count) j m2 ∧ Blk w b12 74 (Enc.enc ((gramsL (wordsT l)).getD k default)) ∧ At w b12 0 (Enc.enc ((gramsL (wordsT l)).getD k default)) ∧ Blk w b1 64 [.slice ga (gramsL (wordsT l)).length gc, .map (some cb), .int .i64 (smL l).p, .int .i64 (smL l).w, .int .i64 (smL l).t, .int .i64 (totT l)] ∧ At w b1 0 [.slice ga (gramsL (wordsT l)).length gc, .map (some cb), .int .i64 (smL l).p, .int .i64 (smL l).w, .int .i64 (smL l).t, .int .i64 (totT l)] ∧ w14.heap.size ≤ w.heap.size ∧ Evo w0 w []) (fun j => (post gcN A (prG ((gramsL (wordsT l)).getD k default))).length - j) 0 ?_ ?_
   ·refine ⟨_, (by first | exact rfl | exact congrArg (Value.int _) (by omega) | exact congrArg (Value.int _) (by dsimp only; omega) | exact congrArg (Value.int _) (by simp) | exact congrArg S (by simp)), (by first | assumption | omega | (dsimp only; omega) | (simp; done)), hmb3, (InnS.start hout), hbb12, hAb12, hbb1, hAb1, (by first | assumption | omega | (dsimp only; omega) | (simp; done)), hV⟩
   ·rintro j g w17 ⟨m2, hj18, hk_j, hmb3, hin, hbb12, hAb12, hbb1, hAb1, hzl16, hV⟩
    have hs_w17hV := hV.size
    have hlt19 := hmb3.lt
    have hlt20 := hbb12.lt
    have hlt21 := hbb1.lt
    replace hbx := hbx0 _ hV
    replace hmG := hmG0 _ hV
    replace hmC := hmC0 _ hV
    replace hcm := hcm0 _ hV
    replace hgr := hgr0 _ hV
    replace hA11 := hA110 _ hV
    replace hrP := hrP0 _ hV
    refine r_know (i := 35) (v := .int .i64 (j : Nat)) (by exact hj18) ?_
    refine r_seq ?_
    refine r_region ?_
    refine r_op rfl rfl rfl (run_lss rfl (by exact rfl) (by exact rfl)) ?_
    refine r_nil ?_
    refine r_seq ?_
    refine r_cond (by exact rfl) (fun hc22 => ?_) (fun hc22 => ?_)
    ·skip
     refine r_skip ?_
     refine r_seq ?_
     refine r_block ?_
     refine r_seq ?_
     refine r_region ?_
     refine r_op rfl rfl rfl (run_ix (j) rfl Tryz.underlying77 ty_79 (by exact rfl) (by exact rfl) (by first | exact rfl | omega) (by omega) (hrP.addr (i := j) (by omega))) ?_
     have hA230 := fun (w' : World) (h : Evo w0 w' []) => (hrP0 w' h).atD (j) (by omega)
     have hA23 := hA230 _ hV
     refine r_op rfl rfl rfl (run_ldN rfl ag_79 ty_79 (by exact rfl) rfl hA23) ?_
     refine r_var (zs := [_, _]) (vs := [_, _]) ty_79 (by exact rfl) rfl (by exact rfl) (fun _ => rfl) (by exact rfl) rfl rfl (by exact rfl) ?_
     intro b24 w25 heb24 hEw25 hbb24 hzb24
     have hs_w25 := (hEw25).size
     replace hV := evo_step0 hV hEw25
     replace hbx := hbx0 _ hV
     replace hmG := hmG0 _ hV
     replace hmC := hmC0 _ hV
     replace hcm := hcm0 _ hV
     replace hgr := hgr0 _ hV
     replace hrP := hrP0 _ hV
     replace hmb3 := hmb3.evo0 hEw25
     replace hbb12 := hbb12.evo0 hEw25
     replace hAb12 := hAb12.evo0 hEw25
     replace hbb1 := hbb1.evo0 hEw25
     replace hAb1 := hAb1.evo0 hEw25
     have hAb24 := hbb24.at
     refine r_nil ?_
     refine r_seq ?_
     refine r_region ?_
     refine r_op rfl rfl rfl (run_mv (v := .map _) rfl (by exact rfl)) ?_
     refine r_op rfl rfl rfl (run_fa rfl (by exact rfl) fo_79_0) ?_
     refine r_op rfl rfl rfl (run_ld1 rfl ag_3 (by exact rfl) (hAb24.cell 0 (by exact rfl))) ?_
     refine r_op rfl rfl rfl (run_lookup1 (a := _) (z := (⟨0, 0, 0⟩ : Sum3)) (v := .agg _) (key_int Tryz.underlying3) rfl Tryz.underlying66 ty_62 (by exact rfl) (by exact rfl) hmb3 rfl) ?_
     refine r_var (zs := [_, _, _]) (vs := [_, _, _]) ty_62 (by exact rfl) rfl (by exact rfl) (fun _ => rfl) (by exact rfl) rfl rfl (by exact rfl) ?_
     intro b26 w27 heb26 hEw27 hbb26 hzb26
     have hs_w27 := (hEw27).size
     replace hV := evo_step0 hV hEw27
     replace hbx := hbx0 _ hV
     replace hmG := hmG0 _ hV
     replace hmC := hmC0 _ hV
     replace hcm := hcm0 _ hV
     replace hgr := hgr0 _ hV
     replace hrP := hrP0 _ hV
     replace hmb3 := hmb3.evo0 hEw27
     replace hbb12 := hbb12.evo0 hEw27
     replace hAb12 := hAb12.evo0 hEw27
     replace hbb1 := hbb1.evo0 hEw27
     replace hAb1 := hAb1.evo0 hEw27
     replace hbb24 := hbb24.evo0 hEw27
     replace hAb24 := hAb24.evo0 hEw27
     have hAb26 := hbb26.at
     refine r_nil ?_
     refine r_seq ?_
     obtain ⟨q9, hq9, e91, e92, e93⟩ := hin.val hids (by omega); have e94 : ((getM m2 ((post gcN A (prG ((gramsL (wordsT l)).getD k default))).getD j default).lo).getD ⟨0, 0, 0⟩).p = cpK l q9.2 k := congrArg Sum3.p e93; have e95 := cpK_bd l q9.2 k
     refine r_region ?_
     refine r_op rfl rfl rfl (run_fa rfl (by exact rfl) fo_62_0) ?_
     refine r_op rfl rfl rfl (run_ld1 rfl ag_3 (by exact rfl) (hAb26.cell 0 (by exact rfl))) ?_
     refine r_op rfl rfl rfl (run_fa rfl (by exact rfl) fo_79_1) ?_
     refine r_op rfl rfl rfl (run_ld1 rfl ag_3 (by exact rfl) (hAb24.cell 1 (by exact rfl))) ?_
     refine r_op rfl rfl rfl (run_fa rfl (by exact rfl) fo_74_2) ?_
     refine r_op rfl rfl rfl (run_ld1 rfl ag_3 (by exact rfl) (hAb12.cell 2 (by exact rfl))) ?_
     refine r_op rfl rfl rfl (run_min rfl (by exact rfl) (by exact rfl)) ?_
     refine r_op rfl rfl rfl (run_add rfl (by exact rfl) (by exact rfl) (by omega) (by omega)) ?_
     refine r_op rfl rfl rfl (run_fa rfl (by exact rfl) fo_62_0) ?_
     refine r_store (v := .int _ _) (vs := [_]) (cs' := [_, _, _]) (by exact rfl) (by exact rfl) hbb26 ty_3 (by exact rfl) rfl (by exact rfl) rfl (by exact rfl) ?_
     intro w28 hEw28 hzw28 hb_new
     have hs_w28 := (hEw28).size
     replace hV := evo_step1 hV hEw28 (by first | exact .inl (by omega) | exact .inr (by simp))
     replace hbx := hbx0 _ hV
     replace hmG := hmG0 _ hV
     replace hmC := hmC0 _ hV
     replace hcm := hcm0 _ hV
     replace hgr := hgr0 _ hV
     replace hrP := hrP0 _ hV
     replace hmb3 := hmb3.evo hEw28 (by simp; omega)
     replace hbb12 := hbb12.evo hEw28 (by simp; omega)
     replace hAb12 := hAb12.evo hEw28 (by simp; omega)
     replace hbb1 := hbb1.evo hEw28 (by simp; omega)
     replace hAb1 := hAb1.evo hEw28 (by simp; omega)
     replace hbb24 := hbb24.evo hEw28 (by simp; omega)
     replace hAb24 := hAb24.evo hEw28 (by simp; omega)
     replace hbb26 := hb_new
     have hAb26 := hbb26.at
     clear hb_new
     refine r_nil ?_
     refine r_region ?_
     refine r_op rfl rfl rfl (run_mv (v := .map _) rfl (by exact rfl)) ?_
     refine r_op rfl rfl rfl (run_fa rfl (by exact rfl) fo_79_0) ?_
     refine r_op rfl rfl rfl (run_ld1 rfl ag_3 (by exact rfl) (hAb24.cell 0 (by exact rfl))) ?_
     refine r_op rfl rfl rfl (run_ldN rfl ag_62 ty_62 (by exact rfl) rfl hAb26) ?_
     refine r_mapset (a := ((post gcN A (prG ((gramsL (wordsT l)).getD k default))).getD j default).lo) (v := (upP (vS m2 ((post gcN A (prG ((gramsL (wordsT l)).getD k default))).getD j default).lo) (min ((post gcN A (prG ((gramsL (wordsT l)).getD k default))).getD j default).hi ((gramsL (wordsT l)).getD k default).count))) (key_int Tryz.underlying3) Tryz.underlying66 (by exact rfl) (by exact rfl) (by exact rfl) hmb3 ?_
     intro w29 hEw29 hzw29 hm_new
     have hs_w29 := (hEw29).size
     replace hV := evo_step1 hV hEw29 (by first | exact .inl (by omega) | exact .inr (by simp))
     replace hbx := hbx0 _ hV
     replace hmG := hmG0 _ hV
     replace hmC := hmC0 _ hV
     replace hcm := hcm0 _ hV
     replace hgr := hgr0 _ hV
     replace hrP := hrP0 _ hV
     replace hbb12 := hbb12.evo hEw29 (by simp; omega)
     replace hAb12 := hAb12.evo hEw29 (by simp; omega)
     replace hbb1 := hbb1.evo hEw29 (by simp; omega)
     replace hAb1 := hAb1.evo hEw29 (by simp; omega)
     replace hmb3 := hm_new
     clear hm_new
     refine r_nil ?_
     refine r_blk ?_
     refine r_region ?_
     refine r_op rfl rfl rfl (run_add rfl (by exact rfl) (by exact rfl) (by omega) (by omega)) ?_
     refine r_op rfl rfl rfl (run_mv (v := .int _ _) rfl (by exact rfl)) ?_
     refine r_nil ?_
     refine r_again (j + 1) ?_ ?_ ?_
     ·first | omega | (dsimp only; omega)
     ·refine ⟨_, (by first | exact rfl | exact congrArg (Value.int _) (by omega) | exact congrArg (Value.int _) (by dsimp only; omega) | exact congrArg (Value.int _) (by simp) | exact congrArg S (by simp)), (by first | assumption | omega | (dsimp only; omega) | (simp; done)), hmb3, (hin.step hids (by omega)), hbb12, hAb12, hbb1, hAb1, (by first | assumption | omega | (dsimp only; omega) | (simp; done)), hV⟩
     ·repeat (first | (with_reducible exact Agree.merge _ _ _) | (with_reducible exact Agree.refl _ _) | (with_reducible refine Agree.upd ?_ _ _ rfl) | ((with_reducible refine Agree.inner ?_ ?_); (kernel_rfl)))
    ·skip
     refine r_exit rfl ?_
     refine r_blk ?_
     refine r_region ?_
     refine r_op rfl rfl rfl (run_add rfl (by exact rfl) (by exact rfl) (by omega) (by omega)) ?_
     refine r_op rfl rfl rfl (run_mv (v := .int _ _) rfl (by exact rfl)) ?_
     refine r_nil ?_
     refine r_again (k + 1) ?_ ?_ ?_
     ·first | omega | (dsimp only; omega)
     ·refine ⟨_, (by first | exact rfl | exact congrArg (Value.int _) (by omega) | exact congrArg (Value.int _) (by dsimp only; omega) | exact congrArg (Value.int _) (by simp) | exact congrArg S (by simp)), (by first | assumption | omega | (dsimp only; omega) | (simp; done)), hmb3, (out_pair (by omega) (hin.done hids (by omega) (upP_zero hgc.1))), hbb1, hAb1, (by first | assumption | omega | (dsimp only; omega) | (simp; done)), hV⟩
     ·repeat (first | (with_reducible exact Agree.merge _ _ _) | (with_reducible exact Agree.refl _ _) | (with_reducible refine Agree.upd ?_ _ _ rfl) | ((with_reducible refine Agree.inner ?_ ?_); (kernel_rfl)))
  ·skip
   refine r_exit rfl ?_
   refine r_seq ?_
   refine r_seq ?_
   refine r_region ?_
   refine r_op rfl rfl rfl (run_fa rfl (by exact rfl) fo_64_1) ?_
   refine r_op rfl rfl rfl (run_ld1 rfl ag_60 (by exact rfl) (hAb1.cell 1 (by exact rfl))) ?_
   refine r_range rfl Tryz.underlying60 (by exact rfl) hcm ?_
   intro r30 w31 her30 hEw31 hir30 hzr30
   have hs_w31 := (hEw31).size
   replace hV := evo_step0 hV hEw31
   replace hbx := hbx0 _ hV
   replace hmG := hmG0 _ hV
   replace hmC := hmC0 _ hV
   replace hcm := hcm0 _ hV
   replace hgr := hgr0 _ hV
   replace hmb3 := hmb3.evo0 hEw31
   replace hbb1 := hbb1.evo0 hEw31
   replace hAb1 := hAb1.evo0 hEw31
   refine r_nil ?_
   refine r_block ?_
   have hil := hir30.lt; have houtA : ∀ q ∈ A, vS m q.1 = ⟨cpN l q.2, 0, 0⟩ := fun q hq => by rw [hout q hq, cpK_end (by omega)]
   refine r_loop (α := List (Vc.Item × Int)) [11, 12, 14, 15, 61, 62, 63, 64, 65, 66, 67, 68, 69, 70, 71, 72, 73, 74, 75, 76, 77, 78, 79, 80, 81, 82, 83, 84, 85, 86, 87, 88, 89, 90, 91, 92, 93, 94, 95, 96, 97, 98, 99, 100, 101, 102, 103, 104, 105, 106] (fun left g w => ∃ la : Option (Vc.Item × Int), ∃ dn : List (Vc.Item × Int), ∃ m : List (Int × Sum3), IterIs w r30 cb (fun x : Vc.Item => Value.agg (Enc.enc x).toArray) (Value.int .i64) M left la ∧ MapIs w b3 ekN evS m ∧ (dn ++ left).Perm M ∧ (∀ q ∈ A, vS m q.1 = ⟨cpN l q.2, cwD dn q.2, ctD dn q.2⟩) ∧ w31.heap.size ≤ w.heap.size ∧ Evo w0 w []) (fun left => left.length) M ?_ ?_
   ·refine ⟨_, [], _, hir30, hmb3, (by simp), houtA, (by first | assumption | omega | (dsimp only; omega) | (simp; done)), hV⟩
   ·rintro left g w33 ⟨la, dn, m, hir30, hmb3, hpm, hout, hzl32, hV⟩
    have hs_w33hV := hV.size
    have hlt34 := hmb3.lt
    replace hbx := hbx0 _ hV
    replace hmG := hmG0 _ hV
    replace hmC := hmC0 _ hV
    replace hcm := hcm0 _ hV
    replace hgr := hgr0 _ hV
    refine r_seq ?_
    refine r_region ?_
    refine r_next rfl (by exact rfl) hir30 (fun hn35 => ?_) (fun l1_35 p35 l2_35 w35 hl35 hE35 hz35 hi_new => ?_)
    ·skip
     subst hn35
     refine r_op rfl rfl rfl (run_extract (v := .bool _) rfl (by exact rfl) (by exact rfl)) ?_
     refine r_nil ?_
     refine r_seq ?_
     refine r_cond_no (by exact rfl) ?_
     refine r_exit rfl ?_
     refine r_seq ?_
     refine r_region ?_
     refine r_op rfl rfl rfl (run_mv (v := .map _) rfl (by exact rfl)) ?_
     refine r_op rfl rfl rfl (run_asg (v := .map _) rfl (by exact rfl)) ?_
     refine r_nil ?_
     refine r_ret (res1 (v := .map _) rfl (by exact rfl)) ?_
     exact ⟨_, _, rfl, hV, hmb3, by omega, out_done hcq hcn (by simpa using hpm) hout⟩
    ·skip
     have hs_w35 := (hE35).size
     replace hV := evo_step1 hV hE35 (by first | exact .inl (by omega) | exact .inr (by simp))
     replace hbx := hbx0 _ hV
     replace hmG := hmG0 _ hV
     replace hmC := hmC0 _ hV
     replace hcm := hcm0 _ hV
     replace hgr := hgr0 _ hV
     replace hmb3 := hmb3.evo hE35 (by simp; omega)
     replace hir30 := hi_new
     clear hi_new
     refine r_op rfl rfl rfl (run_extract (v := .bool _) rfl (by exact rfl) (by exact rfl)) ?_
     refine r_nil ?_
     refine r_seq ?_
     refine r_cond_yes (by exact rfl) ?_
     refine r_skip ?_
     refine r_block ?_
     refine r_seq ?_
     refine r_region ?_
     refine r_op rfl rfl rfl (run_entryI rfl (by exact rfl) hir30) ?_
     refine r_op rfl rfl rfl (run_extract (v := .agg _) rfl (by exact rfl) (by exact rfl)) ?_
     refine r_op rfl rfl rfl (run_extract (v := .int _ _) rfl (by exact rfl) (by exact rfl)) ?_
     refine r_var (zs := [_, _, _]) (vs := [_, _, _]) ty_43 (by exact rfl) rfl (by exact rfl) (fun _ => rfl) (by exact rfl) rfl rfl (by exact rfl) ?_
     intro b36 w37 heb36 hEw37 hbb36 hzb36
     have hs_w37 := (hEw37).size
     replace hV := evo_step0 hV hEw37
     replace hbx := hbx0 _ hV
     replace hmG := hmG0 _ hV
     replace hmC := hmC0 _ hV
     replace hcm := hcm0 _ hV
     replace hgr := hgr0 _ hV
     replace hmb3 := hmb3.evo0 hEw37
     replace hir30 := hir30.evo0 hEw37
     have hAb36 := hbb36.at
     refine r_op rfl rfl rfl (run_asg (v := .int _ _) rfl (by exact rfl)) ?_
     refine r_nil ?_
     refine r_seq ?_
     have hpM : p35 ∈ M := hpm.mem_iff.1 (List.mem_append_right _ (by rw [hl35]; simp)); have hpc := cnt_mem hcq hcn hpM; have hcl9 := List.count_le_length (a := p35.1) (l := clsL l); have hck9 := cls_len l; have hpn : 0 ≤ p35.2 ∧ p35.2 ≤ 1000000 := by have h9 := hpc.1; unfold ccN at h9; omega
     have hdnl := hpm.length_eq; rw [List.length_append] at hdnl; have hcD := fun b => cD_bd (dn := dn) (b := b) (fun p hp => by have h9 := (cnt_mem hcq hcn (hpm.mem_iff.1 (List.mem_append_left _ hp))).1; have h8 := List.count_le_length (a := p.1) (l := clsL l); unfold ccN at h9; omega) (by omega)
     obtain ⟨aoQ, gQ, cpQ, hvQ, hrQ, hgQ⟩ := (hfC.own p35.1).rowOf
     have hrQ0 := keepE hrQ; replace hrQ := hrQ0 _ hV
     have hpl := post_len (f := ccN) (A := A) (k := p35.1)
     have hbd9 := hrQ.bd
     refine r_qregion (by kernel_rfl) (by kernel_rfl) ?_
     refine q_op rfl rfl rfl (fun w' hC => run_mv (v := (.pointer (some ⟨bx, 0, none⟩))) rfl (by exact rfl)) ?_
     refine q_op rfl rfl rfl (fun w' hC => run_nc rfl (by exact rfl)) ?_
     refine q_op rfl rfl rfl (fun w' hC => run_fa rfl (by exact rfl) fo_52_2) ?_
     refine q_op rfl rfl rfl (fun w' hC => run_ld1 rfl ag_50 (by exact rfl) ((hbx.evo0 hC).cell 2 (by exact rfl))) ?_
     refine q_op rfl rfl rfl (fun w' hC => run_ldN rfl ag_43 ty_43 (by exact rfl) rfl (hAb36.evo0 hC)) ?_
     refine q_op rfl rfl rfl (fun w' hC => run_lookup1 (a := p35.1) (z := nilV) (v := (.slice aoQ (post ccN A p35.1).length cpQ)) ktoki rfl Tryz.underlying50 ty_77 (by exact rfl) (by exact rfl) (hmC.evo0 hC) hvQ) ?_
     refine q_op rfl rfl rfl (fun w' hC => run_lenSl rfl (by exact rfl) Tryz.underlying77) ?_
     refine q_op rfl rfl rfl (fun w' hC => run_mv (v := .int _ _) rfl (by exact rfl)) ?_
     refine q_nil (fun w38 hE39 => ?_)
     have hs_w38 := (hE39).size
     replace hV := evo_step0 hV hE39
     replace hbx := hbx0 _ hV
     replace hmG := hmG0 _ hV
     replace hmC := hmC0 _ hV
     replace hcm := hcm0 _ hV
     replace hgr := hgr0 _ hV
     replace hmb3 := hmb3.evo0 hE39
     replace hir30 := hir30.evo0 hE39
     replace hbb36 := hbb36.evo0 hE39
     replace hAb36 := hAb36.evo0 hE39
     replace hrQ := hrQ0 _ hV
     refine r_block ?_
     refine r_loop (α := Nat) [14, 15, 73, 74, 75, 76, 77, 78, 79, 80, 81, 82, 83, 84, 85, 86, 87, 88, 89, 90, 91, 92, 93, 94, 95, 96, 97, 98, 99, 100, 101, 102, 103, 104, 105, 106] (fun j g w => ∃ m2 : List (Int × Sum3), g 73 = .int .i64 (j : Nat) ∧ j ≤ (post ccN A p35.1).length ∧ MapIs w b3 ekN evS m2 ∧ InnS ccN A p35.1 (fun b => ⟨cpN l b, cwD dn b, ctD dn b⟩) (upC p35.1) (fun h => min h p35.2) j m2 ∧ IterIs w r30 cb (fun x : Vc.Item => Value.agg (Enc.enc x).toArray) (Value.int .i64) M (l1_35 ++ l2_35) (some p35) ∧ Blk w b36 43 (Enc.enc p35.1) ∧ At w b36 0 (Enc.enc p35.1) ∧ w38.heap.size ≤ w.heap.size ∧ Evo w0 w []) (fun j => (post ccN A p35.1).length - j) 0 ?_ ?_
     ·refine ⟨_, (by first | exact rfl | exact congrArg (Value.int _) (by omega) | exact congrArg (Value.int _) (by dsimp only; omega) | exact congrArg (Value.int _) (by simp) | exact congrArg S (by simp)), (by first | assumption | omega | (dsimp only; omega) | (simp; done)), hmb3, (InnS.start hout), hir30, hbb36, hAb36, (by first | assumption | omega | (dsimp only; omega) | (simp; done)), hV⟩
     ·rintro j g w41 ⟨m2, hj42, hk_j, hmb3, hin, hir30, hbb36, hAb36, hzl40, hV⟩
      have hs_w41hV := hV.size
      have hlt43 := hmb3.lt
      have hlt44 := hbb36.lt
      replace hbx := hbx0 _ hV
      replace hmG := hmG0 _ hV
      replace hmC := hmC0 _ hV
      replace hcm := hcm0 _ hV
      replace hgr := hgr0 _ hV
      replace hrQ := hrQ0 _ hV
      refine r_know (i := 73) (v := .int .i64 (j : Nat)) (by exact hj42) ?_
      refine r_seq ?_
      refine r_region ?_
      refine r_op rfl rfl rfl (run_lss rfl (by exact rfl) (by exact rfl)) ?_
      refine r_nil ?_
      refine r_seq ?_
      refine r_cond (by exact rfl) (fun hc45 => ?_) (fun hc45 => ?_)
      ·skip
       refine r_skip ?_
       refine r_seq ?_
       refine r_block ?_
       refine r_seq ?_
       refine r_region ?_
       refine r_op rfl rfl rfl (run_ix (j) rfl Tryz.underlying77 ty_79 (by exact rfl) (by exact rfl) (by first | exact rfl | omega) (by omega) (hrQ.addr (i := j) (by omega))) ?_
       have hA460 := fun (w' : World) (h : Evo w0 w' []) => (hrQ0 w' h).atD (j) (by omega)
       have hA46 := hA460 _ hV
       refine r_op rfl rfl rfl (run_ldN rfl ag_79 ty_79 (by exact rfl) rfl hA46) ?_
       refine r_var (zs := [_, _]) (vs := [_, _]) ty_79 (by exact rfl) rfl (by exact rfl) (fun _ => rfl) (by exact rfl) rfl rfl (by exact rfl) ?_
       intro b47 w48 heb47 hEw48 hbb47 hzb47
       have hs_w48 := (hEw48).size
       replace hV := evo_step0 hV hEw48
       replace hbx := hbx0 _ hV
       replace hmG := hmG0 _ hV
       replace hmC := hmC0 _ hV
       replace hcm := hcm0 _ hV
       replace hgr := hgr0 _ hV
       replace hrQ := hrQ0 _ hV
       replace hmb3 := hmb3.evo0 hEw48
       replace hir30 := hir30.evo0 hEw48
       replace hbb36 := hbb36.evo0 hEw48
       replace hAb36 := hAb36.evo0 hEw48
       have hAb47 := hbb47.at
       refine r_nil ?_
       refine r_seq ?_
       refine r_region ?_
       refine r_op rfl rfl rfl (run_mv (v := .map _) rfl (by exact rfl)) ?_
       refine r_op rfl rfl rfl (run_fa rfl (by exact rfl) fo_79_0) ?_
       refine r_op rfl rfl rfl (run_ld1 rfl ag_3 (by exact rfl) (hAb47.cell 0 (by exact rfl))) ?_
       refine r_op rfl rfl rfl (run_lookup1 (a := _) (z := (⟨0, 0, 0⟩ : Sum3)) (v := .agg _) (key_int Tryz.underlying3) rfl Tryz.underlying66 ty_62 (by exact rfl) (by exact rfl) hmb3 rfl) ?_
       refine r_var (zs := [_, _, _]) (vs := [_, _, _]) ty_62 (by exact rfl) rfl (by exact rfl) (fun _ => rfl) (by exact rfl) rfl rfl (by exact rfl) ?_
       intro b49 w50 heb49 hEw50 hbb49 hzb49
       have hs_w50 := (hEw50).size
       replace hV := evo_step0 hV hEw50
       replace hbx := hbx0 _ hV
       replace hmG := hmG0 _ hV
       replace hmC := hmC0 _ hV
       replace hcm := hcm0 _ hV
       replace hgr := hgr0 _ hV
       replace hrQ := hrQ0 _ hV
       replace hmb3 := hmb3.evo0 hEw50
       replace hir30 := hir30.evo0 hEw50
       replace hbb36 := hbb36.evo0 hEw50
       replace hAb36 := hAb36.evo0 hEw50
       replace hbb47 := hbb47.evo0 hEw50
       replace hAb47 := hAb47.evo0 hEw50
       have hAb49 := hbb49.at
       refine r_nil ?_
       refine r_seq ?_
       refine r_seq ?_
       obtain ⟨q9, hq9, e91, e92, e93⟩ := hin.val hids (by omega); have e94 : ((getM m2 ((post ccN A p35.1).getD j default).lo).getD ⟨0, 0, 0⟩).w = cwD dn q9.2 := congrArg Sum3.w e93; have e96 : ((getM m2 ((post ccN A p35.1).getD j default).lo).getD ⟨0, 0, 0⟩).t = ctD dn q9.2 := congrArg Sum3.t e93; have e95 := hcD q9.2
       refine r_region ?_
       refine r_op rfl rfl rfl (run_ldN rfl ag_43 ty_43 (by exact rfl) rfl hAb36) ?_
       refine r_opcall rfl rfl rfl (run_callf (vs := [.agg _]) rfl (by exact rfl) Tryz.func37 rfl (by kernel_rfl)) (ixtag_calls ) ?_
       rintro e w51 ⟨rfl, hE51⟩
       refine ⟨_, rfl, ?_⟩
       have hs_w51 := (hE51).size
       replace hV := evo_step0 hV hE51
       replace hbx := hbx0 _ hV
       replace hmG := hmG0 _ hV
       replace hmC := hmC0 _ hV
       replace hcm := hcm0 _ hV
       replace hgr := hgr0 _ hV
       replace hrQ := hrQ0 _ hV
       replace hmb3 := hmb3.evo0 hE51
       replace hir30 := hir30.evo0 hE51
       replace hbb36 := hbb36.evo0 hE51
       replace hAb36 := hAb36.evo0 hE51
       replace hbb47 := hbb47.evo0 hE51
       replace hAb47 := hAb47.evo0 hE51
       replace hbb49 := hbb49.evo0 hE51
       replace hAb49 := hAb49.evo0 hE51
       refine r_nil ?_
       refine r_cond (by exact rfl) (fun hc52 => ?_) (fun hc52 => ?_)
       ·skip
        have htg := hc52
        refine r_region ?_
        refine r_op rfl rfl rfl (run_fa rfl (by exact rfl) fo_62_2) ?_
        refine r_op rfl rfl rfl (run_ld1 rfl ag_3 (by exact rfl) (hAb49.cell 2 (by exact rfl))) ?_
        refine r_op rfl rfl rfl (run_fa rfl (by exact rfl) fo_79_1) ?_
        refine r_op rfl rfl rfl (run_ld1 rfl ag_3 (by exact rfl) (hAb47.cell 1 (by exact rfl))) ?_
        refine r_op rfl rfl rfl (run_mv (v := .int _ _) rfl (by exact rfl)) ?_
        refine r_op rfl rfl rfl (run_min rfl (by exact rfl) (by exact rfl)) ?_
        refine r_op rfl rfl rfl (run_add rfl (by exact rfl) (by exact rfl) (by omega) (by omega)) ?_
        refine r_op rfl rfl rfl (run_fa rfl (by exact rfl) fo_62_2) ?_
        refine r_store (v := .int _ _) (vs := [_]) (cs' := [_, _, _]) (by exact rfl) (by exact rfl) hbb49 ty_3 (by exact rfl) rfl (by exact rfl) rfl (by exact rfl) ?_
        intro w53 hEw53 hzw53 hb_new
        have hs_w53 := (hEw53).size
        replace hV := evo_step1 hV hEw53 (by first | exact .inl (by omega) | exact .inr (by simp))
        replace hbx := hbx0 _ hV
        replace hmG := hmG0 _ hV
        replace hmC := hmC0 _ hV
        replace hcm := hcm0 _ hV
        replace hgr := hgr0 _ hV
        replace hrQ := hrQ0 _ hV
        replace hmb3 := hmb3.evo hEw53 (by simp; omega)
        replace hir30 := hir30.evo hEw53 (by simp; omega) (by simp; omega)
        replace hbb36 := hbb36.evo hEw53 (by simp; omega)
        replace hAb36 := hAb36.evo hEw53 (by simp; omega)
        replace hbb47 := hbb47.evo hEw53 (by simp; omega)
        replace hAb47 := hAb47.evo hEw53 (by simp; omega)
        replace hbb49 := hb_new
        have hAb49 := hbb49.at
        clear hb_new
        refine r_nil ?_
        refine r_region ?_
        refine r_op rfl rfl rfl (run_mv (v := .map _) rfl (by exact rfl)) ?_
        refine r_op rfl rfl rfl (run_fa rfl (by exact rfl) fo_79_0) ?_
        refine r_op rfl rfl rfl (run_ld1 rfl ag_3 (by exact rfl) (hAb47.cell 0 (by exact rfl))) ?_
        refine r_op rfl rfl rfl (run_ldN rfl ag_62 ty_62 (by exact rfl) rfl hAb49) ?_
        refine r_mapset (a := ((post ccN A p35.1).getD j default).lo) (v := (⟨(vS m2 ((post ccN A p35.1).getD j default).lo).p, (vS m2 ((post ccN A p35.1).getD j default).lo).w, (vS m2 ((post ccN A p35.1).getD j default).lo).t + min ((post ccN A p35.1).getD j default).hi p35.2⟩ : Sum3)) (key_int Tryz.underlying3) Tryz.underlying66 (by exact rfl) (by exact rfl) (by exact rfl) hmb3 ?_
        intro w54 hEw54 hzw54 hm_new
        have hs_w54 := (hEw54).size
        replace hV := evo_step1 hV hEw54 (by first | exact .inl (by omega) | exact .inr (by simp))
        replace hbx := hbx0 _ hV
        replace hmG := hmG0 _ hV
        replace hmC := hmC0 _ hV
        replace hcm := hcm0 _ hV
        replace hgr := hgr0 _ hV
        replace hrQ := hrQ0 _ hV
        replace hir30 := hir30.evo hEw54 (by simp; omega) (by simp; omega)
        replace hbb36 := hbb36.evo hEw54 (by simp; omega)
        replace hAb36 := hAb36.evo hEw54 (by simp; omega)
        replace hmb3 := hm_new
        clear hm_new
        refine r_nil ?_
        refine r_blk ?_
        refine r_region ?_
        refine r_op rfl rfl rfl (run_add rfl (by exact rfl) (by exact rfl) (by omega) (by omega)) ?_
        refine r_op rfl rfl rfl (run_mv (v := .int _ _) rfl (by exact rfl)) ?_
        refine r_nil ?_
        refine r_again (j + 1) ?_ ?_ ?_
        ·first | omega | (dsimp only; omega)
        ·refine ⟨_, (by first | exact rfl | exact congrArg (Value.int _) (by omega) | exact congrArg (Value.int _) (by dsimp only; omega) | exact congrArg (Value.int _) (by simp) | exact congrArg S (by simp)), (by first | assumption | omega | (dsimp only; omega) | (simp; done)), hmb3, (by have h9 := hin.step hids (by omega); first | (rw [upC_tag htg] at h9; exact h9) | (rw [upC_not htg] at h9; exact h9)), hir30, hbb36, hAb36, (by first | assumption | omega | (dsimp only; omega) | (simp; done)), hV⟩
        ·repeat (first | (with_reducible exact Agree.merge _ _ _) | (with_reducible exact Agree.refl _ _) | (with_reducible refine Agree.upd ?_ _ _ rfl) | ((with_reducible refine Agree.inner ?_ ?_); (kernel_rfl)))
       ·skip
        have htg := hc52; have hmu := mulc_bd (h := ((post ccN A p35.1).getD j default).hi) (n := p35.2) (k := p35.1.kind) (by omega) (by omega) (by omega)
        have hmb3_q := hmb3
        have hbb36_q := hbb36
        have hAb36_q := hAb36
        have hbb47_q := hbb47
        have hAb47_q := hAb47
        have hbb49_q := hbb49
        have hAb49_q := hAb49
        have hV_q := hV
        refine h_region ([]) (by kernel_rfl) ?_
        intro w55 hE56 hC57
        have hs_w55 := (hE56).size
        replace hV := evo_step0 hV hE56
        replace hbx := hbx0 _ hV
        replace hmG := hmG0 _ hV
        replace hmC := hmC0 _ hV
        replace hcm := hcm0 _ hV
        replace hgr := hgr0 _ hV
        replace hrQ := hrQ0 _ hV
        replace hmb3 := hmb3.evo0 hE56
        replace hir30 := hir30.evo0 hE56
        replace hbb36 := hbb36.evo0 hE56
        replace hAb36 := hAb36.evo0 hE56
        replace hbb47 := hbb47.evo0 hE56
        replace hAb47 := hAb47.evo0 hE56
        replace hbb49 := hbb49.evo0 hE56
        replace hAb49 := hAb49.evo0 hE56
        refine h_take (i := 0) (by exact rfl) rfl rfl rfl (by kernel_rfl) (fun w' hC => run_fa rfl (by exact rfl) fo_62_1) hC57 ?_
        refine h_take (i := 1) (by exact rfl) rfl rfl rfl (by kernel_rfl) (fun w' hC => run_ld1 rfl ag_3 (by exact rfl) ((hAb49_q.evo0 hC).cell 1 (by exact rfl))) hC57 ?_
        refine h_take (i := 2) (by exact rfl) rfl rfl rfl (by kernel_rfl) (fun w' hC => run_fa rfl (by exact rfl) fo_79_1) hC57 ?_
        refine h_take (i := 3) (by exact rfl) rfl rfl rfl (by kernel_rfl) (fun w' hC => run_ld1 rfl ag_3 (by exact rfl) ((hAb47_q.evo0 hC).cell 1 (by exact rfl))) hC57 ?_
        refine h_take (i := 4) (by exact rfl) rfl rfl rfl (by kernel_rfl) (fun w' hC => run_mv (v := .int _ _) rfl (by exact rfl)) hC57 ?_
        refine h_take (i := 5) (by exact rfl) rfl rfl rfl (by kernel_rfl) (fun w' hC => run_min rfl (by exact rfl) (by exact rfl)) hC57 ?_
        refine h_take (i := 6) (by exact rfl) rfl rfl rfl (by kernel_rfl) (fun w' hC => run_ldN rfl ag_43 ty_43 (by exact rfl) rfl (hAb36_q.evo0 hC)) hC57 ?_
        refine h_one (i := 7) (by kernel_rfl) ?_
        refine h_do (by exact rfl) ?_
        refine r_opcall rfl rfl rfl (run_callf (vs := [.agg _]) rfl (by exact rfl) Tryz.func38 rfl (by kernel_rfl)) (weight_calls (x := p35.1)) ?_
        rintro e w58 ⟨rfl, hE58⟩
        refine ⟨_, rfl, ?_⟩
        have hs_w58 := (hE58).size
        replace hV := evo_step0 hV hE58
        replace hC57 := evo_step0 hC57 hE58
        replace hbx := hbx0 _ hV
        replace hmG := hmG0 _ hV
        replace hmC := hmC0 _ hV
        replace hcm := hcm0 _ hV
        replace hgr := hgr0 _ hV
        replace hrQ := hrQ0 _ hV
        replace hmb3 := hmb3.evo0 hE58
        replace hir30 := hir30.evo0 hE58
        replace hbb36 := hbb36.evo0 hE58
        replace hAb36 := hAb36.evo0 hE58
        replace hbb47 := hbb47.evo0 hE58
        replace hAb47 := hAb47.evo0 hE58
        replace hbb49 := hbb49.evo0 hE58
        replace hAb49 := hAb49.evo0 hE58
        refine h_next hC57 ?_
        refine h_take (i := 8) (by exact rfl) rfl rfl rfl (by kernel_rfl) (fun w' hC => run_mul rfl (by exact rfl) (by exact rfl) (by omega) (by omega)) hC57 ?_
        refine h_take (i := 9) (by exact rfl) rfl rfl rfl (by kernel_rfl) (fun w' hC => run_add rfl (by exact rfl) (by exact rfl) (by omega) (by omega)) hC57 ?_
        refine h_take (i := 10) (by exact rfl) rfl rfl rfl (by kernel_rfl) (fun w' hC => run_fa rfl (by exact rfl) fo_62_1) hC57 ?_
        refine h_one (i := 11) (by kernel_rfl) ?_
        refine h_do (by exact rfl) ?_
        refine r_store (v := .int _ _) (vs := [_]) (cs' := [_, _, _]) (by exact rfl) (by exact rfl) hbb49 ty_3 (by exact rfl) rfl (by exact rfl) rfl (by exact rfl) ?_
        intro w59 hEw59 hzw59 hb_new
        have hs_w59 := (hEw59).size
        replace hV := evo_step1 hV hEw59 (by first | exact .inl (by omega) | exact .inr (by simp))
        replace hbx := hbx0 _ hV
        replace hmG := hmG0 _ hV
        replace hmC := hmC0 _ hV
        replace hcm := hcm0 _ hV
        replace hgr := hgr0 _ hV
        replace hrQ := hrQ0 _ hV
        replace hmb3 := hmb3.evo hEw59 (by simp; omega)
        replace hir30 := hir30.evo hEw59 (by simp; omega) (by simp; omega)
        replace hbb36 := hbb36.evo hEw59 (by simp; omega)
        replace hAb36 := hAb36.evo hEw59 (by simp; omega)
        replace hbb47 := hbb47.evo hEw59 (by simp; omega)
        replace hAb47 := hAb47.evo hEw59 (by simp; omega)
        replace hbb49 := hb_new
        have hAb49 := hbb49.at
        clear hb_new
        refine h_last (by kernel_rfl) ?_
        refine h_done (by kernel_rfl) ?_
        refine r_region ?_
        refine r_op rfl rfl rfl (run_mv (v := .map _) rfl (by exact rfl)) ?_
        refine r_op rfl rfl rfl (run_fa rfl (by exact rfl) fo_79_0) ?_
        refine r_op rfl rfl rfl (run_ld1 rfl ag_3 (by exact rfl) (hAb47.cell 0 (by exact rfl))) ?_
        refine r_op rfl rfl rfl (run_ldN rfl ag_62 ty_62 (by exact rfl) rfl hAb49) ?_
        refine r_mapset (a := ((post ccN A p35.1).getD j default).lo) (v := (⟨(vS m2 ((post ccN A p35.1).getD j default).lo).p, (vS m2 ((post ccN A p35.1).getD j default).lo).w + min ((post ccN A p35.1).getD j default).hi p35.2 * wK p35.1.kind, (vS m2 ((post ccN A p35.1).getD j default).lo).t⟩ : Sum3)) (key_int Tryz.underlying3) Tryz.underlying66 (by exact rfl) (by exact rfl) (by exact rfl) hmb3 ?_
        intro w60 hEw60 hzw60 hm_new
        have hs_w60 := (hEw60).size
        replace hV := evo_step1 hV hEw60 (by first | exact .inl (by omega) | exact .inr (by simp))
        replace hbx := hbx0 _ hV
        replace hmG := hmG0 _ hV
        replace hmC := hmC0 _ hV
        replace hcm := hcm0 _ hV
        replace hgr := hgr0 _ hV
        replace hrQ := hrQ0 _ hV
        replace hir30 := hir30.evo hEw60 (by simp; omega) (by simp; omega)
        replace hbb36 := hbb36.evo hEw60 (by simp; omega)
        replace hAb36 := hAb36.evo hEw60 (by simp; omega)
        replace hmb3 := hm_new
        clear hm_new
        refine r_nil ?_
        refine r_blk ?_
        refine r_region ?_
        refine r_op rfl rfl rfl (run_add rfl (by exact rfl) (by exact rfl) (by omega) (by omega)) ?_
        refine r_op rfl rfl rfl (run_mv (v := .int _ _) rfl (by exact rfl)) ?_
        refine r_nil ?_
        refine r_again (j + 1) ?_ ?_ ?_
        ·first | omega | (dsimp only; omega)
        ·refine ⟨_, (by first | exact rfl | exact congrArg (Value.int _) (by omega) | exact congrArg (Value.int _) (by dsimp only; omega) | exact congrArg (Value.int _) (by simp) | exact congrArg S (by simp)), (by first | assumption | omega | (dsimp only; omega) | (simp; done)), hmb3, (by have h9 := hin.step hids (by omega); first | (rw [upC_tag htg] at h9; exact h9) | (rw [upC_not htg] at h9; exact h9)), hir30, hbb36, hAb36, (by first | assumption | omega | (dsimp only; omega) | (simp; done)), hV⟩
        ·repeat (first | (with_reducible exact Agree.merge _ _ _) | (with_reducible exact Agree.refl _ _) | (with_reducible refine Agree.upd ?_ _ _ rfl) | ((with_reducible refine Agree.inner ?_ ?_); (kernel_rfl)))
      ·skip
       refine r_exit rfl ?_
       refine r_blk ?_
       refine r_again (l1_35 ++ l2_35) ?_ ?_ ?_
       ·rw [hl35]; simp
       ·refine ⟨_, (dn ++ [p35]), _, hir30, hmb3, (by rw [hl35] at hpm; have h9 := perm_step (f := id) (g := dn) (x := p35) (m := M) (by rw [List.map_id]; exact hpm) rfl; rw [List.map_id] at h9; exact h9), (out_cls (hin.done hids (by omega) (upC_zero hpn.1))), (by first | assumption | omega | (dsimp only; omega) | (simp; done)), hV⟩
       ·repeat (first | (with_reducible exact Agree.merge _ _ _) | (with_reducible exact Agree.refl _ _) | (with_reducible refine Agree.upd ?_ _ _ rfl) | ((with_reducible refine Agree.inner ?_ ?_); (kernel_rfl)))
end Go.Proofs.YthbcklajlmcifaaGreat
namespace Go.Proofs.YthbcklajlmcifaaGreat
open Go.RowKit Go.Vc
theorem fo_64_3 : fieldP Tryz.prog 64 3 = some 5 := by kernel_rfl
set_option maxHeartbeats 2000000 in
theorem ixcand_calls {ao : Option Addr} {b off cap : Nat} {l : List Vc.Item} {bx : Nat} {A : Stored} {F : List Nat} {percent : Int} {w0 : World} (hx : Idx w0 bx A F) (hl : RowE w0 ao b off cap l) (hq : ∀ x ∈ l, x.text.length ≤ 140737488355328) (hs : l.length ≤ 1000000) (hA : A.length ≤ 1000000) (hAs : ∀ q ∈ A, q.2.length ≤ 1000000) :
    Calls Tryz.prog 12 #[.pointer (some ⟨bx, 0, none⟩), .slice ao l.length cap, .int .i64 percent] w0 fun e w' => ∃ v r, e = .returned v ∧ Evo w0 w' [] ∧ OwnE w' w0.heap.size 3 v r ∧ CandR A l percent r := by
 have hx0 := hx
 obtain ⟨ml, mg, mc, L, F1, F2, F3, hp, rfl⟩ := hx
 have hbx := fun w9 (h9 : Evo w0 w9 []) => (hp.evo h9 (by simp)).blk.at
 have hlm := fun w9 (h9 : Evo w0 w9 []) => (hp.evo h9 (by simp)).lists
 have hll := hp.lists.lt
 have hLA := hp.lvs.len
 refine calls_enter (n := 50) (args := [.pointer (some ⟨bx, 0, none⟩), .slice ao l.length cap, .int .i64 percent]) Tryz.func12 rfl Tryz.ntmps12 rfl ?_
 have hV : Evo w0 w0 [] := Evo.refl _ _
 have hbx0 := hbx
 replace hbx := hbx0 _ hV
 have hlm0 := hlm
 replace hlm := hlm0 _ hV
 have hl0 := keepE hl
 have hbd_hl := hl.bd
 refine r_seq ?_
 refine r_region ?_
 refine r_op rfl rfl rfl (run_asg (v := .slice _ _ _) rfl (by exact rfl)) ?_
 refine r_nil ?_
 refine r_seq ?_
 refine r_region ?_
 refine r_op rfl rfl rfl (run_mv (v := .slice _ _ _) rfl (by exact rfl)) ?_
 refine r_opcall rfl rfl rfl (run_callf (vs := [.slice _ _ _]) rfl (by exact rfl) Tryz.func20 rfl (by kernel_rfl)) (survey_calls hl hq hs) ?_
 rintro e w1 ⟨ga1, gl1, gc1, cb1, M1, rfl, hE1, hog1, hcm1, hcq1, hcb1⟩
 refine ⟨_, rfl, ?_⟩
 have hs_w1 := (hE1).size
 replace hV := evo_step0 hV hE1
 replace hbx := hbx0 _ hV
 replace hlm := hlm0 _ hV
 replace hl := hl0 _ hV
 have hob2 := fun g hg => (hog1.block (g := g) hg).2
 refine r_var (zs := [_, _, _, _, _, _]) (vs := [_, _, _, _, _, _]) ty_64 (by exact rfl) rfl (by exact rfl) (fun _ => rfl) (by exact rfl) rfl rfl (by exact rfl) ?_
 intro b3 w4 heb3 hEw4 hbb3 hzb3
 have hs_w4 := (hEw4).size
 replace hV := evo_step0 hV hEw4
 replace hbx := hbx0 _ hV
 replace hlm := hlm0 _ hV
 replace hl := hl0 _ hV
 replace hog1 := hog1.evo0 hEw4
 replace hcm1 := hcm1.evo0 hEw4
 have hAb3 := hbb3.at
 refine r_nil ?_
 refine r_seq ?_
 obtain ⟨hgl1, _, _, _⟩ := hog1.row_of; subst hgl1
 refine r_region ?_
 refine r_op rfl rfl rfl (run_mv (v := (.pointer (some ⟨bx, 0, none⟩))) rfl (by exact rfl)) ?_
 refine r_op rfl rfl rfl (run_ldN rfl ag_64 ty_64 (by exact rfl) rfl hAb3) ?_
 refine r_opcall rfl rfl rfl (run_callf (vs := [(.pointer (some ⟨bx, 0, none⟩)), .agg _]) rfl (by exact rfl) Tryz.func21 rfl (by kernel_rfl)) (ixshared_calls (hx0.evo0 hV) (hog1.base_le (Nat.zero_le _)) hcm1 hcq1 hs) ?_
 rintro e w5 ⟨bo5, mo5, rfl, hE5, hmo5, hbo5, hvo5⟩
 refine ⟨_, rfl, ?_⟩
 have hs_w5 := (hE5).size
 replace hV := evo_step0 hV hE5
 replace hbx := hbx0 _ hV
 replace hlm := hlm0 _ hV
 replace hl := hl0 _ hV
 replace hog1 := hog1.evo0 hE5
 replace hcm1 := hcm1.evo0 hE5
 replace hbb3 := hbb3.evo0 hE5
 replace hAb3 := hAb3.evo0 hE5
 refine r_op rfl rfl rfl (run_asg (v := (.map (some bo5))) rfl (by exact rfl)) ?_
 refine r_nil ?_
 refine r_seq ?_
 have hJ : Evo w5 w5 [] := Evo.refl _ _; have hmol := hmo5.lt
 have hAb30 := fun w9 (h9 : Evo w5 w9 []) => hAb3.evo0 h9; replace hAb3 := hAb30 _ hJ
 have hmo50 := fun w9 (h9 : Evo w5 w9 []) => hmo5.evo0 h9; replace hmo5 := hmo50 _ hJ
 refine r_region ?_
 refine r_op rfl rfl rfl (run_asg (v := .slice _ _ _) rfl (by exact rfl)) ?_
 refine r_nil ?_
 refine r_seq ?_
 refine r_seq ?_
 refine r_region ?_
 refine r_op rfl rfl rfl (run_mv (v := (.pointer (some ⟨bx, 0, none⟩))) rfl (by exact rfl)) ?_
 refine r_op rfl rfl rfl (run_nc rfl (by exact rfl)) ?_
 refine r_op rfl rfl rfl (run_fa rfl (by exact rfl) fo_52_0) ?_
 refine r_op rfl rfl rfl (run_ld1 rfl ag_48 (by exact rfl) (hbx.cell 0 (by exact rfl))) ?_
 refine r_range rfl Tryz.underlying48 (by exact rfl) hlm ?_
 intro r6 w7 her6 hEw7 hir6 hzr6
 have hs_w7 := (hEw7).size
 replace hV := evo_step0 hV hEw7
 replace hJ := evo_step0 hJ hEw7
 replace hbx := hbx0 _ hV
 replace hlm := hlm0 _ hV
 replace hl := hl0 _ hV
 replace hAb3 := hAb30 _ hJ
 replace hmo5 := hmo50 _ hJ
 refine r_nil ?_
 refine r_block ?_
 have hil := hir6.lt
 refine r_loop (α := List (Int × LV)) [9, 10, 11, 22, 23, 24, 25, 26, 27, 28, 29, 30, 31, 32, 33, 34, 35, 36, 37, 38, 39, 40, 41, 42, 43, 44, 45, 46] (fun left g w => ∃ la : Option (Int × LV), ∃ dn : List (Int × LV), ∃ vo : Value, g 9 = vo ∧ IterIs w r6 ml ekN evL L left la ∧ OwnE w w7.heap.size 3 vo ((dn.filter (selL l percent mo5)).map (·.1)) ∧ (dn ++ left).Perm L ∧ w7.heap.size ≤ w.heap.size ∧ Evo w0 w [] ∧ Evo w5 w []) (fun left => left.length) L ?_ ?_
 ·refine ⟨_, [], _, rfl, hir6, (OwnE.nil _ _ _), (by simp), (by first | assumption | omega | (dsimp only; omega) | (simp; done)), hV, hJ⟩
 ·rintro left g w9 ⟨la, dn, vo, hj10, hir6, hoo, hpm, hzl8, hV, hJ⟩
  have hs_w9hV := hV.size
  have hs_w9hJ := hJ.size
  replace hbx := hbx0 _ hV
  replace hlm := hlm0 _ hV
  replace hl := hl0 _ hV
  replace hAb3 := hAb30 _ hJ
  replace hmo5 := hmo50 _ hJ
  refine r_know (i := 9) (v := vo) (by exact hj10) ?_
  have hdl := hpm.length_eq
  rw [List.length_append] at hdl
  have hfl9 : ((dn.filter (selL l percent mo5)).map (·.1)).length ≤ dn.length := by rw [List.length_map]; exact List.length_filter_le _ _
  refine r_seq ?_
  refine r_region ?_
  refine r_next rfl (by exact rfl) hir6 (fun hn11 => ?_) (fun l1_11 p11 l2_11 w11 hl11 hE11 hz11 hi_new => ?_)
  ·skip
   subst hn11
   refine r_op rfl rfl rfl (run_extract (v := .bool _) rfl (by exact rfl) (by exact rfl)) ?_
   refine r_nil ?_
   refine r_seq ?_
   refine r_cond_no (by exact rfl) ?_
   refine r_exit rfl ?_
   refine r_seq ?_
   have hdn : dn.Perm L := by simpa using hpm
   refine r_region ?_
   refine r_op rfl rfl rfl (run_mv (v := vo) rfl (by exact rfl)) ?_
   refine r_opcall rfl rfl rfl (run_callf (vs := [vo]) rfl (by exact rfl) Tryz.func24 rfl (by kernel_rfl)) (isort_calls hoo) ?_
   rintro e w12 ⟨rfl, hE12, hs12⟩
   refine ⟨_, rfl, ?_⟩
   have hs_w12 := (hE12).size
   replace hV := evo_stepo hV hE12 (fun g hg => .inl (by first | exact (hoo.block hg).1 | (have := hoo.block hg; omega)))
   replace hJ := evo_stepo hJ hE12 (fun g hg => .inl (by first | exact (hoo.block hg).1 | (have := hoo.block hg; omega)))
   replace hbx := hbx0 _ hV
   replace hlm := hlm0 _ hV
   replace hl := hl0 _ hV
   replace hAb3 := hAb30 _ hJ
   replace hmo5 := hmo50 _ hJ
   replace hir6 := hir6.evo hE12 (by intro hm; have hm2 := Option.mem_toList.1 hm; first | (have := hoo.block hm2; omega) | (simp [Value.ownBlock] at hm2; omega)) (by intro hm; have hm2 := Option.mem_toList.1 hm; first | (have := hoo.block hm2; omega) | (simp [Value.ownBlock] at hm2; omega))
   replace hoo := hs12
   refine r_nil ?_
   refine r_seq ?_
   refine r_region ?_
   refine r_op rfl rfl rfl (run_mv (v := vo) rfl (by exact rfl)) ?_
   refine r_op rfl rfl rfl (run_asg (v := vo) rfl (by exact rfl)) ?_
   refine r_nil ?_
   refine r_ret (res1 (v := vo) rfl (by exact rfl)) ?_
   exact ⟨_, _, rfl, hV, hoo.base_le (by omega), cand_done hp.lvs hvo5 hs hAs hdn⟩
  ·skip
   have hs_w11 := (hE11).size
   replace hV := evo_step1 hV hE11 (by first | exact .inl (by omega) | exact .inr (by simp))
   replace hJ := evo_step1 hJ hE11 (by first | exact .inl (by omega) | exact .inr (by simp))
   replace hbx := hbx0 _ hV
   replace hlm := hlm0 _ hV
   replace hl := hl0 _ hV
   replace hAb3 := hAb30 _ hJ
   replace hmo5 := hmo50 _ hJ
   replace hoo := hoo.evo hE11 (by intro g hg hm; simp at hm; subst hm; have := hoo.block hg; omega)
   replace hir6 := hi_new
   clear hi_new
   refine r_op rfl rfl rfl (run_extract (v := .bool _) rfl (by exact rfl) (by exact rfl)) ?_
   refine r_nil ?_
   refine r_seq ?_
   refine r_cond_yes (by exact rfl) ?_
   refine r_skip ?_
   refine r_block ?_
   refine r_seq ?_
   have hobO := fun g hg => (hoo.block (g := g) hg).2
   refine r_region ?_
   refine r_op rfl rfl rfl (run_entryI rfl (by exact rfl) hir6) ?_
   refine r_op rfl rfl rfl (run_extract (v := .int _ _) rfl (by exact rfl) (by exact rfl)) ?_
   refine r_op rfl rfl rfl (run_extract (v := .agg _) rfl (by exact rfl) (by exact rfl)) ?_
   have hob13 := fun g hg => (hoo.block (g := g) hg).2
   refine r_alloc (zs := [_, _, _, _, _, _]) ty_64 (by exact rfl) rfl ?_
   intro b14 w15 heb14 hEw15 hbb14 hzb14
   have hs_w15 := (hEw15).size
   replace hV := evo_step0 hV hEw15
   replace hJ := evo_step0 hJ hEw15
   replace hbx := hbx0 _ hV
   replace hlm := hlm0 _ hV
   replace hl := hl0 _ hV
   replace hAb3 := hAb30 _ hJ
   replace hmo5 := hmo50 _ hJ
   replace hoo := hoo.evo0 hEw15
   replace hir6 := hir6.evo0 hEw15
   have hAb14 := hbb14.at
   refine r_op rfl rfl rfl (run_asg (v := .int _ _) rfl (by exact rfl)) ?_
   refine r_store (v := .agg _) (vs := [_, _, _, _, _, _]) (cs' := [_, _, _, _, _, _]) (by exact rfl) (by exact rfl) hbb14 ty_64 (by exact rfl) rfl (by exact rfl) rfl (by exact rfl) ?_
   intro w16 hEw16 hzw16 hb_new
   have hs_w16 := (hEw16).size
   replace hV := evo_step1 hV hEw16 (by first | exact .inl (by omega) | exact .inr (by simp))
   replace hJ := evo_step1 hJ hEw16 (by first | exact .inl (by omega) | exact .inr (by simp))
   replace hbx := hbx0 _ hV
   replace hlm := hlm0 _ hV
   replace hl := hl0 _ hV
   replace hAb3 := hAb30 _ hJ
   replace hmo5 := hmo50 _ hJ
   replace hoo := hoo.evo hEw16 (by intro g hg hm; simp at hm; subst hm; have h7 := hobO g hg; omega)
   replace hir6 := hir6.evo hEw16 (by simp; omega) (by simp; omega)
   replace hbb14 := hb_new
   have hAb14 := hbb14.at
   clear hb_new
   refine r_nil ?_
   refine r_seq ?_
   have hsf := sel_facts hp.lvs hvo5 hs hAs (hpm.mem_iff.1 (List.mem_append_right _ (by rw [hl11]; simp) : p11 ∈ dn ++ left)); have hsa := sm3_of hs
   refine r_qregion (by kernel_rfl) (by kernel_rfl) ?_
   refine q_op rfl rfl rfl (fun w' hC => run_fa rfl (by exact rfl) fo_64_2) ?_
   refine q_op rfl rfl rfl (fun w' hC => run_ldN rfl ag_62 ty_62 (by exact rfl) rfl ((hAb3.evo0 hC).part 2 3 (ds := [_, _, _]) (by exact rfl))) ?_
   refine q_op rfl rfl rfl (fun w' hC => run_fa rfl (by exact rfl) fo_64_2) ?_
   refine q_op rfl rfl rfl (fun w' hC => run_ldN rfl ag_62 ty_62 (by exact rfl) rfl ((hAb14.evo0 hC).part 2 3 (ds := [_, _, _]) (by exact rfl))) ?_
   refine q_op rfl rfl rfl (fun w' hC => run_mv (v := (.map (some bo5))) rfl (by exact rfl)) ?_
   refine q_op rfl rfl rfl (fun w' hC => run_mv (v := .int _ _) rfl (by exact rfl)) ?_
   refine q_op rfl rfl rfl (fun w' hC => run_lookup1 (a := _) (z := (⟨0, 0, 0⟩ : Sum3)) (v := .agg _) (key_int Tryz.underlying3) rfl Tryz.underlying66 ty_62 (by exact rfl) (by exact rfl) (hmo5.evo0 hC) rfl) ?_
   refine q_call rfl rfl rfl (fun w' hC => run_callf rfl (argcons (v := .agg _) (by exact rfl) (argcons (v := .agg _) (by exact rfl) (argcons (v := .agg _) (by exact rfl) (rfl)))) Tryz.func22 rfl (by kernel_rfl)) (fun w' hC => (ixbound_calls (a := smL l) (b := p11.2.s) (c := vS mo5 p11.1) hsa hsf.1 hsf.2).mono (fun e w'' h => ⟨h.1, evo_step0 hC h.2⟩)) ?_
   refine q_op rfl rfl rfl (fun w' hC => run_fa rfl (by exact rfl) fo_64_3) ?_
   refine q_op rfl rfl rfl (fun w' hC => run_ld1 rfl ag_3 (by exact rfl) ((hAb3.evo0 hC).cell 5 (by exact rfl))) ?_
   refine q_op rfl rfl rfl (fun w' hC => run_fa rfl (by exact rfl) fo_64_3) ?_
   refine q_op rfl rfl rfl (fun w' hC => run_ld1 rfl ag_3 (by exact rfl) ((hAb14.evo0 hC).cell 5 (by exact rfl))) ?_
   refine q_op rfl rfl rfl (fun w' hC => run_max rfl (by exact rfl) (by exact rfl)) ?_
   refine q_op rfl rfl rfl (fun w' hC => run_mv (v := .int _ _) rfl (by exact rfl)) ?_
   refine q_call rfl rfl rfl (fun w' hC => run_callf rfl (argcons (v := .int _ _) (by exact rfl) (argcons (v := .int _ _) (by exact rfl) (rfl))) Tryz.func23 rfl (by kernel_rfl)) (fun w' hC => (allowed_calls ).mono (fun e w'' h => ⟨h.1, evo_step0 hC h.2⟩)) ?_
   refine q_op rfl rfl rfl (fun w' hC => run_leq rfl (by exact rfl) (by exact rfl)) ?_
   refine q_nil (fun w17 hE18 => ?_)
   have hs_w17 := (hE18).size
   replace hV := evo_step0 hV hE18
   replace hJ := evo_step0 hJ hE18
   replace hbx := hbx0 _ hV
   replace hlm := hlm0 _ hV
   replace hl := hl0 _ hV
   replace hAb3 := hAb30 _ hJ
   replace hmo5 := hmo50 _ hJ
   replace hoo := hoo.evo0 hE18
   replace hir6 := hir6.evo0 hE18
   refine r_cond (by exact rfl) (fun hc19 => ?_) (fun hc19 => ?_)
   ·skip
    have hsl := hc19
    refine r_region ?_
    refine r_op rfl rfl rfl (run_mv (v := vo) rfl (by exact rfl)) ?_
    refine r_op rfl rfl rfl (run_mv (v := .int _ _) rfl (by exact rfl)) ?_
    refine r_append1E (u := .int _ _) (y := _) rfl rfl Tryz.underlying22 ty_3 (by exact rfl) hoo (fun _ => (by exact rfl)) (by exact rfl) (by first | exact rfl | (show _ = List.toArray [_]; first | (dsimp only; done) | exact rfl | (dsimp only; exact rfl))) ((by omega)) ((by omega)) (by omega) ?_
    intro q_v20 v20 w21 hEw21 hov20 hlv20
    have hs_w21 := (hEw21).size
    replace hV := evo_stepo hV hEw21 (fun g hg => .inl (by first | exact (hoo.block hg).1 | (have := hoo.block hg; omega)))
    replace hJ := evo_stepo hJ hEw21 (fun g hg => .inl (by first | exact (hoo.block hg).1 | (have := hoo.block hg; omega)))
    replace hbx := hbx0 _ hV
    replace hlm := hlm0 _ hV
    replace hl := hl0 _ hV
    replace hAb3 := hAb30 _ hJ
    replace hmo5 := hmo50 _ hJ
    replace hir6 := hir6.evo hEw21 (by intro hm; have hm2 := Option.mem_toList.1 hm; first | (have := hoo.block hm2; omega) | (simp [Value.ownBlock] at hm2; omega)) (by intro hm; have hm2 := Option.mem_toList.1 hm; first | (have := hoo.block hm2; omega) | (simp [Value.ownBlock] at hm2; omega))
    refine r_op rfl rfl rfl (run_asg (v := v20) rfl (by exact rfl)) ?_
    refine r_nil ?_
    refine r_blk ?_
    refine r_again (l1_11 ++ l2_11) ?_ ?_ ?_
    ·rw [hl11]; simp
    ·refine ⟨_, (dn ++ [p11]), _, rfl, hir6, (by first | (rw [sel_yes hsl]; exact hov20) | (rw [sel_no hsl]; exact hov20)), (by rw [hl11] at hpm; have h9 := perm_step (f := id) (g := dn) (x := p11) (m := L) (by rw [List.map_id]; exact hpm) rfl; rw [List.map_id] at h9; exact h9), (by first | assumption | omega | (dsimp only; omega) | (simp; done)), hV, hJ⟩
    ·repeat (first | (with_reducible exact Agree.merge _ _ _) | (with_reducible exact Agree.refl _ _) | (with_reducible refine Agree.upd ?_ _ _ rfl) | ((with_reducible refine Agree.inner ?_ ?_); (kernel_rfl)))
   ·skip
    have hsl := hc19
    refine r_skip ?_
    refine r_blk ?_
    refine r_again (l1_11 ++ l2_11) ?_ ?_ ?_
    ·rw [hl11]; simp
    ·refine ⟨_, (dn ++ [p11]), _, rfl, hir6, (by first | (rw [sel_yes hsl]; exact hoo) | (rw [sel_no hsl]; exact hoo)), (by rw [hl11] at hpm; have h9 := perm_step (f := id) (g := dn) (x := p11) (m := L) (by rw [List.map_id]; exact hpm) rfl; rw [List.map_id] at h9; exact h9), (by first | assumption | omega | (dsimp only; omega) | (simp; done)), hV, hJ⟩
    ·repeat (first | (with_reducible exact Agree.merge _ _ _) | (with_reducible exact Agree.refl _ _) | (with_reducible refine Agree.upd ?_ _ _ rfl) | ((with_reducible refine Agree.inner ?_ ?_); (kernel_rfl)))
end Go.Proofs.YthbcklajlmcifaaGreat
namespace Go.Proofs.YthbcklajlmcifaaGreat
open Go.RowKit Go.Vc
theorem pl_33 : placesP Tryz.prog 33 = some [(0, 1), (1, 1)] := by kernel_rfl
theorem ty_33 : tyP Tryz.prog 33 = some (2, 32, some (.agg #[(.slice none 0 0), (.int .i64 0)])) := by kernel_rfl
set_option maxHeartbeats 1000000 in
theorem near15_calls {aot : Option Addr} {bt offt capt : Nat} {t : List Vc.Item} {ao : Option Addr} {b off cap : Nat} {l : List Int} {B : Nat} {w0 : World} (ht : RowE w0 aot bt offt capt t) (hl : RowE w0 ao b off cap l) (hq : ∀ x ∈ t, x.text.length ≤ B) (hB : B ≤ 1000000000) (hs : t.length ≤ 100000) :
    Calls Tryz.prog 17 #[.slice aot t.length capt, .slice ao l.length cap] w0 fun e w' => ∃ v, ∃ lo : List Vc.Item, e = .returned v ∧ Evo w0 w' [] ∧ OwnE w' w0.heap.size 43 v lo ∧ NR B t.length lo := by
 refine calls_enter (n := 49) (args := [.slice aot t.length capt, .slice ao l.length cap]) Tryz.func17 rfl Tryz.ntmps17 rfl ?_
 have hV : Evo w0 w0 [] := Evo.refl _ _
 have ht0 := keepE ht
 have hbd_ht := ht.bd
 have hl0 := keepE hl
 have hbd_hl := hl.bd
 refine r_seq ?_
 refine r_region ?_
 refine r_op rfl rfl rfl (run_asg (v := .slice _ _ _) rfl (by exact rfl)) ?_
 refine r_nil ?_
 refine r_seq ?_
 refine r_region ?_
 refine r_op rfl rfl rfl (run_mv (v := .slice _ _ _) rfl (by exact rfl)) ?_
 refine r_op rfl rfl rfl (run_bld (pv := [(0, .slice _ _ _)]) (zs := [_, _]) (cells := [_, _]) rfl ty_33 (by exact rfl) pl_33 (by exact rfl) (by exact rfl)) ?_
 refine r_box (vs := [_, _]) (by exact rfl) (by exact rfl) rfl ?_
 intro b1 w2 heb1 hEw2 hbb1 hzb1
 have hs_w2 := (hEw2).size
 replace hV := evo_step0 hV hEw2
 replace ht := ht0 _ hV
 replace hl := hl0 _ hV
 have hAb1 := hbb1.at
 refine r_op rfl rfl rfl (run_asg (v := .pointer _) rfl (by exact rfl)) ?_
 refine r_nil ?_
 refine r_seq ?_
 refine r_region ?_
 refine r_op rfl rfl rfl (run_asg (v := .slice _ _ _) rfl (by exact rfl)) ?_
 refine r_nil ?_
 refine r_seq ?_
 refine r_seq ?_
 refine r_region ?_
 refine r_op rfl rfl rfl (run_mv (v := .slice _ _ _) rfl (by exact rfl)) ?_
 refine r_op rfl rfl rfl (run_lenSl rfl (by exact rfl) Tryz.underlying23) ?_
 refine r_op rfl rfl rfl (run_mv (v := .int _ _) rfl (by exact rfl)) ?_
 refine r_nil ?_
 refine r_block ?_
 refine r_loop (α := Nat) [6, 8, 14, 15, 16, 17, 18, 19, 20, 21, 22, 23, 24, 25, 26, 27, 28, 29, 30, 31, 32, 33, 34, 35, 36, 37, 38, 39, 40, 41, 42, 43, 44, 45, 46, 47] (fun k g w => ∃ vo : Value, ∃ lo : List Vc.Item, g 14 = .int .i64 (k : Nat) ∧ g 6 = vo ∧ k ≤ t.length ∧ OwnE w w2.heap.size 43 vo lo ∧ Blk w b1 33 [.slice ao l.length cap, .int .i64 ((k : Nat) : Int)] ∧ NR B k lo ∧ w2.heap.size ≤ w.heap.size ∧ Evo w0 w []) (fun k => t.length - k) 0 ?_ ?_
 ·refine ⟨_, [], (by first | exact rfl | exact congrArg (Value.int _) (by omega) | exact congrArg (Value.int _) (by dsimp only; omega) | exact congrArg (Value.int _) (by simp) | exact congrArg S (by simp)), rfl, (by first | assumption | omega | (dsimp only; omega) | (simp; done)), (OwnE.nil _ _ _), hbb1, (NR.nil B), (by first | assumption | omega | (dsimp only; omega) | (simp; done)), hV⟩
 ·rintro k g w4 ⟨vo, lo, hj5, hj6, hk_k, hoo, hbb1, hnr, hzl3, hV⟩
  have hs_w4hV := hV.size
  have hlt7 := hbb1.lt
  replace ht := ht0 _ hV
  replace hl := hl0 _ hV
  refine r_know (i := 14) (v := .int .i64 (k : Nat)) (by exact hj5) ?_
  refine r_know (i := 6) (v := vo) (by exact hj6) ?_
  have hlo := hnr.1
  have hqk := getD_text hq k
  have hqs := app1_le (t := [115]) hqk rfl
  have hq1 : List.length ([115] : Str) = 1 := rfl
  refine r_seq ?_
  refine r_region ?_
  refine r_op rfl rfl rfl (run_lss rfl (by exact rfl) (by exact rfl)) ?_
  refine r_nil ?_
  refine r_seq ?_
  refine r_cond (by exact rfl) (fun hc8 => ?_) (fun hc8 => ?_)
  ·skip
   refine r_skip ?_
   refine r_seq ?_
   refine r_block ?_
   refine r_seq ?_
   have hobO := fun g hg => (hoo.block (g := g) hg).2
   refine r_region ?_
   refine r_op rfl rfl rfl (run_ix (k) rfl Tryz.underlying23 ty_43 (by exact rfl) (by exact rfl) (by first | exact rfl | omega) (by omega) (ht.addr (i := k) (by omega))) ?_
   have hA90 := fun (w' : World) (h : Evo w0 w' []) => (ht0 w' h).atD (k) (by omega)
   have hA9 := hA90 _ hV
   refine r_op rfl rfl rfl (run_ldN rfl ag_43 ty_43 (by exact rfl) rfl hA9) ?_
   have hob10 := fun g hg => (hoo.block (g := g) hg).2
   refine r_var (zs := [_, _, _]) (vs := [_, _, _]) ty_43 (by exact rfl) rfl (by exact rfl) (fun _ => rfl) (by exact rfl) rfl rfl (by exact rfl) ?_
   intro b11 w12 heb11 hEw12 hbb11 hzb11
   have hs_w12 := (hEw12).size
   replace hV := evo_step0 hV hEw12
   replace ht := ht0 _ hV
   replace hl := hl0 _ hV
   replace hoo := hoo.evo0 hEw12
   replace hbb1 := hbb1.evo0 hEw12
   have hAb11 := hbb11.at
   refine r_nil ?_
   refine r_seq ?_
   refine r_seq ?_
   refine r_region ?_
   refine r_op rfl rfl rfl (run_mv (v := .pointer _) rfl (by exact rfl)) ?_
   refine r_opcall rfl rfl rfl (run_callf (vs := [.pointer _, .int _ _]) rfl (by exact rfl) Tryz.func16 rfl (by kernel_rfl)) (inx_calls hbb1 hl (by omega) (by omega) (by omega)) ?_
   rintro e w13 ⟨nx13, rfl, hx13, hE13, hn13⟩
   refine ⟨_, rfl, ?_⟩
   have hs_w13 := (hE13).size
   replace hV := evo_step1 hV hE13 (by first | exact .inl (by omega) | exact .inr (by simp))
   replace ht := ht0 _ hV
   replace hl := hl0 _ hV
   replace hoo := hoo.evo hE13 (by intro g hg hm; simp at hm; subst hm; have h7 := hobO g hg; have h8 := (hoo.block (g := g) hg).1; omega)
   replace hbb11 := hbb11.evo hE13 (by simp; omega)
   replace hAb11 := hAb11.evo hE13 (by simp; omega)
   replace hbb1 := hn13
   clear hn13
   have hAb1 := hbb1.at
   refine r_nil ?_
   refine r_block ?_
   refine r_seq ?_
   refine r_region ?_
   refine r_op rfl rfl rfl (run_eql rfl (by exact rfl) (by exact rfl)) ?_
   refine r_op rfl rfl rfl (run_asg (v := .bool _) rfl (by exact rfl)) ?_
   refine r_nil ?_
   refine r_cond (by exact rfl) (fun hc14 => ?_) (fun hc14 => ?_)
   ·skip
    refine r_exit rfl ?_
    refine r_region ?_
    refine r_op rfl rfl rfl (run_add rfl (by exact rfl) (by exact rfl) (by omega) (by omega)) ?_
    refine r_op rfl rfl rfl (run_mv (v := .int _ _) rfl (by exact rfl)) ?_
    refine r_nil ?_
    refine r_again (k + 1) ?_ ?_ ?_
    ·first | omega | (dsimp only; omega)
    ·refine ⟨_, _, (by first | exact rfl | exact congrArg (Value.int _) (by omega) | exact congrArg (Value.int _) (by dsimp only; omega) | exact congrArg (Value.int _) (by simp) | exact congrArg S (by simp)), rfl, (by first | assumption | omega | (dsimp only; omega) | (simp; done)), hoo, hbb1, (by first | exact hnr.skip | exact hnr.two (Nat.le_add_left 4 B) (Nat.le_add_right_of_le hqk) | exact hnr.two (Nat.le_add_right_of_le hqk) (Nat.le_add_right_of_le hqk) | exact hnr.one (Nat.le_add_right_of_le hqk) | exact hnr.one hqs), (by first | assumption | omega | (dsimp only; omega) | (simp; done)), hV⟩
    ·repeat (first | (with_reducible exact Agree.merge _ _ _) | (with_reducible exact Agree.refl _ _) | (with_reducible refine Agree.upd ?_ _ _ rfl) | ((with_reducible refine Agree.inner ?_ ?_); (kernel_rfl)))
   ·skip
    refine r_seq ?_
    refine r_region ?_
    refine r_op rfl rfl rfl (run_eql rfl (by exact rfl) (by exact rfl)) ?_
    refine r_op rfl rfl rfl (run_asg (v := .bool _) rfl (by exact rfl)) ?_
    refine r_nil ?_
    refine r_cond (by exact rfl) (fun hc15 => ?_) (fun hc15 => ?_)
    ·skip
     refine r_region ?_
     refine r_op rfl rfl rfl (run_mv (v := vo) rfl (by exact rfl)) ?_
     refine r_op rfl rfl rfl (run_bld (pv := [(0, .int _ _), (1, S _)]) (zs := [_, _, _]) (cells := [_, _, _]) rfl ty_43 (by exact rfl) pl_43 (by exact rfl) (by exact rfl)) ?_
     refine r_append1E (u := .agg _) (y := (⟨6, [98, 108, 117, 101], 0⟩ : Vc.Item)) rfl rfl Tryz.underlying23 ty_43 (by exact rfl) hoo (fun _ => (by exact rfl)) (by exact rfl) (by first | exact rfl | (show _ = List.toArray [_, _, _]; first | (dsimp only; done) | exact rfl | (dsimp only; exact rfl))) ((by first | omega | (simp; omega))) ((by first | omega | (simp; omega))) (by omega) ?_
     intro q_v16 v16 w17 hEw17 hov16 hlv16
     have hs_w17 := (hEw17).size
     replace hV := evo_stepo hV hEw17 (fun g hg => .inl (by first | exact (hoo.block hg).1 | (have := hoo.block hg; omega)))
     replace ht := ht0 _ hV
     replace hl := hl0 _ hV
     replace hbb11 := hbb11.evo hEw17 (by intro hm; have hm2 := Option.mem_toList.1 hm; have := hob10 _ hm2; omega)
     replace hAb11 := hAb11.evo hEw17 (by intro hm; have hm2 := Option.mem_toList.1 hm; have := hob10 _ hm2; omega)
     replace hbb1 := hbb1.evo hEw17 (by intro hm; have hm2 := Option.mem_toList.1 hm; first | (have := hoo.block hm2; omega) | (simp [Value.ownBlock] at hm2; omega))
     replace hAb1 := hAb1.evo hEw17 (by intro hm; have hm2 := Option.mem_toList.1 hm; first | (have := hoo.block hm2; omega) | (simp [Value.ownBlock] at hm2; omega))
     refine r_op rfl rfl rfl (run_asg (v := v16) rfl (by exact rfl)) ?_
     refine r_nil ?_
     refine r_blk ?_
     refine r_region ?_
     refine r_op rfl rfl rfl (run_mv (v := v16) rfl (by exact rfl)) ?_
     refine r_op rfl rfl rfl (run_ldN rfl ag_43 ty_43 (by exact rfl) rfl hAb11) ?_
     refine r_append1E (u := .agg _) (y := ⟨(t.getD k default).kind, _, (t.getD k default).id⟩) rfl rfl Tryz.underlying23 ty_43 (by exact rfl) hov16 (fun _ => (by exact rfl)) (by exact rfl) (by first | exact rfl | (show _ = List.toArray [_, _, _]; first | (dsimp only; done) | exact rfl | (dsimp only; exact rfl))) ((by first | omega | (simp; omega))) ((by first | omega | (simp; omega))) (by omega) ?_
     intro q_v18 v18 w19 hEw19 hov18 hlv18
     have hs_w19 := (hEw19).size
     replace hV := evo_stepo hV hEw19 (fun g hg => .inl (by first | exact (hov16.block hg).1 | (have := hov16.block hg; omega)))
     replace ht := ht0 _ hV
     replace hl := hl0 _ hV
     replace hbb1 := hbb1.evo hEw19 (by intro hm; have hm2 := Option.mem_toList.1 hm; first | (have := hov16.block hm2; omega) | (simp [Value.ownBlock] at hm2; omega))
     replace hAb1 := hAb1.evo hEw19 (by intro hm; have hm2 := Option.mem_toList.1 hm; first | (have := hov16.block hm2; omega) | (simp [Value.ownBlock] at hm2; omega))
     refine r_op rfl rfl rfl (run_asg (v := v18) rfl (by exact rfl)) ?_
     refine r_nil ?_
     refine r_blk ?_
     refine r_region ?_
     refine r_op rfl rfl rfl (run_add rfl (by exact rfl) (by exact rfl) (by omega) (by omega)) ?_
     refine r_op rfl rfl rfl (run_mv (v := .int _ _) rfl (by exact rfl)) ?_
     refine r_nil ?_
     refine r_again (k + 1) ?_ ?_ ?_
     ·first | omega | (dsimp only; omega)
     ·refine ⟨_, _, (by first | exact rfl | exact congrArg (Value.int _) (by omega) | exact congrArg (Value.int _) (by dsimp only; omega) | exact congrArg (Value.int _) (by simp) | exact congrArg S (by simp)), rfl, (by first | assumption | omega | (dsimp only; omega) | (simp; done)), hov18, hbb1, (by first | exact hnr.skip | exact hnr.two (Nat.le_add_left 4 B) (Nat.le_add_right_of_le hqk) | exact hnr.two (Nat.le_add_right_of_le hqk) (Nat.le_add_right_of_le hqk) | exact hnr.one (Nat.le_add_right_of_le hqk) | exact hnr.one hqs), (by first | assumption | omega | (dsimp only; omega) | (simp; done)), hV⟩
     ·repeat (first | (with_reducible exact Agree.merge _ _ _) | (with_reducible exact Agree.refl _ _) | (with_reducible refine Agree.upd ?_ _ _ rfl) | ((with_reducible refine Agree.inner ?_ ?_); (kernel_rfl)))
    ·skip
     refine r_seq ?_
     refine r_region ?_
     refine r_op rfl rfl rfl (run_eql rfl (by exact rfl) (by exact rfl)) ?_
     refine r_op rfl rfl rfl (run_asg (v := .bool _) rfl (by exact rfl)) ?_
     refine r_nil ?_
     refine r_cond (by exact rfl) (fun hc20 => ?_) (fun hc20 => ?_)
     ·skip
      refine r_seq ?_
      refine r_region ?_
      refine r_op rfl rfl rfl (run_fa rfl (by exact rfl) fo_43_0) ?_
      refine r_op rfl rfl rfl (run_ld1 rfl ag_3 (by exact rfl) (hAb11.cell 0 (by exact rfl))) ?_
      refine r_op rfl rfl rfl (run_eql rfl (by exact rfl) (by exact rfl)) ?_
      refine r_nil ?_
      refine r_cond (by exact rfl) (fun hc21 => ?_) (fun hc21 => ?_)
      ·skip
       refine r_region ?_
       refine r_op rfl rfl rfl (run_fa rfl (by exact rfl) fo_43_1) ?_
       refine r_op rfl rfl rfl (run_ld1 rfl ag_9 (by exact rfl) (hAb11.cell 1 (by exact rfl))) ?_
       refine r_op rfl rfl rfl (run_sadd rfl (by exact rfl) (by exact rfl) (by first | omega | (simp; done) | (simp; omega))) ?_
       refine r_op rfl rfl rfl (run_fa rfl (by exact rfl) fo_43_1) ?_
       refine r_store (v := S _) (vs := [_]) (cs' := [_, _, _]) (by exact rfl) (by exact rfl) hbb11 ty_9 (by exact rfl) rfl (by exact rfl) rfl (by exact rfl) ?_
       intro w22 hEw22 hzw22 hb_new
       have hs_w22 := (hEw22).size
       replace hV := evo_step1 hV hEw22 (by first | exact .inl (by omega) | exact .inr (by simp))
       replace ht := ht0 _ hV
       replace hl := hl0 _ hV
       replace hoo := hoo.evo hEw22 (by intro g hg hm; simp at hm; subst hm; have h7 := hobO g hg; have h8 := (hoo.block (g := g) hg).1; omega)
       replace hbb1 := hbb1.evo hEw22 (by simp; omega)
       replace hAb1 := hAb1.evo hEw22 (by simp; omega)
       replace hbb11 := hb_new
       have hAb11 := hbb11.at
       clear hb_new
       refine r_nil ?_
       refine r_blk ?_
       refine r_region ?_
       refine r_op rfl rfl rfl (run_mv (v := vo) rfl (by exact rfl)) ?_
       refine r_op rfl rfl rfl (run_ldN rfl ag_43 ty_43 (by exact rfl) rfl hAb11) ?_
       refine r_append1E (u := .agg _) (y := ⟨(t.getD k default).kind, _, (t.getD k default).id⟩) rfl rfl Tryz.underlying23 ty_43 (by exact rfl) hoo (fun _ => (by exact rfl)) (by exact rfl) (by first | exact rfl | (show _ = List.toArray [_, _, _]; first | (dsimp only; done) | exact rfl | (dsimp only; exact rfl))) ((by first | omega | (simp; omega))) ((by first | omega | (simp; omega))) (by omega) ?_
       intro q_v23 v23 w24 hEw24 hov23 hlv23
       have hs_w24 := (hEw24).size
       replace hV := evo_stepo hV hEw24 (fun g hg => .inl (by first | exact (hoo.block hg).1 | (have := hoo.block hg; omega)))
       replace ht := ht0 _ hV
       replace hl := hl0 _ hV
       replace hbb1 := hbb1.evo hEw24 (by intro hm; have hm2 := Option.mem_toList.1 hm; first | (have := hoo.block hm2; omega) | (simp [Value.ownBlock] at hm2; omega))
       replace hAb1 := hAb1.evo hEw24 (by intro hm; have hm2 := Option.mem_toList.1 hm; first | (have := hoo.block hm2; omega) | (simp [Value.ownBlock] at hm2; omega))
       refine r_op rfl rfl rfl (run_asg (v := v23) rfl (by exact rfl)) ?_
       refine r_nil ?_
       refine r_blk ?_
       refine r_region ?_
       refine r_op rfl rfl rfl (run_add rfl (by exact rfl) (by exact rfl) (by omega) (by omega)) ?_
       refine r_op rfl rfl rfl (run_mv (v := .int _ _) rfl (by exact rfl)) ?_
       refine r_nil ?_
       refine r_again (k + 1) ?_ ?_ ?_
       ·first | omega | (dsimp only; omega)
       ·refine ⟨_, _, (by first | exact rfl | exact congrArg (Value.int _) (by omega) | exact congrArg (Value.int _) (by dsimp only; omega) | exact congrArg (Value.int _) (by simp) | exact congrArg S (by simp)), rfl, (by first | assumption | omega | (dsimp only; omega) | (simp; done)), hov23, hbb1, (by first | exact hnr.skip | exact hnr.two (Nat.le_add_left 4 B) (Nat.le_add_right_of_le hqk) | exact hnr.two (Nat.le_add_right_of_le hqk) (Nat.le_add_right_of_le hqk) | exact hnr.one (Nat.le_add_right_of_le hqk) | exact hnr.one hqs), (by first | assumption | omega | (dsimp only; omega) | (simp; done)), hV⟩
       ·repeat (first | (with_reducible exact Agree.merge _ _ _) | (with_reducible exact Agree.refl _ _) | (with_reducible refine Agree.upd ?_ _ _ rfl) | ((with_reducible refine Agree.inner ?_ ?_); (kernel_rfl)))
      ·skip
       refine r_skip ?_
       refine r_blk ?_
       refine r_region ?_
       refine r_op rfl rfl rfl (run_mv (v := vo) rfl (by exact rfl)) ?_
       refine r_op rfl rfl rfl (run_ldN rfl ag_43 ty_43 (by exact rfl) rfl hAb11) ?_
       refine r_append1E (u := .agg _) (y := ⟨(t.getD k default).kind, _, (t.getD k default).id⟩) rfl rfl Tryz.underlying23 ty_43 (by exact rfl) hoo (fun _ => (by exact rfl)) (by exact rfl) (by first | exact rfl | (show _ = List.toArray [_, _, _]; first | (dsimp only; done) | exact rfl | (dsimp only; exact rfl))) ((by first | omega | (simp; omega))) ((by first | omega | (simp; omega))) (by omega) ?_
       intro q_v25 v25 w26 hEw26 hov25 hlv25
       have hs_w26 := (hEw26).size
       replace hV := evo_stepo hV hEw26 (fun g hg => .inl (by first | exact (hoo.block hg).1 | (have := hoo.block hg; omega)))
       replace ht := ht0 _ hV
       replace hl := hl0 _ hV
       replace hbb1 := hbb1.evo hEw26 (by intro hm; have hm2 := Option.mem_toList.1 hm; first | (have := hoo.block hm2; omega) | (simp [Value.ownBlock] at hm2; omega))
       replace hAb1 := hAb1.evo hEw26 (by intro hm; have hm2 := Option.mem_toList.1 hm; first | (have := hoo.block hm2; omega) | (simp [Value.ownBlock] at hm2; omega))
       refine r_op rfl rfl rfl (run_asg (v := v25) rfl (by exact rfl)) ?_
       refine r_nil ?_
       refine r_blk ?_
       refine r_region ?_
       refine r_op rfl rfl rfl (run_add rfl (by exact rfl) (by exact rfl) (by omega) (by omega)) ?_
       refine r_op rfl rfl rfl (run_mv (v := .int _ _) rfl (by exact rfl)) ?_
       refine r_nil ?_
       refine r_again (k + 1) ?_ ?_ ?_
       ·first | omega | (dsimp only; omega)
       ·refine ⟨_, _, (by first | exact rfl | exact congrArg (Value.int _) (by omega) | exact congrArg (Value.int _) (by dsimp only; omega) | exact congrArg (Value.int _) (by simp) | exact congrArg S (by simp)), rfl, (by first | assumption | omega | (dsimp only; omega) | (simp; done)), hov25, hbb1, (by first | exact hnr.skip | exact hnr.two (Nat.le_add_left 4 B) (Nat.le_add_right_of_le hqk) | exact hnr.two (Nat.le_add_right_of_le hqk) (Nat.le_add_right_of_le hqk) | exact hnr.one (Nat.le_add_right_of_le hqk) | exact hnr.one hqs), (by first | assumption | omega | (dsimp only; omega) | (simp; done)), hV⟩
       ·repeat (first | (with_reducible exact Agree.merge _ _ _) | (with_reducible exact Agree.refl _ _) | (with_reducible refine Agree.upd ?_ _ _ rfl) | ((with_reducible refine Agree.inner ?_ ?_); (kernel_rfl)))
     ·skip
      refine r_seq ?_
      refine r_region ?_
      refine r_op rfl rfl rfl (run_eql rfl (by exact rfl) (by exact rfl)) ?_
      refine r_op rfl rfl rfl (run_asg (v := .bool _) rfl (by exact rfl)) ?_
      refine r_nil ?_
      refine r_cond (by exact rfl) (fun hc27 => ?_) (fun hc27 => ?_)
      ·skip
       refine r_region ?_
       refine r_op rfl rfl rfl (run_mv (v := vo) rfl (by exact rfl)) ?_
       refine r_op rfl rfl rfl (run_ldN rfl ag_43 ty_43 (by exact rfl) rfl hAb11) ?_
       refine r_append1E (u := .agg _) (y := (t.getD k default : Vc.Item)) rfl rfl Tryz.underlying23 ty_43 (by exact rfl) hoo (fun _ => (by exact rfl)) (by exact rfl) (by first | exact rfl | (show _ = List.toArray [_, _, _]; first | (dsimp only; done) | exact rfl | (dsimp only; exact rfl))) ((by first | omega | (simp; omega))) ((by first | omega | (simp; omega))) (by omega) ?_
       intro q_v28 v28 w29 hEw29 hov28 hlv28
       have hs_w29 := (hEw29).size
       replace hV := evo_stepo hV hEw29 (fun g hg => .inl (by first | exact (hoo.block hg).1 | (have := hoo.block hg; omega)))
       replace ht := ht0 _ hV
       replace hl := hl0 _ hV
       replace hbb11 := hbb11.evo hEw29 (by intro hm; have hm2 := Option.mem_toList.1 hm; have := hob10 _ hm2; omega)
       replace hAb11 := hAb11.evo hEw29 (by intro hm; have hm2 := Option.mem_toList.1 hm; have := hob10 _ hm2; omega)
       replace hbb1 := hbb1.evo hEw29 (by intro hm; have hm2 := Option.mem_toList.1 hm; first | (have := hoo.block hm2; omega) | (simp [Value.ownBlock] at hm2; omega))
       replace hAb1 := hAb1.evo hEw29 (by intro hm; have hm2 := Option.mem_toList.1 hm; first | (have := hoo.block hm2; omega) | (simp [Value.ownBlock] at hm2; omega))
       refine r_op rfl rfl rfl (run_asg (v := v28) rfl (by exact rfl)) ?_
       refine r_nil ?_
       refine r_blk ?_
       refine r_region ?_
       refine r_op rfl rfl rfl (run_mv (v := v28) rfl (by exact rfl)) ?_
       refine r_op rfl rfl rfl (run_ldN rfl ag_43 ty_43 (by exact rfl) rfl hAb11) ?_
       refine r_append1E (u := .agg _) (y := ⟨(t.getD k default).kind, _, (t.getD k default).id⟩) rfl rfl Tryz.underlying23 ty_43 (by exact rfl) hov28 (fun _ => (by exact rfl)) (by exact rfl) (by first | exact rfl | (show _ = List.toArray [_, _, _]; first | (dsimp only; done) | exact rfl | (dsimp only; exact rfl))) ((by first | omega | (simp; omega))) ((by first | omega | (simp; omega))) (by omega) ?_
       intro q_v30 v30 w31 hEw31 hov30 hlv30
       have hs_w31 := (hEw31).size
       replace hV := evo_stepo hV hEw31 (fun g hg => .inl (by first | exact (hov28.block hg).1 | (have := hov28.block hg; omega)))
       replace ht := ht0 _ hV
       replace hl := hl0 _ hV
       replace hbb1 := hbb1.evo hEw31 (by intro hm; have hm2 := Option.mem_toList.1 hm; first | (have := hov28.block hm2; omega) | (simp [Value.ownBlock] at hm2; omega))
       replace hAb1 := hAb1.evo hEw31 (by intro hm; have hm2 := Option.mem_toList.1 hm; first | (have := hov28.block hm2; omega) | (simp [Value.ownBlock] at hm2; omega))
       refine r_op rfl rfl rfl (run_asg (v := v30) rfl (by exact rfl)) ?_
       refine r_nil ?_
       refine r_blk ?_
       refine r_region ?_
       refine r_op rfl rfl rfl (run_add rfl (by exact rfl) (by exact rfl) (by omega) (by omega)) ?_
       refine r_op rfl rfl rfl (run_mv (v := .int _ _) rfl (by exact rfl)) ?_
       refine r_nil ?_
       refine r_again (k + 1) ?_ ?_ ?_
       ·first | omega | (dsimp only; omega)
       ·refine ⟨_, _, (by first | exact rfl | exact congrArg (Value.int _) (by omega) | exact congrArg (Value.int _) (by dsimp only; omega) | exact congrArg (Value.int _) (by simp) | exact congrArg S (by simp)), rfl, (by first | assumption | omega | (dsimp only; omega) | (simp; done)), hov30, hbb1, (by first | exact hnr.skip | exact hnr.two (Nat.le_add_left 4 B) (Nat.le_add_right_of_le hqk) | exact hnr.two (Nat.le_add_right_of_le hqk) (Nat.le_add_right_of_le hqk) | exact hnr.one (Nat.le_add_right_of_le hqk) | exact hnr.one hqs), (by first | assumption | omega | (dsimp only; omega) | (simp; done)), hV⟩
       ·repeat (first | (with_reducible exact Agree.merge _ _ _) | (with_reducible exact Agree.refl _ _) | (with_reducible refine Agree.upd ?_ _ _ rfl) | ((with_reducible refine Agree.inner ?_ ?_); (kernel_rfl)))
      ·skip
       refine r_skip ?_
       refine r_blk ?_
       refine r_region ?_
       refine r_op rfl rfl rfl (run_mv (v := vo) rfl (by exact rfl)) ?_
       refine r_op rfl rfl rfl (run_ldN rfl ag_43 ty_43 (by exact rfl) rfl hAb11) ?_
       refine r_append1E (u := .agg _) (y := ⟨(t.getD k default).kind, _, (t.getD k default).id⟩) rfl rfl Tryz.underlying23 ty_43 (by exact rfl) hoo (fun _ => (by exact rfl)) (by exact rfl) (by first | exact rfl | (show _ = List.toArray [_, _, _]; first | (dsimp only; done) | exact rfl | (dsimp only; exact rfl))) ((by first | omega | (simp; omega))) ((by first | omega | (simp; omega))) (by omega) ?_
       intro q_v32 v32 w33 hEw33 hov32 hlv32
       have hs_w33 := (hEw33).size
       replace hV := evo_stepo hV hEw33 (fun g hg => .inl (by first | exact (hoo.block hg).1 | (have := hoo.block hg; omega)))
       replace ht := ht0 _ hV
       replace hl := hl0 _ hV
       replace hbb1 := hbb1.evo hEw33 (by intro hm; have hm2 := Option.mem_toList.1 hm; first | (have := hoo.block hm2; omega) | (simp [Value.ownBlock] at hm2; omega))
       replace hAb1 := hAb1.evo hEw33 (by intro hm; have hm2 := Option.mem_toList.1 hm; first | (have := hoo.block hm2; omega) | (simp [Value.ownBlock] at hm2; omega))
       refine r_op rfl rfl rfl (run_asg (v := v32) rfl (by exact rfl)) ?_
       refine r_nil ?_
       refine r_blk ?_
       refine r_region ?_
       refine r_op rfl rfl rfl (run_add rfl (by exact rfl) (by exact rfl) (by omega) (by omega)) ?_
       refine r_op rfl rfl rfl (run_mv (v := .int _ _) rfl (by exact rfl)) ?_
       refine r_nil ?_
       refine r_again (k + 1) ?_ ?_ ?_
       ·first | omega | (dsimp only; omega)
       ·refine ⟨_, _, (by first | exact rfl | exact congrArg (Value.int _) (by omega) | exact congrArg (Value.int _) (by dsimp only; omega) | exact congrArg (Value.int _) (by simp) | exact congrArg S (by simp)), rfl, (by first | assumption | omega | (dsimp only; omega) | (simp; done)), hov32, hbb1, (by first | exact hnr.skip | exact hnr.two (Nat.le_add_left 4 B) (Nat.le_add_right_of_le hqk) | exact hnr.two (Nat.le_add_right_of_le hqk) (Nat.le_add_right_of_le hqk) | exact hnr.one (Nat.le_add_right_of_le hqk) | exact hnr.one hqs), (by first | assumption | omega | (dsimp only; omega) | (simp; done)), hV⟩
       ·repeat (first | (with_reducible exact Agree.merge _ _ _) | (with_reducible exact Agree.refl _ _) | (with_reducible refine Agree.upd ?_ _ _ rfl) | ((with_reducible refine Agree.inner ?_ ?_); (kernel_rfl)))
  ·skip
   refine r_exit rfl ?_
   refine r_seq ?_
   refine r_region ?_
   refine r_op rfl rfl rfl (run_mv (v := vo) rfl (by exact rfl)) ?_
   refine r_op rfl rfl rfl (run_asg (v := vo) rfl (by exact rfl)) ?_
   refine r_nil ?_
   refine r_ret (res1 (v := vo) rfl (by exact rfl)) ?_
   exact ⟨_, _, rfl, hV, hoo.base_le (by omega), by rw [show k = t.length by omega] at hnr; exact hnr⟩
theorem kla9 : (toks KRa).length ≤ 1000000 := Nat.le_trans kla (by decide)
theorem klb9 : (toks KRb).length ≤ 1000000 := Nat.le_trans klb (by decide)
theorem kas : ∀ q ∈ ([(7, toks KRa)] : Stored), q.2.length ≤ 1000000 := fun q hq => by
  have e : q = (7, toks KRa) := by simpa using hq
  rw [e]; exact kla9
theorem kad : addOk [] 7 := by unfold addOk; simp
theorem kad2 {l : List Vc.Item} : ¬ addOk [(7, l)] 7 := fun h => h (.inl (by simp))
theorem known15_calls  {w0 : World}  :
    Calls Tryz.prog 5 #[] w0 fun e w' => e = .returned (.bool true) ∧ Evo w0 w' [] := by
 refine calls_enter (n := 39) (args := []) Tryz.func5 rfl Tryz.ntmps5 rfl ?_
 have hV : Evo w0 w0 [] := Evo.refl _ _
 refine r_seq ?_
 refine r_region ?_
 refine r_op rfl rfl rfl (run_asg (v := .bool _) rfl (by exact rfl)) ?_
 refine r_nil ?_
 refine r_seq ?_
 refine r_region ?_
 refine r_opcall rfl rfl rfl (run_callf (vs := []) rfl (by exact rfl) Tryz.func6 rfl (by kernel_rfl)) ixnew_calls ?_
 rintro e w1 ⟨bx1, fx1, rfl, hE1, hx1, hfx1⟩
 refine ⟨_, rfl, ?_⟩
 have hs_w1 := (hE1).size
 replace hV := evo_step0 hV hE1
 refine r_op rfl rfl rfl (run_asg (v := (.pointer (some ⟨bx1, 0, none⟩))) rfl (by exact rfl)) ?_
 refine r_nil ?_
 refine r_seq ?_
 have hFl := hx1.lt; have hFhx1 := hfx1
 refine r_region ?_
 refine r_op rfl rfl rfl (run_bld (pv := [(0, .int _ _), (1, S _)]) (zs := [_, _, _]) (cells := [_, _, _]) rfl ty_45 (by exact rfl) pl_45 (by exact rfl) (by exact rfl)) ?_
 refine r_bslice (pv := [(0, .agg _)]) (zs := [_, _, _]) (cs := [_, _, _]) Tryz.underlying46 ty_45 (by exact rfl) rfl (by exact rfl) rfl (by exact rfl) ?_
 intro b2 w3 heb2 hEw3 hbb2 hzb2
 have hs_w3 := (hEw3).size
 replace hV := evo_step0 hV hEw3
 replace hx1 := hx1.evo0 hEw3
 have hAb2 := hbb2.at
 have hrb2 : RowE w3 (some ⟨b2, 0, none⟩) b2 0 1 KRa := rowLit KRa hbb2 rfl rfl
 refine r_opcall rfl rfl rfl (run_callf (vs := [.slice (some ⟨b2, 0, none⟩) _ _]) rfl (by exact rfl) Tryz.func14 rfl (by kernel_rfl)) (rtokens_calls hrb2 (by decide)) ?_
 rintro e w4 ⟨vt4, rfl, hE4, hot4⟩
 refine ⟨_, rfl, ?_⟩
 have hs_w4 := (hE4).size
 replace hV := evo_step0 hV hE4
 replace hx1 := hx1.evo0 hE4
 replace hrb2 := hrb2.evo0 hE4
 refine r_op rfl rfl rfl (run_asg (v := vt4) rfl (by exact rfl)) ?_
 refine r_nil ?_
 refine r_seq ?_
 refine r_region ?_
 refine r_op rfl rfl rfl (run_bld (pv := [(0, .int _ _), (1, S _)]) (zs := [_, _, _]) (cells := [_, _, _]) rfl ty_45 (by exact rfl) pl_45 (by exact rfl) (by exact rfl)) ?_
 refine r_bslice (pv := [(0, .agg _)]) (zs := [_, _, _]) (cs := [_, _, _]) Tryz.underlying46 ty_45 (by exact rfl) rfl (by exact rfl) rfl (by exact rfl) ?_
 intro b5 w6 heb5 hEw6 hbb5 hzb5
 have hs_w6 := (hEw6).size
 replace hV := evo_step0 hV hEw6
 replace hx1 := hx1.evo0 hEw6
 replace hrb2 := hrb2.evo0 hEw6
 replace hot4 := hot4.evo0 hEw6
 have hAb5 := hbb5.at
 have hrb5 : RowE w6 (some ⟨b5, 0, none⟩) b5 0 1 KRb := rowLit KRb hbb5 rfl rfl
 refine r_opcall rfl rfl rfl (run_callf (vs := [.slice (some ⟨b5, 0, none⟩) _ _]) rfl (by exact rfl) Tryz.func14 rfl (by kernel_rfl)) (rtokens_calls hrb5 (by decide)) ?_
 rintro e w7 ⟨vt7, rfl, hE7, hot7⟩
 refine ⟨_, rfl, ?_⟩
 have hs_w7 := (hE7).size
 replace hV := evo_step0 hV hE7
 replace hx1 := hx1.evo0 hE7
 replace hrb2 := hrb2.evo0 hE7
 replace hot4 := hot4.evo0 hE7
 replace hrb5 := hrb5.evo0 hE7
 refine r_op rfl rfl rfl (run_asg (v := vt7) rfl (by exact rfl)) ?_
 refine r_nil ?_
 refine r_seq ?_
 obtain ⟨ao8, g8, cp8, hv8, hr8, hg8⟩ := hot4.rowOf
 subst hv8
 obtain ⟨ao9, g9, cp9, hv9, hr9, hg9⟩ := hot7.rowOf
 subst hv9
 have hJ : Evo w7 w7 fx1 := Evo.refl _ _; have hFJ : ∀ g ∈ fx1, w7.heap.size ≤ g ∨ g ∈ fx1 := fun g hg => .inr hg
 have hr80 := fun w9 (h9 : Evo w7 w9 fx1) => row_keep hr8 h9 (fun hne hm => by have h2 := (hg8 hne).2; have := hFl _ hm; omega)
 have hr90 := fun w9 (h9 : Evo w7 w9 fx1) => row_keep hr9 h9 (fun hne hm => by have h2 := (hg9 hne).2; have := hFl _ hm; omega)
 refine r_region ?_
 refine r_op rfl rfl rfl (run_mv (v := (.pointer (some ⟨bx1, 0, none⟩))) rfl (by exact rfl)) ?_
 refine r_op rfl rfl rfl (run_mv (v := .slice _ _ _) rfl (by exact rfl)) ?_
 refine r_opcall rfl rfl rfl (run_callf (vs := [(.pointer (some ⟨bx1, 0, none⟩)), .int _ _, .slice _ _ _]) rfl (by exact rfl) Tryz.func15 rfl (by kernel_rfl)) (ixadd_calls hx1 hr8 kqa kla9) ?_
 rintro e w10 ⟨F10, rfl, hE10, hx10, hF10⟩
 refine ⟨_, rfl, ?_⟩
 have hs_w10 := (hE10).size
 replace hV := evo_steps hV hE10 (fun b9 hb9 => .inl (by have := hFhx1 b9 hb9; omega))
 replace hJ := evo_steps hJ hE10 (fun b9 hb9 => (hFJ b9 hb9))
 replace hr8 := hr80 _ hJ
 replace hr9 := hr90 _ hJ
 replace hFJ := fun g hg => (hF10 g hg).elim (hFJ g) (fun h => .inl (by omega))
 replace hx1 := hx10; replace hFhx1 := fun g hg => (hF10 g hg).elim (hFhx1 g) (fun h => by omega)
 rw [addA_yes kad] at hx1; change Idx _ _ ([(7, toks KRa)] : Stored) _ at hx1
 refine r_op rfl rfl rfl (run_mv (v := .bool _) rfl (by exact rfl)) ?_
 refine r_gyes rfl (wantT (by exact rfl)) (by exact kad) ?_
 refine r_op rfl rfl rfl (run_mv (v := (.pointer (some ⟨bx1, 0, none⟩))) rfl (by exact rfl)) ?_
 refine r_gyes rfl (wantT (by exact rfl)) (by exact kad) ?_
 refine r_op rfl rfl rfl (run_mv (v := .slice _ _ _) rfl (by exact rfl)) ?_
 refine r_gyes rfl (wantT (by exact rfl)) (by exact kad) ?_
 refine r_opcall rfl rfl rfl (run_callf (vs := [(.pointer (some ⟨bx1, 0, none⟩)), .int _ _, .slice _ _ _]) rfl (by exact rfl) Tryz.func15 rfl (by kernel_rfl)) (ixadd_calls hx1 hr9 kqb klb9) ?_
 rintro e w11 ⟨F11, rfl, hE11, hx11, hF11⟩
 refine ⟨_, rfl, ?_⟩
 have hs_w11 := (hE11).size
 replace hV := evo_steps hV hE11 (fun b9 hb9 => .inl (by have := hFhx1 b9 hb9; omega))
 replace hJ := evo_steps hJ hE11 (fun b9 hb9 => (hFJ b9 hb9))
 replace hr8 := hr80 _ hJ
 replace hr9 := hr90 _ hJ
 replace hFJ := fun g hg => (hF11 g hg).elim (hFJ g) (fun h => .inl (by omega))
 replace hx1 := hx11; replace hFhx1 := fun g hg => (hF11 g hg).elim (hFhx1 g) (fun h => by omega)
 rw [addA_no kad2] at hx1
 refine r_gyes rfl (wantT (by exact rfl)) (by exact kad) ?_
 refine r_op rfl rfl rfl (run_not rfl (by exact rfl)) ?_
 refine r_op rfl rfl rfl (run_pick_and rfl (by exact rfl) (fun _ => (by exact rfl)) rfl) ?_
 refine r_op rfl rfl rfl (run_mv (v := .bool _) rfl (by exact rfl)) ?_
 refine r_gyes rfl (wantT (by exact rfl)) (by exact ⟨kad, kad2⟩) ?_
 refine r_op rfl rfl rfl (run_mv (v := (.pointer (some ⟨bx1, 0, none⟩))) rfl (by exact rfl)) ?_
 refine r_gyes rfl (wantT (by exact rfl)) (by exact ⟨kad, kad2⟩) ?_
 refine r_opcall rfl rfl rfl (run_callf (vs := [(.pointer (some ⟨bx1, 0, none⟩))]) rfl (by exact rfl) Tryz.func10 rfl (by kernel_rfl)) (ixlen_calls hx1) ?_
 rintro e w12 ⟨rfl, hE12⟩
 refine ⟨_, rfl, ?_⟩
 have hs_w12 := (hE12).size
 replace hV := evo_step0 hV hE12
 replace hJ := evo_step0 hJ hE12
 replace hr8 := hr80 _ hJ
 replace hr9 := hr90 _ hJ
 replace hx1 := hx1.evo0 hE12
 refine r_gyes rfl (wantT (by exact rfl)) (by exact ⟨kad, kad2⟩) ?_
 refine r_op rfl rfl rfl (run_eql rfl (by exact rfl) (by exact rfl)) ?_
 refine r_op rfl rfl rfl (run_pick_and rfl (by exact rfl) (fun _ => (by exact rfl)) rfl) ?_
 refine r_op rfl rfl rfl (run_mv (v := .bool _) rfl (by exact rfl)) ?_
 refine r_gyes rfl (wantT (by exact rfl)) (by exact ⟨⟨kad, kad2⟩, rfl⟩) ?_
 refine r_op rfl rfl rfl (run_mv (v := (.pointer (some ⟨bx1, 0, none⟩))) rfl (by exact rfl)) ?_
 refine r_gyes rfl (wantT (by exact rfl)) (by exact ⟨⟨kad, kad2⟩, rfl⟩) ?_
 refine r_op rfl rfl rfl (run_mv (v := .slice _ _ _) rfl (by exact rfl)) ?_
 refine r_gyes rfl (wantT (by exact rfl)) (by exact ⟨⟨kad, kad2⟩, rfl⟩) ?_
 refine r_opcall rfl rfl rfl (run_callf (vs := [(.pointer (some ⟨bx1, 0, none⟩)), .slice _ _ _, .int _ _]) rfl (by exact rfl) Tryz.func12 rfl (by kernel_rfl)) (ixcand_calls hx1 hr9 kqb klb9 (by decide) kas) ?_
 rintro e w13 ⟨vr13, r13, rfl, hE13, hor13, hcr13⟩
 refine ⟨_, rfl, ?_⟩
 have hs_w13 := (hE13).size
 replace hV := evo_step0 hV hE13
 replace hJ := evo_step0 hJ hE13
 replace hr8 := hr80 _ hJ
 replace hr9 := hr90 _ hJ
 replace hx1 := hx1.evo0 hE13
 have hr1 : r13 = [7] := cand_yes hcr13 (by rw [ktok_a, ktok_b]; exact known_sel)
 refine r_gyes rfl (wantT (by exact rfl)) (by exact ⟨⟨kad, kad2⟩, rfl⟩) ?_
 refine r_bslice (pv := [(0, .int _ _)]) (zs := [_]) (cs := [_]) Tryz.underlying22 ty_3 (by exact rfl) rfl (by exact rfl) rfl (by exact rfl) ?_
 intro b14 w15 heb14 hEw15 hbb14 hzb14
 have hs_w15 := (hEw15).size
 replace hV := evo_step0 hV hEw15
 replace hJ := evo_step0 hJ hEw15
 replace hr8 := hr80 _ hJ
 replace hr9 := hr90 _ hJ
 replace hx1 := hx1.evo0 hEw15
 replace hor13 := hor13.evo0 hEw15
 have hAb14 := hbb14.at
 have hrb14 : RowE w15 (some ⟨b14, 0, none⟩) b14 0 1 ([7] : List Int) := rowLit ([7] : List Int) hbb14 rfl rfl
 refine r_gyes rfl (wantT (by exact rfl)) (by exact ⟨⟨kad, kad2⟩, rfl⟩) ?_
 obtain ⟨ao16, g16, cp16, hv16, hr16, hg16⟩ := hor13.rowOf
 subst hv16
 refine r_opcall rfl rfl rfl (run_callf (vs := [.slice _ _ _, .slice (some ⟨b14, 0, none⟩) _ _]) rfl (by exact rfl) Tryz.func11 rfl (by kernel_rfl)) (sameints_calls hr16 hrb14) ?_
 rintro e w17 ⟨rfl, hE17⟩
 refine ⟨_, rfl, ?_⟩
 have hs_w17 := (hE17).size
 replace hV := evo_step0 hV hE17
 replace hJ := evo_step0 hJ hE17
 replace hr8 := hr80 _ hJ
 replace hr9 := hr90 _ hJ
 replace hx1 := hx1.evo0 hE17
 replace hor13 := hor13.evo0 hE17
 replace hrb14 := hrb14.evo0 hE17
 replace hr16 := hr16.evo0 hE17
 refine r_op rfl rfl rfl (run_pick_and rfl (by exact rfl) (fun _ => (by exact rfl)) rfl) ?_
 refine r_op rfl rfl rfl (run_mv (v := .bool _) rfl (by exact rfl)) ?_
 refine r_gyes rfl (wantT (by exact rfl)) (by exact ⟨⟨⟨kad, kad2⟩, rfl⟩, hr1⟩) ?_
 refine r_op rfl rfl rfl (run_mv (v := (.pointer (some ⟨bx1, 0, none⟩))) rfl (by exact rfl)) ?_
 refine r_gyes rfl (wantT (by exact rfl)) (by exact ⟨⟨⟨kad, kad2⟩, rfl⟩, hr1⟩) ?_
 refine r_op rfl rfl rfl (run_mv (v := .slice _ _ _) rfl (by exact rfl)) ?_
 refine r_gyes rfl (wantT (by exact rfl)) (by exact ⟨⟨⟨kad, kad2⟩, rfl⟩, hr1⟩) ?_
 refine r_opcall rfl rfl rfl (run_callf (vs := [(.pointer (some ⟨bx1, 0, none⟩)), .slice _ _ _, .int _ _]) rfl (by exact rfl) Tryz.func12 rfl (by kernel_rfl)) (ixcand_calls hx1 hr9 kqb klb9 (by decide) kas) ?_
 rintro e w18 ⟨vr18, r18, rfl, hE18, hor18, hcr18⟩
 refine ⟨_, rfl, ?_⟩
 have hs_w18 := (hE18).size
 replace hV := evo_step0 hV hE18
 replace hJ := evo_step0 hJ hE18
 replace hr8 := hr80 _ hJ
 replace hr9 := hr90 _ hJ
 replace hx1 := hx1.evo0 hE18
 replace hor13 := hor13.evo0 hE18
 replace hrb14 := hrb14.evo0 hE18
 replace hr16 := hr16.evo0 hE18
 have hr2 : ((r18.length : Nat) : Int) = 0 := by rw [cand_no hcr18 (by rw [ktok_a, ktok_b]; exact known_sel2)]; rfl
 refine r_gyes rfl (wantT (by exact rfl)) (by exact ⟨⟨⟨kad, kad2⟩, rfl⟩, hr1⟩) ?_
 refine r_op rfl rfl rfl (run_lenOE rfl (by exact rfl) Tryz.underlying22 hor18) ?_
 refine r_gyes rfl (wantT (by exact rfl)) (by exact ⟨⟨⟨kad, kad2⟩, rfl⟩, hr1⟩) ?_
 refine r_op rfl rfl rfl (run_eql rfl (by exact rfl) (by exact rfl)) ?_
 refine r_op rfl rfl rfl (run_pick_and rfl (by exact rfl) (fun _ => (by exact rfl)) rfl) ?_
 refine r_op rfl rfl rfl (run_asg (v := .bool _) rfl (by exact rfl)) ?_
 refine r_nil ?_
 refine r_ret (res1 (v := .bool _) rfl (by exact rfl)) ?_
 exact ⟨ret_bool (decide_eq_true ⟨⟨⟨⟨kad, kad2⟩, rfl⟩, hr1⟩, hr2⟩), hV⟩
end Go.Proofs.YthbcklajlmcifaaGreat
namespace Go.Vc
open Go Go.RowKit
theorem OwnR.rowK {α : Type} [Rep α] {w : World} {base : Nat} {E : TypeId} {Y : List Nat} {v : Value} {l : List α} (h : OwnR w base E Y v l) (hY : ∀ y ∈ Y, y < base) : ∃ ao g cap, v = .slice ao l.length cap ∧ RowRK w Y ao g 0 cap l := by
  obtain ⟨css, h1, h2⟩ := h
  have h3 := h2 w (Evo.refl _ _)
  obtain ⟨ao, g, cap, hv, hr, hg⟩ := h1.rowOf
  refine ⟨ao, g, cap, by rw [← h3.1]; exact hv, css, fun w' he => ⟨?_, h2 w' (he.mono (fun x hx => List.mem_append.2 (.inl hx)))⟩⟩
  by_cases hc : css = []
  · subst hc; exact ⟨hr.1, by simp, by simp⟩
  · exact hr.evo he (fun hm => by have := hY g hm; have := (hg hc).2; omega)
end Go.Vc
