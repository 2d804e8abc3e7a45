import Derived.Test.YtkdgoghmkmpfnaaW20
import Derived.Test.YtkdgoghmkmpfnaaPa
import Derived.Test.YtkdgoghmkmpfnaaLb
import Derived.Test.YtkdgoghmkmpfnaaShf
namespace Go.Proofs.Ytkdgoghmkmpfnaa
open Go.RowKit Go.Vc

theorem first_calls {ao : Option Addr} {b off cap : Nat} {f : List Vc.Item} {n : Int} {w0 : World} (hf : RowE w0 ao b off cap f) :
    Calls Try.prog 76 #[.slice ao f.length cap, .int .i64 n] w0 fun e w' => e = .returned (.agg (Enc.enc (firstT f n)).toArray) ∧ Evo w0 w' [] := by
 refine calls_enter (n := 24) (args := [.slice ao f.length cap, .int .i64 n]) Try.func76 rfl Try.ntmps76 rfl ?_
 have hV : Evo w0 w0 [] := Evo.refl _ _
 have hf0 := keepE hf
 have hbd_hf := hf.bd
 refine r_seq ?_
 refine r_region ?_
 refine r_alloc (zs := [_, _, _]) ty_26 (by exact rfl) rfl ?_
 intro b1 w2 heb1 hEw2 hbb1 hzb1
 have hs_w2 := (hEw2).size
 replace hV := evo_step0 hV hEw2
 replace hf := hf0 _ hV
 have hAb1 := hbb1.at
 refine r_nil ?_
 refine r_seq ?_
 refine r_seq ?_
 refine r_region ?_
 refine r_op rfl rfl rfl (run_mv (v := .slice _ _ _) rfl (by exact rfl)) ?_
 refine r_op rfl rfl rfl (run_lenSl rfl (by exact rfl) Try.underlying30) ?_
 refine r_op rfl rfl rfl (run_mv (v := .int _ _) rfl (by exact rfl)) ?_
 refine r_nil ?_
 refine r_block ?_
 refine r_loop (α := Nat) [6, 9, 10, 11, 12, 13, 14, 15, 16, 17, 18, 19, 20, 21, 22] (fun k g w => g 9 = .int .i64 (k : Nat) ∧ k ≤ f.length ∧ Blk w b1 26 [.int .i64 0, S [], .int .i64 0] ∧ At w b1 0 [.int .i64 0, S [], .int .i64 0] ∧ (∀ j, j < k → ¬ (isTag (f.getD j default) = true ∧ (f.getD j default).id = n)) ∧ w2.heap.size ≤ w.heap.size ∧ Evo w0 w []) (fun k => f.length - k) 0 ?_ ?_
 ·refine ⟨(by first | exact rfl | exact congrArg (Value.int _) (by omega) | exact congrArg (Value.int _) (by dsimp only; omega) | exact congrArg (Value.int _) (by simp) | exact congrArg S (by simp)), (by first | assumption | omega | (dsimp only; omega) | (simp; done)), hbb1, hAb1, (fun j h1 => by omega), (by first | assumption | omega | (dsimp only; omega) | (simp; done)), hV⟩
 ·rintro k g w4 ⟨hj5, hk_k, hbb1, hAb1, hall, hzl3, hV⟩
  have hs_w4hV := hV.size
  have hlt6 := hbb1.lt
  replace hf := hf0 _ hV
  refine r_know (i := 9) (v := .int .i64 (k : Nat)) (by exact hj5) ?_
  refine r_seq ?_
  refine r_region ?_
  refine r_op rfl rfl rfl (run_lss rfl (by exact rfl) (by exact rfl)) ?_
  refine r_nil ?_
  refine r_seq ?_
  refine r_cond (by exact rfl) (fun hc7 => ?_) (fun hc7 => ?_)
  ·skip
   refine r_skip ?_
   refine r_seq ?_
   refine r_block ?_
   refine r_seq ?_
   refine r_region ?_
   refine r_op rfl rfl rfl (run_ix (k) rfl Try.underlying30 ty_26 (by exact rfl) (by exact rfl) (by first | exact rfl | omega) (by omega) (hf.addr (i := k) (by omega))) ?_
   have hA80 := fun (w' : World) (h : Evo w0 w' []) => (hf0 w' h).atD (k) (by omega)
   have hA8 := hA80 _ hV
   refine r_op rfl rfl rfl (run_ldN rfl ag_26 ty_26 (by exact rfl) rfl hA8) ?_
   refine r_var (zs := [_, _, _]) (vs := [_, _, _]) ty_26 (by exact rfl) rfl (by exact rfl) (fun _ => rfl) (by exact rfl) rfl rfl (by exact rfl) ?_
   intro b9 w10 heb9 hEw10 hbb9 hzb9
   have hs_w10 := (hEw10).size
   replace hV := evo_step0 hV hEw10
   replace hf := hf0 _ hV
   replace hbb1 := hbb1.evo0 hEw10
   replace hAb1 := hAb1.evo0 hEw10
   have hAb9 := hbb9.at
   refine r_nil ?_
   refine r_seq ?_
   refine r_region ?_
   refine r_op rfl rfl rfl (run_ldN rfl ag_26 ty_26 (by exact rfl) rfl hAb9) ?_
   refine r_opcall rfl rfl rfl (run_callf (vs := [.agg _]) rfl (by exact rfl) Try.func65 rfl (by kernel_rfl)) istag_calls ?_
   rintro e w11 ⟨rfl, hE11⟩
   refine ⟨_, rfl, ?_⟩
   have hs_w11 := (hE11).size
   replace hV := evo_step0 hV hE11
   replace hf := hf0 _ hV
   replace hbb1 := hbb1.evo0 hE11
   replace hAb1 := hAb1.evo0 hE11
   replace hbb9 := hbb9.evo0 hE11
   replace hAb9 := hAb9.evo0 hE11
   refine r_op rfl rfl rfl (run_mvb rfl (by exact rfl)) ?_
   refine r_g rfl (wantT (by exact rfl)) rfl (fun hg => run_fa rfl (by exact rfl) fo_26_2) ?_
   refine r_g rfl (wantT (by exact rfl)) rfl (fun hg => run_ld1 rfl ag_3 (glv (by exact rfl) (fun h => h) hg) (hAb9.cell 2 (by exact rfl))) ?_
   refine r_g rfl (wantT (by exact rfl)) rfl (fun hg => run_mv (v := .int _ _) rfl (by exact rfl)) ?_
   refine r_g rfl (wantT (by exact rfl)) rfl (fun hg => run_eql rfl (glv (by exact rfl) (fun h => h) hg) (glv (by exact rfl) (fun h => h) hg)) ?_
   refine r_op rfl rfl rfl (run_pick_and rfl (by exact rfl) (fun hq => glv (by exact rfl) (fun h => h) hq) rfl) ?_
   refine r_nil ?_
   refine r_cond (by exact rfl) (fun hc12 => ?_) (fun hc12 => ?_)
   ·skip
    refine r_seq ?_
    refine r_region ?_
    refine r_op rfl rfl rfl (run_ldN rfl ag_26 ty_26 (by exact rfl) rfl hAb9) ?_
    refine r_store (v := .agg _) (vs := [_, _, _]) (cs' := [_, _, _]) (by exact rfl) (by exact rfl) hbb1 ty_26 (by exact rfl) rfl (by exact rfl) rfl (by exact rfl) ?_
    intro w13 hEw13 hzw13 hb_new
    have hs_w13 := (hEw13).size
    replace hV := evo_step1 hV hEw13 (by first | exact .inl (by omega) | exact .inr (by simp))
    replace hf := hf0 _ hV
    replace hbb1 := hb_new
    have hAb1 := hbb1.at
    clear hb_new
    refine r_nil ?_
    refine r_ret (resC1 (cs := [_, _, _]) rfl ag_26 ty_26 (by exact rfl) rfl hAb1) ?_
    exact ⟨by rw [firstT_at k (by omega) hall hc12]; rfl, hV⟩
   ·skip
    refine r_skip ?_
    refine r_blk ?_
    refine r_region ?_
    refine r_op rfl rfl rfl (run_add rfl (by exact rfl) (by exact rfl) (by omega) (by omega)) ?_
    refine r_op rfl rfl rfl (run_mv (v := .int _ _) rfl (by exact rfl)) ?_
    refine r_nil ?_
    refine r_again (k + 1) ?_ ?_ ?_
    ·first | omega | (dsimp only; omega)
    ·refine ⟨(by first | exact rfl | exact congrArg (Value.int _) (by omega) | exact congrArg (Value.int _) (by dsimp only; omega) | exact congrArg (Value.int _) (by simp) | exact congrArg S (by simp)), (by first | assumption | omega | (dsimp only; omega) | (simp; done)), hbb1, hAb1, (upto0 hall hc12), (by first | assumption | omega | (dsimp only; omega) | (simp; done)), hV⟩
    ·repeat (first | (with_reducible exact Agree.merge _ _ _) | (with_reducible exact Agree.refl _ _) | (with_reducible refine Agree.upd ?_ _ _ rfl) | ((with_reducible refine Agree.inner ?_ ?_); (kernel_rfl)))
  ·skip
   refine r_exit rfl ?_
   refine r_seq ?_
   refine r_region ?_
   refine r_op rfl rfl rfl (run_bld (pv := []) (zs := [_, _, _]) (cells := [_, _, _]) rfl ty_26 (by exact rfl) pl_26 (by exact rfl) (by exact rfl)) ?_
   refine r_store (v := .agg _) (vs := [_, _, _]) (cs' := [_, _, _]) (by exact rfl) (by exact rfl) hbb1 ty_26 (by exact rfl) rfl (by exact rfl) rfl (by exact rfl) ?_
   intro w14 hEw14 hzw14 hb_new
   have hs_w14 := (hEw14).size
   replace hV := evo_step1 hV hEw14 (by first | exact .inl (by omega) | exact .inr (by simp))
   replace hf := hf0 _ hV
   replace hbb1 := hb_new
   have hAb1 := hbb1.at
   clear hb_new
   refine r_nil ?_
   refine r_ret (resC1 (cs := [_, _, _]) rfl ag_26 ty_26 (by exact rfl) rfl hAb1) ?_
   exact ⟨by rw [firstT_no (fun j hj => hall j (by omega))]; rfl, hV⟩

theorem rfirst_calls {ao : Option Addr} {b off cap : Nat} {f : List Vc.Item} {n : Int} {w0 : World} (hf : RowE w0 ao b off cap f) :
    Calls Try.prog 78 #[.slice ao f.length cap, .int .i64 n] w0 fun e w' => e = .returned (.agg (Enc.enc (firstT f n)).toArray) ∧ Evo w0 w' [] := by
 refine calls_enter (n := 31) (args := [.slice ao f.length cap, .int .i64 n]) Try.func78 rfl Try.ntmps78 rfl ?_
 have hV : Evo w0 w0 [] := Evo.refl _ _
 have hf0 := keepE hf
 have hbd_hf := hf.bd
 refine r_seq ?_
 refine r_region ?_
 refine r_alloc (zs := [_, _, _]) ty_26 (by exact rfl) rfl ?_
 intro b1 w2 heb1 hEw2 hbb1 hzb1
 have hs_w2 := (hEw2).size
 replace hV := evo_step0 hV hEw2
 replace hf := hf0 _ hV
 have hAb1 := hbb1.at
 refine r_nil ?_
 refine r_seq ?_
 refine r_seq ?_
 refine r_region ?_
 refine r_op rfl rfl rfl (run_mv (v := .slice _ _ _) rfl (by exact rfl)) ?_
 refine r_op rfl rfl rfl (run_lenSl rfl (by exact rfl) Try.underlying30) ?_
 refine r_op rfl rfl rfl (run_mv (v := .int _ _) rfl (by exact rfl)) ?_
 refine r_nil ?_
 refine r_block ?_
 refine r_loop (α := Nat) [5, 8, 9, 10, 11, 12, 13, 14, 15, 16, 17, 18, 19, 20, 21, 22, 23, 24, 25, 26, 27, 28, 29] (fun k g w => g 8 = .int .i64 (k : Nat) ∧ k ≤ f.length ∧ Blk w b1 26 [.int .i64 0, S [], .int .i64 0] ∧ At w b1 0 [.int .i64 0, S [], .int .i64 0] ∧ (∀ j, j < k → ¬ (isTag (f.getD j default) = true ∧ (f.getD j default).id = n)) ∧ w2.heap.size ≤ w.heap.size ∧ Evo w0 w []) (fun k => f.length - k) 0 ?_ ?_
 ·refine ⟨(by first | exact rfl | exact congrArg (Value.int _) (by omega) | exact congrArg (Value.int _) (by dsimp only; omega) | exact congrArg (Value.int _) (by simp) | exact congrArg S (by simp)), (by first | assumption | omega | (dsimp only; omega) | (simp; done)), hbb1, hAb1, (fun j h1 => by omega), (by first | assumption | omega | (dsimp only; omega) | (simp; done)), hV⟩
 ·rintro k g w4 ⟨hj5, hk_k, hbb1, hAb1, hall, hzl3, hV⟩
  have hs_w4hV := hV.size
  have hlt6 := hbb1.lt
  replace hf := hf0 _ hV
  refine r_know (i := 8) (v := .int .i64 (k : Nat)) (by exact hj5) ?_
  refine r_seq ?_
  refine r_region ?_
  refine r_op rfl rfl rfl (run_lss rfl (by exact rfl) (by exact rfl)) ?_
  refine r_nil ?_
  refine r_seq ?_
  refine r_cond (by exact rfl) (fun hc7 => ?_) (fun hc7 => ?_)
  ·skip
   refine r_skip ?_
   refine r_seq ?_
   refine r_block ?_
   refine r_seq ?_
   refine r_region ?_
   refine r_op rfl rfl rfl (run_mv (v := .int _ _) rfl (by exact rfl)) ?_
   refine r_op rfl rfl rfl (run_asg (v := .int _ _) rfl (by exact rfl)) ?_
   refine r_nil ?_
   refine r_seq ?_
   refine r_region ?_
   refine r_op rfl rfl rfl (run_mv (v := .slice _ _ _) rfl (by exact rfl)) ?_
   refine r_op rfl rfl rfl (run_mv (v := .int _ _) rfl (by exact rfl)) ?_
   refine r_op rfl rfl rfl (run_ix (k) rfl Try.underlying30 ty_26 (by exact rfl) (by exact rfl) (by first | exact rfl | omega) (by omega) (hf.addr (i := k) (by omega))) ?_
   have hA80 := fun (w' : World) (h : Evo w0 w' []) => (hf0 w' h).atD (k) (by omega)
   have hA8 := hA80 _ hV
   refine r_op rfl rfl rfl (run_ldN rfl ag_26 ty_26 (by exact rfl) rfl hA8) ?_
   refine r_opcall rfl rfl rfl (run_callf (vs := [.agg _]) rfl (by exact rfl) Try.func75 rfl (by kernel_rfl)) ristag_calls ?_
   rintro e w9 ⟨rfl, hE9⟩
   refine ⟨_, rfl, ?_⟩
   have hs_w9 := (hE9).size
   replace hV := evo_step0 hV hE9
   replace hf := hf0 _ hV
   replace hbb1 := hbb1.evo0 hE9
   replace hAb1 := hAb1.evo0 hE9
   refine r_op rfl rfl rfl (run_mvb rfl (by exact rfl)) ?_
   refine r_g rfl (wantT (by exact rfl)) rfl (fun hg => run_mv (v := .slice _ _ _) rfl (by exact rfl)) ?_
   refine r_g rfl (wantT (by exact rfl)) rfl (fun hg => run_mv (v := .int _ _) rfl (by exact rfl)) ?_
   refine r_g rfl (wantT (by exact rfl)) rfl (fun hg => run_ix (k) rfl Try.underlying30 ty_26 (glv (by exact rfl) (fun h => h) hg) (glv (by exact rfl) (fun h => h) hg) (by first | exact rfl | omega) (by omega) (hf.addr (i := k) (by omega))) ?_
   refine r_g rfl (wantT (by exact rfl)) rfl (fun hg => run_fa rfl (glv (by exact rfl) (fun h => h) hg) fo_26_2) ?_
   refine r_g rfl (wantT (by exact rfl)) rfl (fun hg => run_ld1 rfl ag_3 (glv (by exact rfl) (fun h => h) hg) ((hf.atD (k) (by omega)).cell 2 (by exact rfl))) ?_
   refine r_g rfl (wantT (by exact rfl)) rfl (fun hg => run_mv (v := .int _ _) rfl (by exact rfl)) ?_
   refine r_g rfl (wantT (by exact rfl)) rfl (fun hg => run_eql rfl (glv (by exact rfl) (fun h => h) hg) (glv (by exact rfl) (fun h => h) hg)) ?_
   refine r_op rfl rfl rfl (run_pick_and rfl (by exact rfl) (fun hq => glv (by exact rfl) (fun h => h) hq) rfl) ?_
   refine r_nil ?_
   refine r_cond (by exact rfl) (fun hc10 => ?_) (fun hc10 => ?_)
   ·skip
    refine r_seq ?_
    refine r_region ?_
    refine r_op rfl rfl rfl (run_mv (v := .slice _ _ _) rfl (by exact rfl)) ?_
    refine r_op rfl rfl rfl (run_mv (v := .int _ _) rfl (by exact rfl)) ?_
    refine r_op rfl rfl rfl (run_ix (k) rfl Try.underlying30 ty_26 (by exact rfl) (by exact rfl) (by first | exact rfl | omega) (by omega) (hf.addr (i := k) (by omega))) ?_
    have hA110 := fun (w' : World) (h : Evo w0 w' []) => (hf0 w' h).atD (k) (by omega)
    have hA11 := hA110 _ hV
    refine r_op rfl rfl rfl (run_ldN rfl ag_26 ty_26 (by exact rfl) rfl hA11) ?_
    refine r_store (v := .agg _) (vs := [_, _, _]) (cs' := [_, _, _]) (by exact rfl) (by exact rfl) hbb1 ty_26 (by exact rfl) rfl (by exact rfl) rfl (by exact rfl) ?_
    intro w12 hEw12 hzw12 hb_new
    have hs_w12 := (hEw12).size
    replace hV := evo_step1 hV hEw12 (by first | exact .inl (by omega) | exact .inr (by simp))
    replace hf := hf0 _ hV
    replace hbb1 := hb_new
    have hAb1 := hbb1.at
    clear hb_new
    refine r_nil ?_
    refine r_ret (resC1 (cs := [_, _, _]) rfl ag_26 ty_26 (by exact rfl) rfl hAb1) ?_
    exact ⟨by rw [firstT_at k (by omega) hall hc10]; rfl, hV⟩
   ·skip
    refine r_skip ?_
    refine r_blk ?_
    refine r_region ?_
    refine r_op rfl rfl rfl (run_add rfl (by exact rfl) (by exact rfl) (by omega) (by omega)) ?_
    refine r_op rfl rfl rfl (run_mv (v := .int _ _) rfl (by exact rfl)) ?_
    refine r_nil ?_
    refine r_again (k + 1) ?_ ?_ ?_
    ·first | omega | (dsimp only; omega)
    ·refine ⟨(by first | exact rfl | exact congrArg (Value.int _) (by omega) | exact congrArg (Value.int _) (by dsimp only; omega) | exact congrArg (Value.int _) (by simp) | exact congrArg S (by simp)), (by first | assumption | omega | (dsimp only; omega) | (simp; done)), hbb1, hAb1, (upto0 hall hc10), (by first | assumption | omega | (dsimp only; omega) | (simp; done)), hV⟩
    ·repeat (first | (with_reducible exact Agree.merge _ _ _) | (with_reducible exact Agree.refl _ _) | (with_reducible refine Agree.upd ?_ _ _ rfl) | ((with_reducible refine Agree.inner ?_ ?_); (kernel_rfl)))
  ·skip
   refine r_exit rfl ?_
   refine r_seq ?_
   refine r_region ?_
   refine r_op rfl rfl rfl (run_bld (pv := []) (zs := [_, _, _]) (cells := [_, _, _]) rfl ty_26 (by exact rfl) pl_26 (by exact rfl) (by exact rfl)) ?_
   refine r_store (v := .agg _) (vs := [_, _, _]) (cs' := [_, _, _]) (by exact rfl) (by exact rfl) hbb1 ty_26 (by exact rfl) rfl (by exact rfl) rfl (by exact rfl) ?_
   intro w13 hEw13 hzw13 hb_new
   have hs_w13 := (hEw13).size
   replace hV := evo_step1 hV hEw13 (by first | exact .inl (by omega) | exact .inr (by simp))
   replace hf := hf0 _ hV
   replace hbb1 := hb_new
   have hAb1 := hbb1.at
   clear hb_new
   refine r_nil ?_
   refine r_ret (resC1 (cs := [_, _, _]) rfl ag_26 ty_26 (by exact rfl) rfl hAb1) ?_
   exact ⟨by rw [firstT_no (fun j hj => hall j (by omega))]; rfl, hV⟩

theorem delete_calls {w : World} {base : Nat} {v : Value} {l : List Int} {i : Nat} (h : OwnE w base 3 v l) (hj : i < l.length) :
    Calls Try.prog 77 #[v, .int .i64 (i : Nat), .int .i64 ((i : Nat) + 1)] w fun e w' => ∃ v', e = .returned v' ∧ Evo w w' v.ownBlock.toList ∧ OwnE w' base 3 v' (l.take i ++ l.drop (i + 1)) ∧ v'.ownBlock = v.ownBlock :=
  sdel_of (j := i + 1) Try.slices_Delete_int h (by omega) hj
theorem pairQ_no {a b : List Vc.Item} {n m : Int} (h : ¬ ((firstT b m).kind = (firstT a n).kind ∧ (firstT b m).text = (firstT a n).text)) : pairQ a b n m = false := by
  unfold pairQ; rw [← Bool.not_eq_true]; simpa using h
theorem pairQ_yes {a b : List Vc.Item} {n m : Int} (h : (firstT b m).kind = (firstT a n).kind ∧ (firstT b m).text = (firstT a n).text) : pairQ a b n m = true := by
  unfold pairQ; simp [h.1, h.2]
theorem rpair_no {a b : List Vc.Item} {to_ : List Int} {n m : Int} (h : ¬ ((¬ m ∈ to_ ∧ (firstT a n).kind = (firstT b m).kind) ∧ (firstT a n).text = (firstT b m).text)) : (decide (¬ m ∈ to_) && pairQ a b n m) = false := by
  rw [← Bool.not_eq_true, Bool.and_eq_true, decide_eq_true_iff]
  rintro ⟨h1, h2⟩
  unfold pairQ at h2
  simp only [Bool.and_eq_true, decide_eq_true_eq] at h2
  exact h ⟨⟨h1, h2.1.symm⟩, h2.2.symm⟩
theorem rpair_yes {a b : List Vc.Item} {to_ : List Int} {n m : Int} (h : (¬ m ∈ to_ ∧ (firstT a n).kind = (firstT b m).kind) ∧ (firstT a n).text = (firstT b m).text) : (decide (¬ m ∈ to_) && pairQ a b n m) = true := by
  rw [Bool.and_eq_true, decide_eq_true_iff]
  exact ⟨h.1.1, pairQ_yes ⟨h.1.2.symm, h.2.symm⟩⟩

theorem pair_calls {aoa aob : Option Addr} {ba offa capa bb offb capb : Nat} {a b : List Vc.Item} {w0 : World} (ha : RowE w0 aoa ba offa capa a) (hb : RowE w0 aob bb offb capb b) (hsa : Small a) (hsb : Small b) :
    Calls Try.prog 41 #[.slice aoa a.length capa, .slice aob b.length capb] w0 fun e w' => ∃ v u, e = .returned (.tuple #[v, u]) ∧ Evo w0 w' [] ∧ OwnE w' w0.heap.size 3 v (pairL a b).1 ∧ OwnE w' w0.heap.size 3 u (pairL a b).2 := by
 have hs1 := hsa.1; have hs2 := hsb.1; have hq1 := numsL_len a; have hq2 := numsL_len b
 refine calls_enter (n := 64) (args := [.slice aoa a.length capa, .slice aob b.length capb]) Try.func41 rfl Try.ntmps41 rfl ?_
 have hV : Evo w0 w0 [] := Evo.refl _ _
 have ha0 := keepE ha
 have hbd_ha := ha.bd
 have hb0 := keepE hb
 have hbd_hb := hb.bd
 refine r_seq ?_
 refine r_region ?_
 refine r_op rfl rfl rfl (run_asg (v := .slice _ _ _) rfl (by exact rfl)) ?_
 refine r_op rfl rfl rfl (run_asg (v := .slice _ _ _) rfl (by exact rfl)) ?_
 refine r_nil ?_
 refine r_seq ?_
 refine r_region ?_
 refine r_op rfl rfl rfl (run_mv (v := .slice _ _ _) rfl (by exact rfl)) ?_
 refine r_opcall rfl rfl rfl (run_callf (vs := [.slice _ _ _]) rfl (by exact rfl) Try.func40 rfl (by kernel_rfl)) (numbers_calls hb (by first | assumption | exact MF.small (by assumption) | exact kf_small | exact small_take (by assumption) _)) ?_
 rintro e w1 ⟨vu1, rfl, hE1, hou1⟩
 refine ⟨_, rfl, ?_⟩
 have hs_w1 := (hE1).size
 replace hV := evo_step0 hV hE1
 replace ha := ha0 _ hV
 replace hb := hb0 _ hV
 refine r_op rfl rfl rfl (run_asg (v := vu1) rfl (by exact rfl)) ?_
 refine r_nil ?_
 refine r_seq ?_
 refine r_seq ?_
 have hobL := fun g hg => (hou1.block (g := g) hg).2
 refine r_region ?_
 refine r_op rfl rfl rfl (run_mv (v := .slice _ _ _) rfl (by exact rfl)) ?_
 refine r_opcall rfl rfl rfl (run_callf (vs := [.slice _ _ _]) rfl (by exact rfl) Try.func40 rfl (by kernel_rfl)) (numbers_calls ha (by first | assumption | exact MF.small (by assumption) | exact kf_small | exact small_take (by assumption) _)) ?_
 rintro e w2 ⟨vu2, rfl, hE2, hou2⟩
 refine ⟨_, rfl, ?_⟩
 have hs_w2 := (hE2).size
 replace hV := evo_step0 hV hE2
 replace ha := ha0 _ hV
 replace hb := hb0 _ hV
 replace hou1 := hou1.evo0 hE2
 refine r_op rfl rfl rfl (run_lenOE rfl (by exact rfl) Try.underlying24 hou2) ?_
 refine r_op rfl rfl rfl (run_mv (v := .int _ _) rfl (by exact rfl)) ?_
 refine r_nil ?_
 refine r_block ?_
 obtain ⟨ao3, g3, cp3, hv3, hr3, hg3⟩ := hou2.rowOf
 subst hv3
 have hbL : ∀ g, vu1.ownBlock = some g → g < w2.heap.size := fun g hg => by have := hobL g hg; omega
 have hI : Evo w2 w2 vu1.ownBlock.toList := Evo.refl _ _
 have hr30 := fun w9 (h9 : Evo w2 w9 vu1.ownBlock.toList) => row_keep hr3 h9 (fun hne hm => by have h1 := hobL _ (Option.mem_toList.1 hm); have h2 := (hg3 hne).2; omega)
 refine r_loop (α := Nat) [4, 5, 6, 8, 9, 10, 11, 12, 18, 19, 20, 21, 22, 23, 24, 25, 26, 27, 28, 29, 30, 31, 32, 33, 34, 35, 36, 37, 38, 39, 40, 41, 42, 43, 44, 45, 46, 47, 48, 49, 50, 51, 52, 53, 54, 55, 56, 57, 58, 59, 60, 61] (fun k g w => ∃ vf : Value, ∃ vt : Value, ∃ vl : Value, g 18 = .int .i64 (k : Nat) ∧ g 4 = vf ∧ g 5 = vt ∧ g 6 = vl ∧ k ≤ (numsL a).length ∧ OwnE w w2.heap.size 3 vf (pairGo a b ((numsL a).take k)).1 ∧ OwnE w w2.heap.size 3 vt (pairGo a b ((numsL a).take k)).2 ∧ OwnE w w0.heap.size 3 vl (leftL b (pairGo a b ((numsL a).take k)).2) ∧ Sep vf vt ∧ vl.ownBlock = vu1.ownBlock ∧ w2.heap.size ≤ w.heap.size ∧ Evo w0 w [] ∧ Evo w2 w vu1.ownBlock.toList) (fun k => (numsL a).length - k) 0 ?_ ?_
 ·refine ⟨_, _, _, (by first | exact rfl | exact congrArg (Value.int _) (by omega) | exact congrArg (Value.int _) (by dsimp only; omega) | exact congrArg (Value.int _) (by simp) | exact congrArg S (by simp)), rfl, rfl, rfl, (by first | assumption | omega | (dsimp only; omega) | (simp; done)), (OwnE.nil _ _ _), (OwnE.nil _ _ _), (by show OwnE _ _ _ _ (leftL b []); rw [leftL_nil]; exact hou1.base_le (by omega)), (Sep.nil_l _), rfl, (by first | assumption | omega | (dsimp only; omega) | (simp; done)), hV, hI⟩
 ·rintro k g w5 ⟨vf, vt, vl, hj6, hj7, hj8, hj9, hk_k, hof, hot, hol, hsep, hbl, hzl4, hV, hI⟩
  have hs_w5hV := hV.size
  have hs_w5hI := hI.size
  replace ha := ha0 _ hV
  replace hb := hb0 _ hV
  replace hr3 := hr30 _ hI
  refine r_know (i := 18) (v := .int .i64 (k : Nat)) (by exact hj6) ?_
  refine r_know (i := 4) (v := vf) (by exact hj7) ?_
  refine r_know (i := 5) (v := vt) (by exact hj8) ?_
  refine r_know (i := 6) (v := vl) (by exact hj9) ?_
  refine r_seq ?_
  refine r_region ?_
  refine r_op rfl rfl rfl (run_lss rfl (by exact rfl) (by exact rfl)) ?_
  refine r_nil ?_
  refine r_seq ?_
  refine r_cond (by exact rfl) (fun hc10 => ?_) (fun hc10 => ?_)
  ·skip
   refine r_skip ?_
   refine r_seq ?_
   refine r_block ?_
   refine r_seq ?_
   refine r_region ?_
   refine r_op rfl rfl rfl (run_ix (k) rfl Try.underlying24 ty_3 (by exact rfl) (by exact rfl) (by first | exact rfl | omega) (by omega) (hr3.addr (i := k) (by omega))) ?_
   have hA110 := fun (w' : World) (h : Evo w2 w' vu1.ownBlock.toList) => (hr30 w' h).atD (k) (by omega)
   have hA11 := hA110 _ hI
   refine r_op rfl rfl rfl (run_ld1 rfl ag_3 (by exact rfl) (hA11.cell 0 (by exact rfl))) ?_
   refine r_op rfl rfl rfl (run_asg (v := .int _ _) rfl (by exact rfl)) ?_
   refine r_nil ?_
   refine r_seq ?_
   have hok := pairGo_ok a b ((numsL a).take k); have hok1 := hok.len; have hok2 := hok.le; rw [List.length_take] at hok2; have hll := leftL_len b (pairGo a b ((numsL a).take k)).2
   have hobF := fun g hg => (hof.block (g := g) hg).2; have hobT := fun g hg => (hot.block (g := g) hg).2; have hobQ := fun g hg => (hol.block (g := g) hg).2
   refine r_region ?_
   refine r_op rfl rfl rfl (run_mv (v := .slice _ _ _) rfl (by exact rfl)) ?_
   refine r_op rfl rfl rfl (run_mv (v := .int _ _) rfl (by exact rfl)) ?_
   refine r_opcall rfl rfl rfl (run_callf (vs := [.slice _ _ _, .int _ _]) rfl (by exact rfl) Try.func76 rfl (by kernel_rfl)) (first_calls ha) ?_
   rintro e w12 ⟨rfl, hE12⟩
   refine ⟨_, rfl, ?_⟩
   have hs_w12 := (hE12).size
   replace hV := evo_step0 hV hE12
   replace hI := evo_step0 hI hE12
   replace ha := ha0 _ hV
   replace hb := hb0 _ hV
   replace hr3 := hr30 _ hI
   replace hof := hof.evo0 hE12
   replace hot := hot.evo0 hE12
   replace hol := hol.evo0 hE12
   have hob13 := fun g hg => (hof.block (g := g) hg).2
   have hob14 := fun g hg => (hot.block (g := g) hg).2
   have hob15 := fun g hg => (hol.block (g := g) hg).2
   refine r_var (zs := [_, _, _]) (vs := [_, _, _]) ty_26 (by exact rfl) rfl (by exact rfl) (fun _ => rfl) (by exact rfl) rfl rfl (by exact rfl) ?_
   intro b16 w17 heb16 hEw17 hbb16 hzb16
   have hs_w17 := (hEw17).size
   replace hV := evo_step0 hV hEw17
   replace hI := evo_step0 hI hEw17
   replace ha := ha0 _ hV
   replace hb := hb0 _ hV
   replace hr3 := hr30 _ hI
   replace hof := hof.evo0 hEw17
   replace hot := hot.evo0 hEw17
   replace hol := hol.evo0 hEw17
   have hAb16 := hbb16.at
   refine r_nil ?_
   refine r_seq ?_
   refine r_region ?_
   refine r_op rfl rfl rfl (run_mv (v := vl) rfl (by exact rfl)) ?_
   refine r_op rfl rfl rfl (run_lenOE rfl (by exact rfl) Try.underlying24 hol) ?_
   refine r_op rfl rfl rfl (run_mv (v := .int _ _) rfl (by exact rfl)) ?_
   refine r_nil ?_
   refine r_block ?_
   have hI2 : Evo w17 w17 [] := Evo.refl _ _
   obtain ⟨ao18, g18, cp18, hv18, hr18, hg18⟩ := hol.rowOf
   subst hv18
   have hr180 := keepE hr18
   refine r_loop (α := Nat) [4, 5, 6, 10, 11, 12, 27, 28, 29, 30, 31, 32, 33, 34, 35, 36, 37, 38, 39, 40, 41, 42, 43, 44, 45, 46, 47, 48, 49, 50, 51, 52, 53, 54, 55, 56, 57, 58, 59, 60] (fun j g w => g 27 = .int .i64 (j : Nat) ∧ g 4 = vf ∧ g 5 = vt ∧ g 6 = (.slice ao18 (leftL b (pairGo a b ((numsL a).take k)).2).length cp18) ∧ j ≤ (leftL b (pairGo a b ((numsL a).take k)).2).length ∧ OwnE w w2.heap.size 3 vf (pairGo a b ((numsL a).take k)).1 ∧ OwnE w w2.heap.size 3 vt (pairGo a b ((numsL a).take k)).2 ∧ OwnE w w0.heap.size 3 (.slice ao18 (leftL b (pairGo a b ((numsL a).take k)).2).length cp18) (leftL b (pairGo a b ((numsL a).take k)).2) ∧ Blk w b16 26 [.int .i64 (firstT a ((numsL a).getD k default)).kind, S (firstT a ((numsL a).getD k default)).text, .int .i64 (firstT a ((numsL a).getD k default)).id] ∧ At w b16 0 [.int .i64 (firstT a ((numsL a).getD k default)).kind, S (firstT a ((numsL a).getD k default)).text, .int .i64 (firstT a ((numsL a).getD k default)).id] ∧ (∀ i, i < j → pairQ a b ((numsL a).getD k default) ((leftL b (pairGo a b ((numsL a).take k)).2).getD i default) = false) ∧ w17.heap.size ≤ w.heap.size ∧ Evo w0 w [] ∧ Evo w2 w vu1.ownBlock.toList ∧ Evo w17 w []) (fun j => (leftL b (pairGo a b ((numsL a).take k)).2).length - j) 0 ?_ ?_
   ·refine ⟨(by first | exact rfl | exact congrArg (Value.int _) (by omega) | exact congrArg (Value.int _) (by dsimp only; omega) | exact congrArg (Value.int _) (by simp) | exact congrArg S (by simp)), rfl, rfl, rfl, (by first | assumption | omega | (dsimp only; omega) | (simp; done)), hof, hot, hol, hbb16, hAb16, (fun i h1 => by omega), (by first | assumption | omega | (dsimp only; omega) | (simp; done)), hV, hI, hI2⟩
   ·rintro j g w20 ⟨hj21, hj22, hj23, hj24, hk_j, hof, hot, hol, hbb16, hAb16, hall, hzl19, hV, hI, hI2⟩
    have hs_w20hV := hV.size
    have hs_w20hI := hI.size
    have hs_w20hI2 := hI2.size
    have hlt25 := hbb16.lt
    replace ha := ha0 _ hV
    replace hb := hb0 _ hV
    replace hr3 := hr30 _ hI
    replace hA11 := hA110 _ hI
    replace hr18 := hr180 _ hI2
    refine r_know (i := 27) (v := .int .i64 (j : Nat)) (by exact hj21) ?_
    refine r_know (i := 4) (v := vf) (by exact hj22) ?_
    refine r_know (i := 5) (v := vt) (by exact hj23) ?_
    refine r_know (i := 6) (v := (.slice ao18 (leftL b (pairGo a b ((numsL a).take k)).2).length cp18)) (by exact hj24) ?_
    refine r_seq ?_
    refine r_region ?_
    refine r_op rfl rfl rfl (run_lss rfl (by exact rfl) (by exact rfl)) ?_
    refine r_nil ?_
    refine r_seq ?_
    refine r_cond (by exact rfl) (fun hc26 => ?_) (fun hc26 => ?_)
    ·skip
     refine r_skip ?_
     refine r_seq ?_
     refine r_block ?_
     refine r_seq ?_
     refine r_region ?_
     refine r_op rfl rfl rfl (run_mv (v := .int _ _) rfl (by exact rfl)) ?_
     refine r_op rfl rfl rfl (run_ix (j) rfl Try.underlying24 ty_3 (by exact rfl) (by exact rfl) (by first | exact rfl | omega) (by omega) (hr18.addr (i := j) (by omega))) ?_
     have hA270 := fun (w' : World) (h : Evo w17 w' []) => (hr180 w' h).atD (j) (by omega)
     have hA27 := hA270 _ hI2
     refine r_op rfl rfl rfl (run_ld1 rfl ag_3 (by exact rfl) (hA27.cell 0 (by exact rfl))) ?_
     refine r_op rfl rfl rfl (run_asg (v := .int _ _) rfl (by exact rfl)) ?_
     refine r_op rfl rfl rfl (run_asg (v := .int _ _) rfl (by exact rfl)) ?_
     refine r_nil ?_
     refine r_seq ?_
     have hobF := fun g hg => (hof.block (g := g) hg).2; have hobT := fun g hg => (hot.block (g := g) hg).2; have hobQ := fun g hg => (hol.block (g := g) hg).2
     refine r_region ?_
     refine r_op rfl rfl rfl (run_mv (v := .slice _ _ _) rfl (by exact rfl)) ?_
     refine r_op rfl rfl rfl (run_mv (v := .int _ _) rfl (by exact rfl)) ?_
     refine r_opcall rfl rfl rfl (run_callf (vs := [.slice _ _ _, .int _ _]) rfl (by exact rfl) Try.func76 rfl (by kernel_rfl)) (first_calls hb) ?_
     rintro e w28 ⟨rfl, hE28⟩
     refine ⟨_, rfl, ?_⟩
     have hs_w28 := (hE28).size
     replace hV := evo_step0 hV hE28
     replace hI := evo_step0 hI hE28
     replace hI2 := evo_step0 hI2 hE28
     replace ha := ha0 _ hV
     replace hb := hb0 _ hV
     replace hr3 := hr30 _ hI
     replace hr18 := hr180 _ hI2
     replace hof := hof.evo0 hE28
     replace hot := hot.evo0 hE28
     replace hol := hol.evo0 hE28
     replace hbb16 := hbb16.evo0 hE28
     replace hAb16 := hAb16.evo0 hE28
     have hob29 := fun g hg => (hof.block (g := g) hg).2
     have hob30 := fun g hg => (hot.block (g := g) hg).2
     have hob31 := fun g hg => (hol.block (g := g) hg).2
     refine r_var (zs := [_, _, _]) (vs := [_, _, _]) ty_26 (by exact rfl) rfl (by exact rfl) (fun _ => rfl) (by exact rfl) rfl rfl (by exact rfl) ?_
     intro b32 w33 heb32 hEw33 hbb32 hzb32
     have hs_w33 := (hEw33).size
     replace hV := evo_step0 hV hEw33
     replace hI := evo_step0 hI hEw33
     replace hI2 := evo_step0 hI2 hEw33
     replace ha := ha0 _ hV
     replace hb := hb0 _ hV
     replace hr3 := hr30 _ hI
     replace hr18 := hr180 _ hI2
     replace hof := hof.evo0 hEw33
     replace hot := hot.evo0 hEw33
     replace hol := hol.evo0 hEw33
     replace hbb16 := hbb16.evo0 hEw33
     replace hAb16 := hAb16.evo0 hEw33
     have hAb32 := hbb32.at
     refine r_nil ?_
     refine r_seq ?_
     refine r_region ?_
     refine r_op rfl rfl rfl (run_fa rfl (by exact rfl) fo_26_0) ?_
     refine r_op rfl rfl rfl (run_ld1 rfl ag_3 (by exact rfl) (hAb32.cell 0 (by exact rfl))) ?_
     refine r_op rfl rfl rfl (run_fa rfl (by exact rfl) fo_26_0) ?_
     refine r_op rfl rfl rfl (run_ld1 rfl ag_3 (by exact rfl) (hAb16.cell 0 (by exact rfl))) ?_
     refine r_op rfl rfl rfl (run_eql rfl (by exact rfl) (by exact rfl)) ?_
     refine r_op rfl rfl rfl (run_mv (v := .bool _) rfl (by exact rfl)) ?_
     refine r_g rfl (wantT (by exact rfl)) rfl (fun hg => run_fa rfl (by exact rfl) fo_26_1) ?_
     refine r_g rfl (wantT (by exact rfl)) rfl (fun hg => run_ld1 rfl ag_9 (glv (by exact rfl) (fun h => h) hg) (hAb32.cell 1 (by exact rfl))) ?_
     refine r_g rfl (wantT (by exact rfl)) rfl (fun hg => run_fa rfl (by exact rfl) fo_26_1) ?_
     refine r_g rfl (wantT (by exact rfl)) rfl (fun hg => run_ld1 rfl ag_9 (glv (by exact rfl) (fun h => h) hg) (hAb16.cell 1 (by exact rfl))) ?_
     refine r_g rfl (wantT (by exact rfl)) rfl (fun hg => run_seql rfl (glv (by exact rfl) (fun h => h) hg) (glv (by exact rfl) (fun h => h) hg)) ?_
     refine r_op rfl rfl rfl (run_pick_and rfl (by exact rfl) (fun hq => glv (by exact rfl) (fun h => h) hq) rfl) ?_
     refine r_nil ?_
     refine r_cond (by exact rfl) (fun hc34 => ?_) (fun hc34 => ?_)
     ·skip
      refine r_seq ?_
      have hps : pairStep a b (pairGo a b ((numsL a).take k)) ((numsL a).getD k default) = ((pairGo a b ((numsL a).take k)).1 ++ [((numsL a).getD k default)], (pairGo a b ((numsL a).take k)).2 ++ [(leftL b (pairGo a b ((numsL a).take k)).2).getD j default]) := pair_yes ((find_left a b _ _).trans (find_at (by omega) hall (pairQ_yes hc34)))
      have hobF := fun g hg => (hof.block (g := g) hg).2; have hobT := fun g hg => (hot.block (g := g) hg).2; have hobQ := fun g hg => (hol.block (g := g) hg).2
      refine r_region ?_
      refine r_op rfl rfl rfl (run_mv (v := vf) rfl (by exact rfl)) ?_
      refine r_op rfl rfl rfl (run_mv (v := .int _ _) rfl (by exact rfl)) ?_
      refine r_append1E (u := .int _ _) (y := _) rfl rfl Try.underlying24 ty_3 (by exact rfl) hof (fun _ => (by exact rfl)) (by exact rfl) (by first | exact rfl | (show _ = List.toArray [_]; first | (dsimp only; done) | exact rfl | (dsimp only; exact rfl))) ((by first | omega | (simp; omega))) ((by first | omega | (simp; omega))) (by omega) ?_
      intro q_v35 v35 w36 hEw36 hov35 hlv35
      have hs_w36 := (hEw36).size
      replace hV := evo_stepo hV hEw36 (fun g hg => .inl (by first | exact (hof.block hg).1 | (have := hof.block hg; omega)))
      replace hI := evo_stepo hI hEw36 (fun g hg => .inl (by first | exact (hof.block hg).1 | (have := hof.block hg; omega)))
      replace ha := ha0 _ hV
      replace hb := hb0 _ hV
      replace hr3 := hr30 _ hI
      replace hot := hot.evo hEw36 (by intro g hg hm; first | exact hsep.symm _ hg _ (Option.mem_toList.1 hm) rfl | (have hm2 := hbL _ (hbl ▸ Option.mem_toList.1 hm); have h2 := hot.block hg; omega))
      replace hol := hol.evo hEw36 (by intro g hg hm; have h1 := hof.block (Option.mem_toList.1 hm); have h2 := hbL _ (hbl ▸ hg); omega)
      replace hbb16 := hbb16.evo hEw36 (by intro hm; have hm2 := Option.mem_toList.1 hm; have := hob13 _ hm2; omega)
      replace hAb16 := hAb16.evo hEw36 (by intro hm; have hm2 := Option.mem_toList.1 hm; have := hob13 _ hm2; omega)
      have hsep2 := hsep.grow hlv35 hobT (by omega); have hob2 := fun g hg => (hov35.block (g := g) hg).2
      refine r_op rfl rfl rfl (run_mv (v := vt) rfl (by exact rfl)) ?_
      refine r_op rfl rfl rfl (run_mv (v := .int _ _) rfl (by exact rfl)) ?_
      refine r_append1E (u := .int _ _) (y := _) rfl rfl Try.underlying24 ty_3 (by exact rfl) hot (fun _ => (by exact rfl)) (by exact rfl) (by first | exact rfl | (show _ = List.toArray [_]; first | (dsimp only; done) | exact rfl | (dsimp only; exact rfl))) ((by first | omega | (simp; omega))) ((by first | omega | (simp; omega))) (by omega) ?_
      intro q_v37 v37 w38 hEw38 hov37 hlv37
      have hs_w38 := (hEw38).size
      replace hV := evo_stepo hV hEw38 (fun g hg => .inl (by first | exact (hot.block hg).1 | (have := hot.block hg; omega)))
      replace hI := evo_stepo hI hEw38 (fun g hg => .inl (by first | exact (hot.block hg).1 | (have := hot.block hg; omega)))
      replace ha := ha0 _ hV
      replace hb := hb0 _ hV
      replace hr3 := hr30 _ hI
      replace hol := hol.evo hEw38 (by intro g hg hm; have h1 := hot.block (Option.mem_toList.1 hm); have h2 := hbL _ (hbl ▸ hg); omega)
      replace hbb16 := hbb16.evo hEw38 (by intro hm; have hm2 := Option.mem_toList.1 hm; have := hob14 _ hm2; omega)
      replace hAb16 := hAb16.evo hEw38 (by intro hm; have hm2 := Option.mem_toList.1 hm; have := hob14 _ hm2; omega)
      replace hov35 := hov35.evo hEw38 (by intro g hg hm; first | exact hsep2 _ hg _ (Option.mem_toList.1 hm) rfl | (have hm2 := hbL _ (hbl ▸ Option.mem_toList.1 hm); have h2 := hov35.block hg; omega))
      have hsep3 := (hsep2.symm.grow hlv37 hob2 (by omega)).symm
      refine r_op rfl rfl rfl (run_asg (v := v35) rfl (by exact rfl)) ?_
      refine r_op rfl rfl rfl (run_asg (v := v37) rfl (by exact rfl)) ?_
      refine r_nil ?_
      refine r_seq ?_
      refine r_region ?_
      refine r_op rfl rfl rfl (run_mv (v := .slice _ _ _) rfl (by exact rfl)) ?_
      refine r_op rfl rfl rfl (run_mv (v := .int _ _) rfl (by exact rfl)) ?_
      refine r_op rfl rfl rfl (run_mv (v := .int _ _) rfl (by exact rfl)) ?_
      refine r_op rfl rfl rfl (run_add rfl (by exact rfl) (by exact rfl) (by omega) (by omega)) ?_
      refine r_opcall rfl rfl rfl (run_callf (vs := [.slice _ _ _, .int _ _, .int _ _]) rfl (by exact rfl) Try.func77 rfl (by kernel_rfl)) (delete_calls hol (by omega)) ?_
      rintro e w39 ⟨vd39, rfl, hE39, hd39, hld39⟩
      refine ⟨_, rfl, ?_⟩
      have hs_w39 := (hE39).size
      replace hV := evo_stepo hV hE39 (fun g hg => .inl (by first | exact (hol.block hg).1 | (have := hol.block hg; omega)))
      replace hI := evo_stepo hI hE39 (fun g hg => .inr (Option.mem_toList.2 (hbl ▸ hg)))
      replace ha := ha0 _ hV
      replace hb := hb0 _ hV
      replace hr3 := hr30 _ hI
      replace hbb16 := hbb16.evo hE39 (by intro hm; have hm2 := Option.mem_toList.1 hm; have := hob15 _ hm2; omega)
      replace hAb16 := hAb16.evo hE39 (by intro hm; have hm2 := Option.mem_toList.1 hm; have := hob15 _ hm2; omega)
      replace hov35 := hov35.evo hE39 (by intro g hg hm; first | exact hsep2 _ hg _ (Option.mem_toList.1 hm) rfl | (have hm2 := hbL _ (hbl ▸ Option.mem_toList.1 hm); have h2 := hov35.block hg; omega))
      replace hov37 := hov37.evo hE39 (by intro g hg hm; have hm2 := hbL _ (hbl ▸ Option.mem_toList.1 hm); have h2 := hov37.block hg; omega)
      refine r_op rfl rfl rfl (run_asg (v := vd39) rfl (by exact rfl)) ?_
      refine r_nil ?_
      refine r_exit rfl ?_
      refine r_blk ?_
      refine r_region ?_
      refine r_op rfl rfl rfl (run_add rfl (by exact rfl) (by exact rfl) (by omega) (by omega)) ?_
      refine r_op rfl rfl rfl (run_mv (v := .int _ _) rfl (by exact rfl)) ?_
      refine r_nil ?_
      refine r_again (k + 1) ?_ ?_ ?_
      ·first | omega | (dsimp only; omega)
      ·refine ⟨_, _, _, (by first | exact rfl | exact congrArg (Value.int _) (by omega) | exact congrArg (Value.int _) (by dsimp only; omega) | exact congrArg (Value.int _) (by simp) | exact congrArg S (by simp)), rfl, rfl, rfl, (by first | assumption | omega | (dsimp only; omega) | (simp; done)), (by rw [pairGo_succ a b _ k (by omega), hps]; exact hov35), (by rw [pairGo_succ a b _ k (by omega), hps]; exact hov37), (by rw [pairGo_succ a b _ k (by omega), hps]; first | exact hd39 | (dsimp only; rw [leftL_step (by omega)]; exact hd39)), (by first | exact hsep | exact hsep3), (by first | exact hbl | exact hld39.trans hbl), (by first | assumption | omega | (dsimp only; omega) | (simp; done)), hV, hI⟩
      ·repeat (first | (with_reducible exact Agree.merge _ _ _) | (with_reducible exact Agree.refl _ _) | (with_reducible refine Agree.upd ?_ _ _ rfl) | ((with_reducible refine Agree.inner ?_ ?_); (kernel_rfl)))
     ·skip
      refine r_skip ?_
      refine r_blk ?_
      refine r_region ?_
      refine r_op rfl rfl rfl (run_add rfl (by exact rfl) (by exact rfl) (by omega) (by omega)) ?_
      refine r_op rfl rfl rfl (run_mv (v := .int _ _) rfl (by exact rfl)) ?_
      refine r_nil ?_
      refine r_again (j + 1) ?_ ?_ ?_
      ·first | omega | (dsimp only; omega)
      ·refine ⟨(by first | exact rfl | exact congrArg (Value.int _) (by omega) | exact congrArg (Value.int _) (by dsimp only; omega) | exact congrArg (Value.int _) (by simp) | exact congrArg S (by simp)), rfl, rfl, rfl, (by first | assumption | omega | (dsimp only; omega) | (simp; done)), hof, hot, hol, hbb16, hAb16, (upto0 hall (pairQ_no hc34)), (by first | assumption | omega | (dsimp only; omega) | (simp; done)), hV, hI, hI2⟩
      ·repeat (first | (with_reducible exact Agree.merge _ _ _) | (with_reducible exact Agree.refl _ _) | (with_reducible refine Agree.upd ?_ _ _ rfl) | ((with_reducible refine Agree.inner ?_ ?_); (kernel_rfl)))
    ·skip
     refine r_exit rfl ?_
     refine r_blk ?_
     have hps : pairStep a b (pairGo a b ((numsL a).take k)) ((numsL a).getD k default) = (pairGo a b ((numsL a).take k)) := pair_no ((find_left a b _ _).trans (find_no (fun i hi => hall i (by omega))))
     refine r_region ?_
     refine r_op rfl rfl rfl (run_add rfl (by exact rfl) (by exact rfl) (by omega) (by omega)) ?_
     refine r_op rfl rfl rfl (run_mv (v := .int _ _) rfl (by exact rfl)) ?_
     refine r_nil ?_
     refine r_again (k + 1) ?_ ?_ ?_
     ·first | omega | (dsimp only; omega)
     ·refine ⟨_, _, _, (by first | exact rfl | exact congrArg (Value.int _) (by omega) | exact congrArg (Value.int _) (by dsimp only; omega) | exact congrArg (Value.int _) (by simp) | exact congrArg S (by simp)), rfl, rfl, rfl, (by first | assumption | omega | (dsimp only; omega) | (simp; done)), (by rw [pairGo_succ a b _ k (by omega), hps]; exact hof), (by rw [pairGo_succ a b _ k (by omega), hps]; exact hot), (by rw [pairGo_succ a b _ k (by omega), hps]; first | exact hol | (dsimp only; rw [leftL_step (by omega)]; exact hol)), (by first | exact hsep | exact hsep3), (by first | exact hbl | exact hld12.trans hbl), (by first | assumption | omega | (dsimp only; omega) | (simp; done)), hV, hI⟩
     ·repeat (first | (with_reducible exact Agree.merge _ _ _) | (with_reducible exact Agree.refl _ _) | (with_reducible refine Agree.upd ?_ _ _ rfl) | ((with_reducible refine Agree.inner ?_ ?_); (kernel_rfl)))
  ·skip
   refine r_exit rfl ?_
   refine r_seq ?_
   refine r_region ?_
   refine r_op rfl rfl rfl (run_mv (v := vf) rfl (by exact rfl)) ?_
   refine r_op rfl rfl rfl (run_mv (v := vt) rfl (by exact rfl)) ?_
   refine r_op rfl rfl rfl (run_asg (v := vf) rfl (by exact rfl)) ?_
   refine r_op rfl rfl rfl (run_asg (v := vt) rfl (by exact rfl)) ?_
   refine r_nil ?_
   refine r_ret (res2 (v := vf) (u := vt) rfl (by exact rfl) (by exact rfl)) ?_
   exact ⟨_, _, rfl, hV, by rw [List.take_of_length_le (by omega)] at hof; exact hof.base_le (by omega), by rw [List.take_of_length_le (by omega)] at hot; exact hot.base_le (by omega)⟩

end Go.Proofs.Ytkdgoghmkmpfnaa
