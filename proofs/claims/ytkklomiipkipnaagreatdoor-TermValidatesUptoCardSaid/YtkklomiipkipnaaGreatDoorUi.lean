/-
  Library, plain laws and walks that the statements reach (joined by a program out of smaller texts).
-/
import Derived.Test.YtkklomiipkipnaaGreatDoorUh
import Derived.Test.YtkklomiipkipnaaGreatDoorUe
import Derived.Test.YtkklomiipkipnaaGreatDoorUb
namespace Go.Proofs.YtkklomiipkipnaaGreatDoor
open Go.RowKit Go.Vc
theorem pl_85 : placesP Tryz.prog 85 = some [(0, 1), (1, 1)] := by kernel_rfl
theorem ty_25 : tyP Tryz.prog 25 = some (1, 24, some (.slice none 0 0)) := by kernel_rfl
theorem ty_85 : tyP Tryz.prog 85 = some (2, 32, some (.agg #[(.slice none 0 0), (.int .i64 0)])) := by kernel_rfl
theorem long_calls {ao : Option Addr} {b off cap : Nat} {ll : List (List Int)} {w0 : World} (hs : RowR w0 ao b off cap ll) (hb : ll.flatten.length ≤ 9000000000000000000) :
    Calls Tryz.prog 11 #[.slice ao ll.length cap] w0 fun e w' => e = .returned (.bool (decide (ll.flatten.length > 160))) ∧ Evo w0 w' [] := by
 refine calls_enter (n := 19) (args := [.slice ao ll.length cap]) Tryz.func11 rfl Tryz.ntmps11 rfl ?_
 have hV : Evo w0 w0 [] := Evo.refl _ _
 have hs0 := hs.keep
 have hbd_hs := hs.bd
 refine r_seq ?_
 refine r_region ?_
 refine r_op rfl rfl rfl (run_asg (v := .bool _) rfl (by exact rfl)) ?_
 refine r_nil ?_
 refine r_seq ?_
 refine r_region ?_
 refine r_op rfl rfl rfl (run_asg (v := .int _ _) rfl (by exact rfl)) ?_
 refine r_nil ?_
 refine r_seq ?_
 refine r_seq ?_
 refine r_region ?_
 refine r_op rfl rfl rfl (run_mv (v := .slice _ _ _) rfl (by exact rfl)) ?_
 refine r_op rfl rfl rfl (run_lenSl rfl (by exact rfl) Tryz.underlying67) ?_
 refine r_op rfl rfl rfl (run_mv (v := .int _ _) rfl (by exact rfl)) ?_
 refine r_nil ?_
 refine r_block ?_
 refine r_loop (α := Nat) [3, 5, 8, 9, 10, 11, 12, 13, 14, 15, 16] (fun k g w => g 8 = .int .i64 (k : Nat) ∧ g 3 = .int .i64 (((ll.take k).flatten).length : Nat) ∧ k ≤ ll.length ∧ w0.heap.size ≤ w.heap.size ∧ Evo w0 w []) (fun k => ll.length - k) 0 ?_ ?_
 ·refine ⟨(by first | exact rfl | exact congrArg (Value.int _) (by omega) | exact congrArg (Value.int _) (by dsimp only; omega) | exact congrArg (Value.int _) (by simp) | exact congrArg S (by simp)), rfl, (by first | assumption | omega | (dsimp only; omega) | (simp; done)), (by first | assumption | omega | (dsimp only; omega) | (simp; done)), hV⟩
 ·rintro k g w2 ⟨hj3, hj4, hk_k, hzl1, hV⟩
  have hs_w2hV := hV.size
  replace hs := hs0.now hV
  refine r_know (i := 8) (v := .int .i64 (k : Nat)) (by exact hj3) ?_
  refine r_know (i := 3) (v := .int .i64 (((ll.take k).flatten).length : Nat)) (by exact hj4) ?_
  refine r_seq ?_
  refine r_region ?_
  refine r_op rfl rfl rfl (run_lss rfl (by exact rfl) (by exact rfl)) ?_
  refine r_nil ?_
  refine r_seq ?_
  refine r_cond (by exact rfl) (fun hc5 => ?_) (fun hc5 => ?_)
  ·skip
   refine r_skip ?_
   refine r_seq ?_
   refine r_block ?_
   refine r_seq ?_
   refine r_region ?_
   refine r_op rfl rfl rfl (run_ix (k) rfl Tryz.underlying67 ty_25 (by exact rfl) (by exact rfl) (by first | exact rfl | omega) (by omega) (hs.addr (i := k) (by omega))) ?_
   obtain ⟨ao6, b6, off6, cap6, hX⟩ := sl_atK hs0 (k) (by omega)
   have hA60 := fun (w' : World) (h : Evo w0 w' []) => (hX w' h).1
   have hA6 := hA60 _ hV
   have hR60 := fun (w' : World) (h : Evo w0 w' []) => (hX w' h).2
   have hR6 := hR60 _ hV
   clear hX
   have hbd_hR6 := hR6.bd
   refine r_op rfl rfl rfl (run_ld1 rfl ag_25 (by exact rfl) (hA6.cell 0 (by exact rfl))) ?_
   refine r_op rfl rfl rfl (run_asg (v := .slice _ _ _) rfl (by exact rfl)) ?_
   refine r_nil ?_
   have hf1 := flat_take ll (k + 1); have hf2 : ((ll.take (k + 1)).flatten).length = ((ll.take k).flatten).length + (ll.getD k default).length := by rw [flat_succL ll k (by omega), List.length_append]
   refine r_region ?_
   refine r_op rfl rfl rfl (run_mv (v := .int _ _) rfl (by exact rfl)) ?_
   refine r_op rfl rfl rfl (run_mv (v := .slice _ _ _) rfl (by exact rfl)) ?_
   refine r_op rfl rfl rfl (run_lenSl rfl (by exact rfl) Tryz.underlying25) ?_
   refine r_op rfl rfl rfl (run_add rfl (by exact rfl) (by exact rfl) (by omega) (by omega)) ?_
   refine r_op rfl rfl rfl (run_asg (v := .int _ _) rfl (by exact rfl)) ?_
   refine r_nil ?_
   refine r_blk ?_
   refine r_region ?_
   refine r_op rfl rfl rfl (run_add rfl (by exact rfl) (by exact rfl) (by omega) (by omega)) ?_
   refine r_op rfl rfl rfl (run_mv (v := .int _ _) rfl (by exact rfl)) ?_
   refine r_nil ?_
   refine r_again (k + 1) ?_ ?_ ?_
   ·first | omega | (dsimp only; omega)
   ·refine ⟨(by first | exact rfl | exact congrArg (Value.int _) (by omega) | exact congrArg (Value.int _) (by dsimp only; omega) | exact congrArg (Value.int _) (by simp) | exact congrArg S (by simp)), (congrArg (Value.int _) (by omega)), (by first | assumption | omega | (dsimp only; omega) | (simp; done)), (by first | assumption | omega | (dsimp only; omega) | (simp; done)), hV⟩
   ·repeat (first | (with_reducible exact Agree.merge _ _ _) | (with_reducible exact Agree.refl _ _) | (with_reducible refine Agree.upd ?_ _ _ rfl) | ((with_reducible refine Agree.inner ?_ ?_); (kernel_rfl)))
  ·skip
   refine r_exit rfl ?_
   refine r_seq ?_
   refine r_region ?_
   refine r_op rfl rfl rfl (run_mv (v := .int _ _) rfl (by exact rfl)) ?_
   refine r_op rfl rfl rfl (run_gtr rfl (by exact rfl) (by exact rfl)) ?_
   refine r_op rfl rfl rfl (run_asg (v := .bool _) rfl (by exact rfl)) ?_
   refine r_nil ?_
   refine r_ret (res1 (v := .bool _) rfl (by exact rfl)) ?_
   exact ⟨ret_bool (by rw [List.take_of_length_le (by omega)]; rw [Bool.eq_iff_iff, decide_eq_true_iff, decide_eq_true_iff]; omega), hV⟩
theorem from_calls {ao : Option Addr} {cap : Nat} {l : List Int} {w0 : World}  :
    Calls Tryz.prog 19 #[.slice ao l.length cap] w0 fun e w' => ∃ bs, e = .returned (.pointer (some ⟨bs, 0, none⟩)) ∧ w0.heap.size ≤ bs ∧ Evo w0 w' [] ∧ Blk w' bs 85 [.slice ao l.length cap, .int .i64 ((0 : Nat) : Int)] ∧ At w' bs 0 [.slice ao l.length cap, .int .i64 ((0 : Nat) : Int)] := by
 refine calls_enter (n := 6) (args := [.slice ao l.length cap]) Tryz.func19 rfl Tryz.ntmps19 rfl ?_
 have hV : Evo w0 w0 [] := Evo.refl _ _
 refine r_seq ?_
 refine r_region ?_
 refine r_op rfl rfl rfl (run_asg (v := .pointer _) rfl (by exact rfl)) ?_
 refine r_nil ?_
 refine r_seq ?_
 refine r_region ?_
 refine r_op rfl rfl rfl (run_mv (v := .slice _ _ _) rfl (by exact rfl)) ?_
 refine r_op rfl rfl rfl (run_bld (pv := [(0, .slice _ _ _)]) (zs := [_, _]) (cells := [_, _]) rfl ty_85 (by exact rfl) pl_85 (by exact rfl) (by exact rfl)) ?_
 refine r_box (vs := [_, _]) (by exact rfl) (by exact rfl) rfl ?_
 intro b1 w2 heb1 hEw2 hbb1 hzb1
 have hs_w2 := (hEw2).size
 replace hV := evo_step0 hV hEw2
 have hAb1 := hbb1.at
 refine r_op rfl rfl rfl (run_asg (v := .pointer _) rfl (by exact rfl)) ?_
 refine r_nil ?_
 refine r_ret (res1 (v := .pointer _) rfl (by exact rfl)) ?_
 exact ⟨_, rfl, by omega, hV, hbb1, hAb1⟩
theorem bigw_calls {aot : Option Addr} {btt offt capt : Nat} {ts : List TermL} {ao : Option Addr} {b off cap : Nat} {c : List Clas} {aol : Option Addr} {bl offl capl : Nat} {l : List Vc.Item} {w0 : World} (ht : RowR w0 aot btt offt capt ts) (hc : RowR w0 ao b off cap c) (hl : RowE w0 aol bl offl capl l) :
    Calls Tryz.prog 12 #[.slice aot ts.length capt, .slice ao c.length cap, .slice aol l.length capl] w0 fun e w' => ∃ x, e = .returned (.bool x) ∧ Evo w0 w' [] := by
 have hcb := clas_bd hc; have htb := term_bd ht
 refine calls_enter (n := 54) (args := [.slice aot ts.length capt, .slice ao c.length cap, .slice aol l.length capl]) Tryz.func12 rfl Tryz.ntmps12 rfl ?_
 have hV : Evo w0 w0 [] := Evo.refl _ _
 have ht0 := ht.keep
 have hbd_ht := ht.bd
 have hc0 := hc.keep
 have hbd_hc := hc.bd
 have hl0 := keepE hl
 have hbd_hl := hl.bd
 refine r_seq ?_
 refine r_region ?_
 refine r_op rfl rfl rfl (run_asg (v := .bool _) rfl (by exact rfl)) ?_
 refine r_nil ?_
 refine r_seq ?_
 refine r_region ?_
 refine r_op rfl rfl rfl (run_mv (v := .slice _ _ _) rfl (by exact rfl)) ?_
 refine r_op rfl rfl rfl (run_lenSl rfl (by exact rfl) Tryz.underlying22) ?_
 refine r_op rfl rfl rfl (run_mv (v := .slice _ _ _) rfl (by exact rfl)) ?_
 refine r_op rfl rfl rfl (run_lenSl rfl (by exact rfl) Tryz.underlying23) ?_
 refine r_op rfl rfl rfl (run_addw rfl (by exact rfl) (by exact rfl)) ?_
 refine r_op rfl rfl rfl (run_mv (v := .slice _ _ _) rfl (by exact rfl)) ?_
 refine r_op rfl rfl rfl (run_lenSl rfl (by exact rfl) Tryz.underlying24) ?_
 refine r_op rfl rfl rfl (run_addw rfl (by exact rfl) (by exact rfl)) ?_
 refine r_op rfl rfl rfl (run_asg (v := .int _ _) rfl (by exact rfl)) ?_
 refine r_nil ?_
 refine r_seq ?_
 refine r_seq ?_
 refine r_region ?_
 refine r_op rfl rfl rfl (run_mv (v := .slice _ _ _) rfl (by exact rfl)) ?_
 refine r_op rfl rfl rfl (run_lenSl rfl (by exact rfl) Tryz.underlying22) ?_
 refine r_op rfl rfl rfl (run_mv (v := .int _ _) rfl (by exact rfl)) ?_
 refine r_nil ?_
 refine r_block ?_
 refine r_loop (α := Nat) [7, 9, 22, 23, 24, 25, 26, 27, 28, 29, 30, 31, 32, 33, 34, 35, 36, 37, 38, 39] (fun k g w => ∃ z : Int, g 22 = .int .i64 (k : Nat) ∧ g 7 = .int .i64 z ∧ k ≤ ts.length ∧ w0.heap.size ≤ w.heap.size ∧ Evo w0 w []) (fun k => ts.length - k) 0 ?_ ?_
 ·refine ⟨_, (by first | exact rfl | exact congrArg (Value.int _) (by omega) | exact congrArg (Value.int _) (by dsimp only; omega) | exact congrArg (Value.int _) (by simp) | exact congrArg S (by simp)), (by first | exact rfl | exact congrArg (Value.int _) (by omega) | exact congrArg (Value.int _) (by dsimp only; omega) | exact congrArg (Value.int _) (by simp) | exact congrArg S (by simp)), (by first | assumption | omega | (dsimp only; omega) | (simp; done)), (by first | assumption | omega | (dsimp only; omega) | (simp; done)), hV⟩
 ·rintro k g w2 ⟨z, hj3, hj4, hk_k, hzl1, hV⟩
  have hs_w2hV := hV.size
  replace ht := ht0.now hV
  replace hc := hc0.now hV
  replace hl := hl0 _ hV
  refine r_know (i := 22) (v := .int .i64 (k : Nat)) (by exact hj3) ?_
  refine r_know (i := 7) (v := .int .i64 z) (by exact hj4) ?_
  refine r_seq ?_
  refine r_region ?_
  refine r_op rfl rfl rfl (run_lss rfl (by exact rfl) (by exact rfl)) ?_
  refine r_nil ?_
  refine r_seq ?_
  refine r_cond (by exact rfl) (fun hc5 => ?_) (fun hc5 => ?_)
  ·skip
   refine r_skip ?_
   refine r_seq ?_
   refine r_block ?_
   refine r_seq ?_
   refine r_region ?_
   refine r_op rfl rfl rfl (run_ix (k) rfl Tryz.underlying22 ty_42 (by exact rfl) (by exact rfl) (by first | exact rfl | omega) (by omega) (ht.addr (i := k) (by omega))) ?_
   obtain ⟨aoW6, bW6, offW6, capW6, aoQ6, bQ6, offQ6, capQ6, aoF6, bF6, offF6, capF6, hX⟩ := term_atK ht0 (k) (by omega)
   have hA60 := fun (w' : World) (h : Evo w0 w' []) => (hX w' h).1
   have hA6 := hA60 _ hV
   have hW60 := fun (w' : World) (h : Evo w0 w' []) => (hX w' h).2.1
   have hW6 := hW60 _ hV
   have hQ60 := fun (w' : World) (h : Evo w0 w' []) => (hX w' h).2.2.1
   have hQ6 := hQ60 _ hV
   have hF60 := fun (w' : World) (h : Evo w0 w' []) => (hX w' h).2.2.2
   have hF6 := hF60 _ hV
   clear hX
   have hbd_hW6 := hW6.bd
   have hbd_hQ6 := hQ6.bd
   have hbd_hF6 := hF6.bd
   refine r_op rfl rfl rfl (run_ldN rfl ag_42 ty_42 (by exact rfl) rfl hA6) ?_
   refine r_var (zs := [_, _, _]) (vs := [_, _, _]) ty_42 (by exact rfl) rfl (by exact rfl) (fun _ => rfl) (by exact rfl) rfl rfl (by exact rfl) ?_
   intro b7 w8 heb7 hEw8 hbb7 hzb7
   have hs_w8 := (hEw8).size
   replace hV := evo_step0 hV hEw8
   replace ht := ht0.now hV
   replace hc := hc0.now hV
   replace hl := hl0 _ hV
   replace hW6 := hW60 _ hV
   replace hQ6 := hQ60 _ hV
   replace hF6 := hF60 _ hV
   have hAb7 := hbb7.at
   refine r_nil ?_
   refine r_region ?_
   refine r_op rfl rfl rfl (run_mv (v := .int _ _) rfl (by exact rfl)) ?_
   refine r_op rfl rfl rfl (run_fa rfl (by exact rfl) fo_42_0) ?_
   refine r_op rfl rfl rfl (run_ld1 rfl ag_39 (by exact rfl) (hAb7.cell 0 (by exact rfl))) ?_
   refine r_op rfl rfl rfl (run_lenSl rfl (by exact rfl) Tryz.underlying39) ?_
   refine r_op rfl rfl rfl (run_fa rfl (by exact rfl) fo_42_1) ?_
   refine r_op rfl rfl rfl (run_ld1 rfl ag_40 (by exact rfl) (hAb7.cell 1 (by exact rfl))) ?_
   refine r_op rfl rfl rfl (run_lenSl rfl (by exact rfl) Tryz.underlying40) ?_
   refine r_op rfl rfl rfl (run_addw rfl (by exact rfl) (by exact rfl)) ?_
   refine r_op rfl rfl rfl (run_fa rfl (by exact rfl) fo_42_2) ?_
   refine r_op rfl rfl rfl (run_ld1 rfl ag_40 (by exact rfl) (hAb7.cell 2 (by exact rfl))) ?_
   refine r_op rfl rfl rfl (run_lenSl rfl (by exact rfl) Tryz.underlying40) ?_
   refine r_op rfl rfl rfl (run_addw rfl (by exact rfl) (by exact rfl)) ?_
   refine r_op rfl rfl rfl (run_addw rfl (by exact rfl) (by exact rfl)) ?_
   refine r_op rfl rfl rfl (run_asg (v := .int _ _) rfl (by exact rfl)) ?_
   refine r_nil ?_
   refine r_blk ?_
   refine r_region ?_
   refine r_op rfl rfl rfl (run_add rfl (by exact rfl) (by exact rfl) (by omega) (by omega)) ?_
   refine r_op rfl rfl rfl (run_mv (v := .int _ _) rfl (by exact rfl)) ?_
   refine r_nil ?_
   refine r_again (k + 1) ?_ ?_ ?_
   ·first | omega | (dsimp only; omega)
   ·refine ⟨_, (by first | exact rfl | exact congrArg (Value.int _) (by omega) | exact congrArg (Value.int _) (by dsimp only; omega) | exact congrArg (Value.int _) (by simp) | exact congrArg S (by simp)), (by first | exact rfl | exact congrArg (Value.int _) (by omega) | exact congrArg (Value.int _) (by dsimp only; omega) | exact congrArg (Value.int _) (by simp) | exact congrArg S (by simp)), (by first | assumption | omega | (dsimp only; omega) | (simp; done)), (by first | assumption | omega | (dsimp only; omega) | (simp; done)), hV⟩
   ·repeat (first | (with_reducible exact Agree.merge _ _ _) | (with_reducible exact Agree.refl _ _) | (with_reducible refine Agree.upd ?_ _ _ rfl) | ((with_reducible refine Agree.inner ?_ ?_); (kernel_rfl)))
  ·skip
   refine r_exit rfl ?_
   refine r_seq ?_
   refine r_seq ?_
   refine r_region ?_
   refine r_op rfl rfl rfl (run_mv (v := .slice _ _ _) rfl (by exact rfl)) ?_
   refine r_op rfl rfl rfl (run_lenSl rfl (by exact rfl) Tryz.underlying23) ?_
   refine r_op rfl rfl rfl (run_mv (v := .int _ _) rfl (by exact rfl)) ?_
   refine r_nil ?_
   refine r_block ?_
   refine r_loop (α := Nat) [7, 11, 42, 43, 44, 45, 46, 47, 48, 49, 50, 51] (fun j g w => ∃ z : Int, g 42 = .int .i64 (j : Nat) ∧ g 7 = .int .i64 z ∧ j ≤ c.length ∧ w2.heap.size ≤ w.heap.size ∧ Evo w0 w []) (fun j => c.length - j) 0 ?_ ?_
   ·refine ⟨_, (by first | exact rfl | exact congrArg (Value.int _) (by omega) | exact congrArg (Value.int _) (by dsimp only; omega) | exact congrArg (Value.int _) (by simp) | exact congrArg S (by simp)), (by first | exact rfl | exact congrArg (Value.int _) (by omega) | exact congrArg (Value.int _) (by dsimp only; omega) | exact congrArg (Value.int _) (by simp) | exact congrArg S (by simp)), (by first | assumption | omega | (dsimp only; omega) | (simp; done)), (by first | assumption | omega | (dsimp only; omega) | (simp; done)), hV⟩
   ·rintro j g w10 ⟨z, hj11, hj12, hk_j, hzl9, hV⟩
    have hs_w10hV := hV.size
    replace ht := ht0.now hV
    replace hc := hc0.now hV
    replace hl := hl0 _ hV
    refine r_know (i := 42) (v := .int .i64 (j : Nat)) (by exact hj11) ?_
    refine r_know (i := 7) (v := .int .i64 z) (by exact hj12) ?_
    refine r_seq ?_
    refine r_region ?_
    refine r_op rfl rfl rfl (run_lss rfl (by exact rfl) (by exact rfl)) ?_
    refine r_nil ?_
    refine r_seq ?_
    refine r_cond (by exact rfl) (fun hc13 => ?_) (fun hc13 => ?_)
    ·skip
     refine r_skip ?_
     refine r_seq ?_
     refine r_block ?_
     refine r_seq ?_
     refine r_region ?_
     refine r_op rfl rfl rfl (run_ix (j) rfl Tryz.underlying23 ty_70 (by exact rfl) (by exact rfl) (by first | exact rfl | omega) (by omega) (hc.addr (i := j) (by omega))) ?_
     obtain ⟨ao14, b14, off14, cap14, hX⟩ := clas_atK hc0 (j) (by omega)
     have hA140 := fun (w' : World) (h : Evo w0 w' []) => (hX w' h).1
     have hA14 := hA140 _ hV
     have hR140 := fun (w' : World) (h : Evo w0 w' []) => (hX w' h).2
     have hR14 := hR140 _ hV
     clear hX
     have hbd_hR14 := hR14.bd
     refine r_op rfl rfl rfl (run_ldN rfl ag_70 ty_70 (by exact rfl) rfl hA14) ?_
     refine r_var (zs := [_, _]) (vs := [_, _]) ty_70 (by exact rfl) rfl (by exact rfl) (fun _ => rfl) (by exact rfl) rfl rfl (by exact rfl) ?_
     intro b15 w16 heb15 hEw16 hbb15 hzb15
     have hs_w16 := (hEw16).size
     replace hV := evo_step0 hV hEw16
     replace ht := ht0.now hV
     replace hc := hc0.now hV
     replace hl := hl0 _ hV
     replace hR14 := hR140 _ hV
     have hAb15 := hbb15.at
     refine r_nil ?_
     refine r_region ?_
     refine r_op rfl rfl rfl (run_mv (v := .int _ _) rfl (by exact rfl)) ?_
     refine r_op rfl rfl rfl (run_fa rfl (by exact rfl) fo_70_1) ?_
     refine r_op rfl rfl rfl (run_ld1 rfl ag_68 (by exact rfl) (hAb15.cell 1 (by exact rfl))) ?_
     refine r_op rfl rfl rfl (run_lenSl rfl (by exact rfl) Tryz.underlying68) ?_
     refine r_op rfl rfl rfl (run_addw rfl (by exact rfl) (by exact rfl)) ?_
     refine r_op rfl rfl rfl (run_asg (v := .int _ _) rfl (by exact rfl)) ?_
     refine r_nil ?_
     refine r_blk ?_
     refine r_region ?_
     refine r_op rfl rfl rfl (run_add rfl (by exact rfl) (by exact rfl) (by omega) (by omega)) ?_
     refine r_op rfl rfl rfl (run_mv (v := .int _ _) rfl (by exact rfl)) ?_
     refine r_nil ?_
     refine r_again (j + 1) ?_ ?_ ?_
     ·first | omega | (dsimp only; omega)
     ·refine ⟨_, (by first | exact rfl | exact congrArg (Value.int _) (by omega) | exact congrArg (Value.int _) (by dsimp only; omega) | exact congrArg (Value.int _) (by simp) | exact congrArg S (by simp)), (by first | exact rfl | exact congrArg (Value.int _) (by omega) | exact congrArg (Value.int _) (by dsimp only; omega) | exact congrArg (Value.int _) (by simp) | exact congrArg S (by simp)), (by first | assumption | omega | (dsimp only; omega) | (simp; done)), (by first | assumption | omega | (dsimp only; omega) | (simp; done)), hV⟩
     ·repeat (first | (with_reducible exact Agree.merge _ _ _) | (with_reducible exact Agree.refl _ _) | (with_reducible refine Agree.upd ?_ _ _ rfl) | ((with_reducible refine Agree.inner ?_ ?_); (kernel_rfl)))
    ·skip
     refine r_exit rfl ?_
     refine r_seq ?_
     refine r_region ?_
     refine r_op rfl rfl rfl (run_mv (v := .int _ _) rfl (by exact rfl)) ?_
     refine r_op rfl rfl rfl (run_gtr rfl (by exact rfl) (by exact rfl)) ?_
     refine r_op rfl rfl rfl (run_asg (v := .bool _) rfl (by exact rfl)) ?_
     refine r_nil ?_
     refine r_ret (res1 (v := .bool _) rfl (by exact rfl)) ?_
     exact ⟨_, rfl, hV⟩
set_option maxHeartbeats 1000000 in
theorem phrase_make {T bs : Nat} {ao : Option Addr} {b off cap : Nat} {l : List Int} {N : Nat} {w0 : World} (hb : Blk w0 bs T [.slice ao l.length cap, .int .i64 (N : Nat)]) (hl : ∀ w', Evo w0 w' [bs] → RowE w' ao b off cap l) (hN : N ≤ 999990) :
    Calls Tryz.prog 20 #[.pointer (some ⟨bs, 0, none⟩)] w0 fun e w' => ∃ s N', e = .returned (S s) ∧ MadePh s ∧ (N ≤ N' ∧ N' ≤ N + 4) ∧ Evo w0 w' [bs] ∧ Blk w' bs T [.slice ao l.length cap, .int .i64 (N' : Nat)] := by
 have hAs := hb.at; have hbslt := hb.lt
 refine calls_enter (n := 23) (args := [.pointer (some ⟨bs, 0, none⟩)]) Tryz.func20 rfl Tryz.ntmps20 rfl ?_
 have hV : Evo w0 w0 [bs] := Evo.refl _ _
 have hl0 := hl
 replace hl := hl0 _ hV
 have hbd_hl := hl.bd
 refine r_seq ?_
 refine r_region ?_
 refine r_op rfl rfl rfl (run_asg (v := S _) rfl (by exact rfl)) ?_
 refine r_nil ?_
 refine r_seq ?_
 refine r_region ?_
 refine r_op rfl rfl rfl (run_asg (v := S _) rfl (by exact rfl)) ?_
 refine r_nil ?_
 refine r_seq ?_
 refine r_seq ?_
 refine r_region ?_
 refine r_op rfl rfl rfl (run_mv (v := .pointer _) rfl (by exact rfl)) ?_
 refine r_opcall rfl rfl rfl (run_callf (vs := [.pointer _, .int _ _]) rfl (by exact rfl) Tryz.func41 rfl (by kernel_rfl)) (nx_calls hb hl (by omega) (by omega) (by omega)) ?_
 rintro e w1 ⟨nx1, rfl, hx1, hE1, hn1⟩
 refine ⟨_, rfl, ?_⟩
 have hs_w1 := (hE1).size
 replace hV := evo_step1 hV hE1 (.inr (by simp))
 replace hl := hl0 _ hV
 replace hb := hn1
 clear hn1
 have hAs := hb.at
 refine r_op rfl rfl rfl (run_asg (v := .int _ _) rfl (by exact rfl)) ?_
 refine r_nil ?_
 refine r_block ?_
 refine r_loop (α := Nat) [3, 4, 7, 8, 9, 10, 11, 12, 13, 14, 15, 16, 17, 18, 19, 20, 21] (fun ii g w => ∃ o : Str, ∃ N1 : Nat, g 4 = .int .i64 ((ii : Nat) - 1 : Int) ∧ g 3 = S o ∧ Blk w bs T [.slice ao l.length cap, .int .i64 (N1 : Nat)] ∧ At w bs 0 [.slice ao l.length cap, .int .i64 (N1 : Nat)] ∧ PhR (nx1.toNat + 1) ii o ∧ (N1 + ii = N + 1 + (nx1.toNat + 1)) ∧ w1.heap.size ≤ w.heap.size ∧ Evo w0 w [bs]) (fun ii => ii) (nx1.toNat + 1) ?_ ?_
 ·refine ⟨[], _, (congrArg (Value.int _) (by omega)), rfl, hb, hb.at, (PhR.nil _), (by omega), (by first | assumption | omega | (dsimp only; omega) | (simp; done)), hV⟩
 ·rintro ii g w3 ⟨o, N1, hj4, hj5, hb, hAs, hph, hN1, hzl2, hV⟩
  have hs_w3hV := hV.size
  have hlt6 := hb.lt
  replace hl := hl0 _ hV
  refine r_know (i := 4) (v := .int .i64 ((ii : Nat) - 1 : Int)) (by exact hj4) ?_
  refine r_know (i := 3) (v := S o) (by exact hj5) ?_
  refine r_seq ?_
  refine r_seq ?_
  refine r_region ?_
  refine r_op rfl rfl rfl (run_mv (v := .int _ _) rfl (by exact rfl)) ?_
  refine r_op rfl rfl rfl (run_geq rfl (by exact rfl) (by exact rfl)) ?_
  refine r_nil ?_
  refine r_cond (by exact rfl) (fun hc7 => ?_) (fun hc7 => ?_)
  ·skip
   refine r_skip ?_
   refine r_seq ?_
   refine r_block ?_
   refine r_seq ?_
   refine r_seq ?_
   have hpl := hph.len
   refine r_region ?_
   refine r_op rfl rfl rfl (run_mv (v := S _) rfl (by exact rfl)) ?_
   refine r_op rfl rfl rfl (run_sneq rfl (by exact rfl) (by exact rfl)) ?_
   refine r_nil ?_
   refine r_cond (by exact rfl) (fun hc8 => ?_) (fun hc8 => ?_)
   ·skip
    refine r_region ?_
    refine r_op rfl rfl rfl (run_mv (v := S _) rfl (by exact rfl)) ?_
    refine r_op rfl rfl rfl (run_sadd rfl (by exact rfl) (by exact rfl) (by first | omega | (simp; done) | (simp; omega))) ?_
    refine r_op rfl rfl rfl (run_asg (v := S _) rfl (by exact rfl)) ?_
    refine r_nil ?_
    refine r_region ?_
    refine r_op rfl rfl rfl (run_mv (v := S _) rfl (by exact rfl)) ?_
    refine r_bslice (pv := [(0, S _), (1, S _), (2, S _), (3, S _), (4, S _), (5, S _), (6, S _), (7, S _)]) (zs := [_]) (cs := [_, _, _, _, _, _, _, _]) Tryz.underlying40 ty_9 (by exact rfl) rfl (by exact rfl) rfl (by exact rfl) ?_
    intro b9 w10 heb9 hEw10 hbb9 hzb9
    have hs_w10 := (hEw10).size
    replace hV := evo_step0 hV hEw10
    replace hl := hl0 _ hV
    replace hb := hb.evo0 hEw10
    replace hAs := hAs.evo0 hEw10
    have hAb9 := hbb9.at
    have hrb9 : RowE w10 (some ⟨b9, 0, none⟩) b9 0 8 phrW := rowLit phrW hbb9 rfl rfl
    refine r_op rfl rfl rfl (run_mv (v := .pointer _) rfl (by exact rfl)) ?_
    refine r_opcall rfl rfl rfl (run_callf (vs := [.pointer _, .int _ _]) rfl (by exact rfl) Tryz.func41 rfl (by kernel_rfl)) (nx_calls hb hl (by omega) (by omega) (by omega)) ?_
    rintro e w11 ⟨nx11, rfl, hx11, hE11, hn11⟩
    refine ⟨_, rfl, ?_⟩
    have hs_w11 := (hE11).size
    replace hV := evo_step1 hV hE11 (.inr (by simp))
    replace hl := hl0 _ hV
    replace hrb9 := hrb9.evo hE11 (by simp; omega)
    replace hb := hn11
    clear hn11
    have hAs := hb.at
    have hwl9 := (phr_len (phrD_in (k := nx11.toNat) (by omega))).2; have hwl8 := hwl9; rw [List.getD_eq_getElem?_getD] at hwl8
    refine r_op rfl rfl rfl (run_ix (nx11.toNat) rfl Tryz.underlying40 ty_9 (by exact rfl) (by exact rfl) (by omega) (by show _ < 8; omega) (hrb9.addr (i := nx11.toNat) (by show _ < 8; omega))) ?_
    have hA12 := hrb9.atD (nx11.toNat) (by show _ < 8; omega)
    refine r_op rfl rfl rfl (run_ld1 rfl ag_9 (by exact rfl) (hA12.cell 0 (by exact rfl))) ?_
    refine r_op rfl rfl rfl (run_sadd rfl (by exact rfl) (by exact rfl) (by first | omega | (simp; done) | (simp; omega))) ?_
    refine r_op rfl rfl rfl (run_asg (v := S _) rfl (by exact rfl)) ?_
    refine r_nil ?_
    refine r_blk ?_
    refine r_region ?_
    refine r_op rfl rfl rfl (run_mv (v := .int _ _) rfl (by exact rfl)) ?_
    refine r_op rfl rfl rfl (run_sub rfl (by exact rfl) (by exact rfl) (by omega) (by omega)) ?_
    refine r_op rfl rfl rfl (run_asg (v := .int _ _) rfl (by exact rfl)) ?_
    refine r_nil ?_
    refine r_again (ii - 1) ?_ ?_ ?_
    ·first | omega | (dsimp only; omega)
    ·refine ⟨_, _, (congrArg (Value.int _) (by omega)), rfl, hb, hb.at, (by obtain ⟨i9, hi9⟩ : ∃ z, ii = z + 1 := ⟨ii - 1, by omega⟩; subst hi9; first | exact hph.more1 (phrD_in (by omega)) hc8 | exact hph.more2 (phrD_in (by omega)) (Classical.not_not.1 hc8)), (by omega), (by first | assumption | omega | (dsimp only; omega) | (simp; done)), hV⟩
    ·repeat (first | (with_reducible exact Agree.merge _ _ _) | (with_reducible exact Agree.refl _ _) | (with_reducible refine Agree.upd ?_ _ _ rfl) | ((with_reducible refine Agree.inner ?_ ?_); (kernel_rfl)))
   ·skip
    refine r_skip ?_
    refine r_region ?_
    refine r_op rfl rfl rfl (run_mv (v := S _) rfl (by exact rfl)) ?_
    refine r_bslice (pv := [(0, S _), (1, S _), (2, S _), (3, S _), (4, S _), (5, S _), (6, S _), (7, S _)]) (zs := [_]) (cs := [_, _, _, _, _, _, _, _]) Tryz.underlying40 ty_9 (by exact rfl) rfl (by exact rfl) rfl (by exact rfl) ?_
    intro b13 w14 heb13 hEw14 hbb13 hzb13
    have hs_w14 := (hEw14).size
    replace hV := evo_step0 hV hEw14
    replace hl := hl0 _ hV
    replace hb := hb.evo0 hEw14
    replace hAs := hAs.evo0 hEw14
    have hAb13 := hbb13.at
    have hrb13 : RowE w14 (some ⟨b13, 0, none⟩) b13 0 8 phrW := rowLit phrW hbb13 rfl rfl
    refine r_op rfl rfl rfl (run_mv (v := .pointer _) rfl (by exact rfl)) ?_
    refine r_opcall rfl rfl rfl (run_callf (vs := [.pointer _, .int _ _]) rfl (by exact rfl) Tryz.func41 rfl (by kernel_rfl)) (nx_calls hb hl (by omega) (by omega) (by omega)) ?_
    rintro e w15 ⟨nx15, rfl, hx15, hE15, hn15⟩
    refine ⟨_, rfl, ?_⟩
    have hs_w15 := (hE15).size
    replace hV := evo_step1 hV hE15 (.inr (by simp))
    replace hl := hl0 _ hV
    replace hrb13 := hrb13.evo hE15 (by simp; omega)
    replace hb := hn15
    clear hn15
    have hAs := hb.at
    have hwl9 := (phr_len (phrD_in (k := nx15.toNat) (by omega))).2; have hwl8 := hwl9; rw [List.getD_eq_getElem?_getD] at hwl8
    refine r_op rfl rfl rfl (run_ix (nx15.toNat) rfl Tryz.underlying40 ty_9 (by exact rfl) (by exact rfl) (by omega) (by show _ < 8; omega) (hrb13.addr (i := nx15.toNat) (by show _ < 8; omega))) ?_
    have hA16 := hrb13.atD (nx15.toNat) (by show _ < 8; omega)
    refine r_op rfl rfl rfl (run_ld1 rfl ag_9 (by exact rfl) (hA16.cell 0 (by exact rfl))) ?_
    refine r_op rfl rfl rfl (run_sadd rfl (by exact rfl) (by exact rfl) (by first | omega | (simp; done) | (simp; omega))) ?_
    refine r_op rfl rfl rfl (run_asg (v := S _) rfl (by exact rfl)) ?_
    refine r_nil ?_
    refine r_blk ?_
    refine r_region ?_
    refine r_op rfl rfl rfl (run_mv (v := .int _ _) rfl (by exact rfl)) ?_
    refine r_op rfl rfl rfl (run_sub rfl (by exact rfl) (by exact rfl) (by omega) (by omega)) ?_
    refine r_op rfl rfl rfl (run_asg (v := .int _ _) rfl (by exact rfl)) ?_
    refine r_nil ?_
    refine r_again (ii - 1) ?_ ?_ ?_
    ·first | omega | (dsimp only; omega)
    ·refine ⟨_, _, (congrArg (Value.int _) (by omega)), rfl, hb, hb.at, (by obtain ⟨i9, hi9⟩ : ∃ z, ii = z + 1 := ⟨ii - 1, by omega⟩; subst hi9; first | exact hph.more1 (phrD_in (by omega)) hc8 | exact hph.more2 (phrD_in (by omega)) (Classical.not_not.1 hc8)), (by omega), (by first | assumption | omega | (dsimp only; omega) | (simp; done)), hV⟩
    ·repeat (first | (with_reducible exact Agree.merge _ _ _) | (with_reducible exact Agree.refl _ _) | (with_reducible refine Agree.upd ?_ _ _ rfl) | ((with_reducible refine Agree.inner ?_ ?_); (kernel_rfl)))
  ·skip
   refine r_exit rfl ?_
   refine r_seq ?_
   refine r_region ?_
   refine r_op rfl rfl rfl (run_mv (v := S _) rfl (by exact rfl)) ?_
   refine r_op rfl rfl rfl (run_asg (v := S _) rfl (by exact rfl)) ?_
   refine r_nil ?_
   refine r_ret (res1 (v := S _) rfl (by exact rfl)) ?_
   exact ⟨o, N1, rfl, PhR.made (by rw [show ii = 0 by omega] at hph; exact hph) (by omega) (by omega), by omega, hV, hb⟩
end Go.Proofs.YtkklomiipkipnaaGreatDoor
namespace Go.Proofs.YtkklomiipkipnaaGreatDoor
open Go.RowKit Go.Vc
theorem pl_60 : placesP Tryz.prog 60 = some [(0, 1), (1, 1)] := by kernel_rfl
theorem ty_39 : tyP Tryz.prog 39 = some (1, 24, some (.slice none 0 0)) := by kernel_rfl
theorem term_rep {w : World} {Y : List Nat} {ao1 ao2 ao3 : Option Addr} {g1 g2 g3 c1 c2 c3 : Nat} (x : TermL) (h1 : RowE w ao1 g1 0 c1 x.words) (n1 : x.words ≠ [] → g1 ∉ Y) (h2 : RowE w ao2 g2 0 c2 x.req) (n2 : x.req ≠ [] → g2 ∉ Y) (h3 : RowE w ao3 g3 0 c3 x.forb) (n3 : x.forb ≠ [] → g3 ∉ Y) (hb : x.words.length ≤ 4398046510976 ∧ ∀ y ∈ x.words, BdE y) :
    ∀ w', Evo w w' Y → Rep.rep w' [.slice ao1 x.words.length c1, .slice ao2 x.req.length c2, .slice ao3 x.forb.length c3] x := fun w' he => ⟨⟨_, _, _, _, _, _, _, _, _, _, _, _, rfl, row_keep h1 he n1, row_keep h2 he n2, row_keep h3 he n3⟩, hb⟩
theorem nm_get {c : List Clas} (h : ∀ x ∈ c, x.name.length ≤ 1000) {k : Nat} (hk : k < c.length) : (c.getD k default).name.length ≤ 1000 := h _ (getD_in hk)
set_option maxHeartbeats 4000000 in
theorem terms_make {T bs : Nat} {ao : Option Addr} {b off cap : Nat} {l : List Int} {N : Nat} {aoc : Option Addr} {bc offc capc : Nat} {c : List Clas} {n : Int} {w0 : World} (hb : Blk w0 bs T [.slice ao l.length cap, .int .i64 (N : Nat)]) (hl : ∀ w', Evo w0 w' [bs] → RowE w' ao b off cap l) (hN : N ≤ 800000) (hc : RowRK w0 [bs] aoc bc offc capc c) (hcn0 : ∀ x ∈ c, x.name.length ≤ 1000) (hcl9 : c.length ≤ 1000000) (hn0 : 0 ≤ n) (hn9 : n ≤ 8) :
    Calls Tryz.prog 33 #[.pointer (some ⟨bs, 0, none⟩), .slice aoc c.length capc, .int .i64 n] w0 fun e w' => ∃ v, ∃ ts : List TermL, ∃ N' : Nat, e = .returned v ∧ ((∀ x ∈ ts, MadeTm x) ∧ (ts.length : Int) ≤ n) ∧ (N ≤ N' ∧ N' ≤ N + 300) ∧ Evo w0 w' [bs] ∧ Blk w' bs T [.slice ao l.length cap, .int .i64 (N' : Nat)] ∧ OwnR w' w0.heap.size 42 [bs] v ts := by
 have hAs := hb.at; have hbslt := hb.lt
 refine calls_enter (n := 88) (args := [.pointer (some ⟨bs, 0, none⟩), .slice aoc c.length capc, .int .i64 n]) Tryz.func33 rfl Tryz.ntmps33 rfl ?_
 have hV : Evo w0 w0 [bs] := Evo.refl _ _
 have hl0 := hl
 replace hl := hl0 _ hV
 have hbd_hl := hl.bd
 have hc0 := hc
 replace hc := hc0.now hV
 have hbd_hc := hc.bd
 refine r_seq ?_
 refine r_region ?_
 refine r_op rfl rfl rfl (run_asg (v := .slice _ _ _) rfl (by exact rfl)) ?_
 refine r_nil ?_
 refine r_seq ?_
 refine r_region ?_
 refine r_op rfl rfl rfl (run_asg (v := .slice _ _ _) rfl (by exact rfl)) ?_
 refine r_nil ?_
 refine r_seq ?_
 refine r_seq ?_
 refine r_region ?_
 refine r_op rfl rfl rfl (run_mv (v := .pointer _) rfl (by exact rfl)) ?_
 refine r_op rfl rfl rfl (run_mv (v := .int _ _) rfl (by exact rfl)) ?_
 refine r_op rfl rfl rfl (run_add rfl (by exact rfl) (by exact rfl) (by omega) (by omega)) ?_
 refine r_opcall rfl rfl rfl (run_callf (vs := [.pointer _, .int _ _]) rfl (by exact rfl) Tryz.func41 rfl (by kernel_rfl)) (nx_calls hb hl (by omega) (by omega) (by omega)) ?_
 rintro e w1 ⟨nx1, rfl, hx1, hE1, hn1⟩
 refine ⟨_, rfl, ?_⟩
 have hs_w1 := (hE1).size
 replace hV := evo_step1 hV hE1 (.inr (by simp))
 replace hl := hl0 _ hV
 replace hc := hc0.now hV
 replace hb := hn1
 clear hn1
 have hAs := hb.at
 refine r_op rfl rfl rfl (run_asg (v := .int _ _) rfl (by exact rfl)) ?_
 refine r_nil ?_
 refine r_block ?_
 refine r_loop (α := Nat) [7, 8, 9, 10, 11, 12, 13, 18, 19, 20, 21, 22, 23, 24, 25, 26, 27, 28, 29, 30, 31, 32, 33, 34, 35, 36, 37, 38, 39, 40, 41, 42, 43, 44, 45, 46, 47, 48, 49, 50, 51, 52, 53, 54, 55, 56, 57, 58, 59, 60, 61, 62, 63, 64, 65, 66, 67, 68, 69, 70, 71, 72, 73, 74, 75, 76, 77, 78, 79, 80, 81, 82, 83, 84, 85, 86] (fun i g w => ∃ vo : Value, ∃ ts : List TermL, ∃ N1 : Nat, g 8 = .int .i64 (i : Nat) ∧ g 7 = vo ∧ OwnR w w0.heap.size 42 [bs] vo ts ∧ Blk w bs T [.slice ao l.length cap, .int .i64 (N1 : Nat)] ∧ At w bs 0 [.slice ao l.length cap, .int .i64 (N1 : Nat)] ∧ (∀ x ∈ ts, MadeTm x) ∧ (ts.length + i = nx1.toNat ∧ N + 1 ≤ N1 ∧ N1 + 28 * i ≤ N + 1 + 28 * nx1.toNat) ∧ w1.heap.size ≤ w.heap.size ∧ Evo w0 w [bs]) (fun i => i) nx1.toNat ?_ ?_
 ·refine ⟨_, [], _, (congrArg (Value.int _) (by omega)), rfl, (OwnR.nil _ _ _ _), hb, hb.at, (fun x hx => absurd hx List.not_mem_nil), (by first | (simp; done) | (simp; omega)), (by first | assumption | omega | (dsimp only; omega) | (simp; done)), hV⟩
 ·rintro i g w3 ⟨vo, ts, N1, hj4, hj5, hoR, hb, hAs, hMT, hN1, hzl2, hV⟩
  have hs_w3hV := hV.size
  have hlt6 := hb.lt
  replace hl := hl0 _ hV
  replace hc := hc0.now hV
  refine r_know (i := 8) (v := .int .i64 (i : Nat)) (by exact hj4) ?_
  refine r_know (i := 7) (v := vo) (by exact hj5) ?_
  refine r_seq ?_
  refine r_seq ?_
  refine r_region ?_
  refine r_op rfl rfl rfl (run_mv (v := .int _ _) rfl (by exact rfl)) ?_
  refine r_op rfl rfl rfl (run_gtr rfl (by exact rfl) (by exact rfl)) ?_
  refine r_nil ?_
  refine r_cond (by exact rfl) (fun hc7 => ?_) (fun hc7 => ?_)
  ·skip
   refine r_skip ?_
   refine r_seq ?_
   refine r_block ?_
   refine r_seq ?_
   have hI : Evo w3 w3 [bs] := Evo.refl _ _
   have hoR0 := hoR
   have hobR := fun g hg => (hoR.block (g := g) hg).2
   refine r_region ?_
   refine r_alloc (zs := [_, _, _]) ty_42 (by exact rfl) rfl ?_
   intro b8 w9 heb8 hEw9 hbb8 hzb8
   have hs_w9 := (hEw9).size
   replace hV := evo_step0 hV hEw9
   replace hI := evo_step0 hI hEw9
   replace hl := hl0 _ hV
   replace hc := hc0.now hV
   replace hb := hb.evo0 hEw9
   replace hAs := hAs.evo0 hEw9
   have hAb8 := hbb8.at
   refine r_nil ?_
   refine r_seq ?_
   refine r_seq ?_
   refine r_region ?_
   refine r_op rfl rfl rfl (run_mv (v := .pointer _) rfl (by exact rfl)) ?_
   refine r_opcall rfl rfl rfl (run_callf (vs := [.pointer _, .int _ _]) rfl (by exact rfl) Tryz.func41 rfl (by kernel_rfl)) (nx_calls hb hl (by omega) (by omega) (by omega)) ?_
   rintro e w10 ⟨nx10, rfl, hx10, hE10, hn10⟩
   refine ⟨_, rfl, ?_⟩
   have hs_w10 := (hE10).size
   replace hV := evo_step1 hV hE10 (.inr (by simp))
   replace hI := evo_step1 hI hE10 (by first | exact .inl (by omega) | exact .inr (by simp))
   replace hl := hl0 _ hV
   replace hc := hc0.now hV
   replace hbb8 := hbb8.evo hE10 (by simp; omega)
   replace hAb8 := hAb8.evo hE10 (by simp; omega)
   replace hb := hn10
   clear hn10
   have hAs := hb.at
   refine r_op rfl rfl rfl (run_asg (v := .int _ _) rfl (by exact rfl)) ?_
   refine r_nil ?_
   refine r_block ?_
   refine r_loop (α := Nat) [10, 11, 24, 25, 26, 27, 28, 29, 30, 31, 32, 33, 34, 35, 36, 37, 38, 39, 40, 41, 42, 43, 44, 45, 46, 47, 48, 49, 50, 51, 52, 53, 54, 55, 56] (fun kk g w => ∃ vs : Value, ∃ ws : List Ende, ∃ N2 : Nat, g 10 = .int .i64 ((kk : Nat) - 1 : Int) ∧ OwnE w w9.heap.size 60 vs ws ∧ Blk w b8 42 [vs, .slice none 0 0, .slice none 0 0] ∧ At w b8 0 [vs, .slice none 0 0, .slice none 0 0] ∧ Blk w bs T [.slice ao l.length cap, .int .i64 (N2 : Nat)] ∧ At w bs 0 [.slice ao l.length cap, .int .i64 (N2 : Nat)] ∧ (∀ y ∈ ws, y.strip ∈ stemW ∧ y.add.length ≤ 1000) ∧ (ws.length + kk = (nx10.toNat + 1) ∧ N1 + 1 ≤ N2 ∧ N2 + 3 * kk ≤ N1 + 1 + 3 * (nx10.toNat + 1)) ∧ w10.heap.size ≤ w.heap.size ∧ Evo w0 w [bs] ∧ Evo w3 w [bs]) (fun kk => kk) (nx10.toNat + 1) ?_ ?_
   ·refine ⟨_, [], _, (congrArg (Value.int _) (by omega)), (OwnE.nil _ _ _), hbb8, hbb8.at, hb, hb.at, (fun y hy => absurd hy List.not_mem_nil), (by first | (simp; done) | (simp; omega)), (by first | assumption | omega | (dsimp only; omega) | (simp; done)), hV, hI⟩
   ·rintro kk g w12 ⟨vs, ws, N2, hj13, hos, hbb8, hAb8, hb, hAs, hws, hwk, hzl11, hV, hI⟩
    have hs_w12hV := hV.size
    have hs_w12hI := hI.size
    have hlt14 := hbb8.lt
    have hlt15 := hb.lt
    replace hl := hl0 _ hV
    replace hc := hc0.now hV
    refine r_know (i := 10) (v := .int .i64 ((kk : Nat) - 1 : Int)) (by exact hj13) ?_
    refine r_seq ?_
    refine r_seq ?_
    refine r_region ?_
    refine r_op rfl rfl rfl (run_mv (v := .int _ _) rfl (by exact rfl)) ?_
    refine r_op rfl rfl rfl (run_geq rfl (by exact rfl) (by exact rfl)) ?_
    refine r_nil ?_
    refine r_cond (by exact rfl) (fun hc16 => ?_) (fun hc16 => ?_)
    ·skip
     refine r_skip ?_
     refine r_seq ?_
     refine r_block ?_
     refine r_seq ?_
     have hobS := fun g hg => (hos.block (g := g) hg).2
     refine r_region ?_
     refine r_bslice (pv := [(0, S _), (1, S _), (2, S _), (3, S _), (4, S _), (5, S _)]) (zs := [_]) (cs := [_, _, _, _, _, _]) Tryz.underlying40 ty_9 (by exact rfl) rfl (by exact rfl) rfl (by exact rfl) ?_
     intro b17 w18 heb17 hEw18 hbb17 hzb17
     have hs_w18 := (hEw18).size
     replace hV := evo_step0 hV hEw18
     replace hI := evo_step0 hI hEw18
     replace hl := hl0 _ hV
     replace hc := hc0.now hV
     replace hos := hos.evo0 hEw18
     replace hbb8 := hbb8.evo0 hEw18
     replace hAb8 := hAb8.evo0 hEw18
     replace hb := hb.evo0 hEw18
     replace hAs := hAs.evo0 hEw18
     have hAb17 := hbb17.at
     have hrb17 : RowE w18 (some ⟨b17, 0, none⟩) b17 0 6 stemW := rowLit stemW hbb17 rfl rfl
     refine r_op rfl rfl rfl (run_mv (v := .pointer _) rfl (by exact rfl)) ?_
     refine r_opcall rfl rfl rfl (run_callf (vs := [.pointer _, .int _ _]) rfl (by exact rfl) Tryz.func41 rfl (by kernel_rfl)) (nx_calls hb hl (by omega) (by omega) (by omega)) ?_
     rintro e w19 ⟨nx19, rfl, hx19, hE19, hn19⟩
     refine ⟨_, rfl, ?_⟩
     have hs_w19 := (hE19).size
     replace hV := evo_step1 hV hE19 (.inr (by simp))
     replace hI := evo_step1 hI hE19 (by first | exact .inl (by omega) | exact .inr (by simp))
     replace hl := hl0 _ hV
     replace hc := hc0.now hV
     replace hos := hos.evo hE19 (by intro g hg hm; simp at hm; subst hm; have h7 := hobS g hg; have h6 := hos.block hg; omega)
     replace hbb8 := hbb8.evo hE19 (by simp; omega)
     replace hAb8 := hAb8.evo hE19 (by simp; omega)
     replace hrb17 := hrb17.evo hE19 (by simp; omega)
     replace hb := hn19
     clear hn19
     have hAs := hb.at
     refine r_op rfl rfl rfl (run_ix (nx19.toNat) rfl Tryz.underlying40 ty_9 (by exact rfl) (by exact rfl) (by omega) (by show _ < 6; omega) (hrb17.addr (i := nx19.toNat) (by show _ < 6; omega))) ?_
     have hA20 := hrb17.atD (nx19.toNat) (by show _ < 6; omega)
     refine r_op rfl rfl rfl (run_ld1 rfl ag_9 (by exact rfl) (hA20.cell 0 (by exact rfl))) ?_
     refine r_op rfl rfl rfl (run_bld (pv := [(0, S _)]) (zs := [_, _]) (cells := [_, _]) rfl ty_60 (by exact rfl) pl_60 (by exact rfl) (by exact rfl)) ?_
     have hob21 := fun g hg => (hos.block (g := g) hg).2
     refine r_var (zs := [_, _]) (vs := [_, _]) ty_60 (by exact rfl) rfl (by exact rfl) (fun _ => rfl) (by exact rfl) rfl rfl (by exact rfl) ?_
     intro b22 w23 heb22 hEw23 hbb22 hzb22
     have hs_w23 := (hEw23).size
     replace hV := evo_step0 hV hEw23
     replace hI := evo_step0 hI hEw23
     replace hl := hl0 _ hV
     replace hc := hc0.now hV
     replace hos := hos.evo0 hEw23
     replace hbb8 := hbb8.evo0 hEw23
     replace hAb8 := hAb8.evo0 hEw23
     replace hrb17 := hrb17.evo0 hEw23
     replace hb := hb.evo0 hEw23
     replace hAs := hAs.evo0 hEw23
     have hAb22 := hbb22.at
     refine r_nil ?_
     refine r_seq ?_
     refine r_seq ?_
     refine r_region ?_
     refine r_op rfl rfl rfl (run_mv (v := .slice _ _ _) rfl (by exact rfl)) ?_
     refine r_op rfl rfl rfl (run_lenSl rfl (by exact rfl) Tryz.underlying23) ?_
     refine r_op rfl rfl rfl (run_gtr rfl (by exact rfl) (by exact rfl)) ?_
     refine r_op rfl rfl rfl (run_mv (v := .bool _) rfl (by exact rfl)) ?_
     refine r_g rfl (wantT (by exact rfl)) rfl (fun hg => run_mv (v := .pointer _) rfl (by exact rfl)) ?_
     refine r_gnext rfl (wantT (by exact rfl)) rfl (fun hg => run_callf rfl (argcons (v := .pointer _) (glv (by exact rfl) (fun h => h) hg) (argcons (v := .int _ _) (by exact rfl) (rfl))) Tryz.func41 rfl (by kernel_rfl)) (fun hg => (nx_calls hb hl (by omega) (by omega) (by omega))) hb ?_
     intro nx25 w24 Ng25 hx25 hE25 hna25 hnb25 hbn
     have hs_w24 := (hE25).size
     replace hV := evo_step1 hV hE25 (.inr (by simp))
     replace hI := evo_step1 hI hE25 (by first | exact .inl (by omega) | exact .inr (by simp))
     replace hl := hl0 _ hV
     replace hc := hc0.now hV
     replace hos := hos.evo hE25 (by intro g hg hm; simp at hm; subst hm; have h7 := hobS g hg; have h6 := hos.block hg; omega)
     replace hbb8 := hbb8.evo hE25 (by simp; omega)
     replace hAb8 := hAb8.evo hE25 (by simp; omega)
     replace hbb22 := hbb22.evo hE25 (by simp; omega)
     replace hAb22 := hAb22.evo hE25 (by simp; omega)
     replace hb := hbn
     clear hbn
     have hAs := hb.at
     refine r_g rfl (wantT (by exact rfl)) rfl (fun hg => run_eql rfl (glv (by exact rfl) (fun h => h) hg) (by exact rfl)) ?_
     refine r_op rfl rfl rfl (run_pick_and rfl (by exact rfl) (fun hq => glv (by exact rfl) (fun h => h) hq) rfl) ?_
     refine r_nil ?_
     refine r_cut [42, 43, 44, 45, 46, 47, 48, 49, 50] (fun g w => ∃ cn : Str, ∃ N3 : Nat, Blk w b22 60 [S (stemW.getD nx19.toNat default), S cn] ∧ At w b22 0 [S (stemW.getD nx19.toNat default), S cn] ∧ OwnE w w9.heap.size 60 vs ws ∧ Blk w b8 42 [vs, .slice none 0 0, .slice none 0 0] ∧ At w b8 0 [vs, .slice none 0 0, .slice none 0 0] ∧ Blk w bs T [.slice ao l.length cap, .int .i64 (N3 : Nat)] ∧ At w bs 0 [.slice ao l.length cap, .int .i64 (N3 : Nat)] ∧ cn.length ≤ 1000 ∧ (N2 + 1 ≤ N3 ∧ N3 ≤ N2 + 3) ∧ w24.heap.size ≤ w.heap.size ∧ Evo w0 w [bs] ∧ Evo w3 w [bs]) ?_ ?_
     ·skip
      refine r_cond (by exact rfl) (fun hc27 => ?_) (fun hc27 => ?_)
      ·skip
       refine r_region ?_
       refine r_op rfl rfl rfl (run_mv (v := .slice _ _ _) rfl (by exact rfl)) ?_
       refine r_op rfl rfl rfl (run_mv (v := .pointer _) rfl (by exact rfl)) ?_
       refine r_op rfl rfl rfl (run_mv (v := .slice _ _ _) rfl (by exact rfl)) ?_
       refine r_op rfl rfl rfl (run_lenSl rfl (by exact rfl) Tryz.underlying23) ?_
       refine r_opcall rfl rfl rfl (run_callf (vs := [.pointer _, .int _ _]) rfl (by exact rfl) Tryz.func41 rfl (by kernel_rfl)) (nx_calls hb hl (by omega) (by omega) (by omega)) ?_
       rintro e w28 ⟨nx28, rfl, hx28, hE28, hn28⟩
       refine ⟨_, rfl, ?_⟩
       have hs_w28 := (hE28).size
       replace hV := evo_step1 hV hE28 (.inr (by simp))
       replace hI := evo_step1 hI hE28 (by first | exact .inl (by omega) | exact .inr (by simp))
       replace hl := hl0 _ hV
       replace hc := hc0.now hV
       replace hos := hos.evo hE28 (by intro g hg hm; simp at hm; subst hm; have h7 := hobS g hg; have h6 := hos.block hg; omega)
       replace hbb8 := hbb8.evo hE28 (by simp; omega)
       replace hAb8 := hAb8.evo hE28 (by simp; omega)
       replace hbb22 := hbb22.evo hE28 (by simp; omega)
       replace hAb22 := hAb22.evo hE28 (by simp; omega)
       replace hb := hn28
       clear hn28
       have hAs := hb.at
       refine r_op rfl rfl rfl (run_ix (nx28.toNat) rfl Tryz.underlying23 ty_70 (by exact rfl) (by exact rfl) (by omega) (by omega) (hc.addr (i := nx28.toNat) (by omega))) ?_
       obtain ⟨ao29, b29, off29, cap29, hX⟩ := clas_atK hc0 (nx28.toNat) (by omega)
       have hA290 := fun (w' : World) (h : Evo w0 w' [bs]) => (hX w' h).1
       have hA29 := hA290 _ hV
       have hR290 := fun (w' : World) (h : Evo w0 w' [bs]) => (hX w' h).2
       have hR29 := hR290 _ hV
       clear hX
       have hbd_hR29 := hR29.bd
       refine r_op rfl rfl rfl (run_fa rfl (by exact rfl) fo_70_0) ?_
       refine r_op rfl rfl rfl (run_ld1 rfl ag_9 (by exact rfl) (hA29.cell 0 (by exact rfl))) ?_
       refine r_op rfl rfl rfl (run_fa rfl (by exact rfl) fo_60_1) ?_
       refine r_store (v := S _) (vs := [_]) (cs' := [_, _]) (by exact rfl) (by exact rfl) hbb22 ty_9 (by exact rfl) rfl (by exact rfl) rfl (by exact rfl) ?_
       intro w30 hEw30 hzw30 hb_new
       have hs_w30 := (hEw30).size
       replace hV := evo_step1 hV hEw30 (by first | exact .inl (by omega) | exact .inr (by simp))
       replace hI := evo_step1 hI hEw30 (by first | exact .inl (by omega) | exact .inr (by simp))
       replace hl := hl0 _ hV
       replace hc := hc0.now hV
       replace hos := hos.evo hEw30 (by intro g hg hm; simp at hm; subst hm; have h7 := hobS g hg; have h6 := hos.block hg; omega)
       replace hbb8 := hbb8.evo hEw30 (by simp; omega)
       replace hAb8 := hAb8.evo hEw30 (by simp; omega)
       replace hb := hb.evo hEw30 (by simp; omega)
       replace hbb22 := hb_new
       have hAb22 := hbb22.at
       clear hb_new
       refine r_nil ?_
       refine r_cut_end ?_ ?_
       ·refine ⟨_, _, hbb22, hbb22.at, hos, hbb8, hbb8.at, hb, hb.at, (by first | exact nm_get hcn0 (by omega) | exact Nat.zero_le _), (by omega), (by first | assumption | omega | (dsimp only; omega) | (simp; done)), hV, hI⟩
       ·repeat (first | (with_reducible exact Agree.merge _ _ _) | (with_reducible exact Agree.refl _ _) | (with_reducible refine Agree.upd ?_ _ _ rfl) | ((with_reducible refine Agree.inner ?_ ?_); (kernel_rfl)))
      ·skip
       refine r_skip ?_
       refine r_cut_end ?_ ?_
       ·refine ⟨_, _, hbb22, hbb22.at, hos, hbb8, hbb8.at, hb, hb.at, (by first | exact nm_get hcn0 (by omega) | exact Nat.zero_le _), (by omega), (by first | assumption | omega | (dsimp only; omega) | (simp; done)), hV, hI⟩
       ·repeat (first | (with_reducible exact Agree.merge _ _ _) | (with_reducible exact Agree.refl _ _) | (with_reducible refine Agree.upd ?_ _ _ rfl) | ((with_reducible refine Agree.inner ?_ ?_); (kernel_rfl)))
     ·rintro g w31 ⟨cn, N3, hbb22, hAb22, hos, hbb8, hAb8, hb, hAs, hcn, hN3, hzl26, hV, hI⟩
      have hs_w31hV := hV.size
      have hs_w31hI := hI.size
      have hlt32 := hbb22.lt
      have hlt33 := hbb8.lt
      have hlt34 := hb.lt
      replace hl := hl0 _ hV
      replace hc := hc0.now hV
      refine r_region ?_
      refine r_op rfl rfl rfl (run_fa rfl (by exact rfl) fo_42_0) ?_
      refine r_op rfl rfl rfl (run_ld1 rfl ag_39 (by exact rfl) (hAb8.cell 0 (by exact rfl))) ?_
      refine r_op rfl rfl rfl (run_ldN rfl ag_60 ty_60 (by exact rfl) rfl hAb22) ?_
      refine r_append1E (u := .agg _) (y := (⟨(stemW.getD nx19.toNat default), cn⟩ : Ende)) rfl rfl Tryz.underlying39 ty_60 (by exact rfl) hos (fun _ => (by exact rfl)) (by exact rfl) (by first | exact rfl | (show _ = List.toArray [_, _]; first | (dsimp only; done) | exact rfl | (dsimp only; exact rfl))) ((by first | omega | (simp; omega))) ((by first | omega | (simp; omega))) (by omega) ?_
      intro q_v35 v35 w36 hEw36 hov35 hlv35
      have hs_w36 := (hEw36).size
      replace hV := evo_stepo hV hEw36 (fun g hg => .inl (by first | exact (hos.block hg).1 | (have := hos.block hg; omega)))
      replace hI := evo_stepo hI hEw36 (fun g hg => .inl (by first | exact (hos.block hg).1 | (have := hos.block hg; omega)))
      replace hl := hl0 _ hV
      replace hc := hc0.now hV
      replace hbb8 := hbb8.evo hEw36 (by intro hm; have hm2 := Option.mem_toList.1 hm; first | (have := hos.block hm2; omega) | (simp [Value.ownBlock] at hm2; omega))
      replace hAb8 := hAb8.evo hEw36 (by intro hm; have hm2 := Option.mem_toList.1 hm; first | (have := hos.block hm2; omega) | (simp [Value.ownBlock] at hm2; omega))
      replace hb := hb.evo hEw36 (by intro hm; have hm2 := Option.mem_toList.1 hm; first | (have := hos.block hm2; omega) | (simp [Value.ownBlock] at hm2; omega))
      have hos := hov35
      refine r_op rfl rfl rfl (run_fa rfl (by exact rfl) fo_42_0) ?_
      obtain ⟨ao37, cp37, hv37⟩ := hos.shape
      subst hv37
      refine r_store (v := .slice _ _ _) (vs := [_]) (cs' := [_, _, _]) (by exact rfl) (by exact rfl) hbb8 ty_39 (by exact rfl) rfl (by exact rfl) rfl (by exact rfl) ?_
      intro w38 hEw38 hzw38 hb_new
      have hs_w38 := (hEw38).size
      replace hV := evo_step1 hV hEw38 (by first | exact .inl (by omega) | exact .inr (by simp))
      replace hI := evo_step1 hI hEw38 (by first | exact .inl (by omega) | exact .inr (by simp))
      replace hl := hl0 _ hV
      replace hc := hc0.now hV
      replace hb := hb.evo hEw38 (by simp; omega)
      replace hos := hos.evo hEw38 (by intro g hg hm; simp at hm; subst hm; have := hos.block hg; omega)
      replace hbb8 := hb_new
      have hAb8 := hbb8.at
      clear hb_new
      refine r_nil ?_
      refine r_blk ?_
      refine r_region ?_
      refine r_op rfl rfl rfl (run_mv (v := .int _ _) rfl (by exact rfl)) ?_
      refine r_op rfl rfl rfl (run_sub rfl (by exact rfl) (by exact rfl) (by omega) (by omega)) ?_
      refine r_op rfl rfl rfl (run_asg (v := .int _ _) rfl (by exact rfl)) ?_
      refine r_nil ?_
      refine r_again (kk - 1) ?_ ?_ ?_
      ·first | omega | (dsimp only; omega)
      ·refine ⟨_, _, _, (congrArg (Value.int _) (by omega)), hos, hbb8, hbb8.at, hb, hb.at, (mem_snoc hws ⟨stemD_in (by omega), hcn⟩), (by rw [List.length_append, List.length_singleton]; omega), (by first | assumption | omega | (dsimp only; omega) | (simp; done)), hV, hI⟩
      ·repeat (first | (with_reducible exact Agree.merge _ _ _) | (with_reducible exact Agree.refl _ _) | (with_reducible refine Agree.upd ?_ _ _ rfl) | ((with_reducible refine Agree.inner ?_ ?_); (kernel_rfl)))
    ·skip
     refine r_exit rfl ?_
     refine r_seq ?_
     refine r_seq ?_
     refine r_region ?_
     refine r_op rfl rfl rfl (run_mv (v := .pointer _) rfl (by exact rfl)) ?_
     refine r_opcall rfl rfl rfl (run_callf (vs := [.pointer _, .int _ _]) rfl (by exact rfl) Tryz.func41 rfl (by kernel_rfl)) (nx_calls hb hl (by omega) (by omega) (by omega)) ?_
     rintro e w39 ⟨nx39, rfl, hx39, hE39, hn39⟩
     refine ⟨_, rfl, ?_⟩
     have hs_w39 := (hE39).size
     replace hV := evo_step1 hV hE39 (.inr (by simp))
     replace hI := evo_step1 hI hE39 (by first | exact .inl (by omega) | exact .inr (by simp))
     replace hl := hl0 _ hV
     replace hc := hc0.now hV
     replace hos := hos.evo hE39 (by intro g hg hm; simp at hm; subst hm; have := hos.block hg; omega)
     replace hbb8 := hbb8.evo hE39 (by simp; omega)
     replace hAb8 := hAb8.evo hE39 (by simp; omega)
     replace hb := hn39
     clear hn39
     have hAs := hb.at
     refine r_op rfl rfl rfl (run_asg (v := .int _ _) rfl (by exact rfl)) ?_
     refine r_nil ?_
     refine r_block ?_
     obtain ⟨aoW, gW, cpW, hvW, hrW, hgW⟩ := hos.rowOf
     subst hvW
     have hbd_hrW := hrW.bd
     have hI40 : Evo w39 w39 [bs, b8] := Evo.refl _ _
     have hrW0 := fun w9 (h9 : Evo w39 w9 [bs, b8]) => row_keep hrW h9 (fun hne hm => by have h2 := (hgW hne).2; simp at hm; omega)
     refine r_loop (α := Nat) [12, 59, 60, 61, 62, 63, 64, 65, 66, 67, 68, 69] (fun kq g w => ∃ vq : Value, ∃ qs : List Str, ∃ N4 : Nat, g 12 = .int .i64 (kq : Nat) ∧ OwnE w w39.heap.size 9 vq qs ∧ Blk w b8 42 [.slice aoW ws.length cpW, vq, .slice none 0 0] ∧ At w b8 0 [.slice aoW ws.length cpW, vq, .slice none 0 0] ∧ Blk w bs T [.slice ao l.length cap, .int .i64 (N4 : Nat)] ∧ At w bs 0 [.slice ao l.length cap, .int .i64 (N4 : Nat)] ∧ (∀ s ∈ qs, MadePh s) ∧ (qs.length + kq = nx39.toNat ∧ N2 + 1 ≤ N4 ∧ N4 + 4 * kq ≤ N2 + 1 + 4 * nx39.toNat) ∧ w39.heap.size ≤ w.heap.size ∧ Evo w0 w [bs] ∧ Evo w3 w [bs] ∧ Evo w39 w [bs, b8]) (fun kq => kq) nx39.toNat ?_ ?_
     ·refine ⟨_, [], _, (congrArg (Value.int _) (by omega)), (OwnE.nil _ _ _), hbb8, hbb8.at, hb, hb.at, (fun y hy => absurd hy List.not_mem_nil), (by first | (simp; done) | (simp; omega)), (by first | assumption | omega | (dsimp only; omega) | (simp; done)), hV, hI, hI40⟩
     ·rintro kq g w42 ⟨vq, qs, N4, hj43, hos, hbb8, hAb8, hb, hAs, hqs, hqsk, hzl41, hV, hI, hI40⟩
      have hs_w42hV := hV.size
      have hs_w42hI := hI.size
      have hs_w42hI40 := hI40.size
      have hlt44 := hbb8.lt
      have hlt45 := hb.lt
      replace hl := hl0 _ hV
      replace hc := hc0.now hV
      replace hrW := hrW0 _ hI40
      refine r_know (i := 12) (v := .int .i64 (kq : Nat)) (by exact hj43) ?_
      refine r_seq ?_
      refine r_seq ?_
      refine r_region ?_
      refine r_op rfl rfl rfl (run_mv (v := .int _ _) rfl (by exact rfl)) ?_
      refine r_op rfl rfl rfl (run_gtr rfl (by exact rfl) (by exact rfl)) ?_
      refine r_nil ?_
      refine r_cond (by exact rfl) (fun hc46 => ?_) (fun hc46 => ?_)
      ·skip
       refine r_skip ?_
       refine r_seq ?_
       refine r_block ?_
       have hos_own := fun {g : Nat} (hg : vq.ownBlock = some g) => hos.block (g := g) hg
       have hbb8_q := hbb8
       have hAb8_q := hAb8
       have hb_q := hb
       have hAs_q := hAs
       have hV_q := hV
       have hI_q := hI
       have hI40_q := hI40
       refine h_region ([bs] ++ vq.ownBlock.toList) (by kernel_rfl) ?_
       intro w47 hE48 hCq16
       have hs_w47 := (hE48).size
       replace hV := evo_step0 hV hE48
       replace hI := evo_step0 hI hE48
       replace hI40 := evo_step0 hI40 hE48
       replace hl := hl0 _ hV
       replace hc := hc0.now hV
       replace hrW := hrW0 _ hI40
       replace hos := hos.evo0 hE48
       replace hbb8 := hbb8.evo0 hE48
       replace hAb8 := hAb8.evo0 hE48
       replace hb := hb.evo0 hE48
       replace hAs := hAs.evo0 hE48
       refine h_take (i := 0) (by exact rfl) rfl rfl rfl (by kernel_rfl) (fun w' hC => run_fa rfl (by exact rfl) fo_42_1) hCq16 ?_
       refine h_take (i := 1) (by exact rfl) rfl rfl rfl (by kernel_rfl) (fun w' hC => run_ld1 rfl ag_40 (by exact rfl) ((hAb8_q.evo hC (fun hm => by rcases List.mem_append.1 hm with h7 | h7; (simp at h7; omega); (have h8 := hos_own (Option.mem_toList.1 h7); omega))).cell 1 (by exact rfl))) hCq16 ?_
       refine h_take (i := 2) (by exact rfl) rfl rfl rfl (by kernel_rfl) (fun w' hC => run_mv (v := .pointer _) rfl (by exact rfl)) hCq16 ?_
       refine h_one (i := 3) (by kernel_rfl) ?_
       refine h_do (by exact rfl) ?_
       refine r_opcall rfl rfl rfl (run_callf (vs := [.pointer _]) rfl (by exact rfl) Tryz.func20 rfl (by kernel_rfl)) (phrase_make hb (fun w9 h9 => hl0 _ (Evo.trans hV h9 (fun x hx _ => hx))) (by omega)) ?_
       rintro e w49 ⟨sp49, Np49, rfl, hmp49, hNp49, hE49, hn49⟩
       refine ⟨_, rfl, ?_⟩
       have hs_w49 := (hE49).size
       replace hV := evo_step1 hV hE49 (.inr (by simp))
       replace hI := evo_step1 hI hE49 (by first | exact .inl (by omega) | exact .inr (by simp))
       replace hI40 := evo_step1 hI40 hE49 (by first | exact .inl (by omega) | exact .inr (by simp))
       replace hCq16 := evo_step1 hCq16 hE49 (by first | exact .inl (by omega) | exact .inr (by simp))
       replace hl := hl0 _ hV
       replace hc := hc0.now hV
       replace hrW := hrW0 _ hI40
       replace hos := hos.evo hE49 (by intro g hg hm; simp at hm; subst hm; have := hos.block hg; omega)
       replace hbb8 := hbb8.evo hE49 (by simp; omega)
       replace hAb8 := hAb8.evo hE49 (by simp; omega)
       replace hb := hn49
       clear hn49
       have hAs := hb.at
       refine h_next hCq16 ?_
       refine h_one (i := 4) (by kernel_rfl) ?_
       refine h_do (by exact rfl) ?_
       refine r_bslice (pv := [(0, S _)]) (zs := [_]) (cs := [_]) Tryz.underlying40 ty_9 (by exact rfl) rfl (by exact rfl) rfl (by exact rfl) ?_
       intro b50 w51 heb50 hEw51 hbb50 hzb50
       have hs_w51 := (hEw51).size
       replace hV := evo_step0 hV hEw51
       replace hI := evo_step0 hI hEw51
       replace hI40 := evo_step0 hI40 hEw51
       replace hCq16 := evo_step0 hCq16 hEw51
       replace hl := hl0 _ hV
       replace hc := hc0.now hV
       replace hrW := hrW0 _ hI40
       replace hos := hos.evo0 hEw51
       replace hbb8 := hbb8.evo0 hEw51
       replace hAb8 := hAb8.evo0 hEw51
       replace hb := hb.evo0 hEw51
       have hAb50 := hbb50.at
       have hrb50 := rowLit (α := Str) [_] hbb50 (by show [_] = [_]; first | (dsimp only; done) | exact rfl | (dsimp only; exact rfl)) rfl
       refine h_next hCq16 ?_
       refine h_one (i := 5) (by kernel_rfl) ?_
       refine h_do (by exact rfl) ?_
       refine r_appendE rfl Tryz.underlying40 ty_9 (by exact rfl) hos (by exact rfl) (by exact rfl) hrb50 rfl (by simp; omega) (by simp; omega) (by omega) ?_
       intro v52 w53 hEw53 hov52 hlv52
       have hs_w53 := (hEw53).size
       replace hV := evo_stepo hV hEw53 (fun g hg => .inl (by first | exact (hos.block hg).1 | (have := hos.block hg; omega)))
       replace hI := evo_stepo hI hEw53 (fun g hg => .inl (by first | exact (hos.block hg).1 | (have := hos.block hg; omega)))
       replace hI40 := evo_stepo hI40 hEw53 (fun g hg => .inl (by first | exact (hos.block hg).1 | (have := hos.block hg; omega)))
       replace hl := hl0 _ hV
       replace hc := hc0.now hV
       replace hrW := hrW0 _ hI40
       replace hbb8 := hbb8.evo hEw53 (by intro hm; have hm2 := Option.mem_toList.1 hm; first | (have := hos.block hm2; omega) | (simp [Value.ownBlock] at hm2; omega))
       replace hAb8 := hAb8.evo hEw53 (by intro hm; have hm2 := Option.mem_toList.1 hm; first | (have := hos.block hm2; omega) | (simp [Value.ownBlock] at hm2; omega))
       replace hb := hb.evo hEw53 (by intro hm; have hm2 := Option.mem_toList.1 hm; first | (have := hos.block hm2; omega) | (simp [Value.ownBlock] at hm2; omega))
       have hos := hov52
       refine h_last (by kernel_rfl) ?_
       refine h_one (i := 6) (by kernel_rfl) ?_
       refine h_do (by exact rfl) ?_
       refine r_op rfl rfl rfl (run_fa rfl (by exact rfl) fo_42_1) ?_
       refine h_last (by kernel_rfl) ?_
       refine h_one (i := 7) (by kernel_rfl) ?_
       refine h_do (by exact rfl) ?_
       obtain ⟨ao54, cp54, hv54⟩ := hos.shape
       subst hv54
       refine r_store (v := .slice _ _ _) (vs := [_]) (cs' := [_, _, _]) (by exact rfl) (by exact rfl) hbb8 ty_40 (by exact rfl) rfl (by exact rfl) rfl (by exact rfl) ?_
       intro w55 hEw55 hzw55 hb_new
       have hs_w55 := (hEw55).size
       replace hV := evo_step1 hV hEw55 (by first | exact .inl (by omega) | exact .inr (by simp))
       replace hI := evo_step1 hI hEw55 (by first | exact .inl (by omega) | exact .inr (by simp))
       replace hI40 := evo_step1 hI40 hEw55 (by first | exact .inl (by omega) | exact .inr (by simp))
       replace hl := hl0 _ hV
       replace hc := hc0.now hV
       replace hrW := hrW0 _ hI40
       replace hb := hb.evo hEw55 (by simp; omega)
       replace hos := hos.evo hEw55 (by intro g hg hm; simp at hm; subst hm; have := hos.block hg; omega)
       replace hbb8 := hb_new
       have hAb8 := hbb8.at
       clear hb_new
       refine h_last (by kernel_rfl) ?_
       refine h_done (by kernel_rfl) ?_
       refine r_blk ?_
       refine r_region ?_
       refine r_op rfl rfl rfl (run_mv (v := .int _ _) rfl (by exact rfl)) ?_
       refine r_op rfl rfl rfl (run_sub rfl (by exact rfl) (by exact rfl) (by omega) (by omega)) ?_
       refine r_op rfl rfl rfl (run_asg (v := .int _ _) rfl (by exact rfl)) ?_
       refine r_nil ?_
       refine r_again (kq - 1) ?_ ?_ ?_
       ·first | omega | (dsimp only; omega)
       ·refine ⟨_, _, _, (congrArg (Value.int _) (by omega)), hos, hbb8, hbb8.at, hb, hb.at, (mem_snoc hqs hmp49), (by rw [List.length_append, List.length_singleton]; omega), (by first | assumption | omega | (dsimp only; omega) | (simp; done)), hV, hI, hI40⟩
       ·repeat (first | (with_reducible exact Agree.merge _ _ _) | (with_reducible exact Agree.refl _ _) | (with_reducible refine Agree.upd ?_ _ _ rfl) | ((with_reducible refine Agree.inner ?_ ?_); (kernel_rfl)))
      ·skip
       refine r_exit rfl ?_
       refine r_seq ?_
       refine r_seq ?_
       refine r_region ?_
       refine r_op rfl rfl rfl (run_mv (v := .pointer _) rfl (by exact rfl)) ?_
       refine r_opcall rfl rfl rfl (run_callf (vs := [.pointer _, .int _ _]) rfl (by exact rfl) Tryz.func41 rfl (by kernel_rfl)) (nx_calls hb hl (by omega) (by omega) (by omega)) ?_
       rintro e w56 ⟨nx56, rfl, hx56, hE56, hn56⟩
       refine ⟨_, rfl, ?_⟩
       have hs_w56 := (hE56).size
       replace hV := evo_step1 hV hE56 (.inr (by simp))
       replace hI := evo_step1 hI hE56 (by first | exact .inl (by omega) | exact .inr (by simp))
       replace hI40 := evo_step1 hI40 hE56 (by first | exact .inl (by omega) | exact .inr (by simp))
       replace hl := hl0 _ hV
       replace hc := hc0.now hV
       replace hrW := hrW0 _ hI40
       replace hos := hos.evo hE56 (by intro g hg hm; simp at hm; subst hm; have := hos.block hg; omega)
       replace hbb8 := hbb8.evo hE56 (by simp; omega)
       replace hAb8 := hAb8.evo hE56 (by simp; omega)
       replace hb := hn56
       clear hn56
       have hAs := hb.at
       refine r_op rfl rfl rfl (run_asg (v := .int _ _) rfl (by exact rfl)) ?_
       refine r_nil ?_
       refine r_block ?_
       obtain ⟨aoQ, gQ, cpQ, hvQ, hrQ, hgQ⟩ := hos.rowOf
       subst hvQ
       have hbd_hrQ := hrQ.bd
       have hI57 : Evo w56 w56 [bs, b8] := Evo.refl _ _
       have hrQ0 := fun w9 (h9 : Evo w56 w9 [bs, b8]) => row_keep hrQ h9 (fun hne hm => by have h2 := (hgQ hne).2; simp at hm; omega)
       refine r_loop (α := Nat) [13, 72, 73, 74, 75, 76, 77, 78, 79, 80, 81, 82] (fun kq g w => ∃ vq : Value, ∃ fs : List Str, ∃ N5 : Nat, g 13 = .int .i64 (kq : Nat) ∧ OwnE w w56.heap.size 9 vq fs ∧ Blk w b8 42 [.slice aoW ws.length cpW, .slice aoQ qs.length cpQ, vq] ∧ At w b8 0 [.slice aoW ws.length cpW, .slice aoQ qs.length cpQ, vq] ∧ Blk w bs T [.slice ao l.length cap, .int .i64 (N5 : Nat)] ∧ At w bs 0 [.slice ao l.length cap, .int .i64 (N5 : Nat)] ∧ (∀ s ∈ fs, MadePh s) ∧ (fs.length + kq = nx56.toNat ∧ N4 + 1 ≤ N5 ∧ N5 + 4 * kq ≤ N4 + 1 + 4 * nx56.toNat) ∧ w56.heap.size ≤ w.heap.size ∧ Evo w0 w [bs] ∧ Evo w3 w [bs] ∧ Evo w39 w [bs, b8] ∧ Evo w56 w [bs, b8]) (fun kq => kq) nx56.toNat ?_ ?_
       ·refine ⟨_, [], _, (congrArg (Value.int _) (by omega)), (OwnE.nil _ _ _), hbb8, hbb8.at, hb, hb.at, (fun y hy => absurd hy List.not_mem_nil), (by first | (simp; done) | (simp; omega)), (by first | assumption | omega | (dsimp only; omega) | (simp; done)), hV, hI, hI40, hI57⟩
       ·rintro kq g w59 ⟨vq, fs, N5, hj60, hos, hbb8, hAb8, hb, hAs, hfs, hfsk, hzl58, hV, hI, hI40, hI57⟩
        have hs_w59hV := hV.size
        have hs_w59hI := hI.size
        have hs_w59hI40 := hI40.size
        have hs_w59hI57 := hI57.size
        have hlt61 := hbb8.lt
        have hlt62 := hb.lt
        replace hl := hl0 _ hV
        replace hc := hc0.now hV
        replace hrW := hrW0 _ hI40
        replace hrQ := hrQ0 _ hI57
        refine r_know (i := 13) (v := .int .i64 (kq : Nat)) (by exact hj60) ?_
        refine r_seq ?_
        refine r_seq ?_
        refine r_region ?_
        refine r_op rfl rfl rfl (run_mv (v := .int _ _) rfl (by exact rfl)) ?_
        refine r_op rfl rfl rfl (run_gtr rfl (by exact rfl) (by exact rfl)) ?_
        refine r_nil ?_
        refine r_cond (by exact rfl) (fun hc63 => ?_) (fun hc63 => ?_)
        ·skip
         refine r_skip ?_
         refine r_seq ?_
         refine r_block ?_
         have hos_own := fun {g : Nat} (hg : vq.ownBlock = some g) => hos.block (g := g) hg
         have hbb8_q := hbb8
         have hAb8_q := hAb8
         have hb_q := hb
         have hAs_q := hAs
         have hV_q := hV
         have hI_q := hI
         have hI40_q := hI40
         have hI57_q := hI57
         refine h_region ([bs] ++ vq.ownBlock.toList) (by kernel_rfl) ?_
         intro w64 hE65 hCq20
         have hs_w64 := (hE65).size
         replace hV := evo_step0 hV hE65
         replace hI := evo_step0 hI hE65
         replace hI40 := evo_step0 hI40 hE65
         replace hI57 := evo_step0 hI57 hE65
         replace hl := hl0 _ hV
         replace hc := hc0.now hV
         replace hrW := hrW0 _ hI40
         replace hrQ := hrQ0 _ hI57
         replace hos := hos.evo0 hE65
         replace hbb8 := hbb8.evo0 hE65
         replace hAb8 := hAb8.evo0 hE65
         replace hb := hb.evo0 hE65
         replace hAs := hAs.evo0 hE65
         refine h_take (i := 0) (by exact rfl) rfl rfl rfl (by kernel_rfl) (fun w' hC => run_fa rfl (by exact rfl) fo_42_2) hCq20 ?_
         refine h_take (i := 1) (by exact rfl) rfl rfl rfl (by kernel_rfl) (fun w' hC => run_ld1 rfl ag_40 (by exact rfl) ((hAb8_q.evo hC (fun hm => by rcases List.mem_append.1 hm with h7 | h7; (simp at h7; omega); (have h8 := hos_own (Option.mem_toList.1 h7); omega))).cell 2 (by exact rfl))) hCq20 ?_
         refine h_take (i := 2) (by exact rfl) rfl rfl rfl (by kernel_rfl) (fun w' hC => run_mv (v := .pointer _) rfl (by exact rfl)) hCq20 ?_
         refine h_one (i := 3) (by kernel_rfl) ?_
         refine h_do (by exact rfl) ?_
         refine r_opcall rfl rfl rfl (run_callf (vs := [.pointer _]) rfl (by exact rfl) Tryz.func20 rfl (by kernel_rfl)) (phrase_make hb (fun w9 h9 => hl0 _ (Evo.trans hV h9 (fun x hx _ => hx))) (by omega)) ?_
         rintro e w66 ⟨sp66, Np66, rfl, hmp66, hNp66, hE66, hn66⟩
         refine ⟨_, rfl, ?_⟩
         have hs_w66 := (hE66).size
         replace hV := evo_step1 hV hE66 (.inr (by simp))
         replace hI := evo_step1 hI hE66 (by first | exact .inl (by omega) | exact .inr (by simp))
         replace hI40 := evo_step1 hI40 hE66 (by first | exact .inl (by omega) | exact .inr (by simp))
         replace hI57 := evo_step1 hI57 hE66 (by first | exact .inl (by omega) | exact .inr (by simp))
         replace hCq20 := evo_step1 hCq20 hE66 (by first | exact .inl (by omega) | exact .inr (by simp))
         replace hl := hl0 _ hV
         replace hc := hc0.now hV
         replace hrW := hrW0 _ hI40
         replace hrQ := hrQ0 _ hI57
         replace hos := hos.evo hE66 (by intro g hg hm; simp at hm; subst hm; have := hos.block hg; omega)
         replace hbb8 := hbb8.evo hE66 (by simp; omega)
         replace hAb8 := hAb8.evo hE66 (by simp; omega)
         replace hb := hn66
         clear hn66
         have hAs := hb.at
         refine h_next hCq20 ?_
         refine h_one (i := 4) (by kernel_rfl) ?_
         refine h_do (by exact rfl) ?_
         refine r_bslice (pv := [(0, S _)]) (zs := [_]) (cs := [_]) Tryz.underlying40 ty_9 (by exact rfl) rfl (by exact rfl) rfl (by exact rfl) ?_
         intro b67 w68 heb67 hEw68 hbb67 hzb67
         have hs_w68 := (hEw68).size
         replace hV := evo_step0 hV hEw68
         replace hI := evo_step0 hI hEw68
         replace hI40 := evo_step0 hI40 hEw68
         replace hI57 := evo_step0 hI57 hEw68
         replace hCq20 := evo_step0 hCq20 hEw68
         replace hl := hl0 _ hV
         replace hc := hc0.now hV
         replace hrW := hrW0 _ hI40
         replace hrQ := hrQ0 _ hI57
         replace hos := hos.evo0 hEw68
         replace hbb8 := hbb8.evo0 hEw68
         replace hAb8 := hAb8.evo0 hEw68
         replace hb := hb.evo0 hEw68
         have hAb67 := hbb67.at
         have hrb67 := rowLit (α := Str) [_] hbb67 (by show [_] = [_]; first | (dsimp only; done) | exact rfl | (dsimp only; exact rfl)) rfl
         refine h_next hCq20 ?_
         refine h_one (i := 5) (by kernel_rfl) ?_
         refine h_do (by exact rfl) ?_
         refine r_appendE rfl Tryz.underlying40 ty_9 (by exact rfl) hos (by exact rfl) (by exact rfl) hrb67 rfl (by simp; omega) (by simp; omega) (by omega) ?_
         intro v69 w70 hEw70 hov69 hlv69
         have hs_w70 := (hEw70).size
         replace hV := evo_stepo hV hEw70 (fun g hg => .inl (by first | exact (hos.block hg).1 | (have := hos.block hg; omega)))
         replace hI := evo_stepo hI hEw70 (fun g hg => .inl (by first | exact (hos.block hg).1 | (have := hos.block hg; omega)))
         replace hI40 := evo_stepo hI40 hEw70 (fun g hg => .inl (by first | exact (hos.block hg).1 | (have := hos.block hg; omega)))
         replace hI57 := evo_stepo hI57 hEw70 (fun g hg => .inl (by first | exact (hos.block hg).1 | (have := hos.block hg; omega)))
         replace hl := hl0 _ hV
         replace hc := hc0.now hV
         replace hrW := hrW0 _ hI40
         replace hrQ := hrQ0 _ hI57
         replace hbb8 := hbb8.evo hEw70 (by intro hm; have hm2 := Option.mem_toList.1 hm; first | (have := hos.block hm2; omega) | (simp [Value.ownBlock] at hm2; omega))
         replace hAb8 := hAb8.evo hEw70 (by intro hm; have hm2 := Option.mem_toList.1 hm; first | (have := hos.block hm2; omega) | (simp [Value.ownBlock] at hm2; omega))
         replace hb := hb.evo hEw70 (by intro hm; have hm2 := Option.mem_toList.1 hm; first | (have := hos.block hm2; omega) | (simp [Value.ownBlock] at hm2; omega))
         have hos := hov69
         refine h_last (by kernel_rfl) ?_
         refine h_one (i := 6) (by kernel_rfl) ?_
         refine h_do (by exact rfl) ?_
         refine r_op rfl rfl rfl (run_fa rfl (by exact rfl) fo_42_2) ?_
         refine h_last (by kernel_rfl) ?_
         refine h_one (i := 7) (by kernel_rfl) ?_
         refine h_do (by exact rfl) ?_
         obtain ⟨ao71, cp71, hv71⟩ := hos.shape
         subst hv71
         refine r_store (v := .slice _ _ _) (vs := [_]) (cs' := [_, _, _]) (by exact rfl) (by exact rfl) hbb8 ty_40 (by exact rfl) rfl (by exact rfl) rfl (by exact rfl) ?_
         intro w72 hEw72 hzw72 hb_new
         have hs_w72 := (hEw72).size
         replace hV := evo_step1 hV hEw72 (by first | exact .inl (by omega) | exact .inr (by simp))
         replace hI := evo_step1 hI hEw72 (by first | exact .inl (by omega) | exact .inr (by simp))
         replace hI40 := evo_step1 hI40 hEw72 (by first | exact .inl (by omega) | exact .inr (by simp))
         replace hI57 := evo_step1 hI57 hEw72 (by first | exact .inl (by omega) | exact .inr (by simp))
         replace hl := hl0 _ hV
         replace hc := hc0.now hV
         replace hrW := hrW0 _ hI40
         replace hrQ := hrQ0 _ hI57
         replace hb := hb.evo hEw72 (by simp; omega)
         replace hos := hos.evo hEw72 (by intro g hg hm; simp at hm; subst hm; have := hos.block hg; omega)
         replace hbb8 := hb_new
         have hAb8 := hbb8.at
         clear hb_new
         refine h_last (by kernel_rfl) ?_
         refine h_done (by kernel_rfl) ?_
         refine r_blk ?_
         refine r_region ?_
         refine r_op rfl rfl rfl (run_mv (v := .int _ _) rfl (by exact rfl)) ?_
         refine r_op rfl rfl rfl (run_sub rfl (by exact rfl) (by exact rfl) (by omega) (by omega)) ?_
         refine r_op rfl rfl rfl (run_asg (v := .int _ _) rfl (by exact rfl)) ?_
         refine r_nil ?_
         refine r_again (kq - 1) ?_ ?_ ?_
         ·first | omega | (dsimp only; omega)
         ·refine ⟨_, _, _, (congrArg (Value.int _) (by omega)), hos, hbb8, hbb8.at, hb, hb.at, (mem_snoc hfs hmp66), (by rw [List.length_append, List.length_singleton]; omega), (by first | assumption | omega | (dsimp only; omega) | (simp; done)), hV, hI, hI40, hI57⟩
         ·repeat (first | (with_reducible exact Agree.merge _ _ _) | (with_reducible exact Agree.refl _ _) | (with_reducible refine Agree.upd ?_ _ _ rfl) | ((with_reducible refine Agree.inner ?_ ?_); (kernel_rfl)))
        ·skip
         refine r_exit rfl ?_
         obtain ⟨aoF, gF, cpF, hvF, hrF, hgF⟩ := hos.rowOf
         subst hvF
         have hoR := hoR0.evoY hI (by simp; omega)
         clear hoR0
         have hMX : MadeTm ⟨ws, qs, fs⟩ := ⟨⟨(show 1 ≤ ws.length by omega), (show ws.length ≤ 3 by omega), hws⟩, ⟨(show qs.length ≤ 2 by omega), hqs⟩, ⟨(show fs.length ≤ 2 by omega), hfs⟩⟩
         refine r_region ?_
         refine r_op rfl rfl rfl (run_mv (v := vo) rfl (by exact rfl)) ?_
         refine r_op rfl rfl rfl (run_ldN rfl ag_42 ty_42 (by exact rfl) rfl hAb8) ?_
         refine r_append1R (u := .agg _) (us := [_, _, _]) rfl rfl Tryz.underlying22 ty_42 (by exact rfl) rfl rfl hoR (fun _ => (by exact rfl)) (by exact rfl) (by exact rfl) rfl (by exact rfl) (term_rep ⟨ws, qs, fs⟩ hrW (fun hne hm => by rcases List.mem_append.1 hm with h7 | h7; (simp at h7; have h8 := hgW hne; omega); (have h8 := hobR _ (Option.mem_toList.1 h7); have h9 := hgW hne; omega)) hrQ (fun hne hm => by rcases List.mem_append.1 hm with h7 | h7; (simp at h7; have h8 := hgQ hne; omega); (have h8 := hobR _ (Option.mem_toList.1 h7); have h9 := hgQ hne; omega)) hrF (fun hne hm => by rcases List.mem_append.1 hm with h7 | h7; (simp at h7; have h8 := hgF hne; omega); (have h8 := hobR _ (Option.mem_toList.1 h7); have h9 := hgF hne; omega)) hMX.bd) ((by first | omega | (simp; omega))) ((by first | omega | (simp; omega))) (by omega) ?_
         intro q_v73 v73 w74 hEw74 hov73 hlv73
         have hs_w74 := (hEw74).size
         replace hV := evo_stepo hV hEw74 (fun g hg => .inl (by first | exact (hoR.block hg).1 | (have := hoR.block hg; omega)))
         replace hl := hl0 _ hV
         replace hc := hc0.now hV
         replace hb := hb.evo hEw74 (by intro hm; have hm2 := Option.mem_toList.1 hm; first | (have := hoR.block hm2; omega) | (simp [Value.ownBlock] at hm2; omega))
         refine r_op rfl rfl rfl (run_asg (v := v73) rfl (by exact rfl)) ?_
         refine r_nil ?_
         refine r_blk ?_
         refine r_region ?_
         refine r_op rfl rfl rfl (run_mv (v := .int _ _) rfl (by exact rfl)) ?_
         refine r_op rfl rfl rfl (run_sub rfl (by exact rfl) (by exact rfl) (by omega) (by omega)) ?_
         refine r_op rfl rfl rfl (run_asg (v := .int _ _) rfl (by exact rfl)) ?_
         refine r_nil ?_
         refine r_again (i - 1) ?_ ?_ ?_
         ·first | omega | (dsimp only; omega)
         ·refine ⟨_, _, _, (congrArg (Value.int _) (by omega)), rfl, hov73, hb, hb.at, (mem_snoc hMT hMX), (by rw [List.length_append, List.length_singleton]; omega), (by first | assumption | omega | (dsimp only; omega) | (simp; done)), hV⟩
         ·repeat (first | (with_reducible exact Agree.merge _ _ _) | (with_reducible exact Agree.refl _ _) | (with_reducible refine Agree.upd ?_ _ _ rfl) | ((with_reducible refine Agree.inner ?_ ?_); (kernel_rfl)))
  ·skip
   refine r_exit rfl ?_
   refine r_seq ?_
   refine r_region ?_
   refine r_op rfl rfl rfl (run_mv (v := vo) rfl (by exact rfl)) ?_
   refine r_op rfl rfl rfl (run_asg (v := vo) rfl (by exact rfl)) ?_
   refine r_nil ?_
   refine r_ret (res1 (v := vo) rfl (by exact rfl)) ?_
   exact ⟨_, ts, N1, rfl, ⟨hMT, by omega⟩, by omega, hV, hb, hoR⟩
end Go.Proofs.YtkklomiipkipnaaGreatDoor
namespace Go.Proofs.YtkklomiipkipnaaGreatDoor
open Go.RowKit Go.Vc
set_option maxHeartbeats 4000000 in
theorem classesY_calls {T bs : Nat} {ao : Option Addr} {b off cap : Nat} {l : List Int} {N : Nat} {n : Int} {w0 : World} (hb : Blk w0 bs T [.slice ao l.length cap, .int .i64 (N : Nat)]) (hl : ∀ w', Evo w0 w' [bs] → RowE w' ao b off cap l) (hN : N ≤ 800000) (hn0 : 0 ≤ n) (hn9 : n ≤ 8) :
    Calls Tryz.prog 32 #[.pointer (some ⟨bs, 0, none⟩), .int .i64 n] w0 fun e w' => ∃ v, ∃ cl : List Clas, ∃ m N' : Nat, e = .returned v ∧ (MadeP cl m 0 ∧ (m : Int) ≤ n) ∧ (N ≤ N' ∧ N' ≤ N + 100) ∧ Evo w0 w' [bs] ∧ Blk w' bs T [.slice ao l.length cap, .int .i64 (N' : Nat)] ∧ OwnR w' w0.heap.size 70 [bs] v cl := by
 have hAs := hb.at; have hbslt := hb.lt
 refine calls_enter (n := 69) (args := [.pointer (some ⟨bs, 0, none⟩), .int .i64 n]) Tryz.func32 rfl Tryz.ntmps32 rfl ?_
 have hV : Evo w0 w0 [bs] := Evo.refl _ _
 have hl0 := hl
 replace hl := hl0 _ hV
 have hbd_hl := hl.bd
 refine r_seq ?_
 refine r_region ?_
 refine r_op rfl rfl rfl (run_asg (v := .slice _ _ _) rfl (by exact rfl)) ?_
 refine r_nil ?_
 refine r_seq ?_
 refine r_region ?_
 refine r_op rfl rfl rfl (run_asg (v := .slice _ _ _) rfl (by exact rfl)) ?_
 refine r_nil ?_
 refine r_seq ?_
 refine r_seq ?_
 refine r_region ?_
 refine r_op rfl rfl rfl (run_mv (v := .pointer _) rfl (by exact rfl)) ?_
 refine r_op rfl rfl rfl (run_mv (v := .int _ _) rfl (by exact rfl)) ?_
 refine r_op rfl rfl rfl (run_add rfl (by exact rfl) (by exact rfl) (by omega) (by omega)) ?_
 refine r_opcall rfl rfl rfl (run_callf (vs := [.pointer _, .int _ _]) rfl (by exact rfl) Tryz.func41 rfl (by kernel_rfl)) (nx_calls hb hl (by omega) (by omega) (by omega)) ?_
 rintro e w1 ⟨nx1, rfl, hx1, hE1, hn1⟩
 refine ⟨_, rfl, ?_⟩
 have hs_w1 := (hE1).size
 replace hV := evo_step1 hV hE1 (.inr (by simp))
 replace hl := hl0 _ hV
 replace hb := hn1
 clear hn1
 have hAs := hb.at
 refine r_op rfl rfl rfl (run_asg (v := .int _ _) rfl (by exact rfl)) ?_
 refine r_nil ?_
 refine r_block ?_
 refine r_loop (α := Nat) [5, 6, 7, 8, 9, 10, 12, 17, 18, 19, 20, 21, 22, 23, 24, 25, 26, 27, 28, 29, 30, 31, 32, 33, 34, 35, 36, 37, 38, 39, 40, 41, 42, 43, 44, 45, 46, 47, 48, 49, 50, 51, 52, 53, 54, 55, 56, 57, 58, 59, 60, 61, 62, 63, 64, 65, 66, 67] (fun i g w => ∃ vo : Value, ∃ cl : List Clas, ∃ N1 : Nat, g 6 = .int .i64 (i : Nat) ∧ g 5 = vo ∧ OwnR w w0.heap.size 70 [bs] vo cl ∧ Blk w bs T [.slice ao l.length cap, .int .i64 (N1 : Nat)] ∧ At w bs 0 [.slice ao l.length cap, .int .i64 (N1 : Nat)] ∧ MadeP cl nx1.toNat i ∧ (N + 1 ≤ N1 ∧ N1 + 7 * i ≤ N + 1 + 7 * nx1.toNat) ∧ w1.heap.size ≤ w.heap.size ∧ Evo w0 w [bs]) (fun i => i) nx1.toNat ?_ ?_
 ·refine ⟨_, [], _, (congrArg (Value.int _) (by omega)), rfl, (OwnR.nil _ _ _ _), hb, hb.at, (MadeP.nil _), (by first | assumption | omega | (dsimp only; omega) | (simp; done)), (by first | assumption | omega | (dsimp only; omega) | (simp; done)), hV⟩
 ·rintro i g w3 ⟨vo, cl, N1, hj4, hj5, hoR, hb, hAs, hMP, hN1, hzl2, hV⟩
  have hs_w3hV := hV.size
  have hlt6 := hb.lt
  replace hl := hl0 _ hV
  refine r_know (i := 6) (v := .int .i64 (i : Nat)) (by exact hj4) ?_
  refine r_know (i := 5) (v := vo) (by exact hj5) ?_
  refine r_seq ?_
  refine r_seq ?_
  refine r_region ?_
  refine r_op rfl rfl rfl (run_mv (v := .int _ _) rfl (by exact rfl)) ?_
  refine r_op rfl rfl rfl (run_gtr rfl (by exact rfl) (by exact rfl)) ?_
  refine r_nil ?_
  refine r_cond (by exact rfl) (fun hc7 => ?_) (fun hc7 => ?_)
  ·skip
   refine r_skip ?_
   refine r_seq ?_
   refine r_block ?_
   refine r_seq ?_
   have hdl9 := decW_len 0 i [] (by omega); simp only [List.length_nil] at hdl9; have hcl9 := hMP.1
   have hI : Evo w3 w3 [bs] := Evo.refl _ _
   have hoR0 := hoR
   have hobR := fun g hg => (hoR.block (g := g) hg).2
   refine r_region ?_
   refine r_op rfl rfl rfl (run_mv (v := .int _ _) rfl (by exact rfl)) ?_
   refine r_opcall rfl rfl rfl (run_callf (vs := [.int _ _]) rfl (by exact rfl) Tryz.func59 rfl (by kernel_rfl)) (Decimal_calls (by omega)) ?_
   rintro e w8 ⟨rfl, hE8⟩
   refine ⟨_, rfl, ?_⟩
   have hs_w8 := (hE8).size
   replace hV := evo_step0 hV hE8
   replace hI := evo_step0 hI hE8
   replace hl := hl0 _ hV
   replace hb := hb.evo0 hE8
   replace hAs := hAs.evo0 hE8
   refine r_op rfl rfl rfl (run_sadd rfl (by exact rfl) (by exact rfl) (by first | omega | (simp; done) | (simp; omega))) ?_
   refine r_op rfl rfl rfl (run_bld (pv := [(0, S _)]) (zs := [_, _]) (cells := [_, _]) rfl ty_70 (by exact rfl) pl_70 (by exact rfl) (by exact rfl)) ?_
   refine r_var (zs := [_, _]) (vs := [_, _]) ty_70 (by exact rfl) rfl (by exact rfl) (fun _ => rfl) (by exact rfl) rfl rfl (by exact rfl) ?_
   intro b9 w10 heb9 hEw10 hbb9 hzb9
   have hs_w10 := (hEw10).size
   replace hV := evo_step0 hV hEw10
   replace hI := evo_step0 hI hEw10
   replace hl := hl0 _ hV
   replace hb := hb.evo0 hEw10
   replace hAs := hAs.evo0 hEw10
   have hAb9 := hbb9.at
   refine r_nil ?_
   refine r_seq ?_
   refine r_seq ?_
   refine r_region ?_
   refine r_op rfl rfl rfl (run_mv (v := .pointer _) rfl (by exact rfl)) ?_
   refine r_opcall rfl rfl rfl (run_callf (vs := [.pointer _, .int _ _]) rfl (by exact rfl) Tryz.func41 rfl (by kernel_rfl)) (nx_calls hb hl (by omega) (by omega) (by omega)) ?_
   rintro e w11 ⟨nx11, rfl, hx11, hE11, hn11⟩
   refine ⟨_, rfl, ?_⟩
   have hs_w11 := (hE11).size
   replace hV := evo_step1 hV hE11 (.inr (by simp))
   replace hI := evo_step1 hI hE11 (by first | exact .inl (by omega) | exact .inr (by simp))
   replace hl := hl0 _ hV
   replace hbb9 := hbb9.evo hE11 (by simp; omega)
   replace hAb9 := hAb9.evo hE11 (by simp; omega)
   replace hb := hn11
   clear hn11
   have hAs := hb.at
   refine r_op rfl rfl rfl (run_asg (v := .int _ _) rfl (by exact rfl)) ?_
   refine r_nil ?_
   refine r_block ?_
   refine r_loop (α := Nat) [8, 9, 10, 12, 27, 28, 29, 30, 31, 32, 33, 34, 35, 36, 37, 38, 39, 40, 41, 42, 43, 44, 45, 46, 47, 48, 49, 50, 51, 52, 53, 54, 55, 56, 57, 58, 59, 60, 61, 62, 63] (fun kk g w => ∃ vs : Value, ∃ es : List Ende, ∃ N2 : Nat, g 8 = .int .i64 (kk : Nat) ∧ OwnE w w10.heap.size 107 vs es ∧ Blk w b9 70 [S (99 :: decW i []), vs] ∧ At w b9 0 [S (99 :: decW i []), vs] ∧ Blk w bs T [.slice ao l.length cap, .int .i64 (N2 : Nat)] ∧ At w bs 0 [.slice ao l.length cap, .int .i64 (N2 : Nat)] ∧ MadeE es ∧ (es.length + kk ≤ 3 ∧ N1 + 1 ≤ N2 ∧ N2 + 2 * kk ≤ N1 + 1 + 2 * nx11.toNat) ∧ w11.heap.size ≤ w.heap.size ∧ Evo w0 w [bs] ∧ Evo w3 w [bs]) (fun kk => kk) nx11.toNat ?_ ?_
   ·refine ⟨_, [], _, (congrArg (Value.int _) (by omega)), (OwnE.nil _ _ _), hbb9, hbb9.at, hb, hb.at, MadeE.nil, (by simp; omega), (by first | assumption | omega | (dsimp only; omega) | (simp; done)), hV, hI⟩
   ·rintro kk g w13 ⟨vs, es, N2, hj14, hos, hbb9, hAb9, hb, hAs, hME, hek, hzl12, hV, hI⟩
    have hs_w13hV := hV.size
    have hs_w13hI := hI.size
    have hlt15 := hbb9.lt
    have hlt16 := hb.lt
    replace hl := hl0 _ hV
    refine r_know (i := 8) (v := .int .i64 (kk : Nat)) (by exact hj14) ?_
    refine r_seq ?_
    refine r_seq ?_
    refine r_region ?_
    refine r_op rfl rfl rfl (run_mv (v := .int _ _) rfl (by exact rfl)) ?_
    refine r_op rfl rfl rfl (run_gtr rfl (by exact rfl) (by exact rfl)) ?_
    refine r_nil ?_
    refine r_cond (by exact rfl) (fun hc17 => ?_) (fun hc17 => ?_)
    ·skip
     refine r_skip ?_
     refine r_seq ?_
     refine r_block ?_
     refine r_seq ?_
     refine r_cut [9, 31, 32, 33, 34, 35, 36, 37, 38, 39, 40, 41] (fun g w => ∃ bx : Nat, ∃ sx : Str, ∃ tx : Str, g 9 = .pointer (some ⟨bx, 0, none⟩) ∧ Blk w bx 107 (Enc.enc (⟨sx, tx⟩ : Ende)) ∧ At w bx 0 (Enc.enc (⟨sx, tx⟩ : Ende)) ∧ OwnE w w10.heap.size 107 vs es ∧ Blk w b9 70 [S (99 :: decW i []), vs] ∧ At w b9 0 [S (99 :: decW i []), vs] ∧ Blk w bs T [.slice ao l.length cap, .int .i64 (N2 + 2 : Nat)] ∧ At w bs 0 [.slice ao l.length cap, .int .i64 (N2 + 2 : Nat)] ∧ sx ∈ stripsL ∧ tx ∈ addsL ∧ w13.heap.size ≤ w.heap.size ∧ Evo w0 w [bs] ∧ Evo w3 w [bs]) ?_ ?_
     ·skip
      have hbsz : bs < w13.heap.size := by omega
      refine h_rgm M9 (I9 w13 bs 107 T N2 (.slice ao l.length cap)) (by kernel_rfl) (by kernel_rfl) (fun w1 he => I9.init (he.mono (by simp)) (hb.evo0 he)) ?_ ?_
      ·skip
       intro g w20 hI9
       obtain ⟨hE19, hbz, bx, sx, tx, hbx1, hj9, hbx, hsx, htx⟩ := hI9.done
       refine r_know (i := 9) (v := .pointer (some ⟨bx, 0, none⟩)) (by exact hj9) ?_
       have hs_w20 := (hE19).size
       replace hV := evo_step1 hV hE19 (.inr (by simp))
       replace hI := evo_step1 hI hE19 (by first | exact .inl (by omega) | exact .inr (by simp))
       replace hl := hl0 _ hV
       replace hos := hos.evo hE19 (by intro g hg hm; simp at hm; subst hm; have := hos.block hg; omega)
       replace hbb9 := hbb9.evo hE19 (by simp; omega)
       replace hAb9 := hAb9.evo hE19 (by simp; omega)
       have hb := hbz; have hAs := hb.at; have hAx := hbx.at
       refine r_cut_end ?_ ?_
       ·refine ⟨_, _, _, rfl, hbx, hbx.at, hos, hbb9, hbb9.at, hb, hb.at, hsx, htx, (by first | assumption | omega | (dsimp only; omega) | (simp; done)), hV, hI⟩
       ·repeat (first | (with_reducible exact Agree.merge _ _ _) | (with_reducible exact Agree.refl _ _) | (with_reducible refine Agree.upd ?_ _ _ rfl) | ((with_reducible refine Agree.inner ?_ ?_); (kernel_rfl)))
      refine ⟨fun l9 g w hu hd ⟨hI9, hA9⟩ => ?_, ?_⟩
      ·skip
       obtain ⟨hE, hb, h12, hP⟩ := hI9.deps (by omega) hu
       refine rg_step hA9 ?_
       have hE1 : Evo w w [bs] := Evo.refl _ _
       have hcn := cn9_le l9
       have hszE := hE.size
       have hAs := hb.at
       refine r_bslice (pv := [(0, S _), (1, S _), (2, S _), (3, S _), (4, S _)]) (zs := [_]) (cs := [_, _, _, _, _]) Tryz.underlying40 ty_9 (by exact rfl) rfl (by exact rfl) rfl (by exact rfl) ?_
       intro b21 w22 heb21 hEw22 hbb21 hzb21
       have hs_w22 := (hEw22).size
       replace hE := evo_step0 hE hEw22
       replace hE1 := evo_step0 hE1 hEw22
       replace hb := hb.evo0 hEw22
       replace hAs := hAs.evo0 hEw22
       have hAb21 := hbb21.at
       have hrb21 : RowE w22 (some ⟨b21, 0, none⟩) b21 0 5 stripsL := rowLit stripsL hbb21 rfl rfl
       refine rg_end (And.intro ?_ ?_)
       ·exact I9.step (i := 0) (by omega) hu hbsz h12 hP hE1 hE (by rw [cn9_set (by decide) (by decide)]; exact hb) (same_put (same_merge (M := M9))) ⟨_, by omega, rfl, hrb21⟩
       ·repeat (first | (with_reducible exact Agree.merge _ _ _) | (with_reducible exact Agree.refl _ _) | (with_reducible refine Agree.upd ?_ _ _ rfl) | ((with_reducible refine Agree.inner ?_ ?_); (kernel_rfl)))
      refine ⟨fun l9 g w hu hd ⟨hI9, hA9⟩ => ?_, ?_⟩
      ·skip
       obtain ⟨hE, hb, h12, hP⟩ := hI9.deps (by omega) hu
       refine rg_step hA9 ?_
       have hE1 : Evo w w [bs] := Evo.refl _ _
       have hcn := cn9_le l9
       have hszE := hE.size
       have hAs := hb.at
       refine r_op rfl rfl rfl (run_mv (v := .pointer _) rfl (by exact rfl)) ?_
       refine rg_end (And.intro ?_ ?_)
       ·exact I9.step (i := 1) (by omega) hu hbsz h12 hP hE1 hE (by rw [cn9_set (by decide) (by decide)]; exact hb) (same_put (same_merge (M := M9))) rfl
       ·repeat (first | (with_reducible exact Agree.merge _ _ _) | (with_reducible exact Agree.refl _ _) | (with_reducible refine Agree.upd ?_ _ _ rfl) | ((with_reducible refine Agree.inner ?_ ?_); (kernel_rfl)))
      refine ⟨fun l9 g w hu hd ⟨hI9, hA9⟩ => ?_, ?_⟩
      ·skip
       obtain ⟨hE, hb, h12, hP⟩ := hI9.deps (by omega) hu
       refine rg_step hA9 ?_
       have hE1 : Evo w w [bs] := Evo.refl _ _
       have hcn := cn9_le l9
       have hszE := hE.size
       have hAs := hb.at
       have hj1 := hP 1 (dep_of hd 1 (by kernel_rfl))
       have hl := hl0 _ (Evo.trans hV hE (fun x hx _ => hx))
       refine r_knowL (i := 32) (v := .pointer (some ⟨bs, 0, none⟩)) (by exact hj1) ?_
       refine r_opcall rfl rfl rfl (run_callf (vs := [.pointer _, .int _ _]) rfl (by exact rfl) Tryz.func41 rfl (by kernel_rfl)) (nx_calls hb hl (by omega) (by omega) (by omega)) ?_
       rintro e w23 ⟨nx23, rfl, hx23, hE23, hn23⟩
       refine ⟨_, rfl, ?_⟩
       have hs_w23 := (hE23).size
       replace hE := evo_step1 hE hE23 (by first | exact .inl (by omega) | exact .inr (by simp))
       replace hE1 := evo_step1 hE1 hE23 (by first | exact .inl (by omega) | exact .inr (by simp))
       replace hb := hn23
       clear hn23
       have hAs := hb.at
       refine rg_end (And.intro ?_ ?_)
       ·exact I9.step (i := 2) (by omega) hu hbsz h12 hP hE1 hE (by rw [cn9_2 hu]; exact hb) (same_put (same_know (same_merge (M := M9)) hj1)) ⟨_, rfl, hx23⟩
       ·repeat (first | (with_reducible exact Agree.merge _ _ _) | (with_reducible exact Agree.refl _ _) | (with_reducible refine Agree.upd ?_ _ _ rfl) | ((with_reducible refine Agree.inner ?_ ?_); (kernel_rfl)))
      refine ⟨fun l9 g w hu hd ⟨hI9, hA9⟩ => ?_, ?_⟩
      ·skip
       obtain ⟨hE, hb, h12, hP⟩ := hI9.deps (by omega) hu
       refine rg_step hA9 ?_
       have hE1 : Evo w w [bs] := Evo.refl _ _
       have hcn := cn9_le l9
       have hszE := hE.size
       have hAs := hb.at
       obtain ⟨bz, hbz1, hj1, hrz⟩ := hP 0 (dep_of hd 0 (by kernel_rfl))
       obtain ⟨rz, hj2, hr0, hr5⟩ := hP 2 (dep_of hd 2 (by kernel_rfl))
       refine r_knowL (i := 31) (v := .slice (some ⟨bz, 0, none⟩) 5 5) (by exact hj1) ?_
       refine r_knowL (i := 33) (v := .int .i64 rz) (by exact hj2) ?_
       refine r_op rfl rfl rfl (run_ix (rz.toNat) rfl Tryz.underlying40 ty_9 (by exact rfl) (by exact rfl) (by omega) (by show _ < 5; omega) (hrz.addr (i := rz.toNat) (by show _ < 5; omega))) ?_
       have hA24 := hrz.atD (rz.toNat) (by show _ < 5; omega)
       refine rg_end (And.intro ?_ ?_)
       ·exact I9.step (i := 3) (by omega) hu hbsz h12 hP hE1 hE (by rw [cn9_set (by decide) (by decide)]; exact hb) (same_put (same_know (same_know (same_merge (M := M9)) hj1) hj2)) (by obtain ⟨sq, hq1, hq2⟩ := elem_in hrz (show rz.toNat < _ by show _ < 5; omega) rfl; exact ⟨_, _, sq, by omega, rfl, hq1, hq2⟩)
       ·repeat (first | (with_reducible exact Agree.merge _ _ _) | (with_reducible exact Agree.refl _ _) | (with_reducible refine Agree.upd ?_ _ _ rfl) | ((with_reducible refine Agree.inner ?_ ?_); (kernel_rfl)))
      refine ⟨fun l9 g w hu hd ⟨hI9, hA9⟩ => ?_, ?_⟩
      ·skip
       obtain ⟨hE, hb, h12, hP⟩ := hI9.deps (by omega) hu
       refine rg_step hA9 ?_
       have hE1 : Evo w w [bs] := Evo.refl _ _
       have hcn := cn9_le l9
       have hszE := hE.size
       have hAs := hb.at
       obtain ⟨bz, jz, sz, hbz1, hj1, haz, hsz⟩ := hP 3 (dep_of hd 3 (by kernel_rfl))
       refine r_knowL (i := 34) (v := .pointer (some ⟨bz, jz, none⟩)) (by exact hj1) ?_
       refine r_op rfl rfl rfl (run_ld1 rfl ag_9 (by exact rfl) (haz.cell 0 (by exact rfl))) ?_
       refine rg_end (And.intro ?_ ?_)
       ·exact I9.step (i := 4) (by omega) hu hbsz h12 hP hE1 hE (by rw [cn9_set (by decide) (by decide)]; exact hb) (same_put (same_know (same_merge (M := M9)) hj1)) ⟨_, rfl, hsz⟩
       ·repeat (first | (with_reducible exact Agree.merge _ _ _) | (with_reducible exact Agree.refl _ _) | (with_reducible refine Agree.upd ?_ _ _ rfl) | ((with_reducible refine Agree.inner ?_ ?_); (kernel_rfl)))
      refine ⟨fun l9 g w hu hd ⟨hI9, hA9⟩ => ?_, ?_⟩
      ·skip
       obtain ⟨hE, hb, h12, hP⟩ := hI9.deps (by omega) hu
       refine rg_step hA9 ?_
       have hE1 : Evo w w [bs] := Evo.refl _ _
       have hcn := cn9_le l9
       have hszE := hE.size
       have hAs := hb.at
       refine r_bslice (pv := [(0, S _), (1, S _), (2, S _), (3, S _), (4, S _), (5, S _)]) (zs := [_]) (cs := [_, _, _, _, _, _]) Tryz.underlying40 ty_9 (by exact rfl) rfl (by exact rfl) rfl (by exact rfl) ?_
       intro b25 w26 heb25 hEw26 hbb25 hzb25
       have hs_w26 := (hEw26).size
       replace hE := evo_step0 hE hEw26
       replace hE1 := evo_step0 hE1 hEw26
       replace hb := hb.evo0 hEw26
       replace hAs := hAs.evo0 hEw26
       have hAb25 := hbb25.at
       have hrb25 : RowE w26 (some ⟨b25, 0, none⟩) b25 0 6 addsL := rowLit addsL hbb25 rfl rfl
       refine rg_end (And.intro ?_ ?_)
       ·exact I9.step (i := 5) (by omega) hu hbsz h12 hP hE1 hE (by rw [cn9_set (by decide) (by decide)]; exact hb) (same_put (same_merge (M := M9))) ⟨_, by omega, rfl, hrb25⟩
       ·repeat (first | (with_reducible exact Agree.merge _ _ _) | (with_reducible exact Agree.refl _ _) | (with_reducible refine Agree.upd ?_ _ _ rfl) | ((with_reducible refine Agree.inner ?_ ?_); (kernel_rfl)))
      refine ⟨fun l9 g w hu hd ⟨hI9, hA9⟩ => ?_, ?_⟩
      ·skip
       obtain ⟨hE, hb, h12, hP⟩ := hI9.deps (by omega) hu
       refine rg_step hA9 ?_
       have hE1 : Evo w w [bs] := Evo.refl _ _
       have hcn := cn9_le l9
       have hszE := hE.size
       have hAs := hb.at
       refine r_op rfl rfl rfl (run_mv (v := .pointer _) rfl (by exact rfl)) ?_
       refine rg_end (And.intro ?_ ?_)
       ·exact I9.step (i := 6) (by omega) hu hbsz h12 hP hE1 hE (by rw [cn9_set (by decide) (by decide)]; exact hb) (same_put (same_merge (M := M9))) rfl
       ·repeat (first | (with_reducible exact Agree.merge _ _ _) | (with_reducible exact Agree.refl _ _) | (with_reducible refine Agree.upd ?_ _ _ rfl) | ((with_reducible refine Agree.inner ?_ ?_); (kernel_rfl)))
      refine ⟨fun l9 g w hu hd ⟨hI9, hA9⟩ => ?_, ?_⟩
      ·skip
       obtain ⟨hE, hb, h12, hP⟩ := hI9.deps (by omega) hu
       refine rg_step hA9 ?_
       have hE1 : Evo w w [bs] := Evo.refl _ _
       have hcn := cn9_le l9
       have hszE := hE.size
       have hAs := hb.at
       have hj1 := hP 6 (dep_of hd 6 (by kernel_rfl))
       have hl := hl0 _ (Evo.trans hV hE (fun x hx _ => hx))
       refine r_knowL (i := 37) (v := .pointer (some ⟨bs, 0, none⟩)) (by exact hj1) ?_
       refine r_opcall rfl rfl rfl (run_callf (vs := [.pointer _, .int _ _]) rfl (by exact rfl) Tryz.func41 rfl (by kernel_rfl)) (nx_calls hb hl (by omega) (by omega) (by omega)) ?_
       rintro e w27 ⟨nx27, rfl, hx27, hE27, hn27⟩
       refine ⟨_, rfl, ?_⟩
       have hs_w27 := (hE27).size
       replace hE := evo_step1 hE hE27 (by first | exact .inl (by omega) | exact .inr (by simp))
       replace hE1 := evo_step1 hE1 hE27 (by first | exact .inl (by omega) | exact .inr (by simp))
       replace hb := hn27
       clear hn27
       have hAs := hb.at
       refine rg_end (And.intro ?_ ?_)
       ·exact I9.step (i := 7) (by omega) hu hbsz h12 hP hE1 hE (by rw [cn9_7 hu]; exact hb) (same_put (same_know (same_merge (M := M9)) hj1)) ⟨_, rfl, hx27⟩
       ·repeat (first | (with_reducible exact Agree.merge _ _ _) | (with_reducible exact Agree.refl _ _) | (with_reducible refine Agree.upd ?_ _ _ rfl) | ((with_reducible refine Agree.inner ?_ ?_); (kernel_rfl)))
      refine ⟨fun l9 g w hu hd ⟨hI9, hA9⟩ => ?_, ?_⟩
      ·skip
       obtain ⟨hE, hb, h12, hP⟩ := hI9.deps (by omega) hu
       refine rg_step hA9 ?_
       have hE1 : Evo w w [bs] := Evo.refl _ _
       have hcn := cn9_le l9
       have hszE := hE.size
       have hAs := hb.at
       obtain ⟨bz, hbz1, hj1, hrz⟩ := hP 5 (dep_of hd 5 (by kernel_rfl))
       obtain ⟨rz, hj2, hr0, hr5⟩ := hP 7 (dep_of hd 7 (by kernel_rfl))
       refine r_knowL (i := 36) (v := .slice (some ⟨bz, 0, none⟩) 6 6) (by exact hj1) ?_
       refine r_knowL (i := 38) (v := .int .i64 rz) (by exact hj2) ?_
       refine r_op rfl rfl rfl (run_ix (rz.toNat) rfl Tryz.underlying40 ty_9 (by exact rfl) (by exact rfl) (by omega) (by show _ < 6; omega) (hrz.addr (i := rz.toNat) (by show _ < 6; omega))) ?_
       have hA28 := hrz.atD (rz.toNat) (by show _ < 6; omega)
       refine rg_end (And.intro ?_ ?_)
       ·exact I9.step (i := 8) (by omega) hu hbsz h12 hP hE1 hE (by rw [cn9_set (by decide) (by decide)]; exact hb) (same_put (same_know (same_know (same_merge (M := M9)) hj1) hj2)) (by obtain ⟨sq, hq1, hq2⟩ := elem_in hrz (show rz.toNat < _ by show _ < 6; omega) rfl; exact ⟨_, _, sq, by omega, rfl, hq1, hq2⟩)
       ·repeat (first | (with_reducible exact Agree.merge _ _ _) | (with_reducible exact Agree.refl _ _) | (with_reducible refine Agree.upd ?_ _ _ rfl) | ((with_reducible refine Agree.inner ?_ ?_); (kernel_rfl)))
      refine ⟨fun l9 g w hu hd ⟨hI9, hA9⟩ => ?_, ?_⟩
      ·skip
       obtain ⟨hE, hb, h12, hP⟩ := hI9.deps (by omega) hu
       refine rg_step hA9 ?_
       have hE1 : Evo w w [bs] := Evo.refl _ _
       have hcn := cn9_le l9
       have hszE := hE.size
       have hAs := hb.at
       obtain ⟨bz, jz, sz, hbz1, hj1, haz, hsz⟩ := hP 8 (dep_of hd 8 (by kernel_rfl))
       refine r_knowL (i := 39) (v := .pointer (some ⟨bz, jz, none⟩)) (by exact hj1) ?_
       refine r_op rfl rfl rfl (run_ld1 rfl ag_9 (by exact rfl) (haz.cell 0 (by exact rfl))) ?_
       refine rg_end (And.intro ?_ ?_)
       ·exact I9.step (i := 9) (by omega) hu hbsz h12 hP hE1 hE (by rw [cn9_set (by decide) (by decide)]; exact hb) (same_put (same_know (same_merge (M := M9)) hj1)) ⟨_, rfl, hsz⟩
       ·repeat (first | (with_reducible exact Agree.merge _ _ _) | (with_reducible exact Agree.refl _ _) | (with_reducible refine Agree.upd ?_ _ _ rfl) | ((with_reducible refine Agree.inner ?_ ?_); (kernel_rfl)))
      refine ⟨fun l9 g w hu hd ⟨hI9, hA9⟩ => ?_, ?_⟩
      ·skip
       obtain ⟨hE, hb, h12, hP⟩ := hI9.deps (by omega) hu
       refine rg_step hA9 ?_
       have hE1 : Evo w w [bs] := Evo.refl _ _
       have hcn := cn9_le l9
       have hszE := hE.size
       have hAs := hb.at
       obtain ⟨sz, hj1, hsz⟩ := hP 4 (dep_of hd 4 (by kernel_rfl))
       obtain ⟨tz, hj2, htz⟩ := hP 9 (dep_of hd 9 (by kernel_rfl))
       refine r_knowL (i := 35) (v := S sz) (by exact hj1) ?_
       refine r_knowL (i := 40) (v := S tz) (by exact hj2) ?_
       refine r_op rfl rfl rfl (run_bld (pv := [(0, S _), (1, S _)]) (zs := [_, _]) (cells := [_, _]) rfl ty_107 (by exact rfl) pl_107 (by exact rfl) (by exact rfl)) ?_
       refine rg_end (And.intro ?_ ?_)
       ·exact I9.step (i := 10) (by omega) hu hbsz h12 hP hE1 hE (by rw [cn9_set (by decide) (by decide)]; exact hb) (same_put (same_know (same_know (same_merge (M := M9)) hj1) hj2)) ⟨_, _, rfl, hsz, htz⟩
       ·repeat (first | (with_reducible exact Agree.merge _ _ _) | (with_reducible exact Agree.refl _ _) | (with_reducible refine Agree.upd ?_ _ _ rfl) | ((with_reducible refine Agree.inner ?_ ?_); (kernel_rfl)))
      refine ⟨fun l9 g w hu hd ⟨hI9, hA9⟩ => ?_, ?_⟩
      ·skip
       obtain ⟨hE, hb, h12, hP⟩ := hI9.deps (by omega) hu
       refine rg_step hA9 ?_
       have hE1 : Evo w w [bs] := Evo.refl _ _
       have hcn := cn9_le l9
       have hszE := hE.size
       have hAs := hb.at
       refine r_alloc (zs := [_, _]) ty_107 (by exact rfl) rfl ?_
       intro b29 w30 heb29 hEw30 hbb29 hzb29
       have hs_w30 := (hEw30).size
       replace hE := evo_step0 hE hEw30
       replace hE1 := evo_step0 hE1 hEw30
       replace hb := hb.evo0 hEw30
       replace hAs := hAs.evo0 hEw30
       have hAb29 := hbb29.at
       refine rg_end (And.intro ?_ ?_)
       ·exact I9.step (i := 11) (by omega) hu hbsz h12 hP hE1 hE (by rw [cn9_set (by decide) (by decide)]; exact hb) (same_put (same_merge (M := M9))) ⟨_, by omega, rfl, [], [], hbb29⟩
       ·repeat (first | (with_reducible exact Agree.merge _ _ _) | (with_reducible exact Agree.refl _ _) | (with_reducible refine Agree.upd ?_ _ _ rfl) | ((with_reducible refine Agree.inner ?_ ?_); (kernel_rfl)))
      refine ⟨fun l9 g w hu hd ⟨hI9, hA9⟩ => ?_, ?_⟩
      ·skip
       obtain ⟨hE, hb, h12, hP⟩ := hI9.deps (by omega) hu
       refine rg_step hA9 ?_
       have hE1 : Evo w w [bs] := Evo.refl _ _
       have hcn := cn9_le l9
       have hszE := hE.size
       have hAs := hb.at
       obtain ⟨bz, hbz1, hj1, sy, ty, hbx⟩ := hP 11 (dep_of hd 11 (by kernel_rfl))
       have hax := hbx.at
       obtain ⟨sz, tz, hj2, hsz, htz⟩ := hP 10 (dep_of hd 10 (by kernel_rfl))
       refine r_knowL (i := 9) (v := .pointer (some ⟨bz, 0, none⟩)) (by exact hj1) ?_
       refine r_knowL (i := 41) (v := .agg #[S sz, S tz]) (by exact hj2) ?_
       refine r_store (v := .agg _) (vs := [_, _]) (cs' := [_, _]) (by exact rfl) (by exact rfl) hbx ty_107 (by exact rfl) rfl (by exact rfl) rfl (by exact rfl) ?_
       intro w31 hEw31 hzw31 hb_new
       have hs_w31 := (hEw31).size
       replace hE := evo_step1 hE hEw31 (by first | exact .inl (by omega) | exact .inr (by simp))
       replace hb := hb.evo hEw31 (by simp; omega)
       replace hAs := hAs.evo hEw31 (by simp; omega)
       replace hbx := hb_new
       have hax := hbx.at
       clear hb_new
       refine rg_end (And.intro ?_ ?_)
       ·exact I9.last hu (deps_all hd (by kernel_rfl)) hE (by rw [cn9_set (by decide) (by decide)]; exact hb) ⟨bz, sz, tz, by omega, rfl, hbx, hsz, htz⟩
       ·repeat (first | (with_reducible exact Agree.merge _ _ _) | (with_reducible exact Agree.refl _ _) | (with_reducible refine Agree.upd ?_ _ _ rfl) | ((with_reducible refine Agree.inner ?_ ?_); (kernel_rfl)))
      exact trivial
     ·rintro g w32 ⟨bx, sx, tx, hj33, hbx, hAx, hos, hbb9, hAb9, hb, hAs, hsx, htx, hzl18, hV, hI⟩
      have hs_w32hV := hV.size
      have hs_w32hI := hI.size
      have hlt34 := hbx.lt
      have hlt35 := hbb9.lt
      have hlt36 := hb.lt
      replace hl := hl0 _ hV
      refine r_know (i := 9) (v := .pointer (some ⟨bx, 0, none⟩)) (by exact hj33) ?_
      refine r_seq ?_
      refine r_region ?_
      refine r_op rfl rfl rfl (run_asg (v := .bool _) rfl (by exact rfl)) ?_
      refine r_nil ?_
      refine r_seq ?_
      refine r_seq ?_
      refine r_region ?_
      refine r_op rfl rfl rfl (run_fa rfl (by exact rfl) fo_70_1) ?_
      refine r_op rfl rfl rfl (run_ld1 rfl ag_68 (by exact rfl) (hAb9.cell 1 (by exact rfl))) ?_
      refine r_op rfl rfl rfl (run_lenOE rfl (by exact rfl) Tryz.underlying68 hos) ?_
      refine r_op rfl rfl rfl (run_mv (v := .int _ _) rfl (by exact rfl)) ?_
      refine r_nil ?_
      refine r_block ?_
      have hbdo := hos.bd
      obtain ⟨ao37, g37, cp37, hv37, hr37, hg37⟩ := hos.rowOf
      subst hv37
      refine r_loop (α := Nat) [10, 12, 45, 46, 47, 48, 49, 50, 51, 52, 53, 54, 55] (fun k g w => g 45 = .int .i64 (k : Nat) ∧ g 10 = .bool (decide ((⟨sx, tx⟩ : Ende) ∈ es.take k)) ∧ k ≤ es.length ∧ RowE w ao37 g37 0 cp37 es ∧ OwnE w w10.heap.size 107 (.slice ao37 es.length cp37) es ∧ Blk w b9 70 [S (99 :: decW i []), .slice ao37 es.length cp37] ∧ At w b9 0 [S (99 :: decW i []), .slice ao37 es.length cp37] ∧ Blk w bs T [.slice ao l.length cap, .int .i64 (N2 + 2 : Nat)] ∧ At w bs 0 [.slice ao l.length cap, .int .i64 (N2 + 2 : Nat)] ∧ Blk w bx 107 (Enc.enc (⟨sx, tx⟩ : Ende)) ∧ At w bx 0 (Enc.enc (⟨sx, tx⟩ : Ende)) ∧ w32.heap.size ≤ w.heap.size ∧ Evo w0 w [bs] ∧ Evo w3 w [bs]) (fun k => es.length - k) 0 ?_ ?_
      ·refine ⟨(by first | exact rfl | exact congrArg (Value.int _) (by omega) | exact congrArg (Value.int _) (by dsimp only; omega) | exact congrArg (Value.int _) (by simp) | exact congrArg S (by simp)), (congrArg Value.bool (by simp)), (by first | assumption | omega | (dsimp only; omega) | (simp; done)), hr37, (by first | assumption | omega | (dsimp only; omega) | (simp; done)), (by first | assumption | omega | (dsimp only; omega) | (simp; done)), (by first | assumption | omega | (dsimp only; omega) | (simp; done)), (by first | assumption | omega | (dsimp only; omega) | (simp; done)), (by first | assumption | omega | (dsimp only; omega) | (simp; done)), (by first | assumption | omega | (dsimp only; omega) | (simp; done)), (by first | assumption | omega | (dsimp only; omega) | (simp; done)), (by first | assumption | omega | (dsimp only; omega) | (simp; done)), hV, hI⟩
      ·rintro k g w39 ⟨hj40, hj41, hk_k, hro, hos, hbb9, hAb9, hb, hAs, hbx, hAx, hzl38, hV, hI⟩
       have hs_w39hV := hV.size
       have hs_w39hI := hI.size
       have hlt42 := hbb9.lt
       have hlt43 := hb.lt
       have hlt44 := hbx.lt
       replace hl := hl0 _ hV
       refine r_know (i := 45) (v := .int .i64 (k : Nat)) (by exact hj40) ?_
       refine r_know (i := 10) (v := .bool (decide ((⟨sx, tx⟩ : Ende) ∈ es.take k))) (by exact hj41) ?_
       refine r_seq ?_
       refine r_region ?_
       refine r_op rfl rfl rfl (run_lss rfl (by exact rfl) (by exact rfl)) ?_
       refine r_nil ?_
       refine r_seq ?_
       refine r_cond (by exact rfl) (fun hc45 => ?_) (fun hc45 => ?_)
       ·skip
        refine r_skip ?_
        refine r_seq ?_
        refine r_block ?_
        refine r_seq ?_
        refine r_region ?_
        refine r_op rfl rfl rfl (run_ix (k) rfl Tryz.underlying68 ty_107 (by exact rfl) (by exact rfl) (by first | exact rfl | omega) (by omega) (hro.addr (i := k) (by omega))) ?_
        have hA46 := hro.atD (k) (by omega)
        refine r_op rfl rfl rfl (run_ldN rfl ag_107 ty_107 (by exact rfl) rfl hA46) ?_
        have hob47 := fun g hg => (hos.block (g := g) hg).2
        refine r_var (zs := [_, _]) (vs := [_, _]) ty_107 (by exact rfl) rfl (by exact rfl) (fun _ => rfl) (by exact rfl) rfl rfl (by exact rfl) ?_
        intro b48 w49 heb48 hEw49 hbb48 hzb48
        have hs_w49 := (hEw49).size
        replace hV := evo_step0 hV hEw49
        replace hI := evo_step0 hI hEw49
        replace hl := hl0 _ hV
        replace hro := hro.evo0 hEw49
        replace hos := hos.evo0 hEw49
        replace hbb9 := hbb9.evo0 hEw49
        replace hAb9 := hAb9.evo0 hEw49
        replace hb := hb.evo0 hEw49
        replace hAs := hAs.evo0 hEw49
        replace hbx := hbx.evo0 hEw49
        replace hAx := hAx.evo0 hEw49
        have hAb48 := hbb48.at
        refine r_nil ?_
        refine r_region ?_
        refine r_op rfl rfl rfl (run_mvb rfl (by exact rfl)) ?_
        refine r_op rfl rfl rfl (run_mv (v := .bool _) rfl (by exact rfl)) ?_
        refine r_g rfl (wantF (by exact rfl)) rfl (fun hg => run_ldN rfl ag_107 ty_107 (by exact rfl) rfl hAx) ?_
        refine r_g rfl (wantF (by exact rfl)) rfl (fun hg => run_ldN rfl ag_107 ty_107 (by exact rfl) rfl hAb48) ?_
        refine r_g rfl (wantF (by exact rfl)) rfl (fun hg => run_eqlG (α := Ende) _ _ rfl Tryz.eqGuardType107 ee_107 (glv (by exact rfl) (fun h => h) hg) (glv (by exact rfl) (fun h => h) hg)) ?_
        refine r_op rfl rfl rfl (run_pick_or rfl (by exact rfl) rfl (fun hq => glv (by exact rfl) (fun h => h) hq)) ?_
        refine r_op rfl rfl rfl (run_asg (v := .bool _) rfl (by exact rfl)) ?_
        refine r_nil ?_
        refine r_blk ?_
        refine r_region ?_
        refine r_op rfl rfl rfl (run_add rfl (by exact rfl) (by exact rfl) (by omega) (by omega)) ?_
        refine r_op rfl rfl rfl (run_mv (v := .int _ _) rfl (by exact rfl)) ?_
        refine r_nil ?_
        refine r_again (k + 1) ?_ ?_ ?_
        ·first | omega | (dsimp only; omega)
        ·refine ⟨(by first | exact rfl | exact congrArg (Value.int _) (by omega) | exact congrArg (Value.int _) (by dsimp only; omega) | exact congrArg (Value.int _) (by simp) | exact congrArg S (by simp)), (congrArg Value.bool (decide_eq_decide.2 ((or_congr_left decide_eq_true_iff).trans (mem_takeS (x := (⟨sx, tx⟩ : Ende)) (l := es) (k := k) (by omega))))), (by first | assumption | omega | (dsimp only; omega) | (simp; done)), hro, hos, hbb9, hAb9, hb, hAs, hbx, hAx, (by first | assumption | omega | (dsimp only; omega) | (simp; done)), hV, hI⟩
        ·repeat (first | (with_reducible exact Agree.merge _ _ _) | (with_reducible exact Agree.refl _ _) | (with_reducible refine Agree.upd ?_ _ _ rfl) | ((with_reducible refine Agree.inner ?_ ?_); (kernel_rfl)))
       ·skip
        refine r_exit rfl ?_
        refine r_seq ?_
        refine r_region ?_
        refine r_op rfl rfl rfl (run_mvb rfl (by exact rfl)) ?_
        refine r_op rfl rfl rfl (run_not rfl (by exact rfl)) ?_
        refine r_nil ?_
        refine r_cond (by exact rfl) (fun hc50 => ?_) (fun hc50 => ?_)
        ·skip
         refine r_region ?_
         refine r_op rfl rfl rfl (run_fa rfl (by exact rfl) fo_70_1) ?_
         refine r_op rfl rfl rfl (run_ld1 rfl ag_68 (by exact rfl) (hAb9.cell 1 (by exact rfl))) ?_
         refine r_op rfl rfl rfl (run_ldN rfl ag_107 ty_107 (by exact rfl) rfl hAx) ?_
         refine r_append1E (u := .agg _) (y := (⟨sx, tx⟩ : Ende)) rfl rfl Tryz.underlying68 ty_107 (by exact rfl) hos (fun _ => (by exact rfl)) (by exact rfl) (by first | exact rfl | (show _ = List.toArray [_, _]; first | (dsimp only; done) | exact rfl | (dsimp only; exact rfl))) ((by first | omega | (simp; omega))) ((by first | omega | (simp; omega))) (by omega) ?_
         intro q_v51 v51 w52 hEw52 hov51 hlv51
         have hs_w52 := (hEw52).size
         replace hV := evo_stepo hV hEw52 (fun g hg => .inl (by first | exact (hos.block hg).1 | (have := hos.block hg; omega)))
         replace hI := evo_stepo hI hEw52 (fun g hg => .inl (by first | exact (hos.block hg).1 | (have := hos.block hg; omega)))
         replace hl := hl0 _ hV
         replace hbb9 := hbb9.evo hEw52 (by intro hm; have hm2 := Option.mem_toList.1 hm; have := hos.block hm2; omega)
         replace hAb9 := hAb9.evo hEw52 (by intro hm; have hm2 := Option.mem_toList.1 hm; have := hos.block hm2; omega)
         replace hb := hb.evo hEw52 (by intro hm; have hm2 := Option.mem_toList.1 hm; have := hos.block hm2; omega)
         have hos := hov51
         refine r_op rfl rfl rfl (run_fa rfl (by exact rfl) fo_70_1) ?_
         obtain ⟨ao53, cp53, hv53⟩ := hos.shape
         subst hv53
         refine r_store (v := .slice _ _ _) (vs := [_]) (cs' := [_, _]) (by exact rfl) (by exact rfl) hbb9 ty_68 (by exact rfl) rfl (by exact rfl) rfl (by exact rfl) ?_
         intro w54 hEw54 hzw54 hb_new
         have hs_w54 := (hEw54).size
         replace hV := evo_step1 hV hEw54 (by first | exact .inl (by omega) | exact .inr (by simp))
         replace hI := evo_step1 hI hEw54 (by first | exact .inl (by omega) | exact .inr (by simp))
         replace hl := hl0 _ hV
         replace hb := hb.evo hEw54 (by simp; omega)
         replace hos := hos.evo hEw54 (by intro g hg hm; simp at hm; subst hm; have := hos.block hg; omega)
         replace hbb9 := hb_new
         have hAb9 := hbb9.at
         clear hb_new
         refine r_nil ?_
         refine r_blk ?_
         refine r_region ?_
         refine r_op rfl rfl rfl (run_mv (v := .int _ _) rfl (by exact rfl)) ?_
         refine r_op rfl rfl rfl (run_sub rfl (by exact rfl) (by exact rfl) (by omega) (by omega)) ?_
         refine r_op rfl rfl rfl (run_asg (v := .int _ _) rfl (by exact rfl)) ?_
         refine r_nil ?_
         refine r_again (kk - 1) ?_ ?_ ?_
         ·first | omega | (dsimp only; omega)
         ·refine ⟨_, _, _, (by first | exact rfl | exact congrArg (Value.int _) (by omega) | exact congrArg (Value.int _) (by dsimp only; omega) | exact congrArg (Value.int _) (by simp) | exact congrArg S (by simp)), hos, hbb9, hbb9.at, hb, hb.at, (by first | exact hME | exact hME.snoc (by have h8 := hc50; rw [List.take_of_length_le (by omega)] at h8; exact fun h9 => h8 (decide_eq_true h9)) hsx htx), (by first | omega | (simp; omega)), (by first | assumption | omega | (dsimp only; omega) | (simp; done)), hV, hI⟩
         ·repeat (first | (with_reducible exact Agree.merge _ _ _) | (with_reducible exact Agree.refl _ _) | (with_reducible refine Agree.upd ?_ _ _ rfl) | ((with_reducible refine Agree.inner ?_ ?_); (kernel_rfl)))
        ·skip
         refine r_skip ?_
         refine r_blk ?_
         refine r_region ?_
         refine r_op rfl rfl rfl (run_mv (v := .int _ _) rfl (by exact rfl)) ?_
         refine r_op rfl rfl rfl (run_sub rfl (by exact rfl) (by exact rfl) (by omega) (by omega)) ?_
         refine r_op rfl rfl rfl (run_asg (v := .int _ _) rfl (by exact rfl)) ?_
         refine r_nil ?_
         refine r_again (kk - 1) ?_ ?_ ?_
         ·first | omega | (dsimp only; omega)
         ·refine ⟨_, _, _, (by first | exact rfl | exact congrArg (Value.int _) (by omega) | exact congrArg (Value.int _) (by dsimp only; omega) | exact congrArg (Value.int _) (by simp) | exact congrArg S (by simp)), hos, hbb9, hbb9.at, hb, hb.at, (by first | exact hME | exact hME.snoc (by have h8 := hc50; rw [List.take_of_length_le (by omega)] at h8; exact fun h9 => h8 (decide_eq_true h9)) hsx htx), (by first | omega | (simp; omega)), (by first | assumption | omega | (dsimp only; omega) | (simp; done)), hV, hI⟩
         ·repeat (first | (with_reducible exact Agree.merge _ _ _) | (with_reducible exact Agree.refl _ _) | (with_reducible refine Agree.upd ?_ _ _ rfl) | ((with_reducible refine Agree.inner ?_ ?_); (kernel_rfl)))
    ·skip
     refine r_exit rfl ?_
     have hoR := hoR0.evoY hI (by simp; omega)
     clear hoR0
     obtain ⟨aoS, cpS, hvS⟩ := hos.shape
     subst hvS
     refine r_region ?_
     refine r_op rfl rfl rfl (run_mv (v := vo) rfl (by exact rfl)) ?_
     refine r_op rfl rfl rfl (run_ldN rfl ag_70 ty_70 (by exact rfl) rfl hAb9) ?_
     refine r_append1R (u := .agg _) (us := [_, _]) rfl rfl Tryz.underlying23 ty_70 (by exact rfl) rfl rfl hoR (fun _ => (by exact rfl)) (by exact rfl) (by exact rfl) rfl (by exact rfl) (clas_own _ hos (by simp; omega) (fun g hg => by have := hobR g hg; omega) (made_bdC hME (by omega) (by omega))) ((by first | omega | (simp; omega))) ((by first | omega | (simp; omega))) (by omega) ?_
     intro q_v55 v55 w56 hEw56 hov55 hlv55
     have hs_w56 := (hEw56).size
     replace hV := evo_stepo hV hEw56 (fun g hg => .inl (by first | exact (hoR.block hg).1 | (have := hoR.block hg; omega)))
     replace hl := hl0 _ hV
     replace hb := hb.evo hEw56 (by intro hm; have hm2 := Option.mem_toList.1 hm; have := hoR.block hm2; omega)
     refine r_op rfl rfl rfl (run_asg (v := v55) rfl (by exact rfl)) ?_
     refine r_nil ?_
     refine r_blk ?_
     refine r_region ?_
     refine r_op rfl rfl rfl (run_mv (v := .int _ _) rfl (by exact rfl)) ?_
     refine r_op rfl rfl rfl (run_sub rfl (by exact rfl) (by exact rfl) (by omega) (by omega)) ?_
     refine r_op rfl rfl rfl (run_asg (v := .int _ _) rfl (by exact rfl)) ?_
     refine r_nil ?_
     refine r_again (i - 1) ?_ ?_ ?_
     ·first | omega | (dsimp only; omega)
     ·refine ⟨_, _, _, (by first | exact rfl | exact congrArg (Value.int _) (by omega) | exact congrArg (Value.int _) (by dsimp only; omega) | exact congrArg (Value.int _) (by simp) | exact congrArg S (by simp)), rfl, hov55, hb, hb.at, (hMP.snoc (by omega) rfl hME (by omega)), (by first | assumption | omega | (dsimp only; omega) | (simp; done)), (by first | assumption | omega | (dsimp only; omega) | (simp; done)), hV⟩
     ·repeat (first | (with_reducible exact Agree.merge _ _ _) | (with_reducible exact Agree.refl _ _) | (with_reducible refine Agree.upd ?_ _ _ rfl) | ((with_reducible refine Agree.inner ?_ ?_); (kernel_rfl)))
  ·skip
   refine r_exit rfl ?_
   refine r_seq ?_
   refine r_region ?_
   refine r_op rfl rfl rfl (run_mv (v := vo) rfl (by exact rfl)) ?_
   refine r_op rfl rfl rfl (run_asg (v := vo) rfl (by exact rfl)) ?_
   refine r_nil ?_
   refine r_ret (res1 (v := vo) rfl (by exact rfl)) ?_
   exact ⟨_, cl, _, N1, rfl, ⟨(by rw [show i = 0 by omega] at hMP; exact hMP), by omega⟩, by omega, hV, hb, hoR.sub (by omega) (by simp)⟩
theorem made_names {cl : List Clas} {m : Nat} (h : MadeP cl m 0) (hm : m ≤ 9) : ∀ x ∈ cl, x.name.length ≤ 1000 := fun x hx => by
  obtain ⟨k, hk, rfl⟩ := List.mem_iff_getElem.1 hx
  rw [h.2.1 k hk]
  have := decW_len 0 (m - k) [] (by omega)
  simp at this ⊢; omega
theorem fLen_sizeT (f : List Vc.Item) : fLen f = sizeL f := rfl
set_option maxHeartbeats 1000000 in
theorem scene_calls {ao : Option Addr} {b off cap : Nat} {l : List Int} {w0 : World} (hl : RowE w0 ao b off cap l) :
    Calls Tryz.prog 14 #[.slice ao l.length cap] w0 fun e w' => ∃ v1 v2 v3, ∃ cl : List Clas, ∃ ts : List TermL, ∃ f : List Vc.Item, ∃ m, e = .returned (.tuple #[v1, v2, v3]) ∧ (MadeP cl m 0 ∧ m ≤ 3) ∧ ((∀ x ∈ ts, MadeTm x) ∧ ts.length ≤ 4) ∧ (valGo [] f = 0 ∧ f.length ≤ 10 ∧ fLen f ≤ 150) ∧ Evo w0 w' [] ∧ OwnR w' w0.heap.size 70 [] v1 cl ∧ OwnR w' w0.heap.size 42 [] v2 ts ∧ OwnE w' w0.heap.size 38 v3 (toks f) := by
 refine calls_enter (n := 18) (args := [.slice ao l.length cap]) Tryz.func14 rfl Tryz.ntmps14 rfl ?_
 have hV : Evo w0 w0 [] := Evo.refl _ _
 have hl0 := keepE hl
 have hbd_hl := hl.bd
 refine r_seq ?_
 refine r_region ?_
 refine r_op rfl rfl rfl (run_asg (v := .slice _ _ _) rfl (by exact rfl)) ?_
 refine r_op rfl rfl rfl (run_asg (v := .slice _ _ _) rfl (by exact rfl)) ?_
 refine r_op rfl rfl rfl (run_asg (v := .slice _ _ _) rfl (by exact rfl)) ?_
 refine r_nil ?_
 refine r_seq ?_
 refine r_region ?_
 refine r_op rfl rfl rfl (run_mv (v := .slice _ _ _) rfl (by exact rfl)) ?_
 refine r_opcall rfl rfl rfl (run_callf (vs := [.slice _ _ _]) rfl (by exact rfl) Tryz.func19 rfl (by kernel_rfl)) from_calls ?_
 rintro e w1 ⟨bs1, rfl, hbs1, hE1, hbn1, hbA1⟩
 refine ⟨_, rfl, ?_⟩
 have hs_w1 := (hE1).size
 replace hV := evo_step0 hV hE1
 replace hl := hl0 _ hV
 refine r_op rfl rfl rfl (run_asg (v := .pointer _) rfl (by exact rfl)) ?_
 refine r_nil ?_
 refine r_seq ?_
 have hbslt := hbn1.lt
 refine r_region ?_
 refine r_op rfl rfl rfl (run_mv (v := .pointer _) rfl (by exact rfl)) ?_
 refine r_opcall rfl rfl rfl (run_callf (vs := [.pointer _, .int _ _]) rfl (by exact rfl) Tryz.func32 rfl (by kernel_rfl)) (classesY_calls (N := 0) (show Blk _ _ _ [_, .int .i64 ((0 : Nat) : Int)] from hbn1) (fun w9 h9 => hl0 _ (evo_step1 hV h9 (.inl (by omega)))) (by omega) (by omega) (by omega)) ?_
 rintro e w2 ⟨vc2, cl2, mc2, Nc2, rfl, hMC2, hNc2, hE2, hn2, hoC2⟩
 refine ⟨_, rfl, ?_⟩
 have hs_w2 := (hE2).size
 replace hV := evo_step1 hV hE2 (by first | exact .inl (by omega) | exact .inr (by simp))
 replace hl := hl0 _ hV
 replace hbn1 := hn2
 clear hn2
 have hbA1 := hbn1.at
 have hnm := made_names hMC2.1 (by omega); have hmc1 := hMC2.1.1
 refine r_op rfl rfl rfl (run_asg (v := vc2) rfl (by exact rfl)) ?_
 refine r_nil ?_
 refine r_seq ?_
 obtain ⟨aoc, gc, cpc, hvc, hcK⟩ := hoC2.rowK (by simp; omega)
 subst hvc
 refine r_region ?_
 refine r_op rfl rfl rfl (run_mv (v := .slice _ _ _) rfl (by exact rfl)) ?_
 refine r_op rfl rfl rfl (run_mv (v := .pointer _) rfl (by exact rfl)) ?_
 refine r_op rfl rfl rfl (run_mv (v := .slice _ _ _) rfl (by exact rfl)) ?_
 refine r_opcall rfl rfl rfl (run_callf (vs := [.pointer _, .slice _ _ _, .int _ _]) rfl (by exact rfl) Tryz.func33 rfl (by kernel_rfl)) (terms_make hbn1 (fun w9 h9 => hl0 _ (evo_step1 hV h9 (.inl (by omega)))) (by omega) hcK hnm (by omega) (by omega) (by omega)) ?_
 rintro e w3 ⟨vt3, ts3, Nt3, rfl, hMT3, hNt3, hE3, hn3, hoT3⟩
 refine ⟨_, rfl, ?_⟩
 have hs_w3 := (hE3).size
 replace hV := evo_step1 hV hE3 (by first | exact .inl (by omega) | exact .inr (by simp))
 replace hl := hl0 _ hV
 replace hoC2 := hoC2.evo hE3 (by simp) (by intro g hg hm; simp at hm; subst hm; have := hoC2.block hg; omega)
 replace hbn1 := hn3
 clear hn3
 have hbA1 := hbn1.at
 refine r_op rfl rfl rfl (run_mv (v := .pointer _) rfl (by exact rfl)) ?_
 refine r_opcall rfl rfl rfl (run_callf (vs := [.pointer _, .int _ _, .bool _, .bool _]) rfl (by exact rfl) Tryz.func34 rfl (by kernel_rfl)) (fragment_calls hbn1 (fun w9 h9 => hl0 _ (evo_step1 hV h9 (.inl (by omega)))) (by omega) (by omega) (by omega)) ?_
 rintro e w4 ⟨vf4, f4, Nf4, rfl, hf4, hNf4, hE4, hn4, hof4⟩
 refine ⟨_, rfl, ?_⟩
 have hs_w4 := (hE4).size
 replace hV := evo_step1 hV hE4 (by first | exact .inl (by omega) | exact .inr (by simp))
 replace hl := hl0 _ hV
 replace hoC2 := hoC2.evo hE4 (by simp) (by intro g hg hm; simp at hm; subst hm; have := hoC2.block hg; omega)
 replace hoT3 := hoT3.evo hE4 (by simp) (by intro g hg hm; simp at hm; subst hm; have := hoT3.block hg; omega)
 replace hbn1 := hn4
 clear hn4
 have hbA1 := hbn1.at
 have hfl9 := fLen_sizeT f4; have hf2 := hf4.2.1; have hf3 := hf4.2.2.1
 obtain ⟨ao5, g5, cp5, hv5, hr5, hg5⟩ := hof4.rowOf
 subst hv5
 refine r_opcall rfl rfl rfl (run_callf (vs := [.slice _ _ _]) rfl (by exact rfl) Tryz.func23 rfl (by kernel_rfl)) (rtokens_calls hr5 (by omega)) ?_
 rintro e w6 ⟨vk6, rfl, hE6, hok6⟩
 refine ⟨_, rfl, ?_⟩
 have hs_w6 := (hE6).size
 replace hV := evo_step0 hV hE6
 replace hl := hl0 _ hV
 replace hoC2 := hoC2.evo0 hE6
 replace hoT3 := hoT3.evo0 hE6
 replace hof4 := hof4.evo0 hE6
 replace hr5 := hr5.evo0 hE6
 have zC := hoC2; have zMC := hMC2; have zT := hoT3; have zMT := hMT3; have zF := hf4; have zK := hok6
 refine r_op rfl rfl rfl (run_asg (v := .slice _ _ _) rfl (by exact rfl)) ?_
 refine r_op rfl rfl rfl (run_asg (v := vt3) rfl (by exact rfl)) ?_
 refine r_op rfl rfl rfl (run_asg (v := vk6) rfl (by exact rfl)) ?_
 refine r_nil ?_
 refine r_ret (res3 (v := .slice _ _ _) (u := vt3) (x := vk6) rfl (by exact rfl) (by exact rfl) (by exact rfl)) ?_
 exact ⟨_, _, _, _, _, _, _, rfl, ⟨zMC.1, by omega⟩, ⟨zMT.1, by have := zMT.2; omega⟩, ⟨zF.1, by omega, by omega⟩, hV, zC.sub (by omega) (by simp), zT.sub (by omega) (by simp), zK.base_le (by omega)⟩
end Go.Proofs.YtkklomiipkipnaaGreatDoor
namespace Go.Proofs.YtkklomiipkipnaaGreatDoor
open Go.RowKit Go.Vc
theorem pl_42 : placesP Tryz.prog 42 = some [(0, 1), (1, 1), (2, 1)] := by kernel_rfl
def knownT : List TermL := [⟨([⟨[100, 97, 116, 97], []⟩] : List Ende), [], []⟩, ⟨([⟨[100, 97, 116, 97], []⟩, ⟨[98, 97, 110, 107], []⟩] : List Ende), ([[68, 97, 116, 101, 110, 98, 97, 110, 107]] : List Str), []⟩]
def knownF : List Vc.Item := ([⟨1, [68, 97, 116, 97, 32], 0⟩, ⟨2, [98], 1⟩, ⟨1, [98, 97, 110, 107, 44, 32, 100, 97, 116, 97], 0⟩] : List Vc.Item)
theorem term_lit {w : World} {ao1 ao2 ao3 : Option Addr} {b1 o1 b2 o2 b3 o3 c1 c2 c3 : Nat} (x : TermL) (h1 : RowE w ao1 b1 o1 c1 x.words) (h2 : RowE w ao2 b2 o2 c2 x.req) (h3 : RowE w ao3 b3 o3 c3 x.forb) (hb : x.words.length ≤ 4398046510976 ∧ ∀ y ∈ x.words, BdE y) :
    Rep.rep w [.slice ao1 x.words.length c1, .slice ao2 x.req.length c2, .slice ao3 x.forb.length c3] x := ⟨⟨_, _, _, _, _, _, _, _, _, _, _, _, rfl, h1, h2, h3⟩, hb⟩
theorem known_bd1 : (([⟨[100, 97, 116, 97], []⟩] : List Ende)).length ≤ 4398046510976 ∧ ∀ y ∈ ([⟨[100, 97, 116, 97], []⟩] : List Ende), BdE y := ⟨by decide, fun y hy => by
  rcases List.mem_cons.1 hy with rfl | hy
  · exact ⟨by decide, by decide⟩
  · cases hy⟩
theorem known_bd2 : (([⟨[100, 97, 116, 97], []⟩, ⟨[98, 97, 110, 107], []⟩] : List Ende)).length ≤ 4398046510976 ∧ ∀ y ∈ ([⟨[100, 97, 116, 97], []⟩, ⟨[98, 97, 110, 107], []⟩] : List Ende), BdE y := ⟨by decide, fun y hy => by
  rcases List.mem_cons.1 hy with rfl | hy
  · exact ⟨by decide, by decide⟩
  · rcases List.mem_cons.1 hy with rfl | hy
    · exact ⟨by decide, by decide⟩
    · cases hy⟩
theorem known_toks : ∀ x ∈ toks knownF, x.text.length ≤ 140737488355328 := by decide +kernel
theorem known_toksl : (toks knownF).length ≤ 4398046510976 := by decide +kernel
theorem known_spots : spotsF (toks knownF) (fsT [] knownT) 0 = ([⟨1, 0, 4⟩, ⟨0, 6, 7⟩] : List Spt) := by decide +kernel
theorem known_miss : natI (missN [] knownT (foundN knownT.length (spotsF (toks knownF) (fsT [] knownT) 0))) = [1] := by decide +kernel
theorem known_has1 : hasB [100, 97, 116, 97, 32, 66, 65, 78, 75] (toks knownF) = true := by decide +kernel
theorem known_has2 : hasB [98, 97, 110, 107, 32, 100, 97, 116, 97] (toks knownF) = false := by decide +kernel
set_option maxHeartbeats 2000000 in
theorem known_calls  {w0 : World}  :
    Calls Tryz.prog 13 #[] w0 fun e w' => e = .returned (.bool true) ∧ Evo w0 w' [] := by
 refine calls_enter (n := 48) (args := []) Tryz.func13 rfl Tryz.ntmps13 rfl ?_
 have hV : Evo w0 w0 [] := Evo.refl _ _
 refine r_seq ?_
 refine r_region ?_
 refine r_op rfl rfl rfl (run_asg (v := .bool _) rfl (by exact rfl)) ?_
 refine r_nil ?_
 refine r_seq ?_
 refine r_region ?_
 refine r_op rfl rfl rfl (run_bld (pv := [(0, S _)]) (zs := [_, _]) (cells := [_, _]) rfl ty_60 (by exact rfl) pl_60 (by exact rfl) (by exact rfl)) ?_
 refine r_bslice (pv := [(0, .agg _)]) (zs := [_, _]) (cs := [_, _]) Tryz.underlying39 ty_60 (by exact rfl) rfl (by exact rfl) rfl (by exact rfl) ?_
 intro b1 w2 heb1 hEw2 hbb1 hzb1
 have hs_w2 := (hEw2).size
 replace hV := evo_step0 hV hEw2
 have hAb1 := hbb1.at
 have hrb1 : RowE w2 (some ⟨b1, 0, none⟩) b1 0 1 ([⟨[100, 97, 116, 97], []⟩] : List Ende) := rowLit ([⟨[100, 97, 116, 97], []⟩] : List Ende) hbb1 rfl rfl
 refine r_op rfl rfl rfl (run_bld (pv := [(0, .slice (some ⟨b1, 0, none⟩) _ _)]) (zs := [_, _, _]) (cells := [_, _, _]) rfl ty_42 (by exact rfl) pl_42 (by exact rfl) (by exact rfl)) ?_
 refine r_op rfl rfl rfl (run_bld (pv := [(0, S _)]) (zs := [_, _]) (cells := [_, _]) rfl ty_60 (by exact rfl) pl_60 (by exact rfl) (by exact rfl)) ?_
 refine r_op rfl rfl rfl (run_bld (pv := [(0, S _)]) (zs := [_, _]) (cells := [_, _]) rfl ty_60 (by exact rfl) pl_60 (by exact rfl) (by exact rfl)) ?_
 refine r_bslice (pv := [(0, .agg _), (1, .agg _)]) (zs := [_, _]) (cs := [_, _, _, _]) Tryz.underlying39 ty_60 (by exact rfl) rfl (by exact rfl) rfl (by exact rfl) ?_
 intro b3 w4 heb3 hEw4 hbb3 hzb3
 have hs_w4 := (hEw4).size
 replace hV := evo_step0 hV hEw4
 replace hrb1 := hrb1.evo0 hEw4
 have hAb3 := hbb3.at
 have hrb3 : RowE w4 (some ⟨b3, 0, none⟩) b3 0 2 ([⟨[100, 97, 116, 97], []⟩, ⟨[98, 97, 110, 107], []⟩] : List Ende) := rowLit ([⟨[100, 97, 116, 97], []⟩, ⟨[98, 97, 110, 107], []⟩] : List Ende) hbb3 rfl rfl
 refine r_bslice (pv := [(0, S _)]) (zs := [_]) (cs := [_]) Tryz.underlying40 ty_9 (by exact rfl) rfl (by exact rfl) rfl (by exact rfl) ?_
 intro b5 w6 heb5 hEw6 hbb5 hzb5
 have hs_w6 := (hEw6).size
 replace hV := evo_step0 hV hEw6
 replace hrb1 := hrb1.evo0 hEw6
 replace hrb3 := hrb3.evo0 hEw6
 have hAb5 := hbb5.at
 have hrb5 : RowE w6 (some ⟨b5, 0, none⟩) b5 0 1 ([[68, 97, 116, 101, 110, 98, 97, 110, 107]] : List Str) := rowLit ([[68, 97, 116, 101, 110, 98, 97, 110, 107]] : List Str) hbb5 rfl rfl
 refine r_op rfl rfl rfl (run_bld (pv := [(0, .slice (some ⟨b3, 0, none⟩) _ _), (1, .slice (some ⟨b5, 0, none⟩) _ _)]) (zs := [_, _, _]) (cells := [_, _, _]) rfl ty_42 (by exact rfl) pl_42 (by exact rfl) (by exact rfl)) ?_
 refine r_bslice (pv := [(0, .agg _), (1, .agg _)]) (zs := [_, _, _]) (cs := [_, _, _, _, _, _]) Tryz.underlying22 ty_42 (by exact rfl) rfl (by exact rfl) rfl (by exact rfl) ?_
 intro b7 w8 heb7 hEw8 hbb7 hzb7
 have hs_w8 := (hEw8).size
 replace hV := evo_step0 hV hEw8
 replace hrb1 := hrb1.evo0 hEw8
 replace hrb3 := hrb3.evo0 hEw8
 replace hrb5 := hrb5.evo0 hEw8
 have hAb7 := hbb7.at
 have hrb7 : RowR w8 (some ⟨b7, 0, none⟩) b7 0 2 knownT := rowLitR [[_, _, _], [_, _, _]] knownT hbb7 rfl ((RepL.one (term_lit ⟨([⟨[100, 97, 116, 97], []⟩] : List Ende), [], []⟩ hrb1 (RowE.nil _ _ 0 0 _) (RowE.nil _ _ 0 0 _) known_bd1)).append (RepL.one (term_lit ⟨([⟨[100, 97, 116, 97], []⟩, ⟨[98, 97, 110, 107], []⟩] : List Ende), ([[68, 97, 116, 101, 110, 98, 97, 110, 107]] : List Str), []⟩ hrb3 hrb5 (RowE.nil _ _ 0 0 _) known_bd2))) rfl
 refine r_op rfl rfl rfl (run_asg (v := .slice (some ⟨b7, 0, none⟩) _ _) rfl (by exact rfl)) ?_
 refine r_nil ?_
 refine r_seq ?_
 refine r_region ?_
 refine r_op rfl rfl rfl (run_bld (pv := [(0, .int _ _), (1, S _)]) (zs := [_, _, _]) (cells := [_, _, _]) rfl ty_52 (by exact rfl) pl_52 (by exact rfl) (by exact rfl)) ?_
 refine r_op rfl rfl rfl (run_bld (pv := [(0, .int _ _), (1, S _), (2, .int _ _)]) (zs := [_, _, _]) (cells := [_, _, _]) rfl ty_52 (by exact rfl) pl_52 (by exact rfl) (by exact rfl)) ?_
 refine r_op rfl rfl rfl (run_bld (pv := [(0, .int _ _), (1, S _)]) (zs := [_, _, _]) (cells := [_, _, _]) rfl ty_52 (by exact rfl) pl_52 (by exact rfl) (by exact rfl)) ?_
 refine r_bslice (pv := [(0, .agg _), (1, .agg _), (2, .agg _)]) (zs := [_, _, _]) (cs := [_, _, _, _, _, _, _, _, _]) Tryz.underlying53 ty_52 (by exact rfl) rfl (by exact rfl) rfl (by exact rfl) ?_
 intro b9 w10 heb9 hEw10 hbb9 hzb9
 have hs_w10 := (hEw10).size
 replace hV := evo_step0 hV hEw10
 replace hrb1 := hrb1.evo0 hEw10
 replace hrb3 := hrb3.evo0 hEw10
 replace hrb5 := hrb5.evo0 hEw10
 replace hrb7 := hrb7.evo0 hEw10
 have hAb9 := hbb9.at
 have hrb9 : RowE w10 (some ⟨b9, 0, none⟩) b9 0 3 knownF := rowLit knownF hbb9 rfl rfl
 refine r_opcall rfl rfl rfl (run_callf (vs := [.slice (some ⟨b9, 0, none⟩) _ _]) rfl (by exact rfl) Tryz.func23 rfl (by kernel_rfl)) (rtokens_calls hrb9 (by decide +kernel)) ?_
 rintro e w11 ⟨vk11, rfl, hE11, hok11⟩
 refine ⟨_, rfl, ?_⟩
 have hs_w11 := (hE11).size
 replace hV := evo_step0 hV hE11
 replace hrb1 := hrb1.evo0 hE11
 replace hrb3 := hrb3.evo0 hE11
 replace hrb5 := hrb5.evo0 hE11
 replace hrb7 := hrb7.evo0 hE11
 replace hrb9 := hrb9.evo0 hE11
 refine r_op rfl rfl rfl (run_asg (v := vk11) rfl (by exact rfl)) ?_
 refine r_nil ?_
 refine r_seq ?_
 refine r_region ?_
 refine r_op rfl rfl rfl (run_mv (v := .slice (some ⟨b7, 0, none⟩) _ _) rfl (by exact rfl)) ?_
 refine r_op rfl rfl rfl (run_mv (v := vk11) rfl (by exact rfl)) ?_
 obtain ⟨ao12, g12, cp12, hv12, hr12, hg12⟩ := hok11.rowOf
 subst hv12
 refine r_opcall rfl rfl rfl (run_callf (vs := [.slice (some ⟨b7, 0, none⟩) _ _, .slice _ _ _, .slice _ _ _, .slice _ _ _]) rfl (by exact rfl) Tryz.func24 rfl (by kernel_rfl)) (missing_calls hrb7 (RowR.nil _ _ 0 0 _) hr12 known_toks known_toksl (by decide) (RowE.nil _ _ 0 0 _) (fun x hx => absurd hx List.not_mem_nil) (Nat.zero_le _)) ?_
 rintro e w13 ⟨vM13, rfl, hE13, hoM13⟩
 refine ⟨_, rfl, ?_⟩
 have hs_w13 := (hE13).size
 replace hV := evo_step0 hV hE13
 replace hrb1 := hrb1.evo0 hE13
 replace hrb3 := hrb3.evo0 hE13
 replace hrb5 := hrb5.evo0 hE13
 replace hrb7 := hrb7.evo0 hE13
 replace hrb9 := hrb9.evo0 hE13
 replace hok11 := hok11.evo0 hE13
 replace hr12 := hr12.evo0 hE13
 rw [known_miss] at hoM13
 refine r_op rfl rfl rfl (run_asg (v := vM13) rfl (by exact rfl)) ?_
 refine r_nil ?_
 refine r_seq ?_
 obtain ⟨ao14, g14, cp14, hv14, hr14, hg14⟩ := hoM13.rowOf
 subst hv14
 refine r_region ?_
 refine r_op rfl rfl rfl (run_mv (v := .slice (some ⟨b7, 0, none⟩) _ _) rfl (by exact rfl)) ?_
 refine r_op rfl rfl rfl (run_mv (v := .slice _ _ _) rfl (by exact rfl)) ?_
 refine r_opcall rfl rfl rfl (run_callf (vs := [.slice (some ⟨b7, 0, none⟩) _ _, .slice _ _ _, .slice _ _ _]) rfl (by exact rfl) Tryz.func16 rfl (by kernel_rfl)) (spots_calls hrb7 (RowR.nil _ _ 0 0 _) hr12 known_toks known_toksl (by decide)) ?_
 rintro e w15 ⟨vS15, rfl, hE15, hoS15⟩
 refine ⟨_, rfl, ?_⟩
 have hs_w15 := (hE15).size
 replace hV := evo_step0 hV hE15
 replace hrb1 := hrb1.evo0 hE15
 replace hrb3 := hrb3.evo0 hE15
 replace hrb5 := hrb5.evo0 hE15
 replace hrb7 := hrb7.evo0 hE15
 replace hrb9 := hrb9.evo0 hE15
 replace hok11 := hok11.evo0 hE15
 replace hr12 := hr12.evo0 hE15
 replace hoM13 := hoM13.evo0 hE15
 replace hr14 := hr14.evo0 hE15
 refine r_op rfl rfl rfl (run_bld (pv := [(0, .int _ _), (1, .int _ _), (2, .int _ _)]) (zs := [_, _, _]) (cells := [_, _, _]) rfl ty_36 (by exact rfl) pl_36 (by exact rfl) (by exact rfl)) ?_
 refine r_op rfl rfl rfl (run_bld (pv := [(0, .int _ _), (1, .int _ _), (2, .int _ _)]) (zs := [_, _, _]) (cells := [_, _, _]) rfl ty_36 (by exact rfl) pl_36 (by exact rfl) (by exact rfl)) ?_
 refine r_bslice (pv := [(0, .agg _), (1, .agg _)]) (zs := [_, _, _]) (cs := [_, _, _, _, _, _]) Tryz.underlying32 ty_36 (by exact rfl) rfl (by exact rfl) rfl (by exact rfl) ?_
 intro b16 w17 heb16 hEw17 hbb16 hzb16
 have hs_w17 := (hEw17).size
 replace hV := evo_step0 hV hEw17
 replace hrb1 := hrb1.evo0 hEw17
 replace hrb3 := hrb3.evo0 hEw17
 replace hrb5 := hrb5.evo0 hEw17
 replace hrb7 := hrb7.evo0 hEw17
 replace hrb9 := hrb9.evo0 hEw17
 replace hok11 := hok11.evo0 hEw17
 replace hr12 := hr12.evo0 hEw17
 replace hoM13 := hoM13.evo0 hEw17
 replace hr14 := hr14.evo0 hEw17
 replace hoS15 := hoS15.evo0 hEw17
 have hAb16 := hbb16.at
 have hrb16 : RowE w17 (some ⟨b16, 0, none⟩) b16 0 2 ([⟨1, 0, 4⟩, ⟨0, 6, 7⟩] : List Spt) := rowLit ([⟨1, 0, 4⟩, ⟨0, 6, 7⟩] : List Spt) hbb16 rfl rfl
 obtain ⟨ao18, g18, cp18, hv18, hr18, hg18⟩ := hoS15.rowOf
 subst hv18
 refine r_opcall rfl rfl rfl (run_callf (vs := [.slice _ _ _, .slice (some ⟨b16, 0, none⟩) _ _]) rfl (by exact rfl) Tryz.func15 rfl (by kernel_rfl)) (samespots_calls hr18 hrb16) ?_
 rintro e w19 ⟨rfl, hE19⟩
 refine ⟨_, rfl, ?_⟩
 have hs_w19 := (hE19).size
 replace hV := evo_step0 hV hE19
 replace hrb1 := hrb1.evo0 hE19
 replace hrb3 := hrb3.evo0 hE19
 replace hrb5 := hrb5.evo0 hE19
 replace hrb7 := hrb7.evo0 hE19
 replace hrb9 := hrb9.evo0 hE19
 replace hok11 := hok11.evo0 hE19
 replace hr12 := hr12.evo0 hE19
 replace hoM13 := hoM13.evo0 hE19
 replace hr14 := hr14.evo0 hE19
 replace hoS15 := hoS15.evo0 hE19
 replace hrb16 := hrb16.evo0 hE19
 replace hr18 := hr18.evo0 hE19
 refine r_knowL (i := 27) (v := .bool true) (congrArg Value.bool (decide_eq_true known_spots)) ?_
 refine r_op rfl rfl rfl (run_mvb rfl (by exact rfl)) ?_
 refine r_gyes rfl (wantT (by exact rfl)) (by exact rfl) ?_
 refine r_op rfl rfl rfl (run_mv (v := .slice _ _ _) rfl (by exact rfl)) ?_
 refine r_gyes rfl (wantT (by exact rfl)) (by exact rfl) ?_
 refine r_op rfl rfl rfl (run_lenSl rfl (by exact rfl) Tryz.underlying25) ?_
 refine r_gyes rfl (wantT (by exact rfl)) (by exact rfl) ?_
 refine r_op rfl rfl rfl (run_eql rfl (by exact rfl) (by exact rfl)) ?_
 refine r_op rfl rfl rfl (run_pick_and rfl (by exact rfl) (fun _ => (by exact rfl)) rfl) ?_
 refine r_op rfl rfl rfl (run_mv (v := .bool _) rfl (by exact rfl)) ?_
 refine r_gyes rfl (wantT (by exact rfl)) (by exact ⟨rfl, rfl⟩) ?_
 refine r_op rfl rfl rfl (run_mv (v := .slice _ _ _) rfl (by exact rfl)) ?_
 refine r_gyes rfl (wantT (by exact rfl)) (by exact ⟨rfl, rfl⟩) ?_
 refine r_op rfl rfl rfl (run_ix (0) rfl Tryz.underlying25 ty_3 (by exact rfl) (by exact rfl) rfl (by decide) (hr14.addr (i := 0) (by decide))) ?_
 have hA20 := hr14.atD (0) (by decide)
 refine r_gyes rfl (wantT (by exact rfl)) (by exact ⟨rfl, rfl⟩) ?_
 refine r_op rfl rfl rfl (run_ld1 rfl ag_3 (by exact rfl) (hA20.cell 0 (by exact rfl))) ?_
 refine r_gyes rfl (wantT (by exact rfl)) (by exact ⟨rfl, rfl⟩) ?_
 refine r_op rfl rfl rfl (run_eql rfl (by exact rfl) (by exact rfl)) ?_
 refine r_op rfl rfl rfl (run_pick_and rfl (by exact rfl) (fun _ => (by exact rfl)) rfl) ?_
 refine r_op rfl rfl rfl (run_mv (v := .bool _) rfl (by exact rfl)) ?_
 refine r_gyes rfl (wantT (by exact rfl)) (by exact ⟨⟨rfl, rfl⟩, rfl⟩) ?_
 refine r_op rfl rfl rfl (run_mv (v := .slice _ _ _) rfl (by exact rfl)) ?_
 refine r_gyes rfl (wantT (by exact rfl)) (by exact ⟨⟨rfl, rfl⟩, rfl⟩) ?_
 refine r_opcall rfl rfl rfl (run_callf (vs := [S _, .slice _ _ _]) rfl (by exact rfl) Tryz.func21 rfl (by kernel_rfl)) (has_calls hr12 known_toks known_toksl) ?_
 rintro e w21 ⟨rfl, hE21⟩
 refine ⟨_, rfl, ?_⟩
 have hs_w21 := (hE21).size
 replace hV := evo_step0 hV hE21
 replace hrb1 := hrb1.evo0 hE21
 replace hrb3 := hrb3.evo0 hE21
 replace hrb5 := hrb5.evo0 hE21
 replace hrb7 := hrb7.evo0 hE21
 replace hrb9 := hrb9.evo0 hE21
 replace hok11 := hok11.evo0 hE21
 replace hr12 := hr12.evo0 hE21
 replace hoM13 := hoM13.evo0 hE21
 replace hr14 := hr14.evo0 hE21
 replace hoS15 := hoS15.evo0 hE21
 replace hrb16 := hrb16.evo0 hE21
 replace hr18 := hr18.evo0 hE21
 refine r_op rfl rfl rfl (run_pick_andB rfl (by exact rfl) (fun _ => (by exact rfl)) rfl) ?_
 refine r_op rfl rfl rfl (run_mv (v := .bool _) rfl (by exact rfl)) ?_
 refine r_gyes rfl (wantT (by exact rfl)) (by exact ⟨⟨⟨rfl, rfl⟩, rfl⟩, known_has1⟩) ?_
 refine r_op rfl rfl rfl (run_mv (v := .slice _ _ _) rfl (by exact rfl)) ?_
 refine r_gyes rfl (wantT (by exact rfl)) (by exact ⟨⟨⟨rfl, rfl⟩, rfl⟩, known_has1⟩) ?_
 refine r_opcall rfl rfl rfl (run_callf (vs := [S _, .slice _ _ _]) rfl (by exact rfl) Tryz.func21 rfl (by kernel_rfl)) (has_calls hr12 known_toks known_toksl) ?_
 rintro e w22 ⟨rfl, hE22⟩
 refine ⟨_, rfl, ?_⟩
 have hs_w22 := (hE22).size
 replace hV := evo_step0 hV hE22
 replace hrb1 := hrb1.evo0 hE22
 replace hrb3 := hrb3.evo0 hE22
 replace hrb5 := hrb5.evo0 hE22
 replace hrb7 := hrb7.evo0 hE22
 replace hrb9 := hrb9.evo0 hE22
 replace hok11 := hok11.evo0 hE22
 replace hr12 := hr12.evo0 hE22
 replace hoM13 := hoM13.evo0 hE22
 replace hr14 := hr14.evo0 hE22
 replace hoS15 := hoS15.evo0 hE22
 replace hrb16 := hrb16.evo0 hE22
 replace hr18 := hr18.evo0 hE22
 refine r_gyes rfl (wantT (by exact rfl)) (by exact ⟨⟨⟨rfl, rfl⟩, rfl⟩, known_has1⟩) ?_
 refine r_op rfl rfl rfl (run_notb rfl (by exact rfl)) ?_
 refine r_op rfl rfl rfl (run_pick_andB rfl (by exact rfl) (fun _ => (by exact rfl)) rfl) ?_
 refine r_op rfl rfl rfl (run_asg (v := .bool _) rfl (by exact rfl)) ?_
 refine r_nil ?_
 refine r_ret (res1 (v := .bool _) rfl (by exact rfl)) ?_
 exact ⟨ret_bool (decide_eq_true ⟨⟨⟨⟨rfl, rfl⟩, rfl⟩, known_has1⟩, by rw [known_has2]; rfl⟩), hV⟩
end Go.Proofs.YtkklomiipkipnaaGreatDoor
namespace Go.Proofs.YtkklomiipkipnaaGreatDoor
open Go.RowKit Go.Vc
theorem bigx_calls {w0 : World} {aot : Option Addr} {btt offt capt : Nat} {ts : List TermL} {ao : Option Addr} {b off cap : Nat} {c : List Clas} {aol : Option Addr} {bl offl capl : Nat} {l : List Vc.Item} (ht : RowR w0 aot btt offt capt ts) (hc : RowR w0 ao b off cap c) (hl : RowE w0 aol bl offl capl l) :
    Calls Tryz.prog 12 #[.slice aot ts.length capt, .slice ao c.length cap, .slice aol l.length capl] w0 fun e w' => ∃ x, e = .returned (.bool x) ∧ True ∧ Evo w0 w' [] := (bigw_calls ht hc hl).mono fun e w' ⟨x, h1, h2⟩ => ⟨x, h1, trivial, h2⟩
theorem made_text {f : List Vc.Item} (h : fLen f ≤ 150) : ∀ x ∈ toks f, x.text.length ≤ 140737488355328 := fun x hx => by have := toks_text hx; omega
theorem made_tl {f : List Vc.Item} (h : fLen f ≤ 150) (h2 : f.length ≤ 10) : (toks f).length ≤ 160 := by have := toks_len f; omega
end Go.Proofs.YtkklomiipkipnaaGreatDoor
