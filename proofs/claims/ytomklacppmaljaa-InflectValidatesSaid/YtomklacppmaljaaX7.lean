import Derived.Test.YtomklacppmaljaaX6
import Derived.Test.YtomklacppmaljaaClo
namespace Go.Proofs.Ytomklacppmaljaa
open Go.RowKit Go.Vc

theorem find1_calls {m n : Str} {v : Value} {bn : Nat} {w0 : World} (hn : Blk w0 bn 9 [S n]) :
    Calls Try.prog 69 #[.agg #[S m, v], .pointer (some ⟨bn, 0, none⟩)] w0 fun e w' => e = .returned (.bool (decide (m = n))) ∧ Evo w0 w' [] := by
 have hAn := hn.at; have hnlt := hn.lt
 refine calls_enter (n := 8) (args := [.agg #[S m, v], .pointer (some ⟨bn, 0, none⟩)]) Try.func69 rfl Try.ntmps69 rfl ?_
 have hV : Evo w0 w0 [] := Evo.refl _ _
 refine r_seq ?_
 refine r_region ?_
 refine r_box (vs := [_, _]) (by exact rfl) (by exact rfl) rfl ?_
 intro b1 w2 heb1 hEw2 hbb1 hzb1
 have hs_w2 := (hEw2).size
 replace hV := evo_step0 hV hEw2
 replace hn := hn.evo0 hEw2
 replace hAn := hAn.evo0 hEw2
 have hAb1 := hbb1.at
 refine r_op rfl rfl rfl (run_asg (v := .bool _) rfl (by exact rfl)) ?_
 refine r_nil ?_
 refine r_seq ?_
 refine r_region ?_
 refine r_op rfl rfl rfl (run_fa rfl (by exact rfl) fo_43_0) ?_
 refine r_op rfl rfl rfl (run_ld1 rfl ag_9 (by exact rfl) (hAb1.cell 0 (by exact rfl))) ?_
 refine r_op rfl rfl rfl (run_ld1 rfl ag_9 (by exact rfl) (hAn.cell 0 (by exact rfl))) ?_
 refine r_op rfl rfl rfl (run_seql rfl (by exact rfl) (by exact rfl)) ?_
 refine r_op rfl rfl rfl (run_asg (v := .bool _) rfl (by exact rfl)) ?_
 refine r_nil ?_
 refine r_ret (res1 (v := .bool _) rfl (by exact rfl)) ?_
 exact ⟨rfl, hV⟩

theorem indexf_calls {ao : Option Addr} {b off cap : Nat} {c : List Clas} {n : Str} {bn : Nat} {w0 : World} (hc : RowR w0 ao b off cap c) (hn : Blk w0 bn 9 [S n]) :
    Calls Try.prog 68 #[.slice ao c.length cap, .func (.func 69) #[] #[.pointer (some ⟨bn, 0, none⟩)]] w0 fun e w' => e = .returned (.int .i64 (findC c n)) ∧ Evo w0 w' [] := by
 have hAn := hn.at; have hnlt := hn.lt
 refine calls_enter (n := 19) (args := [.slice ao c.length cap, .func (.func 69) #[] #[.pointer (some ⟨bn, 0, none⟩)]]) Try.func68 rfl Try.ntmps68 rfl ?_
 have hV : Evo w0 w0 [] := Evo.refl _ _
 have hc0 := hc.keep
 have hbd_hc := hc.bd
 refine r_seq ?_
 refine r_region ?_
 refine r_op rfl rfl rfl (run_asg (v := .int _ _) rfl (by exact rfl)) ?_
 refine r_nil ?_
 refine r_seq ?_
 refine r_seq ?_
 refine r_region ?_
 refine r_op rfl rfl rfl (run_mv (v := .slice _ _ _) rfl (by exact rfl)) ?_
 refine r_op rfl rfl rfl (run_lenSl rfl (by exact rfl) Try.underlying22) ?_
 refine r_op rfl rfl rfl (run_mv (v := .int _ _) rfl (by exact rfl)) ?_
 refine r_nil ?_
 refine r_block ?_
 refine r_loop (α := Nat) [4, 5, 8, 9, 10, 11, 12, 13, 14, 15, 16, 17, 18] (fun k g w => g 8 = .int .i64 (k : Nat) ∧ k ≤ c.length ∧ Blk w bn 9 [S n] ∧ (∀ j, j < k → ¬ (c.getD j default).name = n) ∧ w0.heap.size ≤ w.heap.size ∧ Evo w0 w []) (fun k => c.length - k) 0 ?_ ?_
 ·refine ⟨(by first | exact rfl | exact congrArg (Value.int _) (by omega) | exact congrArg (Value.int _) (by dsimp only; omega) | exact congrArg (Value.int _) (by simp) | exact congrArg S (by simp)), (by first | assumption | omega | (dsimp only; omega) | (simp; done)), hn, (fun j h => by omega), (by first | assumption | omega | (dsimp only; omega) | (simp; done)), hV⟩
 ·rintro k g w2 ⟨hj3, hk_k, hn, hno, hzl1, hV⟩
  have hs_w2hV := hV.size
  have hlt4 := hn.lt
  replace hc := hc0.now hV
  refine r_know (i := 8) (v := .int .i64 (k : Nat)) (by exact hj3) ?_
  refine r_seq ?_
  refine r_region ?_
  refine r_op rfl rfl rfl (run_lss rfl (by exact rfl) (by exact rfl)) ?_
  refine r_nil ?_
  refine r_seq ?_
  refine r_cond (by exact rfl) (fun hc5 => ?_) (fun hc5 => ?_)
  ·skip
   refine r_skip ?_
   refine r_seq ?_
   refine r_block ?_
   refine r_seq ?_
   refine r_region ?_
   refine r_op rfl rfl rfl (run_mv (v := .int _ _) rfl (by exact rfl)) ?_
   refine r_op rfl rfl rfl (run_asg (v := .int _ _) rfl (by exact rfl)) ?_
   refine r_nil ?_
   refine r_seq ?_
   refine r_region ?_
   refine r_op rfl rfl rfl (run_mv (v := .func _ _ _) rfl (by exact rfl)) ?_
   refine r_op rfl rfl rfl (run_mv (v := .slice _ _ _) rfl (by exact rfl)) ?_
   refine r_op rfl rfl rfl (run_mv (v := .int _ _) rfl (by exact rfl)) ?_
   refine r_op rfl rfl rfl (run_ix (k) rfl Try.underlying22 ty_43 (by exact rfl) (by exact rfl) (by first | exact rfl | omega) (by omega) (hc.addr (i := k) (by omega))) ?_
   obtain ⟨ao6, b6, off6, cap6, hX⟩ := clas_atK hc0 (k) (by omega)
   have hA60 := fun (w' : World) (h : Evo w0 w' []) => (hX w' h).1
   have hA6 := hA60 _ hV
   have hR60 := fun (w' : World) (h : Evo w0 w' []) => (hX w' h).2
   have hR6 := hR60 _ hV
   clear hX
   have hbd_hR6 := hR6.bd
   refine r_op rfl rfl rfl (run_ldN rfl ag_43 ty_43 (by exact rfl) rfl hA6) ?_
   refine r_opcall rfl rfl rfl (run_callfn (vs := [.agg _]) (cs := [.pointer (some ⟨bn, 0, none⟩)]) rfl (by exact rfl) (by exact rfl) Try.func69 rfl (by kernel_rfl)) (find1_calls hn) ?_
   rintro e w7 ⟨rfl, hE7⟩
   refine ⟨_, rfl, ?_⟩
   have hs_w7 := (hE7).size
   replace hV := evo_step0 hV hE7
   replace hc := hc0.now hV
   replace hn := hn.evo0 hE7
   refine r_nil ?_
   refine r_condb (by exact rfl) (fun hc8 => ?_) (fun hc8 => ?_)
   ·skip
    refine r_seq ?_
    refine r_region ?_
    refine r_op rfl rfl rfl (run_mv (v := .int _ _) rfl (by exact rfl)) ?_
    refine r_op rfl rfl rfl (run_asg (v := .int _ _) rfl (by exact rfl)) ?_
    refine r_nil ?_
    refine r_ret (res1 (v := .int _ _) rfl (by exact rfl)) ?_
    exact ⟨ret_int (by rw [findC_at (k := k) (by omega) hno (of_decide_eq_true hc8)]), hV⟩
   ·skip
    refine r_skip ?_
    refine r_blk ?_
    refine r_region ?_
    refine r_op rfl rfl rfl (run_add rfl (by exact rfl) (by exact rfl) (by omega) (by omega)) ?_
    refine r_op rfl rfl rfl (run_mv (v := .int _ _) rfl (by exact rfl)) ?_
    refine r_nil ?_
    refine r_again (k + 1) ?_ ?_ ?_
    ·first | omega | (dsimp only; omega)
    ·refine ⟨(by first | exact rfl | exact congrArg (Value.int _) (by omega) | exact congrArg (Value.int _) (by dsimp only; omega) | exact congrArg (Value.int _) (by simp) | exact congrArg S (by simp)), (by first | assumption | omega | (dsimp only; omega) | (simp; done)), hn, (upto0 hno (of_decide_eq_false hc8)), (by first | assumption | omega | (dsimp only; omega) | (simp; done)), hV⟩
    ·repeat (first | (with_reducible exact Agree.merge _ _ _) | (with_reducible exact Agree.refl _ _) | (with_reducible refine Agree.upd ?_ _ _ rfl) | ((with_reducible refine Agree.inner ?_ ?_); (kernel_rfl)))
  ·skip
   refine r_exit rfl ?_
   refine r_seq ?_
   refine r_region ?_
   refine r_op rfl rfl rfl (run_asg (v := .int _ _) rfl (by exact rfl)) ?_
   refine r_nil ?_
   refine r_ret (res1 (v := .int _ _) rfl (by exact rfl)) ?_
   exact ⟨ret_int (by rw [findC_none (fun j hj => hno j (by omega))]), hV⟩

theorem find_calls {ao : Option Addr} {b off cap : Nat} {c : List Clas} {n : Str} {w0 : World} (hc : RowR w0 ao b off cap c) :
    Calls Try.prog 26 #[.slice ao c.length cap, S n] w0 fun e w' => e = .returned (.int .i64 (findC c n)) ∧ Evo w0 w' [] := by
 refine calls_enter (n := 8) (args := [.slice ao c.length cap, S n]) Try.func26 rfl Try.ntmps26 rfl ?_
 have hV : Evo w0 w0 [] := Evo.refl _ _
 have hc0 := hc.keep
 have hbd_hc := hc.bd
 refine r_seq ?_
 refine r_region ?_
 refine r_box (vs := [_]) (by exact rfl) (by exact rfl) rfl ?_
 intro b1 w2 heb1 hEw2 hbb1 hzb1
 have hs_w2 := (hEw2).size
 replace hV := evo_step0 hV hEw2
 replace hc := hc0.now hV
 have hAb1 := hbb1.at
 refine r_op rfl rfl rfl (run_asg (v := .int _ _) rfl (by exact rfl)) ?_
 refine r_nil ?_
 refine r_seq ?_
 refine r_region ?_
 refine r_op rfl rfl rfl (run_mv (v := .slice _ _ _) rfl (by exact rfl)) ?_
 refine r_op rfl rfl rfl (run_mkF (vs := [.pointer _]) rfl (by exact rfl)) ?_
 refine r_opcall rfl rfl rfl (run_callf (vs := [.slice _ _ _, .func _ _ _]) rfl (by exact rfl) Try.func68 rfl (by kernel_rfl)) (indexf_calls hc hbb1) ?_
 rintro e w3 ⟨rfl, hE3⟩
 refine ⟨_, rfl, ?_⟩
 have hs_w3 := (hE3).size
 replace hV := evo_step0 hV hE3
 replace hc := hc0.now hV
 refine r_op rfl rfl rfl (run_asg (v := .int _ _) rfl (by exact rfl)) ?_
 refine r_nil ?_
 refine r_ret (res1 (v := .int _ _) rfl (by exact rfl)) ?_
 exact ⟨rfl, hV⟩

theorem ends_calls {wb : World} {ao : Option Addr} {b off cap : Nat} {c : List Clas} {n : Str} {w0 : World} (hc : RowRK wb [] ao b off cap c) (hW : Evo wb w0 []) :
    Calls Try.prog 71 #[.slice ao c.length cap, S n] w0 fun e w' => ∃ ao' b' off' cap', e = .returned (.slice ao' (if n = [] then ([] : List Ende) else endsL c n).length cap') ∧ Evo w0 w' [] ∧ ∀ w2, Evo wb w2 [] → RowE w2 ao' b' off' cap' (if n = [] then [] else endsL c n) := by
 refine calls_enter (n := 20) (args := [.slice ao c.length cap, S n]) Try.func71 rfl Try.ntmps71 rfl ?_
 have hV : Evo w0 w0 [] := Evo.refl _ _
 have hc0 := hc
 replace hc := hc0.now hW
 have hbd_hc := hc.bd
 refine r_seq ?_
 refine r_region ?_
 refine r_op rfl rfl rfl (run_asg (v := .slice _ _ _) rfl (by exact rfl)) ?_
 refine r_nil ?_
 refine r_seq ?_
 refine r_seq ?_
 refine r_region ?_
 refine r_op rfl rfl rfl (run_mv (v := .slice _ _ _) rfl (by exact rfl)) ?_
 refine r_op rfl rfl rfl (run_mv (v := S _) rfl (by exact rfl)) ?_
 refine r_opcall rfl rfl rfl (run_callf (vs := [.slice _ _ _, S _]) rfl (by exact rfl) Try.func26 rfl (by kernel_rfl)) (find_calls hc) ?_
 rintro e w1 ⟨rfl, hE1⟩
 refine ⟨_, rfl, ?_⟩
 have hs_w1 := (hE1).size
 replace hV := evo_step0 hV hE1
 replace hW := evo_step0 hW hE1
 replace hc := hc0.now hW
 refine r_op rfl rfl rfl (run_asg (v := .int _ _) rfl (by exact rfl)) ?_
 refine r_nil ?_
 refine r_seq ?_
 refine r_region ?_
 refine r_op rfl rfl rfl (run_mv (v := .int _ _) rfl (by exact rfl)) ?_
 refine r_op rfl rfl rfl (run_geq rfl (by exact rfl) (by exact rfl)) ?_
 refine r_op rfl rfl rfl (run_mv (v := .bool _) rfl (by exact rfl)) ?_
 refine r_g rfl (wantT (by exact rfl)) rfl (fun hg => run_mv (v := S _) rfl (by exact rfl)) ?_
 refine r_g rfl (wantT (by exact rfl)) rfl (fun hg => run_sneq rfl (glv (by exact rfl) (fun h => h) hg) (by exact rfl)) ?_
 refine r_op rfl rfl rfl (run_pick_and rfl (by exact rfl) (fun hq => glv (by exact rfl) (fun h => h) hq) rfl) ?_
 refine r_nil ?_
 refine r_cond (by exact rfl) (fun hc2 => ?_) (fun hc2 => ?_)
 ·skip
  refine r_seq ?_
  refine r_region ?_
  refine r_op rfl rfl rfl (run_mv (v := .slice _ _ _) rfl (by exact rfl)) ?_
  refine r_op rfl rfl rfl (run_mv (v := .int _ _) rfl (by exact rfl)) ?_
  refine r_op rfl rfl rfl (run_ix ((findC c n).toNat) rfl Try.underlying22 ty_43 (by exact rfl) (by exact rfl) (by have := findC_lt c n; omega) (by have := findC_lt c n; omega) (hc.addr (i := (findC c n).toNat) (by have := findC_lt c n; omega))) ?_
  obtain ⟨ao3, b3, off3, cap3, hX⟩ := clas_atK hc0 ((findC c n).toNat) (by have := findC_lt c n; omega)
  have hA30 := fun (w' : World) (h : Evo wb w' []) => (hX w' h).1
  have hA3 := hA30 _ hW
  have hR30 := fun (w' : World) (h : Evo wb w' []) => (hX w' h).2
  have hR3 := hR30 _ hW
  clear hX
  have hbd_hR3 := hR3.bd
  refine r_op rfl rfl rfl (run_fa rfl (by exact rfl) fo_43_1) ?_
  refine r_op rfl rfl rfl (run_ld1 rfl ag_41 (by exact rfl) (hA3.cell 1 (by exact rfl))) ?_
  refine r_op rfl rfl rfl (run_asg (v := .slice _ _ _) rfl (by exact rfl)) ?_
  refine r_nil ?_
  refine r_ret (res1 (v := .slice _ _ _) rfl (by exact rfl)) ?_
  exact ⟨_, _, _, _, by rw [if_neg hc2.2, ends_at (by omega)], hV, by rw [if_neg hc2.2, ends_at (by omega)]; exact hR30⟩
 ·skip
  refine r_skip ?_
  refine r_seq ?_
  refine r_region ?_
  refine r_op rfl rfl rfl (run_asg (v := .slice _ _ _) rfl (by exact rfl)) ?_
  refine r_nil ?_
  refine r_ret (res1 (v := .slice _ _ _) rfl (by exact rfl)) ?_
  exact ⟨none, 0, 0, 0, by rw [ends_if hc2]; rfl, hV, by rw [ends_if hc2]; exact fun w2 _ => RowE.nil _ _ _ _ _⟩

end Go.Proofs.Ytomklacppmaljaa
