/-
  Walks of functions that the statement reaches (joined by a program out of smaller texts).
-/
import Derived.Test.YtomklacppmaljaaMc
import Derived.Test.YtomklacppmaljaaFbr
import Derived.Test.YtomklacppmaljaaOws
namespace Go.Proofs.Ytomklacppmaljaa
open Go.RowKit Go.Vc

set_option maxHeartbeats 1000000 in
theorem rsides_calls {ao : Option Addr} {b off cap : Nat} {ll : List (List Vc.Item)} {w0 : World} (hl : RowR w0 ao b off cap ll) (hsm : ∀ f ∈ ll, Mid f) :
    Calls Try.prog 64 #[.slice ao ll.length cap] w0 fun e w' => ∃ v, e = .returned (.tuple #[v, .int .i64 (sidesE ll)]) ∧ Evo w0 w' [] ∧ OwnR w' w0.heap.size 149 [] v (sidesL ll) := by
 refine calls_enter (n := 83) (args := [.slice ao ll.length cap]) Try.func64 rfl Try.ntmps64 rfl ?_
 have hV : Evo w0 w0 [] := Evo.refl _ _
 have hl0 := hl.keep
 have hbd_hl := hl.bd
 refine r_seq ?_
 refine r_region ?_
 refine r_op rfl rfl rfl (run_asg (v := .slice _ _ _) rfl (by exact rfl)) ?_
 refine r_op rfl rfl rfl (run_asg (v := .int _ _) rfl (by exact rfl)) ?_
 refine r_nil ?_
 refine r_seq ?_
 refine r_seq ?_
 refine r_region ?_
 refine r_op rfl rfl rfl (run_mv (v := .slice _ _ _) rfl (by exact rfl)) ?_
 refine r_op rfl rfl rfl (run_lenSl rfl (by exact rfl) Try.underlying90) ?_
 refine r_op rfl rfl rfl (run_gtr rfl (by exact rfl) (by exact rfl)) ?_
 refine r_nil ?_
 refine r_cond (by exact rfl) (fun hc1 => ?_) (fun hc1 => ?_)
 ·skip
  refine r_seq ?_
  refine r_region ?_
  refine r_op rfl rfl rfl (run_asg (v := .slice _ _ _) rfl (by exact rfl)) ?_
  refine r_op rfl rfl rfl (run_asg (v := .int _ _) rfl (by exact rfl)) ?_
  refine r_nil ?_
  refine r_ret (res2 (v := .slice _ _ _) (u := .int _ _) rfl (by exact rfl) (by exact rfl)) ?_
  exact ⟨_, ret_vi (sides_many (by omega)).symm, hV, by rw [sidesL_no (by rw [sides_many (by omega)]; decide)]; exact OwnR.nil _ _ _ _⟩
 ·skip
  refine r_skip ?_
  refine r_seq ?_
  refine r_region ?_
  refine r_op rfl rfl rfl (run_asg (v := .slice _ _ _) rfl (by exact rfl)) ?_
  refine r_nil ?_
  refine r_seq ?_
  refine r_seq ?_
  refine r_region ?_
  refine r_op rfl rfl rfl (run_mv (v := .slice _ _ _) rfl (by exact rfl)) ?_
  refine r_op rfl rfl rfl (run_lenSl rfl (by exact rfl) Try.underlying90) ?_
  refine r_op rfl rfl rfl (run_mv (v := .int _ _) rfl (by exact rfl)) ?_
  refine r_nil ?_
  refine r_block ?_
  refine r_loop (α := Nat) [2, 3, 4, 6, 7, 8, 10, 12, 18, 19, 20, 21, 22, 23, 24, 25, 26, 27, 28, 29, 30, 31, 32, 33, 34, 35, 36, 37, 38, 39, 40, 41, 42, 43, 44, 45, 46, 47, 48, 49, 50, 51, 52, 53, 54, 55, 56, 57, 58, 59, 60, 61, 62, 63, 64, 65, 66, 67, 68, 69, 70, 71, 72, 73, 74, 75, 76, 77, 78, 79, 80, 81] (fun i g w => ∃ vo : Value, g 18 = .int .i64 (i : Nat) ∧ g 4 = vo ∧ i ≤ ll.length ∧ OwnR w w0.heap.size 149 [] vo ((ll.take i).map sideOf) ∧ (∀ j, j < i → validateL (ll.getD j default) = 0) ∧ w0.heap.size ≤ w.heap.size ∧ Evo w0 w []) (fun i => ll.length - i) 0 ?_ ?_
  ·refine ⟨_, (by first | exact rfl | exact congrArg (Value.int _) (by omega) | exact congrArg (Value.int _) (by dsimp only; omega) | exact congrArg (Value.int _) (by simp) | exact congrArg S (by simp)), rfl, (by first | assumption | omega | (dsimp only; omega) | (simp; done)), (OwnR.nil _ _ _ _), (fun j h => by omega), (by first | assumption | omega | (dsimp only; omega) | (simp; done)), hV⟩
  ·rintro i g w3 ⟨vo, hj4, hj5, hk_i, hoR, hno, hzl2, hV⟩
   have hs_w3hV := hV.size
   replace hl := hl0.now hV
   refine r_know (i := 18) (v := .int .i64 (i : Nat)) (by exact hj4) ?_
   refine r_know (i := 4) (v := vo) (by exact hj5) ?_
   refine r_seq ?_
   refine r_region ?_
   refine r_op rfl rfl rfl (run_lss rfl (by exact rfl) (by exact rfl)) ?_
   refine r_nil ?_
   refine r_seq ?_
   refine r_cond (by exact rfl) (fun hc6 => ?_) (fun hc6 => ?_)
   ·skip
    refine r_skip ?_
    refine r_seq ?_
    refine r_block ?_
    refine r_seq ?_
    have hI : Evo w3 w3 [] := Evo.refl _ _
    have hoR0 := hoR
    have hobR := fun g hg => (hoR.block (g := g) hg).2
    have hmi := hsm _ (getD_in (show i < ll.length by omega))
    refine r_region ?_
    refine r_op rfl rfl rfl (run_ix (i) rfl Try.underlying90 ty_85 (by exact rfl) (by exact rfl) (by first | exact rfl | omega) (by omega) (hl.addr (i := i) (by omega))) ?_
    obtain ⟨ao7, b7, off7, cap7, hX⟩ := sl_atK hl0 (i) (by omega)
    have hA70 := fun (w' : World) (h : Evo w0 w' []) => (hX w' h).1
    have hA7 := hA70 _ hV
    have hR70 := fun (w' : World) (h : Evo w0 w' []) => (hX w' h).2
    have hR7 := hR70 _ hV
    clear hX
    have hbd_hR7 := hR7.bd
    refine r_op rfl rfl rfl (run_ld1 rfl ag_85 (by exact rfl) (hA7.cell 0 (by exact rfl))) ?_
    refine r_op rfl rfl rfl (run_asg (v := .slice _ _ _) rfl (by exact rfl)) ?_
    refine r_nil ?_
    refine r_seq ?_
    refine r_seq ?_
    refine r_region ?_
    refine r_op rfl rfl rfl (run_mv (v := .slice _ _ _) rfl (by exact rfl)) ?_
    refine r_opcall rfl rfl rfl (run_callf (vs := [.slice _ _ _]) rfl (by exact rfl) Try.func110 rfl (by kernel_rfl)) (mrvalidate_calls hR7 hmi) ?_
    rintro e w8 ⟨rfl, hE8⟩
    refine ⟨_, rfl, ?_⟩
    have hs_w8 := (hE8).size
    replace hV := evo_step0 hV hE8
    replace hI := evo_step0 hI hE8
    replace hl := hl0.now hV
    replace hR7 := hR70 _ hV
    refine r_op rfl rfl rfl (run_asg (v := .int _ _) rfl (by exact rfl)) ?_
    refine r_nil ?_
    refine r_seq ?_
    refine r_region ?_
    refine r_op rfl rfl rfl (run_mv (v := .int _ _) rfl (by exact rfl)) ?_
    refine r_op rfl rfl rfl (run_neq rfl (by exact rfl) (by exact rfl)) ?_
    refine r_nil ?_
    refine r_cond (by exact rfl) (fun hc9 => ?_) (fun hc9 => ?_)
    ·skip
     refine r_seq ?_
     refine r_region ?_
     refine r_op rfl rfl rfl (run_mv (v := .int _ _) rfl (by exact rfl)) ?_
     refine r_op rfl rfl rfl (run_asg (v := .slice _ _ _) rfl (by exact rfl)) ?_
     refine r_op rfl rfl rfl (run_asg (v := .int _ _) rfl (by exact rfl)) ?_
     refine r_nil ?_
     refine r_ret (res2 (v := .slice _ _ _) (u := .int _ _) rfl (by exact rfl) (by exact rfl)) ?_
     exact ⟨_, ret_vi (sides_bad (by omega) hno hc9 (by omega)).symm, hV, by rw [sidesL_no (by rw [sides_bad (by omega) hno hc9 (by omega)]; exact hc9)]; exact OwnR.nil _ _ _ _⟩
    ·skip
     refine r_skip ?_
     refine r_seq ?_
     have hsi := valid_small (Classical.not_not.1 hc9); have hs1 := hsi.1; have hs2 := hsi.2; have hzi : fLen (ll.getD i default) + (ll.getD i default).length ≤ 1000000000 := by (have : fLen (ll.getD i default) = sizeL (ll.getD i default) := rfl); omega
     have htl := toks_len (ll.getD i default); have hfz : fLen (ll.getD i default) = sizeL (ll.getD i default) := rfl
     refine r_region ?_
     refine r_op rfl rfl rfl (run_bld (pv := []) (zs := [_, _]) (cells := [_, _]) rfl ty_149 (by exact rfl) pl_149 (by exact rfl) (by exact rfl)) ?_
     refine r_var (zs := [_, _]) (vs := [_, _]) ty_149 (by exact rfl) rfl (by exact rfl) (fun _ => rfl) (by exact rfl) rfl rfl (by exact rfl) ?_
     intro b10 w11 heb10 hEw11 hbb10 hzb10
     have hs_w11 := (hEw11).size
     replace hV := evo_step0 hV hEw11
     replace hI := evo_step0 hI hEw11
     replace hl := hl0.now hV
     replace hR7 := hR70 _ hV
     have hAb10 := hbb10.at
     refine r_nil ?_
     refine r_seq ?_
     refine r_seq ?_
     refine r_region ?_
     refine r_op rfl rfl rfl (run_mv (v := .slice _ _ _) rfl (by exact rfl)) ?_
     refine r_op rfl rfl rfl (run_lenSl rfl (by exact rfl) Try.underlying85) ?_
     refine r_op rfl rfl rfl (run_mv (v := .int _ _) rfl (by exact rfl)) ?_
     refine r_nil ?_
     refine r_block ?_
     refine r_loop (α := Nat) [10, 30, 31, 32, 33, 34, 35, 36, 37, 38, 39, 40, 41, 42, 43, 44] (fun k g w => g 30 = .int .i64 (k : Nat) ∧ k ≤ (ll.getD i default).length ∧ Blk w b10 149 [.int .i64 ((txtN ((ll.getD i default).take k) : Nat) : Int), .slice none 0 0] ∧ At w b10 0 [.int .i64 ((txtN ((ll.getD i default).take k) : Nat) : Int), .slice none 0 0] ∧ w11.heap.size ≤ w.heap.size ∧ Evo w0 w [] ∧ Evo w3 w []) (fun k => (ll.getD i default).length - k) 0 ?_ ?_
     ·refine ⟨(by first | exact rfl | exact congrArg (Value.int _) (by omega) | exact congrArg (Value.int _) (by dsimp only; omega) | exact congrArg (Value.int _) (by simp) | exact congrArg S (by simp)), (by first | assumption | omega | (dsimp only; omega) | (simp; done)), hbb10, hbb10.at, (by first | assumption | omega | (dsimp only; omega) | (simp; done)), hV, hI⟩
     ·rintro k g w13 ⟨hj14, hk_k, hbb10, hAb10, hzl12, hV, hI⟩
      have hs_w13hV := hV.size
      have hs_w13hI := hI.size
      have hlt15 := hbb10.lt
      replace hl := hl0.now hV
      replace hA7 := hA70 _ hV
      replace hR7 := hR70 _ hV
      refine r_know (i := 30) (v := .int .i64 (k : Nat)) (by exact hj14) ?_
      have hxn := txtN_le ((ll.getD i default).take k)
      have hxz := sizeL_take (ll.getD i default) k
      have hxs := sizeL_succ (ll.getD i default) k
      have hxy := sizeL_take (ll.getD i default) (k + 1)
      refine r_seq ?_
      refine r_region ?_
      refine r_op rfl rfl rfl (run_lss rfl (by exact rfl) (by exact rfl)) ?_
      refine r_nil ?_
      refine r_seq ?_
      refine r_cond (by exact rfl) (fun hc16 => ?_) (fun hc16 => ?_)
      ·skip
       refine r_skip ?_
       refine r_seq ?_
       refine r_block ?_
       refine r_seq ?_
       refine r_region ?_
       refine r_op rfl rfl rfl (run_ix (k) rfl Try.underlying85 ty_129 (by exact rfl) (by exact rfl) (by first | exact rfl | omega) (by omega) (hR7.addr (i := k) (by omega))) ?_
       have hA170 := fun (w' : World) (h : Evo w0 w' []) => (hR70 w' h).atD (k) (by omega)
       have hA17 := hA170 _ hV
       refine r_op rfl rfl rfl (run_ldN rfl ag_129 ty_129 (by exact rfl) rfl hA17) ?_
       refine r_var (zs := [_, _, _]) (vs := [_, _, _]) ty_129 (by exact rfl) rfl (by exact rfl) (fun _ => rfl) (by exact rfl) rfl rfl (by exact rfl) ?_
       intro b18 w19 heb18 hEw19 hbb18 hzb18
       have hs_w19 := (hEw19).size
       replace hV := evo_step0 hV hEw19
       replace hI := evo_step0 hI hEw19
       replace hl := hl0.now hV
       replace hbb10 := hbb10.evo0 hEw19
       replace hAb10 := hAb10.evo0 hEw19
       have hAb18 := hbb18.at
       refine r_nil ?_
       refine r_seq ?_
       refine r_region ?_
       refine r_op rfl rfl rfl (run_fa rfl (by exact rfl) fo_129_0) ?_
       refine r_op rfl rfl rfl (run_ld1 rfl ag_3 (by exact rfl) (hAb18.cell 0 (by exact rfl))) ?_
       refine r_op rfl rfl rfl (run_eql rfl (by exact rfl) (by exact rfl)) ?_
       refine r_nil ?_
       refine r_cond (by exact rfl) (fun hc20 => ?_) (fun hc20 => ?_)
       ·skip
        refine r_region ?_
        refine r_op rfl rfl rfl (run_fa rfl (by exact rfl) fo_149_0) ?_
        refine r_op rfl rfl rfl (run_ld1 rfl ag_3 (by exact rfl) (hAb10.cell 0 (by exact rfl))) ?_
        refine r_op rfl rfl rfl (run_fa rfl (by exact rfl) fo_129_1) ?_
        refine r_op rfl rfl rfl (run_ld1 rfl ag_9 (by exact rfl) (hAb18.cell 1 (by exact rfl))) ?_
        refine r_op rfl rfl rfl (run_lenS rfl (by exact rfl) Try.underlying9) ?_
        refine r_op rfl rfl rfl (run_add rfl (by exact rfl) (by exact rfl) (by omega) (by omega)) ?_
        refine r_op rfl rfl rfl (run_fa rfl (by exact rfl) fo_149_0) ?_
        refine r_store (v := .int _ _) (vs := [_]) (cs' := [_, _]) (by exact rfl) (by exact rfl) hbb10 ty_3 (by exact rfl) rfl (by exact rfl) rfl (by exact rfl) ?_
        intro w21 hEw21 hzw21 hb_new
        have hs_w21 := (hEw21).size
        replace hV := evo_step1 hV hEw21 (by first | exact .inl (by omega) | exact .inr (by simp))
        replace hI := evo_step1 hI hEw21 (by first | exact .inl (by omega) | exact .inr (by simp))
        replace hl := hl0.now hV
        replace hbb10 := hb_new
        have hAb10 := hbb10.at
        clear hb_new
        refine r_nil ?_
        refine r_blk ?_
        refine r_region ?_
        refine r_op rfl rfl rfl (run_add rfl (by exact rfl) (by exact rfl) (by omega) (by omega)) ?_
        refine r_op rfl rfl rfl (run_mv (v := .int _ _) rfl (by exact rfl)) ?_
        refine r_nil ?_
        refine r_again (k + 1) ?_ ?_ ?_
        ·first | omega | (dsimp only; omega)
        ·refine ⟨(by first | exact rfl | exact congrArg (Value.int _) (by omega) | exact congrArg (Value.int _) (by dsimp only; omega) | exact congrArg (Value.int _) (by simp) | exact congrArg S (by simp)), (by first | assumption | omega | (dsimp only; omega) | (simp; done)), (by first | (rw [txtN_no (by omega) hc20]; exact hbb10) | (rw [txtN_yes (by omega) hc20]; exact hbb10)), (by first | (rw [txtN_no (by omega) hc20]; exact hbb10.at) | (rw [txtN_yes (by omega) hc20]; exact hbb10.at)), (by first | assumption | omega | (dsimp only; omega) | (simp; done)), hV, hI⟩
        ·repeat (first | (with_reducible exact Agree.merge _ _ _) | (with_reducible exact Agree.refl _ _) | (with_reducible refine Agree.upd ?_ _ _ rfl) | ((with_reducible refine Agree.inner ?_ ?_); (kernel_rfl)))
       ·skip
        refine r_skip ?_
        refine r_blk ?_
        refine r_region ?_
        refine r_op rfl rfl rfl (run_add rfl (by exact rfl) (by exact rfl) (by omega) (by omega)) ?_
        refine r_op rfl rfl rfl (run_mv (v := .int _ _) rfl (by exact rfl)) ?_
        refine r_nil ?_
        refine r_again (k + 1) ?_ ?_ ?_
        ·first | omega | (dsimp only; omega)
        ·refine ⟨(by first | exact rfl | exact congrArg (Value.int _) (by omega) | exact congrArg (Value.int _) (by dsimp only; omega) | exact congrArg (Value.int _) (by simp) | exact congrArg S (by simp)), (by first | assumption | omega | (dsimp only; omega) | (simp; done)), (by first | (rw [txtN_no (by omega) hc20]; exact hbb10) | (rw [txtN_yes (by omega) hc20]; exact hbb10)), (by first | (rw [txtN_no (by omega) hc20]; exact hbb10.at) | (rw [txtN_yes (by omega) hc20]; exact hbb10.at)), (by first | assumption | omega | (dsimp only; omega) | (simp; done)), hV, hI⟩
        ·repeat (first | (with_reducible exact Agree.merge _ _ _) | (with_reducible exact Agree.refl _ _) | (with_reducible refine Agree.upd ?_ _ _ rfl) | ((with_reducible refine Agree.inner ?_ ?_); (kernel_rfl)))
      ·skip
       refine r_exit rfl ?_
       refine r_seq ?_
       refine r_seq ?_
       have hk8 := hk_k
       rw [List.take_of_length_le (show (ll.getD i default).length ≤ k by omega)] at hbb10
       have hAb10 := hbb10.at
       clear hk8
       refine r_region ?_
       refine r_op rfl rfl rfl (run_mv (v := .slice _ _ _) rfl (by exact rfl)) ?_
       refine r_opcall rfl rfl rfl (run_callf (vs := [.slice _ _ _]) rfl (by exact rfl) Try.func88 rfl (by kernel_rfl)) (rtokens_calls hR7 hzi) ?_
       rintro e w22 ⟨vt22, rfl, hE22, hot22⟩
       refine ⟨_, rfl, ?_⟩
       have hs_w22 := (hE22).size
       replace hV := evo_step0 hV hE22
       replace hI := evo_step0 hI hE22
       replace hl := hl0.now hV
       replace hbb10 := hbb10.evo0 hE22
       replace hAb10 := hAb10.evo0 hE22
       refine r_op rfl rfl rfl (run_lenOE rfl (by exact rfl) Try.underlying63 hot22) ?_
       refine r_op rfl rfl rfl (run_mv (v := .int _ _) rfl (by exact rfl)) ?_
       refine r_nil ?_
       refine r_block ?_
       have hT : Evo w22 w22 [b10] := Evo.refl _ _
       obtain ⟨ao23, g23, cp23, hv23, hr23, hg23⟩ := hot22.rowOf
       subst hv23
       have hr230 := fun w9 (h9 : Evo w22 w9 [b10]) => row_keep hr23 h9 (fun hne hm => by have h2 := (hg23 hne).2; simp at hm; omega)
       have hfo := fun q => fold_anc_len (ancT ((toks (ll.getD i default)).take q))
       refine r_loop (α := Nat) [12, 48, 49, 50, 51, 52, 53, 54, 55, 56, 57, 58, 59, 60, 61, 62, 63, 64, 65, 66, 67, 68, 69, 70, 71, 72, 73, 74, 75, 76] (fun q g w => ∃ vs : Value, g 48 = .int .i64 (q : Nat) ∧ q ≤ (toks (ll.getD i default)).length ∧ OwnE w w22.heap.size 9 vs ((ancT ((toks (ll.getD i default)).take q)).foldl insS []) ∧ Blk w b10 149 [.int .i64 ((txtN (ll.getD i default) : Nat) : Int), vs] ∧ At w b10 0 [.int .i64 ((txtN (ll.getD i default) : Nat) : Int), vs] ∧ w22.heap.size ≤ w.heap.size ∧ Evo w0 w [] ∧ Evo w3 w [] ∧ Evo w22 w [b10]) (fun q => (toks (ll.getD i default)).length - q) 0 ?_ ?_
       ·refine ⟨_, (by first | exact rfl | exact congrArg (Value.int _) (by omega) | exact congrArg (Value.int _) (by dsimp only; omega) | exact congrArg (Value.int _) (by simp) | exact congrArg S (by simp)), (by first | assumption | omega | (dsimp only; omega) | (simp; done)), (OwnE.nil _ _ _), hbb10, hbb10.at, (by first | assumption | omega | (dsimp only; omega) | (simp; done)), hV, hI, hT⟩
       ·rintro q g w25 ⟨vs, hj26, hk_q, hos, hbb10, hAb10, hzl24, hV, hI, hT⟩
        have hs_w25hV := hV.size
        have hs_w25hI := hI.size
        have hs_w25hT := hT.size
        have hlt27 := hbb10.lt
        replace hl := hl0.now hV
        replace hA7 := hA70 _ hV
        replace hR7 := hR70 _ hV
        replace hr23 := hr230 _ hT
        refine r_know (i := 48) (v := .int .i64 (q : Nat)) (by exact hj26) ?_
        have hal := ancT_len ((toks (ll.getD i default)).take q)
        have htk : ((toks (ll.getD i default)).take q).length ≤ q := List.length_take_le _ _
        have hfq := hfo q
        refine r_seq ?_
        refine r_region ?_
        refine r_op rfl rfl rfl (run_lss rfl (by exact rfl) (by exact rfl)) ?_
        refine r_nil ?_
        refine r_seq ?_
        refine r_cond (by exact rfl) (fun hc28 => ?_) (fun hc28 => ?_)
        ·skip
         refine r_skip ?_
         refine r_seq ?_
         refine r_block ?_
         refine r_seq ?_
         refine r_region ?_
         refine r_op rfl rfl rfl (run_ix (q) rfl Try.underlying63 ty_81 (by exact rfl) (by exact rfl) (by first | exact rfl | omega) (by omega) (hr23.addr (i := q) (by omega))) ?_
         have hA290 := fun (w' : World) (h : Evo w22 w' [b10]) => (hr230 w' h).atD (q) (by omega)
         have hA29 := hA290 _ hT
         refine r_op rfl rfl rfl (run_ldN rfl ag_81 ty_81 (by exact rfl) rfl hA29) ?_
         have hob30 := fun g hg => (hos.block (g := g) hg).2
         refine r_var (zs := [_, _, _]) (vs := [_, _, _]) ty_81 (by exact rfl) rfl (by exact rfl) (fun _ => rfl) (by exact rfl) rfl rfl (by exact rfl) ?_
         intro b31 w32 heb31 hEw32 hbb31 hzb31
         have hs_w32 := (hEw32).size
         replace hV := evo_step0 hV hEw32
         replace hI := evo_step0 hI hEw32
         replace hT := evo_step0 hT hEw32
         replace hl := hl0.now hV
         replace hr23 := hr230 _ hT
         replace hos := hos.evo0 hEw32
         replace hbb10 := hbb10.evo0 hEw32
         replace hAb10 := hAb10.evo0 hEw32
         have hAb31 := hbb31.at
         refine r_nil ?_
         refine r_seq ?_
         refine r_region ?_
         refine r_op rfl rfl rfl (run_fa rfl (by exact rfl) fo_81_0) ?_
         refine r_op rfl rfl rfl (run_ld1 rfl ag_3 (by exact rfl) (hAb31.cell 0 (by exact rfl))) ?_
         refine r_op rfl rfl rfl (run_eql rfl (by exact rfl) (by exact rfl)) ?_
         refine r_op rfl rfl rfl (run_mv (v := .bool _) rfl (by exact rfl)) ?_
         refine r_g rfl (wantF (by exact rfl)) rfl (fun hg => run_fa rfl (by exact rfl) fo_81_0) ?_
         refine r_g rfl (wantF (by exact rfl)) rfl (fun hg => run_ld1 rfl ag_3 (glv (by exact rfl) (fun h => h) hg) (hAb31.cell 0 (by exact rfl))) ?_
         refine r_g rfl (wantF (by exact rfl)) rfl (fun hg => run_eql rfl (glv (by exact rfl) (fun h => h) hg) (by exact rfl)) ?_
         refine r_op rfl rfl rfl (run_pick_or rfl (by exact rfl) rfl (fun hq => glv (by exact rfl) (fun h => h) hq)) ?_
         refine r_op rfl rfl rfl (run_mv (v := .bool _) rfl (by exact rfl)) ?_
         refine r_g rfl (wantF (by exact rfl)) rfl (fun hg => run_fa rfl (by exact rfl) fo_81_0) ?_
         refine r_g rfl (wantF (by exact rfl)) rfl (fun hg => run_ld1 rfl ag_3 (glv (by exact rfl) (fun h => h) hg) (hAb31.cell 0 (by exact rfl))) ?_
         refine r_g rfl (wantF (by exact rfl)) rfl (fun hg => run_eql rfl (glv (by exact rfl) (fun h => h) hg) (by exact rfl)) ?_
         refine r_op rfl rfl rfl (run_pick_or rfl (by exact rfl) rfl (fun hq => glv (by exact rfl) (fun h => h) hq)) ?_
         refine r_op rfl rfl rfl (run_mv (v := .bool _) rfl (by exact rfl)) ?_
         refine r_g rfl (wantF (by exact rfl)) rfl (fun hg => run_fa rfl (by exact rfl) fo_81_0) ?_
         refine r_g rfl (wantF (by exact rfl)) rfl (fun hg => run_ld1 rfl ag_3 (glv (by exact rfl) (fun h => h) hg) (hAb31.cell 0 (by exact rfl))) ?_
         refine r_g rfl (wantF (by exact rfl)) rfl (fun hg => run_eql rfl (glv (by exact rfl) (fun h => h) hg) (by exact rfl)) ?_
         refine r_op rfl rfl rfl (run_pick_or rfl (by exact rfl) rfl (fun hq => glv (by exact rfl) (fun h => h) hq)) ?_
         refine r_nil ?_
         refine r_cond (by exact rfl) (fun hc33 => ?_) (fun hc33 => ?_)
         ·skip
          refine r_region ?_
          refine r_op rfl rfl rfl (run_fa rfl (by exact rfl) fo_149_1) ?_
          refine r_op rfl rfl rfl (run_ld1 rfl ag_34 (by exact rfl) (hAb10.cell 1 (by exact rfl))) ?_
          refine r_op rfl rfl rfl (run_fa rfl (by exact rfl) fo_81_1) ?_
          refine r_op rfl rfl rfl (run_ld1 rfl ag_9 (by exact rfl) (hAb31.cell 1 (by exact rfl))) ?_
          obtain ⟨ao34, g34, cp34, hv34, hr34, hg34⟩ := hos.rowOf
          subst hv34
          refine r_opcall rfl rfl rfl (run_callf (vs := [.slice _ _ _, S _]) rfl (by exact rfl) Try.func111 rfl (by kernel_rfl)) (insert_calls hr34 (by omega)) ?_
          rintro e w35 ⟨vi35, rfl, hE35, hi35⟩
          refine ⟨_, rfl, ?_⟩
          have hs_w35 := (hE35).size
          replace hV := evo_step0 hV hE35
          replace hI := evo_step0 hI hE35
          replace hT := evo_step0 hT hE35
          replace hl := hl0.now hV
          replace hr23 := hr230 _ hT
          replace hos := hos.evo0 hE35
          replace hbb10 := hbb10.evo0 hE35
          replace hAb10 := hAb10.evo0 hE35
          replace hr34 := hr34.evo0 hE35
          have hos := hi35.base_le (base' := w22.heap.size) (by omega)
          refine r_op rfl rfl rfl (run_fa rfl (by exact rfl) fo_149_1) ?_
          obtain ⟨ao36, cp36, hv36⟩ := hos.shape
          subst hv36
          refine r_store (v := .slice _ _ _) (vs := [_]) (cs' := [_, _]) (by exact rfl) (by exact rfl) hbb10 ty_34 (by exact rfl) rfl (by exact rfl) rfl (by exact rfl) ?_
          intro w37 hEw37 hzw37 hb_new
          have hs_w37 := (hEw37).size
          replace hV := evo_step1 hV hEw37 (by first | exact .inl (by omega) | exact .inr (by simp))
          replace hI := evo_step1 hI hEw37 (by first | exact .inl (by omega) | exact .inr (by simp))
          replace hT := evo_step1 hT hEw37 (by first | exact .inl (by omega) | exact .inr (by simp))
          replace hl := hl0.now hV
          replace hr23 := hr230 _ hT
          replace hos := hos.evo hEw37 (by intro g hg hm; simp at hm; subst hm; have := hos.block hg; omega)
          replace hbb10 := hb_new
          have hAb10 := hbb10.at
          clear hb_new
          refine r_nil ?_
          refine r_blk ?_
          refine r_region ?_
          refine r_op rfl rfl rfl (run_add rfl (by exact rfl) (by exact rfl) (by omega) (by omega)) ?_
          refine r_op rfl rfl rfl (run_mv (v := .int _ _) rfl (by exact rfl)) ?_
          refine r_nil ?_
          refine r_again (q + 1) ?_ ?_ ?_
          ·first | omega | (dsimp only; omega)
          ·refine ⟨_, (by first | exact rfl | exact congrArg (Value.int _) (by omega) | exact congrArg (Value.int _) (by dsimp only; omega) | exact congrArg (Value.int _) (by simp) | exact congrArg S (by simp)), (by first | assumption | omega | (dsimp only; omega) | (simp; done)), (by first | (rw [fold_anc (by omega) (ancP_iff.2 hc33)]; exact hos) | (rw [ancT_no (by omega) (fun h => hc33 (ancP_iff.1 h))]; exact hos)), hbb10, hbb10.at, (by first | assumption | omega | (dsimp only; omega) | (simp; done)), hV, hI, hT⟩
          ·repeat (first | (with_reducible exact Agree.merge _ _ _) | (with_reducible exact Agree.refl _ _) | (with_reducible refine Agree.upd ?_ _ _ rfl) | ((with_reducible refine Agree.inner ?_ ?_); (kernel_rfl)))
         ·skip
          refine r_skip ?_
          refine r_blk ?_
          refine r_region ?_
          refine r_op rfl rfl rfl (run_add rfl (by exact rfl) (by exact rfl) (by omega) (by omega)) ?_
          refine r_op rfl rfl rfl (run_mv (v := .int _ _) rfl (by exact rfl)) ?_
          refine r_nil ?_
          refine r_again (q + 1) ?_ ?_ ?_
          ·first | omega | (dsimp only; omega)
          ·refine ⟨_, (by first | exact rfl | exact congrArg (Value.int _) (by omega) | exact congrArg (Value.int _) (by dsimp only; omega) | exact congrArg (Value.int _) (by simp) | exact congrArg S (by simp)), (by first | assumption | omega | (dsimp only; omega) | (simp; done)), (by first | (rw [fold_anc (by omega) (ancP_iff.2 hc33)]; exact hos) | (rw [ancT_no (by omega) (fun h => hc33 (ancP_iff.1 h))]; exact hos)), hbb10, hbb10.at, (by first | assumption | omega | (dsimp only; omega) | (simp; done)), hV, hI, hT⟩
          ·repeat (first | (with_reducible exact Agree.merge _ _ _) | (with_reducible exact Agree.refl _ _) | (with_reducible refine Agree.upd ?_ _ _ rfl) | ((with_reducible refine Agree.inner ?_ ?_); (kernel_rfl)))
        ·skip
         refine r_exit rfl ?_
         rw [List.take_of_length_le (show (toks (ll.getD i default)).length ≤ q by omega), fold_ins] at hos
         have hoR := hoR0.evo0 hI
         clear hoR0
         obtain ⟨aoS, cpS, hvS⟩ := hos.shape
         subst hvS
         refine r_region ?_
         refine r_op rfl rfl rfl (run_mv (v := vo) rfl (by exact rfl)) ?_
         refine r_op rfl rfl rfl (run_ldN rfl ag_149 ty_149 (by exact rfl) rfl hAb10) ?_
         refine r_append1R (u := .agg _) (us := [_, _]) rfl rfl Try.underlying92 ty_149 (by exact rfl) rfl rfl hoR (fun _ => (by exact rfl)) (by exact rfl) (by exact rfl) rfl (by exact rfl) (side_own _ hos (by simp) (fun g hg => by have := hobR g hg; omega)) ((by first | omega | (simp; omega))) ((by first | omega | (simp; omega))) (by omega) ?_
         intro q_v38 v38 w39 hEw39 hov38 hlv38
         have hs_w39 := (hEw39).size
         replace hV := evo_stepo hV hEw39 (fun g hg => .inl (by first | exact (hoR.block hg).1 | (have := hoR.block hg; omega)))
         replace hl := hl0.now hV
         replace hr23 := hr230 _ hT
         refine r_op rfl rfl rfl (run_asg (v := v38) rfl (by exact rfl)) ?_
         refine r_nil ?_
         refine r_blk ?_
         refine r_region ?_
         refine r_op rfl rfl rfl (run_add rfl (by exact rfl) (by exact rfl) (by omega) (by omega)) ?_
         refine r_op rfl rfl rfl (run_mv (v := .int _ _) rfl (by exact rfl)) ?_
         refine r_nil ?_
         refine r_again (i + 1) ?_ ?_ ?_
         ·first | omega | (dsimp only; omega)
         ·refine ⟨_, (by first | exact rfl | exact congrArg (Value.int _) (by omega) | exact congrArg (Value.int _) (by dsimp only; omega) | exact congrArg (Value.int _) (by simp) | exact congrArg S (by simp)), rfl, (by first | assumption | omega | (dsimp only; omega) | (simp; done)), (by rw [map_succD (by omega)]; exact hov38), (upto0 hno (Classical.not_not.1 (by assumption))), (by first | assumption | omega | (dsimp only; omega) | (simp; done)), hV⟩
         ·repeat (first | (with_reducible exact Agree.merge _ _ _) | (with_reducible exact Agree.refl _ _) | (with_reducible refine Agree.upd ?_ _ _ rfl) | ((with_reducible refine Agree.inner ?_ ?_); (kernel_rfl)))
   ·skip
    refine r_exit rfl ?_
    refine r_seq ?_
    refine r_region ?_
    refine r_op rfl rfl rfl (run_mv (v := vo) rfl (by exact rfl)) ?_
    refine r_op rfl rfl rfl (run_asg (v := vo) rfl (by exact rfl)) ?_
    refine r_op rfl rfl rfl (run_asg (v := .int _ _) rfl (by exact rfl)) ?_
    refine r_nil ?_
    refine r_ret (res2 (v := vo) (u := .int _ _) rfl (by exact rfl) (by exact rfl)) ?_
    exact ⟨_, ret_vi (sides_ok (by omega) hno (by omega)).symm, hV, by rw [sidesL_yes (sides_ok (by omega) hno (by omega))]; rw [List.take_of_length_le (by omega)] at hoR; exact hoR⟩

theorem samesides_calls {aoa aob : Option Addr} {ba offa capa bb offb capb : Nat} {a : List Side} {w0 : World} (ha : RowR w0 aoa ba offa capa a) (hb : RowR w0 aob bb offb capb a) :
    Calls Try.prog 65 #[.slice aoa a.length capa, .slice aob a.length capb] w0 fun e w' => e = .returned (.bool true) ∧ Evo w0 w' [] := by
 refine calls_enter (n := 42) (args := [.slice aoa a.length capa, .slice aob a.length capb]) Try.func65 rfl Try.ntmps65 rfl ?_
 have hV : Evo w0 w0 [] := Evo.refl _ _
 have ha0 := ha.keep
 have hbd_ha := ha.bd
 have hb0 := hb.keep
 have hbd_hb := hb.bd
 refine r_seq ?_
 refine r_region ?_
 refine r_op rfl rfl rfl (run_asg (v := .bool _) rfl (by exact rfl)) ?_
 refine r_nil ?_
 refine r_seq ?_
 refine r_seq ?_
 refine r_region ?_
 refine r_op rfl rfl rfl (run_mv (v := .slice _ _ _) rfl (by exact rfl)) ?_
 refine r_op rfl rfl rfl (run_lenSl rfl (by exact rfl) Try.underlying92) ?_
 refine r_op rfl rfl rfl (run_mv (v := .slice _ _ _) rfl (by exact rfl)) ?_
 refine r_op rfl rfl rfl (run_lenSl rfl (by exact rfl) Try.underlying92) ?_
 refine r_op rfl rfl rfl (run_neq rfl (by exact rfl) (by exact rfl)) ?_
 refine r_nil ?_
 refine r_cond (by exact rfl) (fun hc1 => ?_) (fun hc1 => ?_)
 ·skip
  refine r_seq ?_
  refine r_region ?_
  refine r_op rfl rfl rfl (run_asg (v := .bool _) rfl (by exact rfl)) ?_
  refine r_nil ?_
  refine r_ret (res1 (v := .bool _) rfl (by exact rfl)) ?_
  first | exact ⟨rfl, hV⟩ | (exfalso; omega) | exact absurd hc1 (by simp)
 ·skip
  refine r_skip ?_
  refine r_seq ?_
  refine r_seq ?_
  refine r_region ?_
  refine r_op rfl rfl rfl (run_mv (v := .slice _ _ _) rfl (by exact rfl)) ?_
  refine r_op rfl rfl rfl (run_lenSl rfl (by exact rfl) Try.underlying92) ?_
  refine r_op rfl rfl rfl (run_mv (v := .int _ _) rfl (by exact rfl)) ?_
  refine r_nil ?_
  refine r_block ?_
  refine r_loop (α := Nat) [4, 5, 13, 14, 15, 16, 17, 18, 19, 20, 21, 22, 23, 24, 25, 26, 27, 28, 29, 30, 31, 32, 33, 34, 35, 36, 37, 38, 39, 40, 41] (fun k g w => g 13 = .int .i64 (k : Nat) ∧ k ≤ a.length ∧ w0.heap.size ≤ w.heap.size ∧ Evo w0 w []) (fun k => a.length - k) 0 ?_ ?_
  ·refine ⟨(by first | exact rfl | exact congrArg (Value.int _) (by omega) | exact congrArg (Value.int _) (by dsimp only; omega) | exact congrArg (Value.int _) (by simp) | exact congrArg S (by simp)), (by first | assumption | omega | (dsimp only; omega) | (simp; done)), (by first | assumption | omega | (dsimp only; omega) | (simp; done)), hV⟩
  ·rintro k g w3 ⟨hj4, hk_k, hzl2, hV⟩
   have hs_w3hV := hV.size
   replace ha := ha0.now hV
   replace hb := hb0.now hV
   refine r_know (i := 13) (v := .int .i64 (k : Nat)) (by exact hj4) ?_
   refine r_seq ?_
   refine r_region ?_
   refine r_op rfl rfl rfl (run_lss rfl (by exact rfl) (by exact rfl)) ?_
   refine r_nil ?_
   refine r_seq ?_
   refine r_cond (by exact rfl) (fun hc5 => ?_) (fun hc5 => ?_)
   ·skip
    refine r_skip ?_
    refine r_seq ?_
    refine r_block ?_
    refine r_seq ?_
    refine r_region ?_
    refine r_op rfl rfl rfl (run_mv (v := .int _ _) rfl (by exact rfl)) ?_
    refine r_op rfl rfl rfl (run_asg (v := .int _ _) rfl (by exact rfl)) ?_
    refine r_nil ?_
    refine r_seq ?_
    have hV_q := hV
    refine h_region ([]) (by kernel_rfl) ?_
    intro w6 hE7 hCst6
    have hs_w6 := (hE7).size
    replace hV := evo_step0 hV hE7
    replace ha := ha0.now hV
    replace hb := hb0.now hV
    refine h_take (i := 0) (by exact rfl) rfl rfl rfl (by kernel_rfl) (fun w' hC => run_mv (v := .slice _ _ _) rfl (by exact rfl)) hCst6 ?_
    refine h_take (i := 1) (by exact rfl) rfl rfl rfl (by kernel_rfl) (fun w' hC => run_mv (v := .int _ _) rfl (by exact rfl)) hCst6 ?_
    refine h_take (i := 2) (by exact rfl) rfl rfl rfl (by kernel_rfl) (fun w' hC => run_ix (k) rfl Try.underlying92 ty_149 (by exact rfl) (by exact rfl) (by first | exact rfl | omega) (by omega) (ha.addr (i := k) (by omega))) hCst6 ?_
    obtain ⟨ao8, b8, off8, cap8, hX⟩ := side_atK ha0 (k) (by omega)
    have hA80 := fun (w' : World) (h : Evo w0 w' []) => (hX w' h).1
    have hA8 := hA80 _ hV
    have hR80 := fun (w' : World) (h : Evo w0 w' []) => (hX w' h).2
    have hR8 := hR80 _ hV
    clear hX
    have hbd_hR8 := hR8.bd
    refine h_take (i := 3) (by exact rfl) rfl rfl rfl (by kernel_rfl) (fun w' hC => run_fa rfl (by exact rfl) fo_149_0) hCst6 ?_
    refine h_take (i := 4) (by exact rfl) rfl rfl rfl (by kernel_rfl) (fun w' hC => run_ld1 rfl ag_3 (by exact rfl) ((hA80 _ (evo_step0 hV_q hC)).cell 0 (by exact rfl))) hCst6 ?_
    refine h_take (i := 5) (by exact rfl) rfl rfl rfl (by kernel_rfl) (fun w' hC => run_mv (v := .slice _ _ _) rfl (by exact rfl)) hCst6 ?_
    refine h_take (i := 6) (by exact rfl) rfl rfl rfl (by kernel_rfl) (fun w' hC => run_mv (v := .int _ _) rfl (by exact rfl)) hCst6 ?_
    refine h_take (i := 7) (by exact rfl) rfl rfl rfl (by kernel_rfl) (fun w' hC => run_ix (k) rfl Try.underlying92 ty_149 (by exact rfl) (by exact rfl) (by first | exact rfl | omega) (by omega) (hb.addr (i := k) (by omega))) hCst6 ?_
    obtain ⟨ao9, b9, off9, cap9, hX⟩ := side_atK hb0 (k) (by omega)
    have hA90 := fun (w' : World) (h : Evo w0 w' []) => (hX w' h).1
    have hA9 := hA90 _ hV
    have hR90 := fun (w' : World) (h : Evo w0 w' []) => (hX w' h).2
    have hR9 := hR90 _ hV
    clear hX
    have hbd_hR9 := hR9.bd
    refine h_take (i := 8) (by exact rfl) rfl rfl rfl (by kernel_rfl) (fun w' hC => run_fa rfl (by exact rfl) fo_149_0) hCst6 ?_
    refine h_take (i := 9) (by exact rfl) rfl rfl rfl (by kernel_rfl) (fun w' hC => run_ld1 rfl ag_3 (by exact rfl) ((hA90 _ (evo_step0 hV_q hC)).cell 0 (by exact rfl))) hCst6 ?_
    refine h_take (i := 10) (by exact rfl) rfl rfl rfl (by kernel_rfl) (fun w' hC => run_neq rfl (by exact rfl) (by exact rfl)) hCst6 ?_
    refine h_take (i := 11) (by exact rfl) rfl rfl rfl (by kernel_rfl) (fun w' hC => run_mv (v := .bool _) rfl (by exact rfl)) hCst6 ?_
    refine h_takeY (i := 12) (by exact rfl) (by exact rfl) rfl (wantF (by exact rfl)) (by exact (fun h => h rfl)) rfl rfl (by kernel_rfl) (fun w' hC => run_mv (v := .slice _ _ _) rfl (by exact rfl)) hCst6 ?_
    refine h_takeY (i := 13) (by exact rfl) (by exact rfl) rfl (wantF (by exact rfl)) (by exact (fun h => h rfl)) rfl rfl (by kernel_rfl) (fun w' hC => run_mv (v := .int _ _) rfl (by exact rfl)) hCst6 ?_
    refine h_takeY (i := 14) (by exact rfl) (by exact rfl) rfl (wantF (by exact rfl)) (by exact (fun h => h rfl)) rfl rfl (by kernel_rfl) (fun w' hC => run_ix (k) rfl Try.underlying92 ty_149 (by exact rfl) (by exact rfl) (by first | exact rfl | omega) (by omega) (ha.addr (i := k) (by omega))) hCst6 ?_
    obtain ⟨ao10, b10, off10, cap10, hX⟩ := side_atK ha0 (k) (by omega)
    have hA100 := fun (w' : World) (h : Evo w0 w' []) => (hX w' h).1
    have hA10 := hA100 _ hV
    have hR100 := fun (w' : World) (h : Evo w0 w' []) => (hX w' h).2
    have hR10 := hR100 _ hV
    clear hX
    have hbd_hR10 := hR10.bd
    refine h_takeY (i := 15) (by exact rfl) (by exact rfl) rfl (wantF (by exact rfl)) (by exact (fun h => h rfl)) rfl rfl (by kernel_rfl) (fun w' hC => run_fa rfl (by exact rfl) fo_149_1) hCst6 ?_
    refine h_takeY (i := 16) (by exact rfl) (by exact rfl) rfl (wantF (by exact rfl)) (by exact (fun h => h rfl)) rfl rfl (by kernel_rfl) (fun w' hC => run_ld1 rfl ag_34 (by exact rfl) ((hA100 _ (evo_step0 hV_q hC)).cell 1 (by exact rfl))) hCst6 ?_
    refine h_takeY (i := 17) (by exact rfl) (by exact rfl) rfl (wantF (by exact rfl)) (by exact (fun h => h rfl)) rfl rfl (by kernel_rfl) (fun w' hC => run_mv (v := .slice _ _ _) rfl (by exact rfl)) hCst6 ?_
    refine h_takeY (i := 18) (by exact rfl) (by exact rfl) rfl (wantF (by exact rfl)) (by exact (fun h => h rfl)) rfl rfl (by kernel_rfl) (fun w' hC => run_mv (v := .int _ _) rfl (by exact rfl)) hCst6 ?_
    refine h_takeY (i := 19) (by exact rfl) (by exact rfl) rfl (wantF (by exact rfl)) (by exact (fun h => h rfl)) rfl rfl (by kernel_rfl) (fun w' hC => run_ix (k) rfl Try.underlying92 ty_149 (by exact rfl) (by exact rfl) (by first | exact rfl | omega) (by omega) (hb.addr (i := k) (by omega))) hCst6 ?_
    obtain ⟨ao11, b11, off11, cap11, hX⟩ := side_atK hb0 (k) (by omega)
    have hA110 := fun (w' : World) (h : Evo w0 w' []) => (hX w' h).1
    have hA11 := hA110 _ hV
    have hR110 := fun (w' : World) (h : Evo w0 w' []) => (hX w' h).2
    have hR11 := hR110 _ hV
    clear hX
    have hbd_hR11 := hR11.bd
    refine h_takeY (i := 20) (by exact rfl) (by exact rfl) rfl (wantF (by exact rfl)) (by exact (fun h => h rfl)) rfl rfl (by kernel_rfl) (fun w' hC => run_fa rfl (by exact rfl) fo_149_1) hCst6 ?_
    refine h_takeY (i := 21) (by exact rfl) (by exact rfl) rfl (wantF (by exact rfl)) (by exact (fun h => h rfl)) rfl rfl (by kernel_rfl) (fun w' hC => run_ld1 rfl ag_34 (by exact rfl) ((hA110 _ (evo_step0 hV_q hC)).cell 1 (by exact rfl))) hCst6 ?_
    refine h_one (i := 22) (by kernel_rfl) ?_
    refine h_do (by exact rfl) ?_
    refine r_gyes rfl (wantF (by exact rfl)) (by exact (fun h => h rfl)) ?_
    refine r_opcall rfl rfl rfl (run_callf (vs := [.slice _ _ _, .slice _ _ _]) rfl (by exact rfl) Try.func28 rfl (by kernel_rfl)) (sametexts_calls hR10 hR11) ?_
    rintro e w12 ⟨rfl, hE12⟩
    refine ⟨_, rfl, ?_⟩
    have hs_w12 := (hE12).size
    replace hV := evo_step0 hV hE12
    replace hCst6 := evo_step0 hCst6 hE12
    replace ha := ha0.now hV
    replace hb := hb0.now hV
    refine h_next hCst6 ?_
    refine h_takeY (i := 23) (by exact rfl) (by exact rfl) rfl (wantF (by exact rfl)) (by exact (fun h => h rfl)) rfl rfl (by kernel_rfl) (fun w' hC => run_notb rfl (by exact rfl)) hCst6 ?_
    refine h_take (i := 24) (by exact rfl) rfl rfl rfl (by kernel_rfl) (fun w' hC => run_pick_orB rfl (by exact rfl) rfl (fun _ => (by exact rfl))) hCst6 ?_
    refine h_done (by kernel_rfl) ?_
    refine r_cond (by exact rfl) (fun hc13 => ?_) (fun hc13 => ?_)
    ·skip
     refine r_seq ?_
     refine r_region ?_
     refine r_op rfl rfl rfl (run_asg (v := .bool _) rfl (by exact rfl)) ?_
     refine r_nil ?_
     refine r_ret (res1 (v := .bool _) rfl (by exact rfl)) ?_
     first | exact ⟨rfl, hV⟩ | (exfalso; omega) | exact absurd hc13 (by simp)
    ·skip
     refine r_skip ?_
     refine r_blk ?_
     refine r_region ?_
     refine r_op rfl rfl rfl (run_add rfl (by exact rfl) (by exact rfl) (by omega) (by omega)) ?_
     refine r_op rfl rfl rfl (run_mv (v := .int _ _) rfl (by exact rfl)) ?_
     refine r_nil ?_
     refine r_again (k + 1) ?_ ?_ ?_
     ·first | omega | (dsimp only; omega)
     ·refine ⟨(by first | exact rfl | exact congrArg (Value.int _) (by omega) | exact congrArg (Value.int _) (by dsimp only; omega) | exact congrArg (Value.int _) (by simp) | exact congrArg S (by simp)), (by first | assumption | omega | (dsimp only; omega) | (simp; done)), (by first | assumption | omega | (dsimp only; omega) | (simp; done)), hV⟩
     ·repeat (first | (with_reducible exact Agree.merge _ _ _) | (with_reducible exact Agree.refl _ _) | (with_reducible refine Agree.upd ?_ _ _ rfl) | ((with_reducible refine Agree.inner ?_ ?_); (kernel_rfl)))
   ·skip
    refine r_exit rfl ?_
    refine r_seq ?_
    refine r_region ?_
    refine r_op rfl rfl rfl (run_asg (v := .bool _) rfl (by exact rfl)) ?_
    refine r_nil ?_
    refine r_ret (res1 (v := .bool _) rfl (by exact rfl)) ?_
    first | exact ⟨rfl, hV⟩ | (exfalso; omega) | exact absurd hc5 (by simp)

end Go.Proofs.Ytomklacppmaljaa

namespace Go.Proofs.Ytomklacppmaljaa
open Go.RowKit Go.Vc

theorem lim4_bd (n : Int) : 0 ≤ IntKind.i64.wrap ((IntKind.u64.wrap n).tmod 4) ∧ IntKind.i64.wrap ((IntKind.u64.wrap n).tmod 4) ≤ 3 := by
  have h : IntKind.u64.wrap n = n % 18446744073709551616 := IntKind.wrap_u64 n
  have h0 : 0 ≤ IntKind.u64.wrap n := by rw [h]; omega
  have h1 : (IntKind.u64.wrap n).tmod 4 = IntKind.u64.wrap n % 4 := Int.tmod_eq_emod_of_nonneg h0
  rw [h1, wrap_in (by omega) (by omega)]
  omega
theorem lim4 (n : Int) : ∃ N : Nat, 63 + IntKind.i64.wrap ((IntKind.u64.wrap n).tmod 4) = (N : Int) ∧ 63 ≤ N ∧ N ≤ 66 := by
  have := lim4_bd n
  exact ⟨(63 + IntKind.i64.wrap ((IntKind.u64.wrap n).tmod 4)).toNat, by omega, by omega, by omega⟩
theorem al_e (a b : List Side) : (alignL a b).2.2 = if 64 < a.length ∨ 64 < b.length then 3 else 0 := by unfold alignL; split <;> rfl
theorem mid_nil : Mid [] := small_mid ⟨by decide, by decide⟩
theorem rep_mid (N : Nat) : ∀ f ∈ List.replicate N ([] : List Vc.Item), Mid f := fun f hf => by rw [List.eq_of_mem_replicate hf]; exact mid_nil
theorem sides_rep (N : Nat) : sidesE (List.replicate N ([] : List Vc.Item)) = if 64 < N then 3 else 0 := by
  unfold sidesE
  rw [List.length_replicate]
  split
  · rfl
  · refine firstE_none fun j hj => ?_
    have e : (List.replicate N ([] : List Vc.Item)).getD j default = [] := by simp [List.getD, hj]
    rw [e]; decide

theorem alimits_law {n : Int} {second : Bool} {w0 : World}  :
    Calls Try.prog 20 #[.int .i64 n, .bool second] w0 fun e w' => e = .returned (.bool true) ∧ Evo w0 w' [] := by
 obtain ⟨N, hN, hN1, hN2⟩ := lim4 n; have hw4 := lim4_bd n
 refine calls_enter (n := 50) (args := [.int .i64 n, .bool second]) Try.func20 rfl Try.ntmps20 rfl ?_
 have hV : Evo w0 w0 [] := Evo.refl _ _
 refine r_seq ?_
 refine r_region ?_
 refine r_op rfl rfl rfl (run_asg (v := .bool _) rfl (by exact rfl)) ?_
 refine r_nil ?_
 refine r_seq ?_
 refine r_region ?_
 refine r_op rfl rfl rfl (run_mv (v := .int _ _) rfl (by exact rfl)) ?_
 refine r_op rfl rfl rfl (run_cvInt rfl Try.underlying3 Try.underlying84 (by exact rfl)) ?_
 refine r_op rfl rfl rfl (run_rem rfl (by exact rfl) (by exact rfl) (by omega)) ?_
 refine r_op rfl rfl rfl (run_cvInt rfl Try.underlying84 Try.underlying3 (by exact rfl)) ?_
 refine r_op rfl rfl rfl (run_add rfl (by exact rfl) (by exact rfl) (by omega) (by omega)) ?_
 refine r_knowL (i := 17) (v := .int .i64 (N : Nat)) (congrArg (Value.int _) hN) ?_
 refine r_op rfl rfl rfl (run_asg (v := .int _ _) rfl (by exact rfl)) ?_
 refine r_nil ?_
 refine r_seq ?_
 have hV_q := hV
 refine h_region ([]) (by kernel_rfl) ?_
 intro w1 hE2 hCst2
 have hs_w1 := (hE2).size
 replace hV := evo_step0 hV hE2
 refine h_take (i := 0) (by exact rfl) rfl rfl rfl (by kernel_rfl) (fun w' hC => run_mv (v := .int _ _) rfl (by exact rfl)) hCst2 ?_
 refine h_two (i := 1) (j := 2) (by kernel_rfl) ?_ ?_
 ·skip
  refine h_do (by exact rfl) ?_
  refine r_make (len := N) (zs := [_, _]) Try.underlying92 ty_149 (by exact rfl) rfl rfl (by exact rfl) (by exact rfl) (by omega) (by omega) (by omega) (by omega) ?_
  intro b3 w4 heb3 hEw4 hfb3 hzb3
  have hs_w4 := (hEw4).size
  replace hV := evo_step0 hV hEw4
  replace hCst2 := evo_step0 hCst2 hEw4
  have hrb3 : RowR w4 (some ⟨b3, 0, none⟩) b3 0 N (List.replicate N (⟨0, []⟩ : Side)) := fb_rowR hfb3 (fun w9 => side_nil w9 0) (by omega)
  refine r_knowL (i := 19) (v := .slice (some ⟨b3, 0, none⟩) (List.replicate N (⟨0, []⟩ : Side)).length N) (congrArg (fun q9 => Value.slice (some ⟨b3, 0, none⟩) q9 N) (List.length_replicate (n := N) (a := (⟨0, []⟩ : Side))).symm) ?_
  refine h_next hCst2 ?_
  refine h_take (i := 3) (by exact rfl) rfl rfl rfl (by kernel_rfl) (fun w' hC => run_asg (v := .slice (some ⟨b3, 0, none⟩) _ _) rfl (by exact rfl)) hCst2 ?_
  refine h_one (i := 2) (by kernel_rfl) ?_
  refine h_do (by exact rfl) ?_
  refine r_make (len := 1) (zs := [_, _]) Try.underlying92 ty_149 (by exact rfl) rfl rfl (by exact rfl) (by exact rfl) (by omega) (by omega) (by omega) (by omega) ?_
  intro b5 w6 heb5 hEw6 hfb5 hzb5
  have hs_w6 := (hEw6).size
  replace hV := evo_step0 hV hEw6
  replace hCst2 := evo_step0 hCst2 hEw6
  replace hrb3 := hrb3.evo0 hEw6
  have hrb5 : RowR w6 (some ⟨b5, 0, none⟩) b5 0 1 (List.replicate 1 (⟨0, []⟩ : Side)) := fb_rowR hfb5 (fun w9 => side_nil w9 0) (by omega)
  refine r_knowL (i := 20) (v := .slice (some ⟨b5, 0, none⟩) (List.replicate 1 (⟨0, []⟩ : Side)).length 1) (congrArg (fun q9 => Value.slice (some ⟨b5, 0, none⟩) q9 1) (List.length_replicate (n := 1) (a := (⟨0, []⟩ : Side))).symm) ?_
  refine h_next hCst2 ?_
  refine h_take (i := 4) (by exact rfl) rfl rfl rfl (by kernel_rfl) (fun w' hC => run_asg (v := .slice (some ⟨b5, 0, none⟩) _ _) rfl (by exact rfl)) hCst2 ?_
  refine h_done (by kernel_rfl) ?_
  refine r_seq ?_
  refine r_seq ?_
  refine r_region ?_
  refine r_op rfl rfl rfl (run_mvb rfl (by exact rfl)) ?_
  refine r_nil ?_
  refine r_cond (by exact rfl) (fun hc7 => ?_) (fun hc7 => ?_)
  ·skip
   refine r_region ?_
   refine r_op rfl rfl rfl (run_mv (v := .slice (some ⟨b5, 0, none⟩) _ _) rfl (by exact rfl)) ?_
   refine r_op rfl rfl rfl (run_mv (v := .slice (some ⟨b3, 0, none⟩) _ _) rfl (by exact rfl)) ?_
   refine r_op rfl rfl rfl (run_asg (v := .slice (some ⟨b5, 0, none⟩) _ _) rfl (by exact rfl)) ?_
   refine r_op rfl rfl rfl (run_asg (v := .slice (some ⟨b3, 0, none⟩) _ _) rfl (by exact rfl)) ?_
   refine r_nil ?_
   refine r_seq ?_
   refine r_region ?_
   refine r_op rfl rfl rfl (run_mv (v := .slice (some ⟨b5, 0, none⟩) _ _) rfl (by exact rfl)) ?_
   refine r_op rfl rfl rfl (run_mv (v := .slice (some ⟨b3, 0, none⟩) _ _) rfl (by exact rfl)) ?_
   refine r_opcall rfl rfl rfl (run_callf (vs := [.slice (some ⟨b5, 0, none⟩) _ _, .slice (some ⟨b3, 0, none⟩) _ _]) rfl (by exact rfl) Try.func66 rfl (by kernel_rfl)) (align_calls hrb5 hrb3) ?_
   rintro e w8 ⟨va8, rfl, hE8, ho8⟩
   refine ⟨_, rfl, ?_⟩
   have hs_w8 := (hE8).size
   replace hV := evo_step0 hV hE8
   replace hrb3 := hrb3.evo0 hE8
   replace hrb5 := hrb5.evo0 hE8
   refine r_op rfl rfl rfl (run_mv (v := .tuple _) rfl (by exact rfl)) ?_
   refine r_op rfl rfl rfl (run_extract (v := va8) rfl (by exact rfl) (by exact rfl)) ?_
   refine r_op rfl rfl rfl (run_extract (v := .int _ _) rfl (by exact rfl) (by exact rfl)) ?_
   refine r_op rfl rfl rfl (run_extract (v := .int _ _) rfl (by exact rfl) (by exact rfl)) ?_
   refine r_op rfl rfl rfl (run_asg (v := va8) rfl (by exact rfl)) ?_
   refine r_op rfl rfl rfl (run_asg (v := .int _ _) rfl (by exact rfl)) ?_
   refine r_op rfl rfl rfl (run_asg (v := .int _ _) rfl (by exact rfl)) ?_
   refine r_nil ?_
   refine r_seq ?_
   refine r_region ?_
   refine r_op rfl rfl rfl (run_mv (v := .int _ _) rfl (by exact rfl)) ?_
   refine r_make (len := N) (zs := [_]) Try.underlying90 ty_85 (by exact rfl) rfl rfl (by exact rfl) (by exact rfl) (by omega) (by omega) (by omega) (by omega) ?_
   intro b9 w10 heb9 hEw10 hfb9 hzb9
   have hs_w10 := (hEw10).size
   replace hV := evo_step0 hV hEw10
   replace hrb3 := hrb3.evo0 hEw10
   replace hrb5 := hrb5.evo0 hEw10
   replace ho8 := ho8.evo0 hEw10
   have hrb9 : RowR w10 (some ⟨b9, 0, none⟩) b9 0 N (List.replicate N ([] : List Vc.Item)) := fb_rowR hfb9 (fun w9 => ⟨none, 0, 0, 0, rfl, RowE.nil _ _ _ _ _⟩) (by omega)
   refine r_knowL (i := 33) (v := .slice (some ⟨b9, 0, none⟩) (List.replicate N ([] : List Vc.Item)).length N) (congrArg (fun q9 => Value.slice (some ⟨b9, 0, none⟩) q9 N) (List.length_replicate (n := N) (a := ([] : List Vc.Item))).symm) ?_
   refine r_opcall rfl rfl rfl (run_callf (vs := [.slice (some ⟨b9, 0, none⟩) _ _]) rfl (by exact rfl) Try.func63 rfl (by kernel_rfl)) (sides_calls hrb9 (rep_mid N)) ?_
   rintro e w11 ⟨vs11, rfl, hE11, hoS11⟩
   refine ⟨_, rfl, ?_⟩
   have hs_w11 := (hE11).size
   replace hV := evo_step0 hV hE11
   replace hrb3 := hrb3.evo0 hE11
   replace hrb5 := hrb5.evo0 hE11
   replace ho8 := ho8.evo0 hE11
   replace hrb9 := hrb9.evo0 hE11
   refine r_op rfl rfl rfl (run_mv (v := .tuple _) rfl (by exact rfl)) ?_
   refine r_op rfl rfl rfl (run_extract (v := vs11) rfl (by exact rfl) (by exact rfl)) ?_
   refine r_op rfl rfl rfl (run_extract (v := .int _ _) rfl (by exact rfl) (by exact rfl)) ?_
   refine r_op rfl rfl rfl (run_asg (v := vs11) rfl (by exact rfl)) ?_
   refine r_op rfl rfl rfl (run_asg (v := .int _ _) rfl (by exact rfl)) ?_
   refine r_nil ?_
   refine r_seq ?_
   refine r_region ?_
   refine r_op rfl rfl rfl (run_asg (v := .int _ _) rfl (by exact rfl)) ?_
   refine r_nil ?_
   refine r_seq ?_
   refine r_seq ?_
   refine r_region ?_
   refine r_op rfl rfl rfl (run_mv (v := .int _ _) rfl (by exact rfl)) ?_
   refine r_op rfl rfl rfl (run_gtr rfl (by exact rfl) (by exact rfl)) ?_
   refine r_nil ?_
   refine r_cond (by exact rfl) (fun hc12 => ?_) (fun hc12 => ?_)
   ·skip
    refine r_region ?_
    refine r_op rfl rfl rfl (run_asg (v := .int _ _) rfl (by exact rfl)) ?_
    refine r_nil ?_
    refine r_seq ?_
    refine r_region ?_
    refine r_op rfl rfl rfl (run_mv (v := .int _ _) rfl (by exact rfl)) ?_
    refine r_op rfl rfl rfl (run_mv (v := .int _ _) rfl (by exact rfl)) ?_
    refine r_op rfl rfl rfl (run_eql rfl (by exact rfl) (by exact rfl)) ?_
    refine r_op rfl rfl rfl (run_mv (v := .bool _) rfl (by exact rfl)) ?_
    refine r_gyes rfl (wantT (by exact rfl)) (by exact (by rw [al_e, List.length_replicate, List.length_replicate]; first | rw [if_pos (by omega)] | rw [if_neg (by omega)])) ?_
    refine r_op rfl rfl rfl (run_mv (v := .int _ _) rfl (by exact rfl)) ?_
    refine r_gyes rfl (wantT (by exact rfl)) (by exact (by rw [al_e, List.length_replicate, List.length_replicate]; first | rw [if_pos (by omega)] | rw [if_neg (by omega)])) ?_
    refine r_op rfl rfl rfl (run_mv (v := .int _ _) rfl (by exact rfl)) ?_
    refine r_gyes rfl (wantT (by exact rfl)) (by exact (by rw [al_e, List.length_replicate, List.length_replicate]; first | rw [if_pos (by omega)] | rw [if_neg (by omega)])) ?_
    refine r_op rfl rfl rfl (run_eql rfl (by exact rfl) (by exact rfl)) ?_
    refine r_op rfl rfl rfl (run_pick_and rfl (by exact rfl) (fun _ => (by exact rfl)) rfl) ?_
    refine r_op rfl rfl rfl (run_mv (v := .bool _) rfl (by exact rfl)) ?_
    refine r_gyes rfl (wantT (by exact rfl)) (by exact ⟨(by rw [al_e, List.length_replicate, List.length_replicate]; first | rw [if_pos (by omega)] | rw [if_neg (by omega)]), (by rw [sides_rep]; first | rw [if_pos (by omega)] | rw [if_neg (by omega)])⟩) ?_
    refine r_opcall rfl rfl rfl (run_callf (vs := []) rfl (by exact rfl) Try.func61 rfl (by kernel_rfl)) aknown_calls ?_
    rintro e w13 ⟨rfl, hE13⟩
    refine ⟨_, rfl, ?_⟩
    have hs_w13 := (hE13).size
    replace hV := evo_step0 hV hE13
    replace hrb3 := hrb3.evo0 hE13
    replace hrb5 := hrb5.evo0 hE13
    replace ho8 := ho8.evo0 hE13
    replace hrb9 := hrb9.evo0 hE13
    replace hoS11 := hoS11.evo0 hE13
    refine r_op rfl rfl rfl (run_pick_andB rfl (by exact rfl) (fun _ => (by exact rfl)) rfl) ?_
    refine r_op rfl rfl rfl (run_asg (v := .bool _) rfl (by exact rfl)) ?_
    refine r_nil ?_
    refine r_ret (res1 (v := .bool _) rfl (by exact rfl)) ?_
    exact ⟨ret_bool (decide_eq_true ⟨⟨(by rw [al_e, List.length_replicate, List.length_replicate]; first | rw [if_pos (by omega)] | rw [if_neg (by omega)]), (by rw [sides_rep]; first | rw [if_pos (by omega)] | rw [if_neg (by omega)])⟩, rfl⟩), hV⟩
   ·skip
    refine r_skip ?_
    refine r_seq ?_
    refine r_region ?_
    refine r_op rfl rfl rfl (run_mv (v := .int _ _) rfl (by exact rfl)) ?_
    refine r_op rfl rfl rfl (run_mv (v := .int _ _) rfl (by exact rfl)) ?_
    refine r_op rfl rfl rfl (run_eql rfl (by exact rfl) (by exact rfl)) ?_
    refine r_op rfl rfl rfl (run_mv (v := .bool _) rfl (by exact rfl)) ?_
    refine r_gyes rfl (wantT (by exact rfl)) (by exact (by rw [al_e, List.length_replicate, List.length_replicate]; first | rw [if_pos (by omega)] | rw [if_neg (by omega)])) ?_
    refine r_op rfl rfl rfl (run_mv (v := .int _ _) rfl (by exact rfl)) ?_
    refine r_gyes rfl (wantT (by exact rfl)) (by exact (by rw [al_e, List.length_replicate, List.length_replicate]; first | rw [if_pos (by omega)] | rw [if_neg (by omega)])) ?_
    refine r_op rfl rfl rfl (run_mv (v := .int _ _) rfl (by exact rfl)) ?_
    refine r_gyes rfl (wantT (by exact rfl)) (by exact (by rw [al_e, List.length_replicate, List.length_replicate]; first | rw [if_pos (by omega)] | rw [if_neg (by omega)])) ?_
    refine r_op rfl rfl rfl (run_eql rfl (by exact rfl) (by exact rfl)) ?_
    refine r_op rfl rfl rfl (run_pick_and rfl (by exact rfl) (fun _ => (by exact rfl)) rfl) ?_
    refine r_op rfl rfl rfl (run_mv (v := .bool _) rfl (by exact rfl)) ?_
    refine r_gyes rfl (wantT (by exact rfl)) (by exact ⟨(by rw [al_e, List.length_replicate, List.length_replicate]; first | rw [if_pos (by omega)] | rw [if_neg (by omega)]), (by rw [sides_rep]; first | rw [if_pos (by omega)] | rw [if_neg (by omega)])⟩) ?_
    refine r_opcall rfl rfl rfl (run_callf (vs := []) rfl (by exact rfl) Try.func61 rfl (by kernel_rfl)) aknown_calls ?_
    rintro e w14 ⟨rfl, hE14⟩
    refine ⟨_, rfl, ?_⟩
    have hs_w14 := (hE14).size
    replace hV := evo_step0 hV hE14
    replace hrb3 := hrb3.evo0 hE14
    replace hrb5 := hrb5.evo0 hE14
    replace ho8 := ho8.evo0 hE14
    replace hrb9 := hrb9.evo0 hE14
    replace hoS11 := hoS11.evo0 hE14
    refine r_op rfl rfl rfl (run_pick_andB rfl (by exact rfl) (fun _ => (by exact rfl)) rfl) ?_
    refine r_op rfl rfl rfl (run_asg (v := .bool _) rfl (by exact rfl)) ?_
    refine r_nil ?_
    refine r_ret (res1 (v := .bool _) rfl (by exact rfl)) ?_
    exact ⟨ret_bool (decide_eq_true ⟨⟨(by rw [al_e, List.length_replicate, List.length_replicate]; first | rw [if_pos (by omega)] | rw [if_neg (by omega)]), (by rw [sides_rep]; first | rw [if_pos (by omega)] | rw [if_neg (by omega)])⟩, rfl⟩), hV⟩
  ·skip
   refine r_skip ?_
   refine r_seq ?_
   refine r_region ?_
   refine r_op rfl rfl rfl (run_mv (v := .slice (some ⟨b3, 0, none⟩) _ _) rfl (by exact rfl)) ?_
   refine r_op rfl rfl rfl (run_mv (v := .slice (some ⟨b5, 0, none⟩) _ _) rfl (by exact rfl)) ?_
   refine r_opcall rfl rfl rfl (run_callf (vs := [.slice (some ⟨b3, 0, none⟩) _ _, .slice (some ⟨b5, 0, none⟩) _ _]) rfl (by exact rfl) Try.func66 rfl (by kernel_rfl)) (align_calls hrb3 hrb5) ?_
   rintro e w15 ⟨va15, rfl, hE15, ho15⟩
   refine ⟨_, rfl, ?_⟩
   have hs_w15 := (hE15).size
   replace hV := evo_step0 hV hE15
   replace hrb3 := hrb3.evo0 hE15
   replace hrb5 := hrb5.evo0 hE15
   refine r_op rfl rfl rfl (run_mv (v := .tuple _) rfl (by exact rfl)) ?_
   refine r_op rfl rfl rfl (run_extract (v := va15) rfl (by exact rfl) (by exact rfl)) ?_
   refine r_op rfl rfl rfl (run_extract (v := .int _ _) rfl (by exact rfl) (by exact rfl)) ?_
   refine r_op rfl rfl rfl (run_extract (v := .int _ _) rfl (by exact rfl) (by exact rfl)) ?_
   refine r_op rfl rfl rfl (run_asg (v := va15) rfl (by exact rfl)) ?_
   refine r_op rfl rfl rfl (run_asg (v := .int _ _) rfl (by exact rfl)) ?_
   refine r_op rfl rfl rfl (run_asg (v := .int _ _) rfl (by exact rfl)) ?_
   refine r_nil ?_
   refine r_seq ?_
   refine r_region ?_
   refine r_op rfl rfl rfl (run_mv (v := .int _ _) rfl (by exact rfl)) ?_
   refine r_make (len := N) (zs := [_]) Try.underlying90 ty_85 (by exact rfl) rfl rfl (by exact rfl) (by exact rfl) (by omega) (by omega) (by omega) (by omega) ?_
   intro b16 w17 heb16 hEw17 hfb16 hzb16
   have hs_w17 := (hEw17).size
   replace hV := evo_step0 hV hEw17
   replace hrb3 := hrb3.evo0 hEw17
   replace hrb5 := hrb5.evo0 hEw17
   replace ho15 := ho15.evo0 hEw17
   have hrb16 : RowR w17 (some ⟨b16, 0, none⟩) b16 0 N (List.replicate N ([] : List Vc.Item)) := fb_rowR hfb16 (fun w9 => ⟨none, 0, 0, 0, rfl, RowE.nil _ _ _ _ _⟩) (by omega)
   refine r_knowL (i := 33) (v := .slice (some ⟨b16, 0, none⟩) (List.replicate N ([] : List Vc.Item)).length N) (congrArg (fun q9 => Value.slice (some ⟨b16, 0, none⟩) q9 N) (List.length_replicate (n := N) (a := ([] : List Vc.Item))).symm) ?_
   refine r_opcall rfl rfl rfl (run_callf (vs := [.slice (some ⟨b16, 0, none⟩) _ _]) rfl (by exact rfl) Try.func63 rfl (by kernel_rfl)) (sides_calls hrb16 (rep_mid N)) ?_
   rintro e w18 ⟨vs18, rfl, hE18, hoS18⟩
   refine ⟨_, rfl, ?_⟩
   have hs_w18 := (hE18).size
   replace hV := evo_step0 hV hE18
   replace hrb3 := hrb3.evo0 hE18
   replace hrb5 := hrb5.evo0 hE18
   replace ho15 := ho15.evo0 hE18
   replace hrb16 := hrb16.evo0 hE18
   refine r_op rfl rfl rfl (run_mv (v := .tuple _) rfl (by exact rfl)) ?_
   refine r_op rfl rfl rfl (run_extract (v := vs18) rfl (by exact rfl) (by exact rfl)) ?_
   refine r_op rfl rfl rfl (run_extract (v := .int _ _) rfl (by exact rfl) (by exact rfl)) ?_
   refine r_op rfl rfl rfl (run_asg (v := vs18) rfl (by exact rfl)) ?_
   refine r_op rfl rfl rfl (run_asg (v := .int _ _) rfl (by exact rfl)) ?_
   refine r_nil ?_
   refine r_seq ?_
   refine r_region ?_
   refine r_op rfl rfl rfl (run_asg (v := .int _ _) rfl (by exact rfl)) ?_
   refine r_nil ?_
   refine r_seq ?_
   refine r_seq ?_
   refine r_region ?_
   refine r_op rfl rfl rfl (run_mv (v := .int _ _) rfl (by exact rfl)) ?_
   refine r_op rfl rfl rfl (run_gtr rfl (by exact rfl) (by exact rfl)) ?_
   refine r_nil ?_
   refine r_cond (by exact rfl) (fun hc19 => ?_) (fun hc19 => ?_)
   ·skip
    refine r_region ?_
    refine r_op rfl rfl rfl (run_asg (v := .int _ _) rfl (by exact rfl)) ?_
    refine r_nil ?_
    refine r_seq ?_
    refine r_region ?_
    refine r_op rfl rfl rfl (run_mv (v := .int _ _) rfl (by exact rfl)) ?_
    refine r_op rfl rfl rfl (run_mv (v := .int _ _) rfl (by exact rfl)) ?_
    refine r_op rfl rfl rfl (run_eql rfl (by exact rfl) (by exact rfl)) ?_
    refine r_op rfl rfl rfl (run_mv (v := .bool _) rfl (by exact rfl)) ?_
    refine r_gyes rfl (wantT (by exact rfl)) (by exact (by rw [al_e, List.length_replicate, List.length_replicate]; first | rw [if_pos (by omega)] | rw [if_neg (by omega)])) ?_
    refine r_op rfl rfl rfl (run_mv (v := .int _ _) rfl (by exact rfl)) ?_
    refine r_gyes rfl (wantT (by exact rfl)) (by exact (by rw [al_e, List.length_replicate, List.length_replicate]; first | rw [if_pos (by omega)] | rw [if_neg (by omega)])) ?_
    refine r_op rfl rfl rfl (run_mv (v := .int _ _) rfl (by exact rfl)) ?_
    refine r_gyes rfl (wantT (by exact rfl)) (by exact (by rw [al_e, List.length_replicate, List.length_replicate]; first | rw [if_pos (by omega)] | rw [if_neg (by omega)])) ?_
    refine r_op rfl rfl rfl (run_eql rfl (by exact rfl) (by exact rfl)) ?_
    refine r_op rfl rfl rfl (run_pick_and rfl (by exact rfl) (fun _ => (by exact rfl)) rfl) ?_
    refine r_op rfl rfl rfl (run_mv (v := .bool _) rfl (by exact rfl)) ?_
    refine r_gyes rfl (wantT (by exact rfl)) (by exact ⟨(by rw [al_e, List.length_replicate, List.length_replicate]; first | rw [if_pos (by omega)] | rw [if_neg (by omega)]), (by rw [sides_rep]; first | rw [if_pos (by omega)] | rw [if_neg (by omega)])⟩) ?_
    refine r_opcall rfl rfl rfl (run_callf (vs := []) rfl (by exact rfl) Try.func61 rfl (by kernel_rfl)) aknown_calls ?_
    rintro e w20 ⟨rfl, hE20⟩
    refine ⟨_, rfl, ?_⟩
    have hs_w20 := (hE20).size
    replace hV := evo_step0 hV hE20
    replace hrb3 := hrb3.evo0 hE20
    replace hrb5 := hrb5.evo0 hE20
    replace ho15 := ho15.evo0 hE20
    replace hrb16 := hrb16.evo0 hE20
    replace hoS18 := hoS18.evo0 hE20
    refine r_op rfl rfl rfl (run_pick_andB rfl (by exact rfl) (fun _ => (by exact rfl)) rfl) ?_
    refine r_op rfl rfl rfl (run_asg (v := .bool _) rfl (by exact rfl)) ?_
    refine r_nil ?_
    refine r_ret (res1 (v := .bool _) rfl (by exact rfl)) ?_
    exact ⟨ret_bool (decide_eq_true ⟨⟨(by rw [al_e, List.length_replicate, List.length_replicate]; first | rw [if_pos (by omega)] | rw [if_neg (by omega)]), (by rw [sides_rep]; first | rw [if_pos (by omega)] | rw [if_neg (by omega)])⟩, rfl⟩), hV⟩
   ·skip
    refine r_skip ?_
    refine r_seq ?_
    refine r_region ?_
    refine r_op rfl rfl rfl (run_mv (v := .int _ _) rfl (by exact rfl)) ?_
    refine r_op rfl rfl rfl (run_mv (v := .int _ _) rfl (by exact rfl)) ?_
    refine r_op rfl rfl rfl (run_eql rfl (by exact rfl) (by exact rfl)) ?_
    refine r_op rfl rfl rfl (run_mv (v := .bool _) rfl (by exact rfl)) ?_
    refine r_gyes rfl (wantT (by exact rfl)) (by exact (by rw [al_e, List.length_replicate, List.length_replicate]; first | rw [if_pos (by omega)] | rw [if_neg (by omega)])) ?_
    refine r_op rfl rfl rfl (run_mv (v := .int _ _) rfl (by exact rfl)) ?_
    refine r_gyes rfl (wantT (by exact rfl)) (by exact (by rw [al_e, List.length_replicate, List.length_replicate]; first | rw [if_pos (by omega)] | rw [if_neg (by omega)])) ?_
    refine r_op rfl rfl rfl (run_mv (v := .int _ _) rfl (by exact rfl)) ?_
    refine r_gyes rfl (wantT (by exact rfl)) (by exact (by rw [al_e, List.length_replicate, List.length_replicate]; first | rw [if_pos (by omega)] | rw [if_neg (by omega)])) ?_
    refine r_op rfl rfl rfl (run_eql rfl (by exact rfl) (by exact rfl)) ?_
    refine r_op rfl rfl rfl (run_pick_and rfl (by exact rfl) (fun _ => (by exact rfl)) rfl) ?_
    refine r_op rfl rfl rfl (run_mv (v := .bool _) rfl (by exact rfl)) ?_
    refine r_gyes rfl (wantT (by exact rfl)) (by exact ⟨(by rw [al_e, List.length_replicate, List.length_replicate]; first | rw [if_pos (by omega)] | rw [if_neg (by omega)]), (by rw [sides_rep]; first | rw [if_pos (by omega)] | rw [if_neg (by omega)])⟩) ?_
    refine r_opcall rfl rfl rfl (run_callf (vs := []) rfl (by exact rfl) Try.func61 rfl (by kernel_rfl)) aknown_calls ?_
    rintro e w21 ⟨rfl, hE21⟩
    refine ⟨_, rfl, ?_⟩
    have hs_w21 := (hE21).size
    replace hV := evo_step0 hV hE21
    replace hrb3 := hrb3.evo0 hE21
    replace hrb5 := hrb5.evo0 hE21
    replace ho15 := ho15.evo0 hE21
    replace hrb16 := hrb16.evo0 hE21
    replace hoS18 := hoS18.evo0 hE21
    refine r_op rfl rfl rfl (run_pick_andB rfl (by exact rfl) (fun _ => (by exact rfl)) rfl) ?_
    refine r_op rfl rfl rfl (run_asg (v := .bool _) rfl (by exact rfl)) ?_
    refine r_nil ?_
    refine r_ret (res1 (v := .bool _) rfl (by exact rfl)) ?_
    exact ⟨ret_bool (decide_eq_true ⟨⟨(by rw [al_e, List.length_replicate, List.length_replicate]; first | rw [if_pos (by omega)] | rw [if_neg (by omega)]), (by rw [sides_rep]; first | rw [if_pos (by omega)] | rw [if_neg (by omega)])⟩, rfl⟩), hV⟩
 ·skip
  refine h_do (by exact rfl) ?_
  refine r_make (len := 1) (zs := [_, _]) Try.underlying92 ty_149 (by exact rfl) rfl rfl (by exact rfl) (by exact rfl) (by omega) (by omega) (by omega) (by omega) ?_
  intro b22 w23 heb22 hEw23 hfb22 hzb22
  have hs_w23 := (hEw23).size
  replace hV := evo_step0 hV hEw23
  replace hCst2 := evo_step0 hCst2 hEw23
  have hrb22 : RowR w23 (some ⟨b22, 0, none⟩) b22 0 1 (List.replicate 1 (⟨0, []⟩ : Side)) := fb_rowR hfb22 (fun w9 => side_nil w9 0) (by omega)
  refine r_knowL (i := 20) (v := .slice (some ⟨b22, 0, none⟩) (List.replicate 1 (⟨0, []⟩ : Side)).length 1) (congrArg (fun q9 => Value.slice (some ⟨b22, 0, none⟩) q9 1) (List.length_replicate (n := 1) (a := (⟨0, []⟩ : Side))).symm) ?_
  refine h_next hCst2 ?_
  refine h_one (i := 1) (by kernel_rfl) ?_
  refine h_do (by exact rfl) ?_
  refine r_make (len := N) (zs := [_, _]) Try.underlying92 ty_149 (by exact rfl) rfl rfl (by exact rfl) (by exact rfl) (by omega) (by omega) (by omega) (by omega) ?_
  intro b24 w25 heb24 hEw25 hfb24 hzb24
  have hs_w25 := (hEw25).size
  replace hV := evo_step0 hV hEw25
  replace hCst2 := evo_step0 hCst2 hEw25
  replace hrb22 := hrb22.evo0 hEw25
  have hrb24 : RowR w25 (some ⟨b24, 0, none⟩) b24 0 N (List.replicate N (⟨0, []⟩ : Side)) := fb_rowR hfb24 (fun w9 => side_nil w9 0) (by omega)
  refine r_knowL (i := 19) (v := .slice (some ⟨b24, 0, none⟩) (List.replicate N (⟨0, []⟩ : Side)).length N) (congrArg (fun q9 => Value.slice (some ⟨b24, 0, none⟩) q9 N) (List.length_replicate (n := N) (a := (⟨0, []⟩ : Side))).symm) ?_
  refine h_next hCst2 ?_
  refine h_take (i := 3) (by exact rfl) rfl rfl rfl (by kernel_rfl) (fun w' hC => run_asg (v := .slice (some ⟨b24, 0, none⟩) _ _) rfl (by exact rfl)) hCst2 ?_
  refine h_take (i := 4) (by exact rfl) rfl rfl rfl (by kernel_rfl) (fun w' hC => run_asg (v := .slice (some ⟨b22, 0, none⟩) _ _) rfl (by exact rfl)) hCst2 ?_
  refine h_done (by kernel_rfl) ?_
  refine r_seq ?_
  refine r_seq ?_
  refine r_region ?_
  refine r_op rfl rfl rfl (run_mvb rfl (by exact rfl)) ?_
  refine r_nil ?_
  refine r_cond (by exact rfl) (fun hc26 => ?_) (fun hc26 => ?_)
  ·skip
   refine r_region ?_
   refine r_op rfl rfl rfl (run_mv (v := .slice (some ⟨b22, 0, none⟩) _ _) rfl (by exact rfl)) ?_
   refine r_op rfl rfl rfl (run_mv (v := .slice (some ⟨b24, 0, none⟩) _ _) rfl (by exact rfl)) ?_
   refine r_op rfl rfl rfl (run_asg (v := .slice (some ⟨b22, 0, none⟩) _ _) rfl (by exact rfl)) ?_
   refine r_op rfl rfl rfl (run_asg (v := .slice (some ⟨b24, 0, none⟩) _ _) rfl (by exact rfl)) ?_
   refine r_nil ?_
   refine r_seq ?_
   refine r_region ?_
   refine r_op rfl rfl rfl (run_mv (v := .slice (some ⟨b22, 0, none⟩) _ _) rfl (by exact rfl)) ?_
   refine r_op rfl rfl rfl (run_mv (v := .slice (some ⟨b24, 0, none⟩) _ _) rfl (by exact rfl)) ?_
   refine r_opcall rfl rfl rfl (run_callf (vs := [.slice (some ⟨b22, 0, none⟩) _ _, .slice (some ⟨b24, 0, none⟩) _ _]) rfl (by exact rfl) Try.func66 rfl (by kernel_rfl)) (align_calls hrb22 hrb24) ?_
   rintro e w27 ⟨va27, rfl, hE27, ho27⟩
   refine ⟨_, rfl, ?_⟩
   have hs_w27 := (hE27).size
   replace hV := evo_step0 hV hE27
   replace hrb22 := hrb22.evo0 hE27
   replace hrb24 := hrb24.evo0 hE27
   refine r_op rfl rfl rfl (run_mv (v := .tuple _) rfl (by exact rfl)) ?_
   refine r_op rfl rfl rfl (run_extract (v := va27) rfl (by exact rfl) (by exact rfl)) ?_
   refine r_op rfl rfl rfl (run_extract (v := .int _ _) rfl (by exact rfl) (by exact rfl)) ?_
   refine r_op rfl rfl rfl (run_extract (v := .int _ _) rfl (by exact rfl) (by exact rfl)) ?_
   refine r_op rfl rfl rfl (run_asg (v := va27) rfl (by exact rfl)) ?_
   refine r_op rfl rfl rfl (run_asg (v := .int _ _) rfl (by exact rfl)) ?_
   refine r_op rfl rfl rfl (run_asg (v := .int _ _) rfl (by exact rfl)) ?_
   refine r_nil ?_
   refine r_seq ?_
   refine r_region ?_
   refine r_op rfl rfl rfl (run_mv (v := .int _ _) rfl (by exact rfl)) ?_
   refine r_make (len := N) (zs := [_]) Try.underlying90 ty_85 (by exact rfl) rfl rfl (by exact rfl) (by exact rfl) (by omega) (by omega) (by omega) (by omega) ?_
   intro b28 w29 heb28 hEw29 hfb28 hzb28
   have hs_w29 := (hEw29).size
   replace hV := evo_step0 hV hEw29
   replace hrb22 := hrb22.evo0 hEw29
   replace hrb24 := hrb24.evo0 hEw29
   replace ho27 := ho27.evo0 hEw29
   have hrb28 : RowR w29 (some ⟨b28, 0, none⟩) b28 0 N (List.replicate N ([] : List Vc.Item)) := fb_rowR hfb28 (fun w9 => ⟨none, 0, 0, 0, rfl, RowE.nil _ _ _ _ _⟩) (by omega)
   refine r_knowL (i := 33) (v := .slice (some ⟨b28, 0, none⟩) (List.replicate N ([] : List Vc.Item)).length N) (congrArg (fun q9 => Value.slice (some ⟨b28, 0, none⟩) q9 N) (List.length_replicate (n := N) (a := ([] : List Vc.Item))).symm) ?_
   refine r_opcall rfl rfl rfl (run_callf (vs := [.slice (some ⟨b28, 0, none⟩) _ _]) rfl (by exact rfl) Try.func63 rfl (by kernel_rfl)) (sides_calls hrb28 (rep_mid N)) ?_
   rintro e w30 ⟨vs30, rfl, hE30, hoS30⟩
   refine ⟨_, rfl, ?_⟩
   have hs_w30 := (hE30).size
   replace hV := evo_step0 hV hE30
   replace hrb22 := hrb22.evo0 hE30
   replace hrb24 := hrb24.evo0 hE30
   replace ho27 := ho27.evo0 hE30
   replace hrb28 := hrb28.evo0 hE30
   refine r_op rfl rfl rfl (run_mv (v := .tuple _) rfl (by exact rfl)) ?_
   refine r_op rfl rfl rfl (run_extract (v := vs30) rfl (by exact rfl) (by exact rfl)) ?_
   refine r_op rfl rfl rfl (run_extract (v := .int _ _) rfl (by exact rfl) (by exact rfl)) ?_
   refine r_op rfl rfl rfl (run_asg (v := vs30) rfl (by exact rfl)) ?_
   refine r_op rfl rfl rfl (run_asg (v := .int _ _) rfl (by exact rfl)) ?_
   refine r_nil ?_
   refine r_seq ?_
   refine r_region ?_
   refine r_op rfl rfl rfl (run_asg (v := .int _ _) rfl (by exact rfl)) ?_
   refine r_nil ?_
   refine r_seq ?_
   refine r_seq ?_
   refine r_region ?_
   refine r_op rfl rfl rfl (run_mv (v := .int _ _) rfl (by exact rfl)) ?_
   refine r_op rfl rfl rfl (run_gtr rfl (by exact rfl) (by exact rfl)) ?_
   refine r_nil ?_
   refine r_cond (by exact rfl) (fun hc31 => ?_) (fun hc31 => ?_)
   ·skip
    refine r_region ?_
    refine r_op rfl rfl rfl (run_asg (v := .int _ _) rfl (by exact rfl)) ?_
    refine r_nil ?_
    refine r_seq ?_
    refine r_region ?_
    refine r_op rfl rfl rfl (run_mv (v := .int _ _) rfl (by exact rfl)) ?_
    refine r_op rfl rfl rfl (run_mv (v := .int _ _) rfl (by exact rfl)) ?_
    refine r_op rfl rfl rfl (run_eql rfl (by exact rfl) (by exact rfl)) ?_
    refine r_op rfl rfl rfl (run_mv (v := .bool _) rfl (by exact rfl)) ?_
    refine r_gyes rfl (wantT (by exact rfl)) (by exact (by rw [al_e, List.length_replicate, List.length_replicate]; first | rw [if_pos (by omega)] | rw [if_neg (by omega)])) ?_
    refine r_op rfl rfl rfl (run_mv (v := .int _ _) rfl (by exact rfl)) ?_
    refine r_gyes rfl (wantT (by exact rfl)) (by exact (by rw [al_e, List.length_replicate, List.length_replicate]; first | rw [if_pos (by omega)] | rw [if_neg (by omega)])) ?_
    refine r_op rfl rfl rfl (run_mv (v := .int _ _) rfl (by exact rfl)) ?_
    refine r_gyes rfl (wantT (by exact rfl)) (by exact (by rw [al_e, List.length_replicate, List.length_replicate]; first | rw [if_pos (by omega)] | rw [if_neg (by omega)])) ?_
    refine r_op rfl rfl rfl (run_eql rfl (by exact rfl) (by exact rfl)) ?_
    refine r_op rfl rfl rfl (run_pick_and rfl (by exact rfl) (fun _ => (by exact rfl)) rfl) ?_
    refine r_op rfl rfl rfl (run_mv (v := .bool _) rfl (by exact rfl)) ?_
    refine r_gyes rfl (wantT (by exact rfl)) (by exact ⟨(by rw [al_e, List.length_replicate, List.length_replicate]; first | rw [if_pos (by omega)] | rw [if_neg (by omega)]), (by rw [sides_rep]; first | rw [if_pos (by omega)] | rw [if_neg (by omega)])⟩) ?_
    refine r_opcall rfl rfl rfl (run_callf (vs := []) rfl (by exact rfl) Try.func61 rfl (by kernel_rfl)) aknown_calls ?_
    rintro e w32 ⟨rfl, hE32⟩
    refine ⟨_, rfl, ?_⟩
    have hs_w32 := (hE32).size
    replace hV := evo_step0 hV hE32
    replace hrb22 := hrb22.evo0 hE32
    replace hrb24 := hrb24.evo0 hE32
    replace ho27 := ho27.evo0 hE32
    replace hrb28 := hrb28.evo0 hE32
    replace hoS30 := hoS30.evo0 hE32
    refine r_op rfl rfl rfl (run_pick_andB rfl (by exact rfl) (fun _ => (by exact rfl)) rfl) ?_
    refine r_op rfl rfl rfl (run_asg (v := .bool _) rfl (by exact rfl)) ?_
    refine r_nil ?_
    refine r_ret (res1 (v := .bool _) rfl (by exact rfl)) ?_
    exact ⟨ret_bool (decide_eq_true ⟨⟨(by rw [al_e, List.length_replicate, List.length_replicate]; first | rw [if_pos (by omega)] | rw [if_neg (by omega)]), (by rw [sides_rep]; first | rw [if_pos (by omega)] | rw [if_neg (by omega)])⟩, rfl⟩), hV⟩
   ·skip
    refine r_skip ?_
    refine r_seq ?_
    refine r_region ?_
    refine r_op rfl rfl rfl (run_mv (v := .int _ _) rfl (by exact rfl)) ?_
    refine r_op rfl rfl rfl (run_mv (v := .int _ _) rfl (by exact rfl)) ?_
    refine r_op rfl rfl rfl (run_eql rfl (by exact rfl) (by exact rfl)) ?_
    refine r_op rfl rfl rfl (run_mv (v := .bool _) rfl (by exact rfl)) ?_
    refine r_gyes rfl (wantT (by exact rfl)) (by exact (by rw [al_e, List.length_replicate, List.length_replicate]; first | rw [if_pos (by omega)] | rw [if_neg (by omega)])) ?_
    refine r_op rfl rfl rfl (run_mv (v := .int _ _) rfl (by exact rfl)) ?_
    refine r_gyes rfl (wantT (by exact rfl)) (by exact (by rw [al_e, List.length_replicate, List.length_replicate]; first | rw [if_pos (by omega)] | rw [if_neg (by omega)])) ?_
    refine r_op rfl rfl rfl (run_mv (v := .int _ _) rfl (by exact rfl)) ?_
    refine r_gyes rfl (wantT (by exact rfl)) (by exact (by rw [al_e, List.length_replicate, List.length_replicate]; first | rw [if_pos (by omega)] | rw [if_neg (by omega)])) ?_
    refine r_op rfl rfl rfl (run_eql rfl (by exact rfl) (by exact rfl)) ?_
    refine r_op rfl rfl rfl (run_pick_and rfl (by exact rfl) (fun _ => (by exact rfl)) rfl) ?_
    refine r_op rfl rfl rfl (run_mv (v := .bool _) rfl (by exact rfl)) ?_
    refine r_gyes rfl (wantT (by exact rfl)) (by exact ⟨(by rw [al_e, List.length_replicate, List.length_replicate]; first | rw [if_pos (by omega)] | rw [if_neg (by omega)]), (by rw [sides_rep]; first | rw [if_pos (by omega)] | rw [if_neg (by omega)])⟩) ?_
    refine r_opcall rfl rfl rfl (run_callf (vs := []) rfl (by exact rfl) Try.func61 rfl (by kernel_rfl)) aknown_calls ?_
    rintro e w33 ⟨rfl, hE33⟩
    refine ⟨_, rfl, ?_⟩
    have hs_w33 := (hE33).size
    replace hV := evo_step0 hV hE33
    replace hrb22 := hrb22.evo0 hE33
    replace hrb24 := hrb24.evo0 hE33
    replace ho27 := ho27.evo0 hE33
    replace hrb28 := hrb28.evo0 hE33
    replace hoS30 := hoS30.evo0 hE33
    refine r_op rfl rfl rfl (run_pick_andB rfl (by exact rfl) (fun _ => (by exact rfl)) rfl) ?_
    refine r_op rfl rfl rfl (run_asg (v := .bool _) rfl (by exact rfl)) ?_
    refine r_nil ?_
    refine r_ret (res1 (v := .bool _) rfl (by exact rfl)) ?_
    exact ⟨ret_bool (decide_eq_true ⟨⟨(by rw [al_e, List.length_replicate, List.length_replicate]; first | rw [if_pos (by omega)] | rw [if_neg (by omega)]), (by rw [sides_rep]; first | rw [if_pos (by omega)] | rw [if_neg (by omega)])⟩, rfl⟩), hV⟩
  ·skip
   refine r_skip ?_
   refine r_seq ?_
   refine r_region ?_
   refine r_op rfl rfl rfl (run_mv (v := .slice (some ⟨b24, 0, none⟩) _ _) rfl (by exact rfl)) ?_
   refine r_op rfl rfl rfl (run_mv (v := .slice (some ⟨b22, 0, none⟩) _ _) rfl (by exact rfl)) ?_
   refine r_opcall rfl rfl rfl (run_callf (vs := [.slice (some ⟨b24, 0, none⟩) _ _, .slice (some ⟨b22, 0, none⟩) _ _]) rfl (by exact rfl) Try.func66 rfl (by kernel_rfl)) (align_calls hrb24 hrb22) ?_
   rintro e w34 ⟨va34, rfl, hE34, ho34⟩
   refine ⟨_, rfl, ?_⟩
   have hs_w34 := (hE34).size
   replace hV := evo_step0 hV hE34
   replace hrb22 := hrb22.evo0 hE34
   replace hrb24 := hrb24.evo0 hE34
   refine r_op rfl rfl rfl (run_mv (v := .tuple _) rfl (by exact rfl)) ?_
   refine r_op rfl rfl rfl (run_extract (v := va34) rfl (by exact rfl) (by exact rfl)) ?_
   refine r_op rfl rfl rfl (run_extract (v := .int _ _) rfl (by exact rfl) (by exact rfl)) ?_
   refine r_op rfl rfl rfl (run_extract (v := .int _ _) rfl (by exact rfl) (by exact rfl)) ?_
   refine r_op rfl rfl rfl (run_asg (v := va34) rfl (by exact rfl)) ?_
   refine r_op rfl rfl rfl (run_asg (v := .int _ _) rfl (by exact rfl)) ?_
   refine r_op rfl rfl rfl (run_asg (v := .int _ _) rfl (by exact rfl)) ?_
   refine r_nil ?_
   refine r_seq ?_
   refine r_region ?_
   refine r_op rfl rfl rfl (run_mv (v := .int _ _) rfl (by exact rfl)) ?_
   refine r_make (len := N) (zs := [_]) Try.underlying90 ty_85 (by exact rfl) rfl rfl (by exact rfl) (by exact rfl) (by omega) (by omega) (by omega) (by omega) ?_
   intro b35 w36 heb35 hEw36 hfb35 hzb35
   have hs_w36 := (hEw36).size
   replace hV := evo_step0 hV hEw36
   replace hrb22 := hrb22.evo0 hEw36
   replace hrb24 := hrb24.evo0 hEw36
   replace ho34 := ho34.evo0 hEw36
   have hrb35 : RowR w36 (some ⟨b35, 0, none⟩) b35 0 N (List.replicate N ([] : List Vc.Item)) := fb_rowR hfb35 (fun w9 => ⟨none, 0, 0, 0, rfl, RowE.nil _ _ _ _ _⟩) (by omega)
   refine r_knowL (i := 33) (v := .slice (some ⟨b35, 0, none⟩) (List.replicate N ([] : List Vc.Item)).length N) (congrArg (fun q9 => Value.slice (some ⟨b35, 0, none⟩) q9 N) (List.length_replicate (n := N) (a := ([] : List Vc.Item))).symm) ?_
   refine r_opcall rfl rfl rfl (run_callf (vs := [.slice (some ⟨b35, 0, none⟩) _ _]) rfl (by exact rfl) Try.func63 rfl (by kernel_rfl)) (sides_calls hrb35 (rep_mid N)) ?_
   rintro e w37 ⟨vs37, rfl, hE37, hoS37⟩
   refine ⟨_, rfl, ?_⟩
   have hs_w37 := (hE37).size
   replace hV := evo_step0 hV hE37
   replace hrb22 := hrb22.evo0 hE37
   replace hrb24 := hrb24.evo0 hE37
   replace ho34 := ho34.evo0 hE37
   replace hrb35 := hrb35.evo0 hE37
   refine r_op rfl rfl rfl (run_mv (v := .tuple _) rfl (by exact rfl)) ?_
   refine r_op rfl rfl rfl (run_extract (v := vs37) rfl (by exact rfl) (by exact rfl)) ?_
   refine r_op rfl rfl rfl (run_extract (v := .int _ _) rfl (by exact rfl) (by exact rfl)) ?_
   refine r_op rfl rfl rfl (run_asg (v := vs37) rfl (by exact rfl)) ?_
   refine r_op rfl rfl rfl (run_asg (v := .int _ _) rfl (by exact rfl)) ?_
   refine r_nil ?_
   refine r_seq ?_
   refine r_region ?_
   refine r_op rfl rfl rfl (run_asg (v := .int _ _) rfl (by exact rfl)) ?_
   refine r_nil ?_
   refine r_seq ?_
   refine r_seq ?_
   refine r_region ?_
   refine r_op rfl rfl rfl (run_mv (v := .int _ _) rfl (by exact rfl)) ?_
   refine r_op rfl rfl rfl (run_gtr rfl (by exact rfl) (by exact rfl)) ?_
   refine r_nil ?_
   refine r_cond (by exact rfl) (fun hc38 => ?_) (fun hc38 => ?_)
   ·skip
    refine r_region ?_
    refine r_op rfl rfl rfl (run_asg (v := .int _ _) rfl (by exact rfl)) ?_
    refine r_nil ?_
    refine r_seq ?_
    refine r_region ?_
    refine r_op rfl rfl rfl (run_mv (v := .int _ _) rfl (by exact rfl)) ?_
    refine r_op rfl rfl rfl (run_mv (v := .int _ _) rfl (by exact rfl)) ?_
    refine r_op rfl rfl rfl (run_eql rfl (by exact rfl) (by exact rfl)) ?_
    refine r_op rfl rfl rfl (run_mv (v := .bool _) rfl (by exact rfl)) ?_
    refine r_gyes rfl (wantT (by exact rfl)) (by exact (by rw [al_e, List.length_replicate, List.length_replicate]; first | rw [if_pos (by omega)] | rw [if_neg (by omega)])) ?_
    refine r_op rfl rfl rfl (run_mv (v := .int _ _) rfl (by exact rfl)) ?_
    refine r_gyes rfl (wantT (by exact rfl)) (by exact (by rw [al_e, List.length_replicate, List.length_replicate]; first | rw [if_pos (by omega)] | rw [if_neg (by omega)])) ?_
    refine r_op rfl rfl rfl (run_mv (v := .int _ _) rfl (by exact rfl)) ?_
    refine r_gyes rfl (wantT (by exact rfl)) (by exact (by rw [al_e, List.length_replicate, List.length_replicate]; first | rw [if_pos (by omega)] | rw [if_neg (by omega)])) ?_
    refine r_op rfl rfl rfl (run_eql rfl (by exact rfl) (by exact rfl)) ?_
    refine r_op rfl rfl rfl (run_pick_and rfl (by exact rfl) (fun _ => (by exact rfl)) rfl) ?_
    refine r_op rfl rfl rfl (run_mv (v := .bool _) rfl (by exact rfl)) ?_
    refine r_gyes rfl (wantT (by exact rfl)) (by exact ⟨(by rw [al_e, List.length_replicate, List.length_replicate]; first | rw [if_pos (by omega)] | rw [if_neg (by omega)]), (by rw [sides_rep]; first | rw [if_pos (by omega)] | rw [if_neg (by omega)])⟩) ?_
    refine r_opcall rfl rfl rfl (run_callf (vs := []) rfl (by exact rfl) Try.func61 rfl (by kernel_rfl)) aknown_calls ?_
    rintro e w39 ⟨rfl, hE39⟩
    refine ⟨_, rfl, ?_⟩
    have hs_w39 := (hE39).size
    replace hV := evo_step0 hV hE39
    replace hrb22 := hrb22.evo0 hE39
    replace hrb24 := hrb24.evo0 hE39
    replace ho34 := ho34.evo0 hE39
    replace hrb35 := hrb35.evo0 hE39
    replace hoS37 := hoS37.evo0 hE39
    refine r_op rfl rfl rfl (run_pick_andB rfl (by exact rfl) (fun _ => (by exact rfl)) rfl) ?_
    refine r_op rfl rfl rfl (run_asg (v := .bool _) rfl (by exact rfl)) ?_
    refine r_nil ?_
    refine r_ret (res1 (v := .bool _) rfl (by exact rfl)) ?_
    exact ⟨ret_bool (decide_eq_true ⟨⟨(by rw [al_e, List.length_replicate, List.length_replicate]; first | rw [if_pos (by omega)] | rw [if_neg (by omega)]), (by rw [sides_rep]; first | rw [if_pos (by omega)] | rw [if_neg (by omega)])⟩, rfl⟩), hV⟩
   ·skip
    refine r_skip ?_
    refine r_seq ?_
    refine r_region ?_
    refine r_op rfl rfl rfl (run_mv (v := .int _ _) rfl (by exact rfl)) ?_
    refine r_op rfl rfl rfl (run_mv (v := .int _ _) rfl (by exact rfl)) ?_
    refine r_op rfl rfl rfl (run_eql rfl (by exact rfl) (by exact rfl)) ?_
    refine r_op rfl rfl rfl (run_mv (v := .bool _) rfl (by exact rfl)) ?_
    refine r_gyes rfl (wantT (by exact rfl)) (by exact (by rw [al_e, List.length_replicate, List.length_replicate]; first | rw [if_pos (by omega)] | rw [if_neg (by omega)])) ?_
    refine r_op rfl rfl rfl (run_mv (v := .int _ _) rfl (by exact rfl)) ?_
    refine r_gyes rfl (wantT (by exact rfl)) (by exact (by rw [al_e, List.length_replicate, List.length_replicate]; first | rw [if_pos (by omega)] | rw [if_neg (by omega)])) ?_
    refine r_op rfl rfl rfl (run_mv (v := .int _ _) rfl (by exact rfl)) ?_
    refine r_gyes rfl (wantT (by exact rfl)) (by exact (by rw [al_e, List.length_replicate, List.length_replicate]; first | rw [if_pos (by omega)] | rw [if_neg (by omega)])) ?_
    refine r_op rfl rfl rfl (run_eql rfl (by exact rfl) (by exact rfl)) ?_
    refine r_op rfl rfl rfl (run_pick_and rfl (by exact rfl) (fun _ => (by exact rfl)) rfl) ?_
    refine r_op rfl rfl rfl (run_mv (v := .bool _) rfl (by exact rfl)) ?_
    refine r_gyes rfl (wantT (by exact rfl)) (by exact ⟨(by rw [al_e, List.length_replicate, List.length_replicate]; first | rw [if_pos (by omega)] | rw [if_neg (by omega)]), (by rw [sides_rep]; first | rw [if_pos (by omega)] | rw [if_neg (by omega)])⟩) ?_
    refine r_opcall rfl rfl rfl (run_callf (vs := []) rfl (by exact rfl) Try.func61 rfl (by kernel_rfl)) aknown_calls ?_
    rintro e w40 ⟨rfl, hE40⟩
    refine ⟨_, rfl, ?_⟩
    have hs_w40 := (hE40).size
    replace hV := evo_step0 hV hE40
    replace hrb22 := hrb22.evo0 hE40
    replace hrb24 := hrb24.evo0 hE40
    replace ho34 := ho34.evo0 hE40
    replace hrb35 := hrb35.evo0 hE40
    replace hoS37 := hoS37.evo0 hE40
    refine r_op rfl rfl rfl (run_pick_andB rfl (by exact rfl) (fun _ => (by exact rfl)) rfl) ?_
    refine r_op rfl rfl rfl (run_asg (v := .bool _) rfl (by exact rfl)) ?_
    refine r_nil ?_
    refine r_ret (res1 (v := .bool _) rfl (by exact rfl)) ?_
    exact ⟨ret_bool (decide_eq_true ⟨⟨(by rw [al_e, List.length_replicate, List.length_replicate]; first | rw [if_pos (by omega)] | rw [if_neg (by omega)]), (by rw [sides_rep]; first | rw [if_pos (by omega)] | rw [if_neg (by omega)])⟩, rfl⟩), hV⟩

end Go.Proofs.Ytomklacppmaljaa

namespace Go.Proofs.Ytomklacppmaljaa
open Go.RowKit Go.Vc
theorem ag_90 : aggP Try.prog 90 = some false := by kernel_rfl
theorem pl_91 : placesP Try.prog 91 = some [(0, 1), (1, 1)] := by kernel_rfl
theorem ty_90 : tyP Try.prog 90 = some (1, 24, some (.slice none 0 0)) := by kernel_rfl
theorem ty_91 : tyP Try.prog 91 = some (2, 48, some (.agg #[(.slice none 0 0), (.slice none 0 0)])) := by kernel_rfl
theorem sl_one {α : Type} [Enc α] (w : World) (cs : List Value) (x : List α) (h : Rep.rep w cs x) : oneCells cs = true := by
  obtain ⟨ao, b, off, cap, rfl, _⟩ := h
  rfl
theorem mid_list {l : List (List Vc.Item)} {f : List Vc.Item} (h : ∀ g ∈ l, Mid g) (hf : Mid f) : ∀ g ∈ l ++ [f], Mid g := fun g hg => by
  rcases List.mem_append.1 hg with h1 | h1
  · exact h g h1
  · have : g = f := by simpa using h1
    rw [this]; exact hf
theorem mid_two {a b : List Vc.Item} (h1 : Mid a) (h2 : Mid b) : ∀ g ∈ [a, b], Mid g := fun g hg => by
  rcases List.mem_cons.1 hg with rfl | hg
  · exact h1
  · have : g = b := by simpa using hg
    rw [this]; exact h2

theorem asides_law {aof : Option Addr} {bf offf capf : Nat} {f : List Vc.Item} {aol : Option Addr} {bl offl capl : Nat} {l : List Int} {aom : Option Addr} {bm offm capm : Nat} {m : List Int} {w0 : World} (hf : RowE w0 aof bf offf capf f) (hq : ∀ x ∈ f, x.text.length ≤ 140737488351232) (hl : RowE w0 aol bl offl capl l) (hm : RowE w0 aom bm offm capm m) :
    Calls Try.prog 19 #[.slice aof f.length capf, .slice aol l.length capl, .slice aom m.length capm] w0 fun e w' => e = .returned (.bool true) ∧ Evo w0 w' [] := by
 refine calls_enter (n := 73) (args := [.slice aof f.length capf, .slice aol l.length capl, .slice aom m.length capm]) Try.func19 rfl Try.ntmps19 rfl ?_
 have hV : Evo w0 w0 [] := Evo.refl _ _
 have hf0 := keepE hf
 have hbd_hf := hf.bd
 have hl0 := keepE hl
 have hbd_hl := hl.bd
 have hm0 := keepE hm
 have hbd_hm := hm.bd
 refine r_seq ?_
 refine r_region ?_
 refine r_op rfl rfl rfl (run_asg (v := .bool _) rfl (by exact rfl)) ?_
 refine r_nil ?_
 refine r_seq ?_
 refine r_seq ?_
 refine r_region ?_
 refine r_op rfl rfl rfl (run_mv (v := .slice _ _ _) rfl (by exact rfl)) ?_
 refine r_op rfl rfl rfl (run_lenSl rfl (by exact rfl) Try.underlying85) ?_
 refine r_op rfl rfl rfl (run_gtr rfl (by exact rfl) (by exact rfl)) ?_
 refine r_op rfl rfl rfl (run_mv (v := .bool _) rfl (by exact rfl)) ?_
 refine r_g rfl (wantF (by exact rfl)) rfl (fun hg => run_mv (v := .slice _ _ _) rfl (by exact rfl)) ?_
 refine r_gcall rfl (wantF (by exact rfl)) rfl (fun hg => run_callf rfl (argcons (v := .slice _ _ _) (glv (by exact rfl) (fun h => h) hg) (rfl)) Try.func60 rfl (by kernel_rfl)) (fun hg => (mrlength_calls hf (mid_few (fun x hx => Nat.le_trans (hq x hx) (by decide)) (by omega))).mono (fun e w' h => ⟨h.1, h.2⟩)) (fun w1 hE2 => ?_)
 have hs_w1 := (hE2).size
 replace hV := evo_step0 hV hE2
 replace hf := hf0 _ hV
 replace hl := hl0 _ hV
 replace hm := hm0 _ hV
 refine r_g rfl (wantF (by exact rfl)) rfl (fun hg => run_gtr rfl (glv (by exact rfl) (fun h => h) hg) (by exact rfl)) ?_
 refine r_op rfl rfl rfl (run_pick_or rfl (by exact rfl) rfl (fun hq => glv (by exact rfl) (fun h => h) hq)) ?_
 refine r_op rfl rfl rfl (run_mv (v := .bool _) rfl (by exact rfl)) ?_
 refine r_g rfl (wantF (by exact rfl)) rfl (fun hg => run_mv (v := .slice _ _ _) rfl (by exact rfl)) ?_
 refine r_g rfl (wantF (by exact rfl)) rfl (fun hg => run_lenSl rfl (glv (by exact rfl) (fun h => h) hg) Try.underlying23) ?_
 refine r_g rfl (wantF (by exact rfl)) rfl (fun hg => run_gtr rfl (glv (by exact rfl) (fun h => h) hg) (by exact rfl)) ?_
 refine r_op rfl rfl rfl (run_pick_or rfl (by exact rfl) rfl (fun hq => glv (by exact rfl) (fun h => h) hq)) ?_
 refine r_op rfl rfl rfl (run_mv (v := .bool _) rfl (by exact rfl)) ?_
 refine r_g rfl (wantF (by exact rfl)) rfl (fun hg => run_mv (v := .slice _ _ _) rfl (by exact rfl)) ?_
 refine r_g rfl (wantF (by exact rfl)) rfl (fun hg => run_lenSl rfl (glv (by exact rfl) (fun h => h) hg) Try.underlying23) ?_
 refine r_g rfl (wantF (by exact rfl)) rfl (fun hg => run_gtr rfl (glv (by exact rfl) (fun h => h) hg) (by exact rfl)) ?_
 refine r_op rfl rfl rfl (run_pick_or rfl (by exact rfl) rfl (fun hq => glv (by exact rfl) (fun h => h) hq)) ?_
 refine r_nil ?_
 refine r_cond (by exact rfl) (fun hc3 => ?_) (fun hc3 => ?_)
 ·skip
  refine r_seq ?_
  refine r_region ?_
  refine r_opcall rfl rfl rfl (run_callf (vs := []) rfl (by exact rfl) Try.func61 rfl (by kernel_rfl)) aknown_calls ?_
  rintro e w4 ⟨rfl, hE4⟩
  refine ⟨_, rfl, ?_⟩
  have hs_w4 := (hE4).size
  replace hV := evo_step0 hV hE4
  replace hf := hf0 _ hV
  replace hl := hl0 _ hV
  replace hm := hm0 _ hV
  refine r_op rfl rfl rfl (run_asg (v := .bool _) rfl (by exact rfl)) ?_
  refine r_nil ?_
  refine r_ret (res1 (v := .bool _) rfl (by exact rfl)) ?_
  first | exact ⟨rfl, hV⟩ | exact absurd hc3 (by simp)
 ·skip
  refine r_skip ?_
  refine r_seq ?_
  have hmf : Mid f := mid_few (fun x hx => Nat.le_trans (hq x hx) (by decide)) (by omega)
  refine r_region ?_
  refine r_op rfl rfl rfl (run_mv (v := .slice _ _ _) rfl (by exact rfl)) ?_
  refine r_op rfl rfl rfl (run_bld (pv := [(0, .slice _ _ _)]) (zs := [_, _]) (cells := [_, _]) rfl ty_89 (by exact rfl) pl_89 (by exact rfl) (by exact rfl)) ?_
  refine r_box (vs := [_, _]) (by exact rfl) (by exact rfl) rfl ?_
  intro b5 w6 heb5 hEw6 hbb5 hzb5
  have hs_w6 := (hEw6).size
  replace hV := evo_step0 hV hEw6
  replace hf := hf0 _ hV
  replace hl := hl0 _ hV
  replace hm := hm0 _ hV
  have hAb5 := hbb5.at
  refine r_opcall rfl rfl rfl (run_callf (vs := [.pointer _, .int _ _, .bool _, .bool _]) rfl (by exact rfl) Try.func62 rfl (by kernel_rfl)) (fragment_calls (N := 0) (show Blk _ _ _ [_, .int .i64 ((0 : Nat) : Int)] from hbb5) (fun w9 h9 => hl0 _ (evo_step1 hV h9 (.inl (by omega)))) (by omega) (by omega) (by omega)) ?_
  rintro e w7 ⟨vf7, f7, Nf7, rfl, hf7, hNf7, hE7, hn7, hof7⟩
  refine ⟨_, rfl, ?_⟩
  have hs_w7 := (hE7).size
  replace hV := evo_step1 hV hE7 (by first | exact .inl (by omega) | exact .inr (by simp))
  replace hf := hf0 _ hV
  replace hl := hl0 _ hV
  replace hm := hm0 _ hV
  replace hbb5 := hn7
  clear hn7
  have hAb5 := hbb5.at
  have hobF := fun g hg => (hof7.block (g := g) hg).2
  refine r_op rfl rfl rfl (run_mv (v := .slice _ _ _) rfl (by exact rfl)) ?_
  refine r_op rfl rfl rfl (run_bld (pv := [(0, .slice _ _ _)]) (zs := [_, _]) (cells := [_, _]) rfl ty_89 (by exact rfl) pl_89 (by exact rfl) (by exact rfl)) ?_
  have hob8 := fun g hg => (hof7.block (g := g) hg).2
  refine r_box (vs := [_, _]) (by exact rfl) (by exact rfl) rfl ?_
  intro b9 w10 heb9 hEw10 hbb9 hzb9
  have hs_w10 := (hEw10).size
  replace hV := evo_step0 hV hEw10
  replace hf := hf0 _ hV
  replace hl := hl0 _ hV
  replace hm := hm0 _ hV
  replace hof7 := hof7.evo0 hEw10
  have hAb9 := hbb9.at
  refine r_opcall rfl rfl rfl (run_callf (vs := [.pointer _, .int _ _, .bool _, .bool _]) rfl (by exact rfl) Try.func62 rfl (by kernel_rfl)) (fragment_calls (N := 0) (show Blk _ _ _ [_, .int .i64 ((0 : Nat) : Int)] from hbb9) (fun w9 h9 => hm0 _ (evo_step1 hV h9 (.inl (by omega)))) (by omega) (by omega) (by omega)) ?_
  rintro e w11 ⟨vf11, f11, Nf11, rfl, hf11, hNf11, hE11, hn11, hof11⟩
  refine ⟨_, rfl, ?_⟩
  have hs_w11 := (hE11).size
  replace hV := evo_step1 hV hE11 (by first | exact .inl (by omega) | exact .inr (by simp))
  replace hf := hf0 _ hV
  replace hl := hl0 _ hV
  replace hm := hm0 _ hV
  replace hof7 := hof7.evo hE11 (by intro g hg hm; simp at hm; subst hm; have h7 := hobF g hg; omega)
  replace hbb9 := hn11
  clear hn11
  have hAb9 := hbb9.at
  obtain ⟨ao12, g12, cp12, hv12, hr12, hg12⟩ := hof7.rowOf
  subst hv12
  obtain ⟨ao13, g13, cp13, hv13, hr13, hg13⟩ := hof11.rowOf
  subst hv13
  have hmm := mid_two (small_mid ⟨by have := hf7.2.1; omega, by have := hf7.2.2.1; omega⟩ : Mid f7) (small_mid ⟨by have := hf11.2.1; omega, by have := hf11.2.2.1; omega⟩ : Mid f11)
  refine r_bslice (pv := [(0, .slice _ _ _), (1, .slice _ _ _)]) (zs := [_]) (cs := [_, _]) Try.underlying90 ty_85 (by exact rfl) rfl (by exact rfl) rfl (by exact rfl) ?_
  intro b14 w15 heb14 hEw15 hbb14 hzb14
  have hs_w15 := (hEw15).size
  replace hV := evo_step0 hV hEw15
  replace hf := hf0 _ hV
  replace hl := hl0 _ hV
  replace hm := hm0 _ hV
  replace hof7 := hof7.evo0 hEw15
  replace hof11 := hof11.evo0 hEw15
  replace hr12 := hr12.evo0 hEw15
  replace hr13 := hr13.evo0 hEw15
  have hAb14 := hbb14.at
  have hrb14 : RowR w15 (some ⟨b14, 0, none⟩) b14 0 2 ([f7, f11] : List (List Vc.Item)) := rowLitR [[_], [_]] ([f7, f11] : List (List Vc.Item)) hbb14 rfl (RepL.append (RepL.one (sl_rep hr12)) (RepL.one (sl_rep hr13))) rfl
  refine r_op rfl rfl rfl (run_asg (v := .slice (some ⟨b14, 0, none⟩) _ _) rfl (by exact rfl)) ?_
  refine r_nil ?_
  refine r_seq ?_
  refine r_seq ?_
  have hI16 : Evo w15 w15 [] := Evo.refl _ _
  have hrb140 := hrb14.keep
  have hbd_hrb14 := hrb14.bd
  refine r_region ?_
  refine r_op rfl rfl rfl (run_mv (v := .slice (some ⟨b14, 0, none⟩) _ _) rfl (by exact rfl)) ?_
  refine r_op rfl rfl rfl (run_mv (v := .slice (some ⟨b14, 0, none⟩) _ _) rfl (by exact rfl)) ?_
  refine r_appendR (w1 := w15) (E' := []) rfl Try.underlying90 ty_85 (by exact rfl) sl_one (OwnR.nil (α := List Vc.Item) _ w15.heap.size 85 []) (by exact rfl) (by exact rfl) hrb140 ((fun w9 h9 => Evo.trans hI16 h9 (fun x hx hlt => by simp [Value.ownBlock] at hx))) rfl (by simp) (by simp) (by omega) ?_
  intro v17 w18 hEw18 hov17 hlv17
  have hs_w18 := (hEw18).size
  replace hV := evo_step0 hV hEw18
  replace hI16 := evo_step0 hI16 hEw18
  replace hf := hf0 _ hV
  replace hl := hl0 _ hV
  replace hm := hm0 _ hV
  replace hof7 := hof7.evo0 hEw18
  replace hof11 := hof11.evo0 hEw18
  replace hr12 := hr12.evo0 hEw18
  replace hr13 := hr13.evo0 hEw18
  replace hrb14 := hrb140.now hI16
  refine r_op rfl rfl rfl (run_mv (v := .slice _ _ _) rfl (by exact rfl)) ?_
  refine r_append1R (u := .slice _ _ _) (us := [_]) rfl rfl Try.underlying90 ty_85 (by exact rfl) rfl rfl hov17 (fun _ => (by exact rfl)) (by exact rfl) (by exact rfl) rfl (by exact rfl) (fun w9 h9 => sl_rep (hf0 _ (Evo.trans hV h9 (fun x hx hlt => by have h8 := (hov17.block (Option.mem_toList.1 (by simpa using hx))); omega)))) ((by simp)) ((by simp)) (by omega) ?_
  intro q_v19 v19 w20 hEw20 hov19 hlv19
  have hs_w20 := (hEw20).size
  replace hV := evo_stepo hV hEw20 (fun g hg => .inl (by first | exact (hov17.block hg).1 | (have := hov17.block hg; omega)))
  replace hI16 := evo_stepo hI16 hEw20 (fun g hg => .inl (by first | exact (hov17.block hg).1 | (have := hov17.block hg; omega)))
  replace hf := hf0 _ hV
  replace hl := hl0 _ hV
  replace hm := hm0 _ hV
  replace hrb14 := hrb140.now hI16
  obtain ⟨ao21, g21, cp21, hv21, hr21⟩ := hov19.rowOf
  subst hv21
  have hbd_hr21 := hr21.bd
  refine r_op rfl rfl rfl (run_bld (pv := [(0, .slice (some ⟨b14, 0, none⟩) _ _), (1, .slice _ _ _)]) (zs := [_, _]) (cells := [_, _]) rfl ty_91 (by exact rfl) pl_91 (by exact rfl) (by exact rfl)) ?_
  refine r_op rfl rfl rfl (run_mv (v := .int _ _) rfl (by exact rfl)) ?_
  refine r_nil ?_
  refine r_block ?_
  have hQ22 : Evo w20 w20 [] := Evo.refl _ _
  have hpr := pair2 (Q := fun ll => ∀ g ∈ ll, Mid g) hrb14 hr21 hmm (mid_list hmm hmf)
  refine r_loop (α := Nat) [6, 9, 10, 11, 12, 13, 49, 50, 51, 52, 53, 54, 55, 56, 57, 58, 59, 60, 61, 62, 63, 64, 65, 66, 67, 68, 69, 70, 71] (fun x g w => g 49 = .int .i64 (x : Nat) ∧ x ≤ 2 ∧ w20.heap.size ≤ w.heap.size ∧ Evo w0 w [] ∧ Evo w15 w [] ∧ Evo w20 w []) (fun x => 2 - x) 0 ?_ ?_
  ·refine ⟨(by first | exact rfl | exact congrArg (Value.int _) (by omega) | exact congrArg (Value.int _) (by dsimp only; omega) | exact congrArg (Value.int _) (by simp) | exact congrArg S (by simp)), (by first | assumption | omega | (dsimp only; omega) | (simp; done)), (by first | assumption | omega | (dsimp only; omega) | (simp; done)), hV, hI16, hQ22⟩
  ·rintro x g w24 ⟨hj25, hk_x, hzl23, hV, hI16, hQ22⟩
   have hs_w24hV := hV.size
   have hs_w24hI16 := hI16.size
   have hs_w24hQ22 := hQ22.size
   replace hf := hf0 _ hV
   replace hl := hl0 _ hV
   replace hm := hm0 _ hV
   replace hrb14 := hrb140.now hI16
   refine r_know (i := 49) (v := .int .i64 (x : Nat)) (by exact hj25) ?_
   refine r_seq ?_
   refine r_region ?_
   refine r_op rfl rfl rfl (run_lss rfl (by exact rfl) (by exact rfl)) ?_
   refine r_nil ?_
   refine r_seq ?_
   refine r_cond (by exact rfl) (fun hc26 => ?_) (fun hc26 => ?_)
   ·skip
    refine r_skip ?_
    refine r_seq ?_
    refine r_block ?_
    refine r_seq ?_
    obtain ⟨aoX, bX, oX, cX, lX, hcs, hLX00, hmX⟩ := hpr x (by omega)
    have hLX0 := hLX00.keep
    have hLX := hLX0.now hQ22
    have hbd_hLX := hLX.bd
    refine r_region ?_
    refine r_op rfl rfl rfl (run_ixA1 (v := .slice _ _ _) (x) rfl Try.underlying91 ty_90 ag_90 (by exact rfl) (by exact rfl) (by first | exact rfl | omega) (by omega) hcs) ?_
    refine r_op rfl rfl rfl (run_asg (v := .slice _ _ _) rfl (by exact rfl)) ?_
    refine r_nil ?_
    refine r_seq ?_
    refine r_region ?_
    refine r_op rfl rfl rfl (run_mv (v := .slice _ _ _) rfl (by exact rfl)) ?_
    refine r_opcall rfl rfl rfl (run_callf (vs := [.slice _ _ _]) rfl (by exact rfl) Try.func63 rfl (by kernel_rfl)) (sides_calls hLX hmX) ?_
    rintro e w27 ⟨vs27, rfl, hE27, hoS27⟩
    refine ⟨_, rfl, ?_⟩
    have hs_w27 := (hE27).size
    replace hV := evo_step0 hV hE27
    replace hI16 := evo_step0 hI16 hE27
    replace hQ22 := evo_step0 hQ22 hE27
    replace hf := hf0 _ hV
    replace hl := hl0 _ hV
    replace hm := hm0 _ hV
    replace hrb14 := hrb140.now hI16
    replace hLX := hLX0.now hQ22
    refine r_op rfl rfl rfl (run_mv (v := .tuple _) rfl (by exact rfl)) ?_
    refine r_op rfl rfl rfl (run_extract (v := vs27) rfl (by exact rfl) (by exact rfl)) ?_
    refine r_op rfl rfl rfl (run_extract (v := .int _ _) rfl (by exact rfl) (by exact rfl)) ?_
    refine r_op rfl rfl rfl (run_asg (v := vs27) rfl (by exact rfl)) ?_
    refine r_op rfl rfl rfl (run_asg (v := .int _ _) rfl (by exact rfl)) ?_
    refine r_nil ?_
    refine r_seq ?_
    refine r_region ?_
    refine r_op rfl rfl rfl (run_mv (v := .slice _ _ _) rfl (by exact rfl)) ?_
    refine r_opcall rfl rfl rfl (run_callf (vs := [.slice _ _ _]) rfl (by exact rfl) Try.func64 rfl (by kernel_rfl)) (rsides_calls hLX hmX) ?_
    rintro e w28 ⟨vs28, rfl, hE28, hoS28⟩
    refine ⟨_, rfl, ?_⟩
    have hs_w28 := (hE28).size
    replace hV := evo_step0 hV hE28
    replace hI16 := evo_step0 hI16 hE28
    replace hQ22 := evo_step0 hQ22 hE28
    replace hf := hf0 _ hV
    replace hl := hl0 _ hV
    replace hm := hm0 _ hV
    replace hrb14 := hrb140.now hI16
    replace hLX := hLX0.now hQ22
    replace hoS27 := hoS27.evo0 hE28
    refine r_op rfl rfl rfl (run_mv (v := .tuple _) rfl (by exact rfl)) ?_
    refine r_op rfl rfl rfl (run_extract (v := vs28) rfl (by exact rfl) (by exact rfl)) ?_
    refine r_op rfl rfl rfl (run_extract (v := .int _ _) rfl (by exact rfl) (by exact rfl)) ?_
    refine r_op rfl rfl rfl (run_asg (v := vs28) rfl (by exact rfl)) ?_
    refine r_op rfl rfl rfl (run_asg (v := .int _ _) rfl (by exact rfl)) ?_
    refine r_nil ?_
    refine r_seq ?_
    refine r_region ?_
    refine r_op rfl rfl rfl (run_mv (v := .int _ _) rfl (by exact rfl)) ?_
    refine r_op rfl rfl rfl (run_mv (v := .int _ _) rfl (by exact rfl)) ?_
    refine r_op rfl rfl rfl (run_neq rfl (by exact rfl) (by exact rfl)) ?_
    refine r_op rfl rfl rfl (run_mv (v := .bool _) rfl (by exact rfl)) ?_
    refine r_gyes rfl (wantF (by exact rfl)) (by exact (fun h => h rfl)) ?_
    refine r_op rfl rfl rfl (run_mv (v := vs27) rfl (by exact rfl)) ?_
    refine r_gyes rfl (wantF (by exact rfl)) (by exact (fun h => h rfl)) ?_
    refine r_op rfl rfl rfl (run_mv (v := vs28) rfl (by exact rfl)) ?_
    refine r_gyes rfl (wantF (by exact rfl)) (by exact (fun h => h rfl)) ?_
    obtain ⟨ao29, g29, cp29, hv29, hr29⟩ := hoS27.rowOf
    subst hv29
    have hbd_hr29 := hr29.bd
    obtain ⟨ao30, g30, cp30, hv30, hr30⟩ := hoS28.rowOf
    subst hv30
    have hbd_hr30 := hr30.bd
    refine r_opcall rfl rfl rfl (run_callf (vs := [.slice _ _ _, .slice _ _ _]) rfl (by exact rfl) Try.func65 rfl (by kernel_rfl)) (samesides_calls hr29 hr30) ?_
    rintro e w31 ⟨rfl, hE31⟩
    refine ⟨_, rfl, ?_⟩
    have hs_w31 := (hE31).size
    replace hV := evo_step0 hV hE31
    replace hI16 := evo_step0 hI16 hE31
    replace hQ22 := evo_step0 hQ22 hE31
    replace hf := hf0 _ hV
    replace hl := hl0 _ hV
    replace hm := hm0 _ hV
    replace hrb14 := hrb140.now hI16
    replace hLX := hLX0.now hQ22
    replace hoS27 := hoS27.evo0 hE31
    replace hoS28 := hoS28.evo0 hE31
    replace hr29 := hr29.evo0 hE31
    replace hr30 := hr30.evo0 hE31
    refine r_gyes rfl (wantF (by exact rfl)) (by exact (fun h => h rfl)) ?_
    refine r_op rfl rfl rfl (run_notb rfl (by exact rfl)) ?_
    refine r_op rfl rfl rfl (run_pick_orB rfl (by exact rfl) rfl (fun _ => (by exact rfl))) ?_
    refine r_nil ?_
    refine r_cond (by exact rfl) (fun hc32 => ?_) (fun hc32 => ?_)
    ·skip
     refine r_seq ?_
     refine r_region ?_
     refine r_op rfl rfl rfl (run_asg (v := .bool _) rfl (by exact rfl)) ?_
     refine r_nil ?_
     refine r_ret (res1 (v := .bool _) rfl (by exact rfl)) ?_
     first | exact ⟨rfl, hV⟩ | exact absurd hc32 (by simp)
    ·skip
     refine r_skip ?_
     refine r_blk ?_
     refine r_region ?_
     refine r_op rfl rfl rfl (run_add rfl (by exact rfl) (by exact rfl) (by omega) (by omega)) ?_
     refine r_op rfl rfl rfl (run_mv (v := .int _ _) rfl (by exact rfl)) ?_
     refine r_nil ?_
     refine r_again (x + 1) ?_ ?_ ?_
     ·first | omega | (dsimp only; omega)
     ·refine ⟨(by first | exact rfl | exact congrArg (Value.int _) (by omega) | exact congrArg (Value.int _) (by dsimp only; omega) | exact congrArg (Value.int _) (by simp) | exact congrArg S (by simp)), (by first | assumption | omega | (dsimp only; omega) | (simp; done)), (by first | assumption | omega | (dsimp only; omega) | (simp; done)), hV, hI16, hQ22⟩
     ·repeat (first | (with_reducible exact Agree.merge _ _ _) | (with_reducible exact Agree.refl _ _) | (with_reducible refine Agree.upd ?_ _ _ rfl) | ((with_reducible refine Agree.inner ?_ ?_); (kernel_rfl)))
   ·skip
    refine r_exit rfl ?_
    refine r_seq ?_
    refine r_region ?_
    refine r_opcall rfl rfl rfl (run_callf (vs := []) rfl (by exact rfl) Try.func61 rfl (by kernel_rfl)) aknown_calls ?_
    rintro e w33 ⟨rfl, hE33⟩
    refine ⟨_, rfl, ?_⟩
    have hs_w33 := (hE33).size
    replace hV := evo_step0 hV hE33
    replace hI16 := evo_step0 hI16 hE33
    replace hQ22 := evo_step0 hQ22 hE33
    replace hf := hf0 _ hV
    replace hl := hl0 _ hV
    replace hm := hm0 _ hV
    replace hrb14 := hrb140.now hI16
    refine r_op rfl rfl rfl (run_asg (v := .bool _) rfl (by exact rfl)) ?_
    refine r_nil ?_
    refine r_ret (res1 (v := .bool _) rfl (by exact rfl)) ?_
    first | exact ⟨rfl, hV⟩ | exact absurd hc26 (by simp)

end Go.Proofs.Ytomklacppmaljaa

