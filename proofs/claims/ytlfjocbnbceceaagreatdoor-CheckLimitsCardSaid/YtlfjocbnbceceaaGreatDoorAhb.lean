/-
  Library, plain laws and walks that the statements reach (joined by a program out of smaller texts).
-/
import Derived.Test.YtlfjocbnbceceaaGreatDoorAha
import Derived.Shelf.SlIter.Nil
import Derived.Shelf.SortM.Plain
import Derived.Shelf.SortM.SortNone
import Derived.Ground.GgzProg
import Derived.Ground.SlgmProg
import Derived.Test.YtlfjocbnbceceaaGreatDoorProg
import Derived.Maps.Range
set_option linter.unusedVariables false
set_option linter.unusedSimpArgs false
namespace Go.Proofs.YtlfjocbnbceceaaGreatDoor
open Go.RowKit Go.Vc
theorem ag_5 : aggP Tryz.prog 5 = some false := by kernel_rfl
theorem ty_5 : tyP Tryz.prog 5 = some (1, 1, some (.int .u8 0)) := by kernel_rfl
theorem of_calls {c : UInt8} {w0 : World}  :
    Calls Tryz.prog 143 #[.int .u8 ((c.toNat : Nat) : Int)] w0 fun e w' => e = .returned (.int .i64 (clsB c)) ∧ Evo w0 w' [] := by
 refine calls_enter (n := 51) Tryz.func143 rfl Tryz.ntmps143 rfl ?_
 have hV : Evo w0 w0 [] := Evo.refl _ _
 refine Zs ?_
 refine Zn rfl (asI rfl) ?_
 refine r_seq ?_
 refine r_block ?_
 refine Zs ?_
 refine Zo rfl (mvI rfl) ?_
 refine Zo rfl (run_eql rfl rfl rfl) ?_
 refine Zo rfl (mvB rfl) ?_
 refine r_g rfl (wantF rfl) rfl (fun hg => run_mv (v := .int _ _) rfl rfl) ?_
 refine r_g rfl (wantF rfl) rfl (fun hg => run_eql rfl (glv rfl (fun h => h) hg) rfl) ?_
 refine Zo rfl (run_pick_or rfl rfl rfl (fun hq => glv rfl (fun h => h) hq)) ?_
 refine Zo rfl (mvB rfl) ?_
 refine r_g rfl (wantF rfl) rfl (fun hg => run_mv (v := .int _ _) rfl rfl) ?_
 refine r_g rfl (wantF rfl) rfl (fun hg => run_eql rfl (glv rfl (fun h => h) hg) rfl) ?_
 refine Zo rfl (run_pick_or rfl rfl rfl (fun hq => glv rfl (fun h => h) hq)) ?_
 refine Zo rfl (mvB rfl) ?_
 refine r_g rfl (wantF rfl) rfl (fun hg => run_mv (v := .int _ _) rfl rfl) ?_
 refine r_g rfl (wantF rfl) rfl (fun hg => run_eql rfl (glv rfl (fun h => h) hg) rfl) ?_
 refine Zo rfl (run_pick_or rfl rfl rfl (fun hq => glv rfl (fun h => h) hq)) ?_
 refine Zn rfl (asB rfl) ?_
 refine r_cond rfl (fun hc1 => ?_) (fun hc1 => ?_)
 ·skip
  refine Zs ?_
  refine Zn rfl (asI rfl) ?_
  refine r_ret (res1 (v := .int _ _) rfl rfl) ?_
  exact ⟨ret_int (by rw [cls_space (by omega)]), hV⟩
 refine Zs ?_
 refine Zo rfl (mvI rfl) ?_
 refine Zo rfl (run_lss rfl rfl rfl) ?_
 refine Zo rfl (mvB rfl) ?_
 refine r_g rfl (wantF rfl) rfl (fun hg => run_mv (v := .int _ _) rfl rfl) ?_
 refine r_g rfl (wantF rfl) rfl (fun hg => run_eql rfl (glv rfl (fun h => h) hg) rfl) ?_
 refine Zo rfl (run_pick_or rfl rfl rfl (fun hq => glv rfl (fun h => h) hq)) ?_
 refine Zn rfl (asB rfl) ?_
 refine r_cond rfl (fun hc2 => ?_) (fun hc2 => ?_)
 ·skip
  refine Zs ?_
  refine Zn rfl (asI rfl) ?_
  refine r_ret (res1 (v := .int _ _) rfl rfl) ?_
  exact ⟨ret_int (by rw [cls_control (by omega) (by omega)]), hV⟩
 refine Zs ?_
 refine Zo rfl (mvI rfl) ?_
 refine Zo rfl (run_geq rfl rfl rfl) ?_
 refine Zo rfl (mvB rfl) ?_
 refine r_g rfl (wantT rfl) rfl (fun hg => run_mv (v := .int _ _) rfl rfl) ?_
 refine r_g rfl (wantT rfl) rfl (fun hg => run_leq rfl (glv rfl (fun h => h) hg) rfl) ?_
 refine Zo rfl (run_pick_and rfl rfl (fun hq => glv rfl (fun h => h) hq) rfl) ?_
 refine Zn rfl (asB rfl) ?_
 refine r_cond rfl (fun hc3 => ?_) (fun hc3 => ?_)
 ·skip
  refine Zs ?_
  refine Zn rfl (asI rfl) ?_
  refine r_ret (res1 (v := .int _ _) rfl rfl) ?_
  exact ⟨ret_int (by rw [cls_digit (by omega)]), hV⟩
 refine Zs ?_
 refine Zo rfl (mvI rfl) ?_
 refine Zo rfl (run_geq rfl rfl rfl) ?_
 refine Zo rfl (mvB rfl) ?_
 refine r_g rfl (wantT rfl) rfl (fun hg => run_mv (v := .int _ _) rfl rfl) ?_
 refine r_g rfl (wantT rfl) rfl (fun hg => run_leq rfl (glv rfl (fun h => h) hg) rfl) ?_
 refine Zo rfl (run_pick_and rfl rfl (fun hq => glv rfl (fun h => h) hq) rfl) ?_
 refine Zo rfl (mvB rfl) ?_
 refine r_g rfl (wantF rfl) rfl (fun hg => run_mv (v := .int _ _) rfl rfl) ?_
 refine r_g rfl (wantF rfl) rfl (fun hg => run_geq rfl (glv rfl (fun h => h) hg) rfl) ?_
 refine r_g rfl (wantF rfl) rfl (fun hg => run_mv (v := .bool _) rfl (glv rfl (fun h => h) hg)) ?_
 refine r_g rfl (wantTg rfl) rfl (fun hg => run_mv (v := .int _ _) rfl rfl) ?_
 refine r_g rfl (wantTg rfl) rfl (fun hg => run_leq rfl (glv rfl (fun h => h) hg) rfl) ?_
 refine r_g rfl (wantF rfl) rfl (fun hg => run_pick_and rfl (glv rfl (fun h => h) hg) (fun hq => glv rfl (fun h => h) (And.intro hg hq)) rfl) ?_
 refine Zo rfl (run_pick_or rfl rfl rfl (fun hq => glv rfl (fun h => h) hq)) ?_
 refine Zo rfl (mvB rfl) ?_
 refine r_g rfl (wantF rfl) rfl (fun hg => run_mv (v := .int _ _) rfl rfl) ?_
 refine r_g rfl (wantF rfl) rfl (fun hg => run_geq rfl (glv rfl (fun h => h) hg) rfl) ?_
 refine Zo rfl (run_pick_or rfl rfl rfl (fun hq => glv rfl (fun h => h) hq)) ?_
 refine Zn rfl (asB rfl) ?_
 refine r_cond rfl (fun hc4 => ?_) (fun hc4 => ?_)
 ·skip
  refine Zs ?_
  refine Zn rfl (asI rfl) ?_
  refine r_ret (res1 (v := .int _ _) rfl rfl) ?_
  exact ⟨ret_int (by rw [cls_letter (by omega)]), hV⟩
 refine r_skip ?_
 refine r_blk ?_
 refine Zs ?_
 refine Zn rfl (asI rfl) ?_
 refine r_ret (res1 (v := .int _ _) rfl rfl) ?_
 exact ⟨ret_int (by rw [cls_mark (by omega) (by omega) (by omega) (by omega)]), hV⟩
theorem rclass_calls {c : UInt8} {w0 : World}  :
    Calls Tryz.prog 101 #[.int .u8 ((c.toNat : Nat) : Int)] w0 fun e w' => e = .returned (.int .i64 (clsB c)) ∧ Evo w0 w' [] := by
 refine calls_enter (n := 51) Tryz.func101 rfl Tryz.ntmps101 rfl ?_
 have hV : Evo w0 w0 [] := Evo.refl _ _
 refine Zs ?_
 refine Zn rfl (asI rfl) ?_
 refine r_seq ?_
 refine r_block ?_
 refine Zs ?_
 refine Zo rfl (mvI rfl) ?_
 refine Zo rfl (run_eql rfl rfl rfl) ?_
 refine Zo rfl (mvB rfl) ?_
 refine r_g rfl (wantF rfl) rfl (fun hg => run_mv (v := .int _ _) rfl rfl) ?_
 refine r_g rfl (wantF rfl) rfl (fun hg => run_eql rfl (glv rfl (fun h => h) hg) rfl) ?_
 refine Zo rfl (run_pick_or rfl rfl rfl (fun hq => glv rfl (fun h => h) hq)) ?_
 refine Zo rfl (mvB rfl) ?_
 refine r_g rfl (wantF rfl) rfl (fun hg => run_mv (v := .int _ _) rfl rfl) ?_
 refine r_g rfl (wantF rfl) rfl (fun hg => run_eql rfl (glv rfl (fun h => h) hg) rfl) ?_
 refine Zo rfl (run_pick_or rfl rfl rfl (fun hq => glv rfl (fun h => h) hq)) ?_
 refine Zo rfl (mvB rfl) ?_
 refine r_g rfl (wantF rfl) rfl (fun hg => run_mv (v := .int _ _) rfl rfl) ?_
 refine r_g rfl (wantF rfl) rfl (fun hg => run_eql rfl (glv rfl (fun h => h) hg) rfl) ?_
 refine Zo rfl (run_pick_or rfl rfl rfl (fun hq => glv rfl (fun h => h) hq)) ?_
 refine Zn rfl (asB rfl) ?_
 refine r_cond rfl (fun hc1 => ?_) (fun hc1 => ?_)
 ·skip
  refine Zs ?_
  refine Zn rfl (asI rfl) ?_
  refine r_ret (res1 (v := .int _ _) rfl rfl) ?_
  exact ⟨ret_int (by rw [cls_space (by omega)]), hV⟩
 refine Zs ?_
 refine Zo rfl (mvI rfl) ?_
 refine Zo rfl (run_lss rfl rfl rfl) ?_
 refine Zo rfl (mvB rfl) ?_
 refine r_g rfl (wantF rfl) rfl (fun hg => run_mv (v := .int _ _) rfl rfl) ?_
 refine r_g rfl (wantF rfl) rfl (fun hg => run_eql rfl (glv rfl (fun h => h) hg) rfl) ?_
 refine Zo rfl (run_pick_or rfl rfl rfl (fun hq => glv rfl (fun h => h) hq)) ?_
 refine Zn rfl (asB rfl) ?_
 refine r_cond rfl (fun hc2 => ?_) (fun hc2 => ?_)
 ·skip
  refine Zs ?_
  refine Zn rfl (asI rfl) ?_
  refine r_ret (res1 (v := .int _ _) rfl rfl) ?_
  exact ⟨ret_int (by rw [cls_control (by omega) (by omega)]), hV⟩
 refine Zs ?_
 refine Zo rfl (mvI rfl) ?_
 refine Zo rfl (run_geq rfl rfl rfl) ?_
 refine Zo rfl (mvB rfl) ?_
 refine r_g rfl (wantT rfl) rfl (fun hg => run_mv (v := .int _ _) rfl rfl) ?_
 refine r_g rfl (wantT rfl) rfl (fun hg => run_leq rfl (glv rfl (fun h => h) hg) rfl) ?_
 refine Zo rfl (run_pick_and rfl rfl (fun hq => glv rfl (fun h => h) hq) rfl) ?_
 refine Zn rfl (asB rfl) ?_
 refine r_cond rfl (fun hc3 => ?_) (fun hc3 => ?_)
 ·skip
  refine Zs ?_
  refine Zn rfl (asI rfl) ?_
  refine r_ret (res1 (v := .int _ _) rfl rfl) ?_
  exact ⟨ret_int (by rw [cls_digit (by omega)]), hV⟩
 refine Zs ?_
 refine Zo rfl (mvI rfl) ?_
 refine Zo rfl (run_geq rfl rfl rfl) ?_
 refine Zo rfl (mvB rfl) ?_
 refine r_g rfl (wantT rfl) rfl (fun hg => run_mv (v := .int _ _) rfl rfl) ?_
 refine r_g rfl (wantT rfl) rfl (fun hg => run_leq rfl (glv rfl (fun h => h) hg) rfl) ?_
 refine Zo rfl (run_pick_and rfl rfl (fun hq => glv rfl (fun h => h) hq) rfl) ?_
 refine Zo rfl (mvB rfl) ?_
 refine r_g rfl (wantF rfl) rfl (fun hg => run_mv (v := .int _ _) rfl rfl) ?_
 refine r_g rfl (wantF rfl) rfl (fun hg => run_geq rfl (glv rfl (fun h => h) hg) rfl) ?_
 refine r_g rfl (wantF rfl) rfl (fun hg => run_mv (v := .bool _) rfl (glv rfl (fun h => h) hg)) ?_
 refine r_g rfl (wantTg rfl) rfl (fun hg => run_mv (v := .int _ _) rfl rfl) ?_
 refine r_g rfl (wantTg rfl) rfl (fun hg => run_leq rfl (glv rfl (fun h => h) hg) rfl) ?_
 refine r_g rfl (wantF rfl) rfl (fun hg => run_pick_and rfl (glv rfl (fun h => h) hg) (fun hq => glv rfl (fun h => h) (And.intro hg hq)) rfl) ?_
 refine Zo rfl (run_pick_or rfl rfl rfl (fun hq => glv rfl (fun h => h) hq)) ?_
 refine Zo rfl (mvB rfl) ?_
 refine r_g rfl (wantF rfl) rfl (fun hg => run_mv (v := .int _ _) rfl rfl) ?_
 refine r_g rfl (wantF rfl) rfl (fun hg => run_geq rfl (glv rfl (fun h => h) hg) rfl) ?_
 refine Zo rfl (run_pick_or rfl rfl rfl (fun hq => glv rfl (fun h => h) hq)) ?_
 refine Zn rfl (asB rfl) ?_
 refine r_cond rfl (fun hc4 => ?_) (fun hc4 => ?_)
 ·skip
  refine Zs ?_
  refine Zn rfl (asI rfl) ?_
  refine r_ret (res1 (v := .int _ _) rfl rfl) ?_
  exact ⟨ret_int (by rw [cls_letter (by omega)]), hV⟩
 refine r_skip ?_
 refine r_blk ?_
 refine Zs ?_
 refine Zn rfl (asI rfl) ?_
 refine r_ret (res1 (v := .int _ _) rfl rfl) ?_
 exact ⟨ret_int (by rw [cls_mark (by omega) (by omega) (by omega) (by omega)]), hV⟩
theorem lower_calls {s : Str} {w0 : World} (hs : s.length ≤ 140737488355328) :
    Calls Tryz.prog 183 #[S s] w0 fun e w' => e = .returned (S (lowS s)) ∧ Evo w0 w' [] := by
 refine calls_enter (n := 30) Tryz.func183 rfl Tryz.ntmps183 rfl ?_
 have hV : Evo w0 w0 [] := Evo.refl _ _
 refine Zs ?_
 refine Zn rfl (asT rfl) ?_
 refine Zs ?_
 refine Zo rfl (mvT rfl) ?_
 refine r_cvSB rfl Tryz.underlying9 Tryz.underlying123 Tryz.underlying5 rfl (by first | omega | (simp; omega)) ?_
 intro b1 capb1 w2 J1 E2 hyb1 Y1
 have Q2 := E2.size
 replace hV := Z0 hV E2
 have hrb1 := hyb1.row
 refine Zn rfl (run_asg (v := .slice (some ⟨b1, 0, none⟩) _ _) rfl rfl) ?_
 refine r_seq ?_
 refine Zs ?_
 refine Zo rfl (run_mv (v := .slice (some ⟨b1, 0, none⟩) _ _) rfl rfl) ?_
 refine Zo rfl (run_lenSl rfl rfl Tryz.underlying123) ?_
 refine Zn rfl (mvI rfl) ?_
 refine r_block ?_
 refine r_loop (α := Nat) [4, 5, 10, 11, 12, 13, 14, 15, 16, 17, 18, 19, 20, 21, 22, 23, 24, 25, 26, 27] (fun k g w => g 10 = .int .i64 (k : Nat) ∧ k ≤ s.length ∧ ByB w b1 capb1 (lowK s k) ∧ RowE w (some ⟨b1, 0, none⟩) b1 0 capb1 (lowK s k) ∧ w2.heap.size ≤ w.heap.size ∧ Evo w0 w []) (fun k => s.length - k) 0 ?_ ?_
 ·refine ⟨(by first | exact rfl | exact congrArg (Value.int _) (by omega) | exact congrArg (Value.int _) (by dsimp only; omega) | exact congrArg (Value.int _) (by simp) | exact congrArg S (by simp)), (by first | assumption | omega | (dsimp only; omega) | (simp; done)), (by rw [lowK_zero]; exact hyb1), (by rw [lowK_zero]; exact hrb1), (by first | assumption | omega | (dsimp only; omega) | (simp; done)), hV⟩
 rintro k g w4 ⟨hj5, hk_k, hyb1, hrb1, hzl3, hV⟩
 have hs_w4hV := hV.size
 refine Zk 10 (v := .int .i64 (k : Nat)) (by exact hj5) ?_
 have hll := lowK_len s k
 have hlg := fun h => lowK_get (s := s) (k := k) h
 have hln := fun h => congrArg UInt8.toNat (lowK_get (s := s) (k := k) h)
 refine Zs ?_
 refine Zn rfl (run_lss rfl rfl rfl) ?_
 refine r_seq ?_
 refine r_cond rfl (fun hc6 => ?_) (fun hc6 => ?_)
 ·skip
  refine r_skip ?_
  refine r_seq ?_
  refine r_block ?_
  refine Zs ?_
  refine Zo rfl (mvI rfl) ?_
  refine Zo rfl (run_ix (k) rfl Tryz.underlying123 ty_5 rfl rfl (by first | exact rfl | omega) (by omega) (hrb1.addr (i := k) (by omega))) ?_
  have hA7 := hrb1.atD (k) (by omega)
  refine Zo rfl (run_ld1 rfl ag_5 rfl (hA7.cell 0 rfl)) ?_
  refine Zo rfl (asI rfl) ?_
  refine Zn rfl (asI rfl) ?_
  refine Zs ?_
  refine Zo rfl (mvI rfl) ?_
  refine Zo rfl (run_geq rfl rfl rfl) ?_
  refine Zo rfl (mvB rfl) ?_
  refine r_g rfl (wantT rfl) rfl (fun hg => run_mv (v := .int _ _) rfl rfl) ?_
  refine r_g rfl (wantT rfl) rfl (fun hg => run_leq rfl (glv rfl (fun h => h) hg) rfl) ?_
  refine Zn rfl (run_pick_and rfl rfl (fun hq => glv rfl (fun h => h) hq) rfl) ?_
  refine r_cond rfl (fun hc8 => ?_) (fun hc8 => ?_)
  ·skip
   refine r_region ?_
   refine Zo rfl (run_mv (v := .slice (some ⟨b1, 0, none⟩) _ _) rfl rfl) ?_
   refine Zo rfl (mvI rfl) ?_
   refine Zo rfl (mvI rfl) ?_
   refine Zo rfl (run_addw rfl rfl rfl) ?_
   refine Zo rfl (run_subw rfl rfl rfl) ?_
   refine Zo rfl (run_ix (k) rfl Tryz.underlying123 ty_5 rfl rfl (by first | exact rfl | omega) (by omega) (hrb1.addr (i := k) (by omega))) ?_
   have hA9 := hrb1.atD (k) (by omega)
   refine r_storeBy2 (k) ((lwB (s.getD k 0))) rfl (by first | omega | (show 0 + _ * 1 = _; omega)) rfl (by have h8 := hlg (by omega); refine Eq.trans ?_ (low_add (c := s.getD k 0) (by rw [← h8]; omega) (by rw [← h8]; omega)); rw [h8]) hyb1 (by omega) ty_5 ?_
   intro w10 E10 V10 hy_new
   have Q10 := E10.size
   replace hV := Z1 hV E10 (by first | exact .inl (by omega) | exact .inr (by simp))
   have hyb1 := hy_new
   have hrb1 := hyb1.row
   clear hy_new
   refine r_nil ?_
   refine r_blk ?_
   refine r_region ?_
   refine Zo rfl (run_add rfl rfl rfl (by omega) (by omega)) ?_
   refine Zn rfl (mvI rfl) ?_
   refine r_again (k + 1) ?_ ?_ ?_
   ·first | omega | (dsimp only; omega)
   ·refine ⟨(by first | exact rfl | exact congrArg (Value.int _) (by omega) | exact congrArg (Value.int _) (by dsimp only; omega) | exact congrArg (Value.int _) (by simp) | exact congrArg S (by simp)), (by first | assumption | omega | (dsimp only; omega) | (simp; done)), (by first | (have h9 := hyb1; rw [lowK_set (by omega)] at h9; exact h9) | (rw [lowK_keep (by omega) (by have := hln (by omega); omega)]; exact hyb1)), (by first | (have h9 := hrb1; rw [lowK_set (by omega)] at h9; exact h9) | (rw [lowK_keep (by omega) (by have := hln (by omega); omega)]; exact hrb1)), (by first | assumption | omega | (dsimp only; omega) | (simp; done)), hV⟩
   repeat (first | (with_reducible exact Agree.merge _ _ _) | (with_reducible exact Agree.refl _ _) | (with_reducible refine Agree.upd ?_ _ _ rfl) | ((with_reducible refine Agree.inner ?_ ?_); (kernel_rfl)))
  refine r_skip ?_
  refine r_blk ?_
  refine r_region ?_
  refine Zo rfl (run_add rfl rfl rfl (by omega) (by omega)) ?_
  refine Zn rfl (mvI rfl) ?_
  refine r_again (k + 1) ?_ ?_ ?_
  ·first | omega | (dsimp only; omega)
  ·refine ⟨(by first | exact rfl | exact congrArg (Value.int _) (by omega) | exact congrArg (Value.int _) (by dsimp only; omega) | exact congrArg (Value.int _) (by simp) | exact congrArg S (by simp)), (by first | assumption | omega | (dsimp only; omega) | (simp; done)), (by first | (have h9 := hyb1; rw [lowK_set (by omega)] at h9; exact h9) | (rw [lowK_keep (by omega) (by have := hln (by omega); omega)]; exact hyb1)), (by first | (have h9 := hrb1; rw [lowK_set (by omega)] at h9; exact h9) | (rw [lowK_keep (by omega) (by have := hln (by omega); omega)]; exact hrb1)), (by first | assumption | omega | (dsimp only; omega) | (simp; done)), hV⟩
  repeat (first | (with_reducible exact Agree.merge _ _ _) | (with_reducible exact Agree.refl _ _) | (with_reducible refine Agree.upd ?_ _ _ rfl) | ((with_reducible refine Agree.inner ?_ ?_); (kernel_rfl)))
 refine r_exit rfl ?_
 refine Zs ?_
 refine Zo rfl (run_mv (v := .slice (some ⟨b1, 0, none⟩) _ _) rfl rfl) ?_
 refine Zo rfl (run_cvBS rfl Tryz.underlying123 Tryz.underlying5 Tryz.underlying9 rfl (by first | rfl | simp) hrb1) ?_
 refine Zn rfl (asT rfl) ?_
 refine r_ret (res1 (v := S _) rfl rfl) ?_
 exact ⟨by rw [← lowK_all (k := k) (by omega)], hV⟩
theorem rlower_calls {s : Str} {w0 : World} (hs : s.length ≤ 140737488355328) :
    Calls Tryz.prog 173 #[S s] w0 fun e w' => e = .returned (S (lowS s)) ∧ Evo w0 w' [] := by
 refine calls_enter (n := 33) Tryz.func173 rfl Tryz.ntmps173 rfl ?_
 have hV : Evo w0 w0 [] := Evo.refl _ _
 refine Zs ?_
 refine Zn rfl (asT rfl) ?_
 refine Zs ?_
 refine Zo rfl (mvT rfl) ?_
 refine r_cvSB rfl Tryz.underlying9 Tryz.underlying123 Tryz.underlying5 rfl (by first | omega | (simp; omega)) ?_
 intro b1 capb1 w2 J1 E2 hyb1 Y1
 have Q2 := E2.size
 replace hV := Z0 hV E2
 have hrb1 := hyb1.row
 refine Zn rfl (run_asg (v := .slice (some ⟨b1, 0, none⟩) _ _) rfl rfl) ?_
 refine r_seq ?_
 refine Zs ?_
 refine Zo rfl (run_mv (v := .slice (some ⟨b1, 0, none⟩) _ _) rfl rfl) ?_
 refine Zo rfl (run_lenSl rfl rfl Tryz.underlying123) ?_
 refine Zn rfl (mvI rfl) ?_
 refine r_block ?_
 refine r_loop (α := Nat) [4, 9, 10, 11, 12, 13, 14, 15, 16, 17, 18, 19, 20, 21, 22, 23, 24, 25, 26, 27, 28, 29, 30] (fun k g w => g 9 = .int .i64 (k : Nat) ∧ k ≤ s.length ∧ ByB w b1 capb1 (lowK s k) ∧ RowE w (some ⟨b1, 0, none⟩) b1 0 capb1 (lowK s k) ∧ w2.heap.size ≤ w.heap.size ∧ Evo w0 w []) (fun k => s.length - k) 0 ?_ ?_
 ·refine ⟨(by first | exact rfl | exact congrArg (Value.int _) (by omega) | exact congrArg (Value.int _) (by dsimp only; omega) | exact congrArg (Value.int _) (by simp) | exact congrArg S (by simp)), (by first | assumption | omega | (dsimp only; omega) | (simp; done)), (by rw [lowK_zero]; exact hyb1), (by rw [lowK_zero]; exact hrb1), (by first | assumption | omega | (dsimp only; omega) | (simp; done)), hV⟩
 rintro k g w4 ⟨hj5, hk_k, hyb1, hrb1, hzl3, hV⟩
 have hs_w4hV := hV.size
 refine Zk 9 (v := .int .i64 (k : Nat)) (by exact hj5) ?_
 have hll := lowK_len s k
 have hlg := fun h => lowK_get (s := s) (k := k) h
 have hln := fun h => congrArg UInt8.toNat (lowK_get (s := s) (k := k) h)
 refine Zs ?_
 refine Zn rfl (run_lss rfl rfl rfl) ?_
 refine r_seq ?_
 refine r_cond rfl (fun hc6 => ?_) (fun hc6 => ?_)
 ·skip
  refine r_skip ?_
  refine r_seq ?_
  refine r_block ?_
  refine Zs ?_
  refine Zo rfl (mvI rfl) ?_
  refine Zn rfl (asI rfl) ?_
  refine Zs ?_
  refine Zo rfl (run_mv (v := .slice (some ⟨b1, 0, none⟩) _ _) rfl rfl) ?_
  refine Zo rfl (mvI rfl) ?_
  refine Zo rfl (run_ix (k) rfl Tryz.underlying123 ty_5 rfl rfl (by first | exact rfl | omega) (by omega) (hrb1.addr (i := k) (by omega))) ?_
  have hA7 := hrb1.atD (k) (by omega)
  refine Zo rfl (run_ld1 rfl ag_5 rfl (hA7.cell 0 rfl)) ?_
  refine Zo rfl (run_geq rfl rfl rfl) ?_
  refine Zo rfl (mvB rfl) ?_
  refine r_g rfl (wantT rfl) rfl (fun hg => run_mv (v := .slice (some ⟨b1, 0, none⟩) _ _) rfl rfl) ?_
  refine r_g rfl (wantT rfl) rfl (fun hg => run_mv (v := .int _ _) rfl rfl) ?_
  refine r_g rfl (wantT rfl) rfl (fun hg => run_ix (k) rfl Tryz.underlying123 ty_5 (glv rfl (fun h => h) hg) (glv rfl (fun h => h) hg) (by first | exact rfl | omega) (by omega) (hrb1.addr (i := k) (by omega))) ?_
  refine r_g rfl (wantT rfl) rfl (fun hg => run_ld1 rfl ag_5 (glv rfl (fun h => h) hg) ((hrb1.atD (k) (by omega)).cell 0 rfl)) ?_
  refine r_g rfl (wantT rfl) rfl (fun hg => run_leq rfl (glv rfl (fun h => h) hg) rfl) ?_
  refine Zn rfl (run_pick_and rfl rfl (fun hq => glv rfl (fun h => h) hq) rfl) ?_
  refine r_cond rfl (fun hc8 => ?_) (fun hc8 => ?_)
  ·skip
   refine r_region ?_
   refine Zo rfl (run_mv (v := .slice (some ⟨b1, 0, none⟩) _ _) rfl rfl) ?_
   refine Zo rfl (mvI rfl) ?_
   refine Zo rfl (run_ix (k) rfl Tryz.underlying123 ty_5 rfl rfl (by first | exact rfl | omega) (by omega) (hrb1.addr (i := k) (by omega))) ?_
   have hA9 := hrb1.atD (k) (by omega)
   refine Zo rfl (run_ld1 rfl ag_5 rfl (hA9.cell 0 rfl)) ?_
   refine Zo rfl (run_addw rfl rfl rfl) ?_
   refine Zo rfl (run_ix (k) rfl Tryz.underlying123 ty_5 rfl rfl (by first | exact rfl | omega) (by omega) (hrb1.addr (i := k) (by omega))) ?_
   have hA10 := hrb1.atD (k) (by omega)
   refine r_storeBy2 (k) ((lwB (s.getD k 0))) rfl (by first | omega | (show 0 + _ * 1 = _; omega)) rfl (by have h8 := hlg (by omega); refine Eq.trans ?_ (low_add2 (c := s.getD k 0) (by rw [← h8]; omega) (by rw [← h8]; omega)); rw [h8]) hyb1 (by omega) ty_5 ?_
   intro w11 E11 V11 hy_new
   have Q11 := E11.size
   replace hV := Z1 hV E11 (by first | exact .inl (by omega) | exact .inr (by simp))
   have hyb1 := hy_new
   have hrb1 := hyb1.row
   clear hy_new
   refine r_nil ?_
   refine r_blk ?_
   refine r_region ?_
   refine Zo rfl (run_add rfl rfl rfl (by omega) (by omega)) ?_
   refine Zn rfl (mvI rfl) ?_
   refine r_again (k + 1) ?_ ?_ ?_
   ·first | omega | (dsimp only; omega)
   ·refine ⟨(by first | exact rfl | exact congrArg (Value.int _) (by omega) | exact congrArg (Value.int _) (by dsimp only; omega) | exact congrArg (Value.int _) (by simp) | exact congrArg S (by simp)), (by first | assumption | omega | (dsimp only; omega) | (simp; done)), (by first | (have h9 := hyb1; rw [lowK_set (by omega)] at h9; exact h9) | (rw [lowK_keep (by omega) (by have := hln (by omega); omega)]; exact hyb1)), (by first | (have h9 := hrb1; rw [lowK_set (by omega)] at h9; exact h9) | (rw [lowK_keep (by omega) (by have := hln (by omega); omega)]; exact hrb1)), (by first | assumption | omega | (dsimp only; omega) | (simp; done)), hV⟩
   repeat (first | (with_reducible exact Agree.merge _ _ _) | (with_reducible exact Agree.refl _ _) | (with_reducible refine Agree.upd ?_ _ _ rfl) | ((with_reducible refine Agree.inner ?_ ?_); (kernel_rfl)))
  refine r_skip ?_
  refine r_blk ?_
  refine r_region ?_
  refine Zo rfl (run_add rfl rfl rfl (by omega) (by omega)) ?_
  refine Zn rfl (mvI rfl) ?_
  refine r_again (k + 1) ?_ ?_ ?_
  ·first | omega | (dsimp only; omega)
  ·refine ⟨(by first | exact rfl | exact congrArg (Value.int _) (by omega) | exact congrArg (Value.int _) (by dsimp only; omega) | exact congrArg (Value.int _) (by simp) | exact congrArg S (by simp)), (by first | assumption | omega | (dsimp only; omega) | (simp; done)), (by first | (have h9 := hyb1; rw [lowK_set (by omega)] at h9; exact h9) | (rw [lowK_keep (by omega) (by have := hln (by omega); omega)]; exact hyb1)), (by first | (have h9 := hrb1; rw [lowK_set (by omega)] at h9; exact h9) | (rw [lowK_keep (by omega) (by have := hln (by omega); omega)]; exact hrb1)), (by first | assumption | omega | (dsimp only; omega) | (simp; done)), hV⟩
  repeat (first | (with_reducible exact Agree.merge _ _ _) | (with_reducible exact Agree.refl _ _) | (with_reducible refine Agree.upd ?_ _ _ rfl) | ((with_reducible refine Agree.inner ?_ ?_); (kernel_rfl)))
 refine r_exit rfl ?_
 refine Zs ?_
 refine Zo rfl (run_mv (v := .slice (some ⟨b1, 0, none⟩) _ _) rfl rfl) ?_
 refine Zo rfl (run_cvBS rfl Tryz.underlying123 Tryz.underlying5 Tryz.underlying9 rfl (by first | rfl | simp) hrb1) ?_
 refine Zn rfl (asT rfl) ?_
 refine r_ret (res1 (v := S _) rfl rfl) ?_
 exact ⟨by rw [← lowK_all (k := k) (by omega)], hV⟩
end Go.Proofs.YtlfjocbnbceceaaGreatDoor
namespace Go.Vc
open Go Go.RowKit Go.IntWalk Go.Deep
instance : Enc Ende := ⟨2, fun x => [S x.strip, S x.add], fun _ => rfl, fun _ => rfl, by decide⟩
def BdE (x : Ende) : Prop := x.strip.length ≤ 140737488351232 ∧ x.add.length ≤ 140737488351232
def BdC (x : Clas) : Prop := x.name.length ≤ 140737488351232 ∧ (∀ y ∈ x.ends, BdE y) ∧ x.ends.length ≤ 4398046510976
instance : Rep Clas where
  n := 2
  rep w cs x := (∃ ao b off cap, cs = [S x.name, .slice ao x.ends.length cap] ∧ RowE w ao b off cap x.ends) ∧ BdC x
  len := fun ⟨⟨_, _, _, _, h, _⟩, _⟩ => by rw [h]; rfl
  evo0 := fun ⟨⟨ao, b, off, cap, h, hr⟩, hb⟩ he => ⟨⟨ao, b, off, cap, h, hr.evo0 he⟩, hb⟩
  pos := by decide
theorem clas_atK {w : World} {E : List Nat} {ao : Option Addr} {b off cap : Nat} {l : List Clas} (h : RowRK w E ao b off cap l) (k : Nat) (hk : k < l.length) :
    ∃ ao' b' off' cap', ∀ w', Evo w w' E → At w' b (off + k * 2) [S (l.getD k default).name, .slice ao' (l.getD k default).ends.length cap'] ∧ RowE w' ao' b' off' cap' (l.getD k default).ends := by
  obtain ⟨cs, h1⟩ := h.atD k hk
  obtain ⟨ao', b', off', cap', h2, h3⟩ := (h1 w (Evo.refl _ _)).2.1
  refine ⟨ao', b', off', cap', fun w' he => ⟨h2 ▸ (h1 w' he).1, ?_⟩⟩
  obtain ⟨ao2, b2, off2, cap2, h4, h5⟩ := (h1 w' he).2.1
  rw [h2] at h4
  simp only [List.cons.injEq, Value.slice.injEq, and_true, true_and] at h4
  obtain ⟨rfl, rfl⟩ := h4
  exact rowE_same h5 h3
theorem clas_bd {w : World} {ao : Option Addr} {b off cap : Nat} {l : List Clas} (h : RowR w ao b off cap l) : ∀ x ∈ l, BdC x := fun x hx => by
  obtain ⟨css, _, hl, hr⟩ := h
  obtain ⟨i, hi⟩ := List.getElem?_of_mem hx
  have hi2 : i < l.length := (List.getElem?_eq_some_iff.1 hi).1
  exact (hr i (css[i]'(by omega)) x (by simp [hl, hi2]) hi).2
theorem getD_in {α : Type} [Inhabited α] {l : List α} {k : Nat} (h : k < l.length) : l.getD k default ∈ l := by
  have e : l.getD k default = l[k] := by simp [List.getD, h]
  rw [e]; exact List.getElem_mem _
theorem ends_bd {c : List Clas} (h : ∀ x ∈ c, BdC x) (n : Str) (k : Nat) : BdE ((endsL c n).getD k default) := by
  have h0 : BdE default := ⟨Nat.zero_le _, Nat.zero_le _⟩
  by_cases h1 : 0 ≤ findC c n
  · rw [ends_at h1]
    rcases Nat.lt_or_ge k (c.getD (findC c n).toNat default).ends.length with h2 | h2
    · have h3 := findC_lt c n
      have h4 : (findC c n).toNat < c.length := by omega
      exact (h _ (getD_in h4)).2.1 _ (getD_in h2)
    · rw [List.getD_eq_getElem?_getD, List.getElem?_eq_none h2]; exact h0
  · rw [ends_none h1]; exact h0
theorem ends_len {c : List Clas} (h : ∀ x ∈ c, BdC x) (n : Str) : (endsL c n).length ≤ 4398046510976 := by
  by_cases h1 : 0 ≤ findC c n
  · rw [ends_at h1]
    have h3 := findC_lt c n
    exact (h _ (getD_in (by omega : (findC c n).toNat < c.length))).2.2
  · rw [ends_none h1]; exact Nat.zero_le _
theorem ends_ifbd {c : List Clas} {q : Str} (h : ∀ k, BdE ((endsL c q).getD k default)) (k : Nat) : BdE ((if q = [] then ([] : List Ende) else endsL c q).getD k default) := by
  by_cases hq : q = []
  · rw [if_pos hq]; exact ⟨Nat.zero_le _, Nat.zero_le _⟩
  · rw [if_neg hq]; exact h k
theorem ends_iflen {c : List Clas} {q : Str} {n : Nat} (h : (endsL c q).length ≤ n) : (if q = [] then ([] : List Ende) else endsL c q).length ≤ n := by
  by_cases hq : q = []
  · rw [if_pos hq]; exact Nat.zero_le _
  · rw [if_neg hq]; exact h
end Go.Vc
namespace Go.Proofs.YtlfjocbnbceceaaGreatDoor
open Go.RowKit Go.Vc
theorem ag_110 : aggP Tryz.prog 110 = some true := by kernel_rfl
theorem ag_9 : aggP Tryz.prog 9 = some false := by kernel_rfl
theorem fo_110_0 : fieldP Tryz.prog 110 0 = some 0 := by kernel_rfl
theorem ty_110 : tyP Tryz.prog 110 = some (2, 40, some (.agg #[(.string ⟨#[]⟩), (.slice none 0 0)])) := by kernel_rfl
theorem sl_hs_calls {s t : Str} {w0 : World} (hs : s.length ≤ 140737488355328) (ht : t.length ≤ 140737488355328) :
    Calls Tryz.prog 253 #[S s, S t] w0 fun e w' => e = .returned (.bool (decide (t <:+ s))) ∧ Evo w0 w' [] := by
 refine calls_enter (n := 21) Tryz.func253 rfl Tryz.ntmps253 rfl ?_
 have hV : Evo w0 w0 [] := Evo.refl _ _
 refine Zs ?_
 refine Zn rfl (asB rfl) ?_
 refine Zs ?_
 refine Zo rfl (mvT rfl) ?_
 refine Zo rfl (run_lenS rfl rfl Tryz.underlying9) ?_
 refine Zo rfl (mvT rfl) ?_
 refine Zo rfl (run_lenS rfl rfl Tryz.underlying9) ?_
 refine Zo rfl (run_geq rfl rfl rfl) ?_
 refine Zo rfl (mvB rfl) ?_
 refine r_g rfl (wantT rfl) rfl (fun hg => run_mv (v := S _) rfl rfl) ?_
 refine r_g rfl (wantT rfl) rfl (fun hg => run_mv (v := S _) rfl rfl) ?_
 refine r_g rfl (wantT rfl) rfl (fun hg => run_lenS rfl (glv rfl (fun h => h) hg) Tryz.underlying9) ?_
 refine r_g rfl (wantT rfl) rfl (fun hg => run_mv (v := S _) rfl rfl) ?_
 refine r_g rfl (wantT rfl) rfl (fun hg => run_lenS rfl (glv rfl (fun h => h) hg) Tryz.underlying9) ?_
 refine r_g rfl (wantT rfl) rfl (fun hg => run_sub rfl (glv rfl (fun h => h) hg) (glv rfl (fun h => h) hg) (by omega) (by omega)) ?_
 refine r_g rfl (wantT rfl) rfl (fun hg => run_slS ((s.length - t.length)) (_) rfl Tryz.underlying9 (glv rfl (fun h => h) hg) (at1 (glv rfl (fun h => h) hg) (by omega)) hi0 (by first | omega | (simp; omega)) (by first | omega | (simp; omega))) ?_
 refine r_g rfl (wantT rfl) rfl (fun hg => run_mv (v := S _) rfl rfl) ?_
 refine r_g rfl (wantT rfl) rfl (fun hg => run_seql rfl (glv rfl (fun h => h) hg) (glv rfl (fun h => h) hg)) ?_
 refine Zo rfl (run_pick_and rfl rfl (fun hq => glv rfl (fun h => h) hq) rfl) ?_
 refine Zn rfl (asB rfl) ?_
 refine r_ret (res1 (v := .bool _) rfl rfl) ?_
 exact ⟨ret_bool (by rw [Bool.eq_iff_iff, decide_eq_true_iff, decide_eq_true_iff, suffix_iff2]; first | omega | (constructor <;> (rintro ⟨h1, h2⟩; exact ⟨by omega, h2⟩))), hV⟩
theorem sl_cs_calls {s t : Str} {w0 : World} (hs : s.length ≤ 140737488355328) (ht : t.length ≤ 140737488355328) :
    Calls Tryz.prog 239 #[S s, S t] w0 fun e w' => e = .returned (.tuple #[S (if t <:+ s then s.take (s.length - t.length) else s), .bool (decide (t <:+ s))]) ∧ Evo w0 w' [] := by
 refine calls_enter (n := 18) Tryz.func239 rfl Tryz.ntmps239 rfl ?_
 have hV : Evo w0 w0 [] := Evo.refl _ _
 refine Zs ?_
 refine Zo rfl (asT rfl) ?_
 refine Zn rfl (asB rfl) ?_
 refine r_seq ?_
 refine Zs ?_
 refine Zo rfl (mvT rfl) ?_
 refine Zo rfl (mvT rfl) ?_
 refine r_opcall rfl rfl rfl (run_callf (vs := [S _, S _]) rfl (by exact rfl) Tryz.func253 rfl (by kernel_rfl)) (sl_hs_calls (by first | omega | (simp; omega)) (by first | omega | (simp; omega))) ?_
 rintro e w1 ⟨rfl, hE1⟩
 refine ⟨_, rfl, ?_⟩
 have Q1 := hE1.size
 replace hV := Z0 hV hE1
 refine Zn rfl (run_notb rfl rfl) ?_
 refine r_condb rfl (fun hc2 => ?_) (fun hc2 => ?_)
 ·skip
  refine Zs ?_
  refine Zo rfl (mvT rfl) ?_
  refine Zo rfl (asT rfl) ?_
  refine Zn rfl (asB rfl) ?_
  refine r_ret (res2 (v := S _) (u := .bool _) rfl rfl rfl) ?_
  exact ⟨by rw [if_neg (by simpa using hc2)]; simp_all, hV⟩
 refine r_skip ?_
 refine r_seq ?_
 have hsx := (suffix_iff.1 (by simpa using hc2 : t <:+ s)).1
 refine r_region ?_
 refine Zo rfl (mvT rfl) ?_
 refine Zo rfl (mvT rfl) ?_
 refine Zo rfl (run_lenS rfl rfl Tryz.underlying9) ?_
 refine Zo rfl (mvT rfl) ?_
 refine Zo rfl (run_lenS rfl rfl Tryz.underlying9) ?_
 refine Zo rfl (run_sub rfl rfl rfl (by omega) (by omega)) ?_
 refine Zo rfl (by exact run_slS (0) ((s.length - t.length)) rfl Tryz.underlying9 rfl lo0 (at1 rfl (by omega)) (by first | omega | (simp; omega)) (by first | omega | (simp; omega))) ?_
 refine Zo rfl (asT rfl) ?_
 refine Zn rfl (asB rfl) ?_
 refine r_ret (res2 (v := S _) (u := .bool _) rfl rfl rfl) ?_
 exact ⟨by rw [if_pos (by simpa using hc2)]; simp_all, hV⟩
theorem s_cs_calls {s t : Str} {w0 : World} (hs : s.length ≤ 140737488355328) (ht : t.length ≤ 140737488355328) :
    Calls Tryz.prog 226 #[S s, S t] w0 fun e w' => e = .returned (.tuple #[S (if t <:+ s then s.take (s.length - t.length) else s), .bool (decide (t <:+ s))]) ∧ Evo w0 w' [] := by
 refine calls_enter (n := 11) Tryz.func226 rfl Tryz.ntmps226 rfl ?_
 have hV : Evo w0 w0 [] := Evo.refl _ _
 refine Zs ?_
 refine Zo rfl (asT rfl) ?_
 refine Zn rfl (asB rfl) ?_
 refine Zs ?_
 refine Zo rfl (mvT rfl) ?_
 refine Zo rfl (mvT rfl) ?_
 refine r_opcall rfl rfl rfl (run_callf (vs := [S _, S _]) rfl (by exact rfl) Tryz.func239 rfl (by kernel_rfl)) (sl_cs_calls (by first | omega | (simp; omega)) (by first | omega | (simp; omega))) ?_
 rintro e w1 ⟨rfl, hE1⟩
 refine ⟨_, rfl, ?_⟩
 have Q1 := hE1.size
 replace hV := Z0 hV hE1
 refine Zo rfl (run_extract (v := S _) rfl rfl rfl) ?_
 refine Zo rfl (run_extract (v := .bool _) rfl rfl rfl) ?_
 refine Zo rfl (asT rfl) ?_
 refine Zn rfl (asB rfl) ?_
 refine r_ret (res2 (v := S _) (u := .bool _) rfl rfl rfl) ?_
 exact ⟨rfl, hV⟩
theorem rfind_calls {ao : Option Addr} {b off cap : Nat} {c : List Clas} {n : Str} {w0 : World} (hc : RowR w0 ao b off cap c) :
    Calls Tryz.prog 57 #[.slice ao c.length cap, S n] w0 fun e w' => e = .returned (.int .i64 (findC c n)) ∧ Evo w0 w' [] := by
 refine calls_enter (n := 20) Tryz.func57 rfl Tryz.ntmps57 rfl ?_
 have hV : Evo w0 w0 [] := Evo.refl _ _
 have hc0 := hc.keep
 have hbd_hc := hc.bd
 refine Zs ?_
 refine Zn rfl (asI rfl) ?_
 refine r_seq ?_
 refine Zs ?_
 refine Zo rfl (mvS rfl) ?_
 refine Zo rfl (run_lenSl rfl rfl Tryz.underlying26) ?_
 refine Zn rfl (mvI rfl) ?_
 refine r_block ?_
 refine r_loop (α := Nat) [4, 5, 6, 9, 10, 11, 12, 13, 14, 15, 16, 17, 18, 19] (fun k g w => g 9 = .int .i64 (k : Nat) ∧ k ≤ c.length ∧ (∀ j, j < k → ¬ (c.getD j default).name = n) ∧ w0.heap.size ≤ w.heap.size ∧ Evo w0 w []) (fun k => c.length - k) 0 ?_ ?_
 ·refine ⟨(by first | exact rfl | exact congrArg (Value.int _) (by omega) | exact congrArg (Value.int _) (by dsimp only; omega) | exact congrArg (Value.int _) (by simp) | exact congrArg S (by simp)), (by first | assumption | omega | (dsimp only; omega) | (simp; done)), (fun j h => by omega), (by first | assumption | omega | (dsimp only; omega) | (simp; done)), hV⟩
 rintro k g w2 ⟨hj3, hk_k, hno, hzl1, hV⟩
 have hs_w2hV := hV.size
 replace hc := hc0.now hV
 refine Zk 9 (v := .int .i64 (k : Nat)) (by exact hj3) ?_
 refine Zs ?_
 refine Zn rfl (run_lss rfl rfl rfl) ?_
 refine r_seq ?_
 refine r_cond rfl (fun hc4 => ?_) (fun hc4 => ?_)
 ·skip
  refine r_skip ?_
  refine r_seq ?_
  refine r_block ?_
  refine Zs ?_
  refine Zo rfl (mvI rfl) ?_
  refine Zo rfl (run_ix (k) rfl Tryz.underlying26 ty_110 rfl rfl (by first | exact rfl | omega) (by omega) (hc.addr (i := k) (by omega))) ?_
  obtain ⟨ao5, b5, off5, cap5, hX⟩ := clas_atK hc0 (k) (by omega)
  have hA50 := fun (w' : World) (h : Evo w0 w' []) => (hX w' h).1
  have hA5 := hA50 _ hV
  have hR50 := fun (w' : World) (h : Evo w0 w' []) => (hX w' h).2
  have hR5 := hR50 _ hV
  clear hX
  have hbd_hR5 := hR5.bd
  refine Zo rfl (run_ldN rfl ag_110 ty_110 rfl rfl hA5) ?_
  refine r_alloc (zs := [_, _]) ty_110 rfl rfl ?_
  intro b6 w7 J6 E7 B6 Y6
  have Q7 := E7.size
  replace hV := Z0 hV E7
  replace hA5 := hA50 _ hV
  refine Zo rfl (asI rfl) ?_
  refine r_store (v := .agg _) (vs := [_, _]) (cs' := [_, _]) rfl rfl B6 ty_110 rfl rfl rfl rfl rfl ?_
  intro w8 E8 V8 hb_new
  have Q8 := E8.size
  replace hV := Z1 hV E8 (by first | exact .inl (by omega) | exact .inr (by simp))
  replace hc := hc0.now hV
  replace hR5 := hR50 _ hV
  replace B6 := hb_new
  clear hb_new
  refine r_nil ?_
  refine Zs ?_
  refine Zo rfl (run_fa rfl rfl fo_110_0) ?_
  refine Zo rfl (run_ld1 rfl ag_9 rfl (B6.at.cell 0 rfl)) ?_
  refine Zo rfl (mvT rfl) ?_
  refine Zn rfl (run_seql rfl rfl rfl) ?_
  refine r_cond rfl (fun hc9 => ?_) (fun hc9 => ?_)
  ·skip
   refine Zs ?_
   refine Zo rfl (mvI rfl) ?_
   refine Zn rfl (asI rfl) ?_
   refine r_ret (res1 (v := .int _ _) rfl rfl) ?_
   exact ⟨ret_int (by rw [findC_at (k := k) (by omega) hno hc9]), hV⟩
  refine r_skip ?_
  refine r_blk ?_
  refine r_region ?_
  refine Zo rfl (run_add rfl rfl rfl (by omega) (by omega)) ?_
  refine Zn rfl (mvI rfl) ?_
  refine r_again (k + 1) ?_ ?_ ?_
  ·first | omega | (dsimp only; omega)
  ·refine ⟨(by first | exact rfl | exact congrArg (Value.int _) (by omega) | exact congrArg (Value.int _) (by dsimp only; omega) | exact congrArg (Value.int _) (by simp) | exact congrArg S (by simp)), (by first | assumption | omega | (dsimp only; omega) | (simp; done)), (upto0 hno (by assumption)), (by first | assumption | omega | (dsimp only; omega) | (simp; done)), hV⟩
  repeat (first | (with_reducible exact Agree.merge _ _ _) | (with_reducible exact Agree.refl _ _) | (with_reducible refine Agree.upd ?_ _ _ rfl) | ((with_reducible refine Agree.inner ?_ ?_); (kernel_rfl)))
 refine r_exit rfl ?_
 refine Zs ?_
 refine Zn rfl (asI rfl) ?_
 refine r_ret (res1 (v := .int _ _) rfl rfl) ?_
 exact ⟨ret_int (by rw [findC_none (fun j hj => hno j (by omega))]), hV⟩
theorem ty_9 : tyP Tryz.prog 9 = some (1, 16, some (.string ⟨#[]⟩)) := by kernel_rfl
theorem ag_108 : aggP Tryz.prog 108 = some false := by kernel_rfl
theorem fo_110_1 : fieldP Tryz.prog 110 1 = some 1 := by kernel_rfl
theorem ag_112 : aggP Tryz.prog 112 = some true := by kernel_rfl
theorem fo_112_0 : fieldP Tryz.prog 112 0 = some 0 := by kernel_rfl
theorem fo_112_1 : fieldP Tryz.prog 112 1 = some 1 := by kernel_rfl
theorem fo_88_0 : fieldP Tryz.prog 88 0 = some 0 := by kernel_rfl
theorem fo_88_1 : fieldP Tryz.prog 88 1 = some 1 := by kernel_rfl
theorem ty_112 : tyP Tryz.prog 112 = some (2, 32, some (.agg #[(.string ⟨#[]⟩), (.string ⟨#[]⟩)])) := by kernel_rfl
end Go.Proofs.YtlfjocbnbceceaaGreatDoor
namespace Go.Vc
open Go Go.RowKit Go.IntWalk
section
variable {P : Program} {f : Fr} {w : World} {o : Oper}
theorem run_mkF {g : FuncId} {xs : List Operand} {vs : List Value} (ho : o.op = .makeFunc (.func g) #[] xs.toArray) (hvs : xs.map (opv f) = vs) : (execOp (opv f) o).run P w = .ok (.value (.func (.func g) #[] vs.toArray)) w := by
  unfold execOp; rw [ho]; simp only []
  rw [show xs.toArray.map (opv f) = vs.toArray from by rw [← hvs]; simp]
  simp [Instr.makeFunc]
theorem run_callfn {g : FuncId} {F : Operand} {args : List Operand} {ts : Array TypeId} {vs cs : List Value} {fn : Func} {c : Code} (ho : o.op = .call ⟨.value F, args.toArray, ts⟩) (hF : opv f F = .func (.func g) #[] cs.toArray) (hvs : args.map (opv f) = vs)
    (hf : P.funcs[g]? = some fn) (hb : fn.body = some c) (hn : (fn.name == "runtime.NumGoroutine") = false) : (execOp (opv f) o).run P w = .ok (.enter g (vs ++ cs).toArray) w := by
  unfold execOp; rw [ho]; simp only [resolve]
  rw [show args.toArray.map (opv f) = vs.toArray from by rw [← hvs]; simp, hF]
  have hn' : ¬ fn.name = "runtime.NumGoroutine" := by simpa using hn
  simp [Deferred.ofValue, invoke, callFunc, hf, hb, hn']
end
section
variable {α β : Type} {P : Program} {B : Exit → Act → World → Prop} {n : Nat} {k : List Kont} {f : Fr} {w : World} {ops : Array Oper} {rest : List Oper} {K E : TypeId} {ek : α → Value} {ev : β → Value} {m : List (α × β)} {b : Nat}
theorem r_mapins [DecidableEq α] (L : KeyLaw P K ek) {T : TypeId} {t : TypeId} {pos : String} {aft : Array Edge} {x y z : Operand} {a : α} {v : β} (hu : P.underlying T = some (.map K E)) (hx : opv f x = .map (some b)) (hy : opv f y = ek a) (hz : opv f z = ev v)
    (h : MapIs w b ek ev m) (h2 : ∀ w', Evo w w' [b] → w'.heap.size = w.heap.size → MapIs w' b ek ev (setM m a v) → KL P B n ops k rest f w') :
    KL P B n ops k (⟨none, .insert T x y z, t, pos, aft, none⟩ :: rest) f w := by
  obtain ⟨w', hr, he, hs, hm⟩ := run_mapset L hu a v h
  refine r_op0 (w' := w') rfl rfl ?_ (h2 w' he hs hm)
  simp [execOp, hx, hy, hz, hr]
end
end Go.Vc
namespace Go.Proofs.YtlfjocbnbceceaaGreatDoor
open Go.RowKit Go.Vc
theorem find1_calls {m n : Str} {v : Value} {bn : Nat} {w0 : World} (hn : Blk w0 bn 9 [S n]) :
    Calls Tryz.prog 145 #[.agg #[S m, v], .pointer (some ⟨bn, 0, none⟩)] w0 fun e w' => e = .returned (.bool (decide (m = n))) ∧ Evo w0 w' [] := by
 have hAn := hn.at; have hnlt := hn.lt
 refine calls_enter (n := 8) Tryz.func145 rfl Tryz.ntmps145 rfl ?_
 have hV : Evo w0 w0 [] := Evo.refl _ _
 refine Zs ?_
 refine r_box (vs := [_, _]) rfl rfl rfl ?_
 intro b1 w2 J1 E2 B1 Y1
 have Q2 := E2.size
 replace hV := Z0 hV E2
 replace hAn := hAn.evo0 E2
 refine Zn rfl (asB rfl) ?_
 refine Zs ?_
 refine Zo rfl (run_fa rfl rfl fo_110_0) ?_
 refine Zo rfl (run_ld1 rfl ag_9 rfl (B1.at.cell 0 rfl)) ?_
 refine Zo rfl (run_ld1 rfl ag_9 rfl (hAn.cell 0 rfl)) ?_
 refine Zo rfl (run_seql rfl rfl rfl) ?_
 refine Zn rfl (asB rfl) ?_
 refine r_ret (res1 (v := .bool _) rfl rfl) ?_
 exact ⟨rfl, hV⟩
theorem indexf_calls {ao : Option Addr} {b off cap : Nat} {c : List Clas} {n : Str} {bn : Nat} {w0 : World} (hc : RowR w0 ao b off cap c) (hn : Blk w0 bn 9 [S n]) :
    Calls Tryz.prog 144 #[.slice ao c.length cap, .func (.func 145) #[] #[.pointer (some ⟨bn, 0, none⟩)]] w0 fun e w' => e = .returned (.int .i64 (findC c n)) ∧ Evo w0 w' [] := by
 have hAn := hn.at; have hnlt := hn.lt
 refine calls_enter (n := 19) Tryz.func144 rfl Tryz.ntmps144 rfl ?_
 have hV : Evo w0 w0 [] := Evo.refl _ _
 have hc0 := hc.keep
 have hbd_hc := hc.bd
 refine Zs ?_
 refine Zn rfl (asI rfl) ?_
 refine r_seq ?_
 refine Zs ?_
 refine Zo rfl (mvS rfl) ?_
 refine Zo rfl (run_lenSl rfl rfl Tryz.underlying26) ?_
 refine Zn rfl (mvI rfl) ?_
 refine r_block ?_
 refine r_loop (α := Nat) [4, 5, 8, 9, 10, 11, 12, 13, 14, 15, 16, 17, 18] (fun k g w => g 8 = .int .i64 (k : Nat) ∧ k ≤ c.length ∧ Blk w bn 9 [S n] ∧ (∀ j, j < k → ¬ (c.getD j default).name = n) ∧ w0.heap.size ≤ w.heap.size ∧ Evo w0 w []) (fun k => c.length - k) 0 ?_ ?_
 ·refine ⟨(by first | exact rfl | exact congrArg (Value.int _) (by omega) | exact congrArg (Value.int _) (by dsimp only; omega) | exact congrArg (Value.int _) (by simp) | exact congrArg S (by simp)), (by first | assumption | omega | (dsimp only; omega) | (simp; done)), hn, (fun j h => by omega), (by first | assumption | omega | (dsimp only; omega) | (simp; done)), hV⟩
 rintro k g w2 ⟨hj3, hk_k, hn, hno, hzl1, hV⟩
 have hs_w2hV := hV.size
 have hlt4 := hn.lt
 replace hc := hc0.now hV
 refine Zk 8 (v := .int .i64 (k : Nat)) (by exact hj3) ?_
 refine Zs ?_
 refine Zn rfl (run_lss rfl rfl rfl) ?_
 refine r_seq ?_
 refine r_cond rfl (fun hc5 => ?_) (fun hc5 => ?_)
 ·skip
  refine r_skip ?_
  refine r_seq ?_
  refine r_block ?_
  refine Zs ?_
  refine Zo rfl (mvI rfl) ?_
  refine Zn rfl (asI rfl) ?_
  refine Zs ?_
  refine Zo rfl (run_mv (v := .func _ _ _) rfl rfl) ?_
  refine Zo rfl (mvS rfl) ?_
  refine Zo rfl (mvI rfl) ?_
  refine Zo rfl (run_ix (k) rfl Tryz.underlying26 ty_110 rfl rfl (by first | exact rfl | omega) (by omega) (hc.addr (i := k) (by omega))) ?_
  obtain ⟨ao6, b6, off6, cap6, hX⟩ := clas_atK hc0 (k) (by omega)
  have hA60 := fun (w' : World) (h : Evo w0 w' []) => (hX w' h).1
  have hA6 := hA60 _ hV
  have hR60 := fun (w' : World) (h : Evo w0 w' []) => (hX w' h).2
  have hR6 := hR60 _ hV
  clear hX
  have hbd_hR6 := hR6.bd
  refine Zo rfl (run_ldN rfl ag_110 ty_110 rfl rfl hA6) ?_
  refine r_opcall rfl rfl rfl (run_callfn (vs := [.agg _]) (cs := [.pointer (some ⟨bn, 0, none⟩)]) rfl (by exact rfl) rfl Tryz.func145 rfl (by kernel_rfl)) (find1_calls hn) ?_
  rintro e w7 ⟨rfl, hE7⟩
  refine ⟨_, rfl, ?_⟩
  have Q7 := hE7.size
  replace hV := Z0 hV hE7
  replace hc := hc0.now hV
  replace hn := hn.evo0 hE7
  refine r_nil ?_
  refine r_condb rfl (fun hc8 => ?_) (fun hc8 => ?_)
  ·skip
   refine Zs ?_
   refine Zo rfl (mvI rfl) ?_
   refine Zn rfl (asI rfl) ?_
   refine r_ret (res1 (v := .int _ _) rfl rfl) ?_
   exact ⟨ret_int (by rw [findC_at (k := k) (by omega) hno (of_decide_eq_true hc8)]), hV⟩
  refine r_skip ?_
  refine r_blk ?_
  refine r_region ?_
  refine Zo rfl (run_add rfl rfl rfl (by omega) (by omega)) ?_
  refine Zn rfl (mvI rfl) ?_
  refine r_again (k + 1) ?_ ?_ ?_
  ·first | omega | (dsimp only; omega)
  ·refine ⟨(by first | exact rfl | exact congrArg (Value.int _) (by omega) | exact congrArg (Value.int _) (by dsimp only; omega) | exact congrArg (Value.int _) (by simp) | exact congrArg S (by simp)), (by first | assumption | omega | (dsimp only; omega) | (simp; done)), hn, (upto0 hno (of_decide_eq_false hc8)), (by first | assumption | omega | (dsimp only; omega) | (simp; done)), hV⟩
  repeat (first | (with_reducible exact Agree.merge _ _ _) | (with_reducible exact Agree.refl _ _) | (with_reducible refine Agree.upd ?_ _ _ rfl) | ((with_reducible refine Agree.inner ?_ ?_); (kernel_rfl)))
 refine r_exit rfl ?_
 refine Zs ?_
 refine Zn rfl (asI rfl) ?_
 refine r_ret (res1 (v := .int _ _) rfl rfl) ?_
 exact ⟨ret_int (by rw [findC_none (fun j hj => hno j (by omega))]), hV⟩
theorem find_calls {ao : Option Addr} {b off cap : Nat} {c : List Clas} {n : Str} {w0 : World} (hc : RowR w0 ao b off cap c) :
    Calls Tryz.prog 97 #[.slice ao c.length cap, S n] w0 fun e w' => e = .returned (.int .i64 (findC c n)) ∧ Evo w0 w' [] := by
 refine calls_enter (n := 8) Tryz.func97 rfl Tryz.ntmps97 rfl ?_
 have hV : Evo w0 w0 [] := Evo.refl _ _
 have hc0 := hc.keep
 have hbd_hc := hc.bd
 refine Zs ?_
 refine r_box (vs := [_]) rfl rfl rfl ?_
 intro b1 w2 J1 E2 B1 Y1
 have Q2 := E2.size
 replace hV := Z0 hV E2
 replace hc := hc0.now hV
 refine Zn rfl (asI rfl) ?_
 refine Zs ?_
 refine Zo rfl (mvS rfl) ?_
 refine Zo rfl (run_mkF (vs := [.pointer _]) rfl rfl) ?_
 refine r_opcall rfl rfl rfl (run_callf (vs := [.slice _ _ _, .func _ _ _]) rfl (by exact rfl) Tryz.func144 rfl (by kernel_rfl)) (indexf_calls hc B1) ?_
 rintro e w3 ⟨rfl, hE3⟩
 refine ⟨_, rfl, ?_⟩
 have Q3 := hE3.size
 replace hV := Z0 hV hE3
 refine Zn rfl (asI rfl) ?_
 refine r_ret (res1 (v := .int _ _) rfl rfl) ?_
 exact ⟨rfl, hV⟩
theorem ends_calls {wb : World} {ao : Option Addr} {b off cap : Nat} {c : List Clas} {n : Str} {w0 : World} (hc : RowRK wb [] ao b off cap c) (hW : Evo wb w0 []) :
    Calls Tryz.prog 225 #[.slice ao c.length cap, S n] w0 fun e w' => ∃ ao' b' off' cap', e = .returned (.slice ao' (if n = [] then ([] : List Ende) else endsL c n).length cap') ∧ Evo w0 w' [] ∧ ∀ w2, Evo wb w2 [] → RowE w2 ao' b' off' cap' (if n = [] then [] else endsL c n) := by
 refine calls_enter (n := 20) Tryz.func225 rfl Tryz.ntmps225 rfl ?_
 have hV : Evo w0 w0 [] := Evo.refl _ _
 have hc0 := hc
 replace hc := hc0.now hW
 have hbd_hc := hc.bd
 refine Zs ?_
 refine Zn rfl (asS rfl) ?_
 refine r_seq ?_
 refine Zs ?_
 refine Zo rfl (mvS rfl) ?_
 refine Zo rfl (mvT rfl) ?_
 refine r_opcall rfl rfl rfl (run_callf (vs := [.slice _ _ _, S _]) rfl (by exact rfl) Tryz.func97 rfl (by kernel_rfl)) (find_calls hc) ?_
 rintro e w1 ⟨rfl, hE1⟩
 refine ⟨_, rfl, ?_⟩
 have Q1 := hE1.size
 replace hV := Z0 hV hE1
 replace hW := Z0 hW hE1
 replace hc := hc0.now hW
 refine Zn rfl (asI rfl) ?_
 refine Zs ?_
 refine Zo rfl (mvI rfl) ?_
 refine Zo rfl (run_geq rfl rfl rfl) ?_
 refine Zo rfl (mvB rfl) ?_
 refine r_g rfl (wantT rfl) rfl (fun hg => run_mv (v := S _) rfl rfl) ?_
 refine r_g rfl (wantT rfl) rfl (fun hg => run_sneq rfl (glv rfl (fun h => h) hg) rfl) ?_
 refine Zn rfl (run_pick_and rfl rfl (fun hq => glv rfl (fun h => h) hq) rfl) ?_
 refine r_cond rfl (fun hc2 => ?_) (fun hc2 => ?_)
 ·skip
  refine Zs ?_
  refine Zo rfl (mvS rfl) ?_
  refine Zo rfl (mvI rfl) ?_
  refine Zo rfl (run_ix ((findC c n).toNat) rfl Tryz.underlying26 ty_110 rfl rfl (by have := findC_lt c n; omega) (by have := findC_lt c n; omega) (hc.addr (i := (findC c n).toNat) (by have := findC_lt c n; omega))) ?_
  obtain ⟨ao3, b3, off3, cap3, hX⟩ := clas_atK hc0 ((findC c n).toNat) (by have := findC_lt c n; omega)
  have hA30 := fun (w' : World) (h : Evo wb w' []) => (hX w' h).1
  have hA3 := hA30 _ hW
  have hR30 := fun (w' : World) (h : Evo wb w' []) => (hX w' h).2
  have hR3 := hR30 _ hW
  clear hX
  have hbd_hR3 := hR3.bd
  refine Zo rfl (run_fa rfl rfl fo_110_1) ?_
  refine Zo rfl (run_ld1 rfl ag_108 rfl (hA3.cell 1 rfl)) ?_
  refine Zn rfl (asS rfl) ?_
  refine r_ret (res1 (v := .slice _ _ _) rfl rfl) ?_
  exact ⟨_, _, _, _, by rw [if_neg hc2.2, ends_at (by omega)], hV, by rw [if_neg hc2.2, ends_at (by omega)]; exact hR30⟩
 refine r_skip ?_
 refine Zs ?_
 refine Zn rfl (asS rfl) ?_
 refine r_ret (res1 (v := .slice _ _ _) rfl rfl) ?_
 exact ⟨none, 0, 0, 0, by rw [ends_if hc2]; rfl, hV, by rw [ends_if hc2]; exact fun w2 _ => RowE.nil _ _ _ _ _⟩
theorem small_calls {s : Str} {w0 : World} (hs : s.length ≤ 140737488355328) :
    Calls Tryz.prog 141 #[S s] w0 fun e w' => e = .returned (.bool (smallL s)) ∧ Evo w0 w' [] := by
 refine calls_enter (n := 19) Tryz.func141 rfl Tryz.ntmps141 rfl ?_
 have hV : Evo w0 w0 [] := Evo.refl _ _
 refine Zs ?_
 refine Zn rfl (asB rfl) ?_
 refine r_seq ?_
 refine Zs ?_
 refine Zo rfl (mvT rfl) ?_
 refine Zo rfl (run_lenS rfl rfl Tryz.underlying9) ?_
 refine Zn rfl (mvI rfl) ?_
 refine r_block ?_
 refine r_loop (α := Nat) [2, 3, 6, 7, 8, 9, 10, 11, 12, 13, 14] (fun k g w => g 6 = .int .i64 (k : Nat) ∧ k ≤ s.length ∧ (∀ j, j < k → clsB (s.getD j 0) = 4) ∧ w0.heap.size ≤ w.heap.size ∧ Evo w0 w []) (fun k => s.length - k) 0 ?_ ?_
 ·refine ⟨(by first | exact rfl | exact congrArg (Value.int _) (by omega) | exact congrArg (Value.int _) (by dsimp only; omega) | exact congrArg (Value.int _) (by simp) | exact congrArg S (by simp)), (by first | assumption | omega | (dsimp only; omega) | (simp; done)), (fun j h => by omega), (by first | assumption | omega | (dsimp only; omega) | (simp; done)), hV⟩
 rintro k g w2 ⟨hj3, hk_k, hall, hzl1, hV⟩
 have hs_w2hV := hV.size
 refine Zk 6 (v := .int .i64 (k : Nat)) (by exact hj3) ?_
 refine Zs ?_
 refine Zn rfl (run_lss rfl rfl rfl) ?_
 refine r_seq ?_
 refine r_cond rfl (fun hc4 => ?_) (fun hc4 => ?_)
 ·skip
  refine r_skip ?_
  refine r_seq ?_
  refine r_block ?_
  refine Zs ?_
  refine Zo rfl (mvI rfl) ?_
  refine Zn rfl (asI rfl) ?_
  refine Zs ?_
  refine Zo rfl (mvT rfl) ?_
  refine Zo rfl (mvI rfl) ?_
  refine Zo rfl (run_ixS (k) rfl Tryz.underlying9 rfl rfl (by first | exact rfl | omega) (by omega)) ?_
  refine r_opcall rfl rfl rfl (run_callf (vs := [.int _ _]) rfl (by exact rfl) Tryz.func143 rfl (by kernel_rfl)) of_calls ?_
  rintro e w5 ⟨rfl, hE5⟩
  refine ⟨_, rfl, ?_⟩
  have Q5 := hE5.size
  replace hV := Z0 hV hE5
  refine Zn rfl (run_neq rfl rfl rfl) ?_
  refine r_cond rfl (fun hc6 => ?_) (fun hc6 => ?_)
  ·skip
   refine Zs ?_
   refine Zn rfl (asB rfl) ?_
   refine r_ret (res1 (v := .bool _) rfl rfl) ?_
   exact ⟨ret_bool (by rw [small_bad (k := k) (by omega) hc6]), hV⟩
  refine r_skip ?_
  refine r_blk ?_
  refine r_region ?_
  refine Zo rfl (run_add rfl rfl rfl (by omega) (by omega)) ?_
  refine Zn rfl (mvI rfl) ?_
  refine r_again (k + 1) ?_ ?_ ?_
  ·first | omega | (dsimp only; omega)
  ·refine ⟨(by first | exact rfl | exact congrArg (Value.int _) (by omega) | exact congrArg (Value.int _) (by dsimp only; omega) | exact congrArg (Value.int _) (by simp) | exact congrArg S (by simp)), (by first | assumption | omega | (dsimp only; omega) | (simp; done)), (upto0 hall (Classical.not_not.1 hc6)), (by first | assumption | omega | (dsimp only; omega) | (simp; done)), hV⟩
  repeat (first | (with_reducible exact Agree.merge _ _ _) | (with_reducible exact Agree.refl _ _) | (with_reducible refine Agree.upd ?_ _ _ rfl) | ((with_reducible refine Agree.inner ?_ ?_); (kernel_rfl)))
 refine r_exit rfl ?_
 refine Zs ?_
 refine Zo rfl (mvT rfl) ?_
 refine r_opcall rfl rfl rfl (run_callf (vs := [S _]) rfl (by exact rfl) Tryz.func183 rfl (by kernel_rfl)) (lower_calls (by first | omega | (simp; omega))) ?_
 rintro e w7 ⟨rfl, hE7⟩
 refine ⟨_, rfl, ?_⟩
 have Q7 := hE7.size
 replace hV := Z0 hV hE7
 refine Zo rfl (mvT rfl) ?_
 refine Zo rfl (run_seql rfl rfl rfl) ?_
 refine Zn rfl (asB rfl) ?_
 refine r_ret (res1 (v := .bool _) rfl rfl) ?_
 exact ⟨ret_bool (by rw [small_yes (fun j hj => hall j (by omega))]), hV⟩
theorem rsmall_calls {s : Str} {w0 : World} (hs : s.length ≤ 140737488355328) :
    Calls Tryz.prog 148 #[S s] w0 fun e w' => e = .returned (.bool (smallL s && decide (s.length ≤ 8))) ∧ Evo w0 w' [] := by
 refine calls_enter (n := 32) Tryz.func148 rfl Tryz.ntmps148 rfl ?_
 have hV : Evo w0 w0 [] := Evo.refl _ _
 refine Zs ?_
 refine Zn rfl (asB rfl) ?_
 refine r_seq ?_
 refine Zs ?_
 refine Zn rfl (asI rfl) ?_
 refine r_block ?_
 refine r_loop (α := Nat) [2, 3, 4, 5, 6, 7, 8, 9, 10, 11, 12, 13, 14, 15, 16, 17, 18, 19, 20, 21, 22, 23, 24, 25, 26, 27, 28] (fun k g w => g 3 = .int .i64 (k : Nat) ∧ k ≤ s.length ∧ (∀ j, j < k → smlB (s.getD j 0) = true) ∧ w0.heap.size ≤ w.heap.size ∧ Evo w0 w []) (fun k => s.length - k) 0 ?_ ?_
 ·refine ⟨rfl, (by first | assumption | omega | (dsimp only; omega) | (simp; done)), (fun j h => by omega), (by first | assumption | omega | (dsimp only; omega) | (simp; done)), hV⟩
 rintro k g w2 ⟨hj3, hk, hall, hzl1, hV⟩
 have hs_w2hV := hV.size
 refine Zk 3 (v := .int .i64 (k : Nat)) (by exact hj3) ?_
 refine r_seq ?_
 refine Zs ?_
 refine Zo rfl (mvI rfl) ?_
 refine Zo rfl (mvT rfl) ?_
 refine Zo rfl (run_lenS rfl rfl Tryz.underlying9) ?_
 refine Zn rfl (run_lss rfl rfl rfl) ?_
 refine r_cond rfl (fun hc4 => ?_) (fun hc4 => ?_)
 ·skip
  refine r_skip ?_
  refine r_seq ?_
  refine r_block ?_
  refine r_seq ?_
  refine r_qregion (by kernel_rfl) (by kernel_rfl) ?_
  refine Zq rfl (fun _ _ => mvT rfl) ?_
  refine Zq rfl (fun _ _ => mvI rfl) ?_
  refine q_op rfl rfl rfl (fun w' hC => run_ixS (k) rfl Tryz.underlying9 rfl rfl (by first | exact rfl | omega) (by omega)) ?_
  refine q_call rfl rfl rfl (fun w' hC => run_callf rfl (argcons (v := .int _ _) rfl (rfl)) Tryz.func101 rfl (by kernel_rfl)) (fun w' hC => (rclass_calls ).mono (fun e w'' h => ⟨h.1, evo_step0 hC h.2⟩)) ?_
  refine q_op rfl rfl rfl (fun w' hC => run_neq rfl rfl rfl) ?_
  refine Zq rfl (fun _ _ => mvB rfl) ?_
  refine q_g rfl (wantF rfl) rfl (fun hg w' hC => run_mv (v := S _) rfl rfl) ?_
  refine q_g rfl (wantF rfl) rfl (fun hg w' hC => run_mv (v := .int _ _) rfl rfl) ?_
  refine q_g rfl (wantF rfl) rfl (fun hg w' hC => run_mv (v := .int _ _) rfl rfl) ?_
  refine q_g rfl (wantF rfl) rfl (fun hg w' hC => run_add rfl (glv rfl (fun h => h) hg) rfl (by omega) (by omega)) ?_
  refine q_g rfl (wantF rfl) rfl (fun hg w' hC => run_slS (k) ((k + 1)) rfl Tryz.underlying9 (glv rfl (fun h => h) hg) (at1 (glv rfl (fun h => h) hg) (by omega)) (at1 (glv rfl (fun h => h) hg) (by omega)) (by first | omega | (simp; omega)) (by first | omega | (simp; omega))) ?_
  refine q_gcall rfl (wantF rfl) rfl (fun hg w' hC => run_callf rfl (argcons (v := S _) (glv rfl (fun h => h) hg) (rfl)) Tryz.func173 rfl (by kernel_rfl)) (fun hg w' hC => (rlower_calls (by first | omega | (simp; omega))).mono (fun e w'' h => ⟨h.1, evo_step0 hC h.2⟩)) ?_
  refine q_g rfl (wantF rfl) rfl (fun hg w' hC => run_mv (v := S _) rfl rfl) ?_
  refine q_g rfl (wantF rfl) rfl (fun hg w' hC => run_mv (v := .int _ _) rfl rfl) ?_
  refine q_g rfl (wantF rfl) rfl (fun hg w' hC => run_mv (v := .int _ _) rfl rfl) ?_
  refine q_g rfl (wantF rfl) rfl (fun hg w' hC => run_add rfl (glv rfl (fun h => h) hg) rfl (by omega) (by omega)) ?_
  refine q_g rfl (wantF rfl) rfl (fun hg w' hC => run_slS (k) ((k + 1)) rfl Tryz.underlying9 (glv rfl (fun h => h) hg) (at1 (glv rfl (fun h => h) hg) (by omega)) (at1 (glv rfl (fun h => h) hg) (by omega)) (by first | omega | (simp; omega)) (by first | omega | (simp; omega))) ?_
  refine q_g rfl (wantF rfl) rfl (fun hg w' hC => run_sneq rfl (glv rfl (fun h => h) hg) (glv rfl (fun h => h) hg)) ?_
  refine q_op rfl rfl rfl (fun w' hC => run_pick_or rfl rfl rfl (fun hq => glv rfl (fun h => h) hq)) ?_
  refine q_nil (fun w5 hE6 => ?_)
  have Q5 := hE6.size
  replace hV := Z0 hV hE6
  refine r_cond rfl (fun hc7 => ?_) (fun hc7 => ?_)
  ·skip
   refine Zs ?_
   refine Zn rfl (asB rfl) ?_
   refine r_ret (res1 (v := .bool _) rfl rfl) ?_
   exact ⟨ret_bool (by rw [sml_bad (k := k) (by omega) hc7, Bool.false_and]), hV⟩
  refine r_skip ?_
  refine r_blk ?_
  refine r_region ?_
  refine Zo rfl (mvI rfl) ?_
  refine Zo rfl (run_add rfl rfl rfl (by omega) (by omega)) ?_
  refine Zn rfl (asI rfl) ?_
  refine r_again (k + 1) ?_ ?_ ?_
  ·first | omega | (dsimp only; omega)
  ·refine ⟨(by first | exact rfl | exact congrArg (Value.int _) (by omega) | exact congrArg (Value.int _) (by dsimp only; omega) | exact congrArg (Value.int _) (by simp) | exact congrArg S (by simp)), (by first | assumption | omega | (dsimp only; omega) | (simp; done)), (upto0 hall (sml_one (by omega) hc7)), (by first | assumption | omega | (dsimp only; omega) | (simp; done)), hV⟩
  repeat (first | (with_reducible exact Agree.merge _ _ _) | (with_reducible exact Agree.refl _ _) | (with_reducible refine Agree.upd ?_ _ _ rfl) | ((with_reducible refine Agree.inner ?_ ?_); (kernel_rfl)))
 refine r_exit rfl ?_
 refine Zs ?_
 refine Zo rfl (mvT rfl) ?_
 refine Zo rfl (run_lenS rfl rfl Tryz.underlying9) ?_
 refine Zo rfl (run_leq rfl rfl rfl) ?_
 refine Zn rfl (asB rfl) ?_
 refine r_ret (res1 (v := .bool _) rfl rfl) ?_
 exact ⟨ret_bool (by rw [small_all, all_at (fun j hj => hall j (by omega)), Bool.true_and, Bool.eq_iff_iff, decide_eq_true_iff, decide_eq_true_iff]; omega), hV⟩
def namedL (c : List Clas) (n : Str) : Int := if isName n = true then (if 0 ≤ findC c n then 5 else 0) else 4
theorem named_no {c : List Clas} {n : Str} (h : ¬ isName n = true) : namedL c n = 4 := if_neg h
theorem named_dup {c : List Clas} {n : Str} (h : isName n = true) (h2 : 0 ≤ findC c n) : namedL c n = 5 := by unfold namedL; rw [if_pos h, if_pos h2]
theorem named_ok {c : List Clas} {n : Str} (h : isName n = true) (h2 : ¬ 0 ≤ findC c n) : namedL c n = 0 := by unfold namedL; rw [if_pos h, if_neg h2]
theorem named_calls {ao : Option Addr} {b off cap : Nat} {c : List Clas} {n : Str} {w0 : World} (hc : RowR w0 ao b off cap c) :
    Calls Tryz.prog 94 #[.slice ao c.length cap, S n] w0 fun e w' => e = .returned (.int .i64 (namedL c n)) ∧ Evo w0 w' [] := by
 refine calls_enter (n := 14) Tryz.func94 rfl Tryz.ntmps94 rfl ?_
 have hV : Evo w0 w0 [] := Evo.refl _ _
 have hc0 := hc.keep
 have hbd_hc := hc.bd
 refine Zs ?_
 refine Zn rfl (asI rfl) ?_
 refine r_seq ?_
 refine r_block ?_
 refine Zs ?_
 refine Zo rfl (mvT rfl) ?_
 refine r_opcall rfl rfl rfl (run_callf (vs := [S _]) rfl (by exact rfl) Tryz.func140 rfl (by kernel_rfl)) isname_calls ?_
 rintro e w1 ⟨rfl, hE1⟩
 refine ⟨_, rfl, ?_⟩
 have Q1 := hE1.size
 replace hV := Z0 hV hE1
 replace hc := hc0.now hV
 refine Zo rfl (run_notb rfl rfl) ?_
 refine Zn rfl (asB rfl) ?_
 refine r_condb rfl (fun hc2 => ?_) (fun hc2 => ?_)
 ·skip
  refine Zs ?_
  refine Zn rfl (asI rfl) ?_
  refine r_ret (res1 (v := .int _ _) rfl rfl) ?_
  exact ⟨ret_int (by rw [named_no (by simp_all)]), hV⟩
 refine Zs ?_
 refine Zo rfl (mvS rfl) ?_
 refine Zo rfl (mvT rfl) ?_
 refine r_opcall rfl rfl rfl (run_callf (vs := [.slice _ _ _, S _]) rfl (by exact rfl) Tryz.func97 rfl (by kernel_rfl)) (find_calls hc) ?_
 rintro e w3 ⟨rfl, hE3⟩
 refine ⟨_, rfl, ?_⟩
 have Q3 := hE3.size
 replace hV := Z0 hV hE3
 replace hc := hc0.now hV
 refine Zo rfl (run_geq rfl rfl rfl) ?_
 refine Zn rfl (asB rfl) ?_
 refine r_cond rfl (fun hc4 => ?_) (fun hc4 => ?_)
 ·skip
  refine Zs ?_
  refine Zn rfl (asI rfl) ?_
  refine r_ret (res1 (v := .int _ _) rfl rfl) ?_
  exact ⟨ret_int (by rw [named_dup (by simp_all) (by omega)]), hV⟩
 refine r_skip ?_
 refine r_blk ?_
 refine Zs ?_
 refine Zn rfl (asI rfl) ?_
 refine r_ret (res1 (v := .int _ _) rfl rfl) ?_
 exact ⟨ret_int (by rw [named_ok (by simp_all) (by omega)]), hV⟩
theorem rnamed_calls {ao : Option Addr} {b off cap : Nat} {c : List Clas} {n : Str} {w0 : World} (hc : RowR w0 ao b off cap c) :
    Calls Tryz.prog 99 #[.slice ao c.length cap, S n] w0 fun e w' => e = .returned (.int .i64 (namedL c n)) ∧ Evo w0 w' [] := by
 refine calls_enter (n := 12) Tryz.func99 rfl Tryz.ntmps99 rfl ?_
 have hV : Evo w0 w0 [] := Evo.refl _ _
 have hc0 := hc.keep
 have hbd_hc := hc.bd
 refine Zs ?_
 refine Zn rfl (asI rfl) ?_
 refine r_seq ?_
 refine Zs ?_
 refine Zo rfl (mvT rfl) ?_
 refine r_opcall rfl rfl rfl (run_callf (vs := [S _]) rfl (by exact rfl) Tryz.func147 rfl (by kernel_rfl)) risname_calls ?_
 rintro e w1 ⟨rfl, hE1⟩
 refine ⟨_, rfl, ?_⟩
 have Q1 := hE1.size
 replace hV := Z0 hV hE1
 replace hc := hc0.now hV
 refine Zn rfl (run_notb rfl rfl) ?_
 refine r_condb rfl (fun hc2 => ?_) (fun hc2 => ?_)
 ·skip
  refine Zs ?_
  refine Zn rfl (asI rfl) ?_
  refine r_ret (res1 (v := .int _ _) rfl rfl) ?_
  exact ⟨ret_int (by rw [named_no (by simp_all)]), hV⟩
 refine r_skip ?_
 refine r_seq ?_
 refine Zs ?_
 refine Zo rfl (mvS rfl) ?_
 refine Zo rfl (mvT rfl) ?_
 refine r_opcall rfl rfl rfl (run_callf (vs := [.slice _ _ _, S _]) rfl (by exact rfl) Tryz.func57 rfl (by kernel_rfl)) (rfind_calls hc) ?_
 rintro e w3 ⟨rfl, hE3⟩
 refine ⟨_, rfl, ?_⟩
 have Q3 := hE3.size
 replace hV := Z0 hV hE3
 replace hc := hc0.now hV
 refine Zn rfl (run_geq rfl rfl rfl) ?_
 refine r_cond rfl (fun hc4 => ?_) (fun hc4 => ?_)
 ·skip
  refine Zs ?_
  refine Zn rfl (asI rfl) ?_
  refine r_ret (res1 (v := .int _ _) rfl rfl) ?_
  exact ⟨ret_int (by rw [named_dup (by simp_all) (by omega)]), hV⟩
 refine r_skip ?_
 refine Zs ?_
 refine Zn rfl (asI rfl) ?_
 refine r_ret (res1 (v := .int _ _) rfl rfl) ?_
 exact ⟨ret_int (by rw [named_ok (by simp_all) (by omega)]), hV⟩
end Go.Proofs.YtlfjocbnbceceaaGreatDoor
namespace Go.Proofs
open Go.RowKit Go.Maps Go.Sort Go.Shelf
def Tryz.keys160_ren : Go.Shelf.Ren := ⟨fun | 7 => 160 | 10 => 195 | n => n, fun | 23 => 171 | 26 => 9 | 3 => 172 | 28 => 175 | 0 => 0 | 27 => 174 | 33 => 89 | 4 => 4 | n => n, fun | n => n⟩
theorem Tryz.keys160 : Go.Proofs.SlLaysZ.n7 Tryz.prog Tryz.keys160_ren := {
  mixed := by kernel_rfl
  f7 := ⟨Tryz.f160.name, by decide, Tryz.func160.trans (congrArg some (by kernel_rfl))⟩
  f10 := ⟨Tryz.f195.name, by decide, Tryz.func195.trans (congrArg some (by kernel_rfl))⟩
  t0 := Tryz.underlying0
  a0 := Tryz.isAgg0
  z0 := Tryz.sizeOf0
  v0 := Tryz.zeroValue0
  t4 := Tryz.underlying4
  a4 := Tryz.isAgg4
  z4 := Tryz.sizeOf4
  v4 := Tryz.zeroValue4
  t23 := Tryz.underlying171
  a23 := Tryz.isAgg171
  z23 := Tryz.sizeOf171
  v23 := Tryz.zeroValue171
  t26 := Tryz.underlying9
  a26 := Tryz.isAgg9
  z26 := Tryz.sizeOf9
  v26 := Tryz.zeroValue9
  t27 := Tryz.underlying174
  a27 := Tryz.isAgg174
  z27 := Tryz.sizeOf174
  v27 := Tryz.zeroValue174
  t28 := Tryz.underlying175
  a28 := Tryz.isAgg175
  z28 := Tryz.sizeOf175
  v28 := Tryz.zeroValue175
  t33 := Tryz.underlying89
  a33 := Tryz.isAgg89
  z33 := Tryz.sizeOf89
  v33 := Tryz.zeroValue89 }
def Tryz.sorted159_ren : Go.Shelf.Ren := ⟨fun | 6 => 159 | 8 => 194 | 9 => 91 | 11 => 213 | 13 => 69 | 12 => 139 | 23 => 122 | 24 => 123 | 14 => 174 | 15 => 175 | 16 => 176 | 17 => 177 | 18 => 178 | 19 => 179 | 20 => 180 | 21 => 181 | 22 => 182 | 25 => 201 | 26 => 162 | 27 => 163 | 28 => 202 | 29 => 203 | 30 => 71 | 31 => 216 | n => n, fun | 26 => 9 | 28 => 175 | 24 => 77 | 0 => 0 | 3 => 3 | 37 => 105 | 48 => 151 | 50 => 153 | 4 => 4 | 40 => 144 | 39 => 143 | 45 => 148 | 5 => 5 | 9 => 9 | 51 => 177 | 55 => 181 | 57 => 204 | 58 => 131 | 33 => 89 | n => n, fun | n => n⟩
theorem Tryz.sorted159 : Go.Proofs.SlLaysZ.n6 Tryz.prog Tryz.sorted159_ren := {
  mixed := by kernel_rfl
  f6 := ⟨Tryz.f159.name, by decide, Tryz.func159.trans (congrArg some (by kernel_rfl))⟩
  f8 := ⟨Tryz.f194.name, by decide, Tryz.func194.trans (congrArg some (by kernel_rfl))⟩
  f11 := ⟨Tryz.f213.name, by decide, Tryz.func213.trans (congrArg some (by kernel_rfl))⟩
  t0 := Tryz.underlying0
  a0 := Tryz.isAgg0
  z0 := Tryz.sizeOf0
  v0 := Tryz.zeroValue0
  t24 := Tryz.underlying77
  a24 := Tryz.isAgg77
  z24 := Tryz.sizeOf77
  v24 := Tryz.zeroValue77
  t26 := Tryz.underlying9
  a26 := Tryz.isAgg9
  z26 := Tryz.sizeOf9
  v26 := Tryz.zeroValue9
  t28 := Tryz.underlying175
  a28 := Tryz.isAgg175
  z28 := Tryz.sizeOf175
  v28 := Tryz.zeroValue175
  i26 := by kernel_rfl }
def Tryz.sort91_ren : Go.Shelf.Ren := ⟨fun | 6 => 91 | 8 => 69 | 9 => 139 | 19 => 122 | 20 => 123 | 21 => 174 | 22 => 175 | 23 => 176 | 24 => 177 | 25 => 178 | 26 => 179 | 27 => 180 | 28 => 181 | 29 => 182 | 36 => 201 | 31 => 162 | 32 => 163 | 37 => 202 | 38 => 203 | 39 => 71 | 41 => 216 | n => n, fun | 27 => 77 | 29 => 9 | 3 => 3 | 32 => 105 | 26 => 77 | 0 => 0 | 44 => 151 | 46 => 153 | 4 => 4 | 36 => 144 | 35 => 143 | 41 => 148 | 5 => 5 | 9 => 9 | 53 => 177 | 57 => 181 | 63 => 204 | 64 => 131 | n => n, fun | n => n⟩
theorem Tryz.sort91 : Go.Proofs.SlLaysM.n6 Tryz.prog Tryz.sort91_ren := {
  mixed := by kernel_rfl
  f6 := ⟨Tryz.f91.name, by decide, Tryz.func91.trans (congrArg some (by kernel_rfl))⟩
  f8 := Tryz.func69.trans (congrArg some (by kernel_rfl))
  f9 := ⟨Tryz.f139.name, by decide, Tryz.func139.trans (congrArg some (by kernel_rfl))⟩
  f19 := Tryz.func122.trans (congrArg some (by kernel_rfl))
  f20 := Tryz.func123.trans (congrArg some (by kernel_rfl))
  f21 := ⟨Tryz.f174.name, by decide, Tryz.func174.trans (congrArg some (by kernel_rfl))⟩
  f22 := ⟨Tryz.f175.name, by decide, Tryz.func175.trans (congrArg some (by kernel_rfl))⟩
  f23 := ⟨Tryz.f176.name, by decide, Tryz.func176.trans (congrArg some (by kernel_rfl))⟩
  f24 := ⟨Tryz.f177.name, by decide, Tryz.func177.trans (congrArg some (by kernel_rfl))⟩
  f25 := ⟨Tryz.f178.name, by decide, Tryz.func178.trans (congrArg some (by kernel_rfl))⟩
  f26 := ⟨Tryz.f179.name, by decide, Tryz.func179.trans (congrArg some (by kernel_rfl))⟩
  f27 := ⟨Tryz.f180.name, by decide, Tryz.func180.trans (congrArg some (by kernel_rfl))⟩
  f28 := ⟨Tryz.f181.name, by decide, Tryz.func181.trans (congrArg some (by kernel_rfl))⟩
  f29 := ⟨Tryz.f182.name, by decide, Tryz.func182.trans (congrArg some (by kernel_rfl))⟩
  f31 := Tryz.func162.trans (congrArg some (by kernel_rfl))
  f32 := Tryz.func163.trans (congrArg some (by kernel_rfl))
  f36 := ⟨Tryz.f201.name, by decide, Tryz.func201.trans (congrArg some (by kernel_rfl))⟩
  f37 := ⟨Tryz.f202.name, by decide, Tryz.func202.trans (congrArg some (by kernel_rfl))⟩
  f38 := ⟨Tryz.f203.name, by decide, Tryz.func203.trans (congrArg some (by kernel_rfl))⟩
  f39 := ⟨Tryz.f71.name, by decide, Tryz.func71.trans (congrArg some (by kernel_rfl))⟩
  f41 := ⟨Tryz.f216.name, by decide, Tryz.func216.trans (congrArg some (by kernel_rfl))⟩
  t0 := Tryz.underlying0
  a0 := Tryz.isAgg0
  z0 := Tryz.sizeOf0
  v0 := Tryz.zeroValue0
  t3 := Tryz.underlying3
  a3 := Tryz.isAgg3
  z3 := Tryz.sizeOf3
  v3 := Tryz.zeroValue3
  t4 := Tryz.underlying4
  a4 := Tryz.isAgg4
  z4 := Tryz.sizeOf4
  v4 := Tryz.zeroValue4
  t5 := Tryz.underlying5
  a5 := Tryz.isAgg5
  z5 := Tryz.sizeOf5
  v5 := Tryz.zeroValue5
  t9 := Tryz.underlying9
  a9 := Tryz.isAgg9
  z9 := Tryz.sizeOf9
  v9 := Tryz.zeroValue9
  t26 := Tryz.underlying77
  a26 := Tryz.isAgg77
  z26 := Tryz.sizeOf77
  v26 := Tryz.zeroValue77
  t27 := Tryz.underlying77
  a27 := Tryz.isAgg77
  z27 := Tryz.sizeOf77
  v27 := Tryz.zeroValue77
  t29 := Tryz.underlying9
  a29 := Tryz.isAgg9
  z29 := Tryz.sizeOf9
  v29 := Tryz.zeroValue9
  t32 := Tryz.underlying105
  a32 := Tryz.isAgg105
  z32 := Tryz.sizeOf105
  v32 := Tryz.zeroValue105
  t35 := Tryz.underlying143
  a35 := Tryz.isAgg143
  z35 := Tryz.sizeOf143
  v35 := Tryz.zeroValue143
  t36 := Tryz.underlying144
  a36 := Tryz.isAgg144
  z36 := Tryz.sizeOf144
  v36 := Tryz.zeroValue144
  t41 := Tryz.underlying148
  a41 := Tryz.isAgg148
  z41 := Tryz.sizeOf148
  v41 := Tryz.zeroValue148
  t44 := Tryz.underlying151
  a44 := Tryz.isAgg151
  z44 := Tryz.sizeOf151
  v44 := Tryz.zeroValue151
  t46 := Tryz.underlying153
  a46 := Tryz.isAgg153
  z46 := Tryz.sizeOf153
  v46 := Tryz.zeroValue153
  t53 := Tryz.underlying177
  a53 := Tryz.isAgg177
  z53 := Tryz.sizeOf177
  v53 := Tryz.zeroValue177
  t57 := Tryz.underlying181
  a57 := Tryz.isAgg181
  z57 := Tryz.sizeOf181
  v57 := Tryz.zeroValue181
  t63 := Tryz.underlying204
  a63 := Tryz.isAgg204
  z63 := Tryz.sizeOf204
  v63 := Tryz.zeroValue204
  t64 := Tryz.underlying131
  a64 := Tryz.isAgg131
  z64 := Tryz.sizeOf131
  v64 := Tryz.zeroValue131 }
theorem Tryz.sorts159 (m : Nat) : AnyZ.SortsIn Tryz.prog Tryz.sorted159_ren Fence.wide m :=
  ⟨fun blk off cap ss W hH hblk hsz => callsIn_wide.2 (AnyM.slices_Sort_string Tryz.sort91 blk off cap ss W hH hblk hsz),
   fun p cap W => callsIn_wide.2 (AnyM.slices_Sort_string_none Tryz.sort91 p cap W)⟩
theorem Tryz.maps_Keys_160 (mb : Option Nat) (W : World) : CallsIn Fence.wide 5 Tryz.prog 160 #[.map mb] W fun e w' => e = .returned (.func (.func 195) #[] #[.pointer (some ⟨W.heap.size, 0, none⟩)]) ∧ w' = W.alloc (.cells #[.map mb] 171) :=
  AnyZ.keys_in Tryz.keys160 Fence.wide 5 trivial rfl mb W
set_option maxHeartbeats 1000000 in
theorem Tryz.slices_Sorted_keys_159_160 {H : Type} (b nn : Nat) (D0 : DataW H) (R : Value → Option (DataW H × List MemPlace)) (w : World) (hown : w.ownsMap Tryz.prog 9 R b nn D0) (hmax : Maps.size D0 ≤ maxLen) (hbytes : Maps.size D0 * 16 ≤ 140737488355328) :
    CallsIn Fence.wide 5 Tryz.prog 159 #[.func (.func 195) #[] #[.pointer (some ⟨w.heap.size, 0, none⟩)]] (w.alloc (.cells #[.map (some b)] 171)) fun e w' => ∃ (v : Value) (ss : List (List UInt8)), e = .returned v ∧ ss.Perm (strKeys D0) ∧
      w'.ownsRow (w.alloc (.cells #[.map (some b)] 171)).heap.size 9 1 v ss.length ((ss.mergeSort (fun x y => decide (x ≤ y))).map encStr) ∧ (v = .slice none 0 0 ↔ ss = []) ∧ Below (w.alloc (.cells #[.map (some b)] 171)).heap.size (w.alloc (.cells #[.map (some b)] 171)) w' := by
  have hbl := hown.lt
  have hseq : SeqGives Fence.wide 2 Tryz.prog 195 #[.pointer (some ⟨w.heap.size, 0, none⟩)] encStr (fun ss => ss.Perm (strKeys D0)) (Maps.size D0) (w.alloc (.cells #[.map (some b)] 171)) :=
    AnyZ.keys_gives (ρ := Tryz.keys160_ren) { Tryz.keys160 with } Fence.wide _ trivial rfl (by omega) w.heap.size b nn D0 _ (by simp) (by simp) (by
      obtain ⟨es, clock, hb, Ft, hs, hD⟩ := hown
      exact ⟨es, clock, (Below.heap_alloc _ _ b hbl).trans hb, Ft, hs, hD⟩)
  exact AnyZ.sorted_in Tryz.sorted159 Fence.wide 5 trivial trivial trivial trivial rfl (by omega) (Tryz.sorts159 _) (enters_of Tryz.func91 (by kernel_rfl) rfl) 195 #[.pointer (some ⟨w.heap.size, 0, none⟩)] trivial (enters_of Tryz.func195 (by kernel_rfl) rfl) _ _ hmax hbytes _ hseq
end Go.Proofs
namespace Go.Vc
open Go Go.RowKit Go.Maps Go.ChangeMaps Go.MapKept
def R0 : Value → Option (DataW Unit × List MemPlace) := fun _ => some (.nil, [])
theorem keyOf_S {P : Program} {K : TypeId} (hk : P.underlying K = some .string) {s : Str} (hs : s.length ≤ maxLen) : keyOf P K (S s) = some (.string s) := by
  simp [keyOf, hk, mapKey, S]; exact hs
theorem map_owns {β : Type} {P : Program} {K : TypeId} (hk : P.underlying K = some .string) {w : World} {b : Nat} {ev : β → Value} {m : List (Str × β)} (h : MapIs w b S ev m) (hm : m.length ≤ maxLen) (hl : ∀ p ∈ m, p.1.length ≤ maxLen) :
    ∃ D : DataW Unit, w.ownsMap P K R0 b m.length D ∧ Maps.size D = m.length ∧ (strKeys D).Perm (m.map (·.1)) := by
  obtain ⟨es, clock, hb, he, h1, h2, h3⟩ := h.ex
  have hsz : es.size = m.length := by have := congrArg List.length he; simpa using this
  have hkeys : es.toList.map (·.key) = m.map (fun p => S p.1) := by
    have := congrArg (List.map Prod.fst) he
    simpa [Function.comp_def] using this
  have hrd : ∀ x ∈ es.toList, ∃ s : Str, x.key = S s ∧ WideElems.rd P K R0 x = some (.string s, .nil) := fun x hx => by
    have : x.key ∈ m.map (fun p => S p.1) := hkeys ▸ List.mem_map.2 ⟨x, hx, rfl⟩
    obtain ⟨p, hpm, hp⟩ := List.mem_map.1 this
    exact ⟨p.1, hp.symm, by unfold WideElems.rd; rw [← hp, keyOf_S hk (hl p hpm)]; rfl⟩
  have hstr : es.toList.map (fun x => strOf (WideElems.rg P K R0 x).1) = m.map (·.1) := by
    have e1 : es.toList.map (fun x => strOf (WideElems.rg P K R0 x).1) = (es.toList.map (·.key)).map (fun v => match v with | .string b => b.data.toList | _ => []) := by
      rw [List.map_map]
      refine List.map_congr_left (fun x hx => ?_)
      obtain ⟨s, h5, h6⟩ := hrd x hx
      show strOf (WideElems.rg P K R0 x).1 = _
      unfold WideElems.rg; rw [h6]; simp [h5, strOf, S]
    rw [e1, hkeys, List.map_map]
    refine List.map_congr_left (fun p _ => ?_)
    simp [S]
  refine ⟨_, ⟨es, clock, hb, ⟨by omega, ⟨h2, h1, ?_⟩, fun x hx => ?_⟩, by omega, rfl⟩, ?_, ?_⟩
  · rw [hkeys]
    have e : m.map (fun p => S p.1) = (m.map (·.1)).map S := by rw [List.map_map]; rfl
    rw [e]
    exact List.pairwise_map.2 (h3.imp (fun hne h9 => hne (S_inj h9)))
  · obtain ⟨s, _, h6⟩ := hrd x hx
    exact ⟨_, h6⟩
  · show ((es.toList.map _).foldr DataW.insert []).length = _
    rw [length_sorted, List.length_map, Array.length_toList, hsz]
  · show (((es.toList.map (WideElems.rg P K R0)).foldr DataW.insert []).map (fun p => strOf p.1)).Perm _
    refine ((Go.WideShapes.sorted_perm _).map _).trans ?_
    rw [List.map_map]
    have e : (fun p : Lit × DataW Unit => strOf p.1) ∘ WideElems.rg P K R0 = fun x => strOf (WideElems.rg P K R0 x).1 := rfl
    rw [e, hstr]
theorem evo_below {w w' : World} (h : RowKit.Below w.heap.size w w') : Evo w w' [] := ⟨h.os, h.tape, h.output, h.size, fun b hb _ => h.block b hb⟩
end Go.Vc
namespace Go.Proofs.YtlfjocbnbceceaaGreatDoor
open Go.RowKit Go.Vc
theorem keys_calls {w : World} {b : Nat} : Calls Tryz.prog 160 #[.map (some b)] w fun e w' => e = .returned (.func (.func 195) #[] #[.pointer (some ⟨w.heap.size, 0, none⟩)]) ∧ Evo w w' [] ∧ w' = w.alloc (.cells #[.map (some b)] 171) :=
  (callsIn_wide.1 (Tryz.maps_Keys_160 (some b) w)).mono fun e w' ⟨h1, h2⟩ => ⟨h1, by subst h2; exact evo_below (Below.refl _ _ |>.alloc (Nat.le_refl _) _), h2⟩
theorem sortedk_calls {w w1 : World} {b : Nat} {β : Type} {ev : β → Value} {m : List (Str × β)} (hm : MapIs w b S ev m) (hk : w1 = w.alloc (.cells #[.map (some b)] 171)) (hl : ∀ p ∈ m, p.1.length ≤ maxLen) (hb : m.length * 16 ≤ 140737488355328) :
    Calls Tryz.prog 159 #[.func (.func 195) #[] #[.pointer (some ⟨w.heap.size, 0, none⟩)]] w1 fun e w' => ∃ v, e = .returned v ∧ Evo w1 w' [] ∧ OwnE w' w1.heap.size 9 v (sortS (m.map (·.1))) := by
  subst hk
  obtain ⟨D, hD, hz, hp⟩ := map_owns (P := Tryz.prog) (K := 9) Tryz.underlying9 hm (by unfold maxLen; omega) hl
  refine (callsIn_wide.1 (Tryz.slices_Sorted_keys_159_160 b m.length D R0 w hD (by rw [hz]; unfold maxLen; omega) (by rw [hz]; exact hb))).mono ?_
  rintro e w' ⟨v, ss, rfl, hS, hrow, _, hbl⟩
  have hlen : ss.length = m.length := by have := (hS.trans hp).length_eq; simpa using this
  have hst : sortS (m.map (·.1)) = ss.mergeSort (fun x y => decide (x ≤ y)) := (mergeSort_of_perm (hS.trans hp)).symm
  refine ⟨v, rfl, evo_below hbl, ?_⟩
  rw [hst]
  exact OwnE.of1 (enc1 := encStr) rfl (fun _ => rfl) (by simp; omega) (by rw [show (ss.mergeSort (fun x y => decide (x ≤ y))).length = ss.length from by simp]; exact hrow)
theorem sorted_calls {b : Nat} {β : Type} {ev : β → Value} {m : List (Str × β)} {w0 : World} (hm0 : MapIs w0 b S ev m) (hl : ∀ p ∈ m, p.1.length ≤ maxLen) (hb : m.length * 16 ≤ 140737488355328) :
    Calls Tryz.prog 227 #[.map (some b)] w0 fun e w' => ∃ v, e = .returned v ∧ Evo w0 w' [] ∧ OwnE w' w0.heap.size 9 v (sortS (m.map (·.1))) := by
 refine calls_enter (n := 6) Tryz.func227 rfl Tryz.ntmps227 rfl ?_
 have hV : Evo w0 w0 [] := Evo.refl _ _
 refine Zs ?_
 refine Zn rfl (asS rfl) ?_
 refine Zs ?_
 refine Zo rfl (mvM rfl) ?_
 refine r_opcall rfl rfl rfl (run_callf (vs := [.map _]) rfl (by exact rfl) Tryz.func160 rfl (by kernel_rfl)) keys_calls ?_
 rintro e w1 ⟨rfl, hE1, hky1⟩
 refine ⟨_, rfl, ?_⟩
 have Q1 := hE1.size
 replace hV := Z0 hV hE1
 refine r_opcall rfl rfl rfl (run_callf (vs := [.func _ _ _]) rfl (by exact rfl) Tryz.func159 rfl (by kernel_rfl)) (sortedk_calls hm0 hky1 hl hb) ?_
 rintro e w2 ⟨vs2, rfl, hE2, hsr2⟩
 refine ⟨_, rfl, ?_⟩
 have Q2 := hE2.size
 replace hV := Z0 hV hE2
 refine Zn rfl (run_asg (v := vs2) rfl rfl) ?_
 refine r_ret (res1 (v := vs2) rfl rfl) ?_
 exact ⟨_, rfl, hV, hsr2.base_le (by omega)⟩
theorem pl_172 : placesP Tryz.prog 172 = some [] := by kernel_rfl
theorem ty_172 : tyP Tryz.prog 172 = some (0, 0, some (.agg #[])) := by kernel_rfl
theorem cut_len (s t : Str) : (if t <:+ s then s.take (s.length - t.length) else s).length ≤ s.length := by
  split
  · exact List.length_take_le' _ _
  · exact Nat.le_refl _
theorem key_len {m : List (Str × Unit)} {ok : Str → Bool} {s : Str} {E : List Ende} {k : Nat} (h : KeyIs m (foldF ok s fwd (E.take k))) (hb : ∀ k, BdE (E.getD k default)) (hs : s.length ≤ 140737488355328) : ∀ p ∈ m, p.1.length ≤ maxLen := fun p hp => by
  have h1 := (h.2 p.1).1 (List.mem_map.2 ⟨p, hp, rfl⟩)
  unfold maxLen
  rcases foldF_mem.1 h1 with h2 | ⟨_, _, x, hx, h2⟩
  · rw [h2]; omega
  · have h3 := turn_len s (fwd x).1 (fwd x).2
    rw [h2] at h3
    obtain ⟨i, hi, rfl⟩ := List.mem_iff_getElem.1 (List.mem_of_mem_take hx)
    have h4 := (hb i).2
    have e : E.getD i default = E[i] := by simp [List.getD, hi]
    rw [e] at h4
    have h5 : p.1.length ≤ s.length + E[i].add.length := h3
    omega
theorem key_cnt {m : List (Str × Unit)} {l : List Str} (h : KeyIs m l) (hl : l.Pairwise (fun a b => a < b)) : m.length = l.length := by
  have := congrArg List.length (h.sorted hl)
  rw [sortS_len, List.length_map] at this
  exact this
theorem take_bothI {α : Type} [Inhabited α] {a b : List α} {k : Nat} (hp : a.take k = b.take k) (ha : k < a.length) (hb : k < b.length) (h : a.getD k default = b.getD k default) : a.take (k + 1) = b.take (k + 1) := by
  rw [take_succD a k ha, take_succD b k hb, hp, h]
end Go.Proofs.YtlfjocbnbceceaaGreatDoor
namespace Go.Vc
open Go Go.RowKit Go.IntWalk Go.Deep
def decW (n : Nat) (s : Str) : Str := if n / 10 = 0 then UInt8.ofNat (48 + n % 10) :: s else decW (n / 10) (UInt8.ofNat (48 + n % 10) :: s)
termination_by n
decreasing_by omega
theorem decW_stop {n : Nat} (s : Str) (h : n / 10 = 0) : decW n s = UInt8.ofNat (48 + n % 10) :: s := by rw [decW, if_pos h]
theorem decW_go {n : Nat} (s : Str) (h : ¬ n / 10 = 0) : decW n s = decW (n / 10) (UInt8.ofNat (48 + n % 10) :: s) := by rw [decW, if_neg h]
theorem decW_len : ∀ (k n : Nat) (s : Str), n < 10 ^ (k + 1) → (decW n s).length ≤ s.length + (k + 1)
  | 0, n, s, h => by rw [decW_stop s (by omega)]; simp
  | k + 1, n, s, h => by
    by_cases h1 : n / 10 = 0
    · rw [decW_stop s h1]; simp
    · rw [decW_go s h1]
      have := decW_len k (n / 10) (UInt8.ofNat (48 + n % 10) :: s) (by rw [Nat.pow_succ] at h; omega)
      simp only [List.length_cons] at this
      omega
theorem ret_str {a b : Str} (h : a = b) : Ending.returned (S a) = .returned (S b) := by rw [h]
def stripsL : List Str := [[], [], [121], [115], [97]]
def addsL : List Str := [[115], [105, 101, 115], [], [101, 115], [97], [101, 114]]
def MadeE (es : List Ende) : Prop := es.Nodup ∧ ∀ e ∈ es, e.strip ∈ stripsL ∧ e.add ∈ addsL
def MadeP (cl : List Clas) (N i : Nat) : Prop := cl.length + i = N ∧ (∀ k, (h : k < cl.length) → (cl[k]'h).name = 99 :: decW (N - k) []) ∧ ∀ x ∈ cl, MadeE x.ends ∧ x.ends.length ≤ 3
theorem MadeE.nil : MadeE [] := ⟨List.nodup_nil, by simp⟩
theorem MadeP.nil (N : Nat) : MadeP [] N N := ⟨by simp, by simp, by simp⟩
theorem strip_len {s : Str} (h : s ∈ stripsL) : s.length ≤ 1 := by
  have : ∀ s ∈ stripsL, s.length ≤ 1 := by decide
  exact this s h
theorem add_len {s : Str} (h : s ∈ addsL) : s.length ≤ 3 := by
  have : ∀ s ∈ addsL, s.length ≤ 3 := by decide
  exact this s h
theorem MadeE.bd {es : List Ende} (h : MadeE es) : ∀ e ∈ es, BdE e := fun e he => by
  have h1 := strip_len (h.2 e he).1
  have h2 := add_len (h.2 e he).2
  exact ⟨by omega, by omega⟩
theorem made_bdC {es : List Ende} {n : Nat} (h : MadeE es) (hl : es.length ≤ 3) (hn : n ≤ 9) : BdC ⟨99 :: decW n [], es⟩ := by
  have := decW_len 0 n [] (by omega)
  refine ⟨?_, h.bd, ?_⟩
  · simp only [List.length_cons, List.length_nil] at this ⊢; omega
  · show es.length ≤ _; omega
theorem MadeP.mem {cl : List Clas} {N i : Nat} (h : MadeP cl N i) {x : Clas} (hx : x ∈ cl) : MadeE x.ends ∧ x.ends.length ≤ 3 := h.2.2 x hx
theorem MadeP.bd {cl : List Clas} {N i : Nat} (h : MadeP cl N i) (hN : N ≤ 9) : ∀ x ∈ cl, BdC x := fun x hx => by
  obtain ⟨k, hk, rfl⟩ := List.mem_iff_getElem.1 hx
  have h1 := h.2.1 k hk
  have h2 := h.2.2 _ hx
  have h3 := made_bdC (n := N - k) h2.1 h2.2 (by omega)
  rw [← h1] at h3
  exact h3
section
variable {P : Program} {w : World} {f : Fr} {o : Oper}
theorem equalIn_str (d : Nat) {T : TypeId} (u : P.underlying T = some .string) (a b : Str) : (Op.equalIn (d + 1) T (S a) (S b)).run P w = .ok (a == b) w := by
  have := run_equalIn_string (P := P) w d T ⟨a.toArray⟩ ⟨b.toArray⟩ u
  rw [toList_S, toList_S] at this
  exact this
theorem equalIn_ende (d : Nat) {T : TypeId} {f0 f1 : Field} (hu : P.underlying T = some (.struct #[f0, f1])) (hp : P.stoodInHeld T = false) (n0 : f0.name ≠ "_") (n1 : f1.name ≠ "_")
    (o0 : f0.offset = 0) (o1 : f1.offset = 1) (u0 : P.underlying f0.type = some .string) (u1 : P.underlying f1.type = some .string)
    (a0 : aggP P f0.type = some false) (a1 : aggP P f1.type = some false) (x y : Ende) :
    (Op.equalIn (d + 2) T (.agg (Enc.enc x).toArray) (.agg (Enc.enc y).toArray)).run P w = .ok (decide (x = y)) w := by
  have hf : P.fieldsOf T = #[f0, f1] := by simp [Program.fieldsOf, hu]
  rw [run_equalIn_struct (P := P) w (d + 1) T _ _ (by rw [hf]; exact hu) hp, hf]
  have p0 : ∀ (z : Ende), (part f0.type (Enc.enc z).toArray 0).run P w = .ok (S z.strip) w := fun z => run_part1 a0 rfl
  have p1 : ∀ (z : Ende), (part f1.type (Enc.enc z).toArray 1).run P w = .ok (S z.add) w := fun z => run_part1 a1 rfl
  have e0 := equalIn_str (P := P) (w := w) d u0 x.strip y.strip
  have e1 := equalIn_str (P := P) (w := w) d u1 x.add y.add
  have key : (Op.eqFields (d + 1) (Enc.enc x).toArray (Enc.enc y).toArray [f0, f1]).run P w = .ok ((x.strip == y.strip) && (x.add == y.add)) w := by
    simp only [Op.eqFields, n0, n1, o0, o1, ne_eq, not_false_eq_true, if_true, Sem.run_bind, p0, e0, Result.andThen_ok]
    cases (x.strip == y.strip) with
    | false => simp
    | true =>
      simp only [Bool.not_true, Bool.false_eq_true, if_false, Sem.run_bind, p1, e1, Result.andThen_ok, Bool.true_and]
      cases (x.add == y.add) with
      | false => simp
      | true => simp
  have e3 : ((x.strip == y.strip) && (x.add == y.add)) = decide (x = y) := by
    obtain ⟨k1, t1⟩ := x
    obtain ⟨k2, t2⟩ := y
    rw [Bool.eq_iff_iff]
    simp
  rw [← e3]
  exact key
theorem run_eqlG {α : Type} [Enc α] [DecidableEq α] {T T2 : TypeId} {x y : Operand} (a b : α) (ho : o.op = .binOp .eql T x y T2) (hg : P.eqGuardType P.depth T = false) (he : ∀ (w : World) (x y : α), (Op.equalIn 10000 T (.agg (Enc.enc x).toArray) (.agg (Enc.enc y).toArray)).run P w = .ok (decide (x = y)) w)
    (hx : opv f x = .agg (Enc.enc a).toArray) (hy : opv f y = .agg (Enc.enc b).toArray) : (execOp (opv f) o).run P w = .ok (.value (.bool (decide (a = b)))) w := by
  unfold execOp; rw [ho]; simp only []; rw [hx, hy]
  simp only [Sem.run_bind, run_eqGuard_agg w .eql T x y _ _ hg, Result.andThen_ok, run_eql_struct, he, Sem.run_pure]
end
end Go.Vc
namespace Go.Proofs.YtlfjocbnbceceaaGreatDoor
open Go.RowKit Go.Vc
theorem ag_3 : aggP Tryz.prog 3 = some false := by kernel_rfl
theorem ty_3 : tyP Tryz.prog 3 = some (1, 8, some (.int .i64 0)) := by kernel_rfl
theorem place_calls (x n : Int) {w0 : World} (hn : 1 ≤ n) (hn2 : n ≤ 1000000000) :
    Calls Tryz.prog 11 #[.int .i64 x, .int .i64 n] w0 fun e w' => e = .returned (.int .i64 (x % n)) ∧ w0 = w' := by
 refine calls_enter (n := 14) Tryz.func11 rfl Tryz.ntmps11 rfl ?_
 have hV : Evo w0 w0 [] := Evo.refl _ _
 refine Zs ?_
 refine Zn rfl (asI rfl) ?_
 refine Zs ?_
 refine Zo rfl (mvI rfl) ?_
 refine Zo rfl (mvI rfl) ?_
 refine Zo rfl (run_rem rfl rfl rfl (by omega)) ?_
 refine Zn rfl (asI rfl) ?_
 refine r_seq ?_
 refine Zs ?_
 refine Zo rfl (mvI rfl) ?_
 refine Zn rfl (run_lss rfl rfl rfl) ?_
 refine r_cond rfl (fun hc1 => ?_) (fun hc1 => ?_)
 ·skip
  refine r_region ?_
  refine Zo rfl (mvI rfl) ?_
  refine Zo rfl (mvI rfl) ?_
  refine Zo rfl (run_add rfl rfl rfl (by have := tmod_bd x n (by omega); omega) (by have := tmod_bd x n (by omega); omega)) ?_
  refine Zn rfl (asI rfl) ?_
  refine Zs ?_
  refine Zo rfl (mvI rfl) ?_
  refine Zn rfl (asI rfl) ?_
  refine r_ret (res1 (v := .int _ _) rfl rfl) ?_
  exact ⟨ret_int (by rw [← place_neg x n (by omega) (by omega)]), rfl⟩
 refine r_skip ?_
 refine Zs ?_
 refine Zo rfl (mvI rfl) ?_
 refine Zn rfl (asI rfl) ?_
 refine r_ret (res1 (v := .int _ _) rfl rfl) ?_
 exact ⟨ret_int (by rw [← place_pos x n (by omega) (by omega)]), rfl⟩
end Go.Proofs.YtlfjocbnbceceaaGreatDoor
namespace Go.Vc
open Go Go.RowKit Go.IntWalk
section
variable {P : Program} {ops : Array Oper} {Q : Exit → Act → World → Prop} {S : World → Prop}
def YC (P : Program) (ops : Array Oper) (S : World → Prop) (o : Oper) (v : Value) (a : Act) : Prop :=
  Region.wanted o (yielded ops a.tmps) = true ∧ ∀ w, S w → ∃ g args, (execOp a.eval o).run P w = .ok (.enter g args) w ∧ Calls P g args w (fun e w' => e = .returned v ∧ w' = w)
theorem YC.of_same {o : Oper} {v : Value} {a a' : Act} (hy : YC P ops S o v a) (he : execOp a'.eval o = execOp a.eval o) (hw : Region.wanted o (yielded ops a'.tmps) = Region.wanted o (yielded ops a.tmps)) : YC P ops S o v a' := by
  unfold YC at *
  rw [he, hw]
  exact hy
theorem YC.wpOp {i : Nat} {o : Oper} {v : Value} {a : Act} (hi : ops[i]? = some o) (hy : YC P ops S o v a) {K : Act → World → Prop} {w : World} (hS : S w) (h : K (a.put o.dst v) w) : wpOp P ops Q i K a w := by
  unfold Go.wpOp
  simp only [hi]
  obtain ⟨hw, hv⟩ := hy
  obtain ⟨g, args, h1, h2⟩ := hv w hS
  simp only [hw, if_true, Oper.wp, h1, Oper.upon]
  refine .inl (Calls.mono h2 (fun e w' he => ?_))
  obtain ⟨rfl, rfl⟩ := he
  exact h
theorem wpOp_putC {j : Nat} {oi oj : Oper} {v : Value} (hj : ops[j]? = some oj) (hap : oi.apart ops oj = true)
    (hsi : ∀ cs b, oi.op ≠ .select cs b) (hsj : ∀ cs b, oj.op ≠ .select cs b)
    (hQ : ∀ c a w, Q (.panic c) (a.put oi.dst v) w → Q (.panic c) a w) {K : Act → World → Prop} {a : Act} {w : World}
    (hy : YC P ops S oi v a) (h : wpOp P ops Q j K (a.put oi.dst v) w) :
    wpOp P ops Q j (fun a' w' => YC P ops S oi v a' ∧ K (a'.put oi.dst v) w') a w := by
  obtain ⟨h1, h2, h3⟩ := Oper.apart_spec hap
  have keep : ∀ (a : Act), YC P ops S oi v a → ∀ u, YC P ops S oi v (a.put oj.dst u) := fun a hy u =>
    hy.of_same (execOp_put oi hsi a oj.dst u h3) (wanted_put oi a oj.dst u h3)
  have keepD : ∀ d, YC P ops S oi v { a with defers := d :: a.defers } := fun d => hy.of_same rfl rfl
  unfold wpOp at *
  simp only [hj] at *
  rw [wanted_put oj a oi.dst v h1] at h
  split
  · rename_i hw
    simp only [hw, if_true] at h
    rcases h with h | ⟨hasks, hlets⟩
    case inr => exact .inr ⟨by unfold Oper.asks at *; rw [execOp_put oj hsj a oi.dst v h1] at hasks; exact hasks, hlets⟩
    refine .inl ?_
    unfold Oper.wp at *
    rw [execOp_put oj hsj a oi.dst v h1] at h
    generalize (execOp a.eval oj).run P w = r at *
    cases r with
    | ok n w' =>
      cases n <;> simp only [Oper.upon] at h ⊢
      case value u => exact ⟨keep a hy u, by rw [← Act.put_comm a v u h2]; exact h⟩
      case skip => exact ⟨keep a hy _, by rw [← Act.put_comm a v undef h2]; exact h⟩
      case defer d =>
        refine ⟨keep _ (keepD d) _, ?_⟩
        rw [← Act.put_comm _ v undef h2, ← Act.put_defers]
        exact h
      case enter f args =>
        refine Calls.mono h fun e w'' he => ?_
        cases e with
        | returned u => exact ⟨keep a hy u, by rw [← Act.put_comm a v u h2]; exact he⟩
        | panicked c => exact hQ _ _ _ he
        | outgrown => exact he
      case row row args => exact Rows.mono h fun u w'' he => ⟨keep a hy u, by rw [← Act.put_comm a v u h2]; exact he⟩
    | halt x w' =>
      cases x <;> simp only [Oper.upon] at h ⊢
      case panic u => exact hQ _ _ _ h
  · rename_i hw
    simp only [hw] at h
    exact ⟨keep a hy _, by rw [← Act.put_comm a v undef h2]; exact h⟩
theorem AnyC_first {i : Nat} {oi : Oper} {v : Value} (hi : ops[i]? = some oi) (hsel : ∀ (j : Nat) (o : Oper) cs b, ops[j]? = some o → o.op ≠ .select cs b) (hQ : ∀ c a w, Q (.panic c) (a.put oi.dst v) w → Q (.panic c) a w) :
    ∀ (m : Nat) (l : Array Bool) (a : Act) (w : World), closedB ops l = true → (∀ j oj, ops[j]? = some oj → j ≠ i → l.getD j true = false → (∀ e ∈ oj.after, Region.binds .any e = true → e.on ≠ i) → oi.apart ops oj = true) →
      i ∈ Region.ready .any ops l → YC P ops S oi v a → S w → AnyF P ops Q S m (l.setIfInBounds i true) (a.put oi.dst v) w → AnyF P ops Q S (m + 1) l a w := by
  have hlt : i < ops.size := (Array.getElem?_eq_some_iff.1 hi).1
  intro m
  induction m with
  | zero =>
    intro l a w _ _ hr hy hS H
    refine ⟨fun h => absurd (h ▸ hr) (by simp), fun j hj => ?_⟩
    by_cases hji : j = i
    · subst hji; exact hy.wpOp hi hS ⟨fun _ => hS, H⟩
    · have h1 := ready_mono hj hji
      rw [H.1] at h1
      exact absurd h1 (by simp)
  | succ m ih =>
    intro l a w hcl hfree hr hy hS H
    refine ⟨fun h => absurd (h ▸ hr) (by simp), fun j hj => ?_⟩
    by_cases hji : j = i
    · subst hji; exact hy.wpOp hi hS ⟨fun _ => hS, H⟩
    · have h1 := H.2 j (ready_mono hj hji)
      obtain ⟨hjun, oj, hoj, hall⟩ := mem_ready.1 hj
      have h0 := (mem_ready.1 hr).1
      have hil : l.getD i false = false := by
        rcases Nat.lt_or_ge i l.size with h' | h'
        · simp [h'] at h0 ⊢; exact h0
        · simp [Array.getElem?_eq_none h'] at h0
      have hnot : ∀ e ∈ oj.after, Region.binds .any e = true → e.on ≠ i := fun e he hb heq => by
        have h3 := hall e he hb
        rw [heq, hil] at h3
        cases h3
      have hun : l.getD i true = false := by simpa using h0
      have hallT : ∀ e ∈ oj.after, Region.binds .any e = true → l.getD e.on true = true := fun e he hb => by
        have h3 := hall e he hb
        rcases Nat.lt_or_ge e.on l.size with h' | h'
        · simp [h'] at h3 ⊢; exact h3
        · simp [Array.getElem?_eq_none h']
      have hdiT : ∀ ok, ops[i]? = some ok → ∀ e ∈ ok.after, Region.binds .any e = true → l.getD e.on true = true := fun ok hok e he hb => by
        obtain ⟨_, o2, ho2, hall2⟩ := mem_ready.1 hr
        rw [hok] at ho2; injection ho2 with ho2; subst ho2
        have h3 := hall2 e he hb
        rcases Nat.lt_or_ge e.on l.size with h' | h'
        · simp [h'] at h3 ⊢; exact h3
        · simp [Array.getElem?_eq_none h']
      have hfin := final_false hcl hji hlt hoj hallT hun hjun hdiT
      have hcl2 : closedB ops (l.setIfInBounds j true) = true := closedB_mk fun k ok hok hk e he hb => by
        have hset : ∀ q, l.getD q true = true → (l.setIfInBounds j true).getD q true = true := fun q hq => by
          by_cases hjq : j = q
          · subst hjq
            rcases Nat.lt_or_ge j l.size with h' | h'
            · simp [h']
            · simp
          · rw [getD_set_ne true hjq]; exact hq
        by_cases hjk : j = k
        · subst hjk
          rw [hoj] at hok; injection hok with hok; subst hok
          exact hset _ (hallT e he hb)
        · rw [getD_set_ne true hjk] at hk
          exact hset _ (closedB_spec hcl hok hk e he hb)
      have h2 := wpOp_putC hoj (hfree j oj hoj hji hjun hnot) (fun cs b => hsel i oi cs b hi) (fun cs b => hsel j oj cs b hoj) hQ hy h1
      refine wpOp_mono (fun a' w' h3 => ?_) h2
      have hS' := h3.2.1 hfin
      refine ⟨fun _ => hS', ih (l.setIfInBounds j true) a' w' hcl2 (fun k ok hk hki hun hno => ?_) (ready_mono hr (Ne.symm hji)) h3.1 hS' ?_⟩
      · refine hfree k ok hk hki ?_ hno
        by_cases hjk : j = k
        · subst hjk; exact hjun
        · rw [getD_set_ne true hjk] at hun; exact hun
      · rw [Array.setIfInBounds_comm _ _ hji]
        exact h3.2.2
end
section
variable {P : Program} {B : Exit → Act → World → Prop} {n : Nat} {k : List Kont} {f : Fr} {w : World} {ops : Array Oper} {S : World → Prop} {fuel : Nat} {d : List Nat}
theorem h_takeC {i s : Nat} {oi : Oper} {v : Value} (hi : ops[i]? = some oi) (hg : oi.guard = none) (hdst : oi.dst = some s) (hd : Nat.blt s n = true) (hc : takeB ops d i = true)
    (hrun : ∀ w', S w' → ∃ g args, (execOp (opv f) oi).run P w' = .ok (.enter g args) w' ∧ Calls P g args w' (fun e w'' => e = .returned v ∧ w'' = w')) (hS : S w) (h : HA P B n k S ops fuel (i :: d) (upd f s v) w) : HA P B n k S ops (fuel + 1) d f w := by
  intro a ha
  simp only [takeB, Bool.and_eq_true] at hc
  refine AnyC_first (v := v) hi (Region.noSelect_spec hc.1.1.1) (fun _ _ _ h => (h : False).elim) fuel (lst ops d) a w hc.2 (Region.free_spec hi hc.1.1.2) (by simpa using hc.1.2) ⟨by simp [Region.wanted, hg], fun w' hw' => ?_⟩ hS ?_
  · rw [ha.eval]; exact hrun w' hw'
  · rw [hdst]; exact h _ (ha.put hd v)
end
def BI (n : Nat) (I : Array Bool → Fr → World → Prop) (l : Array Bool) : Exit → Act → World → Prop
  | .normal, a, w => ∃ f, Is n f a ∧ I l f w
  | _, _, _ => False
section
variable {P : Program} {B : Exit → Act → World → Prop} {n : Nat} {k : List Kont} {ops : Array Oper} {I : Array Bool → Fr → World → Prop}
def Steps (P : Program) (n : Nat) (I : Array Bool → Fr → World → Prop) (ops : Array Oper) : Nat → List Oper → Prop
  | _, [] => True
  | i, o :: r => (∀ l f w, l.getD i true = false → (∀ e ∈ o.after, Region.binds .any e = true → l.getD e.on false = true) → I l f w → KL P (BI n I (l.setIfInBounds i true)) n ops [] [o] f w) ∧ Steps P n I ops (i + 1) r
theorem Steps.get {ops : Array Oper} : ∀ {r : List Oper} {i : Nat}, Steps P n I ops i r → ∀ j o, r[j]? = some o → ∀ l f w, l.getD (i + j) true = false → (∀ e ∈ o.after, Region.binds .any e = true → l.getD e.on false = true) → I l f w → KL P (BI n I (l.setIfInBounds (i + j) true)) n ops [] [o] f w
  | [], _, _, j, o, hj => by simp at hj
  | a :: r, i, h, 0, o, hj => by
    simp at hj; subst hj
    exact h.1
  | a :: r, i, h, j + 1, o, hj => by
    have := Steps.get h.2 j o (by simpa using hj)
    rw [show i + (j + 1) = i + 1 + j by omega]
    exact this
end
section
variable {P : Program} {B : Exit → Act → World → Prop} {n : Nat} {k : List Kont} {f : Fr} {w : World} {ops : Array Oper} {S : World → Prop} {fuel : Nat} {d : List Nat}
theorem h_takeY {i s j sj : Nat} {b : Bool} {g : Prop} [Decidable g] {oi : Oper} {v : Value} (hi : ops[i]? = some oi) (hgd : oi.guard = some (j, b)) (hj : (ops[j]?).bind (·.dst) = some sj) (hw : Wanted f sj b g) (hg : g) (hdst : oi.dst = some s) (hd : Nat.blt s n = true) (hc : takeB ops d i = true)
    (hrun : ∀ w', S w' → (execOp (opv f) oi).run P w' = .ok (.value v) w') (hS : S w) (h : HA P B n k S ops fuel (i :: d) (upd f s v) w) : HA P B n k S ops (fuel + 1) d f w := by
  intro a ha
  simp only [takeB, Bool.and_eq_true] at hc
  have hwa := (wanted_of ha hj hw).1 hg
  refine AnyF_take (v := v) hi hc.1.1.1 hc.1.1.2 hc.1.2 hc.2 (fun _ _ _ h => (h : False).elim) (.inl ⟨by simp only [Region.wanted, hgd]; exact hwa, fun w' hw' => ?_⟩) hS ?_
  · rw [ha.eval]; exact hrun w' hw'
  · rw [hdst]; exact h _ (ha.put hd v)
end
theorem un_false {l : Array Bool} {i : Nat} (h : l.getD i true = false) : l.getD i false = false ∧ i < l.size := by
  rcases Nat.lt_or_ge i l.size with h1 | h1
  · simp [h1] at h ⊢; exact h
  · simp [Array.getElem?_eq_none h1] at h
theorem set_ne {l : Array Bool} {i j : Nat} (h : j ≠ i) : (l.setIfInBounds i true).getD j false = l.getD j false := by
  simp [Array.getElem?_setIfInBounds, Ne.symm h]
theorem set_eq {l : Array Bool} {i : Nat} (h : i < l.size) : (l.setIfInBounds i true).getD i false = true := by
  simp [h]
def cn9 (l : Array Bool) : Nat := (l.getD 2 false).toNat + (l.getD 7 false).toNat
def Phi9 (z bs EN : Nat) : Nat → Fr → World → Prop
  | 0, g, w => ∃ b, (z ≤ b ∧ b < w.heap.size) ∧ g 31 = .slice (some ⟨b, 0, none⟩) 5 5 ∧ RowE w (some ⟨b, 0, none⟩) b 0 5 stripsL
  | 1, g, _ => g 32 = .pointer (some ⟨bs, 0, none⟩)
  | 2, g, _ => ∃ r, g 33 = .int .i64 r ∧ 0 ≤ r ∧ r < 5
  | 3, g, w => ∃ b j s, (z ≤ b ∧ b < w.heap.size) ∧ g 34 = .pointer (some ⟨b, j, none⟩) ∧ At w b j [S s] ∧ s ∈ stripsL
  | 4, g, _ => ∃ s, g 35 = S s ∧ s ∈ stripsL
  | 5, g, w => ∃ b, (z ≤ b ∧ b < w.heap.size) ∧ g 36 = .slice (some ⟨b, 0, none⟩) 6 6 ∧ RowE w (some ⟨b, 0, none⟩) b 0 6 addsL
  | 6, g, _ => g 37 = .pointer (some ⟨bs, 0, none⟩)
  | 7, g, _ => ∃ r, g 38 = .int .i64 r ∧ 0 ≤ r ∧ r < 6
  | 8, g, w => ∃ b j s, (z ≤ b ∧ b < w.heap.size) ∧ g 39 = .pointer (some ⟨b, j, none⟩) ∧ At w b j [S s] ∧ s ∈ addsL
  | 9, g, _ => ∃ s, g 40 = S s ∧ s ∈ addsL
  | 10, g, _ => ∃ s t, g 41 = .agg #[S s, S t] ∧ s ∈ stripsL ∧ t ∈ addsL
  | 11, g, w => ∃ b, (z ≤ b ∧ b < w.heap.size) ∧ g 9 = .pointer (some ⟨b, 0, none⟩) ∧ ∃ s t, Blk w b EN [S s, S t]
  | _, _, _ => True
def Fin9 (z EN : Nat) (g : Fr) (w : World) : Prop := ∃ b s t, (z ≤ b ∧ b < w.heap.size) ∧ g 9 = .pointer (some ⟨b, 0, none⟩) ∧ Blk w b EN [S s, S t] ∧ s ∈ stripsL ∧ t ∈ addsL
def I9 (wR : World) (bs EN T N2 : Nat) (c : Value) (l : Array Bool) (g : Fr) (w : World) : Prop :=
  Evo wR w [bs] ∧ Blk w bs T [c, .int .i64 (N2 + cn9 l : Nat)] ∧ ((l.getD 12 false = false ∧ ∀ j, l.getD j false = true → Phi9 wR.heap.size bs EN j g w) ∨ (l.getD 12 false = true ∧ Fin9 wR.heap.size EN g w ∧ ∀ j, j < 12 → l.getD j false = true))
theorem I9.last {wR w' : World} {bs EN T N2 : Nat} {c : Value} {l : Array Bool} {g' : Fr} (hu : l.getD 12 true = false) (hall : ∀ j, j < 12 → l.getD j false = true)
    (he : Evo wR w' [bs]) (hb : Blk w' bs T [c, .int .i64 (N2 + cn9 (l.setIfInBounds 12 true) : Nat)]) (hn : Fin9 wR.heap.size EN g' w') : I9 wR bs EN T N2 c (l.setIfInBounds 12 true) g' w' :=
  ⟨he, hb, .inr ⟨set_eq (un_false hu).2, hn, fun j hj => by rw [set_ne (by omega)]; exact hall j hj⟩⟩
theorem I9.done {wR w : World} {bs EN T N2 : Nat} {c : Value} {g : Fr} (h : I9 wR bs EN T N2 c (Array.replicate 13 true) g w) : Evo wR w [bs] ∧ Blk w bs T [c, .int .i64 (N2 + 2 : Nat)] ∧ Fin9 wR.heap.size EN g w := by
  obtain ⟨h1, h2, h3 | h3⟩ := h
  · exact absurd h3.1 (by decide)
  · exact ⟨h1, h2, h3.2.1⟩
end Go.Vc
namespace Go.Proofs.YtlfjocbnbceceaaGreatDoor
open Go.RowKit Go.Vc
theorem ee_112 : ∀ (w : World) (x y : Ende), (Op.equalIn 10000 112 (.agg (Enc.enc x).toArray) (.agg (Enc.enc y).toArray)).run Tryz.prog w = .ok (decide (x = y)) w := fun w x y => equalIn_ende 9998 Tryz.underlying112 Tryz.stoodInHeld112 (by decide) (by decide) rfl rfl Tryz.underlying9 Tryz.underlying9 ag_9 ag_9 x y
theorem pos_all {α : Type} [Inhabited α] {l : List α} {x : α} {k : Nat} (h : ∀ j, j < k → ¬ x = l.getD j default) (hk : l.length ≤ k) : ¬ x ∈ l := fun hx => by
  obtain ⟨j, hj, rfl⟩ := List.mem_iff_getElem.1 hx
  exact h j (by omega) (by simp [List.getD, hj])
theorem pos_at {α : Type} [Inhabited α] {l : List α} {x : α} {k : Nat} (hk : k < l.length) (h : x = l.getD k default) : x ∈ l := by rw [h]; exact getD_in hk
def endedL (b : List Ende) (x : Ende) : Int := if (smallL x.strip = true ∧ x.strip.length ≤ 8) ∧ (smallL x.add = true ∧ x.add.length ≤ 8) then (if x ∈ b then 5 else 0) else 1
def firstE (f : Nat → Int) : Nat → Int
  | 0 => 0
  | n + 1 => if firstE f n = 0 then f n else firstE f n
theorem firstE_none {f : Nat → Int} : ∀ {n : Nat}, (∀ j, j < n → f j = 0) → firstE f n = 0
  | 0, _ => rfl
  | n + 1, h => by unfold firstE; rw [if_pos (firstE_none (fun j hj => h j (by omega)))]; exact h n (by omega)
theorem firstE_at {f : Nat → Int} {k : Nat} (h : ∀ j, j < k → f j = 0) (hk : ¬ f k = 0) : ∀ {n : Nat}, k < n → firstE f n = f k
  | 0, h1 => by omega
  | n + 1, h1 => by
    by_cases e : k = n
    · subst e; unfold firstE; rw [if_pos (firstE_none h)]
    · have := firstE_at h hk (n := n) (by omega)
      unfold firstE; rw [this, if_neg hk]
def endsErr (es : List Ende) : Int := firstE (fun k => endedL (es.take k) (es.getD k default)) es.length
def classErr (c : List Clas) (i : Nat) : Int := if namedL (c.take i) (c.getD i default).name = 0 then (if 16 < (c.getD i default).ends.length then 3 else endsErr (c.getD i default).ends) else namedL (c.take i) (c.getD i default).name
def validC (c : List Clas) : Int := if 32 < c.length then 3 else firstE (classErr c) c.length
theorem cls_named {c : List Clas} {i : Nat} (h : ¬ namedL (c.take i) (c.getD i default).name = 0) : classErr c i = namedL (c.take i) (c.getD i default).name := by unfold classErr; rw [if_neg h]
theorem cls_many {c : List Clas} {i : Nat} (h : namedL (c.take i) (c.getD i default).name = 0) (h2 : 16 < (c.getD i default).ends.length) : classErr c i = 3 := by unfold classErr; rw [if_pos h, if_pos h2]
theorem cls_ends {c : List Clas} {i : Nat} (h : namedL (c.take i) (c.getD i default).name = 0) (h2 : ¬ 16 < (c.getD i default).ends.length) : classErr c i = endsErr (c.getD i default).ends := by unfold classErr; rw [if_pos h, if_neg h2]
theorem valid_at {c : List Clas} {i : Nat} {e : Int} (h : ¬ 32 < c.length) (h1 : ∀ j, j < i → classErr c j = 0) (h2 : classErr c i = e) (h3 : ¬ e = 0) (hi : i < c.length) : validC c = e := by
  unfold validC; rw [if_neg h, firstE_at h1 (by rw [h2]; exact h3) hi, h2]
theorem valid_ok {c : List Clas} {i : Nat} (h : ¬ 32 < c.length) (h1 : ∀ j, j < i → classErr c j = 0) (hi : c.length ≤ i) : validC c = 0 := by
  unfold validC; rw [if_neg h, firstE_none (fun j hj => h1 j (by omega))]
theorem ends_err {es : List Ende} {k : Nat} (h : ∀ j, j < k → endedL (es.take j) (es.getD j default) = 0) (h2 : ¬ endedL (es.take k) (es.getD k default) = 0) (hk : k < es.length) : endsErr es = endedL (es.take k) (es.getD k default) := firstE_at h h2 hk
theorem ends_ok {es : List Ende} {k : Nat} (h : ∀ j, j < k → endedL (es.take j) (es.getD j default) = 0) (hk : es.length ≤ k) : endsErr es = 0 := firstE_none (fun j hj => h j (by omega))
theorem ixende_calls {ao : Option Addr} {b off cap : Nat} {es : List Ende} {x : Ende} {w0 : World} (he : RowE w0 ao b off cap es) :
    Calls Tryz.prog 184 #[.slice ao es.length cap, (.agg (Enc.enc x).toArray)] w0 fun e w' => ∃ z : Int, e = .returned (.int .i64 z) ∧ (0 ≤ z ↔ x ∈ es) ∧ Evo w0 w' [] := by
 refine calls_enter (n := 19) Tryz.func184 rfl Tryz.ntmps184 rfl ?_
 have hV : Evo w0 w0 [] := Evo.refl _ _
 have he0 := keepE he
 have hbd_he := he.bd
 refine Zs ?_
 refine r_box (vs := [_, _]) rfl rfl rfl ?_
 intro b1 w2 J1 E2 B1 Y1
 have Q2 := E2.size
 replace hV := Z0 hV E2
 replace he := he0 _ hV
 have hAb1 := B1.at
 refine Zn rfl (asI rfl) ?_
 refine r_seq ?_
 refine Zs ?_
 refine Zo rfl (mvS rfl) ?_
 refine Zo rfl (run_lenSl rfl rfl Tryz.underlying108) ?_
 refine Zn rfl (mvI rfl) ?_
 refine r_block ?_
 refine r_loop (α := Nat) [4, 5, 8, 9, 10, 11, 12, 13, 14, 15, 16, 17, 18] (fun k g w => g 8 = .int .i64 (k : Nat) ∧ k ≤ es.length ∧ Blk w b1 112 (Enc.enc x) ∧ At w b1 0 (Enc.enc x) ∧ (∀ j, j < k → ¬ x = es.getD j default) ∧ w2.heap.size ≤ w.heap.size ∧ Evo w0 w []) (fun k => es.length - k) 0 ?_ ?_
 ·refine ⟨(by first | exact rfl | exact congrArg (Value.int _) (by omega) | exact congrArg (Value.int _) (by dsimp only; omega) | exact congrArg (Value.int _) (by simp) | exact congrArg S (by simp)), (by first | assumption | omega | (dsimp only; omega) | (simp; done)), B1, hAb1, (fun j h => by omega), (by first | assumption | omega | (dsimp only; omega) | (simp; done)), hV⟩
 rintro k g w4 ⟨hj5, hk_k, B1, hAb1, hno, hzl3, hV⟩
 have hs_w4hV := hV.size
 have hlt6 := B1.lt
 refine Zk 8 (v := .int .i64 (k : Nat)) (by exact hj5) ?_
 refine Zs ?_
 refine Zn rfl (run_lss rfl rfl rfl) ?_
 refine r_seq ?_
 refine r_cond rfl (fun hc7 => ?_) (fun hc7 => ?_)
 ·skip
  refine r_skip ?_
  refine r_seq ?_
  refine r_block ?_
  refine Zs ?_
  refine Zo rfl (mvI rfl) ?_
  refine Zn rfl (asI rfl) ?_
  refine r_seq ?_
  have hbb1_q := B1
  have hAb1_q := hAb1
  have hV_q := hV
  refine h_region ([]) (by kernel_rfl) ?_
  intro w8 hE9 hCst4
  have Q8 := hE9.size
  replace hV := Z0 hV hE9
  replace he := he0 _ hV
  replace B1 := B1.evo0 hE9
  replace hAb1 := hAb1.evo0 hE9
  refine h_take (i := 0) rfl rfl rfl rfl (by kernel_rfl) (fun w' hC => run_ldN rfl ag_112 ty_112 rfl rfl (hAb1_q.evo0 hC)) hCst4 ?_
  refine h_take (i := 1) rfl rfl rfl rfl (by kernel_rfl) (fun w' hC => run_mv (v := .slice _ _ _) rfl rfl) hCst4 ?_
  refine h_take (i := 2) rfl rfl rfl rfl (by kernel_rfl) (fun w' hC => run_mv (v := .int _ _) rfl rfl) hCst4 ?_
  refine h_take (i := 3) rfl rfl rfl rfl (by kernel_rfl) (fun w' hC => run_ix (k) rfl Tryz.underlying108 ty_112 rfl rfl (by first | exact rfl | omega) (by omega) (he.addr (i := k) (by omega))) hCst4 ?_
  have hA100 := fun (w' : World) (h : Evo w0 w' []) => (he0 w' h).atD (k) (by omega)
  have hA10 := hA100 _ hV
  refine h_take (i := 4) rfl rfl rfl rfl (by kernel_rfl) (fun w' hC => run_ldN rfl ag_112 ty_112 rfl rfl (hA100 _ (evo_step0 hV_q hC))) hCst4 ?_
  refine h_take (i := 5) rfl rfl rfl rfl (by kernel_rfl) (fun w' hC => run_eqlG (α := Ende) _ _ rfl Tryz.eqGuardType112 ee_112 rfl rfl) hCst4 ?_
  refine h_done (by kernel_rfl) ?_
  refine r_cond rfl (fun hc11 => ?_) (fun hc11 => ?_)
  ·skip
   refine Zs ?_
   refine Zo rfl (mvI rfl) ?_
   refine Zn rfl (asI rfl) ?_
   refine r_ret (res1 (v := .int _ _) rfl rfl) ?_
   exact ⟨_, rfl, ⟨fun _ => pos_at (by omega) hc11, fun _ => by omega⟩, hV⟩
  refine r_skip ?_
  refine r_blk ?_
  refine r_region ?_
  refine Zo rfl (run_add rfl rfl rfl (by omega) (by omega)) ?_
  refine Zn rfl (mvI rfl) ?_
  refine r_again (k + 1) ?_ ?_ ?_
  ·first | omega | (dsimp only; omega)
  ·refine ⟨(by first | exact rfl | exact congrArg (Value.int _) (by omega) | exact congrArg (Value.int _) (by dsimp only; omega) | exact congrArg (Value.int _) (by simp) | exact congrArg S (by simp)), (by first | assumption | omega | (dsimp only; omega) | (simp; done)), B1, hAb1, (upto0 hno hc11), (by first | assumption | omega | (dsimp only; omega) | (simp; done)), hV⟩
  repeat (first | (with_reducible exact Agree.merge _ _ _) | (with_reducible exact Agree.refl _ _) | (with_reducible refine Agree.upd ?_ _ _ rfl) | ((with_reducible refine Agree.inner ?_ ?_); (kernel_rfl)))
 refine r_exit rfl ?_
 refine Zs ?_
 refine Zn rfl (asI rfl) ?_
 refine r_ret (res1 (v := .int _ _) rfl rfl) ?_
 exact ⟨_, rfl, ⟨fun h => by omega, fun h => absurd h (pos_all hno (by omega))⟩, hV⟩
theorem contende_calls {ao : Option Addr} {b off cap : Nat} {es : List Ende} {x : Ende} {w0 : World} (he : RowE w0 ao b off cap es) :
    Calls Tryz.prog 142 #[.slice ao es.length cap, (.agg (Enc.enc x).toArray)] w0 fun e w' => e = .returned (.bool (decide (x ∈ es))) ∧ Evo w0 w' [] := by
 refine calls_enter (n := 9) Tryz.func142 rfl Tryz.ntmps142 rfl ?_
 have hV : Evo w0 w0 [] := Evo.refl _ _
 have he0 := keepE he
 have hbd_he := he.bd
 refine Zs ?_
 refine r_box (vs := [_, _]) rfl rfl rfl ?_
 intro b1 w2 J1 E2 B1 Y1
 have Q2 := E2.size
 replace hV := Z0 hV E2
 replace he := he0 _ hV
 refine Zn rfl (asB rfl) ?_
 refine Zs ?_
 refine Zo rfl (mvS rfl) ?_
 refine Zo rfl (run_ldN rfl ag_112 ty_112 rfl rfl B1.at) ?_
 refine r_opcall rfl rfl rfl (run_callf (vs := [.slice _ _ _, .agg _]) rfl (by exact rfl) Tryz.func184 rfl (by kernel_rfl)) (ixende_calls he) ?_
 rintro e w3 ⟨zx3, rfl, hzx3, hE3⟩
 refine ⟨_, rfl, ?_⟩
 have Q3 := hE3.size
 replace hV := Z0 hV hE3
 refine Zo rfl (run_geq rfl rfl rfl) ?_
 refine Zn rfl (asB rfl) ?_
 refine r_ret (res1 (v := .bool _) rfl rfl) ?_
 exact ⟨ret_bool (decide_eq_decide.2 hzx3), hV⟩
theorem ended_bad {b : List Ende} {p q : Str} (h : ¬ ((smallL p = true ∧ p.length ≤ 8) ∧ (smallL q = true ∧ q.length ≤ 8))) : endedL b ⟨p, q⟩ = 1 := if_neg h
theorem ended_dup {b : List Ende} {p q : Str} (h : (smallL p = true ∧ p.length ≤ 8) ∧ (smallL q = true ∧ q.length ≤ 8)) (h2 : (⟨p, q⟩ : Ende) ∈ b) : endedL b ⟨p, q⟩ = 5 := by unfold endedL; rw [if_pos h, if_pos h2]
theorem ended_ok {b : List Ende} {p q : Str} (h : (smallL p = true ∧ p.length ≤ 8) ∧ (smallL q = true ∧ q.length ≤ 8)) (h2 : ¬ (⟨p, q⟩ : Ende) ∈ b) : endedL b ⟨p, q⟩ = 0 := by unfold endedL; rw [if_pos h, if_neg h2]
theorem end_c1 {p q : Str} : ((8 : Int) < (p.length : Int) ∨ (8 : Int) < (q.length : Int) ∨ smallL p = false ∨ smallL q = false) ↔ ¬ ((smallL p = true ∧ p.length ≤ 8) ∧ (smallL q = true ∧ q.length ≤ 8)) := by
  by_cases h1 : smallL p = true <;> by_cases h2 : smallL q = true <;> simp [h1, h2] <;> omega
theorem end_n1 {p q : Str} (h : (((p.length : Int) ≤ 8 ∧ (q.length : Int) ≤ 8) ∧ smallL p = true) ∧ smallL q = true) : (smallL p = true ∧ p.length ≤ 8) ∧ (smallL q = true ∧ q.length ≤ 8) := ⟨⟨h.1.2, by omega⟩, h.2, by omega⟩
theorem end_n2 {p q : Str} (h : (smallL p = true ∧ p.length ≤ 8) ∧ smallL q = true ∧ q.length ≤ 8) : (smallL p = true ∧ p.length ≤ 8) ∧ (smallL q = true ∧ q.length ≤ 8) := h
theorem end_c2 {p q : Str} : ((smallL p = false ∨ 8 < p.length) ∨ smallL q = false ∨ 8 < q.length) ↔ ¬ ((smallL p = true ∧ p.length ≤ 8) ∧ (smallL q = true ∧ q.length ≤ 8)) := by
  by_cases h1 : smallL p = true <;> by_cases h2 : smallL q = true <;> simp [h1, h2] <;> omega
theorem ending_calls {ao : Option Addr} {b off cap : Nat} {es : List Ende} {p q : Str} {w0 : World} (he : RowE w0 ao b off cap es) (hp : p.length ≤ 140737488355328) (hq : q.length ≤ 140737488355328) :
    Calls Tryz.prog 95 #[.slice ao es.length cap, (.agg #[S p, S q])] w0 fun e w' => e = .returned (.int .i64 (endedL es ⟨p, q⟩)) ∧ Evo w0 w' [] := by
 refine calls_enter (n := 32) Tryz.func95 rfl Tryz.ntmps95 rfl ?_
 have hV : Evo w0 w0 [] := Evo.refl _ _
 have he0 := keepE he
 have hbd_he := he.bd
 refine Zs ?_
 refine r_box (vs := [_, _]) rfl rfl rfl ?_
 intro b1 w2 J1 E2 B1 Y1
 have Q2 := E2.size
 replace hV := Z0 hV E2
 refine Zn rfl (asI rfl) ?_
 refine r_seq ?_
 refine r_block ?_
 refine Zs ?_
 refine Zo rfl (run_fa rfl rfl fo_112_0) ?_
 refine Zo rfl (run_ld1 rfl ag_9 rfl (B1.at.cell 0 rfl)) ?_
 refine Zo rfl (run_lenS rfl rfl Tryz.underlying9) ?_
 refine Zo rfl (run_gtr rfl rfl rfl) ?_
 refine Zo rfl (mvB rfl) ?_
 refine r_g rfl (wantF rfl) rfl (fun hg => run_fa rfl rfl fo_112_1) ?_
 refine r_g rfl (wantF rfl) rfl (fun hg => run_ld1 rfl ag_9 (glv rfl (fun h => h) hg) (B1.at.cell 1 rfl)) ?_
 refine r_g rfl (wantF rfl) rfl (fun hg => run_lenS rfl (glv rfl (fun h => h) hg) Tryz.underlying9) ?_
 refine r_g rfl (wantF rfl) rfl (fun hg => run_gtr rfl (glv rfl (fun h => h) hg) rfl) ?_
 refine Zo rfl (run_pick_or rfl rfl rfl (fun hq => glv rfl (fun h => h) hq)) ?_
 refine Zo rfl (mvB rfl) ?_
 refine r_g rfl (wantF rfl) rfl (fun hg => run_fa rfl rfl fo_112_0) ?_
 refine r_g rfl (wantF rfl) rfl (fun hg => run_ld1 rfl ag_9 (glv rfl (fun h => h) hg) (B1.at.cell 0 rfl)) ?_
 refine r_gcall rfl (wantF rfl) rfl (fun hg => run_callf rfl (argcons (v := S _) (glv rfl (fun h => h) hg) (rfl)) Tryz.func141 rfl (by kernel_rfl)) (fun hg => (small_calls (by first | omega | (simp; omega))).mono (fun e w' h => ⟨h.1, h.2⟩)) (fun w3 hE4 => ?_)
 have Q3 := hE4.size
 replace hV := Z0 hV hE4
 replace B1 := B1.evo0 hE4
 refine r_g rfl (wantF rfl) rfl (fun hg => run_notb rfl (glv rfl (fun h => h) hg)) ?_
 refine Zo rfl (run_pick_orB rfl rfl rfl (fun hq => glv rfl (fun h => h) hq)) ?_
 refine Zo rfl (mvB rfl) ?_
 refine r_g rfl (wantF rfl) rfl (fun hg => run_fa rfl rfl fo_112_1) ?_
 refine r_g rfl (wantF rfl) rfl (fun hg => run_ld1 rfl ag_9 (glv rfl (fun h => h) hg) (B1.at.cell 1 rfl)) ?_
 refine r_gcall rfl (wantF rfl) rfl (fun hg => run_callf rfl (argcons (v := S _) (glv rfl (fun h => h) hg) (rfl)) Tryz.func141 rfl (by kernel_rfl)) (fun hg => (small_calls (by first | omega | (simp; omega))).mono (fun e w' h => ⟨h.1, h.2⟩)) (fun w5 hE6 => ?_)
 have Q5 := hE6.size
 replace hV := Z0 hV hE6
 replace he := he0 _ hV
 replace B1 := B1.evo0 hE6
 refine r_g rfl (wantF rfl) rfl (fun hg => run_notb rfl (glv rfl (fun h => h) hg)) ?_
 refine Zo rfl (run_pick_orB rfl rfl rfl (fun hq => glv rfl (fun h => h) hq)) ?_
 refine Zn rfl (asB rfl) ?_
 refine r_cond rfl (fun hc7 => ?_) (fun hc7 => ?_)
 ·skip
  refine Zs ?_
  refine Zn rfl (asI rfl) ?_
  refine r_ret (res1 (v := .int _ _) rfl rfl) ?_
  exact ⟨ret_int (by rw [ended_bad (end_c1.1 (by simpa [or_assoc] using hc7))]), hV⟩
 refine Zs ?_
 refine Zo rfl (mvS rfl) ?_
 refine Zo rfl (run_ldN rfl ag_112 ty_112 rfl rfl B1.at) ?_
 refine r_opcall rfl rfl rfl (run_callf (vs := [.slice _ _ _, .agg _]) rfl (by exact rfl) Tryz.func142 rfl (by kernel_rfl)) (contende_calls (x := ⟨p, q⟩) he) ?_
 rintro e w8 ⟨rfl, hE8⟩
 refine ⟨_, rfl, ?_⟩
 have Q8 := hE8.size
 replace hV := Z0 hV hE8
 refine Zn rfl (asB rfl) ?_
 refine r_condb rfl (fun hc9 => ?_) (fun hc9 => ?_)
 ·skip
  refine Zs ?_
  refine Zn rfl (asI rfl) ?_
  refine r_ret (res1 (v := .int _ _) rfl rfl) ?_
  exact ⟨ret_int (by rw [ended_dup (end_n1 (by simpa using hc7)) (of_decide_eq_true hc9)]), hV⟩
 refine r_skip ?_
 refine r_blk ?_
 refine Zs ?_
 refine Zn rfl (asI rfl) ?_
 refine r_ret (res1 (v := .int _ _) rfl rfl) ?_
 exact ⟨ret_int (by rw [ended_ok (end_n1 (by simpa using hc7)) (of_decide_eq_false hc9)]), hV⟩
theorem rended_calls {ao : Option Addr} {b off cap : Nat} {es : List Ende} {p q : Str} {w0 : World} (he : RowE w0 ao b off cap es) (hp : p.length ≤ 140737488355328) (hq : q.length ≤ 140737488355328) :
    Calls Tryz.prog 100 #[.slice ao es.length cap, (.agg #[S p, S q])] w0 fun e w' => e = .returned (.int .i64 (endedL es ⟨p, q⟩)) ∧ Evo w0 w' [] := by
 refine calls_enter (n := 27) Tryz.func100 rfl Tryz.ntmps100 rfl ?_
 have hV : Evo w0 w0 [] := Evo.refl _ _
 have he0 := keepE he
 have hbd_he := he.bd
 refine Zs ?_
 refine r_box (vs := [_, _]) rfl rfl rfl ?_
 intro b1 w2 J1 E2 B1 Y1
 have Q2 := E2.size
 replace hV := Z0 hV E2
 have hAb1 := B1.at
 refine Zn rfl (asI rfl) ?_
 refine r_seq ?_
 refine Zs ?_
 refine Zo rfl (run_fa rfl rfl fo_112_0) ?_
 refine Zo rfl (run_ld1 rfl ag_9 rfl (hAb1.cell 0 rfl)) ?_
 refine r_opcall rfl rfl rfl (run_callf (vs := [S _]) rfl (by exact rfl) Tryz.func148 rfl (by kernel_rfl)) (rsmall_calls (by first | omega | (simp; omega))) ?_
 rintro e w3 ⟨rfl, hE3⟩
 refine ⟨_, rfl, ?_⟩
 have Q3 := hE3.size
 replace hV := Z0 hV hE3
 replace B1 := B1.evo0 hE3
 replace hAb1 := hAb1.evo0 hE3
 refine Zo rfl (run_notb rfl rfl) ?_
 refine Zo rfl (run_mvb rfl rfl) ?_
 refine r_g rfl (wantF rfl) rfl (fun hg => run_fa rfl rfl fo_112_1) ?_
 refine r_g rfl (wantF rfl) rfl (fun hg => run_ld1 rfl ag_9 (glv rfl (fun h => h) hg) (hAb1.cell 1 rfl)) ?_
 refine r_gcall rfl (wantF rfl) rfl (fun hg => run_callf rfl (argcons (v := S _) (glv rfl (fun h => h) hg) (rfl)) Tryz.func148 rfl (by kernel_rfl)) (fun hg => (rsmall_calls (by first | omega | (simp; omega))).mono (fun e w' h => ⟨h.1, h.2⟩)) (fun w4 hE5 => ?_)
 have Q4 := hE5.size
 replace hV := Z0 hV hE5
 replace he := he0 _ hV
 replace B1 := B1.evo0 hE5
 replace hAb1 := hAb1.evo0 hE5
 refine r_g rfl (wantF rfl) rfl (fun hg => run_notb rfl (glv rfl (fun h => h) hg)) ?_
 refine Zn rfl (run_pick_orB rfl rfl rfl (fun hq => glv rfl (fun h => h) hq)) ?_
 refine r_cond rfl (fun hc6 => ?_) (fun hc6 => ?_)
 ·skip
  refine Zs ?_
  refine Zn rfl (asI rfl) ?_
  refine r_ret (res1 (v := .int _ _) rfl rfl) ?_
  exact ⟨ret_int (by rw [ended_bad (end_c2.1 (by simpa using hc6))]), hV⟩
 refine r_skip ?_
 refine r_seq ?_
 refine Zs ?_
 refine Zo rfl (mvS rfl) ?_
 refine Zo rfl (run_lenSl rfl rfl Tryz.underlying108) ?_
 refine Zn rfl (mvI rfl) ?_
 refine r_block ?_
 refine r_loop (α := Nat) [4, 6, 19, 20, 21, 22, 23, 24, 25, 26] (fun k g w => g 19 = .int .i64 (k : Nat) ∧ k ≤ es.length ∧ Blk w b1 112 (Enc.enc (⟨p, q⟩ : Ende)) ∧ At w b1 0 (Enc.enc (⟨p, q⟩ : Ende)) ∧ (∀ j, j < k → ¬ (⟨p, q⟩ : Ende) = es.getD j default) ∧ w4.heap.size ≤ w.heap.size ∧ Evo w0 w []) (fun k => es.length - k) 0 ?_ ?_
 ·refine ⟨(by first | exact rfl | exact congrArg (Value.int _) (by omega) | exact congrArg (Value.int _) (by dsimp only; omega) | exact congrArg (Value.int _) (by simp) | exact congrArg S (by simp)), (by first | assumption | omega | (dsimp only; omega) | (simp; done)), B1, hAb1, (fun j h => by omega), (by first | assumption | omega | (dsimp only; omega) | (simp; done)), hV⟩
 rintro k g w8 ⟨hj9, hk_k, B1, hAb1, hno, hzl7, hV⟩
 have hs_w8hV := hV.size
 have hlt10 := B1.lt
 replace he := he0 _ hV
 refine Zk 19 (v := .int .i64 (k : Nat)) (by exact hj9) ?_
 refine Zs ?_
 refine Zn rfl (run_lss rfl rfl rfl) ?_
 refine r_seq ?_
 refine r_cond rfl (fun hc11 => ?_) (fun hc11 => ?_)
 ·skip
  refine r_skip ?_
  refine r_seq ?_
  refine r_block ?_
  refine Zs ?_
  refine Zo rfl (run_ix (k) rfl Tryz.underlying108 ty_112 rfl rfl (by first | exact rfl | omega) (by omega) (he.addr (i := k) (by omega))) ?_
  have hA120 := fun (w' : World) (h : Evo w0 w' []) => (he0 w' h).atD (k) (by omega)
  have hA12 := hA120 _ hV
  refine Zo rfl (run_ldN rfl ag_112 ty_112 rfl rfl hA12) ?_
  refine r_var (zs := [_, _]) (vs := [_, _]) ty_112 rfl rfl rfl (fun _ => rfl) rfl rfl rfl rfl ?_
  intro b13 w14 J13 E14 B13 Y13
  have Q14 := E14.size
  replace hV := Z0 hV E14
  replace he := he0 _ hV
  replace B1 := B1.evo0 E14
  replace hAb1 := hAb1.evo0 E14
  refine r_nil ?_
  refine Zs ?_
  refine Zo rfl (run_ldN rfl ag_112 ty_112 rfl rfl hAb1) ?_
  refine Zo rfl (run_ldN rfl ag_112 ty_112 rfl rfl B13.at) ?_
  refine Zn rfl (run_eqlG (α := Ende) _ _ rfl Tryz.eqGuardType112 ee_112 rfl rfl) ?_
  refine r_cond rfl (fun hc15 => ?_) (fun hc15 => ?_)
  ·skip
   refine Zs ?_
   refine Zn rfl (asI rfl) ?_
   refine r_ret (res1 (v := .int _ _) rfl rfl) ?_
   exact ⟨ret_int (by rw [ended_dup (end_n2 (by simpa using hc6)) (pos_at (by omega) hc15)]), hV⟩
  refine r_skip ?_
  refine r_blk ?_
  refine r_region ?_
  refine Zo rfl (run_add rfl rfl rfl (by omega) (by omega)) ?_
  refine Zn rfl (mvI rfl) ?_
  refine r_again (k + 1) ?_ ?_ ?_
  ·first | omega | (dsimp only; omega)
  ·refine ⟨(by first | exact rfl | exact congrArg (Value.int _) (by omega) | exact congrArg (Value.int _) (by dsimp only; omega) | exact congrArg (Value.int _) (by simp) | exact congrArg S (by simp)), (by first | assumption | omega | (dsimp only; omega) | (simp; done)), B1, hAb1, (upto0 hno hc15), (by first | assumption | omega | (dsimp only; omega) | (simp; done)), hV⟩
  repeat (first | (with_reducible exact Agree.merge _ _ _) | (with_reducible exact Agree.refl _ _) | (with_reducible refine Agree.upd ?_ _ _ rfl) | ((with_reducible refine Agree.inner ?_ ?_); (kernel_rfl)))
 refine r_exit rfl ?_
 refine Zs ?_
 refine Zn rfl (asI rfl) ?_
 refine r_ret (res1 (v := .int _ _) rfl rfl) ?_
 exact ⟨ret_int (by rw [ended_ok (end_n2 (by simpa using hc6)) (pos_all hno (by omega))]), hV⟩
theorem validate_calls {ao : Option Addr} {b off cap : Nat} {c : List Clas} {w0 : World} (hc : RowR w0 ao b off cap c) :
    Calls Tryz.prog 53 #[.slice ao c.length cap] w0 fun e w' => e = .returned (.int .i64 (validC c)) ∧ Evo w0 w' [] := by
 have hcb := clas_bd hc
 refine calls_enter (n := 51) Tryz.func53 rfl Tryz.ntmps53 rfl ?_
 have hV : Evo w0 w0 [] := Evo.refl _ _
 have hc0 := hc.keep
 have hbd_hc := hc.bd
 refine Zs ?_
 refine Zn rfl (asI rfl) ?_
 refine r_seq ?_
 refine Zs ?_
 refine Zo rfl (mvS rfl) ?_
 refine Zo rfl (run_lenSl rfl rfl Tryz.underlying26) ?_
 refine Zn rfl (run_gtr rfl rfl rfl) ?_
 refine r_cond rfl (fun hc1 => ?_) (fun hc1 => ?_)
 ·skip
  refine Zs ?_
  refine Zn rfl (asI rfl) ?_
  refine r_ret (res1 (v := .int _ _) rfl rfl) ?_
  exact ⟨ret_int (by unfold validC; rw [if_pos (by omega)]), hV⟩
 refine r_skip ?_
 refine r_seq ?_
 refine Zs ?_
 refine Zo rfl (mvS rfl) ?_
 refine Zo rfl (run_lenSl rfl rfl Tryz.underlying26) ?_
 refine Zn rfl (mvI rfl) ?_
 refine r_block ?_
 refine r_loop (α := Nat) [2, 3, 4, 5, 6, 7, 8, 14, 15, 16, 17, 18, 19, 20, 21, 22, 23, 24, 25, 26, 27, 28, 29, 30, 31, 32, 33, 34, 35, 36, 37, 38, 39, 40, 41, 42, 43, 44, 45, 46, 47, 48, 49, 50] (fun i g w => g 14 = .int .i64 (i : Nat) ∧ i ≤ c.length ∧ (∀ j, j < i → classErr c j = 0) ∧ w0.heap.size ≤ w.heap.size ∧ Evo w0 w []) (fun i => c.length - i) 0 ?_ ?_
 ·refine ⟨(by first | exact rfl | exact congrArg (Value.int _) (by omega) | exact congrArg (Value.int _) (by dsimp only; omega) | exact congrArg (Value.int _) (by simp) | exact congrArg S (by simp)), (by first | assumption | omega | (dsimp only; omega) | (simp; done)), (fun j h => by omega), (by first | assumption | omega | (dsimp only; omega) | (simp; done)), hV⟩
 rintro i g w3 ⟨hj4, hk_i, hno, hzl2, hV⟩
 have hs_w3hV := hV.size
 replace hc := hc0.now hV
 refine Zk 14 (v := .int .i64 (i : Nat)) (by exact hj4) ?_
 refine Zs ?_
 refine Zn rfl (run_lss rfl rfl rfl) ?_
 refine r_seq ?_
 refine r_cond rfl (fun hc5 => ?_) (fun hc5 => ?_)
 ·skip
  refine r_skip ?_
  refine r_seq ?_
  refine r_block ?_
  refine Zs ?_
  refine Zo rfl (mvI rfl) ?_
  refine Zo rfl (run_ix (i) rfl Tryz.underlying26 ty_110 rfl rfl (by first | exact rfl | omega) (by omega) (hc.addr (i := i) (by omega))) ?_
  obtain ⟨ao6, b6, off6, cap6, hX⟩ := clas_atK hc0 (i) (by omega)
  have hA60 := fun (w' : World) (h : Evo w0 w' []) => (hX w' h).1
  have hA6 := hA60 _ hV
  have hR60 := fun (w' : World) (h : Evo w0 w' []) => (hX w' h).2
  have hR6 := hR60 _ hV
  clear hX
  have hbd_hR6 := hR6.bd
  refine Zo rfl (run_ldN rfl ag_110 ty_110 rfl rfl hA6) ?_
  refine r_alloc (zs := [_, _]) ty_110 rfl rfl ?_
  intro b7 w8 J7 E8 B7 Y7
  have Q8 := E8.size
  replace hV := Z0 hV E8
  replace hA6 := hA60 _ hV
  have hAb7 := B7.at
  refine Zo rfl (asI rfl) ?_
  refine r_store (v := .agg _) (vs := [_, _]) (cs' := [_, _]) rfl rfl B7 ty_110 rfl rfl rfl rfl rfl ?_
  intro w9 E9 V9 hb_new
  have Q9 := E9.size
  replace hV := Z1 hV E9 (by first | exact .inl (by omega) | exact .inr (by simp))
  replace hc := hc0.now hV
  replace B7 := hb_new
  have hAb7 := B7.at
  clear hb_new
  refine r_nil ?_
  refine r_seq ?_
  refine r_seq ?_
  refine r_qregion (by kernel_rfl) (by kernel_rfl) ?_
  refine Zq rfl (fun _ _ => mvS rfl) ?_
  refine Zq rfl (fun _ _ => mvI rfl) ?_
  refine q_op rfl rfl rfl (fun w' hC => run_slR (0) (i) rfl Tryz.underlying26 ty_110 rfl (hc.evo0 hC) lo0 (at1 rfl (by omega)) (by first | omega | (simp; omega)) (by first | omega | (simp; omega)) List.drop_zero) ?_
  have hS100 := (by have h9 := (hc0.take (i)).drop (0); rw [List.drop_zero] at h9; exact h9)
  have hS10 := (by have h9 := (hc.take (i)).drop (0); rw [List.drop_zero] at h9; exact h9)
  have hbd_hS10 := hS10.bd
  refine q_op rfl rfl rfl (fun w' hC => run_fa rfl rfl fo_110_0) ?_
  refine q_op rfl rfl rfl (fun w' hC => run_ld1 rfl ag_9 rfl ((hAb7.evo0 hC).cell 0 rfl)) ?_
  refine q_call rfl rfl rfl (fun w' hC => run_callf rfl (argcons (v := .slice _ _ _) rfl (argcons (v := S _) rfl (rfl))) Tryz.func94 rfl (by kernel_rfl)) (fun w' hC => (named_calls (hS10.evo0 hC)).mono (fun e w'' h => ⟨h.1, evo_step0 hC h.2⟩)) ?_
  refine Zq rfl (fun _ _ => asI rfl) ?_
  refine q_nil (fun w11 hE12 => ?_)
  have Q11 := hE12.size
  replace hV := Z0 hV hE12
  replace hc := hc0.now hV
  replace hR6 := hR60 _ hV
  replace B7 := B7.evo0 hE12
  replace hAb7 := hAb7.evo0 hE12
  refine Zs ?_
  refine Zo rfl (mvI rfl) ?_
  refine Zn rfl (run_neq rfl rfl rfl) ?_
  refine r_cond rfl (fun hc13 => ?_) (fun hc13 => ?_)
  ·skip
   refine Zs ?_
   refine Zo rfl (mvI rfl) ?_
   refine Zn rfl (asI rfl) ?_
   refine r_ret (res1 (v := .int _ _) rfl rfl) ?_
   exact ⟨ret_int (by rw [valid_at (by omega) hno (cls_named hc13) hc13 (by omega)]), hV⟩
  refine r_skip ?_
  refine r_seq ?_
  refine Zs ?_
  refine Zo rfl (run_fa rfl rfl fo_110_1) ?_
  refine Zo rfl (run_ld1 rfl ag_108 rfl (hAb7.cell 1 rfl)) ?_
  refine Zo rfl (run_lenSl rfl rfl Tryz.underlying108) ?_
  refine Zn rfl (run_gtr rfl rfl rfl) ?_
  refine r_cond rfl (fun hc14 => ?_) (fun hc14 => ?_)
  ·skip
   refine Zs ?_
   refine Zn rfl (asI rfl) ?_
   refine r_ret (res1 (v := .int _ _) rfl rfl) ?_
   exact ⟨ret_int (by rw [valid_at (by omega) hno (cls_many (Classical.not_not.1 (by assumption)) (by omega)) (by decide) (by omega)]), hV⟩
  refine r_skip ?_
  refine Zs ?_
  refine Zo rfl (run_fa rfl rfl fo_110_1) ?_
  refine Zo rfl (run_ld1 rfl ag_108 rfl (hAb7.cell 1 rfl)) ?_
  refine Zo rfl (run_lenSl rfl rfl Tryz.underlying108) ?_
  refine Zn rfl (mvI rfl) ?_
  refine r_block ?_
  refine r_loop (α := Nat) [2, 6, 7, 8, 35, 36, 37, 38, 39, 40, 41, 42, 43, 44, 45, 46, 47, 48, 49] (fun k g w => g 35 = .int .i64 (k : Nat) ∧ k ≤ (c.getD i default).ends.length ∧ At w b7 0 [S (c.getD i default).name, .slice ao6 (c.getD i default).ends.length cap6] ∧ (∀ j, j < k → endedL ((c.getD i default).ends.take j) ((c.getD i default).ends.getD j default) = 0) ∧ w11.heap.size ≤ w.heap.size ∧ Evo w0 w []) (fun k => (c.getD i default).ends.length - k) 0 ?_ ?_
  ·refine ⟨(by first | exact rfl | exact congrArg (Value.int _) (by omega) | exact congrArg (Value.int _) (by dsimp only; omega) | exact congrArg (Value.int _) (by simp) | exact congrArg S (by simp)), (by first | assumption | omega | (dsimp only; omega) | (simp; done)), hAb7, (fun j h => by omega), (by first | assumption | omega | (dsimp only; omega) | (simp; done)), hV⟩
  rintro k g w16 ⟨hj17, hk_k, hAb7, hnk, hzl15, hV⟩
  have hs_w16hV := hV.size
  replace hc := hc0.now hV
  replace hA6 := hA60 _ hV
  replace hR6 := hR60 _ hV
  replace hS10 := hS100.now hV
  refine Zk 35 (v := .int .i64 (k : Nat)) (by exact hj17) ?_
  have hbx := hcb _ (getD_in (show i < c.length by omega))
  refine Zs ?_
  refine Zn rfl (run_lss rfl rfl rfl) ?_
  refine r_seq ?_
  refine r_cond rfl (fun hc18 => ?_) (fun hc18 => ?_)
  ·skip
   refine r_skip ?_
   refine r_seq ?_
   refine r_block ?_
   refine Zs ?_
   refine Zo rfl (mvI rfl) ?_
   refine Zo rfl (run_ix (k) rfl Tryz.underlying108 ty_112 rfl rfl (by first | exact rfl | omega) (by omega) (hR6.addr (i := k) (by omega))) ?_
   have hA190 := fun (w' : World) (h : Evo w0 w' []) => (hR60 w' h).atD (k) (by omega)
   have hA19 := hA190 _ hV
   refine Zo rfl (run_ldN rfl ag_112 ty_112 rfl rfl hA19) ?_
   refine r_alloc (zs := [_, _]) ty_112 rfl rfl ?_
   intro b20 w21 J20 E21 B20 Y20
   have Q21 := E21.size
   replace hV := Z0 hV E21
   replace hAb7 := hAb7.evo0 E21
   replace hA19 := hA190 _ hV
   refine Zo rfl (asI rfl) ?_
   refine r_store (v := .agg _) (vs := [_, _]) (cs' := [_, _]) rfl rfl B20 ty_112 rfl rfl rfl rfl rfl ?_
   intro w22 E22 V22 hb_new
   have Q22 := E22.size
   replace hV := Z1 hV E22 (by first | exact .inl (by omega) | exact .inr (by simp))
   replace hR6 := hR60 _ hV
   replace hAb7 := hAb7.evo E22 (by simp; omega)
   replace B20 := hb_new
   clear hb_new
   refine r_nil ?_
   refine r_seq ?_
   have hbk := hbx.2.1 _ (getD_in (show k < (c.getD i default).ends.length by omega))
   refine r_qregion (by kernel_rfl) (by kernel_rfl) ?_
   refine q_op rfl rfl rfl (fun w' hC => run_fa rfl rfl fo_110_1) ?_
   refine q_op rfl rfl rfl (fun w' hC => run_ld1 rfl ag_108 rfl ((hAb7.evo0 hC).cell 1 rfl)) ?_
   refine Zq rfl (fun _ _ => mvI rfl) ?_
   refine q_op rfl rfl rfl (fun w' hC => run_slE (0) (k) rfl Tryz.underlying108 ty_112 rfl (hR6.evo0 hC) lo0 (at1 rfl (by omega)) (by first | omega | (simp; omega)) (by first | omega | (simp; omega)) List.drop_zero) ?_
   have hS230 := fun (w' : World) (h : Evo w0 w' []) => (by have h9 := ((hR60 w' h).take (k)).drop (0); rw [List.drop_zero] at h9; exact h9)
   have hS23 := (by have h9 := (hR6.take (k)).drop (0); rw [List.drop_zero] at h9; exact h9)
   have hbd_hS23 := hS23.bd
   refine q_op rfl rfl rfl (fun w' hC => run_ldN rfl ag_112 ty_112 rfl rfl (B20.at.evo0 hC)) ?_
   refine q_call rfl rfl rfl (fun w' hC => run_callf rfl (argcons (v := .slice _ _ _) rfl (argcons (v := .agg _) rfl (rfl))) Tryz.func95 rfl (by kernel_rfl)) (fun w' hC => (ending_calls (hS23.evo0 hC) (Nat.le_trans hbk.1 (by decide)) (Nat.le_trans hbk.2 (by decide))).mono (fun e w'' h => ⟨h.1, evo_step0 hC h.2⟩)) ?_
   refine Zq rfl (fun _ _ => asI rfl) ?_
   refine q_nil (fun w24 hE25 => ?_)
   have Q24 := hE25.size
   replace hV := Z0 hV hE25
   replace hc := hc0.now hV
   replace hR6 := hR60 _ hV
   replace hAb7 := hAb7.evo0 hE25
   refine Zs ?_
   refine Zo rfl (mvI rfl) ?_
   refine Zn rfl (run_neq rfl rfl rfl) ?_
   refine r_cond rfl (fun hc26 => ?_) (fun hc26 => ?_)
   ·skip
    refine Zs ?_
    refine Zo rfl (mvI rfl) ?_
    refine Zn rfl (asI rfl) ?_
    refine r_ret (res1 (v := .int _ _) rfl rfl) ?_
    exact ⟨ret_int (by rw [valid_at (by omega) hno ((cls_ends (Classical.not_not.1 (by assumption)) (by omega)).trans (ends_err hnk hc26 (by omega))) hc26 (by omega)]), hV⟩
   refine r_skip ?_
   refine r_blk ?_
   refine r_region ?_
   refine Zo rfl (run_add rfl rfl rfl (by omega) (by omega)) ?_
   refine Zn rfl (mvI rfl) ?_
   refine r_again (k + 1) ?_ ?_ ?_
   ·first | omega | (dsimp only; omega)
   ·refine ⟨(by first | exact rfl | exact congrArg (Value.int _) (by omega) | exact congrArg (Value.int _) (by dsimp only; omega) | exact congrArg (Value.int _) (by simp) | exact congrArg S (by simp)), (by first | assumption | omega | (dsimp only; omega) | (simp; done)), hAb7, (upto0 hnk (Classical.not_not.1 hc26)), (by first | assumption | omega | (dsimp only; omega) | (simp; done)), hV⟩
   repeat (first | (with_reducible exact Agree.merge _ _ _) | (with_reducible exact Agree.refl _ _) | (with_reducible refine Agree.upd ?_ _ _ rfl) | ((with_reducible refine Agree.inner ?_ ?_); (kernel_rfl)))
  refine r_exit rfl ?_
  refine r_blk ?_
  refine r_region ?_
  refine Zo rfl (run_add rfl rfl rfl (by omega) (by omega)) ?_
  refine Zn rfl (mvI rfl) ?_
  refine r_again (i + 1) ?_ ?_ ?_
  ·first | omega | (dsimp only; omega)
  ·refine ⟨(by first | exact rfl | exact congrArg (Value.int _) (by omega) | exact congrArg (Value.int _) (by dsimp only; omega) | exact congrArg (Value.int _) (by simp) | exact congrArg S (by simp)), (by first | assumption | omega | (dsimp only; omega) | (simp; done)), (upto0 hno ((cls_ends (Classical.not_not.1 (by assumption)) (by omega)).trans (ends_ok hnk (by omega)))), (by first | assumption | omega | (dsimp only; omega) | (simp; done)), hV⟩
  repeat (first | (with_reducible exact Agree.merge _ _ _) | (with_reducible exact Agree.refl _ _) | (with_reducible refine Agree.upd ?_ _ _ rfl) | ((with_reducible refine Agree.inner ?_ ?_); (kernel_rfl)))
 refine r_exit rfl ?_
 refine Zs ?_
 refine Zn rfl (asI rfl) ?_
 refine r_ret (res1 (v := .int _ _) rfl rfl) ?_
 exact ⟨ret_int (by rw [valid_ok (by omega) hno (by omega)]), hV⟩
theorem rvalidate_calls {ao : Option Addr} {b off cap : Nat} {c : List Clas} {w0 : World} (hc : RowR w0 ao b off cap c) :
    Calls Tryz.prog 55 #[.slice ao c.length cap] w0 fun e w' => e = .returned (.int .i64 (validC c)) ∧ Evo w0 w' [] := by
 have hcb := clas_bd hc
 refine calls_enter (n := 51) Tryz.func55 rfl Tryz.ntmps55 rfl ?_
 have hV : Evo w0 w0 [] := Evo.refl _ _
 have hc0 := hc.keep
 have hbd_hc := hc.bd
 refine Zs ?_
 refine Zn rfl (asI rfl) ?_
 refine r_seq ?_
 refine Zs ?_
 refine Zo rfl (mvS rfl) ?_
 refine Zo rfl (run_lenSl rfl rfl Tryz.underlying26) ?_
 refine Zn rfl (run_gtr rfl rfl rfl) ?_
 refine r_cond rfl (fun hc1 => ?_) (fun hc1 => ?_)
 ·skip
  refine Zs ?_
  refine Zn rfl (asI rfl) ?_
  refine r_ret (res1 (v := .int _ _) rfl rfl) ?_
  exact ⟨ret_int (by unfold validC; rw [if_pos (by omega)]), hV⟩
 refine r_skip ?_
 refine r_seq ?_
 refine Zs ?_
 refine Zo rfl (mvS rfl) ?_
 refine Zo rfl (run_lenSl rfl rfl Tryz.underlying26) ?_
 refine Zn rfl (mvI rfl) ?_
 refine r_block ?_
 refine r_loop (α := Nat) [2, 3, 4, 5, 6, 7, 8, 14, 15, 16, 17, 18, 19, 20, 21, 22, 23, 24, 25, 26, 27, 28, 29, 30, 31, 32, 33, 34, 35, 36, 37, 38, 39, 40, 41, 42, 43, 44, 45, 46, 47, 48, 49, 50] (fun i g w => g 14 = .int .i64 (i : Nat) ∧ i ≤ c.length ∧ (∀ j, j < i → classErr c j = 0) ∧ w0.heap.size ≤ w.heap.size ∧ Evo w0 w []) (fun i => c.length - i) 0 ?_ ?_
 ·refine ⟨(by first | exact rfl | exact congrArg (Value.int _) (by omega) | exact congrArg (Value.int _) (by dsimp only; omega) | exact congrArg (Value.int _) (by simp) | exact congrArg S (by simp)), (by first | assumption | omega | (dsimp only; omega) | (simp; done)), (fun j h => by omega), (by first | assumption | omega | (dsimp only; omega) | (simp; done)), hV⟩
 rintro i g w3 ⟨hj4, hk_i, hno, hzl2, hV⟩
 have hs_w3hV := hV.size
 replace hc := hc0.now hV
 refine Zk 14 (v := .int .i64 (i : Nat)) (by exact hj4) ?_
 refine Zs ?_
 refine Zn rfl (run_lss rfl rfl rfl) ?_
 refine r_seq ?_
 refine r_cond rfl (fun hc5 => ?_) (fun hc5 => ?_)
 ·skip
  refine r_skip ?_
  refine r_seq ?_
  refine r_block ?_
  refine Zs ?_
  refine Zo rfl (mvI rfl) ?_
  refine Zo rfl (run_ix (i) rfl Tryz.underlying26 ty_110 rfl rfl (by first | exact rfl | omega) (by omega) (hc.addr (i := i) (by omega))) ?_
  obtain ⟨ao6, b6, off6, cap6, hX⟩ := clas_atK hc0 (i) (by omega)
  have hA60 := fun (w' : World) (h : Evo w0 w' []) => (hX w' h).1
  have hA6 := hA60 _ hV
  have hR60 := fun (w' : World) (h : Evo w0 w' []) => (hX w' h).2
  have hR6 := hR60 _ hV
  clear hX
  have hbd_hR6 := hR6.bd
  refine Zo rfl (run_ldN rfl ag_110 ty_110 rfl rfl hA6) ?_
  refine r_alloc (zs := [_, _]) ty_110 rfl rfl ?_
  intro b7 w8 J7 E8 B7 Y7
  have Q8 := E8.size
  replace hV := Z0 hV E8
  replace hA6 := hA60 _ hV
  have hAb7 := B7.at
  refine Zo rfl (asI rfl) ?_
  refine r_store (v := .agg _) (vs := [_, _]) (cs' := [_, _]) rfl rfl B7 ty_110 rfl rfl rfl rfl rfl ?_
  intro w9 E9 V9 hb_new
  have Q9 := E9.size
  replace hV := Z1 hV E9 (by first | exact .inl (by omega) | exact .inr (by simp))
  replace hc := hc0.now hV
  replace B7 := hb_new
  have hAb7 := B7.at
  clear hb_new
  refine r_nil ?_
  refine r_seq ?_
  refine r_seq ?_
  refine r_qregion (by kernel_rfl) (by kernel_rfl) ?_
  refine Zq rfl (fun _ _ => mvS rfl) ?_
  refine Zq rfl (fun _ _ => mvI rfl) ?_
  refine q_op rfl rfl rfl (fun w' hC => run_slR (0) (i) rfl Tryz.underlying26 ty_110 rfl (hc.evo0 hC) lo0 (at1 rfl (by omega)) (by first | omega | (simp; omega)) (by first | omega | (simp; omega)) List.drop_zero) ?_
  have hS100 := (by have h9 := (hc0.take (i)).drop (0); rw [List.drop_zero] at h9; exact h9)
  have hS10 := (by have h9 := (hc.take (i)).drop (0); rw [List.drop_zero] at h9; exact h9)
  have hbd_hS10 := hS10.bd
  refine q_op rfl rfl rfl (fun w' hC => run_fa rfl rfl fo_110_0) ?_
  refine q_op rfl rfl rfl (fun w' hC => run_ld1 rfl ag_9 rfl ((hAb7.evo0 hC).cell 0 rfl)) ?_
  refine q_call rfl rfl rfl (fun w' hC => run_callf rfl (argcons (v := .slice _ _ _) rfl (argcons (v := S _) rfl (rfl))) Tryz.func99 rfl (by kernel_rfl)) (fun w' hC => (rnamed_calls (hS10.evo0 hC)).mono (fun e w'' h => ⟨h.1, evo_step0 hC h.2⟩)) ?_
  refine Zq rfl (fun _ _ => asI rfl) ?_
  refine q_nil (fun w11 hE12 => ?_)
  have Q11 := hE12.size
  replace hV := Z0 hV hE12
  replace hc := hc0.now hV
  replace hR6 := hR60 _ hV
  replace B7 := B7.evo0 hE12
  replace hAb7 := hAb7.evo0 hE12
  refine Zs ?_
  refine Zo rfl (mvI rfl) ?_
  refine Zn rfl (run_neq rfl rfl rfl) ?_
  refine r_cond rfl (fun hc13 => ?_) (fun hc13 => ?_)
  ·skip
   refine Zs ?_
   refine Zo rfl (mvI rfl) ?_
   refine Zn rfl (asI rfl) ?_
   refine r_ret (res1 (v := .int _ _) rfl rfl) ?_
   exact ⟨ret_int (by rw [valid_at (by omega) hno (cls_named hc13) hc13 (by omega)]), hV⟩
  refine r_skip ?_
  refine r_seq ?_
  refine Zs ?_
  refine Zo rfl (run_fa rfl rfl fo_110_1) ?_
  refine Zo rfl (run_ld1 rfl ag_108 rfl (hAb7.cell 1 rfl)) ?_
  refine Zo rfl (run_lenSl rfl rfl Tryz.underlying108) ?_
  refine Zn rfl (run_gtr rfl rfl rfl) ?_
  refine r_cond rfl (fun hc14 => ?_) (fun hc14 => ?_)
  ·skip
   refine Zs ?_
   refine Zn rfl (asI rfl) ?_
   refine r_ret (res1 (v := .int _ _) rfl rfl) ?_
   exact ⟨ret_int (by rw [valid_at (by omega) hno (cls_many (Classical.not_not.1 (by assumption)) (by omega)) (by decide) (by omega)]), hV⟩
  refine r_skip ?_
  refine Zs ?_
  refine Zo rfl (run_fa rfl rfl fo_110_1) ?_
  refine Zo rfl (run_ld1 rfl ag_108 rfl (hAb7.cell 1 rfl)) ?_
  refine Zo rfl (run_lenSl rfl rfl Tryz.underlying108) ?_
  refine Zn rfl (mvI rfl) ?_
  refine r_block ?_
  refine r_loop (α := Nat) [2, 6, 7, 8, 35, 36, 37, 38, 39, 40, 41, 42, 43, 44, 45, 46, 47, 48, 49] (fun k g w => g 35 = .int .i64 (k : Nat) ∧ k ≤ (c.getD i default).ends.length ∧ At w b7 0 [S (c.getD i default).name, .slice ao6 (c.getD i default).ends.length cap6] ∧ (∀ j, j < k → endedL ((c.getD i default).ends.take j) ((c.getD i default).ends.getD j default) = 0) ∧ w11.heap.size ≤ w.heap.size ∧ Evo w0 w []) (fun k => (c.getD i default).ends.length - k) 0 ?_ ?_
  ·refine ⟨(by first | exact rfl | exact congrArg (Value.int _) (by omega) | exact congrArg (Value.int _) (by dsimp only; omega) | exact congrArg (Value.int _) (by simp) | exact congrArg S (by simp)), (by first | assumption | omega | (dsimp only; omega) | (simp; done)), hAb7, (fun j h => by omega), (by first | assumption | omega | (dsimp only; omega) | (simp; done)), hV⟩
  rintro k g w16 ⟨hj17, hk_k, hAb7, hnk, hzl15, hV⟩
  have hs_w16hV := hV.size
  replace hc := hc0.now hV
  replace hA6 := hA60 _ hV
  replace hR6 := hR60 _ hV
  replace hS10 := hS100.now hV
  refine Zk 35 (v := .int .i64 (k : Nat)) (by exact hj17) ?_
  have hbx := hcb _ (getD_in (show i < c.length by omega))
  refine Zs ?_
  refine Zn rfl (run_lss rfl rfl rfl) ?_
  refine r_seq ?_
  refine r_cond rfl (fun hc18 => ?_) (fun hc18 => ?_)
  ·skip
   refine r_skip ?_
   refine r_seq ?_
   refine r_block ?_
   refine Zs ?_
   refine Zo rfl (mvI rfl) ?_
   refine Zo rfl (run_ix (k) rfl Tryz.underlying108 ty_112 rfl rfl (by first | exact rfl | omega) (by omega) (hR6.addr (i := k) (by omega))) ?_
   have hA190 := fun (w' : World) (h : Evo w0 w' []) => (hR60 w' h).atD (k) (by omega)
   have hA19 := hA190 _ hV
   refine Zo rfl (run_ldN rfl ag_112 ty_112 rfl rfl hA19) ?_
   refine r_alloc (zs := [_, _]) ty_112 rfl rfl ?_
   intro b20 w21 J20 E21 B20 Y20
   have Q21 := E21.size
   replace hV := Z0 hV E21
   replace hAb7 := hAb7.evo0 E21
   replace hA19 := hA190 _ hV
   refine Zo rfl (asI rfl) ?_
   refine r_store (v := .agg _) (vs := [_, _]) (cs' := [_, _]) rfl rfl B20 ty_112 rfl rfl rfl rfl rfl ?_
   intro w22 E22 V22 hb_new
   have Q22 := E22.size
   replace hV := Z1 hV E22 (by first | exact .inl (by omega) | exact .inr (by simp))
   replace hR6 := hR60 _ hV
   replace hAb7 := hAb7.evo E22 (by simp; omega)
   replace B20 := hb_new
   clear hb_new
   refine r_nil ?_
   refine r_seq ?_
   have hbk := hbx.2.1 _ (getD_in (show k < (c.getD i default).ends.length by omega))
   refine r_qregion (by kernel_rfl) (by kernel_rfl) ?_
   refine q_op rfl rfl rfl (fun w' hC => run_fa rfl rfl fo_110_1) ?_
   refine q_op rfl rfl rfl (fun w' hC => run_ld1 rfl ag_108 rfl ((hAb7.evo0 hC).cell 1 rfl)) ?_
   refine Zq rfl (fun _ _ => mvI rfl) ?_
   refine q_op rfl rfl rfl (fun w' hC => run_slE (0) (k) rfl Tryz.underlying108 ty_112 rfl (hR6.evo0 hC) lo0 (at1 rfl (by omega)) (by first | omega | (simp; omega)) (by first | omega | (simp; omega)) List.drop_zero) ?_
   have hS230 := fun (w' : World) (h : Evo w0 w' []) => (by have h9 := ((hR60 w' h).take (k)).drop (0); rw [List.drop_zero] at h9; exact h9)
   have hS23 := (by have h9 := (hR6.take (k)).drop (0); rw [List.drop_zero] at h9; exact h9)
   have hbd_hS23 := hS23.bd
   refine q_op rfl rfl rfl (fun w' hC => run_ldN rfl ag_112 ty_112 rfl rfl (B20.at.evo0 hC)) ?_
   refine q_call rfl rfl rfl (fun w' hC => run_callf rfl (argcons (v := .slice _ _ _) rfl (argcons (v := .agg _) rfl (rfl))) Tryz.func100 rfl (by kernel_rfl)) (fun w' hC => (rended_calls (hS23.evo0 hC) (Nat.le_trans hbk.1 (by decide)) (Nat.le_trans hbk.2 (by decide))).mono (fun e w'' h => ⟨h.1, evo_step0 hC h.2⟩)) ?_
   refine Zq rfl (fun _ _ => asI rfl) ?_
   refine q_nil (fun w24 hE25 => ?_)
   have Q24 := hE25.size
   replace hV := Z0 hV hE25
   replace hc := hc0.now hV
   replace hR6 := hR60 _ hV
   replace hAb7 := hAb7.evo0 hE25
   refine Zs ?_
   refine Zo rfl (mvI rfl) ?_
   refine Zn rfl (run_neq rfl rfl rfl) ?_
   refine r_cond rfl (fun hc26 => ?_) (fun hc26 => ?_)
   ·skip
    refine Zs ?_
    refine Zo rfl (mvI rfl) ?_
    refine Zn rfl (asI rfl) ?_
    refine r_ret (res1 (v := .int _ _) rfl rfl) ?_
    exact ⟨ret_int (by rw [valid_at (by omega) hno ((cls_ends (Classical.not_not.1 (by assumption)) (by omega)).trans (ends_err hnk hc26 (by omega))) hc26 (by omega)]), hV⟩
   refine r_skip ?_
   refine r_blk ?_
   refine r_region ?_
   refine Zo rfl (run_add rfl rfl rfl (by omega) (by omega)) ?_
   refine Zn rfl (mvI rfl) ?_
   refine r_again (k + 1) ?_ ?_ ?_
   ·first | omega | (dsimp only; omega)
   ·refine ⟨(by first | exact rfl | exact congrArg (Value.int _) (by omega) | exact congrArg (Value.int _) (by dsimp only; omega) | exact congrArg (Value.int _) (by simp) | exact congrArg S (by simp)), (by first | assumption | omega | (dsimp only; omega) | (simp; done)), hAb7, (upto0 hnk (Classical.not_not.1 hc26)), (by first | assumption | omega | (dsimp only; omega) | (simp; done)), hV⟩
   repeat (first | (with_reducible exact Agree.merge _ _ _) | (with_reducible exact Agree.refl _ _) | (with_reducible refine Agree.upd ?_ _ _ rfl) | ((with_reducible refine Agree.inner ?_ ?_); (kernel_rfl)))
  refine r_exit rfl ?_
  refine r_blk ?_
  refine r_region ?_
  refine Zo rfl (run_add rfl rfl rfl (by omega) (by omega)) ?_
  refine Zn rfl (mvI rfl) ?_
  refine r_again (i + 1) ?_ ?_ ?_
  ·first | omega | (dsimp only; omega)
  ·refine ⟨(by first | exact rfl | exact congrArg (Value.int _) (by omega) | exact congrArg (Value.int _) (by dsimp only; omega) | exact congrArg (Value.int _) (by simp) | exact congrArg S (by simp)), (by first | assumption | omega | (dsimp only; omega) | (simp; done)), (upto0 hno ((cls_ends (Classical.not_not.1 (by assumption)) (by omega)).trans (ends_ok hnk (by omega)))), (by first | assumption | omega | (dsimp only; omega) | (simp; done)), hV⟩
  repeat (first | (with_reducible exact Agree.merge _ _ _) | (with_reducible exact Agree.refl _ _) | (with_reducible refine Agree.upd ?_ _ _ rfl) | ((with_reducible refine Agree.inner ?_ ?_); (kernel_rfl)))
 refine r_exit rfl ?_
 refine Zs ?_
 refine Zn rfl (asI rfl) ?_
 refine r_ret (res1 (v := .int _ _) rfl rfl) ?_
 exact ⟨ret_int (by rw [valid_ok (by omega) hno (by omega)]), hV⟩
end Go.Proofs.YtlfjocbnbceceaaGreatDoor
namespace Go.Vc
open Go Go.RowKit Go.IntWalk
section
variable {α : Type} [Rep α] {w w' : World} {base : Nat} {E : TypeId} {Y : List Nat} {v : Value} {l : List α}
theorem own_step {X : List Nat} {v' : Value} (hE0 : Evo w w' v.ownBlock.toList) (hloc : v'.ownBlock = v.ownBlock ∨ ∃ g, v'.ownBlock = some g ∧ w.heap.size ≤ g) (w'' : World) (he2 : Evo w' w'' (X ++ v'.ownBlock.toList)) : Evo w w'' (X ++ v.ownBlock.toList) :=
  Evo.trans (hE0.weaken (fun x hx => .inl (List.mem_append_right _ hx))) he2 (fun x hx hlt => by
    rcases List.mem_append.1 hx with h4 | h4
    · exact List.mem_append_left _ h4
    · have h5 : v'.ownBlock = some x := by simpa using h4
      rcases hloc with h6 | ⟨g, h6, h7⟩
      · exact List.mem_append_right _ (by rw [← h6]; exact h4)
      · rw [h5] at h6; injection h6 with h6; omega)
end
section
variable {P : Program} {B : Exit → Act → World → Prop} {n : Nat} {k : List Kont} {f : Fr} {w : World} {ops : Array Oper} {rest : List Oper}
theorem r_appendR {α : Type} [Rep α] {base : Nat} {E : TypeId} {Y : List Nat} {v : Value} {l : List α} {T d bb m : Nat} {t : TypeId} {pos : String} {aft : Array Edge} {x y : Operand} {z : Value} {ao : Option Addr} {b off cap len : Nat} {l' : List α} {E' : List Nat} {w1 : World}
    (hd : Nat.blt d n = true) (hu : P.underlying T = some (.slice E)) (ht : tyP P E = some (m, bb, some z)) (hm : (m == Rep.n α && z.cells.size == Rep.n α) = true) (hone : ∀ (w : World) cs (x : α), Rep.rep w cs x → oneCells cs = true)
    (hown : OwnR w base E Y v l) (hx : opv f x = v) (hy : opv f y = .slice ao len cap) (hr : RowRK w1 E' ao b off cap l') (hw1 : ∀ w'', Evo w w'' (Y ++ v.ownBlock.toList) → Evo w1 w'' E') (hl : len = l'.length)
    (hbytes : (l.length + l'.length) * bb ≤ 140737488355328) (hlen : l.length + l'.length ≤ 140737488355328) (hbase : base ≤ w.heap.size)
    (h : ∀ v' w', Evo w w' v.ownBlock.toList → OwnR w' base E Y v' (l ++ l') → (v'.ownBlock = v.ownBlock ∨ v'.ownBlock = some w.heap.size) → KL P B n ops k rest (upd f d v') w') :
    KL P B n ops k (⟨some d, .call ⟨.builtin .append, #[x, y], #[T, T]⟩, t, pos, aft, none⟩ :: rest) f w := by
  simp only [Bool.and_eq_true, beq_iff_eq] at hm
  obtain ⟨rfl, h2⟩ := hm
  obtain ⟨css, ho, hL⟩ := hown
  obtain ⟨css2, hr2⟩ := hr
  have h0 := hr2 w (hw1 w (Evo.refl _ _))
  have e1 := (hL w (Evo.refl _ _)).1
  have e2 := h0.2.1
  refine r_append (news := css2) hd hu ht h2 Rep.pos ho hx hy h0.1 (by rw [e2]; exact hl) (fun cs hcs => ?_) (by rw [e1, e2]; exact hbytes) (by rw [e1, e2]; exact hlen) hbase ?_
  · obtain ⟨i, hi⟩ := List.getElem?_of_mem hcs
    have hi2 : i < l'.length := by rw [← e2]; exact (List.getElem?_eq_some_iff.1 hi).1
    exact hone w cs l'[i] (h0.2.2 i cs _ hi (by simp [hi2]))
  intro v' w' he ho' hloc
  refine h v' w' he ⟨_, ho', fun w'' he2 => ?_⟩ hloc
  have h5 := own_step (X := Y) he (hloc.imp_right fun h => ⟨_, h, Nat.le_refl _⟩) w'' he2
  exact (hL w'' h5).append (hr2 w'' (hw1 w'' h5)).2
end
def jnL (inner : UInt8 → Bool) (a b : UInt8) : Str → Nat
  | [] => 0
  | c :: t => if inner c = true then 1 + jnL inner a b t else if c = a ∨ c = b then (match t with
      | [] => 0
      | d :: t' => if inner d = true then 2 + jnL inner a b t' else 0) else 0
theorem jnL_len (inner : UInt8 → Bool) (a b : UInt8) : ∀ s : Str, jnL inner a b s ≤ s.length
  | [] => Nat.le_refl _
  | [c] => by
    unfold jnL
    split
    · simp [jnL]
    · split <;> simp
  | c :: d :: t => by
    have h1 := jnL_len inner a b (d :: t)
    have h2 := jnL_len inner a b t
    unfold jnL
    simp only [List.length_cons] at *
    split
    · omega
    · split
      · split <;> omega
      · omega
theorem drop_two {s : Str} {n : Nat} (h : n + 1 < s.length) : s.drop n = s.getD n default :: s.getD (n + 1) default :: s.drop (n + 2) := by
  rw [List.drop_eq_getElem_cons (by omega), List.drop_eq_getElem_cons h]
  simp [List.getD, h, Nat.lt_of_succ_lt h]
theorem drop_one {s : Str} {n : Nat} (h : n < s.length) : s.drop n = s.getD n default :: s.drop (n + 1) := by
  rw [List.drop_eq_getElem_cons h]; simp [List.getD, h]
section
variable {inner : UInt8 → Bool} {a b : UInt8} {s : Str} {n : Nat}
theorem jn_end (h : s.length ≤ n) : jnL inner a b (s.drop n) = 0 := by rw [List.drop_eq_nil_of_le h]; rfl
theorem jn_in (h : n < s.length) (hi : inner (s.getD n default) = true) : jnL inner a b (s.drop n) = 1 + jnL inner a b (s.drop (n + 1)) := by
  rw [drop_one h]; conv => lhs; unfold jnL
  rw [if_pos hi]
theorem jn_two (h : n + 1 < s.length) (hi : ¬ inner (s.getD n default) = true) (hj : s.getD n default = a ∨ s.getD n default = b) (h2 : inner (s.getD (n + 1) default) = true) : jnL inner a b (s.drop n) = 2 + jnL inner a b (s.drop (n + 2)) := by
  rw [drop_two h]; conv => lhs; unfold jnL
  rw [if_neg hi, if_pos hj]
  dsimp only
  rw [if_pos h2]
theorem jn_no (h : n < s.length) (hi : ¬ inner (s.getD n default) = true) (hj : ¬ (s.getD n default = a ∨ s.getD n default = b) ∨ ¬ n + 1 < s.length ∨ ¬ inner (s.getD (n + 1) default) = true) : jnL inner a b (s.drop n) = 0 := by
  by_cases h1 : n + 1 < s.length
  · rw [drop_two h1]; unfold jnL
    rw [if_neg hi]
    split
    · rename_i h3
      dsimp only
      rw [if_neg (by rcases hj with h | h | h
                     · exact absurd h3 h
                     · exact absurd h1 h
                     · exact h)]
    · rfl
  · rw [drop_one h, List.drop_eq_nil_of_le (by omega)]; unfold jnL
    rw [if_neg hi]
    split <;> rfl
end
def blL : Str → Nat
  | [] => 0
  | c :: t => if clsB c = 2 then 1 + blL t else 0
theorem blL_len : ∀ s : Str, blL s ≤ s.length
  | [] => Nat.le_refl _
  | c :: t => by
    have h1 := blL_len t
    unfold blL
    simp only [List.length_cons]
    split <;> omega
theorem bl_end {s : Str} {n : Nat} (h : s.length ≤ n) : blL (s.drop n) = 0 := by rw [List.drop_eq_nil_of_le h]; rfl
theorem bl_yes {s : Str} {n : Nat} (h : n < s.length) (hc : clsB (s.getD n default) = 2) : blL (s.drop n) = 1 + blL (s.drop (n + 1)) := by
  rw [drop_one h]; conv => lhs; unfold blL
  rw [if_pos hc]
theorem bl_no {s : Str} {n : Nat} (h : n < s.length) (hc : ¬ clsB (s.getD n default) = 2) : blL (s.drop n) = 0 := by
  rw [drop_one h]; unfold blL; rw [if_neg hc]
def wdB (c : UInt8) : Bool := decide (clsB c = 4) || decide (clsB c = 3)
def dgtB (c : UInt8) : Bool := decide (clsB c = 3)
def tokN (s : Str) : Int × Nat :=
  if clsB (s.getD 0 default) = 4 then (6, 1 + jnL wdB 39 45 (s.drop 1))
  else if clsB (s.getD 0 default) = 3 then (7, 1 + jnL dgtB 46 44 (s.drop 1))
  else if clsB (s.getD 0 default) = 2 then (8, 1 + blL (s.drop 1))
  else (9, 1)
theorem tokN_pos (s : Str) : 1 ≤ (tokN s).2 := by
  unfold tokN
  repeat' split
  all_goals (dsimp only; omega)
theorem tokN_len {s : Str} (h : s ≠ []) : (tokN s).2 ≤ s.length := by
  have h0 : 0 < s.length := List.length_pos_iff.2 h
  have h1 := jnL_len wdB 39 45 (s.drop 1)
  have h2 := jnL_len dgtB 46 44 (s.drop 1)
  have h3 := blL_len (s.drop 1)
  rw [List.length_drop] at h1 h2 h3
  unfold tokN
  repeat' split
  all_goals (dsimp only; omega)
def cutT (s : Str) : List Item :=
  if h : s = [] then [] else ⟨(tokN s).1, s.take (tokN s).2, 0⟩ :: cutT (s.drop (tokN s).2)
termination_by s.length
decreasing_by
  have h1 := tokN_pos s
  have h2 : 0 < s.length := List.length_pos_iff.2 h
  rw [List.length_drop]; omega
theorem cutT_nil : cutT [] = [] := by unfold cutT; simp
theorem cutT_cons {s : Str} (h : s ≠ []) : cutT s = ⟨(tokN s).1, s.take (tokN s).2, 0⟩ :: cutT (s.drop (tokN s).2) := by
  conv => lhs; unfold cutT
  rw [dif_neg h]
theorem cutT_len : ∀ (n : Nat) (s : Str), s.length = n → (cutT s).length ≤ s.length := by
  intro n
  induction n using Nat.strongRecOn with
  | ind n ih =>
    intro s hs
    by_cases h : s = []
    · subst h; rw [cutT_nil]; simp
    · have h1 := tokN_pos s
      have h2 : 0 < s.length := List.length_pos_iff.2 h
      rw [cutT_cons h]
      have h3 := ih _ (by rw [← hs]; show (s.drop (tokN s).2).length < s.length; rw [List.length_drop]; omega) (s.drop (tokN s).2) rfl
      rw [List.length_drop] at h3
      rw [List.length_cons]; omega
def tokI (x : Item) : List Item := if x.kind = 1 then cutT x.text else if 2 ≤ x.kind ∧ x.kind ≤ 5 then [x] else []
def toks (f : List Item) : List Item := f.flatMap tokI
theorem toks_succ {f : List Item} {k : Nat} (h : k < f.length) : toks (f.take (k + 1)) = toks (f.take k) ++ tokI (f.getD k default) := by
  unfold toks; rw [take_succD f k h]; simp
def fLen (f : List Item) : Nat := (f.map (fun x => x.text.length)).sum
theorem toks_len : ∀ f : List Item, (toks f).length ≤ fLen f + f.length
  | [] => by simp [toks]
  | x :: f => by
    have h1 := toks_len f
    have h2 : (tokI x).length ≤ x.text.length + 1 := by
      unfold tokI
      split
      · have := cutT_len _ x.text rfl; omega
      · split <;> simp
    have e : toks (x :: f) = tokI x ++ toks f := by simp [toks]
    rw [e, List.length_append, List.length_cons]
    simp only [fLen, List.map_cons, List.sum_cons] at *
    omega
end Go.Vc
namespace Go.Proofs.YtlfjocbnbceceaaGreatDoor
open Go.RowKit Go.Vc
theorem u8i {c d : UInt8} : ((c.toNat : Nat) : Int) = ((d.toNat : Nat) : Int) ↔ c = d := ⟨fun h => UInt8.toNat_inj.1 (by omega), fun h => by rw [h]⟩
theorem wd_iff {c : UInt8} : wdB c = true ↔ (clsB c = 4 ∨ clsB c = 3) := by unfold wdB; simp
section
variable {inner : UInt8 → Bool} {a b : UInt8} {s : Str} {n : Nat}
theorem jn_twoC (hi : inner (s.getD n 0) = false) (hc : (((((s.getD n 0).toNat : Nat) : Int) = (((([a, b] : Str).getD 0 0).toNat : Nat) : Int) ∨ (((s.getD n 0).toNat : Nat) : Int) = (((([a, b] : Str).getD 1 0).toNat : Nat) : Int)) ∧ (n : Int) + 1 < (s.length : Int)) ∧ inner (s.getD (n + 1) 0) = true) :
    jnL inner a b (s.drop n) = 2 + jnL inner a b (s.drop (n + 2)) :=
  jn_two (by omega) (by show ¬ inner (s.getD n 0) = true; rw [hi]; simp) (hc.1.1.imp u8i.1 u8i.1) hc.2
theorem jn_noC (hn : n < s.length) (hi : inner (s.getD n 0) = false) (hc : ¬ ((((((s.getD n 0).toNat : Nat) : Int) = (((([a, b] : Str).getD 0 0).toNat : Nat) : Int) ∨ (((s.getD n 0).toNat : Nat) : Int) = (((([a, b] : Str).getD 1 0).toNat : Nat) : Int)) ∧ (n : Int) + 1 < (s.length : Int)) ∧ inner (s.getD (n + 1) 0) = true)) :
    jnL inner a b (s.drop n) = 0 := by
  refine jn_no hn (by show ¬ inner (s.getD n 0) = true; rw [hi]; simp) ?_
  by_cases h1 : s.getD n 0 = a ∨ s.getD n 0 = b
  · by_cases h2 : n + 1 < s.length
    · exact .inr (.inr fun h3 => hc ⟨⟨h1.imp u8i.2 u8i.2, by omega⟩, h3⟩)
    · exact .inr (.inl h2)
  · exact .inl h1
end
theorem wordly_calls {c : UInt8} {w0 : World}  :
    Calls Tryz.prog 150 #[.int .u8 ((c.toNat : Nat) : Int)] w0 fun e w' => e = .returned (.bool (wdB c)) ∧ Evo w0 w' [] := by
 refine calls_enter (n := 12) Tryz.func150 rfl Tryz.ntmps150 rfl ?_
 have hV : Evo w0 w0 [] := Evo.refl _ _
 refine Zs ?_
 refine Zn rfl (asB rfl) ?_
 refine Zs ?_
 refine Zo rfl (mvI rfl) ?_
 refine r_opcall rfl rfl rfl (run_callf (vs := [.int _ _]) rfl (by exact rfl) Tryz.func143 rfl (by kernel_rfl)) of_calls ?_
 rintro e w1 ⟨rfl, hE1⟩
 refine ⟨_, rfl, ?_⟩
 have Q1 := hE1.size
 replace hV := Z0 hV hE1
 refine Zn rfl (asI rfl) ?_
 refine Zs ?_
 refine Zo rfl (mvI rfl) ?_
 refine Zo rfl (run_eql rfl rfl rfl) ?_
 refine Zo rfl (mvB rfl) ?_
 refine r_g rfl (wantF rfl) rfl (fun hg => run_mv (v := .int _ _) rfl rfl) ?_
 refine r_g rfl (wantF rfl) rfl (fun hg => run_eql rfl (glv rfl (fun h => h) hg) rfl) ?_
 refine Zo rfl (run_pick_or rfl rfl rfl (fun hq => glv rfl (fun h => h) hq)) ?_
 refine Zn rfl (asB rfl) ?_
 refine r_ret (res1 (v := .bool _) rfl rfl) ?_
 exact ⟨ret_bool (by rw [Bool.eq_iff_iff, decide_eq_true_iff, wd_iff]), hV⟩
theorem digit_calls {c : UInt8} {w0 : World}  :
    Calls Tryz.prog 151 #[.int .u8 ((c.toNat : Nat) : Int)] w0 fun e w' => e = .returned (.bool (dgtB c)) ∧ Evo w0 w' [] := by
 refine calls_enter (n := 6) Tryz.func151 rfl Tryz.ntmps151 rfl ?_
 have hV : Evo w0 w0 [] := Evo.refl _ _
 refine Zs ?_
 refine Zn rfl (asB rfl) ?_
 refine Zs ?_
 refine Zo rfl (mvI rfl) ?_
 refine r_opcall rfl rfl rfl (run_callf (vs := [.int _ _]) rfl (by exact rfl) Tryz.func143 rfl (by kernel_rfl)) of_calls ?_
 rintro e w1 ⟨rfl, hE1⟩
 refine ⟨_, rfl, ?_⟩
 have Q1 := hE1.size
 replace hV := Z0 hV hE1
 refine Zo rfl (run_eql rfl rfl rfl) ?_
 refine Zn rfl (asB rfl) ?_
 refine r_ret (res1 (v := .bool _) rfl rfl) ?_
 exact ⟨rfl, hV⟩
theorem joinedW_calls {s : Str} {w0 : World} (hs : s.length ≤ 140737488355328) (hs1 : 1 ≤ s.length) :
    Calls Tryz.prog 149 #[S s, S [39, 45], .func (.func 150) #[] #[]] w0 fun e w' => e = .returned (.int .i64 ((1 + jnL wdB 39 45 (s.drop 1) : Nat) : Int)) ∧ Evo w0 w' [] := by
 refine calls_enter (n := 54) Tryz.func149 rfl Tryz.ntmps149 rfl ?_
 have hV : Evo w0 w0 [] := Evo.refl _ _
 refine Zs ?_
 refine Zn rfl (asI rfl) ?_
 refine Zs ?_
 refine Zn rfl (asI rfl) ?_
 refine r_seq ?_
 refine r_block ?_
 refine r_loop (α := Nat) [6, 7, 8, 9, 10, 11, 12, 13, 14, 15, 16, 17, 18, 19, 20, 21, 22, 23, 24, 25, 26, 27, 28, 29, 30, 31, 32, 33, 34, 35, 36, 37, 38, 39, 40, 41, 42, 43, 44, 45, 46, 47, 48, 49, 50, 51, 52] (fun n g w => g 7 = .int .i64 (n : Nat) ∧ (1 ≤ n ∧ n ≤ s.length) ∧ n + jnL wdB 39 45 (s.drop n) = 1 + jnL wdB 39 45 (s.drop 1) ∧ w0.heap.size ≤ w.heap.size ∧ Evo w0 w []) (fun n => s.length - n) 1 ?_ ?_
 ·refine ⟨rfl, (by first | assumption | omega | (dsimp only; omega) | (simp; done)), (by first | assumption | omega | (dsimp only; omega) | (simp; done)), (by first | assumption | omega | (dsimp only; omega) | (simp; done)), hV⟩
 rintro n g w2 ⟨hj3, hn1, hj, hzl1, hV⟩
 have hs_w2hV := hV.size
 refine Zk 7 (v := .int .i64 (n : Nat)) (by exact hj3) ?_
 refine r_seq ?_
 refine Zs ?_
 refine Zo rfl (mvI rfl) ?_
 refine Zo rfl (mvT rfl) ?_
 refine Zo rfl (run_lenS rfl rfl Tryz.underlying9) ?_
 refine Zn rfl (run_lss rfl rfl rfl) ?_
 refine r_cond rfl (fun hc4 => ?_) (fun hc4 => ?_)
 ·skip
  refine r_skip ?_
  refine r_block ?_
  refine r_block ?_
  refine Zs ?_
  refine Zo rfl (run_mv (v := .func _ _ _) rfl rfl) ?_
  refine Zo rfl (mvT rfl) ?_
  refine Zo rfl (mvI rfl) ?_
  refine Zo rfl (run_ixS (n) rfl Tryz.underlying9 rfl rfl (by first | exact rfl | omega) (by omega)) ?_
  refine r_opcall rfl rfl rfl (run_callfn (vs := [.int _ _]) (cs := []) rfl (by exact rfl) rfl Tryz.func150 rfl (by kernel_rfl)) wordly_calls ?_
  rintro e w5 ⟨rfl, hE5⟩
  refine ⟨_, rfl, ?_⟩
  have Q5 := hE5.size
  replace hV := Z0 hV hE5
  refine Zn rfl (asB rfl) ?_
  refine r_condb rfl (fun hc6 => ?_) (fun hc6 => ?_)
  ·skip
   refine r_region ?_
   refine Zo rfl (mvI rfl) ?_
   refine Zo rfl (run_add rfl rfl rfl (by omega) (by omega)) ?_
   refine r_knowL (i := 20) (v := .int .i64 ((n + 1 : Nat) : Int)) (congrArg (Value.int _) (by omega)) ?_
   refine Zn rfl (asI rfl) ?_
   refine r_blk ?_
   refine r_blk ?_
   refine r_again (n + 1) ?_ ?_ ?_
   ·first | omega | (dsimp only; omega)
   ·refine ⟨rfl, (by first | assumption | omega | (dsimp only; omega) | (simp; done)), (by first | (have h8 := jn_in (a := 39) (b := 45) (s := s) (n := n) (by omega) hc6; omega) | (have h8 := jn_twoC (a := 39) (b := 45) (inner := wdB) (s := s) (n := n) (by assumption) hc6; omega)), (by first | assumption | omega | (dsimp only; omega) | (simp; done)), hV⟩
   repeat (first | (with_reducible exact Agree.merge _ _ _) | (with_reducible exact Agree.refl _ _) | (with_reducible refine Agree.upd ?_ _ _ rfl) | ((with_reducible refine Agree.inner ?_ ?_); (kernel_rfl)))
  refine r_seq ?_
  refine r_qregion (by kernel_rfl) (by kernel_rfl) ?_
  refine Zq rfl (fun _ _ => mvT rfl) ?_
  refine Zq rfl (fun _ _ => mvI rfl) ?_
  refine q_op rfl rfl rfl (fun w' hC => run_ixS (n) rfl Tryz.underlying9 rfl rfl (by first | exact rfl | omega) (by omega)) ?_
  refine Zq rfl (fun _ _ => mvT rfl) ?_
  refine q_op rfl rfl rfl (fun w' hC => run_ixS (0) rfl Tryz.underlying9 rfl rfl (by first | exact rfl | omega) (by decide)) ?_
  refine q_op rfl rfl rfl (fun w' hC => run_eql rfl rfl rfl) ?_
  refine Zq rfl (fun _ _ => mvB rfl) ?_
  refine q_g rfl (wantF rfl) rfl (fun hg w' hC => run_mv (v := S _) rfl rfl) ?_
  refine q_g rfl (wantF rfl) rfl (fun hg w' hC => run_mv (v := .int _ _) rfl rfl) ?_
  refine q_g rfl (wantF rfl) rfl (fun hg w' hC => run_ixS (n) rfl Tryz.underlying9 (glv rfl (fun h => h) hg) (glv rfl (fun h => h) hg) (by first | exact rfl | omega) (by omega)) ?_
  refine q_g rfl (wantF rfl) rfl (fun hg w' hC => run_mv (v := S _) rfl rfl) ?_
  refine q_g rfl (wantF rfl) rfl (fun hg w' hC => run_ixS (1) rfl Tryz.underlying9 (glv rfl (fun h => h) hg) rfl (by first | exact rfl | omega) (by decide)) ?_
  refine q_g rfl (wantF rfl) rfl (fun hg w' hC => run_eql rfl (glv rfl (fun h => h) hg) (glv rfl (fun h => h) hg)) ?_
  refine q_op rfl rfl rfl (fun w' hC => run_pick_or rfl rfl rfl (fun hq => glv rfl (fun h => h) hq)) ?_
  refine Zq rfl (fun _ _ => mvB rfl) ?_
  refine q_g rfl (wantT rfl) rfl (fun hg w' hC => run_mv (v := .int _ _) rfl rfl) ?_
  refine q_g rfl (wantT rfl) rfl (fun hg w' hC => run_add rfl (glv rfl (fun h => h) hg) rfl (by omega) (by omega)) ?_
  refine q_g rfl (wantT rfl) rfl (fun hg w' hC => run_mv (v := S _) rfl rfl) ?_
  refine q_g rfl (wantT rfl) rfl (fun hg w' hC => run_lenS rfl (glv rfl (fun h => h) hg) Tryz.underlying9) ?_
  refine q_g rfl (wantT rfl) rfl (fun hg w' hC => run_lss rfl (glv rfl (fun h => h) hg) (glv rfl (fun h => h) hg)) ?_
  refine q_op rfl rfl rfl (fun w' hC => run_pick_and rfl rfl (fun hq => glv rfl (fun h => h) hq) rfl) ?_
  refine Zq rfl (fun _ _ => mvB rfl) ?_
  refine q_g rfl (wantT rfl) rfl (fun hg w' hC => run_mv (v := .func _ _ _) rfl rfl) ?_
  refine q_g rfl (wantT rfl) rfl (fun hg w' hC => run_mv (v := S _) rfl rfl) ?_
  refine q_g rfl (wantT rfl) rfl (fun hg w' hC => run_mv (v := .int _ _) rfl rfl) ?_
  refine q_g rfl (wantT rfl) rfl (fun hg w' hC => run_add rfl (glv rfl (fun h => h) hg) rfl (by omega) (by omega)) ?_
  refine q_g rfl (wantT rfl) rfl (fun hg w' hC => run_ixS ((n + 1)) rfl Tryz.underlying9 (glv rfl (fun h => h) hg) (glv rfl (fun h => h) hg) (by omega) (by omega)) ?_
  refine q_gcall rfl (wantT rfl) rfl (fun hg w' hC => run_callfn (cs := []) rfl (glv rfl (fun h => h) hg) (argcons (v := .int _ _) (glv rfl (fun h => h) hg) (rfl)) Tryz.func150 rfl (by kernel_rfl)) (fun hg w' hC => (wordly_calls ).mono (fun e w'' h => ⟨h.1, evo_step0 hC h.2⟩)) ?_
  refine q_op rfl rfl rfl (fun w' hC => run_pick_andB rfl rfl (fun hq => glv rfl (fun h => h) hq) rfl) ?_
  refine Zq rfl (fun _ _ => asB rfl) ?_
  refine q_nil (fun w7 hE8 => ?_)
  have Q7 := hE8.size
  replace hV := Z0 hV hE8
  refine r_cond rfl (fun hc9 => ?_) (fun hc9 => ?_)
  ·skip
   refine r_region ?_
   refine Zo rfl (mvI rfl) ?_
   refine Zo rfl (run_add rfl rfl rfl (by omega) (by omega)) ?_
   refine r_knowL (i := 52) (v := .int .i64 ((n + 2 : Nat) : Int)) (congrArg (Value.int _) (by omega)) ?_
   refine Zn rfl (asI rfl) ?_
   refine r_blk ?_
   refine r_blk ?_
   refine r_again (n + 2) ?_ ?_ ?_
   ·first | omega | (dsimp only; omega)
   ·refine ⟨rfl, (by first | assumption | omega | (dsimp only; omega) | (simp; done)), (by first | (have h8 := jn_in (a := 39) (b := 45) (s := s) (n := n) (by omega) hc9; omega) | (have h8 := jn_twoC (a := 39) (b := 45) (inner := wdB) (s := s) (n := n) (by assumption) hc9; omega)), (by first | assumption | omega | (dsimp only; omega) | (simp; done)), hV⟩
   repeat (first | (with_reducible exact Agree.merge _ _ _) | (with_reducible exact Agree.refl _ _) | (with_reducible refine Agree.upd ?_ _ _ rfl) | ((with_reducible refine Agree.inner ?_ ?_); (kernel_rfl)))
  refine Zs ?_
  refine Zo rfl (mvI rfl) ?_
  refine Zn rfl (asI rfl) ?_
  refine r_ret (res1 (v := .int _ _) rfl rfl) ?_
  exact ⟨ret_int (by have h8 := jn_noC (a := 39) (b := 45) (inner := wdB) (s := s) (n := n) (by omega) (by assumption) hc9; omega), hV⟩
 refine r_exit rfl ?_
 refine Zs ?_
 refine Zo rfl (mvI rfl) ?_
 refine Zn rfl (asI rfl) ?_
 refine r_ret (res1 (v := .int _ _) rfl rfl) ?_
 exact ⟨ret_int (by have h8 := jn_end (a := 39) (b := 45) (inner := wdB) (s := s) (n := n) (by omega); omega), hV⟩
theorem joinedD_calls {s : Str} {w0 : World} (hs : s.length ≤ 140737488355328) (hs1 : 1 ≤ s.length) :
    Calls Tryz.prog 149 #[S s, S [46, 44], .func (.func 151) #[] #[]] w0 fun e w' => e = .returned (.int .i64 ((1 + jnL dgtB 46 44 (s.drop 1) : Nat) : Int)) ∧ Evo w0 w' [] := by
 refine calls_enter (n := 54) Tryz.func149 rfl Tryz.ntmps149 rfl ?_
 have hV : Evo w0 w0 [] := Evo.refl _ _
 refine Zs ?_
 refine Zn rfl (asI rfl) ?_
 refine Zs ?_
 refine Zn rfl (asI rfl) ?_
 refine r_seq ?_
 refine r_block ?_
 refine r_loop (α := Nat) [6, 7, 8, 9, 10, 11, 12, 13, 14, 15, 16, 17, 18, 19, 20, 21, 22, 23, 24, 25, 26, 27, 28, 29, 30, 31, 32, 33, 34, 35, 36, 37, 38, 39, 40, 41, 42, 43, 44, 45, 46, 47, 48, 49, 50, 51, 52] (fun n g w => g 7 = .int .i64 (n : Nat) ∧ (1 ≤ n ∧ n ≤ s.length) ∧ n + jnL dgtB 46 44 (s.drop n) = 1 + jnL dgtB 46 44 (s.drop 1) ∧ w0.heap.size ≤ w.heap.size ∧ Evo w0 w []) (fun n => s.length - n) 1 ?_ ?_
 ·refine ⟨rfl, (by first | assumption | omega | (dsimp only; omega) | (simp; done)), (by first | assumption | omega | (dsimp only; omega) | (simp; done)), (by first | assumption | omega | (dsimp only; omega) | (simp; done)), hV⟩
 rintro n g w2 ⟨hj3, hn1, hj, hzl1, hV⟩
 have hs_w2hV := hV.size
 refine Zk 7 (v := .int .i64 (n : Nat)) (by exact hj3) ?_
 refine r_seq ?_
 refine Zs ?_
 refine Zo rfl (mvI rfl) ?_
 refine Zo rfl (mvT rfl) ?_
 refine Zo rfl (run_lenS rfl rfl Tryz.underlying9) ?_
 refine Zn rfl (run_lss rfl rfl rfl) ?_
 refine r_cond rfl (fun hc4 => ?_) (fun hc4 => ?_)
 ·skip
  refine r_skip ?_
  refine r_block ?_
  refine r_block ?_
  refine Zs ?_
  refine Zo rfl (run_mv (v := .func _ _ _) rfl rfl) ?_
  refine Zo rfl (mvT rfl) ?_
  refine Zo rfl (mvI rfl) ?_
  refine Zo rfl (run_ixS (n) rfl Tryz.underlying9 rfl rfl (by first | exact rfl | omega) (by omega)) ?_
  refine r_opcall rfl rfl rfl (run_callfn (vs := [.int _ _]) (cs := []) rfl (by exact rfl) rfl Tryz.func151 rfl (by kernel_rfl)) digit_calls ?_
  rintro e w5 ⟨rfl, hE5⟩
  refine ⟨_, rfl, ?_⟩
  have Q5 := hE5.size
  replace hV := Z0 hV hE5
  refine Zn rfl (asB rfl) ?_
  refine r_condb rfl (fun hc6 => ?_) (fun hc6 => ?_)
  ·skip
   refine r_region ?_
   refine Zo rfl (mvI rfl) ?_
   refine Zo rfl (run_add rfl rfl rfl (by omega) (by omega)) ?_
   refine r_knowL (i := 20) (v := .int .i64 ((n + 1 : Nat) : Int)) (congrArg (Value.int _) (by omega)) ?_
   refine Zn rfl (asI rfl) ?_
   refine r_blk ?_
   refine r_blk ?_
   refine r_again (n + 1) ?_ ?_ ?_
   ·first | omega | (dsimp only; omega)
   ·refine ⟨rfl, (by first | assumption | omega | (dsimp only; omega) | (simp; done)), (by first | (have h8 := jn_in (a := 46) (b := 44) (s := s) (n := n) (by omega) hc6; omega) | (have h8 := jn_twoC (a := 46) (b := 44) (inner := dgtB) (s := s) (n := n) (by assumption) hc6; omega)), (by first | assumption | omega | (dsimp only; omega) | (simp; done)), hV⟩
   repeat (first | (with_reducible exact Agree.merge _ _ _) | (with_reducible exact Agree.refl _ _) | (with_reducible refine Agree.upd ?_ _ _ rfl) | ((with_reducible refine Agree.inner ?_ ?_); (kernel_rfl)))
  refine r_seq ?_
  refine r_qregion (by kernel_rfl) (by kernel_rfl) ?_
  refine Zq rfl (fun _ _ => mvT rfl) ?_
  refine Zq rfl (fun _ _ => mvI rfl) ?_
  refine q_op rfl rfl rfl (fun w' hC => run_ixS (n) rfl Tryz.underlying9 rfl rfl (by first | exact rfl | omega) (by omega)) ?_
  refine Zq rfl (fun _ _ => mvT rfl) ?_
  refine q_op rfl rfl rfl (fun w' hC => run_ixS (0) rfl Tryz.underlying9 rfl rfl (by first | exact rfl | omega) (by decide)) ?_
  refine q_op rfl rfl rfl (fun w' hC => run_eql rfl rfl rfl) ?_
  refine Zq rfl (fun _ _ => mvB rfl) ?_
  refine q_g rfl (wantF rfl) rfl (fun hg w' hC => run_mv (v := S _) rfl rfl) ?_
  refine q_g rfl (wantF rfl) rfl (fun hg w' hC => run_mv (v := .int _ _) rfl rfl) ?_
  refine q_g rfl (wantF rfl) rfl (fun hg w' hC => run_ixS (n) rfl Tryz.underlying9 (glv rfl (fun h => h) hg) (glv rfl (fun h => h) hg) (by first | exact rfl | omega) (by omega)) ?_
  refine q_g rfl (wantF rfl) rfl (fun hg w' hC => run_mv (v := S _) rfl rfl) ?_
  refine q_g rfl (wantF rfl) rfl (fun hg w' hC => run_ixS (1) rfl Tryz.underlying9 (glv rfl (fun h => h) hg) rfl (by first | exact rfl | omega) (by decide)) ?_
  refine q_g rfl (wantF rfl) rfl (fun hg w' hC => run_eql rfl (glv rfl (fun h => h) hg) (glv rfl (fun h => h) hg)) ?_
  refine q_op rfl rfl rfl (fun w' hC => run_pick_or rfl rfl rfl (fun hq => glv rfl (fun h => h) hq)) ?_
  refine Zq rfl (fun _ _ => mvB rfl) ?_
  refine q_g rfl (wantT rfl) rfl (fun hg w' hC => run_mv (v := .int _ _) rfl rfl) ?_
  refine q_g rfl (wantT rfl) rfl (fun hg w' hC => run_add rfl (glv rfl (fun h => h) hg) rfl (by omega) (by omega)) ?_
  refine q_g rfl (wantT rfl) rfl (fun hg w' hC => run_mv (v := S _) rfl rfl) ?_
  refine q_g rfl (wantT rfl) rfl (fun hg w' hC => run_lenS rfl (glv rfl (fun h => h) hg) Tryz.underlying9) ?_
  refine q_g rfl (wantT rfl) rfl (fun hg w' hC => run_lss rfl (glv rfl (fun h => h) hg) (glv rfl (fun h => h) hg)) ?_
  refine q_op rfl rfl rfl (fun w' hC => run_pick_and rfl rfl (fun hq => glv rfl (fun h => h) hq) rfl) ?_
  refine Zq rfl (fun _ _ => mvB rfl) ?_
  refine q_g rfl (wantT rfl) rfl (fun hg w' hC => run_mv (v := .func _ _ _) rfl rfl) ?_
  refine q_g rfl (wantT rfl) rfl (fun hg w' hC => run_mv (v := S _) rfl rfl) ?_
  refine q_g rfl (wantT rfl) rfl (fun hg w' hC => run_mv (v := .int _ _) rfl rfl) ?_
  refine q_g rfl (wantT rfl) rfl (fun hg w' hC => run_add rfl (glv rfl (fun h => h) hg) rfl (by omega) (by omega)) ?_
  refine q_g rfl (wantT rfl) rfl (fun hg w' hC => run_ixS ((n + 1)) rfl Tryz.underlying9 (glv rfl (fun h => h) hg) (glv rfl (fun h => h) hg) (by omega) (by omega)) ?_
  refine q_gcall rfl (wantT rfl) rfl (fun hg w' hC => run_callfn (cs := []) rfl (glv rfl (fun h => h) hg) (argcons (v := .int _ _) (glv rfl (fun h => h) hg) (rfl)) Tryz.func151 rfl (by kernel_rfl)) (fun hg w' hC => (digit_calls ).mono (fun e w'' h => ⟨h.1, evo_step0 hC h.2⟩)) ?_
  refine q_op rfl rfl rfl (fun w' hC => run_pick_andB rfl rfl (fun hq => glv rfl (fun h => h) hq) rfl) ?_
  refine Zq rfl (fun _ _ => asB rfl) ?_
  refine q_nil (fun w7 hE8 => ?_)
  have Q7 := hE8.size
  replace hV := Z0 hV hE8
  refine r_cond rfl (fun hc9 => ?_) (fun hc9 => ?_)
  ·skip
   refine r_region ?_
   refine Zo rfl (mvI rfl) ?_
   refine Zo rfl (run_add rfl rfl rfl (by omega) (by omega)) ?_
   refine r_knowL (i := 52) (v := .int .i64 ((n + 2 : Nat) : Int)) (congrArg (Value.int _) (by omega)) ?_
   refine Zn rfl (asI rfl) ?_
   refine r_blk ?_
   refine r_blk ?_
   refine r_again (n + 2) ?_ ?_ ?_
   ·first | omega | (dsimp only; omega)
   ·refine ⟨rfl, (by first | assumption | omega | (dsimp only; omega) | (simp; done)), (by first | (have h8 := jn_in (a := 46) (b := 44) (s := s) (n := n) (by omega) hc9; omega) | (have h8 := jn_twoC (a := 46) (b := 44) (inner := dgtB) (s := s) (n := n) (by assumption) hc9; omega)), (by first | assumption | omega | (dsimp only; omega) | (simp; done)), hV⟩
   repeat (first | (with_reducible exact Agree.merge _ _ _) | (with_reducible exact Agree.refl _ _) | (with_reducible refine Agree.upd ?_ _ _ rfl) | ((with_reducible refine Agree.inner ?_ ?_); (kernel_rfl)))
  refine Zs ?_
  refine Zo rfl (mvI rfl) ?_
  refine Zn rfl (asI rfl) ?_
  refine r_ret (res1 (v := .int _ _) rfl rfl) ?_
  exact ⟨ret_int (by have h8 := jn_noC (a := 46) (b := 44) (inner := dgtB) (s := s) (n := n) (by omega) (by assumption) hc9; omega), hV⟩
 refine r_exit rfl ?_
 refine Zs ?_
 refine Zo rfl (mvI rfl) ?_
 refine Zn rfl (asI rfl) ?_
 refine r_ret (res1 (v := .int _ _) rfl rfl) ?_
 exact ⟨ret_int (by have h8 := jn_end (a := 46) (b := 44) (inner := dgtB) (s := s) (n := n) (by omega); omega), hV⟩
theorem tokN_word {s : Str} (h : clsB (s.getD 0 default) = 4) : tokN s = (6, 1 + jnL wdB 39 45 (s.drop 1)) := by unfold tokN; rw [if_pos h]
theorem tokN_num {s : Str} (h : ¬ clsB (s.getD 0 default) = 4) (h2 : clsB (s.getD 0 default) = 3) : tokN s = (7, 1 + jnL dgtB 46 44 (s.drop 1)) := by unfold tokN; rw [if_neg h, if_pos h2]
theorem tokN_blank {s : Str} (h : ¬ clsB (s.getD 0 default) = 4) (h2 : ¬ clsB (s.getD 0 default) = 3) (h3 : clsB (s.getD 0 default) = 2) : tokN s = (8, 1 + blL (s.drop 1)) := by unfold tokN; rw [if_neg h, if_neg h2, if_pos h3]
theorem tokN_sign {s : Str} (h : ¬ clsB (s.getD 0 default) = 4) (h2 : ¬ clsB (s.getD 0 default) = 3) (h3 : ¬ clsB (s.getD 0 default) = 2) : tokN s = (9, 1) := by unfold tokN; rw [if_neg h, if_neg h2, if_neg h3]
theorem bl_noC {s : Str} {k : Nat} (hk : k ≤ s.length) (h : ¬ ((k : Int) < (s.length : Int) ∧ clsB (s.getD k 0) = 2)) : blL (s.drop k) = 0 := by
  by_cases h1 : k < s.length
  · exact bl_no h1 (fun h2 => h ⟨by omega, h2⟩)
  · exact bl_end (by omega)
theorem ret_tok {p : Int × Nat} {a : Int} {b : Nat} (h : p = (a, b)) : Ending.returned (.tuple #[.int .i64 a, .int .i64 ((b : Nat) : Int)]) = .returned (.tuple #[.int .i64 p.1, .int .i64 ((p.2 : Nat) : Int)]) := by rw [h]
theorem tnext_calls {s : Str} {w0 : World} (hs : s.length ≤ 140737488355328) (hs1 : 1 ≤ s.length) :
    Calls Tryz.prog 102 #[S s] w0 fun e w' => e = .returned (.tuple #[.int .i64 (tokN s).1, .int .i64 (((tokN s).2 : Nat) : Int)]) ∧ Evo w0 w' [] := by
 refine calls_enter (n := 32) Tryz.func102 rfl Tryz.ntmps102 rfl ?_
 have hV : Evo w0 w0 [] := Evo.refl _ _
 refine Zs ?_
 refine Zo rfl (asI rfl) ?_
 refine Zn rfl (asI rfl) ?_
 refine r_seq ?_
 refine Zs ?_
 refine Zo rfl (mvT rfl) ?_
 refine Zo rfl (run_ixS (0) rfl Tryz.underlying9 rfl rfl (by first | exact rfl | omega) (by omega)) ?_
 refine r_opcall rfl rfl rfl (run_callf (vs := [.int _ _]) rfl (by exact rfl) Tryz.func143 rfl (by kernel_rfl)) of_calls ?_
 rintro e w1 ⟨rfl, hE1⟩
 refine ⟨_, rfl, ?_⟩
 have Q1 := hE1.size
 replace hV := Z0 hV hE1
 refine r_nil ?_
 refine r_block ?_
 refine Zs ?_
 refine Zo rfl (run_eql rfl rfl rfl) ?_
 refine Zn rfl (asB rfl) ?_
 refine r_cond rfl (fun hc2 => ?_) (fun hc2 => ?_)
 ·skip
  refine Zs ?_
  refine Zo rfl (mvT rfl) ?_
  refine r_opcall rfl rfl rfl (run_callf (vs := [S _, S _, .func _ _ _]) rfl (by exact rfl) Tryz.func149 rfl (by kernel_rfl)) (id (joinedW_calls (s := s) (by omega) (by omega))) ?_
  rintro e w3 ⟨rfl, hE3⟩
  refine ⟨_, rfl, ?_⟩
  have Q3 := hE3.size
  replace hV := Z0 hV hE3
  refine Zo rfl (asI rfl) ?_
  refine Zn rfl (asI rfl) ?_
  refine r_ret (res2 (v := .int _ _) (u := .int _ _) rfl rfl rfl) ?_
  exact ⟨ret_tok (tokN_word hc2), hV⟩
 refine Zs ?_
 refine Zo rfl (run_eql rfl rfl rfl) ?_
 refine Zn rfl (asB rfl) ?_
 refine r_cond rfl (fun hc4 => ?_) (fun hc4 => ?_)
 ·skip
  refine Zs ?_
  refine Zo rfl (mvT rfl) ?_
  refine r_opcall rfl rfl rfl (run_callf (vs := [S _, S _, .func _ _ _]) rfl (by exact rfl) Tryz.func149 rfl (by kernel_rfl)) (id (joinedD_calls (s := s) (by omega) (by omega))) ?_
  rintro e w5 ⟨rfl, hE5⟩
  refine ⟨_, rfl, ?_⟩
  have Q5 := hE5.size
  replace hV := Z0 hV hE5
  refine Zo rfl (asI rfl) ?_
  refine Zn rfl (asI rfl) ?_
  refine r_ret (res2 (v := .int _ _) (u := .int _ _) rfl rfl rfl) ?_
  exact ⟨ret_tok (tokN_num (by assumption) hc4), hV⟩
 refine Zs ?_
 refine Zo rfl (run_eql rfl rfl rfl) ?_
 refine Zn rfl (asB rfl) ?_
 refine r_cond rfl (fun hc6 => ?_) (fun hc6 => ?_)
 ·skip
  refine Zs ?_
  refine Zn rfl (asI rfl) ?_
  refine r_seq ?_
  refine r_block ?_
  refine r_loop (α := Nat) [4, 18, 19, 20, 21, 22, 23, 24, 25, 26, 27, 28, 29, 30] (fun k g w => g 4 = .int .i64 (k : Nat) ∧ (1 ≤ k ∧ k ≤ s.length) ∧ k + blL (s.drop k) = 1 + blL (s.drop 1) ∧ w1.heap.size ≤ w.heap.size ∧ Evo w0 w []) (fun k => s.length - k) 1 ?_ ?_
  ·refine ⟨rfl, (by first | assumption | omega | (dsimp only; omega) | (simp; done)), (by first | assumption | omega | (dsimp only; omega) | (simp; done)), (by first | assumption | omega | (dsimp only; omega) | (simp; done)), hV⟩
  rintro k g w8 ⟨hj9, hk1, hb, hzl7, hV⟩
  have hs_w8hV := hV.size
  refine Zk 4 (v := .int .i64 (k : Nat)) (by exact hj9) ?_
  refine r_seq ?_
  refine Zs ?_
  refine Zo rfl (mvI rfl) ?_
  refine Zo rfl (mvT rfl) ?_
  refine Zo rfl (run_lenS rfl rfl Tryz.underlying9) ?_
  refine Zo rfl (run_lss rfl rfl rfl) ?_
  refine Zo rfl (mvB rfl) ?_
  refine r_g rfl (wantT rfl) rfl (fun hg => run_mv (v := S _) rfl rfl) ?_
  refine r_g rfl (wantT rfl) rfl (fun hg => run_mv (v := .int _ _) rfl rfl) ?_
  refine r_g rfl (wantT rfl) rfl (fun hg => run_ixS (k) rfl Tryz.underlying9 (glv rfl (fun h => h) hg) (glv rfl (fun h => h) hg) (by first | exact rfl | omega) (by omega)) ?_
  refine r_gcall rfl (wantT rfl) rfl (fun hg => run_callf rfl (argcons (v := .int _ _) (glv rfl (fun h => h) hg) (rfl)) Tryz.func143 rfl (by kernel_rfl)) (fun hg => (of_calls ).mono (fun e w' h => ⟨h.1, h.2⟩)) (fun w10 hE11 => ?_)
  have Q10 := hE11.size
  replace hV := Z0 hV hE11
  refine r_g rfl (wantT rfl) rfl (fun hg => run_eql rfl (glv rfl (fun h => h) hg) rfl) ?_
  refine Zn rfl (run_pick_and rfl rfl (fun hq => glv rfl (fun h => h) hq) rfl) ?_
  refine r_cond rfl (fun hc12 => ?_) (fun hc12 => ?_)
  ·skip
   refine r_skip ?_
   refine r_block ?_
   refine r_region ?_
   refine Zo rfl (mvI rfl) ?_
   refine Zo rfl (run_add rfl rfl rfl (by omega) (by omega)) ?_
   refine Zn rfl (asI rfl) ?_
   refine r_blk ?_
   refine r_again (k + 1) ?_ ?_ ?_
   ·first | omega | (dsimp only; omega)
   ·refine ⟨(by first | exact rfl | exact congrArg (Value.int _) (by omega) | exact congrArg (Value.int _) (by dsimp only; omega) | exact congrArg (Value.int _) (by simp) | exact congrArg S (by simp)), (by first | assumption | omega | (dsimp only; omega) | (simp; done)), (by have h8 := bl_yes (s := s) (n := k) (by omega) hc12.2; omega), (by first | assumption | omega | (dsimp only; omega) | (simp; done)), hV⟩
   repeat (first | (with_reducible exact Agree.merge _ _ _) | (with_reducible exact Agree.refl _ _) | (with_reducible refine Agree.upd ?_ _ _ rfl) | ((with_reducible refine Agree.inner ?_ ?_); (kernel_rfl)))
  refine r_exit rfl ?_
  refine Zs ?_
  refine Zo rfl (mvI rfl) ?_
  refine Zo rfl (asI rfl) ?_
  refine Zn rfl (asI rfl) ?_
  refine r_ret (res2 (v := .int _ _) (u := .int _ _) rfl rfl rfl) ?_
  exact ⟨ret_tok (by rw [tokN_blank (by assumption) (by assumption) (by assumption)]; have h8 := bl_noC (s := s) (k := k) (by omega) hc12; congr 1; omega), hV⟩
 refine r_skip ?_
 refine r_blk ?_
 refine Zs ?_
 refine Zo rfl (asI rfl) ?_
 refine Zn rfl (asI rfl) ?_
 refine r_ret (res2 (v := .int _ _) (u := .int _ _) rfl rfl rfl) ?_
 exact ⟨ret_tok (tokN_sign (by assumption) (by assumption) (by assumption)), hV⟩
theorem ag_32 : aggP Tryz.prog 32 = some true := by kernel_rfl
theorem fo_32_0 : fieldP Tryz.prog 32 0 = some 0 := by kernel_rfl
theorem fo_32_1 : fieldP Tryz.prog 32 1 = some 1 := by kernel_rfl
theorem fo_32_2 : fieldP Tryz.prog 32 2 = some 2 := by kernel_rfl
theorem pl_96 : placesP Tryz.prog 96 = some [(0, 1), (1, 1), (2, 1)] := by kernel_rfl
theorem ty_32 : tyP Tryz.prog 32 = some (3, 32, some (.agg #[(.int .i64 0), (.string ⟨#[]⟩), (.int .i64 0)])) := by kernel_rfl
theorem ty_96 : tyP Tryz.prog 96 = some (3, 32, some (.agg #[(.int .i64 0), (.string ⟨#[]⟩), (.int .i64 0)])) := by kernel_rfl
theorem cut_step {r : Str} {l L : List Vc.Item} {p : Int × Nat} (hp : tokN r = p) (hacc : l ++ cutT r = L) (hr : ¬ r = []) : (l ++ [⟨p.1, r.take p.2, 0⟩]) ++ cutT (r.drop p.2) = L := by
  rw [cutT_cons hr, hp] at hacc
  rw [List.append_assoc]; exact hacc
theorem fLen_at : ∀ (f : List Vc.Item) (k : Nat), (f.getD k default).text.length ≤ fLen f
  | [], k => by show ([] : Str).length ≤ _; exact Nat.zero_le _
  | x :: f, 0 => by simp [fLen]
  | x :: f, k + 1 => by
    have := fLen_at f k
    simp only [fLen, List.map_cons, List.sum_cons, List.getD_cons_succ] at *
    omega
theorem fLen_take : ∀ (f : List Vc.Item) (k : Nat), fLen (f.take k) ≤ fLen f
  | [], k => by simp
  | x :: f, 0 => by simp [fLen]
  | x :: f, k + 1 => by
    have := fLen_take f k
    simp only [fLen, List.take_succ_cons, List.map_cons, List.sum_cons] at *
    omega
theorem fLen_snoc (f : List Vc.Item) (k : Nat) (h : k < f.length) : fLen (f.take k) + (f.getD k default).text.length ≤ fLen f := by
  have h1 := fLen_take f (k + 1)
  rw [take_succD f k h] at h1
  simpa [fLen] using h1
theorem tokI_text {x : Vc.Item} (h : x.kind = 1) : tokI x = cutT x.text := if_pos h
theorem tokI_tag {x : Vc.Item} (h : x.kind = 2 ∨ x.kind = 3 ∨ x.kind = 4 ∨ x.kind = 5) : tokI x = [x] := by unfold tokI; rw [if_neg (by omega), if_pos (by omega)]
theorem tokI_none {x : Vc.Item} (h : ¬ x.kind = 1) (h2 : ¬ x.kind = 2) (h3 : ¬ x.kind = 3) (h4 : ¬ x.kind = 4) (h5 : ¬ x.kind = 5) : tokI x = [] := by unfold tokI; rw [if_neg h, if_neg (by omega)]
theorem cut_bd (s : Str) : (cutT s).length ≤ s.length := cutT_len _ s rfl
theorem len_pos {r : Str} (h : ¬ r = []) : 0 < r.length := List.length_pos_iff.2 h
theorem tokens_calls {ao : Option Addr} {b off cap : Nat} {f : List Vc.Item} {w0 : World} (hf : RowE w0 ao b off cap f) (hz : fLen f + f.length ≤ 1000000000) :
    Calls Tryz.prog 59 #[.slice ao f.length cap] w0 fun e w' => ∃ v, e = .returned v ∧ Evo w0 w' [] ∧ OwnE w' w0.heap.size 96 v (toks f) := by
 refine calls_enter (n := 50) Tryz.func59 rfl Tryz.ntmps59 rfl ?_
 have hV : Evo w0 w0 [] := Evo.refl _ _
 have hf0 := keepE hf
 have hbd_hf := hf.bd
 refine Zs ?_
 refine Zn rfl (asS rfl) ?_
 refine Zs ?_
 refine Zn rfl (asS rfl) ?_
 refine r_seq ?_
 refine Zs ?_
 refine Zo rfl (mvS rfl) ?_
 refine Zo rfl (run_lenSl rfl rfl Tryz.underlying33) ?_
 refine Zn rfl (mvI rfl) ?_
 refine r_block ?_
 refine r_loop (α := Nat) [3, 5, 6, 7, 8, 11, 12, 13, 14, 15, 16, 17, 18, 19, 20, 21, 22, 23, 24, 25, 26, 27, 28, 29, 30, 31, 32, 33, 34, 35, 36, 37, 38, 39, 40, 41, 42, 43, 44, 45, 46, 47, 48] (fun k g w => ∃ vo : Value, g 11 = .int .i64 (k : Nat) ∧ g 3 = vo ∧ k ≤ f.length ∧ OwnE w w0.heap.size 96 vo (toks (f.take k)) ∧ w0.heap.size ≤ w.heap.size ∧ Evo w0 w []) (fun k => f.length - k) 0 ?_ ?_
 ·refine ⟨_, (by first | exact rfl | exact congrArg (Value.int _) (by omega) | exact congrArg (Value.int _) (by dsimp only; omega) | exact congrArg (Value.int _) (by simp) | exact congrArg S (by simp)), rfl, (by first | assumption | omega | (dsimp only; omega) | (simp; done)), (OwnE.nil _ _ _), (by first | assumption | omega | (dsimp only; omega) | (simp; done)), hV⟩
 rintro k g w2 ⟨vo, hj3, hj4, hk_k, hoo, hzl1, hV⟩
 have hs_w2hV := hV.size
 replace hf := hf0 _ hV
 refine Zk 11 (v := .int .i64 (k : Nat)) (by exact hj3) ?_
 refine Zk 3 (v := vo) (by exact hj4) ?_
 have htl := toks_len (f.take k); have hfl := fLen_take f k
 have hfa := fLen_at f k
 have hft : (f.take k).length ≤ k := List.length_take_le _ _
 have hcb := cut_bd (f.getD k default).text
 have hfs := fun h => fLen_snoc f k h
 refine Zs ?_
 refine Zn rfl (run_lss rfl rfl rfl) ?_
 refine r_seq ?_
 refine r_cond rfl (fun hc5 => ?_) (fun hc5 => ?_)
 ·skip
  refine r_skip ?_
  refine r_seq ?_
  refine r_block ?_
  refine Zs ?_
  refine Zo rfl (run_ix (k) rfl Tryz.underlying33 ty_32 rfl rfl (by first | exact rfl | omega) (by omega) (hf.addr (i := k) (by omega))) ?_
  have hA60 := fun (w' : World) (h : Evo w0 w' []) => (hf0 w' h).atD (k) (by omega)
  have hA6 := hA60 _ hV
  refine Zo rfl (run_ldN rfl ag_32 ty_32 rfl rfl hA6) ?_
  have hob7 := fun g hg => (hoo.block (g := g) hg).2
  refine r_var (zs := [_, _, _]) (vs := [_, _, _]) ty_32 rfl rfl rfl (fun _ => rfl) rfl rfl rfl rfl ?_
  intro b8 w9 J8 E9 B8 Y8
  have Q9 := E9.size
  replace hV := Z0 hV E9
  replace hf := hf0 _ hV
  replace hoo := hoo.evo0 E9
  refine r_nil ?_
  refine Zs ?_
  refine Zo rfl (run_fa rfl rfl fo_32_0) ?_
  refine Zn rfl (run_ld1 rfl ag_3 rfl (B8.at.cell 0 rfl)) ?_
  refine r_block ?_
  refine r_seq ?_
  refine Zs ?_
  refine Zo rfl (run_eql rfl rfl rfl) ?_
  refine Zn rfl (asB rfl) ?_
  refine r_cond rfl (fun hc10 => ?_) (fun hc10 => ?_)
  ·skip
   refine r_skip ?_
   refine r_condT rfl hc10 ?_
   refine r_region ?_
   refine Zo rfl (run_mv (v := vo) rfl rfl) ?_
   refine Zo rfl (run_ldN rfl ag_32 ty_32 rfl rfl B8.at) ?_
   refine r_append1E (u := .agg _) (y := (f.getD k default : Vc.Item)) rfl rfl Tryz.underlying94 ty_96 rfl hoo (fun _ => rfl) rfl (by first | exact rfl | (show _ = List.toArray [_, _, _]; first | (dsimp only; done) | exact rfl | (dsimp only; exact rfl))) ((by first | omega | (simp; omega))) ((by first | omega | (simp; omega))) (by omega) ?_
   intro q_v11 v11 w12 E12 hov11 hlv11
   have Q12 := E12.size
   replace hV := evo_stepo hV E12 (fun g hg => .inl (by first | exact (hoo.block hg).1 | (have := hoo.block hg; omega)))
   replace hf := hf0 _ hV
   refine Zn rfl (run_asg (v := v11) rfl rfl) ?_
   refine r_blk ?_
   refine r_blk ?_
   refine r_region ?_
   refine Zo rfl (run_add rfl rfl rfl (by omega) (by omega)) ?_
   refine Zn rfl (mvI rfl) ?_
   refine r_again (k + 1) ?_ ?_ ?_
   ·first | omega | (dsimp only; omega)
   ·refine ⟨_, (by first | exact rfl | exact congrArg (Value.int _) (by omega) | exact congrArg (Value.int _) (by dsimp only; omega) | exact congrArg (Value.int _) (by simp) | exact congrArg S (by simp)), rfl, (by first | assumption | omega | (dsimp only; omega) | (simp; done)), (by rw [toks_succ (by omega)]; first | (rw [tokI_text (by assumption)]; have h8 : r = [] := Classical.not_not.1 (by assumption); rw [h8, cutT_nil, List.append_nil] at hacc; rw [← hacc]; exact ho2) | (rw [tokI_text (by assumption)]; exact hov11) | (rw [tokI_tag (by first | exact .inl (by assumption) | exact .inr (.inl (by assumption)) | exact .inr (.inr (.inl (by assumption))) | exact .inr (.inr (.inr (by assumption))))]; exact hov11) | (rw [tokI_none (by assumption) (by assumption) (by assumption) (by assumption) (by assumption), List.append_nil]; exact hov11)), (by first | assumption | omega | (dsimp only; omega) | (simp; done)), hV⟩
   repeat (first | (with_reducible exact Agree.merge _ _ _) | (with_reducible exact Agree.refl _ _) | (with_reducible refine Agree.upd ?_ _ _ rfl) | ((with_reducible refine Agree.inner ?_ ?_); (kernel_rfl)))
  refine Zs ?_
  refine Zo rfl (run_eql rfl rfl rfl) ?_
  refine Zn rfl (asB rfl) ?_
  refine r_cond rfl (fun hc13 => ?_) (fun hc13 => ?_)
  ·skip
   refine r_skip ?_
   refine r_condT rfl hc13 ?_
   refine r_region ?_
   refine Zo rfl (run_mv (v := vo) rfl rfl) ?_
   refine Zo rfl (run_ldN rfl ag_32 ty_32 rfl rfl B8.at) ?_
   refine r_append1E (u := .agg _) (y := (f.getD k default : Vc.Item)) rfl rfl Tryz.underlying94 ty_96 rfl hoo (fun _ => rfl) rfl (by first | exact rfl | (show _ = List.toArray [_, _, _]; first | (dsimp only; done) | exact rfl | (dsimp only; exact rfl))) ((by first | omega | (simp; omega))) ((by first | omega | (simp; omega))) (by omega) ?_
   intro q_v14 v14 w15 E15 hov14 hlv14
   have Q15 := E15.size
   replace hV := evo_stepo hV E15 (fun g hg => .inl (by first | exact (hoo.block hg).1 | (have := hoo.block hg; omega)))
   replace hf := hf0 _ hV
   refine Zn rfl (run_asg (v := v14) rfl rfl) ?_
   refine r_blk ?_
   refine r_blk ?_
   refine r_region ?_
   refine Zo rfl (run_add rfl rfl rfl (by omega) (by omega)) ?_
   refine Zn rfl (mvI rfl) ?_
   refine r_again (k + 1) ?_ ?_ ?_
   ·first | omega | (dsimp only; omega)
   ·refine ⟨_, (by first | exact rfl | exact congrArg (Value.int _) (by omega) | exact congrArg (Value.int _) (by dsimp only; omega) | exact congrArg (Value.int _) (by simp) | exact congrArg S (by simp)), rfl, (by first | assumption | omega | (dsimp only; omega) | (simp; done)), (by rw [toks_succ (by omega)]; first | (rw [tokI_text (by assumption)]; have h8 : r = [] := Classical.not_not.1 (by assumption); rw [h8, cutT_nil, List.append_nil] at hacc; rw [← hacc]; exact ho2) | (rw [tokI_text (by assumption)]; exact hov14) | (rw [tokI_tag (by first | exact .inl (by assumption) | exact .inr (.inl (by assumption)) | exact .inr (.inr (.inl (by assumption))) | exact .inr (.inr (.inr (by assumption))))]; exact hov14) | (rw [tokI_none (by assumption) (by assumption) (by assumption) (by assumption) (by assumption), List.append_nil]; exact hov14)), (by first | assumption | omega | (dsimp only; omega) | (simp; done)), hV⟩
   repeat (first | (with_reducible exact Agree.merge _ _ _) | (with_reducible exact Agree.refl _ _) | (with_reducible refine Agree.upd ?_ _ _ rfl) | ((with_reducible refine Agree.inner ?_ ?_); (kernel_rfl)))
  refine Zs ?_
  refine Zo rfl (run_eql rfl rfl rfl) ?_
  refine Zn rfl (asB rfl) ?_
  refine r_cond rfl (fun hc16 => ?_) (fun hc16 => ?_)
  ·skip
   refine r_skip ?_
   refine r_condT rfl hc16 ?_
   refine r_region ?_
   refine Zo rfl (run_mv (v := vo) rfl rfl) ?_
   refine Zo rfl (run_ldN rfl ag_32 ty_32 rfl rfl B8.at) ?_
   refine r_append1E (u := .agg _) (y := (f.getD k default : Vc.Item)) rfl rfl Tryz.underlying94 ty_96 rfl hoo (fun _ => rfl) rfl (by first | exact rfl | (show _ = List.toArray [_, _, _]; first | (dsimp only; done) | exact rfl | (dsimp only; exact rfl))) ((by first | omega | (simp; omega))) ((by first | omega | (simp; omega))) (by omega) ?_
   intro q_v17 v17 w18 E18 hov17 hlv17
   have Q18 := E18.size
   replace hV := evo_stepo hV E18 (fun g hg => .inl (by first | exact (hoo.block hg).1 | (have := hoo.block hg; omega)))
   replace hf := hf0 _ hV
   refine Zn rfl (run_asg (v := v17) rfl rfl) ?_
   refine r_blk ?_
   refine r_blk ?_
   refine r_region ?_
   refine Zo rfl (run_add rfl rfl rfl (by omega) (by omega)) ?_
   refine Zn rfl (mvI rfl) ?_
   refine r_again (k + 1) ?_ ?_ ?_
   ·first | omega | (dsimp only; omega)
   ·refine ⟨_, (by first | exact rfl | exact congrArg (Value.int _) (by omega) | exact congrArg (Value.int _) (by dsimp only; omega) | exact congrArg (Value.int _) (by simp) | exact congrArg S (by simp)), rfl, (by first | assumption | omega | (dsimp only; omega) | (simp; done)), (by rw [toks_succ (by omega)]; first | (rw [tokI_text (by assumption)]; have h8 : r = [] := Classical.not_not.1 (by assumption); rw [h8, cutT_nil, List.append_nil] at hacc; rw [← hacc]; exact ho2) | (rw [tokI_text (by assumption)]; exact hov17) | (rw [tokI_tag (by first | exact .inl (by assumption) | exact .inr (.inl (by assumption)) | exact .inr (.inr (.inl (by assumption))) | exact .inr (.inr (.inr (by assumption))))]; exact hov17) | (rw [tokI_none (by assumption) (by assumption) (by assumption) (by assumption) (by assumption), List.append_nil]; exact hov17)), (by first | assumption | omega | (dsimp only; omega) | (simp; done)), hV⟩
   repeat (first | (with_reducible exact Agree.merge _ _ _) | (with_reducible exact Agree.refl _ _) | (with_reducible refine Agree.upd ?_ _ _ rfl) | ((with_reducible refine Agree.inner ?_ ?_); (kernel_rfl)))
  refine r_region ?_
  refine Zo rfl (run_eql rfl rfl rfl) ?_
  refine Zn rfl (asB rfl) ?_
  refine r_cond rfl (fun hc19 => ?_) (fun hc19 => ?_)
  ·skip
   refine r_region ?_
   refine Zo rfl (run_mv (v := vo) rfl rfl) ?_
   refine Zo rfl (run_ldN rfl ag_32 ty_32 rfl rfl B8.at) ?_
   refine r_append1E (u := .agg _) (y := (f.getD k default : Vc.Item)) rfl rfl Tryz.underlying94 ty_96 rfl hoo (fun _ => rfl) rfl (by first | exact rfl | (show _ = List.toArray [_, _, _]; first | (dsimp only; done) | exact rfl | (dsimp only; exact rfl))) ((by first | omega | (simp; omega))) ((by first | omega | (simp; omega))) (by omega) ?_
   intro q_v20 v20 w21 E21 hov20 hlv20
   have Q21 := E21.size
   replace hV := evo_stepo hV E21 (fun g hg => .inl (by first | exact (hoo.block hg).1 | (have := hoo.block hg; omega)))
   replace hf := hf0 _ hV
   refine Zn rfl (run_asg (v := v20) rfl rfl) ?_
   refine r_blk ?_
   refine r_blk ?_
   refine r_region ?_
   refine Zo rfl (run_add rfl rfl rfl (by omega) (by omega)) ?_
   refine Zn rfl (mvI rfl) ?_
   refine r_again (k + 1) ?_ ?_ ?_
   ·first | omega | (dsimp only; omega)
   ·refine ⟨_, (by first | exact rfl | exact congrArg (Value.int _) (by omega) | exact congrArg (Value.int _) (by dsimp only; omega) | exact congrArg (Value.int _) (by simp) | exact congrArg S (by simp)), rfl, (by first | assumption | omega | (dsimp only; omega) | (simp; done)), (by rw [toks_succ (by omega)]; first | (rw [tokI_text (by assumption)]; have h8 : r = [] := Classical.not_not.1 (by assumption); rw [h8, cutT_nil, List.append_nil] at hacc; rw [← hacc]; exact ho2) | (rw [tokI_text (by assumption)]; exact hov20) | (rw [tokI_tag (by first | exact .inl (by assumption) | exact .inr (.inl (by assumption)) | exact .inr (.inr (.inl (by assumption))) | exact .inr (.inr (.inr (by assumption))))]; exact hov20) | (rw [tokI_none (by assumption) (by assumption) (by assumption) (by assumption) (by assumption), List.append_nil]; exact hov20)), (by first | assumption | omega | (dsimp only; omega) | (simp; done)), hV⟩
   repeat (first | (with_reducible exact Agree.merge _ _ _) | (with_reducible exact Agree.refl _ _) | (with_reducible refine Agree.upd ?_ _ _ rfl) | ((with_reducible refine Agree.inner ?_ ?_); (kernel_rfl)))
  refine Zs ?_
  refine Zo rfl (run_eql rfl rfl rfl) ?_
  refine Zn rfl (asB rfl) ?_
  refine r_cond rfl (fun hc22 => ?_) (fun hc22 => ?_)
  ·skip
   refine Zs ?_
   refine Zo rfl (run_fa rfl rfl fo_32_1) ?_
   refine Zo rfl (run_ld1 rfl ag_9 rfl (B8.at.cell 1 rfl)) ?_
   refine Zn rfl (asT rfl) ?_
   refine r_block ?_
   refine r_loop (α := Str) [3, 6, 7, 8, 30, 31, 32, 33, 34, 35, 36, 37, 38, 39, 40, 41, 42, 43, 44, 45, 46, 47] (fun r g w => ∃ vo2 : Value, ∃ l : List Vc.Item, g 6 = S r ∧ g 3 = vo2 ∧ OwnE w w0.heap.size 96 vo2 l ∧ l ++ cutT r = toks (f.take k) ++ cutT (f.getD k default).text ∧ r.length ≤ (f.getD k default).text.length ∧ w9.heap.size ≤ w.heap.size ∧ Evo w0 w []) (fun r => r.length) (f.getD k default).text ?_ ?_
   ·refine ⟨_, _, rfl, rfl, hoo, rfl, (Nat.le_refl _), (by first | assumption | omega | (dsimp only; omega) | (simp; done)), hV⟩
   rintro r g w24 ⟨vo2, l, hj25, hj26, ho2, hacc, hrl, hzl23, hV⟩
   have hs_w24hV := hV.size
   replace hf := hf0 _ hV
   replace hA6 := hA60 _ hV
   refine Zk 6 (v := S r) (by exact hj25) ?_
   refine Zk 3 (v := vo2) (by exact hj26) ?_
   have hla := congrArg List.length hacc
   rw [List.length_append, List.length_append] at hla
   refine r_seq ?_
   refine Zs ?_
   refine Zo rfl (mvT rfl) ?_
   refine Zn rfl (run_sneq rfl rfl rfl) ?_
   refine r_cond rfl (fun hc27 => ?_) (fun hc27 => ?_)
   ·skip
    refine r_skip ?_
    refine r_block ?_
    refine r_seq ?_
    have hne : ¬ r = [] := hc27; have htl0 := tokN_len hne; have htp := tokN_pos r; have hr0 := len_pos hne
    refine r_region ?_
    refine Zo rfl (mvT rfl) ?_
    refine r_opcall rfl rfl rfl (run_callf (vs := [S _]) rfl (by exact rfl) Tryz.func102 rfl (by kernel_rfl)) (tnext_calls (by omega) (by omega)) ?_
    rintro e w28 ⟨rfl, hE28⟩
    refine ⟨_, rfl, ?_⟩
    have Q28 := hE28.size
    replace hV := Z0 hV hE28
    replace ho2 := ho2.evo0 hE28
    refine Zo rfl (mvU rfl) ?_
    refine Zo rfl (run_extract (v := .int _ _) rfl rfl rfl) ?_
    refine Zo rfl (run_extract (v := .int _ _) rfl rfl rfl) ?_
    refine Zo rfl (asI rfl) ?_
    refine Zn rfl (asI rfl) ?_
    refine Zs ?_
    refine Zo rfl (run_mv (v := vo2) rfl rfl) ?_
    refine Zo rfl (mvI rfl) ?_
    refine Zo rfl (mvT rfl) ?_
    refine Zo rfl (mvI rfl) ?_
    refine Zo rfl (by exact run_slS (0) ((tokN r).2) rfl Tryz.underlying9 rfl lo0 (at1 rfl (by omega)) (by first | omega | (simp; omega)) (by first | omega | (simp; omega))) ?_
    refine Zo rfl (run_bld (pv := [(0, .int _ _), (1, S _)]) (zs := [_, _, _]) (cells := [_, _, _]) rfl ty_96 rfl pl_96 rfl rfl) ?_
    refine r_append1E (u := .agg _) (y := (⟨(tokN r).1, r.take (tokN r).2, 0⟩ : Vc.Item)) rfl rfl Tryz.underlying94 ty_96 rfl ho2 (fun _ => rfl) rfl (by first | exact rfl | (show _ = List.toArray [_, _, _]; first | (dsimp only; done) | exact rfl | (dsimp only; exact rfl))) ((by first | omega | (simp; omega))) ((by first | omega | (simp; omega))) (by omega) ?_
    intro q_v29 v29 w30 E30 hov29 hlv29
    have Q30 := E30.size
    replace hV := evo_stepo hV E30 (fun g hg => .inl (by first | exact (ho2.block hg).1 | (have := ho2.block hg; omega)))
    replace hf := hf0 _ hV
    refine Zn rfl (run_asg (v := v29) rfl rfl) ?_
    refine r_region ?_
    refine Zo rfl (mvT rfl) ?_
    refine Zo rfl (mvI rfl) ?_
    refine Zo rfl (by exact run_slS ((tokN r).2) (_) rfl Tryz.underlying9 rfl (at1 rfl (by omega)) hi0 (by first | omega | (simp; omega)) (by first | omega | (simp; omega))) ?_
    refine Zn rfl (asT rfl) ?_
    refine r_blk ?_
    refine r_again (r.drop (tokN r).2) ?_ ?_ ?_
    ·rw [List.length_drop]; have := len_pos hne; omega
    ·refine ⟨_, _, (congrArg S (List.take_of_length_le (by rw [List.length_drop]; exact Nat.le_refl _))), rfl, hov29, (cut_step (p := ((tokN r).1, (tokN r).2)) rfl hacc hne), (by rw [List.length_drop]; omega), (by first | assumption | omega | (dsimp only; omega) | (simp; done)), hV⟩
    repeat (first | (with_reducible exact Agree.merge _ _ _) | (with_reducible exact Agree.refl _ _) | (with_reducible refine Agree.upd ?_ _ _ rfl) | ((with_reducible refine Agree.inner ?_ ?_); (kernel_rfl)))
   refine r_exit rfl ?_
   refine r_blk ?_
   refine r_blk ?_
   refine r_region ?_
   refine Zo rfl (run_add rfl rfl rfl (by omega) (by omega)) ?_
   refine Zn rfl (mvI rfl) ?_
   refine r_again (k + 1) ?_ ?_ ?_
   ·first | omega | (dsimp only; omega)
   ·refine ⟨_, (by first | exact rfl | exact congrArg (Value.int _) (by omega) | exact congrArg (Value.int _) (by dsimp only; omega) | exact congrArg (Value.int _) (by simp) | exact congrArg S (by simp)), rfl, (by first | assumption | omega | (dsimp only; omega) | (simp; done)), (by rw [toks_succ (by omega)]; first | (rw [tokI_text (by assumption)]; have h8 : r = [] := Classical.not_not.1 (by assumption); rw [h8, cutT_nil, List.append_nil] at hacc; rw [← hacc]; exact ho2) | (rw [tokI_text (by assumption)]; exact ho2) | (rw [tokI_tag (by first | exact .inl (by assumption) | exact .inr (.inl (by assumption)) | exact .inr (.inr (.inl (by assumption))) | exact .inr (.inr (.inr (by assumption))))]; exact ho2) | (rw [tokI_none (by assumption) (by assumption) (by assumption) (by assumption) (by assumption), List.append_nil]; exact ho2)), (by first | assumption | omega | (dsimp only; omega) | (simp; done)), hV⟩
   repeat (first | (with_reducible exact Agree.merge _ _ _) | (with_reducible exact Agree.refl _ _) | (with_reducible refine Agree.upd ?_ _ _ rfl) | ((with_reducible refine Agree.inner ?_ ?_); (kernel_rfl)))
  refine r_skip ?_
  refine r_blk ?_
  refine r_blk ?_
  refine r_region ?_
  refine Zo rfl (run_add rfl rfl rfl (by omega) (by omega)) ?_
  refine Zn rfl (mvI rfl) ?_
  refine r_again (k + 1) ?_ ?_ ?_
  ·first | omega | (dsimp only; omega)
  ·refine ⟨_, (by first | exact rfl | exact congrArg (Value.int _) (by omega) | exact congrArg (Value.int _) (by dsimp only; omega) | exact congrArg (Value.int _) (by simp) | exact congrArg S (by simp)), rfl, (by first | assumption | omega | (dsimp only; omega) | (simp; done)), (by rw [toks_succ (by omega)]; first | (rw [tokI_text (by assumption)]; have h8 : r = [] := Classical.not_not.1 (by assumption); rw [h8, cutT_nil, List.append_nil] at hacc; rw [← hacc]; exact ho2) | (rw [tokI_text (by assumption)]; exact hoo) | (rw [tokI_tag (by first | exact .inl (by assumption) | exact .inr (.inl (by assumption)) | exact .inr (.inr (.inl (by assumption))) | exact .inr (.inr (.inr (by assumption))))]; exact hoo) | (rw [tokI_none (by assumption) (by assumption) (by assumption) (by assumption) (by assumption), List.append_nil]; exact hoo)), (by first | assumption | omega | (dsimp only; omega) | (simp; done)), hV⟩
  repeat (first | (with_reducible exact Agree.merge _ _ _) | (with_reducible exact Agree.refl _ _) | (with_reducible refine Agree.upd ?_ _ _ rfl) | ((with_reducible refine Agree.inner ?_ ?_); (kernel_rfl)))
 refine r_exit rfl ?_
 refine Zs ?_
 refine Zo rfl (run_mv (v := vo) rfl rfl) ?_
 refine Zn rfl (run_asg (v := vo) rfl rfl) ?_
 refine r_ret (res1 (v := vo) rfl rfl) ?_
 exact ⟨_, rfl, hV, by rw [List.take_of_length_le (by omega)] at hoo; exact hoo⟩
theorem istag_calls {x : Vc.Item} {w0 : World}  :
    Calls Tryz.prog 90 #[.agg (Enc.enc x).toArray] w0 fun e w' => e = .returned (.bool (isTag x)) ∧ Evo w0 w' [] := by
 refine calls_enter (n := 16) Tryz.func90 rfl Tryz.ntmps90 rfl ?_
 have hV : Evo w0 w0 [] := Evo.refl _ _
 refine Zs ?_
 refine r_box (vs := [_, _, _]) rfl rfl rfl ?_
 intro b1 w2 J1 E2 B1 Y1
 have Q2 := E2.size
 replace hV := Z0 hV E2
 refine Zn rfl (asB rfl) ?_
 refine Zs ?_
 refine Zo rfl (run_fa rfl rfl fo_32_0) ?_
 refine Zo rfl (run_ld1 rfl ag_3 rfl (B1.at.cell 0 rfl)) ?_
 refine Zo rfl (run_eql rfl rfl rfl) ?_
 refine Zo rfl (mvB rfl) ?_
 refine r_g rfl (wantF rfl) rfl (fun hg => run_fa rfl rfl fo_32_0) ?_
 refine r_g rfl (wantF rfl) rfl (fun hg => run_ld1 rfl ag_3 (glv rfl (fun h => h) hg) (B1.at.cell 0 rfl)) ?_
 refine r_g rfl (wantF rfl) rfl (fun hg => run_eql rfl (glv rfl (fun h => h) hg) rfl) ?_
 refine Zo rfl (run_pick_or rfl rfl rfl (fun hq => glv rfl (fun h => h) hq)) ?_
 refine Zo rfl (mvB rfl) ?_
 refine r_g rfl (wantF rfl) rfl (fun hg => run_fa rfl rfl fo_32_0) ?_
 refine r_g rfl (wantF rfl) rfl (fun hg => run_ld1 rfl ag_3 (glv rfl (fun h => h) hg) (B1.at.cell 0 rfl)) ?_
 refine r_g rfl (wantF rfl) rfl (fun hg => run_eql rfl (glv rfl (fun h => h) hg) rfl) ?_
 refine Zo rfl (run_pick_or rfl rfl rfl (fun hq => glv rfl (fun h => h) hq)) ?_
 refine Zn rfl (asB rfl) ?_
 refine r_ret (res1 (v := .bool _) rfl rfl) ?_
 exact ⟨ret_bool (by rw [Bool.eq_iff_iff, decide_eq_true_iff, isTag_iff]), hV⟩
theorem ei_32 : ∀ (w : World) (x y : Vc.Item), (Op.equalIn 10000 32 (.agg (Enc.enc x).toArray) (.agg (Enc.enc y).toArray)).run Tryz.prog w = .ok (decide (x = y)) w := fun w x y => equalIn_item 9998 Tryz.underlying32 Tryz.stoodInHeld32 (by decide) (by decide) (by decide) rfl rfl rfl Tryz.underlying3 Tryz.underlying9 Tryz.underlying3 ag_3 ag_9 ag_3 x y
theorem itake_bothI {α : Type} [Inhabited α] {a b : List α} {k : Nat} (hp : a.take k = b.take k) (ha : k < a.length) (hb : k < b.length) (h : a.getD k default = b.getD k default) : a.take (k + 1) = b.take (k + 1) := by
  rw [take_succD a k ha, take_succD b k hb, hp, h]
def KF : List Vc.Item := [⟨2, [98], 1⟩, ⟨1, [97, 98], 0⟩, ⟨3, [98], 1⟩]
theorem pl_32 : placesP Tryz.prog 32 = some [(0, 1), (1, 1), (2, 1)] := by kernel_rfl
theorem plain_calls {ao : Option Addr} {b off cap : Nat} {f : List Vc.Item} {w0 : World} (hf : RowE w0 ao b off cap f) (hsm : Small f) :
    Calls Tryz.prog 66 #[.slice ao f.length cap] w0 fun e w' => e = .returned (S (plainL f)) ∧ Evo w0 w' [] := by
 have hs1 := hsm.1; have hs2 := hsm.2
 refine calls_enter (n := 28) Tryz.func66 rfl Tryz.ntmps66 rfl ?_
 have hV : Evo w0 w0 [] := Evo.refl _ _
 have hf0 := keepE hf
 have hbd_hf := hf.bd
 refine Zs ?_
 refine Zn rfl (asT rfl) ?_
 refine Zs ?_
 refine Zn rfl (asS rfl) ?_
 refine r_seq ?_
 refine Zs ?_
 refine Zo rfl (mvS rfl) ?_
 refine Zo rfl (run_lenSl rfl rfl Tryz.underlying33) ?_
 refine Zn rfl (mvI rfl) ?_
 refine r_block ?_
 refine r_loop (α := Nat) [3, 5, 8, 9, 10, 11, 12, 13, 14, 15, 16, 17, 18, 19, 20, 21, 22, 23, 24, 25] (fun k g w => ∃ vo : Value, g 8 = .int .i64 (k : Nat) ∧ g 3 = vo ∧ k ≤ f.length ∧ OwnE w w0.heap.size 5 vo (plainL (f.take k)) ∧ w0.heap.size ≤ w.heap.size ∧ Evo w0 w []) (fun k => f.length - k) 0 ?_ ?_
 ·refine ⟨_, (by first | exact rfl | exact congrArg (Value.int _) (by omega) | exact congrArg (Value.int _) (by dsimp only; omega) | exact congrArg (Value.int _) (by simp) | exact congrArg S (by simp)), rfl, (by first | assumption | omega | (dsimp only; omega) | (simp; done)), (OwnE.nil _ _ _), (by first | assumption | omega | (dsimp only; omega) | (simp; done)), hV⟩
 rintro k g w2 ⟨vo, hj3, hj4, hk_k, hoo, hzl1, hV⟩
 have hs_w2hV := hV.size
 replace hf := hf0 _ hV
 refine Zk 8 (v := .int .i64 (k : Nat)) (by exact hj3) ?_
 refine Zk 3 (v := vo) (by exact hj4) ?_
 refine Zs ?_
 refine Zn rfl (run_lss rfl rfl rfl) ?_
 refine r_seq ?_
 refine r_cond rfl (fun hc5 => ?_) (fun hc5 => ?_)
 ·skip
  refine r_skip ?_
  refine r_seq ?_
  refine r_block ?_
  refine r_seq ?_
  have hobO := fun g hg => (hoo.block (g := g) hg).2
  refine r_region ?_
  refine Zo rfl (run_ix (k) rfl Tryz.underlying33 ty_32 rfl rfl (by first | exact rfl | omega) (by omega) (hf.addr (i := k) (by omega))) ?_
  have hA60 := fun (w' : World) (h : Evo w0 w' []) => (hf0 w' h).atD (k) (by omega)
  have hA6 := hA60 _ hV
  refine Zo rfl (run_ldN rfl ag_32 ty_32 rfl rfl hA6) ?_
  have hob7 := fun g hg => (hoo.block (g := g) hg).2
  refine r_var (zs := [_, _, _]) (vs := [_, _, _]) ty_32 rfl rfl rfl (fun _ => rfl) rfl rfl rfl rfl ?_
  intro b8 w9 J8 E9 B8 Y8
  have Q9 := E9.size
  replace hV := Z0 hV E9
  replace hf := hf0 _ hV
  replace hoo := hoo.evo0 E9
  refine r_nil ?_
  refine r_seq ?_
  have hneO : ∀ g, vo.ownBlock = some g → g ≠ b8 := fun g hg h => by have := hobO g hg; omega
  have hp1 := plainL_len (f.take k); have hp2 := sizeL_take f k; have hp3 := sizeL_at f k; have hp5 : (f.take k).length ≤ k := List.length_take_le _ _
  refine r_region ?_
  refine Zo rfl (run_fa rfl rfl fo_32_0) ?_
  refine Zn rfl (run_ld1 rfl ag_3 rfl (B8.at.cell 0 rfl)) ?_
  refine r_block ?_
  refine Zs ?_
  refine Zo rfl (run_eql rfl rfl rfl) ?_
  refine Zn rfl (asB rfl) ?_
  refine r_cond rfl (fun hc10 => ?_) (fun hc10 => ?_)
  ·skip
   refine r_region ?_
   refine Zo rfl (run_mv (v := vo) rfl rfl) ?_
   refine Zo rfl (run_fa rfl rfl fo_32_1) ?_
   refine Zo rfl (run_ld1 rfl ag_9 rfl (B8.at.cell 1 rfl)) ?_
   refine r_appendS rfl Tryz.underlying123 Tryz.underlying9 ty_5 rfl hoo rfl rfl (by first | omega | (simp; omega)) (by omega) ?_
   intro v11 w12 E12 hov11
   have Q12 := E12.size
   replace hV := evo_stepo hV E12 (fun g hg => .inl (by first | exact (hoo.block hg).1 | (have := hoo.block hg; omega)))
   replace hf := hf0 _ hV
   refine Zn rfl (run_asg (v := v11) rfl rfl) ?_
   refine r_blk ?_
   refine r_blk ?_
   refine r_region ?_
   refine Zo rfl (run_add rfl rfl rfl (by omega) (by omega)) ?_
   refine Zn rfl (mvI rfl) ?_
   refine r_again (k + 1) ?_ ?_ ?_
   ·first | omega | (dsimp only; omega)
   ·refine ⟨_, (by first | exact rfl | exact congrArg (Value.int _) (by omega) | exact congrArg (Value.int _) (by dsimp only; omega) | exact congrArg (Value.int _) (by simp) | exact congrArg S (by simp)), rfl, (by first | assumption | omega | (dsimp only; omega) | (simp; done)), (by first | (rw [plainL_succ f k (by omega), plainI_text (by assumption)]; exact hov11) | (rw [plainL_succ f k (by omega), plainI_slot (by assumption)]; exact hov11) | (rw [plainL_succ f k (by omega), plainI_other (by assumption) (by assumption), List.append_nil]; exact hov11)), (by first | assumption | omega | (dsimp only; omega) | (simp; done)), hV⟩
   repeat (first | (with_reducible exact Agree.merge _ _ _) | (with_reducible exact Agree.refl _ _) | (with_reducible refine Agree.upd ?_ _ _ rfl) | ((with_reducible refine Agree.inner ?_ ?_); (kernel_rfl)))
  refine Zs ?_
  refine Zo rfl (run_eql rfl rfl rfl) ?_
  refine Zn rfl (asB rfl) ?_
  refine r_cond rfl (fun hc13 => ?_) (fun hc13 => ?_)
  ·skip
   refine r_region ?_
   refine Zo rfl (run_mv (v := vo) rfl rfl) ?_
   refine r_append1E (u := .int _ _) (y := (255 : UInt8)) rfl rfl Tryz.underlying123 ty_5 rfl hoo (fun _ => rfl) rfl (by first | exact rfl | (show _ = List.toArray [_]; first | (dsimp only; done) | exact rfl | (dsimp only; exact rfl))) ((by first | omega | (simp; omega))) ((by first | omega | (simp; omega))) (by omega) ?_
   intro q_v14 v14 w15 E15 hov14 hlv14
   have Q15 := E15.size
   replace hV := evo_stepo hV E15 (fun g hg => .inl (by first | exact (hoo.block hg).1 | (have := hoo.block hg; omega)))
   replace hf := hf0 _ hV
   refine Zn rfl (run_asg (v := v14) rfl rfl) ?_
   refine r_blk ?_
   refine r_blk ?_
   refine r_region ?_
   refine Zo rfl (run_add rfl rfl rfl (by omega) (by omega)) ?_
   refine Zn rfl (mvI rfl) ?_
   refine r_again (k + 1) ?_ ?_ ?_
   ·first | omega | (dsimp only; omega)
   ·refine ⟨_, (by first | exact rfl | exact congrArg (Value.int _) (by omega) | exact congrArg (Value.int _) (by dsimp only; omega) | exact congrArg (Value.int _) (by simp) | exact congrArg S (by simp)), rfl, (by first | assumption | omega | (dsimp only; omega) | (simp; done)), (by first | (rw [plainL_succ f k (by omega), plainI_text (by assumption)]; exact hov14) | (rw [plainL_succ f k (by omega), plainI_slot (by assumption)]; exact hov14) | (rw [plainL_succ f k (by omega), plainI_other (by assumption) (by assumption), List.append_nil]; exact hov14)), (by first | assumption | omega | (dsimp only; omega) | (simp; done)), hV⟩
   repeat (first | (with_reducible exact Agree.merge _ _ _) | (with_reducible exact Agree.refl _ _) | (with_reducible refine Agree.upd ?_ _ _ rfl) | ((with_reducible refine Agree.inner ?_ ?_); (kernel_rfl)))
  refine r_skip ?_
  refine r_blk ?_
  refine r_blk ?_
  refine r_region ?_
  refine Zo rfl (run_add rfl rfl rfl (by omega) (by omega)) ?_
  refine Zn rfl (mvI rfl) ?_
  refine r_again (k + 1) ?_ ?_ ?_
  ·first | omega | (dsimp only; omega)
  ·refine ⟨_, (by first | exact rfl | exact congrArg (Value.int _) (by omega) | exact congrArg (Value.int _) (by dsimp only; omega) | exact congrArg (Value.int _) (by simp) | exact congrArg S (by simp)), rfl, (by first | assumption | omega | (dsimp only; omega) | (simp; done)), (by first | (rw [plainL_succ f k (by omega), plainI_text (by assumption)]; exact hoo) | (rw [plainL_succ f k (by omega), plainI_slot (by assumption)]; exact hoo) | (rw [plainL_succ f k (by omega), plainI_other (by assumption) (by assumption), List.append_nil]; exact hoo)), (by first | assumption | omega | (dsimp only; omega) | (simp; done)), hV⟩
  repeat (first | (with_reducible exact Agree.merge _ _ _) | (with_reducible exact Agree.refl _ _) | (with_reducible refine Agree.upd ?_ _ _ rfl) | ((with_reducible refine Agree.inner ?_ ?_); (kernel_rfl)))
 refine r_exit rfl ?_
 refine r_seq ?_
 obtain ⟨ao16, g16, cp16, hv16, hr16, hg16⟩ := hoo.rowOf
 subst hv16
 refine r_region ?_
 refine Zo rfl (mvS rfl) ?_
 refine Zo rfl (run_cvBS rfl Tryz.underlying123 Tryz.underlying5 Tryz.underlying9 rfl (by first | rfl | simp) hr16) ?_
 refine Zn rfl (asT rfl) ?_
 refine r_ret (res1 (v := S _) rfl rfl) ?_
 exact ⟨by rw [List.take_of_length_le (by omega)], hV⟩
def isW (x : Vc.Item) : Prop := x.kind = 6 ∨ x.kind = 7
instance (x : Vc.Item) : Decidable (isW x) := by unfold isW; infer_instance
def gapW (x : Vc.Item) : Prop := x.kind = 8 ∨ x.kind = 2 ∨ x.kind = 3 ∨ x.kind = 4
instance (x : Vc.Item) : Decidable (gapW x) := by unfold gapW; infer_instance
def nextR : List Vc.Item → Nat → Int
  | [], _ => -1
  | x :: r, k => if isW x then (k : Int) else if gapW x then nextR r (k + 1) else -1
def nextT (l : List Vc.Item) (i : Nat) : Int := nextR (l.drop (i + 1)) (i + 1)
theorem drop_consT {l : List Vc.Item} {k : Nat} (h : k < l.length) : l.drop k = l.getD k default :: l.drop (k + 1) := by
  have e : l.getD k default = l[k] := by simp [List.getD, h]
  rw [e]; exact (List.drop_eq_getElem_cons h)
theorem next_hit {l : List Vc.Item} {k : Nat} (h : k < l.length) (h2 : isW (l.getD k default)) : nextR (l.drop k) k = (k : Int) := by rw [drop_consT h]; exact if_pos h2
theorem next_gap {l : List Vc.Item} {k : Nat} (h : k < l.length) (h2 : ¬ isW (l.getD k default)) (h3 : gapW (l.getD k default)) : nextR (l.drop k) k = nextR (l.drop (k + 1)) (k + 1) := by
  rw [drop_consT h]
  conv => lhs; unfold nextR
  rw [if_neg h2, if_pos h3]
theorem next_stop {l : List Vc.Item} {k : Nat} (h : k < l.length) (h2 : ¬ isW (l.getD k default)) (h3 : ¬ gapW (l.getD k default)) : nextR (l.drop k) k = -1 := by
  rw [drop_consT h]; unfold nextR; rw [if_neg h2, if_neg h3]
theorem next_end {l : List Vc.Item} {k : Nat} (h : l.length ≤ k) : nextR (l.drop k) k = -1 := by rw [List.drop_of_length_le h]; rfl
theorem nextR_bd (l : List Vc.Item) : ∀ (n k : Nat), l.length - k = n → k ≤ l.length → nextR (l.drop k) k = -1 ∨ ((k : Int) ≤ nextR (l.drop k) k ∧ nextR (l.drop k) k < (l.length : Int) ∧ isW (l.getD (nextR (l.drop k) k).toNat default))
  | 0, k, h, _ => .inl (next_end (by omega))
  | n + 1, k, h, _ => by
    have hk : k < l.length := by omega
    by_cases h2 : isW (l.getD k default)
    · rw [next_hit hk h2]; exact .inr ⟨by omega, by omega, by simpa using h2⟩
    · by_cases h3 : gapW (l.getD k default)
      · rw [next_gap hk h2 h3]
        rcases nextR_bd l n (k + 1) (by omega) (by omega) with h4 | ⟨h4, h5, h6⟩
        · exact .inl h4
        · exact .inr ⟨by omega, h5, h6⟩
      · exact .inl (next_stop hk h2 h3)
theorem nextT_bd {l : List Vc.Item} {i : Nat} (h : i < l.length) : nextT l i = -1 ∨ ((i : Int) + 1 ≤ nextT l i ∧ nextT l i < (l.length : Int) ∧ isW (l.getD (nextT l i).toNat default)) := by
  rcases nextR_bd l _ (i + 1) rfl (by omega) with h1 | ⟨h1, h2, h3⟩
  · exact .inl h1
  · exact .inr ⟨by have : ((i + 1 : Nat) : Int) ≤ nextT l i := h1
                   omega, h2, h3⟩
def chainF (l : List Vc.Item) : Int → Int → List (List Str) → Int
  | _, e, [] => e
  | i, _, s :: r => if i < 0 then -1 else if lowS (l.getD i.toNat default).text ∈ s then chainF l (nextT l i.toNat) (i + 1) r else -1
theorem chain_neg {l : List Vc.Item} {i e : Int} {s : List Str} {r : List (List Str)} (h : i < 0) : chainF l i e (s :: r) = -1 := if_pos h
theorem chain_no {l : List Vc.Item} {i e : Int} {s : List Str} {r : List (List Str)} (h : ¬ i < 0) (h2 : ¬ lowS (l.getD i.toNat default).text ∈ s) : chainF l i e (s :: r) = -1 := by unfold chainF; rw [if_neg h, if_neg h2]
theorem chain_go {l : List Vc.Item} {i e : Int} {s : List Str} {r : List (List Str)} (h : ¬ i < 0) (h2 : lowS (l.getD i.toNat default).text ∈ s) : chainF l i e (s :: r) = chainF l (nextT l i.toNat) (i + 1) r := by
  conv => lhs; unfold chainF
  rw [if_neg h, if_pos h2]
end Go.Proofs.YtlfjocbnbceceaaGreatDoor
namespace Go.Vc
open Go Go.RowKit Go.IntWalk Go.Deep
structure TermL where
  words : List Ende
  req : List Str
  forb : List Str
deriving Inhabited
instance : Rep TermL where
  n := 3
  rep w cs x := (∃ ao b off cap ao1 b1 off1 cap1 ao2 b2 off2 cap2, cs = [.slice ao x.words.length cap, .slice ao1 x.req.length cap1, .slice ao2 x.forb.length cap2] ∧ RowE w ao b off cap x.words ∧ RowE w ao1 b1 off1 cap1 x.req ∧ RowE w ao2 b2 off2 cap2 x.forb) ∧ (x.words.length ≤ 4398046510976 ∧ ∀ y ∈ x.words, BdE y)
  len := fun ⟨⟨_, _, _, _, _, _, _, _, _, _, _, _, h, _⟩, _⟩ => by rw [h]; rfl
  evo0 := fun ⟨⟨ao, b, off, cap, ao1, b1, off1, cap1, ao2, b2, off2, cap2, h, h1, h2, h3⟩, hb⟩ he => ⟨⟨ao, b, off, cap, ao1, b1, off1, cap1, ao2, b2, off2, cap2, h, h1.evo0 he, h2.evo0 he, h3.evo0 he⟩, hb⟩
  pos := by decide
theorem term_at {w : World} {ao : Option Addr} {b off cap : Nat} {l : List TermL} (h : RowR w ao b off cap l) (k : Nat) (hk : k < l.length) :
    ∃ aoW bW offW capW aoQ bQ offQ capQ aoF bF offF capF, At w b (off + k * 3) [.slice aoW (l.getD k default).words.length capW, .slice aoQ (l.getD k default).req.length capQ, .slice aoF (l.getD k default).forb.length capF] ∧ RowE w aoW bW offW capW (l.getD k default).words ∧ RowE w aoQ bQ offQ capQ (l.getD k default).req ∧ RowE w aoF bF offF capF (l.getD k default).forb := by
  obtain ⟨cs, h1, ⟨ao, b, off, cap, ao1, b1, off1, cap1, ao2, b2, off2, cap2, h2, h3, h4, h5⟩, _⟩ := h.atD k hk
  exact ⟨_, _, _, _, _, _, _, _, _, _, _, _, h2 ▸ h1, h3, h4, h5⟩
theorem term_atK {w : World} {E : List Nat} {ao : Option Addr} {b off cap : Nat} {l : List TermL} (h : RowRK w E ao b off cap l) (k : Nat) (hk : k < l.length) :
    ∃ aoW bW offW capW aoQ bQ offQ capQ aoF bF offF capF, ∀ w', Evo w w' E → At w' b (off + k * 3) [.slice aoW (l.getD k default).words.length capW, .slice aoQ (l.getD k default).req.length capQ, .slice aoF (l.getD k default).forb.length capF] ∧ RowE w' aoW bW offW capW (l.getD k default).words ∧ RowE w' aoQ bQ offQ capQ (l.getD k default).req ∧ RowE w' aoF bF offF capF (l.getD k default).forb := by
  obtain ⟨cs, h1⟩ := h.atD k hk
  obtain ⟨ao, b, off, cap, ao1, b1, off1, cap1, ao2, b2, off2, cap2, h2, h3, h4, h5⟩ := (h1 w (Evo.refl _ _)).2.1
  refine ⟨ao, b, off, cap, ao1, b1, off1, cap1, ao2, b2, off2, cap2, fun w' he => ⟨h2 ▸ (h1 w' he).1, ?_⟩⟩
  obtain ⟨ao', b', off', cap', ao1', b1', off1', cap1', ao2', b2', off2', cap2', h2', h3', h4', h5'⟩ := (h1 w' he).2.1
  rw [h2] at h2'
  simp only [List.cons.injEq, Value.slice.injEq, and_true, true_and] at h2'
  obtain ⟨⟨rfl, rfl⟩, ⟨rfl, rfl⟩, rfl, rfl⟩ := h2'
  exact ⟨rowE_same h3' h3, rowE_same h4' h4, rowE_same h5' h5⟩
theorem term_bd {w : World} {ao : Option Addr} {b off cap : Nat} {l : List TermL} (h : RowR w ao b off cap l) : ∀ x ∈ l, x.words.length ≤ 4398046510976 ∧ ∀ y ∈ x.words, BdE y := fun x hx => by
  obtain ⟨css, _, hl, hr⟩ := h
  obtain ⟨i, hi⟩ := List.getElem?_of_mem hx
  have hi2 : i < l.length := (List.getElem?_eq_some_iff.1 hi).1
  exact (hr i (css[i]'(by omega)) x (by simp [hl, hi2]) hi).2
structure SetS where
  ks : List Str
deriving Inhabited
def eU : Unit → Value := fun _ => Value.agg #[]
def SetIs (w : World) (b : Nat) (ks : List Str) : Prop := ∃ m : List (Str × Unit), MapIs w b S eU m ∧ ∀ s, (getM m s).isSome = true ↔ s ∈ ks
theorem SetIs.evo {w w' : World} {b : Nat} {ks : List Str} {E : List Nat} (h : SetIs w b ks) (he : Evo w w' E) (hn : b ∉ E) : SetIs w' b ks := by
  obtain ⟨m, h1, h2⟩ := h; exact ⟨m, h1.evo he hn, h2⟩
theorem SetIs.evo0 {w w' : World} {b : Nat} {ks : List Str} (h : SetIs w b ks) (he : Evo w w' []) : SetIs w' b ks := h.evo he (by simp)
theorem SetIs.lt {w : World} {b : Nat} {ks : List Str} (h : SetIs w b ks) : b < w.heap.size := by obtain ⟨m, h1, _⟩ := h; exact h1.lt
theorem SetIs.bd {w : World} {b : Nat} {ks : List Str} (_ : SetIs w b ks) : True := trivial
instance : Rep SetS where
  n := 1
  rep w cs x := ∃ b, cs = [.map (some b)] ∧ SetIs w b x.ks
  len := fun ⟨_, h, _⟩ => by rw [h]; rfl
  evo0 := fun ⟨b, h, hm⟩ he => ⟨b, h, hm.evo0 he⟩
  pos := by decide
theorem set_atK {w : World} {E : List Nat} {ao : Option Addr} {b off cap : Nat} {l : List SetS} (h : RowRK w E ao b off cap l) (k : Nat) (hk : k < l.length) :
    ∃ bM, ∀ w', Evo w w' E → At w' b (off + k * 1) [.map (some bM)] ∧ SetIs w' bM (l.getD k default).ks := by
  obtain ⟨cs, h1⟩ := h.atD k hk
  obtain ⟨bM, h2, _⟩ := (h1 w (Evo.refl _ _)).2
  refine ⟨bM, fun w' he => ⟨h2 ▸ (h1 w' he).1, ?_⟩⟩
  obtain ⟨b', h4, h5⟩ := (h1 w' he).2
  rw [h2] at h4
  simp only [List.cons.injEq, Value.map.injEq, Option.some.injEq, and_true] at h4
  rw [h4]; exact h5
end Go.Vc
