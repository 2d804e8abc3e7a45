/-
  Walks of functions that the statement reaches (joined by a program out of smaller texts).
-/
import Derived.Test.YtomklacppmaljaaPa
import Derived.Test.YtomklacppmaljaaLb
import Derived.Test.YtomklacppmaljaaRows
import Derived.Test.YtomklacppmaljaaPu
import Derived.Test.YtomklacppmaljaaByt
import Derived.Test.YtomklacppmaljaaClr
import Derived.Test.YtomklacppmaljaaClo
import Derived.Test.YtomklacppmaljaaItr
import Derived.Test.YtomklacppmaljaaSrt
import Derived.Test.YtomklacppmaljaaPw
import Derived.Test.YtomklacppmaljaaEqe
import Derived.Test.YtomklacppmaljaaCl9
import Derived.Test.YtomklacppmaljaaApk
import Derived.Test.YtomklacppmaljaaCls
import Derived.Test.YtomklacppmaljaaPv
namespace Go.Proofs.Ytomklacppmaljaa
open Go.RowKit Go.Vc
theorem ag_5 : aggP Try.prog 5 = some false := by kernel_rfl
theorem ty_5 : tyP Try.prog 5 = some (1, 1, some (.int .u8 0)) := by kernel_rfl
theorem rclass_calls {c : UInt8} {w0 : World}  :
    Calls Try.prog 153 #[.int .u8 ((c.toNat : Nat) : Int)] w0 fun e w' => e = .returned (.int .i64 (clsB c)) ∧ Evo w0 w' [] := by
 refine calls_enter (n := 51) (args := [.int .u8 ((c.toNat : Nat) : Int)]) Try.func153 rfl Try.ntmps153 rfl ?_
 have hV : Evo w0 w0 [] := Evo.refl _ _
 refine r_seq ?_
 refine r_region ?_
 refine r_op rfl rfl rfl (run_asg (v := .int _ _) rfl (by exact rfl)) ?_
 refine r_nil ?_
 refine r_seq ?_
 refine r_block ?_
 refine r_seq ?_
 refine r_region ?_
 refine r_op rfl rfl rfl (run_mv (v := .int _ _) rfl (by exact rfl)) ?_
 refine r_op rfl rfl rfl (run_eql rfl (by exact rfl) (by exact rfl)) ?_
 refine r_op rfl rfl rfl (run_mv (v := .bool _) rfl (by exact rfl)) ?_
 refine r_g rfl (wantF (by exact rfl)) rfl (fun hg => run_mv (v := .int _ _) rfl (by exact rfl)) ?_
 refine r_g rfl (wantF (by exact rfl)) rfl (fun hg => run_eql rfl (glv (by exact rfl) (fun h => h) hg) (by exact rfl)) ?_
 refine r_op rfl rfl rfl (run_pick_or rfl (by exact rfl) rfl (fun hq => glv (by exact rfl) (fun h => h) hq)) ?_
 refine r_op rfl rfl rfl (run_mv (v := .bool _) rfl (by exact rfl)) ?_
 refine r_g rfl (wantF (by exact rfl)) rfl (fun hg => run_mv (v := .int _ _) rfl (by exact rfl)) ?_
 refine r_g rfl (wantF (by exact rfl)) rfl (fun hg => run_eql rfl (glv (by exact rfl) (fun h => h) hg) (by exact rfl)) ?_
 refine r_op rfl rfl rfl (run_pick_or rfl (by exact rfl) rfl (fun hq => glv (by exact rfl) (fun h => h) hq)) ?_
 refine r_op rfl rfl rfl (run_mv (v := .bool _) rfl (by exact rfl)) ?_
 refine r_g rfl (wantF (by exact rfl)) rfl (fun hg => run_mv (v := .int _ _) rfl (by exact rfl)) ?_
 refine r_g rfl (wantF (by exact rfl)) rfl (fun hg => run_eql rfl (glv (by exact rfl) (fun h => h) hg) (by exact rfl)) ?_
 refine r_op rfl rfl rfl (run_pick_or rfl (by exact rfl) rfl (fun hq => glv (by exact rfl) (fun h => h) hq)) ?_
 refine r_op rfl rfl rfl (run_asg (v := .bool _) rfl (by exact rfl)) ?_
 refine r_nil ?_
 refine r_cond (by exact rfl) (fun hc1 => ?_) (fun hc1 => ?_)
 ·skip
  refine r_seq ?_
  refine r_region ?_
  refine r_op rfl rfl rfl (run_asg (v := .int _ _) rfl (by exact rfl)) ?_
  refine r_nil ?_
  refine r_ret (res1 (v := .int _ _) rfl (by exact rfl)) ?_
  exact ⟨ret_int (by rw [cls_space (by omega)]), hV⟩
 ·skip
  refine r_seq ?_
  refine r_region ?_
  refine r_op rfl rfl rfl (run_mv (v := .int _ _) rfl (by exact rfl)) ?_
  refine r_op rfl rfl rfl (run_lss rfl (by exact rfl) (by exact rfl)) ?_
  refine r_op rfl rfl rfl (run_mv (v := .bool _) rfl (by exact rfl)) ?_
  refine r_g rfl (wantF (by exact rfl)) rfl (fun hg => run_mv (v := .int _ _) rfl (by exact rfl)) ?_
  refine r_g rfl (wantF (by exact rfl)) rfl (fun hg => run_eql rfl (glv (by exact rfl) (fun h => h) hg) (by exact rfl)) ?_
  refine r_op rfl rfl rfl (run_pick_or rfl (by exact rfl) rfl (fun hq => glv (by exact rfl) (fun h => h) hq)) ?_
  refine r_op rfl rfl rfl (run_asg (v := .bool _) rfl (by exact rfl)) ?_
  refine r_nil ?_
  refine r_cond (by exact rfl) (fun hc2 => ?_) (fun hc2 => ?_)
  ·skip
   refine r_seq ?_
   refine r_region ?_
   refine r_op rfl rfl rfl (run_asg (v := .int _ _) rfl (by exact rfl)) ?_
   refine r_nil ?_
   refine r_ret (res1 (v := .int _ _) rfl (by exact rfl)) ?_
   exact ⟨ret_int (by rw [cls_control (by omega) (by omega)]), hV⟩
  ·skip
   refine r_seq ?_
   refine r_region ?_
   refine r_op rfl rfl rfl (run_mv (v := .int _ _) rfl (by exact rfl)) ?_
   refine r_op rfl rfl rfl (run_geq rfl (by exact rfl) (by exact rfl)) ?_
   refine r_op rfl rfl rfl (run_mv (v := .bool _) rfl (by exact rfl)) ?_
   refine r_g rfl (wantT (by exact rfl)) rfl (fun hg => run_mv (v := .int _ _) rfl (by exact rfl)) ?_
   refine r_g rfl (wantT (by exact rfl)) rfl (fun hg => run_leq rfl (glv (by exact rfl) (fun h => h) hg) (by exact rfl)) ?_
   refine r_op rfl rfl rfl (run_pick_and rfl (by exact rfl) (fun hq => glv (by exact rfl) (fun h => h) hq) rfl) ?_
   refine r_op rfl rfl rfl (run_asg (v := .bool _) rfl (by exact rfl)) ?_
   refine r_nil ?_
   refine r_cond (by exact rfl) (fun hc3 => ?_) (fun hc3 => ?_)
   ·skip
    refine r_seq ?_
    refine r_region ?_
    refine r_op rfl rfl rfl (run_asg (v := .int _ _) rfl (by exact rfl)) ?_
    refine r_nil ?_
    refine r_ret (res1 (v := .int _ _) rfl (by exact rfl)) ?_
    exact ⟨ret_int (by rw [cls_digit (by omega)]), hV⟩
   ·skip
    refine r_seq ?_
    refine r_region ?_
    refine r_op rfl rfl rfl (run_mv (v := .int _ _) rfl (by exact rfl)) ?_
    refine r_op rfl rfl rfl (run_geq rfl (by exact rfl) (by exact rfl)) ?_
    refine r_op rfl rfl rfl (run_mv (v := .bool _) rfl (by exact rfl)) ?_
    refine r_g rfl (wantT (by exact rfl)) rfl (fun hg => run_mv (v := .int _ _) rfl (by exact rfl)) ?_
    refine r_g rfl (wantT (by exact rfl)) rfl (fun hg => run_leq rfl (glv (by exact rfl) (fun h => h) hg) (by exact rfl)) ?_
    refine r_op rfl rfl rfl (run_pick_and rfl (by exact rfl) (fun hq => glv (by exact rfl) (fun h => h) hq) rfl) ?_
    refine r_op rfl rfl rfl (run_mv (v := .bool _) rfl (by exact rfl)) ?_
    refine r_g rfl (wantF (by exact rfl)) rfl (fun hg => run_mv (v := .int _ _) rfl (by exact rfl)) ?_
    refine r_g rfl (wantF (by exact rfl)) rfl (fun hg => run_geq rfl (glv (by exact rfl) (fun h => h) hg) (by exact rfl)) ?_
    refine r_g rfl (wantF (by exact rfl)) rfl (fun hg => run_mv (v := .bool _) rfl (glv (by exact rfl) (fun h => h) hg)) ?_
    refine r_g rfl (wantTg (by exact rfl)) rfl (fun hg => run_mv (v := .int _ _) rfl (by exact rfl)) ?_
    refine r_g rfl (wantTg (by exact rfl)) rfl (fun hg => run_leq rfl (glv (by exact rfl) (fun h => h) hg) (by exact rfl)) ?_
    refine r_g rfl (wantF (by exact rfl)) rfl (fun hg => run_pick_and rfl (glv (by exact rfl) (fun h => h) hg) (fun hq => glv (by exact rfl) (fun h => h) (And.intro hg hq)) rfl) ?_
    refine r_op rfl rfl rfl (run_pick_or rfl (by exact rfl) rfl (fun hq => glv (by exact rfl) (fun h => h) hq)) ?_
    refine r_op rfl rfl rfl (run_mv (v := .bool _) rfl (by exact rfl)) ?_
    refine r_g rfl (wantF (by exact rfl)) rfl (fun hg => run_mv (v := .int _ _) rfl (by exact rfl)) ?_
    refine r_g rfl (wantF (by exact rfl)) rfl (fun hg => run_geq rfl (glv (by exact rfl) (fun h => h) hg) (by exact rfl)) ?_
    refine r_op rfl rfl rfl (run_pick_or rfl (by exact rfl) rfl (fun hq => glv (by exact rfl) (fun h => h) hq)) ?_
    refine r_op rfl rfl rfl (run_asg (v := .bool _) rfl (by exact rfl)) ?_
    refine r_nil ?_
    refine r_cond (by exact rfl) (fun hc4 => ?_) (fun hc4 => ?_)
    ·skip
     refine r_seq ?_
     refine r_region ?_
     refine r_op rfl rfl rfl (run_asg (v := .int _ _) rfl (by exact rfl)) ?_
     refine r_nil ?_
     refine r_ret (res1 (v := .int _ _) rfl (by exact rfl)) ?_
     exact ⟨ret_int (by rw [cls_letter (by omega)]), hV⟩
    ·skip
     refine r_skip ?_
     refine r_blk ?_
     refine r_seq ?_
     refine r_region ?_
     refine r_op rfl rfl rfl (run_asg (v := .int _ _) rfl (by exact rfl)) ?_
     refine r_nil ?_
     refine r_ret (res1 (v := .int _ _) rfl (by exact rfl)) ?_
     exact ⟨ret_int (by rw [cls_mark (by omega) (by omega) (by omega) (by omega)]), hV⟩

theorem lower_calls {s : Str} {w0 : World} (hs : s.length ≤ 140737488355328) :
    Calls Try.prog 70 #[S s] w0 fun e w' => e = .returned (S (lowS s)) ∧ Evo w0 w' [] := by
 refine calls_enter (n := 30) (args := [S s]) Try.func70 rfl Try.ntmps70 rfl ?_
 have hV : Evo w0 w0 [] := Evo.refl _ _
 refine r_seq ?_
 refine r_region ?_
 refine r_op rfl rfl rfl (run_asg (v := S _) rfl (by exact rfl)) ?_
 refine r_nil ?_
 refine r_seq ?_
 refine r_region ?_
 refine r_op rfl rfl rfl (run_mv (v := S _) rfl (by exact rfl)) ?_
 refine r_cvSB rfl Try.underlying9 Try.underlying52 Try.underlying5 (by exact rfl) (by first | omega | (simp; omega)) ?_
 intro b1 capb1 w2 heb1 hEw2 hyb1 hzb1
 have hs_w2 := (hEw2).size
 replace hV := evo_step0 hV hEw2
 have hrb1 := hyb1.row
 refine r_op rfl rfl rfl (run_asg (v := .slice (some ⟨b1, 0, none⟩) _ _) rfl (by exact rfl)) ?_
 refine r_nil ?_
 refine r_seq ?_
 refine r_seq ?_
 refine r_region ?_
 refine r_op rfl rfl rfl (run_mv (v := .slice (some ⟨b1, 0, none⟩) _ _) rfl (by exact rfl)) ?_
 refine r_op rfl rfl rfl (run_lenSl rfl (by exact rfl) Try.underlying52) ?_
 refine r_op rfl rfl rfl (run_mv (v := .int _ _) rfl (by exact rfl)) ?_
 refine r_nil ?_
 refine r_block ?_
 refine r_loop (α := Nat) [4, 5, 10, 11, 12, 13, 14, 15, 16, 17, 18, 19, 20, 21, 22, 23, 24, 25, 26, 27] (fun k g w => g 10 = .int .i64 (k : Nat) ∧ k ≤ s.length ∧ ByB w b1 capb1 (lowK s k) ∧ RowE w (some ⟨b1, 0, none⟩) b1 0 capb1 (lowK s k) ∧ w2.heap.size ≤ w.heap.size ∧ Evo w0 w []) (fun k => s.length - k) 0 ?_ ?_
 ·refine ⟨(by first | exact rfl | exact congrArg (Value.int _) (by omega) | exact congrArg (Value.int _) (by dsimp only; omega) | exact congrArg (Value.int _) (by simp) | exact congrArg S (by simp)), (by first | assumption | omega | (dsimp only; omega) | (simp; done)), (by rw [lowK_zero]; exact hyb1), (by rw [lowK_zero]; exact hrb1), (by first | assumption | omega | (dsimp only; omega) | (simp; done)), hV⟩
 ·rintro k g w4 ⟨hj5, hk_k, hyb1, hrb1, hzl3, hV⟩
  have hs_w4hV := hV.size
  refine r_know (i := 10) (v := .int .i64 (k : Nat)) (by exact hj5) ?_
  have hll := lowK_len s k
  have hlg := fun h => lowK_get (s := s) (k := k) h
  have hln := fun h => congrArg UInt8.toNat (lowK_get (s := s) (k := k) h)
  refine r_seq ?_
  refine r_region ?_
  refine r_op rfl rfl rfl (run_lss rfl (by exact rfl) (by exact rfl)) ?_
  refine r_nil ?_
  refine r_seq ?_
  refine r_cond (by exact rfl) (fun hc6 => ?_) (fun hc6 => ?_)
  ·skip
   refine r_skip ?_
   refine r_seq ?_
   refine r_block ?_
   refine r_seq ?_
   refine r_region ?_
   refine r_op rfl rfl rfl (run_mv (v := .int _ _) rfl (by exact rfl)) ?_
   refine r_op rfl rfl rfl (run_ix (k) rfl Try.underlying52 ty_5 (by exact rfl) (by exact rfl) (by first | exact rfl | omega) (by omega) (hrb1.addr (i := k) (by omega))) ?_
   have hA7 := hrb1.atD (k) (by omega)
   refine r_op rfl rfl rfl (run_ld1 rfl ag_5 (by exact rfl) (hA7.cell 0 (by exact rfl))) ?_
   refine r_op rfl rfl rfl (run_asg (v := .int _ _) rfl (by exact rfl)) ?_
   refine r_op rfl rfl rfl (run_asg (v := .int _ _) rfl (by exact rfl)) ?_
   refine r_nil ?_
   refine r_seq ?_
   refine r_region ?_
   refine r_op rfl rfl rfl (run_mv (v := .int _ _) rfl (by exact rfl)) ?_
   refine r_op rfl rfl rfl (run_geq rfl (by exact rfl) (by exact rfl)) ?_
   refine r_op rfl rfl rfl (run_mv (v := .bool _) rfl (by exact rfl)) ?_
   refine r_g rfl (wantT (by exact rfl)) rfl (fun hg => run_mv (v := .int _ _) rfl (by exact rfl)) ?_
   refine r_g rfl (wantT (by exact rfl)) rfl (fun hg => run_leq rfl (glv (by exact rfl) (fun h => h) hg) (by exact rfl)) ?_
   refine r_op rfl rfl rfl (run_pick_and rfl (by exact rfl) (fun hq => glv (by exact rfl) (fun h => h) hq) rfl) ?_
   refine r_nil ?_
   refine r_cond (by exact rfl) (fun hc8 => ?_) (fun hc8 => ?_)
   ·skip
    refine r_region ?_
    refine r_op rfl rfl rfl (run_mv (v := .slice (some ⟨b1, 0, none⟩) _ _) rfl (by exact rfl)) ?_
    refine r_op rfl rfl rfl (run_mv (v := .int _ _) rfl (by exact rfl)) ?_
    refine r_op rfl rfl rfl (run_mv (v := .int _ _) rfl (by exact rfl)) ?_
    refine r_op rfl rfl rfl (run_addw rfl (by exact rfl) (by exact rfl)) ?_
    refine r_op rfl rfl rfl (run_subw rfl (by exact rfl) (by exact rfl)) ?_
    refine r_op rfl rfl rfl (run_ix (k) rfl Try.underlying52 ty_5 (by exact rfl) (by exact rfl) (by first | exact rfl | omega) (by omega) (hrb1.addr (i := k) (by omega))) ?_
    have hA9 := hrb1.atD (k) (by omega)
    refine r_storeBy2 (k) ((lwB (s.getD k 0))) (by exact rfl) (by first | omega | (show 0 + _ * 1 = _; omega)) (by exact rfl) (by have h8 := hlg (by omega); refine Eq.trans ?_ (low_add (c := s.getD k 0) (by rw [← h8]; omega) (by rw [← h8]; omega)); rw [h8]) hyb1 (by omega) ty_5 ?_
    intro w10 hEw10 hzw10 hy_new
    have hs_w10 := (hEw10).size
    replace hV := evo_step1 hV hEw10 (by first | exact .inl (by omega) | exact .inr (by simp))
    have hyb1 := hy_new
    have hrb1 := hyb1.row
    clear hy_new
    refine r_nil ?_
    refine r_blk ?_
    refine r_region ?_
    refine r_op rfl rfl rfl (run_add rfl (by exact rfl) (by exact rfl) (by omega) (by omega)) ?_
    refine r_op rfl rfl rfl (run_mv (v := .int _ _) rfl (by exact rfl)) ?_
    refine r_nil ?_
    refine r_again (k + 1) ?_ ?_ ?_
    ·first | omega | (dsimp only; omega)
    ·refine ⟨(by first | exact rfl | exact congrArg (Value.int _) (by omega) | exact congrArg (Value.int _) (by dsimp only; omega) | exact congrArg (Value.int _) (by simp) | exact congrArg S (by simp)), (by first | assumption | omega | (dsimp only; omega) | (simp; done)), (by first | (have h9 := hyb1; rw [lowK_set (by omega)] at h9; exact h9) | (rw [lowK_keep (by omega) (by have := hln (by omega); omega)]; exact hyb1)), (by first | (have h9 := hrb1; rw [lowK_set (by omega)] at h9; exact h9) | (rw [lowK_keep (by omega) (by have := hln (by omega); omega)]; exact hrb1)), (by first | assumption | omega | (dsimp only; omega) | (simp; done)), hV⟩
    ·repeat (first | (with_reducible exact Agree.merge _ _ _) | (with_reducible exact Agree.refl _ _) | (with_reducible refine Agree.upd ?_ _ _ rfl) | ((with_reducible refine Agree.inner ?_ ?_); (kernel_rfl)))
   ·skip
    refine r_skip ?_
    refine r_blk ?_
    refine r_region ?_
    refine r_op rfl rfl rfl (run_add rfl (by exact rfl) (by exact rfl) (by omega) (by omega)) ?_
    refine r_op rfl rfl rfl (run_mv (v := .int _ _) rfl (by exact rfl)) ?_
    refine r_nil ?_
    refine r_again (k + 1) ?_ ?_ ?_
    ·first | omega | (dsimp only; omega)
    ·refine ⟨(by first | exact rfl | exact congrArg (Value.int _) (by omega) | exact congrArg (Value.int _) (by dsimp only; omega) | exact congrArg (Value.int _) (by simp) | exact congrArg S (by simp)), (by first | assumption | omega | (dsimp only; omega) | (simp; done)), (by first | (have h9 := hyb1; rw [lowK_set (by omega)] at h9; exact h9) | (rw [lowK_keep (by omega) (by have := hln (by omega); omega)]; exact hyb1)), (by first | (have h9 := hrb1; rw [lowK_set (by omega)] at h9; exact h9) | (rw [lowK_keep (by omega) (by have := hln (by omega); omega)]; exact hrb1)), (by first | assumption | omega | (dsimp only; omega) | (simp; done)), hV⟩
    ·repeat (first | (with_reducible exact Agree.merge _ _ _) | (with_reducible exact Agree.refl _ _) | (with_reducible refine Agree.upd ?_ _ _ rfl) | ((with_reducible refine Agree.inner ?_ ?_); (kernel_rfl)))
  ·skip
   refine r_exit rfl ?_
   refine r_seq ?_
   refine r_region ?_
   refine r_op rfl rfl rfl (run_mv (v := .slice (some ⟨b1, 0, none⟩) _ _) rfl (by exact rfl)) ?_
   refine r_op rfl rfl rfl (run_cvBS rfl Try.underlying52 Try.underlying5 Try.underlying9 (by exact rfl) (by first | rfl | simp) hrb1) ?_
   refine r_op rfl rfl rfl (run_asg (v := S _) rfl (by exact rfl)) ?_
   refine r_nil ?_
   refine r_ret (res1 (v := S _) rfl (by exact rfl)) ?_
   exact ⟨by rw [← lowK_all (k := k) (by omega)], hV⟩

end Go.Proofs.Ytomklacppmaljaa

namespace Go.Proofs.Ytomklacppmaljaa
open Go.RowKit Go.Vc
theorem ag_9 : aggP Try.prog 9 = some false := by kernel_rfl
end Go.Proofs.Ytomklacppmaljaa

namespace Go.Proofs.Ytomklacppmaljaa
open Go.RowKit Go.Vc
theorem ty_9 : tyP Try.prog 9 = some (1, 16, some (.string ⟨#[]⟩)) := by kernel_rfl
end Go.Proofs.Ytomklacppmaljaa

namespace Go.Proofs.Ytomklacppmaljaa
open Go.RowKit Go.Vc
theorem ag_3 : aggP Try.prog 3 = some false := by kernel_rfl
theorem ty_3 : tyP Try.prog 3 = some (1, 8, some (.int .i64 0)) := by kernel_rfl
end Go.Proofs.Ytomklacppmaljaa

namespace Go.Proofs.Ytomklacppmaljaa
open Go.RowKit Go.Vc

theorem u8i {c d : UInt8} : ((c.toNat : Nat) : Int) = ((d.toNat : Nat) : Int) ↔ c = d := ⟨fun h => UInt8.toNat_inj.1 (by omega), fun h => by rw [h]⟩
theorem wd_iff {c : UInt8} : wdB c = true ↔ (clsB c = 4 ∨ clsB c = 3) := by unfold wdB; simp
theorem dg_iff {c : UInt8} : dgtB c = true ↔ clsB c = 3 := by unfold dgtB; simp

section
variable {inner : UInt8 → Bool} {a b : UInt8} {s : Str} {n : Nat}
theorem jn_twoC (hi : inner (s.getD n 0) = false) (hc : (((((s.getD n 0).toNat : Nat) : Int) = (((([a, b] : Str).getD 0 0).toNat : Nat) : Int) ∨ (((s.getD n 0).toNat : Nat) : Int) = (((([a, b] : Str).getD 1 0).toNat : Nat) : Int)) ∧ (n : Int) + 1 < (s.length : Int)) ∧ inner (s.getD (n + 1) 0) = true) :
    jnL inner a b (s.drop n) = 2 + jnL inner a b (s.drop (n + 2)) :=
  jn_two (by omega) (by show ¬ inner (s.getD n 0) = true; rw [hi]; simp) (hc.1.1.imp u8i.1 u8i.1) hc.2
theorem jn_noC (hn : n < s.length) (hi : inner (s.getD n 0) = false) (hc : ¬ ((((((s.getD n 0).toNat : Nat) : Int) = (((([a, b] : Str).getD 0 0).toNat : Nat) : Int) ∨ (((s.getD n 0).toNat : Nat) : Int) = (((([a, b] : Str).getD 1 0).toNat : Nat) : Int)) ∧ (n : Int) + 1 < (s.length : Int)) ∧ inner (s.getD (n + 1) 0) = true)) :
    jnL inner a b (s.drop n) = 0 := by
  refine jn_no hn (by show ¬ inner (s.getD n 0) = true; rw [hi]; simp) ?_
  by_cases h1 : s.getD n 0 = a ∨ s.getD n 0 = b
  · by_cases h2 : n + 1 < s.length
    · exact .inr (.inr fun h3 => hc ⟨⟨h1.imp u8i.2 u8i.2, by omega⟩, h3⟩)
    · exact .inr (.inl h2)
  · exact .inl h1
theorem wd_iffF {c : UInt8} : wdB c = false ↔ ¬ (clsB c = 4 ∨ clsB c = 3) := by rw [← wd_iff]; simp
theorem dg_iffF {c : UInt8} : dgtB c = false ↔ ¬ clsB c = 3 := by rw [← dg_iff]; simp
end

theorem bl_noC {s : Str} {k : Nat} (hk : k ≤ s.length) (h : ¬ ((k : Int) < (s.length : Int) ∧ clsB (s.getD k 0) = 2)) : blL (s.drop k) = 0 := by
  by_cases h1 : k < s.length
  · exact bl_no h1 (fun h2 => h ⟨by omega, h2⟩)
  · exact bl_end (by omega)
theorem word_no {s : Str} (h : s = [] ∨ ¬ clsB (s.getD 0 default) = 4) : wordL s = 0 := by unfold wordL; rw [if_neg (by rintro ⟨h1, h2⟩; exact h.elim (fun h => h1 h) (fun h => h h2))]
theorem num_no {s : Str} (h : s = [] ∨ ¬ clsB (s.getD 0 default) = 3) : numL s = 0 := by unfold numL; rw [if_neg (by rintro ⟨h1, h2⟩; exact h.elim (fun h => h1 h) (fun h => h h2))]
theorem word_go {s : Str} (h : ¬ (s = [] ∨ ¬ clsB (s.getD 0 default) = 4)) : wordL s = 1 + jnL wdB 39 45 (s.drop 1) := by unfold wordL; rw [if_pos ⟨fun e => h (.inl e), Classical.not_not.1 fun e => h (.inr e)⟩]
theorem num_go {s : Str} (h : ¬ (s = [] ∨ ¬ clsB (s.getD 0 default) = 3)) : numL s = 1 + jnL dgtB 46 44 (s.drop 1) := by unfold numL; rw [if_pos ⟨fun e => h (.inl e), Classical.not_not.1 fun e => h (.inr e)⟩]
theorem ne_nil_len {s : Str} (h : ¬ s = []) : 1 ≤ s.length := List.length_pos_iff.2 h
theorem ne_len {s : Str} {q : Prop} (h : ¬ (s = [] ∨ q)) : 1 ≤ s.length := List.length_pos_iff.2 fun e => h (.inl e)

theorem rw_two {s : Str} {k : Nat} (h1 : ¬ (clsB (s.getD k 0) = 4 ∨ clsB (s.getD k 0) = 3)) (h2 : ((((s.getD k 0).toNat : Nat) : Int) = 39 ∨ (((s.getD k 0).toNat : Nat) : Int) = 45) ∧ (k : Int) + 1 < (s.length : Int)) (h3 : clsB (s.getD (k + 1) 0) = 4 ∨ clsB (s.getD (k + 1) 0) = 3) :
    jnL wdB 39 45 (s.drop k) = 2 + jnL wdB 39 45 (s.drop (k + 2)) := jn_twoC (wd_iffF.2 h1) ⟨⟨h2.1, h2.2⟩, wd_iff.2 h3⟩
theorem rw_no {s : Str} {k : Nat} (hk : k < s.length) (h1 : ¬ (clsB (s.getD k 0) = 4 ∨ clsB (s.getD k 0) = 3)) (h2 : ¬ ((((((s.getD k 0).toNat : Nat) : Int) = 39 ∨ (((s.getD k 0).toNat : Nat) : Int) = 45) ∧ (k : Int) + 1 < (s.length : Int)) ∧ (clsB (s.getD (k + 1) 0) = 4 ∨ clsB (s.getD (k + 1) 0) = 3))) :
    jnL wdB 39 45 (s.drop k) = 0 := jn_noC hk (wd_iffF.2 h1) (fun h => h2 ⟨⟨h.1.1, h.1.2⟩, wd_iff.1 h.2⟩)
theorem rn_two {s : Str} {k : Nat} (h1 : ¬ clsB (s.getD k 0) = 3) (h2 : (((((s.getD k 0).toNat : Nat) : Int) = 46 ∨ (((s.getD k 0).toNat : Nat) : Int) = 44) ∧ (k : Int) + 1 < (s.length : Int)) ∧ clsB (s.getD (k + 1) 0) = 3) :
    jnL dgtB 46 44 (s.drop k) = 2 + jnL dgtB 46 44 (s.drop (k + 2)) := jn_twoC (dg_iffF.2 h1) ⟨⟨h2.1.1, h2.1.2⟩, dg_iff.2 h2.2⟩
theorem rn_no {s : Str} {k : Nat} (hk : k < s.length) (h1 : ¬ clsB (s.getD k 0) = 3) (h2 : ¬ ((((((s.getD k 0).toNat : Nat) : Int) = 46 ∨ (((s.getD k 0).toNat : Nat) : Int) = 44) ∧ (k : Int) + 1 < (s.length : Int)) ∧ clsB (s.getD (k + 1) 0) = 3)) :
    jnL dgtB 46 44 (s.drop k) = 0 := jn_noC hk (dg_iffF.2 h1) (fun h => h2 ⟨⟨h.1.1, h.1.2⟩, dg_iff.1 h.2⟩)

theorem rword_calls {s : Str} {w0 : World} (hs : s.length ≤ 140737488355328) :
    Calls Try.prog 161 #[S s] w0 fun e w' => e = .returned (.int .i64 ((wordL s : Nat) : Int)) ∧ Evo w0 w' [] := by
 refine calls_enter (n := 61) (args := [S s]) Try.func161 rfl Try.ntmps161 rfl ?_
 have hV : Evo w0 w0 [] := Evo.refl _ _
 refine r_seq ?_
 refine r_region ?_
 refine r_op rfl rfl rfl (run_asg (v := .int _ _) rfl (by exact rfl)) ?_
 refine r_nil ?_
 refine r_seq ?_
 refine r_seq ?_
 refine r_region ?_
 refine r_op rfl rfl rfl (run_mv (v := S _) rfl (by exact rfl)) ?_
 refine r_op rfl rfl rfl (run_seql rfl (by exact rfl) (by exact rfl)) ?_
 refine r_op rfl rfl rfl (run_mv (v := .bool _) rfl (by exact rfl)) ?_
 refine r_g rfl (wantF (by exact rfl)) rfl (fun hg => run_mv (v := S _) rfl (by exact rfl)) ?_
 refine r_g rfl (wantF (by exact rfl)) rfl (fun hg => run_ixS (0) rfl Try.underlying9 (glv (by exact rfl) (fun h => h) hg) (by exact rfl) (by first | exact rfl | omega) (by have := ne_nil_len hg; omega)) ?_
 refine r_gcall rfl (wantF (by exact rfl)) rfl (fun hg => run_callf rfl (argcons (v := .int _ _) (glv (by exact rfl) (fun h => h) hg) (rfl)) Try.func153 rfl (by kernel_rfl)) (fun hg => (rclass_calls ).mono (fun e w' h => ⟨h.1, h.2⟩)) (fun w1 hE2 => ?_)
 have hs_w1 := (hE2).size
 replace hV := evo_step0 hV hE2
 refine r_g rfl (wantF (by exact rfl)) rfl (fun hg => run_neq rfl (glv (by exact rfl) (fun h => h) hg) (by exact rfl)) ?_
 refine r_op rfl rfl rfl (run_pick_or rfl (by exact rfl) rfl (fun hq => glv (by exact rfl) (fun h => h) hq)) ?_
 refine r_nil ?_
 refine r_cond (by exact rfl) (fun hc3 => ?_) (fun hc3 => ?_)
 ·skip
  refine r_seq ?_
  refine r_region ?_
  refine r_op rfl rfl rfl (run_asg (v := .int _ _) rfl (by exact rfl)) ?_
  refine r_nil ?_
  refine r_ret (res1 (v := .int _ _) rfl (by exact rfl)) ?_
  exact ⟨ret_int (by rw [word_no hc3]; rfl), hV⟩
 ·skip
  refine r_skip ?_
  refine r_seq ?_
  have hs1 := ne_len hc3
  refine r_region ?_
  refine r_op rfl rfl rfl (run_asg (v := .int _ _) rfl (by exact rfl)) ?_
  refine r_nil ?_
  refine r_seq ?_
  refine r_block ?_
  refine r_loop (α := Nat) [3, 4, 5, 14, 15, 16, 17, 18, 19, 20, 21, 22, 23, 24, 25, 26, 27, 28, 29, 30, 31, 32, 33, 34, 35, 36, 37, 38, 39, 40, 41, 42, 43, 44, 45, 46, 47, 48, 49, 50, 51, 52, 53, 54, 55, 56, 57, 58, 59] (fun k g w => g 3 = .int .i64 (k : Nat) ∧ (1 ≤ k ∧ k ≤ s.length) ∧ k + jnL wdB 39 45 (s.drop k) = 1 + jnL wdB 39 45 (s.drop 1) ∧ w1.heap.size ≤ w.heap.size ∧ Evo w0 w []) (fun k => s.length - k) 1 ?_ ?_
  ·refine ⟨rfl, (by first | assumption | omega | (dsimp only; omega) | (simp; done)), (by first | assumption | omega | (dsimp only; omega) | (simp; done)), (by first | assumption | omega | (dsimp only; omega) | (simp; done)), hV⟩
  ·rintro k g w5 ⟨hj6, hk1, hj, hzl4, hV⟩
   have hs_w5hV := hV.size
   refine r_know (i := 3) (v := .int .i64 (k : Nat)) (by exact hj6) ?_
   refine r_seq ?_
   refine r_seq ?_
   refine r_region ?_
   refine r_op rfl rfl rfl (run_mv (v := .int _ _) rfl (by exact rfl)) ?_
   refine r_op rfl rfl rfl (run_mv (v := S _) rfl (by exact rfl)) ?_
   refine r_op rfl rfl rfl (run_lenS rfl (by exact rfl) Try.underlying9) ?_
   refine r_op rfl rfl rfl (run_lss rfl (by exact rfl) (by exact rfl)) ?_
   refine r_nil ?_
   refine r_cond (by exact rfl) (fun hc7 => ?_) (fun hc7 => ?_)
   ·skip
    refine r_skip ?_
    refine r_block ?_
    refine r_seq ?_
    refine r_region ?_
    refine r_op rfl rfl rfl (run_mv (v := S _) rfl (by exact rfl)) ?_
    refine r_op rfl rfl rfl (run_mv (v := .int _ _) rfl (by exact rfl)) ?_
    refine r_op rfl rfl rfl (run_ixS (k) rfl Try.underlying9 (by exact rfl) (by exact rfl) (by first | exact rfl | omega) (by omega)) ?_
    refine r_opcall rfl rfl rfl (run_callf (vs := [.int _ _]) rfl (by exact rfl) Try.func153 rfl (by kernel_rfl)) rclass_calls ?_
    rintro e w8 ⟨rfl, hE8⟩
    refine ⟨_, rfl, ?_⟩
    have hs_w8 := (hE8).size
    replace hV := evo_step0 hV hE8
    refine r_op rfl rfl rfl (run_asg (v := .int _ _) rfl (by exact rfl)) ?_
    refine r_nil ?_
    refine r_seq ?_
    refine r_seq ?_
    refine r_region ?_
    refine r_op rfl rfl rfl (run_mv (v := .int _ _) rfl (by exact rfl)) ?_
    refine r_op rfl rfl rfl (run_eql rfl (by exact rfl) (by exact rfl)) ?_
    refine r_op rfl rfl rfl (run_mv (v := .bool _) rfl (by exact rfl)) ?_
    refine r_g rfl (wantF (by exact rfl)) rfl (fun hg => run_mv (v := .int _ _) rfl (by exact rfl)) ?_
    refine r_g rfl (wantF (by exact rfl)) rfl (fun hg => run_eql rfl (glv (by exact rfl) (fun h => h) hg) (by exact rfl)) ?_
    refine r_op rfl rfl rfl (run_pick_or rfl (by exact rfl) rfl (fun hq => glv (by exact rfl) (fun h => h) hq)) ?_
    refine r_nil ?_
    refine r_cond (by exact rfl) (fun hc9 => ?_) (fun hc9 => ?_)
    ·skip
     refine r_seq ?_
     refine r_region ?_
     refine r_op rfl rfl rfl (run_mv (v := .int _ _) rfl (by exact rfl)) ?_
     refine r_op rfl rfl rfl (run_add rfl (by exact rfl) (by exact rfl) (by omega) (by omega)) ?_
     refine r_knowL (i := 29) (v := .int .i64 ((k + 1 : Nat) : Int)) (congrArg (Value.int _) (by omega)) ?_
     refine r_op rfl rfl rfl (run_asg (v := .int _ _) rfl (by exact rfl)) ?_
     refine r_nil ?_
     refine r_exit rfl ?_
     refine r_again (k + 1) ?_ ?_ ?_
     ·first | omega | (dsimp only; omega)
     ·refine ⟨rfl, (by first | assumption | omega | (dsimp only; omega) | (simp; done)), (by first | (have h8 := jn_in (inner := wdB) (a := 39) (b := 45) (s := s) (n := k) (by omega) (wd_iff.2 hc9); omega) | (have h8 := rw_two (s := s) (k := k) (by assumption) (by assumption) hc9; omega)), (by first | assumption | omega | (dsimp only; omega) | (simp; done)), hV⟩
     ·repeat (first | (with_reducible exact Agree.merge _ _ _) | (with_reducible exact Agree.refl _ _) | (with_reducible refine Agree.upd ?_ _ _ rfl) | ((with_reducible refine Agree.inner ?_ ?_); (kernel_rfl)))
    ·skip
     refine r_skip ?_
     refine r_seq ?_
     refine r_seq ?_
     refine r_region ?_
     refine r_op rfl rfl rfl (run_mv (v := S _) rfl (by exact rfl)) ?_
     refine r_op rfl rfl rfl (run_mv (v := .int _ _) rfl (by exact rfl)) ?_
     refine r_op rfl rfl rfl (run_ixS (k) rfl Try.underlying9 (by exact rfl) (by exact rfl) (by first | exact rfl | omega) (by omega)) ?_
     refine r_op rfl rfl rfl (run_eql rfl (by exact rfl) (by exact rfl)) ?_
     refine r_op rfl rfl rfl (run_mv (v := .bool _) rfl (by exact rfl)) ?_
     refine r_g rfl (wantF (by exact rfl)) rfl (fun hg => run_mv (v := S _) rfl (by exact rfl)) ?_
     refine r_g rfl (wantF (by exact rfl)) rfl (fun hg => run_mv (v := .int _ _) rfl (by exact rfl)) ?_
     refine r_g rfl (wantF (by exact rfl)) rfl (fun hg => run_ixS (k) rfl Try.underlying9 (glv (by exact rfl) (fun h => h) hg) (glv (by exact rfl) (fun h => h) hg) (by first | exact rfl | omega) (by omega)) ?_
     refine r_g rfl (wantF (by exact rfl)) rfl (fun hg => run_eql rfl (glv (by exact rfl) (fun h => h) hg) (by exact rfl)) ?_
     refine r_op rfl rfl rfl (run_pick_or rfl (by exact rfl) rfl (fun hq => glv (by exact rfl) (fun h => h) hq)) ?_
     refine r_op rfl rfl rfl (run_mv (v := .bool _) rfl (by exact rfl)) ?_
     refine r_g rfl (wantT (by exact rfl)) rfl (fun hg => run_mv (v := .int _ _) rfl (by exact rfl)) ?_
     refine r_g rfl (wantT (by exact rfl)) rfl (fun hg => run_add rfl (glv (by exact rfl) (fun h => h) hg) (by exact rfl) (by omega) (by omega)) ?_
     refine r_g rfl (wantT (by exact rfl)) rfl (fun hg => run_mv (v := S _) rfl (by exact rfl)) ?_
     refine r_g rfl (wantT (by exact rfl)) rfl (fun hg => run_lenS rfl (glv (by exact rfl) (fun h => h) hg) Try.underlying9) ?_
     refine r_g rfl (wantT (by exact rfl)) rfl (fun hg => run_lss rfl (glv (by exact rfl) (fun h => h) hg) (glv (by exact rfl) (fun h => h) hg)) ?_
     refine r_op rfl rfl rfl (run_pick_and rfl (by exact rfl) (fun hq => glv (by exact rfl) (fun h => h) hq) rfl) ?_
     refine r_nil ?_
     refine r_cond (by exact rfl) (fun hc10 => ?_) (fun hc10 => ?_)
     ·skip
      refine r_seq ?_
      refine r_region ?_
      refine r_op rfl rfl rfl (run_mv (v := S _) rfl (by exact rfl)) ?_
      refine r_op rfl rfl rfl (run_mv (v := .int _ _) rfl (by exact rfl)) ?_
      refine r_op rfl rfl rfl (run_add rfl (by exact rfl) (by exact rfl) (by omega) (by omega)) ?_
      refine r_op rfl rfl rfl (run_ixS ((k + 1)) rfl Try.underlying9 (by exact rfl) (by exact rfl) (by omega) (by omega)) ?_
      refine r_opcall rfl rfl rfl (run_callf (vs := [.int _ _]) rfl (by exact rfl) Try.func153 rfl (by kernel_rfl)) rclass_calls ?_
      rintro e w11 ⟨rfl, hE11⟩
      refine ⟨_, rfl, ?_⟩
      have hs_w11 := (hE11).size
      replace hV := evo_step0 hV hE11
      refine r_op rfl rfl rfl (run_asg (v := .int _ _) rfl (by exact rfl)) ?_
      refine r_nil ?_
      refine r_seq ?_
      refine r_region ?_
      refine r_op rfl rfl rfl (run_mv (v := .int _ _) rfl (by exact rfl)) ?_
      refine r_op rfl rfl rfl (run_eql rfl (by exact rfl) (by exact rfl)) ?_
      refine r_op rfl rfl rfl (run_mv (v := .bool _) rfl (by exact rfl)) ?_
      refine r_g rfl (wantF (by exact rfl)) rfl (fun hg => run_mv (v := .int _ _) rfl (by exact rfl)) ?_
      refine r_g rfl (wantF (by exact rfl)) rfl (fun hg => run_eql rfl (glv (by exact rfl) (fun h => h) hg) (by exact rfl)) ?_
      refine r_op rfl rfl rfl (run_pick_or rfl (by exact rfl) rfl (fun hq => glv (by exact rfl) (fun h => h) hq)) ?_
      refine r_nil ?_
      refine r_cond (by exact rfl) (fun hc12 => ?_) (fun hc12 => ?_)
      ·skip
       refine r_seq ?_
       refine r_region ?_
       refine r_op rfl rfl rfl (run_mv (v := .int _ _) rfl (by exact rfl)) ?_
       refine r_op rfl rfl rfl (run_add rfl (by exact rfl) (by exact rfl) (by omega) (by omega)) ?_
       refine r_knowL (i := 59) (v := .int .i64 ((k + 2 : Nat) : Int)) (congrArg (Value.int _) (by omega)) ?_
       refine r_op rfl rfl rfl (run_asg (v := .int _ _) rfl (by exact rfl)) ?_
       refine r_nil ?_
       refine r_exit rfl ?_
       refine r_again (k + 2) ?_ ?_ ?_
       ·first | omega | (dsimp only; omega)
       ·refine ⟨rfl, (by first | assumption | omega | (dsimp only; omega) | (simp; done)), (by first | (have h8 := jn_in (inner := wdB) (a := 39) (b := 45) (s := s) (n := k) (by omega) (wd_iff.2 hc12); omega) | (have h8 := rw_two (s := s) (k := k) (by assumption) (by assumption) hc12; omega)), (by first | assumption | omega | (dsimp only; omega) | (simp; done)), hV⟩
       ·repeat (first | (with_reducible exact Agree.merge _ _ _) | (with_reducible exact Agree.refl _ _) | (with_reducible refine Agree.upd ?_ _ _ rfl) | ((with_reducible refine Agree.inner ?_ ?_); (kernel_rfl)))
      ·skip
       refine r_skip ?_
       refine r_exit rfl ?_
       refine r_seq ?_
       refine r_region ?_
       refine r_op rfl rfl rfl (run_mv (v := .int _ _) rfl (by exact rfl)) ?_
       refine r_op rfl rfl rfl (run_asg (v := .int _ _) rfl (by exact rfl)) ?_
       refine r_nil ?_
       refine r_ret (res1 (v := .int _ _) rfl (by exact rfl)) ?_
       exact ⟨ret_int (by have h8 := rw_no (s := s) (k := k) (by omega) (by assumption) (fun h => by first | exact hc12 h.2 | exact hc12 h.1); rw [word_go (by assumption)]; omega), hV⟩
     ·skip
      refine r_skip ?_
      refine r_exit rfl ?_
      refine r_seq ?_
      refine r_region ?_
      refine r_op rfl rfl rfl (run_mv (v := .int _ _) rfl (by exact rfl)) ?_
      refine r_op rfl rfl rfl (run_asg (v := .int _ _) rfl (by exact rfl)) ?_
      refine r_nil ?_
      refine r_ret (res1 (v := .int _ _) rfl (by exact rfl)) ?_
      exact ⟨ret_int (by have h8 := rw_no (s := s) (k := k) (by omega) (by assumption) (fun h => by first | exact hc10 h.2 | exact hc10 h.1); rw [word_go (by assumption)]; omega), hV⟩
   ·skip
    refine r_exit rfl ?_
    refine r_seq ?_
    refine r_region ?_
    refine r_op rfl rfl rfl (run_mv (v := .int _ _) rfl (by exact rfl)) ?_
    refine r_op rfl rfl rfl (run_asg (v := .int _ _) rfl (by exact rfl)) ?_
    refine r_nil ?_
    refine r_ret (res1 (v := .int _ _) rfl (by exact rfl)) ?_
    exact ⟨ret_int (by have h8 := jn_end (a := 39) (b := 45) (inner := wdB) (s := s) (n := k) (by omega); rw [word_go (by assumption)]; omega), hV⟩

theorem rnumber_calls {s : Str} {w0 : World} (hs : s.length ≤ 140737488355328) :
    Calls Try.prog 162 #[S s] w0 fun e w' => e = .returned (.int .i64 ((numL s : Nat) : Int)) ∧ Evo w0 w' [] := by
 refine calls_enter (n := 51) (args := [S s]) Try.func162 rfl Try.ntmps162 rfl ?_
 have hV : Evo w0 w0 [] := Evo.refl _ _
 refine r_seq ?_
 refine r_region ?_
 refine r_op rfl rfl rfl (run_asg (v := .int _ _) rfl (by exact rfl)) ?_
 refine r_nil ?_
 refine r_seq ?_
 refine r_seq ?_
 refine r_region ?_
 refine r_op rfl rfl rfl (run_mv (v := S _) rfl (by exact rfl)) ?_
 refine r_op rfl rfl rfl (run_seql rfl (by exact rfl) (by exact rfl)) ?_
 refine r_op rfl rfl rfl (run_mv (v := .bool _) rfl (by exact rfl)) ?_
 refine r_g rfl (wantF (by exact rfl)) rfl (fun hg => run_mv (v := S _) rfl (by exact rfl)) ?_
 refine r_g rfl (wantF (by exact rfl)) rfl (fun hg => run_ixS (0) rfl Try.underlying9 (glv (by exact rfl) (fun h => h) hg) (by exact rfl) (by first | exact rfl | omega) (by have := ne_nil_len hg; omega)) ?_
 refine r_gcall rfl (wantF (by exact rfl)) rfl (fun hg => run_callf rfl (argcons (v := .int _ _) (glv (by exact rfl) (fun h => h) hg) (rfl)) Try.func153 rfl (by kernel_rfl)) (fun hg => (rclass_calls ).mono (fun e w' h => ⟨h.1, h.2⟩)) (fun w1 hE2 => ?_)
 have hs_w1 := (hE2).size
 replace hV := evo_step0 hV hE2
 refine r_g rfl (wantF (by exact rfl)) rfl (fun hg => run_neq rfl (glv (by exact rfl) (fun h => h) hg) (by exact rfl)) ?_
 refine r_op rfl rfl rfl (run_pick_or rfl (by exact rfl) rfl (fun hq => glv (by exact rfl) (fun h => h) hq)) ?_
 refine r_nil ?_
 refine r_cond (by exact rfl) (fun hc3 => ?_) (fun hc3 => ?_)
 ·skip
  refine r_seq ?_
  refine r_region ?_
  refine r_op rfl rfl rfl (run_asg (v := .int _ _) rfl (by exact rfl)) ?_
  refine r_nil ?_
  refine r_ret (res1 (v := .int _ _) rfl (by exact rfl)) ?_
  exact ⟨ret_int (by rw [num_no hc3]; rfl), hV⟩
 ·skip
  refine r_skip ?_
  refine r_seq ?_
  have hs1 := ne_len hc3
  refine r_region ?_
  refine r_op rfl rfl rfl (run_asg (v := .int _ _) rfl (by exact rfl)) ?_
  refine r_nil ?_
  refine r_seq ?_
  refine r_block ?_
  refine r_loop (α := Nat) [3, 12, 13, 14, 15, 16, 17, 18, 19, 20, 21, 22, 23, 24, 25, 26, 27, 28, 29, 30, 31, 32, 33, 34, 35, 36, 37, 38, 39, 40, 41, 42, 43, 44, 45, 46, 47, 48, 49] (fun k g w => g 3 = .int .i64 (k : Nat) ∧ (1 ≤ k ∧ k ≤ s.length) ∧ k + jnL dgtB 46 44 (s.drop k) = 1 + jnL dgtB 46 44 (s.drop 1) ∧ w1.heap.size ≤ w.heap.size ∧ Evo w0 w []) (fun k => s.length - k) 1 ?_ ?_
  ·refine ⟨rfl, (by first | assumption | omega | (dsimp only; omega) | (simp; done)), (by first | assumption | omega | (dsimp only; omega) | (simp; done)), (by first | assumption | omega | (dsimp only; omega) | (simp; done)), hV⟩
  ·rintro k g w5 ⟨hj6, hk1, hj, hzl4, hV⟩
   have hs_w5hV := hV.size
   refine r_know (i := 3) (v := .int .i64 (k : Nat)) (by exact hj6) ?_
   refine r_seq ?_
   refine r_seq ?_
   refine r_region ?_
   refine r_op rfl rfl rfl (run_mv (v := .int _ _) rfl (by exact rfl)) ?_
   refine r_op rfl rfl rfl (run_mv (v := S _) rfl (by exact rfl)) ?_
   refine r_op rfl rfl rfl (run_lenS rfl (by exact rfl) Try.underlying9) ?_
   refine r_op rfl rfl rfl (run_lss rfl (by exact rfl) (by exact rfl)) ?_
   refine r_nil ?_
   refine r_cond (by exact rfl) (fun hc7 => ?_) (fun hc7 => ?_)
   ·skip
    refine r_skip ?_
    refine r_block ?_
    refine r_seq ?_
    refine r_seq ?_
    refine r_region ?_
    refine r_op rfl rfl rfl (run_mv (v := S _) rfl (by exact rfl)) ?_
    refine r_op rfl rfl rfl (run_mv (v := .int _ _) rfl (by exact rfl)) ?_
    refine r_op rfl rfl rfl (run_ixS (k) rfl Try.underlying9 (by exact rfl) (by exact rfl) (by first | exact rfl | omega) (by omega)) ?_
    refine r_opcall rfl rfl rfl (run_callf (vs := [.int _ _]) rfl (by exact rfl) Try.func153 rfl (by kernel_rfl)) rclass_calls ?_
    rintro e w8 ⟨rfl, hE8⟩
    refine ⟨_, rfl, ?_⟩
    have hs_w8 := (hE8).size
    replace hV := evo_step0 hV hE8
    refine r_op rfl rfl rfl (run_eql rfl (by exact rfl) (by exact rfl)) ?_
    refine r_nil ?_
    refine r_cond (by exact rfl) (fun hc9 => ?_) (fun hc9 => ?_)
    ·skip
     refine r_seq ?_
     refine r_region ?_
     refine r_op rfl rfl rfl (run_mv (v := .int _ _) rfl (by exact rfl)) ?_
     refine r_op rfl rfl rfl (run_add rfl (by exact rfl) (by exact rfl) (by omega) (by omega)) ?_
     refine r_knowL (i := 22) (v := .int .i64 ((k + 1 : Nat) : Int)) (congrArg (Value.int _) (by omega)) ?_
     refine r_op rfl rfl rfl (run_asg (v := .int _ _) rfl (by exact rfl)) ?_
     refine r_nil ?_
     refine r_exit rfl ?_
     refine r_again (k + 1) ?_ ?_ ?_
     ·first | omega | (dsimp only; omega)
     ·refine ⟨rfl, (by first | assumption | omega | (dsimp only; omega) | (simp; done)), (by first | (have h8 := jn_in (inner := dgtB) (a := 46) (b := 44) (s := s) (n := k) (by omega) (dg_iff.2 hc9); omega) | (have h8 := rn_two (s := s) (k := k) (by assumption) hc9; omega)), (by first | assumption | omega | (dsimp only; omega) | (simp; done)), hV⟩
     ·repeat (first | (with_reducible exact Agree.merge _ _ _) | (with_reducible exact Agree.refl _ _) | (with_reducible refine Agree.upd ?_ _ _ rfl) | ((with_reducible refine Agree.inner ?_ ?_); (kernel_rfl)))
    ·skip
     refine r_skip ?_
     refine r_seq ?_
     refine r_seq ?_
     refine r_region ?_
     refine r_op rfl rfl rfl (run_mv (v := S _) rfl (by exact rfl)) ?_
     refine r_op rfl rfl rfl (run_mv (v := .int _ _) rfl (by exact rfl)) ?_
     refine r_op rfl rfl rfl (run_ixS (k) rfl Try.underlying9 (by exact rfl) (by exact rfl) (by first | exact rfl | omega) (by omega)) ?_
     refine r_op rfl rfl rfl (run_eql rfl (by exact rfl) (by exact rfl)) ?_
     refine r_op rfl rfl rfl (run_mv (v := .bool _) rfl (by exact rfl)) ?_
     refine r_g rfl (wantF (by exact rfl)) rfl (fun hg => run_mv (v := S _) rfl (by exact rfl)) ?_
     refine r_g rfl (wantF (by exact rfl)) rfl (fun hg => run_mv (v := .int _ _) rfl (by exact rfl)) ?_
     refine r_g rfl (wantF (by exact rfl)) rfl (fun hg => run_ixS (k) rfl Try.underlying9 (glv (by exact rfl) (fun h => h) hg) (glv (by exact rfl) (fun h => h) hg) (by first | exact rfl | omega) (by omega)) ?_
     refine r_g rfl (wantF (by exact rfl)) rfl (fun hg => run_eql rfl (glv (by exact rfl) (fun h => h) hg) (by exact rfl)) ?_
     refine r_op rfl rfl rfl (run_pick_or rfl (by exact rfl) rfl (fun hq => glv (by exact rfl) (fun h => h) hq)) ?_
     refine r_op rfl rfl rfl (run_mv (v := .bool _) rfl (by exact rfl)) ?_
     refine r_g rfl (wantT (by exact rfl)) rfl (fun hg => run_mv (v := .int _ _) rfl (by exact rfl)) ?_
     refine r_g rfl (wantT (by exact rfl)) rfl (fun hg => run_add rfl (glv (by exact rfl) (fun h => h) hg) (by exact rfl) (by omega) (by omega)) ?_
     refine r_g rfl (wantT (by exact rfl)) rfl (fun hg => run_mv (v := S _) rfl (by exact rfl)) ?_
     refine r_g rfl (wantT (by exact rfl)) rfl (fun hg => run_lenS rfl (glv (by exact rfl) (fun h => h) hg) Try.underlying9) ?_
     refine r_g rfl (wantT (by exact rfl)) rfl (fun hg => run_lss rfl (glv (by exact rfl) (fun h => h) hg) (glv (by exact rfl) (fun h => h) hg)) ?_
     refine r_op rfl rfl rfl (run_pick_and rfl (by exact rfl) (fun hq => glv (by exact rfl) (fun h => h) hq) rfl) ?_
     refine r_op rfl rfl rfl (run_mv (v := .bool _) rfl (by exact rfl)) ?_
     refine r_g rfl (wantT (by exact rfl)) rfl (fun hg => run_mv (v := S _) rfl (by exact rfl)) ?_
     refine r_g rfl (wantT (by exact rfl)) rfl (fun hg => run_mv (v := .int _ _) rfl (by exact rfl)) ?_
     refine r_g rfl (wantT (by exact rfl)) rfl (fun hg => run_add rfl (glv (by exact rfl) (fun h => h) hg) (by exact rfl) (by omega) (by omega)) ?_
     refine r_g rfl (wantT (by exact rfl)) rfl (fun hg => run_ixS ((k + 1)) rfl Try.underlying9 (glv (by exact rfl) (fun h => h) hg) (glv (by exact rfl) (fun h => h) hg) (by omega) (by omega)) ?_
     refine r_gcall rfl (wantT (by exact rfl)) rfl (fun hg => run_callf rfl (argcons (v := .int _ _) (glv (by exact rfl) (fun h => h) hg) (rfl)) Try.func153 rfl (by kernel_rfl)) (fun hg => (rclass_calls ).mono (fun e w' h => ⟨h.1, h.2⟩)) (fun w10 hE11 => ?_)
     have hs_w10 := (hE11).size
     replace hV := evo_step0 hV hE11
     refine r_g rfl (wantT (by exact rfl)) rfl (fun hg => run_eql rfl (glv (by exact rfl) (fun h => h) hg) (by exact rfl)) ?_
     refine r_op rfl rfl rfl (run_pick_and rfl (by exact rfl) (fun hq => glv (by exact rfl) (fun h => h) hq) rfl) ?_
     refine r_nil ?_
     refine r_cond (by exact rfl) (fun hc12 => ?_) (fun hc12 => ?_)
     ·skip
      refine r_seq ?_
      refine r_region ?_
      refine r_op rfl rfl rfl (run_mv (v := .int _ _) rfl (by exact rfl)) ?_
      refine r_op rfl rfl rfl (run_add rfl (by exact rfl) (by exact rfl) (by omega) (by omega)) ?_
      refine r_knowL (i := 49) (v := .int .i64 ((k + 2 : Nat) : Int)) (congrArg (Value.int _) (by omega)) ?_
      refine r_op rfl rfl rfl (run_asg (v := .int _ _) rfl (by exact rfl)) ?_
      refine r_nil ?_
      refine r_exit rfl ?_
      refine r_again (k + 2) ?_ ?_ ?_
      ·first | omega | (dsimp only; omega)
      ·refine ⟨rfl, (by first | assumption | omega | (dsimp only; omega) | (simp; done)), (by first | (have h8 := jn_in (inner := dgtB) (a := 46) (b := 44) (s := s) (n := k) (by omega) (dg_iff.2 hc12); omega) | (have h8 := rn_two (s := s) (k := k) (by assumption) hc12; omega)), (by first | assumption | omega | (dsimp only; omega) | (simp; done)), hV⟩
      ·repeat (first | (with_reducible exact Agree.merge _ _ _) | (with_reducible exact Agree.refl _ _) | (with_reducible refine Agree.upd ?_ _ _ rfl) | ((with_reducible refine Agree.inner ?_ ?_); (kernel_rfl)))
     ·skip
      refine r_skip ?_
      refine r_exit rfl ?_
      refine r_seq ?_
      refine r_region ?_
      refine r_op rfl rfl rfl (run_mv (v := .int _ _) rfl (by exact rfl)) ?_
      refine r_op rfl rfl rfl (run_asg (v := .int _ _) rfl (by exact rfl)) ?_
      refine r_nil ?_
      refine r_ret (res1 (v := .int _ _) rfl (by exact rfl)) ?_
      exact ⟨ret_int (by have h8 := rn_no (s := s) (k := k) (by omega) (by assumption) hc12; rw [num_go (by assumption)]; omega), hV⟩
   ·skip
    refine r_exit rfl ?_
    refine r_seq ?_
    refine r_region ?_
    refine r_op rfl rfl rfl (run_mv (v := .int _ _) rfl (by exact rfl)) ?_
    refine r_op rfl rfl rfl (run_asg (v := .int _ _) rfl (by exact rfl)) ?_
    refine r_nil ?_
    refine r_ret (res1 (v := .int _ _) rfl (by exact rfl)) ?_
    exact ⟨ret_int (by have h8 := jn_end (a := 46) (b := 44) (inner := dgtB) (s := s) (n := k) (by omega); rw [num_go (by assumption)]; omega), hV⟩

theorem rblank_calls {s : Str} {w0 : World} (hs : s.length ≤ 140737488355328) :
    Calls Try.prog 163 #[S s] w0 fun e w' => e = .returned (.int .i64 ((blL s : Nat) : Int)) ∧ Evo w0 w' [] := by
 refine calls_enter (n := 18) (args := [S s]) Try.func163 rfl Try.ntmps163 rfl ?_
 have hV : Evo w0 w0 [] := Evo.refl _ _
 refine r_seq ?_
 refine r_region ?_
 refine r_op rfl rfl rfl (run_asg (v := .int _ _) rfl (by exact rfl)) ?_
 refine r_nil ?_
 refine r_seq ?_
 refine r_region ?_
 refine r_op rfl rfl rfl (run_asg (v := .int _ _) rfl (by exact rfl)) ?_
 refine r_nil ?_
 refine r_seq ?_
 refine r_block ?_
 refine r_loop (α := Nat) [3, 4, 5, 6, 7, 8, 9, 10, 11, 12, 13, 14, 15, 16] (fun k g w => g 3 = .int .i64 (k : Nat) ∧ k ≤ s.length ∧ k + blL (s.drop k) = blL s ∧ w0.heap.size ≤ w.heap.size ∧ Evo w0 w []) (fun k => s.length - k) 0 ?_ ?_
 ·refine ⟨rfl, (by first | assumption | omega | (dsimp only; omega) | (simp; done)), (by simp), (by first | assumption | omega | (dsimp only; omega) | (simp; done)), hV⟩
 ·rintro k g w2 ⟨hj3, hk1, hb, hzl1, hV⟩
  have hs_w2hV := hV.size
  refine r_know (i := 3) (v := .int .i64 (k : Nat)) (by exact hj3) ?_
  refine r_seq ?_
  refine r_seq ?_
  refine r_region ?_
  refine r_op rfl rfl rfl (run_mv (v := .int _ _) rfl (by exact rfl)) ?_
  refine r_op rfl rfl rfl (run_mv (v := S _) rfl (by exact rfl)) ?_
  refine r_op rfl rfl rfl (run_lenS rfl (by exact rfl) Try.underlying9) ?_
  refine r_op rfl rfl rfl (run_lss rfl (by exact rfl) (by exact rfl)) ?_
  refine r_op rfl rfl rfl (run_mv (v := .bool _) rfl (by exact rfl)) ?_
  refine r_g rfl (wantT (by exact rfl)) rfl (fun hg => run_mv (v := S _) rfl (by exact rfl)) ?_
  refine r_g rfl (wantT (by exact rfl)) rfl (fun hg => run_mv (v := .int _ _) rfl (by exact rfl)) ?_
  refine r_g rfl (wantT (by exact rfl)) rfl (fun hg => run_ixS (k) rfl Try.underlying9 (glv (by exact rfl) (fun h => h) hg) (glv (by exact rfl) (fun h => h) hg) (by first | exact rfl | omega) (by omega)) ?_
  refine r_gcall rfl (wantT (by exact rfl)) rfl (fun hg => run_callf rfl (argcons (v := .int _ _) (glv (by exact rfl) (fun h => h) hg) (rfl)) Try.func153 rfl (by kernel_rfl)) (fun hg => (rclass_calls ).mono (fun e w' h => ⟨h.1, h.2⟩)) (fun w4 hE5 => ?_)
  have hs_w4 := (hE5).size
  replace hV := evo_step0 hV hE5
  refine r_g rfl (wantT (by exact rfl)) rfl (fun hg => run_eql rfl (glv (by exact rfl) (fun h => h) hg) (by exact rfl)) ?_
  refine r_op rfl rfl rfl (run_pick_and rfl (by exact rfl) (fun hq => glv (by exact rfl) (fun h => h) hq) rfl) ?_
  refine r_nil ?_
  refine r_cond (by exact rfl) (fun hc6 => ?_) (fun hc6 => ?_)
  ·skip
   refine r_skip ?_
   refine r_block ?_
   refine r_region ?_
   refine r_op rfl rfl rfl (run_mv (v := .int _ _) rfl (by exact rfl)) ?_
   refine r_op rfl rfl rfl (run_add rfl (by exact rfl) (by exact rfl) (by omega) (by omega)) ?_
   refine r_op rfl rfl rfl (run_asg (v := .int _ _) rfl (by exact rfl)) ?_
   refine r_nil ?_
   refine r_blk ?_
   refine r_again (k + 1) ?_ ?_ ?_
   ·first | omega | (dsimp only; omega)
   ·refine ⟨(by first | exact rfl | exact congrArg (Value.int _) (by omega) | exact congrArg (Value.int _) (by dsimp only; omega) | exact congrArg (Value.int _) (by simp) | exact congrArg S (by simp)), (by first | assumption | omega | (dsimp only; omega) | (simp; done)), (by have h8 := bl_yes (s := s) (n := k) (by omega) hc6.2; omega), (by first | assumption | omega | (dsimp only; omega) | (simp; done)), hV⟩
   ·repeat (first | (with_reducible exact Agree.merge _ _ _) | (with_reducible exact Agree.refl _ _) | (with_reducible refine Agree.upd ?_ _ _ rfl) | ((with_reducible refine Agree.inner ?_ ?_); (kernel_rfl)))
  ·skip
   refine r_exit rfl ?_
   refine r_seq ?_
   refine r_region ?_
   refine r_op rfl rfl rfl (run_mv (v := .int _ _) rfl (by exact rfl)) ?_
   refine r_op rfl rfl rfl (run_asg (v := .int _ _) rfl (by exact rfl)) ?_
   refine r_nil ?_
   refine r_ret (res1 (v := .int _ _) rfl (by exact rfl)) ?_
   exact ⟨ret_int (by have h8 := bl_noC (s := s) (k := k) (by omega) hc6; omega), hV⟩

end Go.Proofs.Ytomklacppmaljaa

namespace Go.Proofs.Ytomklacppmaljaa
open Go.RowKit Go.Vc
theorem ag_129 : aggP Try.prog 129 = some true := by kernel_rfl
theorem fo_129_0 : fieldP Try.prog 129 0 = some 0 := by kernel_rfl
theorem fo_129_1 : fieldP Try.prog 129 1 = some 1 := by kernel_rfl
theorem fo_129_2 : fieldP Try.prog 129 2 = some 2 := by kernel_rfl
theorem pl_81 : placesP Try.prog 81 = some [(0, 1), (1, 1), (2, 1)] := by kernel_rfl
theorem ty_129 : tyP Try.prog 129 = some (3, 32, some (.agg #[(.int .i64 0), (.string ⟨#[]⟩), (.int .i64 0)])) := by kernel_rfl
theorem ty_81 : tyP Try.prog 81 = some (3, 32, some (.agg #[(.int .i64 0), (.string ⟨#[]⟩), (.int .i64 0)])) := by kernel_rfl
theorem cut_step {r : Str} {l L : List Vc.Item} {p : Int × Nat} (hp : tokN r = p) (hacc : l ++ cutT r = L) (hr : ¬ r = []) : (l ++ [⟨p.1, r.take p.2, 0⟩]) ++ cutT (r.drop p.2) = L := by
  rw [cutT_cons hr, hp] at hacc
  rw [List.append_assoc]; exact hacc
theorem fLen_at : ∀ (f : List Vc.Item) (k : Nat), (f.getD k default).text.length ≤ fLen f
  | [], k => by show ([] : Str).length ≤ _; exact Nat.zero_le _
  | x :: f, 0 => by simp [fLen]
  | x :: f, k + 1 => by
    have := fLen_at f k
    simp only [fLen, List.map_cons, List.sum_cons, List.getD_cons_succ] at *
    omega
theorem fLen_take : ∀ (f : List Vc.Item) (k : Nat), fLen (f.take k) ≤ fLen f
  | [], k => by simp
  | x :: f, 0 => by simp [fLen]
  | x :: f, k + 1 => by
    have := fLen_take f k
    simp only [fLen, List.take_succ_cons, List.map_cons, List.sum_cons] at *
    omega
theorem fLen_snoc (f : List Vc.Item) (k : Nat) (h : k < f.length) : fLen (f.take k) + (f.getD k default).text.length ≤ fLen f := by
  have h1 := fLen_take f (k + 1)
  rw [take_succD f k h] at h1
  simpa [fLen] using h1
theorem tokI_text {x : Vc.Item} (h : x.kind = 1) : tokI x = cutT x.text := if_pos h
theorem tokI_tag {x : Vc.Item} (h : x.kind = 2 ∨ x.kind = 3 ∨ x.kind = 4 ∨ x.kind = 5) : tokI x = [x] := by unfold tokI; rw [if_neg (by omega), if_pos (by omega)]
theorem tokI_none {x : Vc.Item} (h : ¬ x.kind = 1) (h2 : ¬ x.kind = 2) (h3 : ¬ x.kind = 3) (h4 : ¬ x.kind = 4) (h5 : ¬ x.kind = 5) : tokI x = [] := by unfold tokI; rw [if_neg h, if_neg (by omega)]
theorem cut_bd (s : Str) : (cutT s).length ≤ s.length := cutT_len _ s rfl

theorem cut_c1 {r : Str} (h : ¬ r = []) (h2 : (0 : Int) < ((blL r : Nat) : Int)) : tokN r = (8, blL r) := tok_blank h (by omega)
theorem cut_c2 {r : Str} (h : ¬ r = []) (h2 : ¬ (0 : Int) < ((blL r : Nat) : Int)) (h1 : (0 : Int) < ((numL r : Nat) : Int)) : tokN r = (7, numL r) := tok_num h (by omega) (by omega)
theorem cut_c3 {r : Str} (h : ¬ r = []) (h2 : ¬ (0 : Int) < ((blL r : Nat) : Int)) (h1 : ¬ (0 : Int) < ((numL r : Nat) : Int)) (h0 : (0 : Int) < ((wordL r : Nat) : Int)) : tokN r = (6, wordL r) := tok_word h (by omega) (by omega) (by omega)
theorem cut_c4 {r : Str} (h : ¬ r = []) (h2 : ¬ (0 : Int) < ((blL r : Nat) : Int)) (h1 : ¬ (0 : Int) < ((numL r : Nat) : Int)) (h0 : ¬ (0 : Int) < ((wordL r : Nat) : Int)) : tokN r = (9, 1) := tok_sign h (by omega) (by omega) (by omega)

theorem rcut_calls {s : Str} {w0 : World} (hs : s.length ≤ 1000000000) :
    Calls Try.prog 127 #[S s] w0 fun e w' => ∃ v, e = .returned v ∧ Evo w0 w' [] ∧ OwnE w' w0.heap.size 81 v (cutT s) := by
 have hcb := cut_bd s
 refine calls_enter (n := 39) (args := [S s]) Try.func127 rfl Try.ntmps127 rfl ?_
 have hV : Evo w0 w0 [] := Evo.refl _ _
 refine r_seq ?_
 refine r_region ?_
 refine r_op rfl rfl rfl (run_asg (v := .slice _ _ _) rfl (by exact rfl)) ?_
 refine r_nil ?_
 refine r_seq ?_
 refine r_region ?_
 refine r_op rfl rfl rfl (run_asg (v := .slice _ _ _) rfl (by exact rfl)) ?_
 refine r_nil ?_
 refine r_seq ?_
 refine r_block ?_
 refine r_loop (α := Str) [0, 3, 4, 5, 6, 7, 8, 9, 10, 11, 12, 13, 14, 15, 16, 17, 18, 19, 20, 21, 22, 23, 24, 25, 26, 27, 28, 29, 30, 31, 32, 33, 34, 35, 36, 37] (fun r g w => ∃ vo : Value, ∃ l : List Vc.Item, g 0 = S r ∧ g 3 = vo ∧ OwnE w w0.heap.size 81 vo l ∧ l ++ cutT r = cutT s ∧ r.length ≤ s.length ∧ w0.heap.size ≤ w.heap.size ∧ Evo w0 w []) (fun r => r.length) s ?_ ?_
 ·refine ⟨_, [], rfl, rfl, (OwnE.nil _ _ _), (List.nil_append _), (Nat.le_refl _), (by first | assumption | omega | (dsimp only; omega) | (simp; done)), hV⟩
 ·rintro r g w2 ⟨vo, l, hj3, hj4, hoo, hacc, hrl, hzl1, hV⟩
  have hs_w2hV := hV.size
  refine r_know (i := 0) (v := S r) (by exact hj3) ?_
  refine r_know (i := 3) (v := vo) (by exact hj4) ?_
  have hla := congrArg List.length hacc
  rw [List.length_append] at hla
  refine r_seq ?_
  refine r_seq ?_
  refine r_region ?_
  refine r_op rfl rfl rfl (run_mv (v := S _) rfl (by exact rfl)) ?_
  refine r_op rfl rfl rfl (run_lenS rfl (by exact rfl) Try.underlying9) ?_
  refine r_op rfl rfl rfl (run_gtr rfl (by exact rfl) (by exact rfl)) ?_
  refine r_nil ?_
  refine r_cond (by exact rfl) (fun hc5 => ?_) (fun hc5 => ?_)
  ·skip
   refine r_skip ?_
   refine r_block ?_
   refine r_seq ?_
   have hr0 : 0 < r.length := by omega
   have hne : ¬ r = [] := fun e => by rw [e] at hr0; simp at hr0
   have htl := tokN_len hne; have htp := tokN_pos r
   refine r_region ?_
   refine r_op rfl rfl rfl (run_asg (v := .int _ _) rfl (by exact rfl)) ?_
   refine r_op rfl rfl rfl (run_asg (v := .int _ _) rfl (by exact rfl)) ?_
   refine r_nil ?_
   refine r_seq ?_
   refine r_seq ?_
   refine r_region ?_
   refine r_op rfl rfl rfl (run_mv (v := S _) rfl (by exact rfl)) ?_
   refine r_opcall rfl rfl rfl (run_callf (vs := [S _]) rfl (by exact rfl) Try.func161 rfl (by kernel_rfl)) (rword_calls (by omega)) ?_
   rintro e w6 ⟨rfl, hE6⟩
   refine ⟨_, rfl, ?_⟩
   have hs_w6 := (hE6).size
   replace hV := evo_step0 hV hE6
   replace hoo := hoo.evo0 hE6
   refine r_op rfl rfl rfl (run_asg (v := .int _ _) rfl (by exact rfl)) ?_
   refine r_nil ?_
   refine r_seq ?_
   refine r_region ?_
   refine r_op rfl rfl rfl (run_mv (v := .int _ _) rfl (by exact rfl)) ?_
   refine r_op rfl rfl rfl (run_gtr rfl (by exact rfl) (by exact rfl)) ?_
   refine r_nil ?_
   refine r_cond (by exact rfl) (fun hc7 => ?_) (fun hc7 => ?_)
   ·skip
    refine r_region ?_
    refine r_op rfl rfl rfl (run_mv (v := .int _ _) rfl (by exact rfl)) ?_
    refine r_op rfl rfl rfl (run_asg (v := .int _ _) rfl (by exact rfl)) ?_
    refine r_op rfl rfl rfl (run_asg (v := .int _ _) rfl (by exact rfl)) ?_
    refine r_nil ?_
    refine r_seq ?_
    refine r_seq ?_
    refine r_region ?_
    refine r_op rfl rfl rfl (run_mv (v := S _) rfl (by exact rfl)) ?_
    refine r_opcall rfl rfl rfl (run_callf (vs := [S _]) rfl (by exact rfl) Try.func162 rfl (by kernel_rfl)) (rnumber_calls (by omega)) ?_
    rintro e w8 ⟨rfl, hE8⟩
    refine ⟨_, rfl, ?_⟩
    have hs_w8 := (hE8).size
    replace hV := evo_step0 hV hE8
    replace hoo := hoo.evo0 hE8
    refine r_op rfl rfl rfl (run_asg (v := .int _ _) rfl (by exact rfl)) ?_
    refine r_nil ?_
    refine r_seq ?_
    refine r_region ?_
    refine r_op rfl rfl rfl (run_mv (v := .int _ _) rfl (by exact rfl)) ?_
    refine r_op rfl rfl rfl (run_gtr rfl (by exact rfl) (by exact rfl)) ?_
    refine r_nil ?_
    refine r_cond (by exact rfl) (fun hc9 => ?_) (fun hc9 => ?_)
    ·skip
     refine r_region ?_
     refine r_op rfl rfl rfl (run_mv (v := .int _ _) rfl (by exact rfl)) ?_
     refine r_op rfl rfl rfl (run_asg (v := .int _ _) rfl (by exact rfl)) ?_
     refine r_op rfl rfl rfl (run_asg (v := .int _ _) rfl (by exact rfl)) ?_
     refine r_nil ?_
     refine r_seq ?_
     refine r_seq ?_
     refine r_region ?_
     refine r_op rfl rfl rfl (run_mv (v := S _) rfl (by exact rfl)) ?_
     refine r_opcall rfl rfl rfl (run_callf (vs := [S _]) rfl (by exact rfl) Try.func163 rfl (by kernel_rfl)) (rblank_calls (by omega)) ?_
     rintro e w10 ⟨rfl, hE10⟩
     refine ⟨_, rfl, ?_⟩
     have hs_w10 := (hE10).size
     replace hV := evo_step0 hV hE10
     replace hoo := hoo.evo0 hE10
     refine r_op rfl rfl rfl (run_asg (v := .int _ _) rfl (by exact rfl)) ?_
     refine r_nil ?_
     refine r_seq ?_
     refine r_region ?_
     refine r_op rfl rfl rfl (run_mv (v := .int _ _) rfl (by exact rfl)) ?_
     refine r_op rfl rfl rfl (run_gtr rfl (by exact rfl) (by exact rfl)) ?_
     refine r_nil ?_
     refine r_cond (by exact rfl) (fun hc11 => ?_) (fun hc11 => ?_)
     ·skip
      refine r_region ?_
      refine r_op rfl rfl rfl (run_mv (v := .int _ _) rfl (by exact rfl)) ?_
      refine r_op rfl rfl rfl (run_asg (v := .int _ _) rfl (by exact rfl)) ?_
      refine r_op rfl rfl rfl (run_asg (v := .int _ _) rfl (by exact rfl)) ?_
      refine r_nil ?_
      refine r_seq ?_
      refine r_know (i := 4) (v := .int .i64 (tokN r).1) (by first | (rw [cut_c1 hne (by assumption)]; exact rfl) | (rw [cut_c2 hne (by assumption) (by assumption)]; exact rfl) | (rw [cut_c3 hne (by assumption) (by assumption) (by assumption)]; exact rfl) | (rw [cut_c4 hne (by assumption) (by assumption) (by assumption)]; exact rfl)) ?_
      refine r_know (i := 5) (v := .int .i64 (((tokN r).2 : Nat) : Int)) (by first | (rw [cut_c1 hne (by assumption)]; exact rfl) | (rw [cut_c2 hne (by assumption) (by assumption)]; exact rfl) | (rw [cut_c3 hne (by assumption) (by assumption) (by assumption)]; exact rfl) | (rw [cut_c4 hne (by assumption) (by assumption) (by assumption)]; exact rfl)) ?_
      refine r_region ?_
      refine r_op rfl rfl rfl (run_mv (v := vo) rfl (by exact rfl)) ?_
      refine r_op rfl rfl rfl (run_mv (v := .int _ _) rfl (by exact rfl)) ?_
      refine r_op rfl rfl rfl (run_mv (v := S _) rfl (by exact rfl)) ?_
      refine r_op rfl rfl rfl (run_mv (v := .int _ _) rfl (by exact rfl)) ?_
      refine r_op rfl rfl rfl (by exact run_slS (0) ((tokN r).2) rfl Try.underlying9 (by exact rfl) lo0 (at1 (by exact rfl) (by omega)) (by first | omega | (simp; omega)) (by first | omega | (simp; omega))) ?_
      refine r_op rfl rfl rfl (run_bld (pv := [(0, .int _ _), (1, S _)]) (zs := [_, _, _]) (cells := [_, _, _]) rfl ty_81 (by exact rfl) pl_81 (by exact rfl) (by exact rfl)) ?_
      refine r_append1E (u := .agg _) (y := (⟨(tokN r).1, r.take (tokN r).2, 0⟩ : Vc.Item)) rfl rfl Try.underlying63 ty_81 (by exact rfl) hoo (fun _ => (by exact rfl)) (by exact rfl) (by first | exact rfl | (show _ = List.toArray [_, _, _]; first | (dsimp only; done) | exact rfl | (dsimp only; exact rfl))) ((by first | omega | (simp; omega))) ((by first | omega | (simp; omega))) (by omega) ?_
      intro q_v12 v12 w13 hEw13 hov12 hlv12
      have hs_w13 := (hEw13).size
      replace hV := evo_stepo hV hEw13 (fun g hg => .inl (by first | exact (hoo.block hg).1 | (have := hoo.block hg; omega)))
      refine r_op rfl rfl rfl (run_asg (v := v12) rfl (by exact rfl)) ?_
      refine r_nil ?_
      refine r_region ?_
      refine r_op rfl rfl rfl (run_mv (v := S _) rfl (by exact rfl)) ?_
      refine r_op rfl rfl rfl (run_mv (v := .int _ _) rfl (by exact rfl)) ?_
      refine r_op rfl rfl rfl (by exact run_slS ((tokN r).2) (_) rfl Try.underlying9 (by exact rfl) (at1 (by exact rfl) (by omega)) hi0 (by first | omega | (simp; omega)) (by first | omega | (simp; omega))) ?_
      refine r_op rfl rfl rfl (run_asg (v := S _) rfl (by exact rfl)) ?_
      refine r_nil ?_
      refine r_blk ?_
      refine r_again (r.drop (tokN r).2) ?_ ?_ ?_
      ·rw [List.length_drop]; omega
      ·refine ⟨_, _, (congrArg S (List.take_of_length_le (by rw [List.length_drop]; exact Nat.le_refl _))), rfl, hov12, (cut_step (p := ((tokN r).1, (tokN r).2)) rfl hacc hne), (by rw [List.length_drop]; omega), (by first | assumption | omega | (dsimp only; omega) | (simp; done)), hV⟩
      ·repeat (first | (with_reducible exact Agree.merge _ _ _) | (with_reducible exact Agree.refl _ _) | (with_reducible refine Agree.upd ?_ _ _ rfl) | ((with_reducible refine Agree.inner ?_ ?_); (kernel_rfl)))
     ·skip
      refine r_skip ?_
      refine r_seq ?_
      refine r_know (i := 4) (v := .int .i64 (tokN r).1) (by first | (rw [cut_c1 hne (by assumption)]; exact rfl) | (rw [cut_c2 hne (by assumption) (by assumption)]; exact rfl) | (rw [cut_c3 hne (by assumption) (by assumption) (by assumption)]; exact rfl) | (rw [cut_c4 hne (by assumption) (by assumption) (by assumption)]; exact rfl)) ?_
      refine r_know (i := 5) (v := .int .i64 (((tokN r).2 : Nat) : Int)) (by first | (rw [cut_c1 hne (by assumption)]; exact rfl) | (rw [cut_c2 hne (by assumption) (by assumption)]; exact rfl) | (rw [cut_c3 hne (by assumption) (by assumption) (by assumption)]; exact rfl) | (rw [cut_c4 hne (by assumption) (by assumption) (by assumption)]; exact rfl)) ?_
      refine r_region ?_
      refine r_op rfl rfl rfl (run_mv (v := vo) rfl (by exact rfl)) ?_
      refine r_op rfl rfl rfl (run_mv (v := .int _ _) rfl (by exact rfl)) ?_
      refine r_op rfl rfl rfl (run_mv (v := S _) rfl (by exact rfl)) ?_
      refine r_op rfl rfl rfl (run_mv (v := .int _ _) rfl (by exact rfl)) ?_
      refine r_op rfl rfl rfl (by exact run_slS (0) ((tokN r).2) rfl Try.underlying9 (by exact rfl) lo0 (at1 (by exact rfl) (by omega)) (by first | omega | (simp; omega)) (by first | omega | (simp; omega))) ?_
      refine r_op rfl rfl rfl (run_bld (pv := [(0, .int _ _), (1, S _)]) (zs := [_, _, _]) (cells := [_, _, _]) rfl ty_81 (by exact rfl) pl_81 (by exact rfl) (by exact rfl)) ?_
      refine r_append1E (u := .agg _) (y := (⟨(tokN r).1, r.take (tokN r).2, 0⟩ : Vc.Item)) rfl rfl Try.underlying63 ty_81 (by exact rfl) hoo (fun _ => (by exact rfl)) (by exact rfl) (by first | exact rfl | (show _ = List.toArray [_, _, _]; first | (dsimp only; done) | exact rfl | (dsimp only; exact rfl))) ((by first | omega | (simp; omega))) ((by first | omega | (simp; omega))) (by omega) ?_
      intro q_v14 v14 w15 hEw15 hov14 hlv14
      have hs_w15 := (hEw15).size
      replace hV := evo_stepo hV hEw15 (fun g hg => .inl (by first | exact (hoo.block hg).1 | (have := hoo.block hg; omega)))
      refine r_op rfl rfl rfl (run_asg (v := v14) rfl (by exact rfl)) ?_
      refine r_nil ?_
      refine r_region ?_
      refine r_op rfl rfl rfl (run_mv (v := S _) rfl (by exact rfl)) ?_
      refine r_op rfl rfl rfl (run_mv (v := .int _ _) rfl (by exact rfl)) ?_
      refine r_op rfl rfl rfl (by exact run_slS ((tokN r).2) (_) rfl Try.underlying9 (by exact rfl) (at1 (by exact rfl) (by omega)) hi0 (by first | omega | (simp; omega)) (by first | omega | (simp; omega))) ?_
      refine r_op rfl rfl rfl (run_asg (v := S _) rfl (by exact rfl)) ?_
      refine r_nil ?_
      refine r_blk ?_
      refine r_again (r.drop (tokN r).2) ?_ ?_ ?_
      ·rw [List.length_drop]; omega
      ·refine ⟨_, _, (congrArg S (List.take_of_length_le (by rw [List.length_drop]; exact Nat.le_refl _))), rfl, hov14, (cut_step (p := ((tokN r).1, (tokN r).2)) rfl hacc hne), (by rw [List.length_drop]; omega), (by first | assumption | omega | (dsimp only; omega) | (simp; done)), hV⟩
      ·repeat (first | (with_reducible exact Agree.merge _ _ _) | (with_reducible exact Agree.refl _ _) | (with_reducible refine Agree.upd ?_ _ _ rfl) | ((with_reducible refine Agree.inner ?_ ?_); (kernel_rfl)))
    ·skip
     refine r_skip ?_
     refine r_seq ?_
     refine r_seq ?_
     refine r_region ?_
     refine r_op rfl rfl rfl (run_mv (v := S _) rfl (by exact rfl)) ?_
     refine r_opcall rfl rfl rfl (run_callf (vs := [S _]) rfl (by exact rfl) Try.func163 rfl (by kernel_rfl)) (rblank_calls (by omega)) ?_
     rintro e w16 ⟨rfl, hE16⟩
     refine ⟨_, rfl, ?_⟩
     have hs_w16 := (hE16).size
     replace hV := evo_step0 hV hE16
     replace hoo := hoo.evo0 hE16
     refine r_op rfl rfl rfl (run_asg (v := .int _ _) rfl (by exact rfl)) ?_
     refine r_nil ?_
     refine r_seq ?_
     refine r_region ?_
     refine r_op rfl rfl rfl (run_mv (v := .int _ _) rfl (by exact rfl)) ?_
     refine r_op rfl rfl rfl (run_gtr rfl (by exact rfl) (by exact rfl)) ?_
     refine r_nil ?_
     refine r_cond (by exact rfl) (fun hc17 => ?_) (fun hc17 => ?_)
     ·skip
      refine r_region ?_
      refine r_op rfl rfl rfl (run_mv (v := .int _ _) rfl (by exact rfl)) ?_
      refine r_op rfl rfl rfl (run_asg (v := .int _ _) rfl (by exact rfl)) ?_
      refine r_op rfl rfl rfl (run_asg (v := .int _ _) rfl (by exact rfl)) ?_
      refine r_nil ?_
      refine r_seq ?_
      refine r_know (i := 4) (v := .int .i64 (tokN r).1) (by first | (rw [cut_c1 hne (by assumption)]; exact rfl) | (rw [cut_c2 hne (by assumption) (by assumption)]; exact rfl) | (rw [cut_c3 hne (by assumption) (by assumption) (by assumption)]; exact rfl) | (rw [cut_c4 hne (by assumption) (by assumption) (by assumption)]; exact rfl)) ?_
      refine r_know (i := 5) (v := .int .i64 (((tokN r).2 : Nat) : Int)) (by first | (rw [cut_c1 hne (by assumption)]; exact rfl) | (rw [cut_c2 hne (by assumption) (by assumption)]; exact rfl) | (rw [cut_c3 hne (by assumption) (by assumption) (by assumption)]; exact rfl) | (rw [cut_c4 hne (by assumption) (by assumption) (by assumption)]; exact rfl)) ?_
      refine r_region ?_
      refine r_op rfl rfl rfl (run_mv (v := vo) rfl (by exact rfl)) ?_
      refine r_op rfl rfl rfl (run_mv (v := .int _ _) rfl (by exact rfl)) ?_
      refine r_op rfl rfl rfl (run_mv (v := S _) rfl (by exact rfl)) ?_
      refine r_op rfl rfl rfl (run_mv (v := .int _ _) rfl (by exact rfl)) ?_
      refine r_op rfl rfl rfl (by exact run_slS (0) ((tokN r).2) rfl Try.underlying9 (by exact rfl) lo0 (at1 (by exact rfl) (by omega)) (by first | omega | (simp; omega)) (by first | omega | (simp; omega))) ?_
      refine r_op rfl rfl rfl (run_bld (pv := [(0, .int _ _), (1, S _)]) (zs := [_, _, _]) (cells := [_, _, _]) rfl ty_81 (by exact rfl) pl_81 (by exact rfl) (by exact rfl)) ?_
      refine r_append1E (u := .agg _) (y := (⟨(tokN r).1, r.take (tokN r).2, 0⟩ : Vc.Item)) rfl rfl Try.underlying63 ty_81 (by exact rfl) hoo (fun _ => (by exact rfl)) (by exact rfl) (by first | exact rfl | (show _ = List.toArray [_, _, _]; first | (dsimp only; done) | exact rfl | (dsimp only; exact rfl))) ((by first | omega | (simp; omega))) ((by first | omega | (simp; omega))) (by omega) ?_
      intro q_v18 v18 w19 hEw19 hov18 hlv18
      have hs_w19 := (hEw19).size
      replace hV := evo_stepo hV hEw19 (fun g hg => .inl (by first | exact (hoo.block hg).1 | (have := hoo.block hg; omega)))
      refine r_op rfl rfl rfl (run_asg (v := v18) rfl (by exact rfl)) ?_
      refine r_nil ?_
      refine r_region ?_
      refine r_op rfl rfl rfl (run_mv (v := S _) rfl (by exact rfl)) ?_
      refine r_op rfl rfl rfl (run_mv (v := .int _ _) rfl (by exact rfl)) ?_
      refine r_op rfl rfl rfl (by exact run_slS ((tokN r).2) (_) rfl Try.underlying9 (by exact rfl) (at1 (by exact rfl) (by omega)) hi0 (by first | omega | (simp; omega)) (by first | omega | (simp; omega))) ?_
      refine r_op rfl rfl rfl (run_asg (v := S _) rfl (by exact rfl)) ?_
      refine r_nil ?_
      refine r_blk ?_
      refine r_again (r.drop (tokN r).2) ?_ ?_ ?_
      ·rw [List.length_drop]; omega
      ·refine ⟨_, _, (congrArg S (List.take_of_length_le (by rw [List.length_drop]; exact Nat.le_refl _))), rfl, hov18, (cut_step (p := ((tokN r).1, (tokN r).2)) rfl hacc hne), (by rw [List.length_drop]; omega), (by first | assumption | omega | (dsimp only; omega) | (simp; done)), hV⟩
      ·repeat (first | (with_reducible exact Agree.merge _ _ _) | (with_reducible exact Agree.refl _ _) | (with_reducible refine Agree.upd ?_ _ _ rfl) | ((with_reducible refine Agree.inner ?_ ?_); (kernel_rfl)))
     ·skip
      refine r_skip ?_
      refine r_seq ?_
      refine r_know (i := 4) (v := .int .i64 (tokN r).1) (by first | (rw [cut_c1 hne (by assumption)]; exact rfl) | (rw [cut_c2 hne (by assumption) (by assumption)]; exact rfl) | (rw [cut_c3 hne (by assumption) (by assumption) (by assumption)]; exact rfl) | (rw [cut_c4 hne (by assumption) (by assumption) (by assumption)]; exact rfl)) ?_
      refine r_know (i := 5) (v := .int .i64 (((tokN r).2 : Nat) : Int)) (by first | (rw [cut_c1 hne (by assumption)]; exact rfl) | (rw [cut_c2 hne (by assumption) (by assumption)]; exact rfl) | (rw [cut_c3 hne (by assumption) (by assumption) (by assumption)]; exact rfl) | (rw [cut_c4 hne (by assumption) (by assumption) (by assumption)]; exact rfl)) ?_
      refine r_region ?_
      refine r_op rfl rfl rfl (run_mv (v := vo) rfl (by exact rfl)) ?_
      refine r_op rfl rfl rfl (run_mv (v := .int _ _) rfl (by exact rfl)) ?_
      refine r_op rfl rfl rfl (run_mv (v := S _) rfl (by exact rfl)) ?_
      refine r_op rfl rfl rfl (run_mv (v := .int _ _) rfl (by exact rfl)) ?_
      refine r_op rfl rfl rfl (by exact run_slS (0) ((tokN r).2) rfl Try.underlying9 (by exact rfl) lo0 (at1 (by exact rfl) (by omega)) (by first | omega | (simp; omega)) (by first | omega | (simp; omega))) ?_
      refine r_op rfl rfl rfl (run_bld (pv := [(0, .int _ _), (1, S _)]) (zs := [_, _, _]) (cells := [_, _, _]) rfl ty_81 (by exact rfl) pl_81 (by exact rfl) (by exact rfl)) ?_
      refine r_append1E (u := .agg _) (y := (⟨(tokN r).1, r.take (tokN r).2, 0⟩ : Vc.Item)) rfl rfl Try.underlying63 ty_81 (by exact rfl) hoo (fun _ => (by exact rfl)) (by exact rfl) (by first | exact rfl | (show _ = List.toArray [_, _, _]; first | (dsimp only; done) | exact rfl | (dsimp only; exact rfl))) ((by first | omega | (simp; omega))) ((by first | omega | (simp; omega))) (by omega) ?_
      intro q_v20 v20 w21 hEw21 hov20 hlv20
      have hs_w21 := (hEw21).size
      replace hV := evo_stepo hV hEw21 (fun g hg => .inl (by first | exact (hoo.block hg).1 | (have := hoo.block hg; omega)))
      refine r_op rfl rfl rfl (run_asg (v := v20) rfl (by exact rfl)) ?_
      refine r_nil ?_
      refine r_region ?_
      refine r_op rfl rfl rfl (run_mv (v := S _) rfl (by exact rfl)) ?_
      refine r_op rfl rfl rfl (run_mv (v := .int _ _) rfl (by exact rfl)) ?_
      refine r_op rfl rfl rfl (by exact run_slS ((tokN r).2) (_) rfl Try.underlying9 (by exact rfl) (at1 (by exact rfl) (by omega)) hi0 (by first | omega | (simp; omega)) (by first | omega | (simp; omega))) ?_
      refine r_op rfl rfl rfl (run_asg (v := S _) rfl (by exact rfl)) ?_
      refine r_nil ?_
      refine r_blk ?_
      refine r_again (r.drop (tokN r).2) ?_ ?_ ?_
      ·rw [List.length_drop]; omega
      ·refine ⟨_, _, (congrArg S (List.take_of_length_le (by rw [List.length_drop]; exact Nat.le_refl _))), rfl, hov20, (cut_step (p := ((tokN r).1, (tokN r).2)) rfl hacc hne), (by rw [List.length_drop]; omega), (by first | assumption | omega | (dsimp only; omega) | (simp; done)), hV⟩
      ·repeat (first | (with_reducible exact Agree.merge _ _ _) | (with_reducible exact Agree.refl _ _) | (with_reducible refine Agree.upd ?_ _ _ rfl) | ((with_reducible refine Agree.inner ?_ ?_); (kernel_rfl)))
   ·skip
    refine r_skip ?_
    refine r_seq ?_
    refine r_seq ?_
    refine r_region ?_
    refine r_op rfl rfl rfl (run_mv (v := S _) rfl (by exact rfl)) ?_
    refine r_opcall rfl rfl rfl (run_callf (vs := [S _]) rfl (by exact rfl) Try.func162 rfl (by kernel_rfl)) (rnumber_calls (by omega)) ?_
    rintro e w22 ⟨rfl, hE22⟩
    refine ⟨_, rfl, ?_⟩
    have hs_w22 := (hE22).size
    replace hV := evo_step0 hV hE22
    replace hoo := hoo.evo0 hE22
    refine r_op rfl rfl rfl (run_asg (v := .int _ _) rfl (by exact rfl)) ?_
    refine r_nil ?_
    refine r_seq ?_
    refine r_region ?_
    refine r_op rfl rfl rfl (run_mv (v := .int _ _) rfl (by exact rfl)) ?_
    refine r_op rfl rfl rfl (run_gtr rfl (by exact rfl) (by exact rfl)) ?_
    refine r_nil ?_
    refine r_cond (by exact rfl) (fun hc23 => ?_) (fun hc23 => ?_)
    ·skip
     refine r_region ?_
     refine r_op rfl rfl rfl (run_mv (v := .int _ _) rfl (by exact rfl)) ?_
     refine r_op rfl rfl rfl (run_asg (v := .int _ _) rfl (by exact rfl)) ?_
     refine r_op rfl rfl rfl (run_asg (v := .int _ _) rfl (by exact rfl)) ?_
     refine r_nil ?_
     refine r_seq ?_
     refine r_seq ?_
     refine r_region ?_
     refine r_op rfl rfl rfl (run_mv (v := S _) rfl (by exact rfl)) ?_
     refine r_opcall rfl rfl rfl (run_callf (vs := [S _]) rfl (by exact rfl) Try.func163 rfl (by kernel_rfl)) (rblank_calls (by omega)) ?_
     rintro e w24 ⟨rfl, hE24⟩
     refine ⟨_, rfl, ?_⟩
     have hs_w24 := (hE24).size
     replace hV := evo_step0 hV hE24
     replace hoo := hoo.evo0 hE24
     refine r_op rfl rfl rfl (run_asg (v := .int _ _) rfl (by exact rfl)) ?_
     refine r_nil ?_
     refine r_seq ?_
     refine r_region ?_
     refine r_op rfl rfl rfl (run_mv (v := .int _ _) rfl (by exact rfl)) ?_
     refine r_op rfl rfl rfl (run_gtr rfl (by exact rfl) (by exact rfl)) ?_
     refine r_nil ?_
     refine r_cond (by exact rfl) (fun hc25 => ?_) (fun hc25 => ?_)
     ·skip
      refine r_region ?_
      refine r_op rfl rfl rfl (run_mv (v := .int _ _) rfl (by exact rfl)) ?_
      refine r_op rfl rfl rfl (run_asg (v := .int _ _) rfl (by exact rfl)) ?_
      refine r_op rfl rfl rfl (run_asg (v := .int _ _) rfl (by exact rfl)) ?_
      refine r_nil ?_
      refine r_seq ?_
      refine r_know (i := 4) (v := .int .i64 (tokN r).1) (by first | (rw [cut_c1 hne (by assumption)]; exact rfl) | (rw [cut_c2 hne (by assumption) (by assumption)]; exact rfl) | (rw [cut_c3 hne (by assumption) (by assumption) (by assumption)]; exact rfl) | (rw [cut_c4 hne (by assumption) (by assumption) (by assumption)]; exact rfl)) ?_
      refine r_know (i := 5) (v := .int .i64 (((tokN r).2 : Nat) : Int)) (by first | (rw [cut_c1 hne (by assumption)]; exact rfl) | (rw [cut_c2 hne (by assumption) (by assumption)]; exact rfl) | (rw [cut_c3 hne (by assumption) (by assumption) (by assumption)]; exact rfl) | (rw [cut_c4 hne (by assumption) (by assumption) (by assumption)]; exact rfl)) ?_
      refine r_region ?_
      refine r_op rfl rfl rfl (run_mv (v := vo) rfl (by exact rfl)) ?_
      refine r_op rfl rfl rfl (run_mv (v := .int _ _) rfl (by exact rfl)) ?_
      refine r_op rfl rfl rfl (run_mv (v := S _) rfl (by exact rfl)) ?_
      refine r_op rfl rfl rfl (run_mv (v := .int _ _) rfl (by exact rfl)) ?_
      refine r_op rfl rfl rfl (by exact run_slS (0) ((tokN r).2) rfl Try.underlying9 (by exact rfl) lo0 (at1 (by exact rfl) (by omega)) (by first | omega | (simp; omega)) (by first | omega | (simp; omega))) ?_
      refine r_op rfl rfl rfl (run_bld (pv := [(0, .int _ _), (1, S _)]) (zs := [_, _, _]) (cells := [_, _, _]) rfl ty_81 (by exact rfl) pl_81 (by exact rfl) (by exact rfl)) ?_
      refine r_append1E (u := .agg _) (y := (⟨(tokN r).1, r.take (tokN r).2, 0⟩ : Vc.Item)) rfl rfl Try.underlying63 ty_81 (by exact rfl) hoo (fun _ => (by exact rfl)) (by exact rfl) (by first | exact rfl | (show _ = List.toArray [_, _, _]; first | (dsimp only; done) | exact rfl | (dsimp only; exact rfl))) ((by first | omega | (simp; omega))) ((by first | omega | (simp; omega))) (by omega) ?_
      intro q_v26 v26 w27 hEw27 hov26 hlv26
      have hs_w27 := (hEw27).size
      replace hV := evo_stepo hV hEw27 (fun g hg => .inl (by first | exact (hoo.block hg).1 | (have := hoo.block hg; omega)))
      refine r_op rfl rfl rfl (run_asg (v := v26) rfl (by exact rfl)) ?_
      refine r_nil ?_
      refine r_region ?_
      refine r_op rfl rfl rfl (run_mv (v := S _) rfl (by exact rfl)) ?_
      refine r_op rfl rfl rfl (run_mv (v := .int _ _) rfl (by exact rfl)) ?_
      refine r_op rfl rfl rfl (by exact run_slS ((tokN r).2) (_) rfl Try.underlying9 (by exact rfl) (at1 (by exact rfl) (by omega)) hi0 (by first | omega | (simp; omega)) (by first | omega | (simp; omega))) ?_
      refine r_op rfl rfl rfl (run_asg (v := S _) rfl (by exact rfl)) ?_
      refine r_nil ?_
      refine r_blk ?_
      refine r_again (r.drop (tokN r).2) ?_ ?_ ?_
      ·rw [List.length_drop]; omega
      ·refine ⟨_, _, (congrArg S (List.take_of_length_le (by rw [List.length_drop]; exact Nat.le_refl _))), rfl, hov26, (cut_step (p := ((tokN r).1, (tokN r).2)) rfl hacc hne), (by rw [List.length_drop]; omega), (by first | assumption | omega | (dsimp only; omega) | (simp; done)), hV⟩
      ·repeat (first | (with_reducible exact Agree.merge _ _ _) | (with_reducible exact Agree.refl _ _) | (with_reducible refine Agree.upd ?_ _ _ rfl) | ((with_reducible refine Agree.inner ?_ ?_); (kernel_rfl)))
     ·skip
      refine r_skip ?_
      refine r_seq ?_
      refine r_know (i := 4) (v := .int .i64 (tokN r).1) (by first | (rw [cut_c1 hne (by assumption)]; exact rfl) | (rw [cut_c2 hne (by assumption) (by assumption)]; exact rfl) | (rw [cut_c3 hne (by assumption) (by assumption) (by assumption)]; exact rfl) | (rw [cut_c4 hne (by assumption) (by assumption) (by assumption)]; exact rfl)) ?_
      refine r_know (i := 5) (v := .int .i64 (((tokN r).2 : Nat) : Int)) (by first | (rw [cut_c1 hne (by assumption)]; exact rfl) | (rw [cut_c2 hne (by assumption) (by assumption)]; exact rfl) | (rw [cut_c3 hne (by assumption) (by assumption) (by assumption)]; exact rfl) | (rw [cut_c4 hne (by assumption) (by assumption) (by assumption)]; exact rfl)) ?_
      refine r_region ?_
      refine r_op rfl rfl rfl (run_mv (v := vo) rfl (by exact rfl)) ?_
      refine r_op rfl rfl rfl (run_mv (v := .int _ _) rfl (by exact rfl)) ?_
      refine r_op rfl rfl rfl (run_mv (v := S _) rfl (by exact rfl)) ?_
      refine r_op rfl rfl rfl (run_mv (v := .int _ _) rfl (by exact rfl)) ?_
      refine r_op rfl rfl rfl (by exact run_slS (0) ((tokN r).2) rfl Try.underlying9 (by exact rfl) lo0 (at1 (by exact rfl) (by omega)) (by first | omega | (simp; omega)) (by first | omega | (simp; omega))) ?_
      refine r_op rfl rfl rfl (run_bld (pv := [(0, .int _ _), (1, S _)]) (zs := [_, _, _]) (cells := [_, _, _]) rfl ty_81 (by exact rfl) pl_81 (by exact rfl) (by exact rfl)) ?_
      refine r_append1E (u := .agg _) (y := (⟨(tokN r).1, r.take (tokN r).2, 0⟩ : Vc.Item)) rfl rfl Try.underlying63 ty_81 (by exact rfl) hoo (fun _ => (by exact rfl)) (by exact rfl) (by first | exact rfl | (show _ = List.toArray [_, _, _]; first | (dsimp only; done) | exact rfl | (dsimp only; exact rfl))) ((by first | omega | (simp; omega))) ((by first | omega | (simp; omega))) (by omega) ?_
      intro q_v28 v28 w29 hEw29 hov28 hlv28
      have hs_w29 := (hEw29).size
      replace hV := evo_stepo hV hEw29 (fun g hg => .inl (by first | exact (hoo.block hg).1 | (have := hoo.block hg; omega)))
      refine r_op rfl rfl rfl (run_asg (v := v28) rfl (by exact rfl)) ?_
      refine r_nil ?_
      refine r_region ?_
      refine r_op rfl rfl rfl (run_mv (v := S _) rfl (by exact rfl)) ?_
      refine r_op rfl rfl rfl (run_mv (v := .int _ _) rfl (by exact rfl)) ?_
      refine r_op rfl rfl rfl (by exact run_slS ((tokN r).2) (_) rfl Try.underlying9 (by exact rfl) (at1 (by exact rfl) (by omega)) hi0 (by first | omega | (simp; omega)) (by first | omega | (simp; omega))) ?_
      refine r_op rfl rfl rfl (run_asg (v := S _) rfl (by exact rfl)) ?_
      refine r_nil ?_
      refine r_blk ?_
      refine r_again (r.drop (tokN r).2) ?_ ?_ ?_
      ·rw [List.length_drop]; omega
      ·refine ⟨_, _, (congrArg S (List.take_of_length_le (by rw [List.length_drop]; exact Nat.le_refl _))), rfl, hov28, (cut_step (p := ((tokN r).1, (tokN r).2)) rfl hacc hne), (by rw [List.length_drop]; omega), (by first | assumption | omega | (dsimp only; omega) | (simp; done)), hV⟩
      ·repeat (first | (with_reducible exact Agree.merge _ _ _) | (with_reducible exact Agree.refl _ _) | (with_reducible refine Agree.upd ?_ _ _ rfl) | ((with_reducible refine Agree.inner ?_ ?_); (kernel_rfl)))
    ·skip
     refine r_skip ?_
     refine r_seq ?_
     refine r_seq ?_
     refine r_region ?_
     refine r_op rfl rfl rfl (run_mv (v := S _) rfl (by exact rfl)) ?_
     refine r_opcall rfl rfl rfl (run_callf (vs := [S _]) rfl (by exact rfl) Try.func163 rfl (by kernel_rfl)) (rblank_calls (by omega)) ?_
     rintro e w30 ⟨rfl, hE30⟩
     refine ⟨_, rfl, ?_⟩
     have hs_w30 := (hE30).size
     replace hV := evo_step0 hV hE30
     replace hoo := hoo.evo0 hE30
     refine r_op rfl rfl rfl (run_asg (v := .int _ _) rfl (by exact rfl)) ?_
     refine r_nil ?_
     refine r_seq ?_
     refine r_region ?_
     refine r_op rfl rfl rfl (run_mv (v := .int _ _) rfl (by exact rfl)) ?_
     refine r_op rfl rfl rfl (run_gtr rfl (by exact rfl) (by exact rfl)) ?_
     refine r_nil ?_
     refine r_cond (by exact rfl) (fun hc31 => ?_) (fun hc31 => ?_)
     ·skip
      refine r_region ?_
      refine r_op rfl rfl rfl (run_mv (v := .int _ _) rfl (by exact rfl)) ?_
      refine r_op rfl rfl rfl (run_asg (v := .int _ _) rfl (by exact rfl)) ?_
      refine r_op rfl rfl rfl (run_asg (v := .int _ _) rfl (by exact rfl)) ?_
      refine r_nil ?_
      refine r_seq ?_
      refine r_know (i := 4) (v := .int .i64 (tokN r).1) (by first | (rw [cut_c1 hne (by assumption)]; exact rfl) | (rw [cut_c2 hne (by assumption) (by assumption)]; exact rfl) | (rw [cut_c3 hne (by assumption) (by assumption) (by assumption)]; exact rfl) | (rw [cut_c4 hne (by assumption) (by assumption) (by assumption)]; exact rfl)) ?_
      refine r_know (i := 5) (v := .int .i64 (((tokN r).2 : Nat) : Int)) (by first | (rw [cut_c1 hne (by assumption)]; exact rfl) | (rw [cut_c2 hne (by assumption) (by assumption)]; exact rfl) | (rw [cut_c3 hne (by assumption) (by assumption) (by assumption)]; exact rfl) | (rw [cut_c4 hne (by assumption) (by assumption) (by assumption)]; exact rfl)) ?_
      refine r_region ?_
      refine r_op rfl rfl rfl (run_mv (v := vo) rfl (by exact rfl)) ?_
      refine r_op rfl rfl rfl (run_mv (v := .int _ _) rfl (by exact rfl)) ?_
      refine r_op rfl rfl rfl (run_mv (v := S _) rfl (by exact rfl)) ?_
      refine r_op rfl rfl rfl (run_mv (v := .int _ _) rfl (by exact rfl)) ?_
      refine r_op rfl rfl rfl (by exact run_slS (0) ((tokN r).2) rfl Try.underlying9 (by exact rfl) lo0 (at1 (by exact rfl) (by omega)) (by first | omega | (simp; omega)) (by first | omega | (simp; omega))) ?_
      refine r_op rfl rfl rfl (run_bld (pv := [(0, .int _ _), (1, S _)]) (zs := [_, _, _]) (cells := [_, _, _]) rfl ty_81 (by exact rfl) pl_81 (by exact rfl) (by exact rfl)) ?_
      refine r_append1E (u := .agg _) (y := (⟨(tokN r).1, r.take (tokN r).2, 0⟩ : Vc.Item)) rfl rfl Try.underlying63 ty_81 (by exact rfl) hoo (fun _ => (by exact rfl)) (by exact rfl) (by first | exact rfl | (show _ = List.toArray [_, _, _]; first | (dsimp only; done) | exact rfl | (dsimp only; exact rfl))) ((by first | omega | (simp; omega))) ((by first | omega | (simp; omega))) (by omega) ?_
      intro q_v32 v32 w33 hEw33 hov32 hlv32
      have hs_w33 := (hEw33).size
      replace hV := evo_stepo hV hEw33 (fun g hg => .inl (by first | exact (hoo.block hg).1 | (have := hoo.block hg; omega)))
      refine r_op rfl rfl rfl (run_asg (v := v32) rfl (by exact rfl)) ?_
      refine r_nil ?_
      refine r_region ?_
      refine r_op rfl rfl rfl (run_mv (v := S _) rfl (by exact rfl)) ?_
      refine r_op rfl rfl rfl (run_mv (v := .int _ _) rfl (by exact rfl)) ?_
      refine r_op rfl rfl rfl (by exact run_slS ((tokN r).2) (_) rfl Try.underlying9 (by exact rfl) (at1 (by exact rfl) (by omega)) hi0 (by first | omega | (simp; omega)) (by first | omega | (simp; omega))) ?_
      refine r_op rfl rfl rfl (run_asg (v := S _) rfl (by exact rfl)) ?_
      refine r_nil ?_
      refine r_blk ?_
      refine r_again (r.drop (tokN r).2) ?_ ?_ ?_
      ·rw [List.length_drop]; omega
      ·refine ⟨_, _, (congrArg S (List.take_of_length_le (by rw [List.length_drop]; exact Nat.le_refl _))), rfl, hov32, (cut_step (p := ((tokN r).1, (tokN r).2)) rfl hacc hne), (by rw [List.length_drop]; omega), (by first | assumption | omega | (dsimp only; omega) | (simp; done)), hV⟩
      ·repeat (first | (with_reducible exact Agree.merge _ _ _) | (with_reducible exact Agree.refl _ _) | (with_reducible refine Agree.upd ?_ _ _ rfl) | ((with_reducible refine Agree.inner ?_ ?_); (kernel_rfl)))
     ·skip
      refine r_skip ?_
      refine r_seq ?_
      refine r_know (i := 4) (v := .int .i64 (tokN r).1) (by first | (rw [cut_c1 hne (by assumption)]; exact rfl) | (rw [cut_c2 hne (by assumption) (by assumption)]; exact rfl) | (rw [cut_c3 hne (by assumption) (by assumption) (by assumption)]; exact rfl) | (rw [cut_c4 hne (by assumption) (by assumption) (by assumption)]; exact rfl)) ?_
      refine r_know (i := 5) (v := .int .i64 (((tokN r).2 : Nat) : Int)) (by first | (rw [cut_c1 hne (by assumption)]; exact rfl) | (rw [cut_c2 hne (by assumption) (by assumption)]; exact rfl) | (rw [cut_c3 hne (by assumption) (by assumption) (by assumption)]; exact rfl) | (rw [cut_c4 hne (by assumption) (by assumption) (by assumption)]; exact rfl)) ?_
      refine r_region ?_
      refine r_op rfl rfl rfl (run_mv (v := vo) rfl (by exact rfl)) ?_
      refine r_op rfl rfl rfl (run_mv (v := .int _ _) rfl (by exact rfl)) ?_
      refine r_op rfl rfl rfl (run_mv (v := S _) rfl (by exact rfl)) ?_
      refine r_op rfl rfl rfl (run_mv (v := .int _ _) rfl (by exact rfl)) ?_
      refine r_op rfl rfl rfl (by exact run_slS (0) ((tokN r).2) rfl Try.underlying9 (by exact rfl) lo0 (at1 (by exact rfl) (by omega)) (by first | omega | (simp; omega)) (by first | omega | (simp; omega))) ?_
      refine r_op rfl rfl rfl (run_bld (pv := [(0, .int _ _), (1, S _)]) (zs := [_, _, _]) (cells := [_, _, _]) rfl ty_81 (by exact rfl) pl_81 (by exact rfl) (by exact rfl)) ?_
      refine r_append1E (u := .agg _) (y := (⟨(tokN r).1, r.take (tokN r).2, 0⟩ : Vc.Item)) rfl rfl Try.underlying63 ty_81 (by exact rfl) hoo (fun _ => (by exact rfl)) (by exact rfl) (by first | exact rfl | (show _ = List.toArray [_, _, _]; first | (dsimp only; done) | exact rfl | (dsimp only; exact rfl))) ((by first | omega | (simp; omega))) ((by first | omega | (simp; omega))) (by omega) ?_
      intro q_v34 v34 w35 hEw35 hov34 hlv34
      have hs_w35 := (hEw35).size
      replace hV := evo_stepo hV hEw35 (fun g hg => .inl (by first | exact (hoo.block hg).1 | (have := hoo.block hg; omega)))
      refine r_op rfl rfl rfl (run_asg (v := v34) rfl (by exact rfl)) ?_
      refine r_nil ?_
      refine r_region ?_
      refine r_op rfl rfl rfl (run_mv (v := S _) rfl (by exact rfl)) ?_
      refine r_op rfl rfl rfl (run_mv (v := .int _ _) rfl (by exact rfl)) ?_
      refine r_op rfl rfl rfl (by exact run_slS ((tokN r).2) (_) rfl Try.underlying9 (by exact rfl) (at1 (by exact rfl) (by omega)) hi0 (by first | omega | (simp; omega)) (by first | omega | (simp; omega))) ?_
      refine r_op rfl rfl rfl (run_asg (v := S _) rfl (by exact rfl)) ?_
      refine r_nil ?_
      refine r_blk ?_
      refine r_again (r.drop (tokN r).2) ?_ ?_ ?_
      ·rw [List.length_drop]; omega
      ·refine ⟨_, _, (congrArg S (List.take_of_length_le (by rw [List.length_drop]; exact Nat.le_refl _))), rfl, hov34, (cut_step (p := ((tokN r).1, (tokN r).2)) rfl hacc hne), (by rw [List.length_drop]; omega), (by first | assumption | omega | (dsimp only; omega) | (simp; done)), hV⟩
      ·repeat (first | (with_reducible exact Agree.merge _ _ _) | (with_reducible exact Agree.refl _ _) | (with_reducible refine Agree.upd ?_ _ _ rfl) | ((with_reducible refine Agree.inner ?_ ?_); (kernel_rfl)))
  ·skip
   refine r_exit rfl ?_
   refine r_seq ?_
   refine r_region ?_
   refine r_op rfl rfl rfl (run_mv (v := vo) rfl (by exact rfl)) ?_
   refine r_op rfl rfl rfl (run_asg (v := vo) rfl (by exact rfl)) ?_
   refine r_nil ?_
   refine r_ret (res1 (v := vo) rfl (by exact rfl)) ?_
   exact ⟨_, rfl, hV, by have h8 : r = [] := List.eq_nil_of_length_eq_zero (by omega); rw [h8, cutT_nil, List.append_nil] at hacc; rw [← hacc]; exact hoo⟩

theorem rtokens_calls {ao : Option Addr} {b off cap : Nat} {f : List Vc.Item} {w0 : World} (hf : RowE w0 ao b off cap f) (hz : fLen f + f.length ≤ 1000000000) :
    Calls Try.prog 88 #[.slice ao f.length cap] w0 fun e w' => ∃ v, e = .returned v ∧ Evo w0 w' [] ∧ OwnE w' w0.heap.size 81 v (toks f) := by
 refine calls_enter (n := 38) (args := [.slice ao f.length cap]) Try.func88 rfl Try.ntmps88 rfl ?_
 have hV : Evo w0 w0 [] := Evo.refl _ _
 have hf0 := keepE hf
 have hbd_hf := hf.bd
 refine r_seq ?_
 refine r_region ?_
 refine r_op rfl rfl rfl (run_asg (v := .slice _ _ _) rfl (by exact rfl)) ?_
 refine r_nil ?_
 refine r_seq ?_
 refine r_region ?_
 refine r_op rfl rfl rfl (run_asg (v := .slice _ _ _) rfl (by exact rfl)) ?_
 refine r_nil ?_
 refine r_seq ?_
 refine r_seq ?_
 refine r_region ?_
 refine r_op rfl rfl rfl (run_mv (v := .slice _ _ _) rfl (by exact rfl)) ?_
 refine r_op rfl rfl rfl (run_lenSl rfl (by exact rfl) Try.underlying85) ?_
 refine r_op rfl rfl rfl (run_mv (v := .int _ _) rfl (by exact rfl)) ?_
 refine r_nil ?_
 refine r_block ?_
 refine r_loop (α := Nat) [3, 5, 8, 9, 10, 11, 12, 13, 14, 15, 16, 17, 18, 19, 20, 21, 22, 23, 24, 25, 26, 27, 28, 29, 30, 31, 32, 33, 34, 35, 36] (fun k g w => ∃ vo : Value, g 8 = .int .i64 (k : Nat) ∧ g 3 = vo ∧ k ≤ f.length ∧ OwnE w w0.heap.size 81 vo (toks (f.take k)) ∧ w0.heap.size ≤ w.heap.size ∧ Evo w0 w []) (fun k => f.length - k) 0 ?_ ?_
 ·refine ⟨_, (by first | exact rfl | exact congrArg (Value.int _) (by omega) | exact congrArg (Value.int _) (by dsimp only; omega) | exact congrArg (Value.int _) (by simp) | exact congrArg S (by simp)), rfl, (by first | assumption | omega | (dsimp only; omega) | (simp; done)), (OwnE.nil _ _ _), (by first | assumption | omega | (dsimp only; omega) | (simp; done)), hV⟩
 ·rintro k g w2 ⟨vo, hj3, hj4, hk_k, hoo, hzl1, hV⟩
  have hs_w2hV := hV.size
  replace hf := hf0 _ hV
  refine r_know (i := 8) (v := .int .i64 (k : Nat)) (by exact hj3) ?_
  refine r_know (i := 3) (v := vo) (by exact hj4) ?_
  have htl := toks_len (f.take k); have hfl := fLen_take f k
  have hfa := fLen_at f k
  have hft : (f.take k).length ≤ k := List.length_take_le _ _
  have hcb := cut_bd (f.getD k default).text
  have hfs := fun h => fLen_snoc f k h
  refine r_seq ?_
  refine r_region ?_
  refine r_op rfl rfl rfl (run_lss rfl (by exact rfl) (by exact rfl)) ?_
  refine r_nil ?_
  refine r_seq ?_
  refine r_cond (by exact rfl) (fun hc5 => ?_) (fun hc5 => ?_)
  ·skip
   refine r_skip ?_
   refine r_seq ?_
   refine r_block ?_
   refine r_seq ?_
   refine r_region ?_
   refine r_op rfl rfl rfl (run_ix (k) rfl Try.underlying85 ty_129 (by exact rfl) (by exact rfl) (by first | exact rfl | omega) (by omega) (hf.addr (i := k) (by omega))) ?_
   have hA60 := fun (w' : World) (h : Evo w0 w' []) => (hf0 w' h).atD (k) (by omega)
   have hA6 := hA60 _ hV
   refine r_op rfl rfl rfl (run_ldN rfl ag_129 ty_129 (by exact rfl) rfl hA6) ?_
   have hob7 := fun g hg => (hoo.block (g := g) hg).2
   refine r_var (zs := [_, _, _]) (vs := [_, _, _]) ty_129 (by exact rfl) rfl (by exact rfl) (fun _ => rfl) (by exact rfl) rfl rfl (by exact rfl) ?_
   intro b8 w9 heb8 hEw9 hbb8 hzb8
   have hs_w9 := (hEw9).size
   replace hV := evo_step0 hV hEw9
   replace hf := hf0 _ hV
   replace hoo := hoo.evo0 hEw9
   have hAb8 := hbb8.at
   refine r_nil ?_
   refine r_seq ?_
   refine r_region ?_
   refine r_op rfl rfl rfl (run_fa rfl (by exact rfl) fo_129_0) ?_
   refine r_op rfl rfl rfl (run_ld1 rfl ag_3 (by exact rfl) (hAb8.cell 0 (by exact rfl))) ?_
   refine r_nil ?_
   refine r_block ?_
   refine r_seq ?_
   refine r_region ?_
   refine r_op rfl rfl rfl (run_eql rfl (by exact rfl) (by exact rfl)) ?_
   refine r_op rfl rfl rfl (run_asg (v := .bool _) rfl (by exact rfl)) ?_
   refine r_nil ?_
   refine r_cond (by exact rfl) (fun hc10 => ?_) (fun hc10 => ?_)
   ·skip
    refine r_region ?_
    refine r_op rfl rfl rfl (run_mv (v := vo) rfl (by exact rfl)) ?_
    refine r_op rfl rfl rfl (run_fa rfl (by exact rfl) fo_129_1) ?_
    refine r_op rfl rfl rfl (run_ld1 rfl ag_9 (by exact rfl) (hAb8.cell 1 (by exact rfl))) ?_
    refine r_opcall rfl rfl rfl (run_callf (vs := [S _]) rfl (by exact rfl) Try.func127 rfl (by kernel_rfl)) (rcut_calls (by omega)) ?_
    rintro e w11 ⟨vk11, rfl, hE11, hok11⟩
    refine ⟨_, rfl, ?_⟩
    have hs_w11 := (hE11).size
    replace hV := evo_step0 hV hE11
    replace hf := hf0 _ hV
    replace hoo := hoo.evo0 hE11
    obtain ⟨ao12, g12, cp12, hv12, hr12, hg12⟩ := hok11.rowOf
    subst hv12
    refine r_appendE rfl Try.underlying63 ty_81 (by exact rfl) hoo (by exact rfl) (by exact rfl) hr12 rfl ((by first | omega | (simp; omega))) ((by first | omega | (simp; omega))) (by omega) ?_
    intro v13 w14 hEw14 hov13 hlv13
    have hs_w14 := (hEw14).size
    replace hV := evo_stepo hV hEw14 (fun g hg => .inl (by first | exact (hoo.block hg).1 | (have := hoo.block hg; omega)))
    replace hf := hf0 _ hV
    refine r_op rfl rfl rfl (run_asg (v := v13) rfl (by exact rfl)) ?_
    refine r_nil ?_
    refine r_blk ?_
    refine r_blk ?_
    refine r_region ?_
    refine r_op rfl rfl rfl (run_add rfl (by exact rfl) (by exact rfl) (by omega) (by omega)) ?_
    refine r_op rfl rfl rfl (run_mv (v := .int _ _) rfl (by exact rfl)) ?_
    refine r_nil ?_
    refine r_again (k + 1) ?_ ?_ ?_
    ·first | omega | (dsimp only; omega)
    ·refine ⟨_, (by first | exact rfl | exact congrArg (Value.int _) (by omega) | exact congrArg (Value.int _) (by dsimp only; omega) | exact congrArg (Value.int _) (by simp) | exact congrArg S (by simp)), rfl, (by first | assumption | omega | (dsimp only; omega) | (simp; done)), (by rw [toks_succ (by omega)]; first | (rw [tokI_text (by assumption)]; exact hov13) | (rw [tokI_tag (by first | exact .inl (by assumption) | exact .inr (.inl (by assumption)) | exact .inr (.inr (.inl (by assumption))) | exact .inr (.inr (.inr (by assumption))))]; exact hov13) | (rw [tokI_none (by assumption) (by assumption) (by assumption) (by assumption) (by assumption), List.append_nil]; exact hov13)), (by first | assumption | omega | (dsimp only; omega) | (simp; done)), hV⟩
    ·repeat (first | (with_reducible exact Agree.merge _ _ _) | (with_reducible exact Agree.refl _ _) | (with_reducible refine Agree.upd ?_ _ _ rfl) | ((with_reducible refine Agree.inner ?_ ?_); (kernel_rfl)))
   ·skip
    refine r_seq ?_
    refine r_seq ?_
    refine r_region ?_
    refine r_op rfl rfl rfl (run_eql rfl (by exact rfl) (by exact rfl)) ?_
    refine r_op rfl rfl rfl (run_asg (v := .bool _) rfl (by exact rfl)) ?_
    refine r_nil ?_
    refine r_cond (by exact rfl) (fun hc15 => ?_) (fun hc15 => ?_)
    ·skip
     refine r_skip ?_
     refine r_condT (by exact rfl) hc15 ?_
     refine r_region ?_
     refine r_op rfl rfl rfl (run_mv (v := vo) rfl (by exact rfl)) ?_
     refine r_op rfl rfl rfl (run_fa rfl (by exact rfl) fo_129_0) ?_
     refine r_op rfl rfl rfl (run_ld1 rfl ag_3 (by exact rfl) (hAb8.cell 0 (by exact rfl))) ?_
     refine r_op rfl rfl rfl (run_fa rfl (by exact rfl) fo_129_1) ?_
     refine r_op rfl rfl rfl (run_ld1 rfl ag_9 (by exact rfl) (hAb8.cell 1 (by exact rfl))) ?_
     refine r_op rfl rfl rfl (run_fa rfl (by exact rfl) fo_129_2) ?_
     refine r_op rfl rfl rfl (run_ld1 rfl ag_3 (by exact rfl) (hAb8.cell 2 (by exact rfl))) ?_
     refine r_op rfl rfl rfl (run_bld (pv := [(0, .int _ _), (1, S _), (2, .int _ _)]) (zs := [_, _, _]) (cells := [_, _, _]) rfl ty_81 (by exact rfl) pl_81 (by exact rfl) (by exact rfl)) ?_
     refine r_append1E (u := .agg _) (y := (f.getD k default : Vc.Item)) rfl rfl Try.underlying63 ty_81 (by exact rfl) hoo (fun _ => (by exact rfl)) (by exact rfl) (by first | exact rfl | (show _ = List.toArray [_, _, _]; first | (dsimp only; done) | exact rfl | (dsimp only; exact rfl))) ((by first | omega | (simp; omega))) ((by first | omega | (simp; omega))) (by omega) ?_
     intro q_v16 v16 w17 hEw17 hov16 hlv16
     have hs_w17 := (hEw17).size
     replace hV := evo_stepo hV hEw17 (fun g hg => .inl (by first | exact (hoo.block hg).1 | (have := hoo.block hg; omega)))
     replace hf := hf0 _ hV
     refine r_op rfl rfl rfl (run_asg (v := v16) rfl (by exact rfl)) ?_
     refine r_nil ?_
     refine r_blk ?_
     refine r_blk ?_
     refine r_region ?_
     refine r_op rfl rfl rfl (run_add rfl (by exact rfl) (by exact rfl) (by omega) (by omega)) ?_
     refine r_op rfl rfl rfl (run_mv (v := .int _ _) rfl (by exact rfl)) ?_
     refine r_nil ?_
     refine r_again (k + 1) ?_ ?_ ?_
     ·first | omega | (dsimp only; omega)
     ·refine ⟨_, (by first | exact rfl | exact congrArg (Value.int _) (by omega) | exact congrArg (Value.int _) (by dsimp only; omega) | exact congrArg (Value.int _) (by simp) | exact congrArg S (by simp)), rfl, (by first | assumption | omega | (dsimp only; omega) | (simp; done)), (by rw [toks_succ (by omega)]; first | (rw [tokI_text (by assumption)]; exact hov16) | (rw [tokI_tag (by first | exact .inl (by assumption) | exact .inr (.inl (by assumption)) | exact .inr (.inr (.inl (by assumption))) | exact .inr (.inr (.inr (by assumption))))]; exact hov16) | (rw [tokI_none (by assumption) (by assumption) (by assumption) (by assumption) (by assumption), List.append_nil]; exact hov16)), (by first | assumption | omega | (dsimp only; omega) | (simp; done)), hV⟩
     ·repeat (first | (with_reducible exact Agree.merge _ _ _) | (with_reducible exact Agree.refl _ _) | (with_reducible refine Agree.upd ?_ _ _ rfl) | ((with_reducible refine Agree.inner ?_ ?_); (kernel_rfl)))
    ·skip
     refine r_seq ?_
     refine r_region ?_
     refine r_op rfl rfl rfl (run_eql rfl (by exact rfl) (by exact rfl)) ?_
     refine r_op rfl rfl rfl (run_asg (v := .bool _) rfl (by exact rfl)) ?_
     refine r_nil ?_
     refine r_cond (by exact rfl) (fun hc18 => ?_) (fun hc18 => ?_)
     ·skip
      refine r_skip ?_
      refine r_condT (by exact rfl) hc18 ?_
      refine r_region ?_
      refine r_op rfl rfl rfl (run_mv (v := vo) rfl (by exact rfl)) ?_
      refine r_op rfl rfl rfl (run_fa rfl (by exact rfl) fo_129_0) ?_
      refine r_op rfl rfl rfl (run_ld1 rfl ag_3 (by exact rfl) (hAb8.cell 0 (by exact rfl))) ?_
      refine r_op rfl rfl rfl (run_fa rfl (by exact rfl) fo_129_1) ?_
      refine r_op rfl rfl rfl (run_ld1 rfl ag_9 (by exact rfl) (hAb8.cell 1 (by exact rfl))) ?_
      refine r_op rfl rfl rfl (run_fa rfl (by exact rfl) fo_129_2) ?_
      refine r_op rfl rfl rfl (run_ld1 rfl ag_3 (by exact rfl) (hAb8.cell 2 (by exact rfl))) ?_
      refine r_op rfl rfl rfl (run_bld (pv := [(0, .int _ _), (1, S _), (2, .int _ _)]) (zs := [_, _, _]) (cells := [_, _, _]) rfl ty_81 (by exact rfl) pl_81 (by exact rfl) (by exact rfl)) ?_
      refine r_append1E (u := .agg _) (y := (f.getD k default : Vc.Item)) rfl rfl Try.underlying63 ty_81 (by exact rfl) hoo (fun _ => (by exact rfl)) (by exact rfl) (by first | exact rfl | (show _ = List.toArray [_, _, _]; first | (dsimp only; done) | exact rfl | (dsimp only; exact rfl))) ((by first | omega | (simp; omega))) ((by first | omega | (simp; omega))) (by omega) ?_
      intro q_v19 v19 w20 hEw20 hov19 hlv19
      have hs_w20 := (hEw20).size
      replace hV := evo_stepo hV hEw20 (fun g hg => .inl (by first | exact (hoo.block hg).1 | (have := hoo.block hg; omega)))
      replace hf := hf0 _ hV
      refine r_op rfl rfl rfl (run_asg (v := v19) rfl (by exact rfl)) ?_
      refine r_nil ?_
      refine r_blk ?_
      refine r_blk ?_
      refine r_region ?_
      refine r_op rfl rfl rfl (run_add rfl (by exact rfl) (by exact rfl) (by omega) (by omega)) ?_
      refine r_op rfl rfl rfl (run_mv (v := .int _ _) rfl (by exact rfl)) ?_
      refine r_nil ?_
      refine r_again (k + 1) ?_ ?_ ?_
      ·first | omega | (dsimp only; omega)
      ·refine ⟨_, (by first | exact rfl | exact congrArg (Value.int _) (by omega) | exact congrArg (Value.int _) (by dsimp only; omega) | exact congrArg (Value.int _) (by simp) | exact congrArg S (by simp)), rfl, (by first | assumption | omega | (dsimp only; omega) | (simp; done)), (by rw [toks_succ (by omega)]; first | (rw [tokI_text (by assumption)]; exact hov19) | (rw [tokI_tag (by first | exact .inl (by assumption) | exact .inr (.inl (by assumption)) | exact .inr (.inr (.inl (by assumption))) | exact .inr (.inr (.inr (by assumption))))]; exact hov19) | (rw [tokI_none (by assumption) (by assumption) (by assumption) (by assumption) (by assumption), List.append_nil]; exact hov19)), (by first | assumption | omega | (dsimp only; omega) | (simp; done)), hV⟩
      ·repeat (first | (with_reducible exact Agree.merge _ _ _) | (with_reducible exact Agree.refl _ _) | (with_reducible refine Agree.upd ?_ _ _ rfl) | ((with_reducible refine Agree.inner ?_ ?_); (kernel_rfl)))
     ·skip
      refine r_seq ?_
      refine r_region ?_
      refine r_op rfl rfl rfl (run_eql rfl (by exact rfl) (by exact rfl)) ?_
      refine r_op rfl rfl rfl (run_asg (v := .bool _) rfl (by exact rfl)) ?_
      refine r_nil ?_
      refine r_cond (by exact rfl) (fun hc21 => ?_) (fun hc21 => ?_)
      ·skip
       refine r_skip ?_
       refine r_condT (by exact rfl) hc21 ?_
       refine r_region ?_
       refine r_op rfl rfl rfl (run_mv (v := vo) rfl (by exact rfl)) ?_
       refine r_op rfl rfl rfl (run_fa rfl (by exact rfl) fo_129_0) ?_
       refine r_op rfl rfl rfl (run_ld1 rfl ag_3 (by exact rfl) (hAb8.cell 0 (by exact rfl))) ?_
       refine r_op rfl rfl rfl (run_fa rfl (by exact rfl) fo_129_1) ?_
       refine r_op rfl rfl rfl (run_ld1 rfl ag_9 (by exact rfl) (hAb8.cell 1 (by exact rfl))) ?_
       refine r_op rfl rfl rfl (run_fa rfl (by exact rfl) fo_129_2) ?_
       refine r_op rfl rfl rfl (run_ld1 rfl ag_3 (by exact rfl) (hAb8.cell 2 (by exact rfl))) ?_
       refine r_op rfl rfl rfl (run_bld (pv := [(0, .int _ _), (1, S _), (2, .int _ _)]) (zs := [_, _, _]) (cells := [_, _, _]) rfl ty_81 (by exact rfl) pl_81 (by exact rfl) (by exact rfl)) ?_
       refine r_append1E (u := .agg _) (y := (f.getD k default : Vc.Item)) rfl rfl Try.underlying63 ty_81 (by exact rfl) hoo (fun _ => (by exact rfl)) (by exact rfl) (by first | exact rfl | (show _ = List.toArray [_, _, _]; first | (dsimp only; done) | exact rfl | (dsimp only; exact rfl))) ((by first | omega | (simp; omega))) ((by first | omega | (simp; omega))) (by omega) ?_
       intro q_v22 v22 w23 hEw23 hov22 hlv22
       have hs_w23 := (hEw23).size
       replace hV := evo_stepo hV hEw23 (fun g hg => .inl (by first | exact (hoo.block hg).1 | (have := hoo.block hg; omega)))
       replace hf := hf0 _ hV
       refine r_op rfl rfl rfl (run_asg (v := v22) rfl (by exact rfl)) ?_
       refine r_nil ?_
       refine r_blk ?_
       refine r_blk ?_
       refine r_region ?_
       refine r_op rfl rfl rfl (run_add rfl (by exact rfl) (by exact rfl) (by omega) (by omega)) ?_
       refine r_op rfl rfl rfl (run_mv (v := .int _ _) rfl (by exact rfl)) ?_
       refine r_nil ?_
       refine r_again (k + 1) ?_ ?_ ?_
       ·first | omega | (dsimp only; omega)
       ·refine ⟨_, (by first | exact rfl | exact congrArg (Value.int _) (by omega) | exact congrArg (Value.int _) (by dsimp only; omega) | exact congrArg (Value.int _) (by simp) | exact congrArg S (by simp)), rfl, (by first | assumption | omega | (dsimp only; omega) | (simp; done)), (by rw [toks_succ (by omega)]; first | (rw [tokI_text (by assumption)]; exact hov22) | (rw [tokI_tag (by first | exact .inl (by assumption) | exact .inr (.inl (by assumption)) | exact .inr (.inr (.inl (by assumption))) | exact .inr (.inr (.inr (by assumption))))]; exact hov22) | (rw [tokI_none (by assumption) (by assumption) (by assumption) (by assumption) (by assumption), List.append_nil]; exact hov22)), (by first | assumption | omega | (dsimp only; omega) | (simp; done)), hV⟩
       ·repeat (first | (with_reducible exact Agree.merge _ _ _) | (with_reducible exact Agree.refl _ _) | (with_reducible refine Agree.upd ?_ _ _ rfl) | ((with_reducible refine Agree.inner ?_ ?_); (kernel_rfl)))
      ·skip
       refine r_region ?_
       refine r_op rfl rfl rfl (run_eql rfl (by exact rfl) (by exact rfl)) ?_
       refine r_op rfl rfl rfl (run_asg (v := .bool _) rfl (by exact rfl)) ?_
       refine r_nil ?_
       refine r_cond (by exact rfl) (fun hc24 => ?_) (fun hc24 => ?_)
       ·skip
        refine r_region ?_
        refine r_op rfl rfl rfl (run_mv (v := vo) rfl (by exact rfl)) ?_
        refine r_op rfl rfl rfl (run_fa rfl (by exact rfl) fo_129_0) ?_
        refine r_op rfl rfl rfl (run_ld1 rfl ag_3 (by exact rfl) (hAb8.cell 0 (by exact rfl))) ?_
        refine r_op rfl rfl rfl (run_fa rfl (by exact rfl) fo_129_1) ?_
        refine r_op rfl rfl rfl (run_ld1 rfl ag_9 (by exact rfl) (hAb8.cell 1 (by exact rfl))) ?_
        refine r_op rfl rfl rfl (run_fa rfl (by exact rfl) fo_129_2) ?_
        refine r_op rfl rfl rfl (run_ld1 rfl ag_3 (by exact rfl) (hAb8.cell 2 (by exact rfl))) ?_
        refine r_op rfl rfl rfl (run_bld (pv := [(0, .int _ _), (1, S _), (2, .int _ _)]) (zs := [_, _, _]) (cells := [_, _, _]) rfl ty_81 (by exact rfl) pl_81 (by exact rfl) (by exact rfl)) ?_
        refine r_append1E (u := .agg _) (y := (f.getD k default : Vc.Item)) rfl rfl Try.underlying63 ty_81 (by exact rfl) hoo (fun _ => (by exact rfl)) (by exact rfl) (by first | exact rfl | (show _ = List.toArray [_, _, _]; first | (dsimp only; done) | exact rfl | (dsimp only; exact rfl))) ((by first | omega | (simp; omega))) ((by first | omega | (simp; omega))) (by omega) ?_
        intro q_v25 v25 w26 hEw26 hov25 hlv25
        have hs_w26 := (hEw26).size
        replace hV := evo_stepo hV hEw26 (fun g hg => .inl (by first | exact (hoo.block hg).1 | (have := hoo.block hg; omega)))
        replace hf := hf0 _ hV
        refine r_op rfl rfl rfl (run_asg (v := v25) rfl (by exact rfl)) ?_
        refine r_nil ?_
        refine r_blk ?_
        refine r_blk ?_
        refine r_region ?_
        refine r_op rfl rfl rfl (run_add rfl (by exact rfl) (by exact rfl) (by omega) (by omega)) ?_
        refine r_op rfl rfl rfl (run_mv (v := .int _ _) rfl (by exact rfl)) ?_
        refine r_nil ?_
        refine r_again (k + 1) ?_ ?_ ?_
        ·first | omega | (dsimp only; omega)
        ·refine ⟨_, (by first | exact rfl | exact congrArg (Value.int _) (by omega) | exact congrArg (Value.int _) (by dsimp only; omega) | exact congrArg (Value.int _) (by simp) | exact congrArg S (by simp)), rfl, (by first | assumption | omega | (dsimp only; omega) | (simp; done)), (by rw [toks_succ (by omega)]; first | (rw [tokI_text (by assumption)]; exact hov25) | (rw [tokI_tag (by first | exact .inl (by assumption) | exact .inr (.inl (by assumption)) | exact .inr (.inr (.inl (by assumption))) | exact .inr (.inr (.inr (by assumption))))]; exact hov25) | (rw [tokI_none (by assumption) (by assumption) (by assumption) (by assumption) (by assumption), List.append_nil]; exact hov25)), (by first | assumption | omega | (dsimp only; omega) | (simp; done)), hV⟩
        ·repeat (first | (with_reducible exact Agree.merge _ _ _) | (with_reducible exact Agree.refl _ _) | (with_reducible refine Agree.upd ?_ _ _ rfl) | ((with_reducible refine Agree.inner ?_ ?_); (kernel_rfl)))
       ·skip
        refine r_skip ?_
        refine r_blk ?_
        refine r_blk ?_
        refine r_region ?_
        refine r_op rfl rfl rfl (run_add rfl (by exact rfl) (by exact rfl) (by omega) (by omega)) ?_
        refine r_op rfl rfl rfl (run_mv (v := .int _ _) rfl (by exact rfl)) ?_
        refine r_nil ?_
        refine r_again (k + 1) ?_ ?_ ?_
        ·first | omega | (dsimp only; omega)
        ·refine ⟨_, (by first | exact rfl | exact congrArg (Value.int _) (by omega) | exact congrArg (Value.int _) (by dsimp only; omega) | exact congrArg (Value.int _) (by simp) | exact congrArg S (by simp)), rfl, (by first | assumption | omega | (dsimp only; omega) | (simp; done)), (by rw [toks_succ (by omega)]; first | (rw [tokI_text (by assumption)]; exact hoo) | (rw [tokI_tag (by first | exact .inl (by assumption) | exact .inr (.inl (by assumption)) | exact .inr (.inr (.inl (by assumption))) | exact .inr (.inr (.inr (by assumption))))]; exact hoo) | (rw [tokI_none (by assumption) (by assumption) (by assumption) (by assumption) (by assumption), List.append_nil]; exact hoo)), (by first | assumption | omega | (dsimp only; omega) | (simp; done)), hV⟩
        ·repeat (first | (with_reducible exact Agree.merge _ _ _) | (with_reducible exact Agree.refl _ _) | (with_reducible refine Agree.upd ?_ _ _ rfl) | ((with_reducible refine Agree.inner ?_ ?_); (kernel_rfl)))
  ·skip
   refine r_exit rfl ?_
   refine r_seq ?_
   refine r_region ?_
   refine r_op rfl rfl rfl (run_mv (v := vo) rfl (by exact rfl)) ?_
   refine r_op rfl rfl rfl (run_asg (v := vo) rfl (by exact rfl)) ?_
   refine r_nil ?_
   refine r_ret (res1 (v := vo) rfl (by exact rfl)) ?_
   exact ⟨_, rfl, hV, by rw [List.take_of_length_le (by omega)] at hoo; exact hoo⟩

end Go.Proofs.Ytomklacppmaljaa

namespace Go.Proofs.Ytomklacppmaljaa
open Go.RowKit Go.Vc
theorem fo_81_0 : fieldP Try.prog 81 0 = some 0 := by kernel_rfl
theorem fo_81_1 : fieldP Try.prog 81 1 = some 1 := by kernel_rfl
def keyT (x : Vc.Item) : Str := if x.kind = 6 then lowS x.text else x.text
theorem key_word {x : Vc.Item} (h : x.kind = 6) : keyT x = lowS x.text := if_pos h
theorem key_text {x : Vc.Item} (h : ¬ x.kind = 6) : keyT x = x.text := if_neg h
theorem tkey_calls {x : Vc.Item} {w0 : World} (hx : x.text.length ≤ 140737488355328) :
    Calls Try.prog 89 #[.agg (Enc.enc x).toArray] w0 fun e w' => e = .returned (S (keyT x)) ∧ Evo w0 w' [] := by
 refine calls_enter (n := 11) (args := [.agg (Enc.enc x).toArray]) Try.func89 rfl Try.ntmps89 rfl ?_
 have hV : Evo w0 w0 [] := Evo.refl _ _
 refine r_seq ?_
 refine r_region ?_
 refine r_box (vs := [_, _, _]) (by exact rfl) (by exact rfl) rfl ?_
 intro b1 w2 heb1 hEw2 hbb1 hzb1
 have hs_w2 := (hEw2).size
 replace hV := evo_step0 hV hEw2
 have hAb1 := hbb1.at
 refine r_op rfl rfl rfl (run_asg (v := S _) rfl (by exact rfl)) ?_
 refine r_nil ?_
 refine r_seq ?_
 refine r_seq ?_
 refine r_region ?_
 refine r_op rfl rfl rfl (run_fa rfl (by exact rfl) fo_81_0) ?_
 refine r_op rfl rfl rfl (run_ld1 rfl ag_3 (by exact rfl) (hAb1.cell 0 (by exact rfl))) ?_
 refine r_op rfl rfl rfl (run_eql rfl (by exact rfl) (by exact rfl)) ?_
 refine r_nil ?_
 refine r_cond (by exact rfl) (fun hc3 => ?_) (fun hc3 => ?_)
 ·skip
  refine r_seq ?_
  refine r_region ?_
  refine r_op rfl rfl rfl (run_fa rfl (by exact rfl) fo_81_1) ?_
  refine r_op rfl rfl rfl (run_ld1 rfl ag_9 (by exact rfl) (hAb1.cell 1 (by exact rfl))) ?_
  refine r_opcall rfl rfl rfl (run_callf (vs := [S _]) rfl (by exact rfl) Try.func70 rfl (by kernel_rfl)) (lower_calls (by first | omega | (simp; omega))) ?_
  rintro e w4 ⟨rfl, hE4⟩
  refine ⟨_, rfl, ?_⟩
  have hs_w4 := (hE4).size
  replace hV := evo_step0 hV hE4
  replace hbb1 := hbb1.evo0 hE4
  replace hAb1 := hAb1.evo0 hE4
  refine r_op rfl rfl rfl (run_asg (v := S _) rfl (by exact rfl)) ?_
  refine r_nil ?_
  refine r_ret (res1 (v := S _) rfl (by exact rfl)) ?_
  exact ⟨ret_str (by rw [key_word hc3]), hV⟩
 ·skip
  refine r_skip ?_
  refine r_seq ?_
  refine r_region ?_
  refine r_op rfl rfl rfl (run_fa rfl (by exact rfl) fo_81_1) ?_
  refine r_op rfl rfl rfl (run_ld1 rfl ag_9 (by exact rfl) (hAb1.cell 1 (by exact rfl))) ?_
  refine r_op rfl rfl rfl (run_asg (v := S _) rfl (by exact rfl)) ?_
  refine r_nil ?_
  refine r_ret (res1 (v := S _) rfl (by exact rfl)) ?_
  exact ⟨ret_str (by rw [key_text hc3]), hV⟩

end Go.Proofs.Ytomklacppmaljaa

