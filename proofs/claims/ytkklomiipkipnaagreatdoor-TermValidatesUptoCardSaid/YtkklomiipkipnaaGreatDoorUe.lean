/-
  Library, plain laws and walks that the statements reach (joined by a program out of smaller texts).
-/
import Derived.Test.YtkklomiipkipnaaGreatDoorUc
import Derived.Test.YtkklomiipkipnaaGreatDoorUb
import Derived.Test.YtkklomiipkipnaaGreatDoorRows
import Derived.Test.YtkklomiipkipnaaGreatDoorUd
import Derived.Test.YtkklomiipkipnaaGreatDoorItr
import Derived.Test.YtkklomiipkipnaaGreatDoorUk
namespace Go.Proofs.YtkklomiipkipnaaGreatDoor
open Go.RowKit Go.Vc
theorem isname_calls {s : Str} {w0 : World}  :
    Calls Tryz.prog 102 #[S s] w0 fun e w' => e = .returned (.bool (isName s)) ∧ Evo w0 w' [] := by
 refine calls_enter (n := 51) (args := [S s]) Tryz.func102 rfl Tryz.ntmps102 rfl ?_
 have hV : Evo w0 w0 [] := Evo.refl _ _
 refine r_seq ?_
 refine r_region ?_
 refine r_op rfl rfl rfl (run_asg (v := .bool _) rfl (by exact rfl)) ?_
 refine r_nil ?_
 refine r_seq ?_
 refine r_seq ?_
 refine r_region ?_
 refine r_op rfl rfl rfl (run_mv (v := S _) rfl (by exact rfl)) ?_
 refine r_op rfl rfl rfl (run_lenS rfl (by exact rfl) Tryz.underlying9) ?_
 refine r_op rfl rfl rfl (run_lss rfl (by exact rfl) (by exact rfl)) ?_
 refine r_op rfl rfl rfl (run_mv (v := .bool _) rfl (by exact rfl)) ?_
 refine r_g rfl (wantF (by exact rfl)) rfl (fun hg => run_mv (v := S _) rfl (by exact rfl)) ?_
 refine r_g rfl (wantF (by exact rfl)) rfl (fun hg => run_lenS rfl (glv (by exact rfl) (fun h => h) hg) Tryz.underlying9) ?_
 refine r_g rfl (wantF (by exact rfl)) rfl (fun hg => run_gtr rfl (glv (by exact rfl) (fun h => h) hg) (by exact rfl)) ?_
 refine r_op rfl rfl rfl (run_pick_or rfl (by exact rfl) rfl (fun hq => glv (by exact rfl) (fun h => h) hq)) ?_
 refine r_op rfl rfl rfl (run_mv (v := .bool _) rfl (by exact rfl)) ?_
 refine r_g rfl (wantF (by exact rfl)) rfl (fun hg => run_mv (v := S _) rfl (by exact rfl)) ?_
 refine r_g rfl (wantF (by exact rfl)) rfl (fun hg => run_ixS (0) rfl Tryz.underlying9 (glv (by exact rfl) (fun h => h) hg) (by exact rfl) (by first | exact rfl | omega) (by omega)) ?_
 refine r_g rfl (wantF (by exact rfl)) rfl (fun hg => run_lss rfl (glv (by exact rfl) (fun h => h) hg) (by exact rfl)) ?_
 refine r_op rfl rfl rfl (run_pick_or rfl (by exact rfl) rfl (fun hq => glv (by exact rfl) (fun h => h) hq)) ?_
 refine r_op rfl rfl rfl (run_mv (v := .bool _) rfl (by exact rfl)) ?_
 refine r_g rfl (wantF (by exact rfl)) rfl (fun hg => run_mv (v := S _) rfl (by exact rfl)) ?_
 refine r_g rfl (wantF (by exact rfl)) rfl (fun hg => run_ixS (0) rfl Tryz.underlying9 (glv (by exact rfl) (fun h => h) hg) (by exact rfl) (by first | exact rfl | omega) (by omega)) ?_
 refine r_g rfl (wantF (by exact rfl)) rfl (fun hg => run_gtr rfl (glv (by exact rfl) (fun h => h) hg) (by exact rfl)) ?_
 refine r_op rfl rfl rfl (run_pick_or rfl (by exact rfl) rfl (fun hq => glv (by exact rfl) (fun h => h) hq)) ?_
 refine r_nil ?_
 refine r_cond (by exact rfl) (fun hc1 => ?_) (fun hc1 => ?_)
 ·skip
  refine r_seq ?_
  refine r_region ?_
  refine r_op rfl rfl rfl (run_asg (v := .bool _) rfl (by exact rfl)) ?_
  refine r_nil ?_
  refine r_ret (res1 (v := .bool _) rfl (by exact rfl)) ?_
  exact ⟨by rw [isName_len (by omega)], hV⟩
 ·skip
  refine r_skip ?_
  refine r_seq ?_
  refine r_seq ?_
  refine r_region ?_
  refine r_op rfl rfl rfl (run_asg (v := .int _ _) rfl (by exact rfl)) ?_
  refine r_nil ?_
  refine r_block ?_
  refine r_loop (α := Nat) [2, 3, 4, 23, 24, 25, 26, 27, 28, 29, 30, 31, 32, 33, 34, 35, 36, 37, 38, 39, 40, 41, 42, 43, 44, 45, 46, 47, 48, 49, 50] (fun k g w => g 3 = .int .i64 (k : Nat) ∧ (1 ≤ k ∧ k ≤ s.length) ∧ (∀ j, 1 ≤ j → j < k → nameB (s.getD j 0) = true) ∧ w0.heap.size ≤ w.heap.size ∧ Evo w0 w []) (fun k => s.length - k) 1 ?_ ?_
  ·refine ⟨(by first | exact rfl | exact congrArg (Value.int _) (by omega) | exact congrArg (Value.int _) (by dsimp only; omega) | exact congrArg (Value.int _) (by simp) | exact congrArg S (by simp)), (by first | assumption | omega | (dsimp only; omega) | (simp; done)), (fun j h1 h2 => by omega), (by first | assumption | omega | (dsimp only; omega) | (simp; done)), hV⟩
  ·rintro k g w3 ⟨hj4, hk, hall, hzl2, hV⟩
   have hs_w3hV := hV.size
   refine r_know (i := 3) (v := .int .i64 (k : Nat)) (by exact hj4) ?_
   refine r_seq ?_
   refine r_seq ?_
   refine r_region ?_
   refine r_op rfl rfl rfl (run_mv (v := .int _ _) rfl (by exact rfl)) ?_
   refine r_op rfl rfl rfl (run_mv (v := S _) rfl (by exact rfl)) ?_
   refine r_op rfl rfl rfl (run_lenS rfl (by exact rfl) Tryz.underlying9) ?_
   refine r_op rfl rfl rfl (run_lss rfl (by exact rfl) (by exact rfl)) ?_
   refine r_nil ?_
   refine r_cond (by exact rfl) (fun hc5 => ?_) (fun hc5 => ?_)
   ·skip
    refine r_skip ?_
    refine r_seq ?_
    refine r_block ?_
    refine r_seq ?_
    refine r_region ?_
    refine r_op rfl rfl rfl (run_mv (v := S _) rfl (by exact rfl)) ?_
    refine r_op rfl rfl rfl (run_mv (v := .int _ _) rfl (by exact rfl)) ?_
    refine r_op rfl rfl rfl (run_ixS (k) rfl Tryz.underlying9 (by exact rfl) (by exact rfl) (by first | exact rfl | omega) (by omega)) ?_
    refine r_op rfl rfl rfl (run_asg (v := .int _ _) rfl (by exact rfl)) ?_
    refine r_nil ?_
    refine r_seq ?_
    refine r_region ?_
    refine r_op rfl rfl rfl (run_mv (v := .int _ _) rfl (by exact rfl)) ?_
    refine r_op rfl rfl rfl (run_geq rfl (by exact rfl) (by exact rfl)) ?_
    refine r_op rfl rfl rfl (run_mv (v := .bool _) rfl (by exact rfl)) ?_
    refine r_g rfl (wantT (by exact rfl)) rfl (fun hg => run_mv (v := .int _ _) rfl (by exact rfl)) ?_
    refine r_g rfl (wantT (by exact rfl)) rfl (fun hg => run_leq rfl (glv (by exact rfl) (fun h => h) hg) (by exact rfl)) ?_
    refine r_op rfl rfl rfl (run_pick_and rfl (by exact rfl) (fun hq => glv (by exact rfl) (fun h => h) hq) rfl) ?_
    refine r_op rfl rfl rfl (run_mv (v := .bool _) rfl (by exact rfl)) ?_
    refine r_g rfl (wantF (by exact rfl)) rfl (fun hg => run_mv (v := .int _ _) rfl (by exact rfl)) ?_
    refine r_g rfl (wantF (by exact rfl)) rfl (fun hg => run_geq rfl (glv (by exact rfl) (fun h => h) hg) (by exact rfl)) ?_
    refine r_g rfl (wantF (by exact rfl)) rfl (fun hg => run_mv (v := .bool _) rfl (glv (by exact rfl) (fun h => h) hg)) ?_
    refine r_g rfl (wantTg (by exact rfl)) rfl (fun hg => run_mv (v := .int _ _) rfl (by exact rfl)) ?_
    refine r_g rfl (wantTg (by exact rfl)) rfl (fun hg => run_leq rfl (glv (by exact rfl) (fun h => h) hg) (by exact rfl)) ?_
    refine r_g rfl (wantF (by exact rfl)) rfl (fun hg => run_pick_and rfl (glv (by exact rfl) (fun h => h) hg) (fun hq => glv (by exact rfl) (fun h => h) (And.intro hg hq)) rfl) ?_
    refine r_op rfl rfl rfl (run_pick_or rfl (by exact rfl) rfl (fun hq => glv (by exact rfl) (fun h => h) hq)) ?_
    refine r_op rfl rfl rfl (run_mv (v := .bool _) rfl (by exact rfl)) ?_
    refine r_g rfl (wantF (by exact rfl)) rfl (fun hg => run_mv (v := .int _ _) rfl (by exact rfl)) ?_
    refine r_g rfl (wantF (by exact rfl)) rfl (fun hg => run_eql rfl (glv (by exact rfl) (fun h => h) hg) (by exact rfl)) ?_
    refine r_op rfl rfl rfl (run_pick_or rfl (by exact rfl) rfl (fun hq => glv (by exact rfl) (fun h => h) hq)) ?_
    refine r_op rfl rfl rfl (run_not rfl (by exact rfl)) ?_
    refine r_nil ?_
    refine r_cond (by exact rfl) (fun hc6 => ?_) (fun hc6 => ?_)
    ·skip
     refine r_seq ?_
     refine r_region ?_
     refine r_op rfl rfl rfl (run_asg (v := .bool _) rfl (by exact rfl)) ?_
     refine r_nil ?_
     refine r_ret (res1 (v := .bool _) rfl (by exact rfl)) ?_
     exact ⟨by rw [isName_bad (k := k) (by omega) (by omega)], hV⟩
    ·skip
     refine r_skip ?_
     refine r_blk ?_
     refine r_region ?_
     refine r_op rfl rfl rfl (run_mv (v := .int _ _) rfl (by exact rfl)) ?_
     refine r_op rfl rfl rfl (run_add rfl (by exact rfl) (by exact rfl) (by omega) (by omega)) ?_
     refine r_op rfl rfl rfl (run_asg (v := .int _ _) rfl (by exact rfl)) ?_
     refine r_nil ?_
     refine r_again (k + 1) ?_ ?_ ?_
     ·first | omega | (dsimp only; omega)
     ·refine ⟨(by first | exact rfl | exact congrArg (Value.int _) (by omega) | exact congrArg (Value.int _) (by dsimp only; omega) | exact congrArg (Value.int _) (by simp) | exact congrArg S (by simp)), (by first | assumption | omega | (dsimp only; omega) | (simp; done)), (upto1 hall (fun _ => (nameB_iff _).2 (by omega))), (by first | assumption | omega | (dsimp only; omega) | (simp; done)), hV⟩
     ·repeat (first | (with_reducible exact Agree.merge _ _ _) | (with_reducible exact Agree.refl _ _) | (with_reducible refine Agree.upd ?_ _ _ rfl) | ((with_reducible refine Agree.inner ?_ ?_); (kernel_rfl)))
   ·skip
    refine r_exit rfl ?_
    refine r_seq ?_
    refine r_region ?_
    refine r_op rfl rfl rfl (run_asg (v := .bool _) rfl (by exact rfl)) ?_
    refine r_nil ?_
    refine r_ret (res1 (v := .bool _) rfl (by exact rfl)) ?_
    exact ⟨by rw [(isName_iff s).2 ⟨by omega, by omega, by omega, fun j h1 h2 => hall j h1 (by omega)⟩], hV⟩
theorem risname_calls {s : Str} {w0 : World}  :
    Calls Tryz.prog 107 #[S s] w0 fun e w' => e = .returned (.bool (isName s)) ∧ Evo w0 w' [] := by
 refine calls_enter (n := 44) (args := [S s]) Tryz.func107 rfl Tryz.ntmps107 rfl ?_
 have hV : Evo w0 w0 [] := Evo.refl _ _
 refine r_seq ?_
 refine r_region ?_
 refine r_op rfl rfl rfl (run_asg (v := .bool _) rfl (by exact rfl)) ?_
 refine r_nil ?_
 refine r_seq ?_
 refine r_seq ?_
 refine r_region ?_
 refine r_op rfl rfl rfl (run_mv (v := S _) rfl (by exact rfl)) ?_
 refine r_op rfl rfl rfl (run_lenS rfl (by exact rfl) Tryz.underlying9) ?_
 refine r_op rfl rfl rfl (run_lss rfl (by exact rfl) (by exact rfl)) ?_
 refine r_op rfl rfl rfl (run_mv (v := .bool _) rfl (by exact rfl)) ?_
 refine r_g rfl (wantF (by exact rfl)) rfl (fun hg => run_mv (v := S _) rfl (by exact rfl)) ?_
 refine r_g rfl (wantF (by exact rfl)) rfl (fun hg => run_lenS rfl (glv (by exact rfl) (fun h => h) hg) Tryz.underlying9) ?_
 refine r_g rfl (wantF (by exact rfl)) rfl (fun hg => run_gtr rfl (glv (by exact rfl) (fun h => h) hg) (by exact rfl)) ?_
 refine r_op rfl rfl rfl (run_pick_or rfl (by exact rfl) rfl (fun hq => glv (by exact rfl) (fun h => h) hq)) ?_
 refine r_nil ?_
 refine r_cond (by exact rfl) (fun hc1 => ?_) (fun hc1 => ?_)
 ·skip
  refine r_seq ?_
  refine r_region ?_
  refine r_op rfl rfl rfl (run_asg (v := .bool _) rfl (by exact rfl)) ?_
  refine r_nil ?_
  refine r_ret (res1 (v := .bool _) rfl (by exact rfl)) ?_
  exact ⟨by rw [isName_len (by omega)], hV⟩
 ·skip
  refine r_skip ?_
  refine r_seq ?_
  refine r_seq ?_
  refine r_region ?_
  refine r_op rfl rfl rfl (run_asg (v := .int _ _) rfl (by exact rfl)) ?_
  refine r_nil ?_
  refine r_block ?_
  refine r_loop (α := Nat) [2, 3, 4, 13, 14, 15, 16, 17, 18, 19, 20, 21, 22, 23, 24, 25, 26, 27, 28, 29, 30, 31, 32, 33, 34, 35, 36, 37, 38, 39, 40, 41, 42, 43] (fun k g w => g 3 = .int .i64 (k : Nat) ∧ k ≤ s.length ∧ (k = 0 ∨ (97 ≤ (s.getD 0 0).toNat ∧ (s.getD 0 0).toNat ≤ 122)) ∧ (∀ j, 1 ≤ j → j < k → nameB (s.getD j 0) = true) ∧ w0.heap.size ≤ w.heap.size ∧ Evo w0 w []) (fun k => s.length - k) 0 ?_ ?_
  ·refine ⟨(by first | exact rfl | exact congrArg (Value.int _) (by omega) | exact congrArg (Value.int _) (by dsimp only; omega) | exact congrArg (Value.int _) (by simp) | exact congrArg S (by simp)), (by first | assumption | omega | (dsimp only; omega) | (simp; done)), (.inl rfl), (fun j h1 h2 => by omega), (by first | assumption | omega | (dsimp only; omega) | (simp; done)), hV⟩
  ·rintro k g w3 ⟨hj4, hk, hlow, hall, hzl2, hV⟩
   have hs_w3hV := hV.size
   refine r_know (i := 3) (v := .int .i64 (k : Nat)) (by exact hj4) ?_
   refine r_seq ?_
   refine r_seq ?_
   refine r_region ?_
   refine r_op rfl rfl rfl (run_mv (v := .int _ _) rfl (by exact rfl)) ?_
   refine r_op rfl rfl rfl (run_mv (v := S _) rfl (by exact rfl)) ?_
   refine r_op rfl rfl rfl (run_lenS rfl (by exact rfl) Tryz.underlying9) ?_
   refine r_op rfl rfl rfl (run_lss rfl (by exact rfl) (by exact rfl)) ?_
   refine r_nil ?_
   refine r_cond (by exact rfl) (fun hc5 => ?_) (fun hc5 => ?_)
   ·skip
    refine r_skip ?_
    refine r_seq ?_
    refine r_block ?_
    refine r_seq ?_
    refine r_region ?_
    refine r_op rfl rfl rfl (run_mv (v := S _) rfl (by exact rfl)) ?_
    refine r_op rfl rfl rfl (run_mv (v := .int _ _) rfl (by exact rfl)) ?_
    refine r_op rfl rfl rfl (run_ixS (k) rfl Tryz.underlying9 (by exact rfl) (by exact rfl) (by first | exact rfl | omega) (by omega)) ?_
    refine r_op rfl rfl rfl (run_asg (v := .int _ _) rfl (by exact rfl)) ?_
    refine r_nil ?_
    refine r_seq ?_
    refine r_seq ?_
    refine r_region ?_
    refine r_op rfl rfl rfl (run_mv (v := .int _ _) rfl (by exact rfl)) ?_
    refine r_op rfl rfl rfl (run_geq rfl (by exact rfl) (by exact rfl)) ?_
    refine r_op rfl rfl rfl (run_mv (v := .bool _) rfl (by exact rfl)) ?_
    refine r_g rfl (wantT (by exact rfl)) rfl (fun hg => run_mv (v := .int _ _) rfl (by exact rfl)) ?_
    refine r_g rfl (wantT (by exact rfl)) rfl (fun hg => run_leq rfl (glv (by exact rfl) (fun h => h) hg) (by exact rfl)) ?_
    refine r_op rfl rfl rfl (run_pick_and rfl (by exact rfl) (fun hq => glv (by exact rfl) (fun h => h) hq) rfl) ?_
    refine r_op rfl rfl rfl (run_mv (v := .bool _) rfl (by exact rfl)) ?_
    refine r_g rfl (wantF (by exact rfl)) rfl (fun hg => run_mv (v := .int _ _) rfl (by exact rfl)) ?_
    refine r_g rfl (wantF (by exact rfl)) rfl (fun hg => run_gtr rfl (glv (by exact rfl) (fun h => h) hg) (by exact rfl)) ?_
    refine r_g rfl (wantF (by exact rfl)) rfl (fun hg => run_mv (v := .bool _) rfl (glv (by exact rfl) (fun h => h) hg)) ?_
    refine r_g rfl (wantTg (by exact rfl)) rfl (fun hg => run_mv (v := .int _ _) rfl (by exact rfl)) ?_
    refine r_g rfl (wantTg (by exact rfl)) rfl (fun hg => run_geq rfl (glv (by exact rfl) (fun h => h) hg) (by exact rfl)) ?_
    refine r_g rfl (wantTg (by exact rfl)) rfl (fun hg => run_mv (v := .bool _) rfl (glv (by exact rfl) (fun h => h) hg)) ?_
    refine r_g rfl (wantTg (by exact rfl)) rfl (fun hg => run_mv (v := .int _ _) rfl (by exact rfl)) ?_
    refine r_g rfl (wantTg (by exact rfl)) rfl (fun hg => run_leq rfl (glv (by exact rfl) (fun h => h) hg) (by exact rfl)) ?_
    refine r_g rfl (wantTg (by exact rfl)) rfl (fun hg => run_pick_and rfl (glv (by exact rfl) (fun h => h) hg) (fun hq => glv (by exact rfl) (fun h => h) (And.intro hg hq)) rfl) ?_
    refine r_g rfl (wantTg (by exact rfl)) rfl (fun hg => run_mv (v := .bool _) rfl (glv (by exact rfl) (fun h => h) hg)) ?_
    refine r_g rfl (wantFg (by exact rfl)) rfl (fun hg => run_mv (v := .int _ _) rfl (by exact rfl)) ?_
    refine r_g rfl (wantFg (by exact rfl)) rfl (fun hg => run_eql rfl (glv (by exact rfl) (fun h => h) hg) (by exact rfl)) ?_
    refine r_g rfl (wantTg (by exact rfl)) rfl (fun hg => run_pick_or rfl (glv (by exact rfl) (fun h => h) hg) rfl (fun hq => glv (by exact rfl) (fun h => h) (And.intro hg hq))) ?_
    refine r_g rfl (wantF (by exact rfl)) rfl (fun hg => run_pick_and rfl (glv (by exact rfl) (fun h => h) hg) (fun hq => glv (by exact rfl) (fun h => h) (And.intro hg hq)) rfl) ?_
    refine r_op rfl rfl rfl (run_pick_or rfl (by exact rfl) rfl (fun hq => glv (by exact rfl) (fun h => h) hq)) ?_
    refine r_nil ?_
    refine r_cond (by exact rfl) (fun hc6 => ?_) (fun hc6 => ?_)
    ·skip
     refine r_exit rfl ?_
     refine r_region ?_
     refine r_op rfl rfl rfl (run_mv (v := .int _ _) rfl (by exact rfl)) ?_
     refine r_op rfl rfl rfl (run_add rfl (by exact rfl) (by exact rfl) (by omega) (by omega)) ?_
     refine r_op rfl rfl rfl (run_asg (v := .int _ _) rfl (by exact rfl)) ?_
     refine r_nil ?_
     refine r_again (k + 1) ?_ ?_ ?_
     ·first | omega | (dsimp only; omega)
     ·refine ⟨(by first | exact rfl | exact congrArg (Value.int _) (by omega) | exact congrArg (Value.int _) (by dsimp only; omega) | exact congrArg (Value.int _) (by simp) | exact congrArg S (by simp)), (by first | assumption | omega | (dsimp only; omega) | (simp; done)), (.inr (hlow.elim (fun h => by subst h; omega) id)), (upto1 hall (fun _ => (nameB_iff _).2 (by omega))), (by first | assumption | omega | (dsimp only; omega) | (simp; done)), hV⟩
     ·repeat (first | (with_reducible exact Agree.merge _ _ _) | (with_reducible exact Agree.refl _ _) | (with_reducible refine Agree.upd ?_ _ _ rfl) | ((with_reducible refine Agree.inner ?_ ?_); (kernel_rfl)))
    ·skip
     refine r_skip ?_
     refine r_seq ?_
     refine r_region ?_
     refine r_op rfl rfl rfl (run_asg (v := .bool _) rfl (by exact rfl)) ?_
     refine r_nil ?_
     refine r_ret (res1 (v := .bool _) rfl (by exact rfl)) ?_
     exact ⟨by rw [isName_bad (k := k) (by omega) (by omega)], hV⟩
   ·skip
    refine r_exit rfl ?_
    refine r_seq ?_
    refine r_region ?_
    refine r_op rfl rfl rfl (run_asg (v := .bool _) rfl (by exact rfl)) ?_
    refine r_nil ?_
    refine r_ret (res1 (v := .bool _) rfl (by exact rfl)) ?_
    exact ⟨by rw [(isName_iff s).2 ⟨by omega, by omega, by omega, fun j h1 h2 => hall j h1 (by omega)⟩], hV⟩
theorem rname_calls {s : Str} {w0 : World} (hs : s.length ≤ 140737488355328) :
    Calls Tryz.prog 61 #[S s] w0 fun e w' => e = .returned (S (nameL s)) ∧ Evo w0 w' [] := by
 refine calls_enter (n := 18) (args := [S s]) Tryz.func61 rfl Tryz.ntmps61 rfl ?_
 have hV : Evo w0 w0 [] := Evo.refl _ _
 refine r_seq ?_
 refine r_region ?_
 refine r_op rfl rfl rfl (run_asg (v := S _) rfl (by exact rfl)) ?_
 refine r_nil ?_
 refine r_seq ?_
 refine r_seq ?_
 refine r_region ?_
 refine r_op rfl rfl rfl (run_asg (v := .int _ _) rfl (by exact rfl)) ?_
 refine r_nil ?_
 refine r_block ?_
 refine r_loop (α := Nat) [2, 3, 4, 5, 6, 7, 8, 9, 10, 11, 12, 13, 14, 15, 16] (fun k g w => g 3 = .int .i64 (k : Nat) ∧ k ≤ s.length ∧ (∀ j, j < k → (s.getD j 0).toNat ≠ 32) ∧ w0.heap.size ≤ w.heap.size ∧ Evo w0 w []) (fun k => s.length - k) 0 ?_ ?_
 ·refine ⟨(by first | exact rfl | exact congrArg (Value.int _) (by omega) | exact congrArg (Value.int _) (by dsimp only; omega) | exact congrArg (Value.int _) (by simp) | exact congrArg S (by simp)), (by first | assumption | omega | (dsimp only; omega) | (simp; done)), (fun j h1 => by omega), (by first | assumption | omega | (dsimp only; omega) | (simp; done)), hV⟩
 ·rintro k g w2 ⟨hj3, hk, hall, hzl1, hV⟩
  have hs_w2hV := hV.size
  refine r_know (i := 3) (v := .int .i64 (k : Nat)) (by exact hj3) ?_
  refine r_seq ?_
  refine r_seq ?_
  refine r_region ?_
  refine r_op rfl rfl rfl (run_mv (v := .int _ _) rfl (by exact rfl)) ?_
  refine r_op rfl rfl rfl (run_mv (v := S _) rfl (by exact rfl)) ?_
  refine r_op rfl rfl rfl (run_lenS rfl (by exact rfl) Tryz.underlying9) ?_
  refine r_op rfl rfl rfl (run_lss rfl (by exact rfl) (by exact rfl)) ?_
  refine r_nil ?_
  refine r_cond (by exact rfl) (fun hc4 => ?_) (fun hc4 => ?_)
  ·skip
   refine r_skip ?_
   refine r_seq ?_
   refine r_block ?_
   refine r_seq ?_
   refine r_region ?_
   refine r_op rfl rfl rfl (run_mv (v := S _) rfl (by exact rfl)) ?_
   refine r_op rfl rfl rfl (run_mv (v := .int _ _) rfl (by exact rfl)) ?_
   refine r_op rfl rfl rfl (run_ixS (k) rfl Tryz.underlying9 (by exact rfl) (by exact rfl) (by first | exact rfl | omega) (by omega)) ?_
   refine r_op rfl rfl rfl (run_eql rfl (by exact rfl) (by exact rfl)) ?_
   refine r_nil ?_
   refine r_cond (by exact rfl) (fun hc5 => ?_) (fun hc5 => ?_)
   ·skip
    refine r_seq ?_
    refine r_region ?_
    refine r_op rfl rfl rfl (run_mv (v := S _) rfl (by exact rfl)) ?_
    refine r_op rfl rfl rfl (run_mv (v := .int _ _) rfl (by exact rfl)) ?_
    refine r_op rfl rfl rfl (by exact run_slS (0) (k) rfl Tryz.underlying9 (by exact rfl) lo0 (at1 (by exact rfl) (by first | exact rfl | omega)) (by first | omega | (simp; omega)) (by first | omega | (simp; omega))) ?_
    refine r_op rfl rfl rfl (run_asg (v := S _) rfl (by exact rfl)) ?_
    refine r_nil ?_
    refine r_ret (res1 (v := S _) rfl (by exact rfl)) ?_
    exact ⟨by rw [nameL_at hall (by omega) (by omega)]; simp, hV⟩
   ·skip
    refine r_skip ?_
    refine r_blk ?_
    refine r_region ?_
    refine r_op rfl rfl rfl (run_mv (v := .int _ _) rfl (by exact rfl)) ?_
    refine r_op rfl rfl rfl (run_add rfl (by exact rfl) (by exact rfl) (by omega) (by omega)) ?_
    refine r_op rfl rfl rfl (run_asg (v := .int _ _) rfl (by exact rfl)) ?_
    refine r_nil ?_
    refine r_again (k + 1) ?_ ?_ ?_
    ·first | omega | (dsimp only; omega)
    ·refine ⟨(by first | exact rfl | exact congrArg (Value.int _) (by omega) | exact congrArg (Value.int _) (by dsimp only; omega) | exact congrArg (Value.int _) (by simp) | exact congrArg S (by simp)), (by first | assumption | omega | (dsimp only; omega) | (simp; done)), (upto0 hall (by omega)), (by first | assumption | omega | (dsimp only; omega) | (simp; done)), hV⟩
    ·repeat (first | (with_reducible exact Agree.merge _ _ _) | (with_reducible exact Agree.refl _ _) | (with_reducible refine Agree.upd ?_ _ _ rfl) | ((with_reducible refine Agree.inner ?_ ?_); (kernel_rfl)))
  ·skip
   refine r_exit rfl ?_
   refine r_seq ?_
   refine r_region ?_
   refine r_op rfl rfl rfl (run_mv (v := S _) rfl (by exact rfl)) ?_
   refine r_op rfl rfl rfl (run_asg (v := S _) rfl (by exact rfl)) ?_
   refine r_nil ?_
   refine r_ret (res1 (v := S _) rfl (by exact rfl)) ?_
   exact ⟨by rw [nameL_all (fun j hj => hall j (by omega))], hV⟩
end Go.Proofs.YtkklomiipkipnaaGreatDoor
namespace Go.Proofs.YtkklomiipkipnaaGreatDoor
open Go.RowKit Go.Vc
theorem ag_5 : aggP Tryz.prog 5 = some false := by kernel_rfl
theorem ty_5 : tyP Tryz.prog 5 = some (1, 1, some (.int .u8 0)) := by kernel_rfl
theorem of_calls {c : UInt8} {w0 : World}  :
    Calls Tryz.prog 95 #[.int .u8 ((c.toNat : Nat) : Int)] w0 fun e w' => e = .returned (.int .i64 (clsB c)) ∧ Evo w0 w' [] := by
 refine calls_enter (n := 51) (args := [.int .u8 ((c.toNat : Nat) : Int)]) Tryz.func95 rfl Tryz.ntmps95 rfl ?_
 have hV : Evo w0 w0 [] := Evo.refl _ _
 refine r_seq ?_
 refine r_region ?_
 refine r_op rfl rfl rfl (run_asg (v := .int _ _) rfl (by exact rfl)) ?_
 refine r_nil ?_
 refine r_seq ?_
 refine r_block ?_
 refine r_seq ?_
 refine r_region ?_
 refine r_op rfl rfl rfl (run_mv (v := .int _ _) rfl (by exact rfl)) ?_
 refine r_op rfl rfl rfl (run_eql rfl (by exact rfl) (by exact rfl)) ?_
 refine r_op rfl rfl rfl (run_mv (v := .bool _) rfl (by exact rfl)) ?_
 refine r_g rfl (wantF (by exact rfl)) rfl (fun hg => run_mv (v := .int _ _) rfl (by exact rfl)) ?_
 refine r_g rfl (wantF (by exact rfl)) rfl (fun hg => run_eql rfl (glv (by exact rfl) (fun h => h) hg) (by exact rfl)) ?_
 refine r_op rfl rfl rfl (run_pick_or rfl (by exact rfl) rfl (fun hq => glv (by exact rfl) (fun h => h) hq)) ?_
 refine r_op rfl rfl rfl (run_mv (v := .bool _) rfl (by exact rfl)) ?_
 refine r_g rfl (wantF (by exact rfl)) rfl (fun hg => run_mv (v := .int _ _) rfl (by exact rfl)) ?_
 refine r_g rfl (wantF (by exact rfl)) rfl (fun hg => run_eql rfl (glv (by exact rfl) (fun h => h) hg) (by exact rfl)) ?_
 refine r_op rfl rfl rfl (run_pick_or rfl (by exact rfl) rfl (fun hq => glv (by exact rfl) (fun h => h) hq)) ?_
 refine r_op rfl rfl rfl (run_mv (v := .bool _) rfl (by exact rfl)) ?_
 refine r_g rfl (wantF (by exact rfl)) rfl (fun hg => run_mv (v := .int _ _) rfl (by exact rfl)) ?_
 refine r_g rfl (wantF (by exact rfl)) rfl (fun hg => run_eql rfl (glv (by exact rfl) (fun h => h) hg) (by exact rfl)) ?_
 refine r_op rfl rfl rfl (run_pick_or rfl (by exact rfl) rfl (fun hq => glv (by exact rfl) (fun h => h) hq)) ?_
 refine r_op rfl rfl rfl (run_asg (v := .bool _) rfl (by exact rfl)) ?_
 refine r_nil ?_
 refine r_cond (by exact rfl) (fun hc1 => ?_) (fun hc1 => ?_)
 ·skip
  refine r_seq ?_
  refine r_region ?_
  refine r_op rfl rfl rfl (run_asg (v := .int _ _) rfl (by exact rfl)) ?_
  refine r_nil ?_
  refine r_ret (res1 (v := .int _ _) rfl (by exact rfl)) ?_
  exact ⟨ret_int (by rw [cls_space (by omega)]), hV⟩
 ·skip
  refine r_seq ?_
  refine r_region ?_
  refine r_op rfl rfl rfl (run_mv (v := .int _ _) rfl (by exact rfl)) ?_
  refine r_op rfl rfl rfl (run_lss rfl (by exact rfl) (by exact rfl)) ?_
  refine r_op rfl rfl rfl (run_mv (v := .bool _) rfl (by exact rfl)) ?_
  refine r_g rfl (wantF (by exact rfl)) rfl (fun hg => run_mv (v := .int _ _) rfl (by exact rfl)) ?_
  refine r_g rfl (wantF (by exact rfl)) rfl (fun hg => run_eql rfl (glv (by exact rfl) (fun h => h) hg) (by exact rfl)) ?_
  refine r_op rfl rfl rfl (run_pick_or rfl (by exact rfl) rfl (fun hq => glv (by exact rfl) (fun h => h) hq)) ?_
  refine r_op rfl rfl rfl (run_asg (v := .bool _) rfl (by exact rfl)) ?_
  refine r_nil ?_
  refine r_cond (by exact rfl) (fun hc2 => ?_) (fun hc2 => ?_)
  ·skip
   refine r_seq ?_
   refine r_region ?_
   refine r_op rfl rfl rfl (run_asg (v := .int _ _) rfl (by exact rfl)) ?_
   refine r_nil ?_
   refine r_ret (res1 (v := .int _ _) rfl (by exact rfl)) ?_
   exact ⟨ret_int (by rw [cls_control (by omega) (by omega)]), hV⟩
  ·skip
   refine r_seq ?_
   refine r_region ?_
   refine r_op rfl rfl rfl (run_mv (v := .int _ _) rfl (by exact rfl)) ?_
   refine r_op rfl rfl rfl (run_geq rfl (by exact rfl) (by exact rfl)) ?_
   refine r_op rfl rfl rfl (run_mv (v := .bool _) rfl (by exact rfl)) ?_
   refine r_g rfl (wantT (by exact rfl)) rfl (fun hg => run_mv (v := .int _ _) rfl (by exact rfl)) ?_
   refine r_g rfl (wantT (by exact rfl)) rfl (fun hg => run_leq rfl (glv (by exact rfl) (fun h => h) hg) (by exact rfl)) ?_
   refine r_op rfl rfl rfl (run_pick_and rfl (by exact rfl) (fun hq => glv (by exact rfl) (fun h => h) hq) rfl) ?_
   refine r_op rfl rfl rfl (run_asg (v := .bool _) rfl (by exact rfl)) ?_
   refine r_nil ?_
   refine r_cond (by exact rfl) (fun hc3 => ?_) (fun hc3 => ?_)
   ·skip
    refine r_seq ?_
    refine r_region ?_
    refine r_op rfl rfl rfl (run_asg (v := .int _ _) rfl (by exact rfl)) ?_
    refine r_nil ?_
    refine r_ret (res1 (v := .int _ _) rfl (by exact rfl)) ?_
    exact ⟨ret_int (by rw [cls_digit (by omega)]), hV⟩
   ·skip
    refine r_seq ?_
    refine r_region ?_
    refine r_op rfl rfl rfl (run_mv (v := .int _ _) rfl (by exact rfl)) ?_
    refine r_op rfl rfl rfl (run_geq rfl (by exact rfl) (by exact rfl)) ?_
    refine r_op rfl rfl rfl (run_mv (v := .bool _) rfl (by exact rfl)) ?_
    refine r_g rfl (wantT (by exact rfl)) rfl (fun hg => run_mv (v := .int _ _) rfl (by exact rfl)) ?_
    refine r_g rfl (wantT (by exact rfl)) rfl (fun hg => run_leq rfl (glv (by exact rfl) (fun h => h) hg) (by exact rfl)) ?_
    refine r_op rfl rfl rfl (run_pick_and rfl (by exact rfl) (fun hq => glv (by exact rfl) (fun h => h) hq) rfl) ?_
    refine r_op rfl rfl rfl (run_mv (v := .bool _) rfl (by exact rfl)) ?_
    refine r_g rfl (wantF (by exact rfl)) rfl (fun hg => run_mv (v := .int _ _) rfl (by exact rfl)) ?_
    refine r_g rfl (wantF (by exact rfl)) rfl (fun hg => run_geq rfl (glv (by exact rfl) (fun h => h) hg) (by exact rfl)) ?_
    refine r_g rfl (wantF (by exact rfl)) rfl (fun hg => run_mv (v := .bool _) rfl (glv (by exact rfl) (fun h => h) hg)) ?_
    refine r_g rfl (wantTg (by exact rfl)) rfl (fun hg => run_mv (v := .int _ _) rfl (by exact rfl)) ?_
    refine r_g rfl (wantTg (by exact rfl)) rfl (fun hg => run_leq rfl (glv (by exact rfl) (fun h => h) hg) (by exact rfl)) ?_
    refine r_g rfl (wantF (by exact rfl)) rfl (fun hg => run_pick_and rfl (glv (by exact rfl) (fun h => h) hg) (fun hq => glv (by exact rfl) (fun h => h) (And.intro hg hq)) rfl) ?_
    refine r_op rfl rfl rfl (run_pick_or rfl (by exact rfl) rfl (fun hq => glv (by exact rfl) (fun h => h) hq)) ?_
    refine r_op rfl rfl rfl (run_mv (v := .bool _) rfl (by exact rfl)) ?_
    refine r_g rfl (wantF (by exact rfl)) rfl (fun hg => run_mv (v := .int _ _) rfl (by exact rfl)) ?_
    refine r_g rfl (wantF (by exact rfl)) rfl (fun hg => run_geq rfl (glv (by exact rfl) (fun h => h) hg) (by exact rfl)) ?_
    refine r_op rfl rfl rfl (run_pick_or rfl (by exact rfl) rfl (fun hq => glv (by exact rfl) (fun h => h) hq)) ?_
    refine r_op rfl rfl rfl (run_asg (v := .bool _) rfl (by exact rfl)) ?_
    refine r_nil ?_
    refine r_cond (by exact rfl) (fun hc4 => ?_) (fun hc4 => ?_)
    ·skip
     refine r_seq ?_
     refine r_region ?_
     refine r_op rfl rfl rfl (run_asg (v := .int _ _) rfl (by exact rfl)) ?_
     refine r_nil ?_
     refine r_ret (res1 (v := .int _ _) rfl (by exact rfl)) ?_
     exact ⟨ret_int (by rw [cls_letter (by omega)]), hV⟩
    ·skip
     refine r_skip ?_
     refine r_blk ?_
     refine r_seq ?_
     refine r_region ?_
     refine r_op rfl rfl rfl (run_asg (v := .int _ _) rfl (by exact rfl)) ?_
     refine r_nil ?_
     refine r_ret (res1 (v := .int _ _) rfl (by exact rfl)) ?_
     exact ⟨ret_int (by rw [cls_mark (by omega) (by omega) (by omega) (by omega)]), hV⟩
theorem rclass_calls {c : UInt8} {w0 : World}  :
    Calls Tryz.prog 87 #[.int .u8 ((c.toNat : Nat) : Int)] w0 fun e w' => e = .returned (.int .i64 (clsB c)) ∧ Evo w0 w' [] := by
 refine calls_enter (n := 51) (args := [.int .u8 ((c.toNat : Nat) : Int)]) Tryz.func87 rfl Tryz.ntmps87 rfl ?_
 have hV : Evo w0 w0 [] := Evo.refl _ _
 refine r_seq ?_
 refine r_region ?_
 refine r_op rfl rfl rfl (run_asg (v := .int _ _) rfl (by exact rfl)) ?_
 refine r_nil ?_
 refine r_seq ?_
 refine r_block ?_
 refine r_seq ?_
 refine r_region ?_
 refine r_op rfl rfl rfl (run_mv (v := .int _ _) rfl (by exact rfl)) ?_
 refine r_op rfl rfl rfl (run_eql rfl (by exact rfl) (by exact rfl)) ?_
 refine r_op rfl rfl rfl (run_mv (v := .bool _) rfl (by exact rfl)) ?_
 refine r_g rfl (wantF (by exact rfl)) rfl (fun hg => run_mv (v := .int _ _) rfl (by exact rfl)) ?_
 refine r_g rfl (wantF (by exact rfl)) rfl (fun hg => run_eql rfl (glv (by exact rfl) (fun h => h) hg) (by exact rfl)) ?_
 refine r_op rfl rfl rfl (run_pick_or rfl (by exact rfl) rfl (fun hq => glv (by exact rfl) (fun h => h) hq)) ?_
 refine r_op rfl rfl rfl (run_mv (v := .bool _) rfl (by exact rfl)) ?_
 refine r_g rfl (wantF (by exact rfl)) rfl (fun hg => run_mv (v := .int _ _) rfl (by exact rfl)) ?_
 refine r_g rfl (wantF (by exact rfl)) rfl (fun hg => run_eql rfl (glv (by exact rfl) (fun h => h) hg) (by exact rfl)) ?_
 refine r_op rfl rfl rfl (run_pick_or rfl (by exact rfl) rfl (fun hq => glv (by exact rfl) (fun h => h) hq)) ?_
 refine r_op rfl rfl rfl (run_mv (v := .bool _) rfl (by exact rfl)) ?_
 refine r_g rfl (wantF (by exact rfl)) rfl (fun hg => run_mv (v := .int _ _) rfl (by exact rfl)) ?_
 refine r_g rfl (wantF (by exact rfl)) rfl (fun hg => run_eql rfl (glv (by exact rfl) (fun h => h) hg) (by exact rfl)) ?_
 refine r_op rfl rfl rfl (run_pick_or rfl (by exact rfl) rfl (fun hq => glv (by exact rfl) (fun h => h) hq)) ?_
 refine r_op rfl rfl rfl (run_asg (v := .bool _) rfl (by exact rfl)) ?_
 refine r_nil ?_
 refine r_cond (by exact rfl) (fun hc1 => ?_) (fun hc1 => ?_)
 ·skip
  refine r_seq ?_
  refine r_region ?_
  refine r_op rfl rfl rfl (run_asg (v := .int _ _) rfl (by exact rfl)) ?_
  refine r_nil ?_
  refine r_ret (res1 (v := .int _ _) rfl (by exact rfl)) ?_
  exact ⟨ret_int (by rw [cls_space (by omega)]), hV⟩
 ·skip
  refine r_seq ?_
  refine r_region ?_
  refine r_op rfl rfl rfl (run_mv (v := .int _ _) rfl (by exact rfl)) ?_
  refine r_op rfl rfl rfl (run_lss rfl (by exact rfl) (by exact rfl)) ?_
  refine r_op rfl rfl rfl (run_mv (v := .bool _) rfl (by exact rfl)) ?_
  refine r_g rfl (wantF (by exact rfl)) rfl (fun hg => run_mv (v := .int _ _) rfl (by exact rfl)) ?_
  refine r_g rfl (wantF (by exact rfl)) rfl (fun hg => run_eql rfl (glv (by exact rfl) (fun h => h) hg) (by exact rfl)) ?_
  refine r_op rfl rfl rfl (run_pick_or rfl (by exact rfl) rfl (fun hq => glv (by exact rfl) (fun h => h) hq)) ?_
  refine r_op rfl rfl rfl (run_asg (v := .bool _) rfl (by exact rfl)) ?_
  refine r_nil ?_
  refine r_cond (by exact rfl) (fun hc2 => ?_) (fun hc2 => ?_)
  ·skip
   refine r_seq ?_
   refine r_region ?_
   refine r_op rfl rfl rfl (run_asg (v := .int _ _) rfl (by exact rfl)) ?_
   refine r_nil ?_
   refine r_ret (res1 (v := .int _ _) rfl (by exact rfl)) ?_
   exact ⟨ret_int (by rw [cls_control (by omega) (by omega)]), hV⟩
  ·skip
   refine r_seq ?_
   refine r_region ?_
   refine r_op rfl rfl rfl (run_mv (v := .int _ _) rfl (by exact rfl)) ?_
   refine r_op rfl rfl rfl (run_geq rfl (by exact rfl) (by exact rfl)) ?_
   refine r_op rfl rfl rfl (run_mv (v := .bool _) rfl (by exact rfl)) ?_
   refine r_g rfl (wantT (by exact rfl)) rfl (fun hg => run_mv (v := .int _ _) rfl (by exact rfl)) ?_
   refine r_g rfl (wantT (by exact rfl)) rfl (fun hg => run_leq rfl (glv (by exact rfl) (fun h => h) hg) (by exact rfl)) ?_
   refine r_op rfl rfl rfl (run_pick_and rfl (by exact rfl) (fun hq => glv (by exact rfl) (fun h => h) hq) rfl) ?_
   refine r_op rfl rfl rfl (run_asg (v := .bool _) rfl (by exact rfl)) ?_
   refine r_nil ?_
   refine r_cond (by exact rfl) (fun hc3 => ?_) (fun hc3 => ?_)
   ·skip
    refine r_seq ?_
    refine r_region ?_
    refine r_op rfl rfl rfl (run_asg (v := .int _ _) rfl (by exact rfl)) ?_
    refine r_nil ?_
    refine r_ret (res1 (v := .int _ _) rfl (by exact rfl)) ?_
    exact ⟨ret_int (by rw [cls_digit (by omega)]), hV⟩
   ·skip
    refine r_seq ?_
    refine r_region ?_
    refine r_op rfl rfl rfl (run_mv (v := .int _ _) rfl (by exact rfl)) ?_
    refine r_op rfl rfl rfl (run_geq rfl (by exact rfl) (by exact rfl)) ?_
    refine r_op rfl rfl rfl (run_mv (v := .bool _) rfl (by exact rfl)) ?_
    refine r_g rfl (wantT (by exact rfl)) rfl (fun hg => run_mv (v := .int _ _) rfl (by exact rfl)) ?_
    refine r_g rfl (wantT (by exact rfl)) rfl (fun hg => run_leq rfl (glv (by exact rfl) (fun h => h) hg) (by exact rfl)) ?_
    refine r_op rfl rfl rfl (run_pick_and rfl (by exact rfl) (fun hq => glv (by exact rfl) (fun h => h) hq) rfl) ?_
    refine r_op rfl rfl rfl (run_mv (v := .bool _) rfl (by exact rfl)) ?_
    refine r_g rfl (wantF (by exact rfl)) rfl (fun hg => run_mv (v := .int _ _) rfl (by exact rfl)) ?_
    refine r_g rfl (wantF (by exact rfl)) rfl (fun hg => run_geq rfl (glv (by exact rfl) (fun h => h) hg) (by exact rfl)) ?_
    refine r_g rfl (wantF (by exact rfl)) rfl (fun hg => run_mv (v := .bool _) rfl (glv (by exact rfl) (fun h => h) hg)) ?_
    refine r_g rfl (wantTg (by exact rfl)) rfl (fun hg => run_mv (v := .int _ _) rfl (by exact rfl)) ?_
    refine r_g rfl (wantTg (by exact rfl)) rfl (fun hg => run_leq rfl (glv (by exact rfl) (fun h => h) hg) (by exact rfl)) ?_
    refine r_g rfl (wantF (by exact rfl)) rfl (fun hg => run_pick_and rfl (glv (by exact rfl) (fun h => h) hg) (fun hq => glv (by exact rfl) (fun h => h) (And.intro hg hq)) rfl) ?_
    refine r_op rfl rfl rfl (run_pick_or rfl (by exact rfl) rfl (fun hq => glv (by exact rfl) (fun h => h) hq)) ?_
    refine r_op rfl rfl rfl (run_mv (v := .bool _) rfl (by exact rfl)) ?_
    refine r_g rfl (wantF (by exact rfl)) rfl (fun hg => run_mv (v := .int _ _) rfl (by exact rfl)) ?_
    refine r_g rfl (wantF (by exact rfl)) rfl (fun hg => run_geq rfl (glv (by exact rfl) (fun h => h) hg) (by exact rfl)) ?_
    refine r_op rfl rfl rfl (run_pick_or rfl (by exact rfl) rfl (fun hq => glv (by exact rfl) (fun h => h) hq)) ?_
    refine r_op rfl rfl rfl (run_asg (v := .bool _) rfl (by exact rfl)) ?_
    refine r_nil ?_
    refine r_cond (by exact rfl) (fun hc4 => ?_) (fun hc4 => ?_)
    ·skip
     refine r_seq ?_
     refine r_region ?_
     refine r_op rfl rfl rfl (run_asg (v := .int _ _) rfl (by exact rfl)) ?_
     refine r_nil ?_
     refine r_ret (res1 (v := .int _ _) rfl (by exact rfl)) ?_
     exact ⟨ret_int (by rw [cls_letter (by omega)]), hV⟩
    ·skip
     refine r_skip ?_
     refine r_blk ?_
     refine r_seq ?_
     refine r_region ?_
     refine r_op rfl rfl rfl (run_asg (v := .int _ _) rfl (by exact rfl)) ?_
     refine r_nil ?_
     refine r_ret (res1 (v := .int _ _) rfl (by exact rfl)) ?_
     exact ⟨ret_int (by rw [cls_mark (by omega) (by omega) (by omega) (by omega)]), hV⟩
theorem lower_calls {s : Str} {w0 : World} (hs : s.length ≤ 140737488355328) :
    Calls Tryz.prog 43 #[S s] w0 fun e w' => e = .returned (S (lowS s)) ∧ Evo w0 w' [] := by
 refine calls_enter (n := 30) (args := [S s]) Tryz.func43 rfl Tryz.ntmps43 rfl ?_
 have hV : Evo w0 w0 [] := Evo.refl _ _
 refine r_seq ?_
 refine r_region ?_
 refine r_op rfl rfl rfl (run_asg (v := S _) rfl (by exact rfl)) ?_
 refine r_nil ?_
 refine r_seq ?_
 refine r_region ?_
 refine r_op rfl rfl rfl (run_mv (v := S _) rfl (by exact rfl)) ?_
 refine r_cvSB rfl Tryz.underlying9 Tryz.underlying61 Tryz.underlying5 (by exact rfl) (by first | omega | (simp; omega)) ?_
 intro b1 capb1 w2 heb1 hEw2 hyb1 hzb1
 have hs_w2 := (hEw2).size
 replace hV := evo_step0 hV hEw2
 have hrb1 := hyb1.row
 refine r_op rfl rfl rfl (run_asg (v := .slice (some ⟨b1, 0, none⟩) _ _) rfl (by exact rfl)) ?_
 refine r_nil ?_
 refine r_seq ?_
 refine r_seq ?_
 refine r_region ?_
 refine r_op rfl rfl rfl (run_mv (v := .slice (some ⟨b1, 0, none⟩) _ _) rfl (by exact rfl)) ?_
 refine r_op rfl rfl rfl (run_lenSl rfl (by exact rfl) Tryz.underlying61) ?_
 refine r_op rfl rfl rfl (run_mv (v := .int _ _) rfl (by exact rfl)) ?_
 refine r_nil ?_
 refine r_block ?_
 refine r_loop (α := Nat) [4, 5, 10, 11, 12, 13, 14, 15, 16, 17, 18, 19, 20, 21, 22, 23, 24, 25, 26, 27] (fun k g w => g 10 = .int .i64 (k : Nat) ∧ k ≤ s.length ∧ ByB w b1 capb1 (lowK s k) ∧ RowE w (some ⟨b1, 0, none⟩) b1 0 capb1 (lowK s k) ∧ w2.heap.size ≤ w.heap.size ∧ Evo w0 w []) (fun k => s.length - k) 0 ?_ ?_
 ·refine ⟨(by first | exact rfl | exact congrArg (Value.int _) (by omega) | exact congrArg (Value.int _) (by dsimp only; omega) | exact congrArg (Value.int _) (by simp) | exact congrArg S (by simp)), (by first | assumption | omega | (dsimp only; omega) | (simp; done)), (by rw [lowK_zero]; exact hyb1), (by rw [lowK_zero]; exact hrb1), (by first | assumption | omega | (dsimp only; omega) | (simp; done)), hV⟩
 ·rintro k g w4 ⟨hj5, hk_k, hyb1, hrb1, hzl3, hV⟩
  have hs_w4hV := hV.size
  refine r_know (i := 10) (v := .int .i64 (k : Nat)) (by exact hj5) ?_
  have hll := lowK_len s k
  have hlg := fun h => lowK_get (s := s) (k := k) h
  have hln := fun h => congrArg UInt8.toNat (lowK_get (s := s) (k := k) h)
  refine r_seq ?_
  refine r_region ?_
  refine r_op rfl rfl rfl (run_lss rfl (by exact rfl) (by exact rfl)) ?_
  refine r_nil ?_
  refine r_seq ?_
  refine r_cond (by exact rfl) (fun hc6 => ?_) (fun hc6 => ?_)
  ·skip
   refine r_skip ?_
   refine r_seq ?_
   refine r_block ?_
   refine r_seq ?_
   refine r_region ?_
   refine r_op rfl rfl rfl (run_mv (v := .int _ _) rfl (by exact rfl)) ?_
   refine r_op rfl rfl rfl (run_ix (k) rfl Tryz.underlying61 ty_5 (by exact rfl) (by exact rfl) (by first | exact rfl | omega) (by omega) (hrb1.addr (i := k) (by omega))) ?_
   have hA7 := hrb1.atD (k) (by omega)
   refine r_op rfl rfl rfl (run_ld1 rfl ag_5 (by exact rfl) (hA7.cell 0 (by exact rfl))) ?_
   refine r_op rfl rfl rfl (run_asg (v := .int _ _) rfl (by exact rfl)) ?_
   refine r_op rfl rfl rfl (run_asg (v := .int _ _) rfl (by exact rfl)) ?_
   refine r_nil ?_
   refine r_seq ?_
   refine r_region ?_
   refine r_op rfl rfl rfl (run_mv (v := .int _ _) rfl (by exact rfl)) ?_
   refine r_op rfl rfl rfl (run_geq rfl (by exact rfl) (by exact rfl)) ?_
   refine r_op rfl rfl rfl (run_mv (v := .bool _) rfl (by exact rfl)) ?_
   refine r_g rfl (wantT (by exact rfl)) rfl (fun hg => run_mv (v := .int _ _) rfl (by exact rfl)) ?_
   refine r_g rfl (wantT (by exact rfl)) rfl (fun hg => run_leq rfl (glv (by exact rfl) (fun h => h) hg) (by exact rfl)) ?_
   refine r_op rfl rfl rfl (run_pick_and rfl (by exact rfl) (fun hq => glv (by exact rfl) (fun h => h) hq) rfl) ?_
   refine r_nil ?_
   refine r_cond (by exact rfl) (fun hc8 => ?_) (fun hc8 => ?_)
   ·skip
    refine r_region ?_
    refine r_op rfl rfl rfl (run_mv (v := .slice (some ⟨b1, 0, none⟩) _ _) rfl (by exact rfl)) ?_
    refine r_op rfl rfl rfl (run_mv (v := .int _ _) rfl (by exact rfl)) ?_
    refine r_op rfl rfl rfl (run_mv (v := .int _ _) rfl (by exact rfl)) ?_
    refine r_op rfl rfl rfl (run_addw rfl (by exact rfl) (by exact rfl)) ?_
    refine r_op rfl rfl rfl (run_subw rfl (by exact rfl) (by exact rfl)) ?_
    refine r_op rfl rfl rfl (run_ix (k) rfl Tryz.underlying61 ty_5 (by exact rfl) (by exact rfl) (by first | exact rfl | omega) (by omega) (hrb1.addr (i := k) (by omega))) ?_
    have hA9 := hrb1.atD (k) (by omega)
    refine r_storeBy2 (k) ((lwB (s.getD k 0))) (by exact rfl) (by first | omega | (show 0 + _ * 1 = _; omega)) (by exact rfl) (by have h8 := hlg (by omega); refine Eq.trans ?_ (low_add (c := s.getD k 0) (by rw [← h8]; omega) (by rw [← h8]; omega)); rw [h8]) hyb1 (by omega) ty_5 ?_
    intro w10 hEw10 hzw10 hy_new
    have hs_w10 := (hEw10).size
    replace hV := evo_step1 hV hEw10 (by first | exact .inl (by omega) | exact .inr (by simp))
    have hyb1 := hy_new
    have hrb1 := hyb1.row
    clear hy_new
    refine r_nil ?_
    refine r_blk ?_
    refine r_region ?_
    refine r_op rfl rfl rfl (run_add rfl (by exact rfl) (by exact rfl) (by omega) (by omega)) ?_
    refine r_op rfl rfl rfl (run_mv (v := .int _ _) rfl (by exact rfl)) ?_
    refine r_nil ?_
    refine r_again (k + 1) ?_ ?_ ?_
    ·first | omega | (dsimp only; omega)
    ·refine ⟨(by first | exact rfl | exact congrArg (Value.int _) (by omega) | exact congrArg (Value.int _) (by dsimp only; omega) | exact congrArg (Value.int _) (by simp) | exact congrArg S (by simp)), (by first | assumption | omega | (dsimp only; omega) | (simp; done)), (by first | (have h9 := hyb1; rw [lowK_set (by omega)] at h9; exact h9) | (rw [lowK_keep (by omega) (by have := hln (by omega); omega)]; exact hyb1)), (by first | (have h9 := hrb1; rw [lowK_set (by omega)] at h9; exact h9) | (rw [lowK_keep (by omega) (by have := hln (by omega); omega)]; exact hrb1)), (by first | assumption | omega | (dsimp only; omega) | (simp; done)), hV⟩
    ·repeat (first | (with_reducible exact Agree.merge _ _ _) | (with_reducible exact Agree.refl _ _) | (with_reducible refine Agree.upd ?_ _ _ rfl) | ((with_reducible refine Agree.inner ?_ ?_); (kernel_rfl)))
   ·skip
    refine r_skip ?_
    refine r_blk ?_
    refine r_region ?_
    refine r_op rfl rfl rfl (run_add rfl (by exact rfl) (by exact rfl) (by omega) (by omega)) ?_
    refine r_op rfl rfl rfl (run_mv (v := .int _ _) rfl (by exact rfl)) ?_
    refine r_nil ?_
    refine r_again (k + 1) ?_ ?_ ?_
    ·first | omega | (dsimp only; omega)
    ·refine ⟨(by first | exact rfl | exact congrArg (Value.int _) (by omega) | exact congrArg (Value.int _) (by dsimp only; omega) | exact congrArg (Value.int _) (by simp) | exact congrArg S (by simp)), (by first | assumption | omega | (dsimp only; omega) | (simp; done)), (by first | (have h9 := hyb1; rw [lowK_set (by omega)] at h9; exact h9) | (rw [lowK_keep (by omega) (by have := hln (by omega); omega)]; exact hyb1)), (by first | (have h9 := hrb1; rw [lowK_set (by omega)] at h9; exact h9) | (rw [lowK_keep (by omega) (by have := hln (by omega); omega)]; exact hrb1)), (by first | assumption | omega | (dsimp only; omega) | (simp; done)), hV⟩
    ·repeat (first | (with_reducible exact Agree.merge _ _ _) | (with_reducible exact Agree.refl _ _) | (with_reducible refine Agree.upd ?_ _ _ rfl) | ((with_reducible refine Agree.inner ?_ ?_); (kernel_rfl)))
  ·skip
   refine r_exit rfl ?_
   refine r_seq ?_
   refine r_region ?_
   refine r_op rfl rfl rfl (run_mv (v := .slice (some ⟨b1, 0, none⟩) _ _) rfl (by exact rfl)) ?_
   refine r_op rfl rfl rfl (run_cvBS rfl Tryz.underlying61 Tryz.underlying5 Tryz.underlying9 (by exact rfl) (by first | rfl | simp) hrb1) ?_
   refine r_op rfl rfl rfl (run_asg (v := S _) rfl (by exact rfl)) ?_
   refine r_nil ?_
   refine r_ret (res1 (v := S _) rfl (by exact rfl)) ?_
   exact ⟨by rw [← lowK_all (k := k) (by omega)], hV⟩
theorem rlower_calls {s : Str} {w0 : World} (hs : s.length ≤ 140737488355328) :
    Calls Tryz.prog 45 #[S s] w0 fun e w' => e = .returned (S (lowS s)) ∧ Evo w0 w' [] := by
 refine calls_enter (n := 33) (args := [S s]) Tryz.func45 rfl Tryz.ntmps45 rfl ?_
 have hV : Evo w0 w0 [] := Evo.refl _ _
 refine r_seq ?_
 refine r_region ?_
 refine r_op rfl rfl rfl (run_asg (v := S _) rfl (by exact rfl)) ?_
 refine r_nil ?_
 refine r_seq ?_
 refine r_region ?_
 refine r_op rfl rfl rfl (run_mv (v := S _) rfl (by exact rfl)) ?_
 refine r_cvSB rfl Tryz.underlying9 Tryz.underlying61 Tryz.underlying5 (by exact rfl) (by first | omega | (simp; omega)) ?_
 intro b1 capb1 w2 heb1 hEw2 hyb1 hzb1
 have hs_w2 := (hEw2).size
 replace hV := evo_step0 hV hEw2
 have hrb1 := hyb1.row
 refine r_op rfl rfl rfl (run_asg (v := .slice (some ⟨b1, 0, none⟩) _ _) rfl (by exact rfl)) ?_
 refine r_nil ?_
 refine r_seq ?_
 refine r_seq ?_
 refine r_region ?_
 refine r_op rfl rfl rfl (run_mv (v := .slice (some ⟨b1, 0, none⟩) _ _) rfl (by exact rfl)) ?_
 refine r_op rfl rfl rfl (run_lenSl rfl (by exact rfl) Tryz.underlying61) ?_
 refine r_op rfl rfl rfl (run_mv (v := .int _ _) rfl (by exact rfl)) ?_
 refine r_nil ?_
 refine r_block ?_
 refine r_loop (α := Nat) [4, 9, 10, 11, 12, 13, 14, 15, 16, 17, 18, 19, 20, 21, 22, 23, 24, 25, 26, 27, 28, 29, 30] (fun k g w => g 9 = .int .i64 (k : Nat) ∧ k ≤ s.length ∧ ByB w b1 capb1 (lowK s k) ∧ RowE w (some ⟨b1, 0, none⟩) b1 0 capb1 (lowK s k) ∧ w2.heap.size ≤ w.heap.size ∧ Evo w0 w []) (fun k => s.length - k) 0 ?_ ?_
 ·refine ⟨(by first | exact rfl | exact congrArg (Value.int _) (by omega) | exact congrArg (Value.int _) (by dsimp only; omega) | exact congrArg (Value.int _) (by simp) | exact congrArg S (by simp)), (by first | assumption | omega | (dsimp only; omega) | (simp; done)), (by rw [lowK_zero]; exact hyb1), (by rw [lowK_zero]; exact hrb1), (by first | assumption | omega | (dsimp only; omega) | (simp; done)), hV⟩
 ·rintro k g w4 ⟨hj5, hk_k, hyb1, hrb1, hzl3, hV⟩
  have hs_w4hV := hV.size
  refine r_know (i := 9) (v := .int .i64 (k : Nat)) (by exact hj5) ?_
  have hll := lowK_len s k
  have hlg := fun h => lowK_get (s := s) (k := k) h
  have hln := fun h => congrArg UInt8.toNat (lowK_get (s := s) (k := k) h)
  refine r_seq ?_
  refine r_region ?_
  refine r_op rfl rfl rfl (run_lss rfl (by exact rfl) (by exact rfl)) ?_
  refine r_nil ?_
  refine r_seq ?_
  refine r_cond (by exact rfl) (fun hc6 => ?_) (fun hc6 => ?_)
  ·skip
   refine r_skip ?_
   refine r_seq ?_
   refine r_block ?_
   refine r_seq ?_
   refine r_region ?_
   refine r_op rfl rfl rfl (run_mv (v := .int _ _) rfl (by exact rfl)) ?_
   refine r_op rfl rfl rfl (run_asg (v := .int _ _) rfl (by exact rfl)) ?_
   refine r_nil ?_
   refine r_seq ?_
   refine r_region ?_
   refine r_op rfl rfl rfl (run_mv (v := .slice (some ⟨b1, 0, none⟩) _ _) rfl (by exact rfl)) ?_
   refine r_op rfl rfl rfl (run_mv (v := .int _ _) rfl (by exact rfl)) ?_
   refine r_op rfl rfl rfl (run_ix (k) rfl Tryz.underlying61 ty_5 (by exact rfl) (by exact rfl) (by first | exact rfl | omega) (by omega) (hrb1.addr (i := k) (by omega))) ?_
   have hA7 := hrb1.atD (k) (by omega)
   refine r_op rfl rfl rfl (run_ld1 rfl ag_5 (by exact rfl) (hA7.cell 0 (by exact rfl))) ?_
   refine r_op rfl rfl rfl (run_geq rfl (by exact rfl) (by exact rfl)) ?_
   refine r_op rfl rfl rfl (run_mv (v := .bool _) rfl (by exact rfl)) ?_
   refine r_g rfl (wantT (by exact rfl)) rfl (fun hg => run_mv (v := .slice (some ⟨b1, 0, none⟩) _ _) rfl (by exact rfl)) ?_
   refine r_g rfl (wantT (by exact rfl)) rfl (fun hg => run_mv (v := .int _ _) rfl (by exact rfl)) ?_
   refine r_g rfl (wantT (by exact rfl)) rfl (fun hg => run_ix (k) rfl Tryz.underlying61 ty_5 (glv (by exact rfl) (fun h => h) hg) (glv (by exact rfl) (fun h => h) hg) (by first | exact rfl | omega) (by omega) (hrb1.addr (i := k) (by omega))) ?_
   refine r_g rfl (wantT (by exact rfl)) rfl (fun hg => run_ld1 rfl ag_5 (glv (by exact rfl) (fun h => h) hg) ((hrb1.atD (k) (by omega)).cell 0 (by exact rfl))) ?_
   refine r_g rfl (wantT (by exact rfl)) rfl (fun hg => run_leq rfl (glv (by exact rfl) (fun h => h) hg) (by exact rfl)) ?_
   refine r_op rfl rfl rfl (run_pick_and rfl (by exact rfl) (fun hq => glv (by exact rfl) (fun h => h) hq) rfl) ?_
   refine r_nil ?_
   refine r_cond (by exact rfl) (fun hc8 => ?_) (fun hc8 => ?_)
   ·skip
    refine r_region ?_
    refine r_op rfl rfl rfl (run_mv (v := .slice (some ⟨b1, 0, none⟩) _ _) rfl (by exact rfl)) ?_
    refine r_op rfl rfl rfl (run_mv (v := .int _ _) rfl (by exact rfl)) ?_
    refine r_op rfl rfl rfl (run_ix (k) rfl Tryz.underlying61 ty_5 (by exact rfl) (by exact rfl) (by first | exact rfl | omega) (by omega) (hrb1.addr (i := k) (by omega))) ?_
    have hA9 := hrb1.atD (k) (by omega)
    refine r_op rfl rfl rfl (run_ld1 rfl ag_5 (by exact rfl) (hA9.cell 0 (by exact rfl))) ?_
    refine r_op rfl rfl rfl (run_addw rfl (by exact rfl) (by exact rfl)) ?_
    refine r_op rfl rfl rfl (run_ix (k) rfl Tryz.underlying61 ty_5 (by exact rfl) (by exact rfl) (by first | exact rfl | omega) (by omega) (hrb1.addr (i := k) (by omega))) ?_
    have hA10 := hrb1.atD (k) (by omega)
    refine r_storeBy2 (k) ((lwB (s.getD k 0))) (by exact rfl) (by first | omega | (show 0 + _ * 1 = _; omega)) (by exact rfl) (by have h8 := hlg (by omega); refine Eq.trans ?_ (low_add2 (c := s.getD k 0) (by rw [← h8]; omega) (by rw [← h8]; omega)); rw [h8]) hyb1 (by omega) ty_5 ?_
    intro w11 hEw11 hzw11 hy_new
    have hs_w11 := (hEw11).size
    replace hV := evo_step1 hV hEw11 (by first | exact .inl (by omega) | exact .inr (by simp))
    have hyb1 := hy_new
    have hrb1 := hyb1.row
    clear hy_new
    refine r_nil ?_
    refine r_blk ?_
    refine r_region ?_
    refine r_op rfl rfl rfl (run_add rfl (by exact rfl) (by exact rfl) (by omega) (by omega)) ?_
    refine r_op rfl rfl rfl (run_mv (v := .int _ _) rfl (by exact rfl)) ?_
    refine r_nil ?_
    refine r_again (k + 1) ?_ ?_ ?_
    ·first | omega | (dsimp only; omega)
    ·refine ⟨(by first | exact rfl | exact congrArg (Value.int _) (by omega) | exact congrArg (Value.int _) (by dsimp only; omega) | exact congrArg (Value.int _) (by simp) | exact congrArg S (by simp)), (by first | assumption | omega | (dsimp only; omega) | (simp; done)), (by first | (have h9 := hyb1; rw [lowK_set (by omega)] at h9; exact h9) | (rw [lowK_keep (by omega) (by have := hln (by omega); omega)]; exact hyb1)), (by first | (have h9 := hrb1; rw [lowK_set (by omega)] at h9; exact h9) | (rw [lowK_keep (by omega) (by have := hln (by omega); omega)]; exact hrb1)), (by first | assumption | omega | (dsimp only; omega) | (simp; done)), hV⟩
    ·repeat (first | (with_reducible exact Agree.merge _ _ _) | (with_reducible exact Agree.refl _ _) | (with_reducible refine Agree.upd ?_ _ _ rfl) | ((with_reducible refine Agree.inner ?_ ?_); (kernel_rfl)))
   ·skip
    refine r_skip ?_
    refine r_blk ?_
    refine r_region ?_
    refine r_op rfl rfl rfl (run_add rfl (by exact rfl) (by exact rfl) (by omega) (by omega)) ?_
    refine r_op rfl rfl rfl (run_mv (v := .int _ _) rfl (by exact rfl)) ?_
    refine r_nil ?_
    refine r_again (k + 1) ?_ ?_ ?_
    ·first | omega | (dsimp only; omega)
    ·refine ⟨(by first | exact rfl | exact congrArg (Value.int _) (by omega) | exact congrArg (Value.int _) (by dsimp only; omega) | exact congrArg (Value.int _) (by simp) | exact congrArg S (by simp)), (by first | assumption | omega | (dsimp only; omega) | (simp; done)), (by first | (have h9 := hyb1; rw [lowK_set (by omega)] at h9; exact h9) | (rw [lowK_keep (by omega) (by have := hln (by omega); omega)]; exact hyb1)), (by first | (have h9 := hrb1; rw [lowK_set (by omega)] at h9; exact h9) | (rw [lowK_keep (by omega) (by have := hln (by omega); omega)]; exact hrb1)), (by first | assumption | omega | (dsimp only; omega) | (simp; done)), hV⟩
    ·repeat (first | (with_reducible exact Agree.merge _ _ _) | (with_reducible exact Agree.refl _ _) | (with_reducible refine Agree.upd ?_ _ _ rfl) | ((with_reducible refine Agree.inner ?_ ?_); (kernel_rfl)))
  ·skip
   refine r_exit rfl ?_
   refine r_seq ?_
   refine r_region ?_
   refine r_op rfl rfl rfl (run_mv (v := .slice (some ⟨b1, 0, none⟩) _ _) rfl (by exact rfl)) ?_
   refine r_op rfl rfl rfl (run_cvBS rfl Tryz.underlying61 Tryz.underlying5 Tryz.underlying9 (by exact rfl) (by first | rfl | simp) hrb1) ?_
   refine r_op rfl rfl rfl (run_asg (v := S _) rfl (by exact rfl)) ?_
   refine r_nil ?_
   refine r_ret (res1 (v := S _) rfl (by exact rfl)) ?_
   exact ⟨by rw [← lowK_all (k := k) (by omega)], hV⟩
end Go.Proofs.YtkklomiipkipnaaGreatDoor
namespace Go.Proofs.YtkklomiipkipnaaGreatDoor
open Go.RowKit Go.Vc
theorem ag_70 : aggP Tryz.prog 70 = some true := by kernel_rfl
theorem ag_9 : aggP Tryz.prog 9 = some false := by kernel_rfl
theorem fo_70_0 : fieldP Tryz.prog 70 0 = some 0 := by kernel_rfl
theorem ty_70 : tyP Tryz.prog 70 = some (2, 40, some (.agg #[(.string ⟨#[]⟩), (.slice none 0 0)])) := by kernel_rfl
theorem sl_hs_calls {s t : Str} {w0 : World} (hs : s.length ≤ 140737488355328) (ht : t.length ≤ 140737488355328) :
    Calls Tryz.prog 109 #[S s, S t] w0 fun e w' => e = .returned (.bool (decide (t <:+ s))) ∧ Evo w0 w' [] := by
 refine calls_enter (n := 21) (args := [S s, S t]) Tryz.func109 rfl Tryz.ntmps109 rfl ?_
 have hV : Evo w0 w0 [] := Evo.refl _ _
 refine r_seq ?_
 refine r_region ?_
 refine r_op rfl rfl rfl (run_asg (v := .bool _) rfl (by exact rfl)) ?_
 refine r_nil ?_
 refine r_seq ?_
 refine r_region ?_
 refine r_op rfl rfl rfl (run_mv (v := S _) rfl (by exact rfl)) ?_
 refine r_op rfl rfl rfl (run_lenS rfl (by exact rfl) Tryz.underlying9) ?_
 refine r_op rfl rfl rfl (run_mv (v := S _) rfl (by exact rfl)) ?_
 refine r_op rfl rfl rfl (run_lenS rfl (by exact rfl) Tryz.underlying9) ?_
 refine r_op rfl rfl rfl (run_geq rfl (by exact rfl) (by exact rfl)) ?_
 refine r_op rfl rfl rfl (run_mv (v := .bool _) rfl (by exact rfl)) ?_
 refine r_g rfl (wantT (by exact rfl)) rfl (fun hg => run_mv (v := S _) rfl (by exact rfl)) ?_
 refine r_g rfl (wantT (by exact rfl)) rfl (fun hg => run_mv (v := S _) rfl (by exact rfl)) ?_
 refine r_g rfl (wantT (by exact rfl)) rfl (fun hg => run_lenS rfl (glv (by exact rfl) (fun h => h) hg) Tryz.underlying9) ?_
 refine r_g rfl (wantT (by exact rfl)) rfl (fun hg => run_mv (v := S _) rfl (by exact rfl)) ?_
 refine r_g rfl (wantT (by exact rfl)) rfl (fun hg => run_lenS rfl (glv (by exact rfl) (fun h => h) hg) Tryz.underlying9) ?_
 refine r_g rfl (wantT (by exact rfl)) rfl (fun hg => run_sub rfl (glv (by exact rfl) (fun h => h) hg) (glv (by exact rfl) (fun h => h) hg) (by omega) (by omega)) ?_
 refine r_g rfl (wantT (by exact rfl)) rfl (fun hg => run_slS ((s.length - t.length)) (_) rfl Tryz.underlying9 (glv (by exact rfl) (fun h => h) hg) (at1 (glv (by exact rfl) (fun h => h) hg) (by omega)) hi0 (by first | omega | (simp; omega)) (by first | omega | (simp; omega))) ?_
 refine r_g rfl (wantT (by exact rfl)) rfl (fun hg => run_mv (v := S _) rfl (by exact rfl)) ?_
 refine r_g rfl (wantT (by exact rfl)) rfl (fun hg => run_seql rfl (glv (by exact rfl) (fun h => h) hg) (glv (by exact rfl) (fun h => h) hg)) ?_
 refine r_op rfl rfl rfl (run_pick_and rfl (by exact rfl) (fun hq => glv (by exact rfl) (fun h => h) hq) rfl) ?_
 refine r_op rfl rfl rfl (run_asg (v := .bool _) rfl (by exact rfl)) ?_
 refine r_nil ?_
 refine r_ret (res1 (v := .bool _) rfl (by exact rfl)) ?_
 exact ⟨ret_bool (by rw [Bool.eq_iff_iff, decide_eq_true_iff, decide_eq_true_iff, suffix_iff2]; first | omega | (constructor <;> (rintro ⟨h1, h2⟩; exact ⟨by omega, h2⟩))), hV⟩
theorem sl_cs_calls {s t : Str} {w0 : World} (hs : s.length ≤ 140737488355328) (ht : t.length ≤ 140737488355328) :
    Calls Tryz.prog 91 #[S s, S t] w0 fun e w' => e = .returned (.tuple #[S (if t <:+ s then s.take (s.length - t.length) else s), .bool (decide (t <:+ s))]) ∧ Evo w0 w' [] := by
 refine calls_enter (n := 18) (args := [S s, S t]) Tryz.func91 rfl Tryz.ntmps91 rfl ?_
 have hV : Evo w0 w0 [] := Evo.refl _ _
 refine r_seq ?_
 refine r_region ?_
 refine r_op rfl rfl rfl (run_asg (v := S _) rfl (by exact rfl)) ?_
 refine r_op rfl rfl rfl (run_asg (v := .bool _) rfl (by exact rfl)) ?_
 refine r_nil ?_
 refine r_seq ?_
 refine r_seq ?_
 refine r_region ?_
 refine r_op rfl rfl rfl (run_mv (v := S _) rfl (by exact rfl)) ?_
 refine r_op rfl rfl rfl (run_mv (v := S _) rfl (by exact rfl)) ?_
 refine r_opcall rfl rfl rfl (run_callf (vs := [S _, S _]) rfl (by exact rfl) Tryz.func109 rfl (by kernel_rfl)) (sl_hs_calls (by first | omega | (simp; omega)) (by first | omega | (simp; omega))) ?_
 rintro e w1 ⟨rfl, hE1⟩
 refine ⟨_, rfl, ?_⟩
 have hs_w1 := (hE1).size
 replace hV := evo_step0 hV hE1
 refine r_op rfl rfl rfl (run_notb rfl (by exact rfl)) ?_
 refine r_nil ?_
 refine r_condb (by exact rfl) (fun hc2 => ?_) (fun hc2 => ?_)
 ·skip
  refine r_seq ?_
  refine r_region ?_
  refine r_op rfl rfl rfl (run_mv (v := S _) rfl (by exact rfl)) ?_
  refine r_op rfl rfl rfl (run_asg (v := S _) rfl (by exact rfl)) ?_
  refine r_op rfl rfl rfl (run_asg (v := .bool _) rfl (by exact rfl)) ?_
  refine r_nil ?_
  refine r_ret (res2 (v := S _) (u := .bool _) rfl (by exact rfl) (by exact rfl)) ?_
  exact ⟨by rw [if_neg (by simpa using hc2)]; simp_all, hV⟩
 ·skip
  refine r_skip ?_
  refine r_seq ?_
  have hsx := (suffix_iff.1 (by simpa using hc2 : t <:+ s)).1
  refine r_region ?_
  refine r_op rfl rfl rfl (run_mv (v := S _) rfl (by exact rfl)) ?_
  refine r_op rfl rfl rfl (run_mv (v := S _) rfl (by exact rfl)) ?_
  refine r_op rfl rfl rfl (run_lenS rfl (by exact rfl) Tryz.underlying9) ?_
  refine r_op rfl rfl rfl (run_mv (v := S _) rfl (by exact rfl)) ?_
  refine r_op rfl rfl rfl (run_lenS rfl (by exact rfl) Tryz.underlying9) ?_
  refine r_op rfl rfl rfl (run_sub rfl (by exact rfl) (by exact rfl) (by omega) (by omega)) ?_
  refine r_op rfl rfl rfl (by exact run_slS (0) ((s.length - t.length)) rfl Tryz.underlying9 (by exact rfl) lo0 (at1 (by exact rfl) (by omega)) (by first | omega | (simp; omega)) (by first | omega | (simp; omega))) ?_
  refine r_op rfl rfl rfl (run_asg (v := S _) rfl (by exact rfl)) ?_
  refine r_op rfl rfl rfl (run_asg (v := .bool _) rfl (by exact rfl)) ?_
  refine r_nil ?_
  refine r_ret (res2 (v := S _) (u := .bool _) rfl (by exact rfl) (by exact rfl)) ?_
  exact ⟨by rw [if_pos (by simpa using hc2)]; simp_all, hV⟩
theorem s_cs_calls {s t : Str} {w0 : World} (hs : s.length ≤ 140737488355328) (ht : t.length ≤ 140737488355328) :
    Calls Tryz.prog 64 #[S s, S t] w0 fun e w' => e = .returned (.tuple #[S (if t <:+ s then s.take (s.length - t.length) else s), .bool (decide (t <:+ s))]) ∧ Evo w0 w' [] := by
 refine calls_enter (n := 11) (args := [S s, S t]) Tryz.func64 rfl Tryz.ntmps64 rfl ?_
 have hV : Evo w0 w0 [] := Evo.refl _ _
 refine r_seq ?_
 refine r_region ?_
 refine r_op rfl rfl rfl (run_asg (v := S _) rfl (by exact rfl)) ?_
 refine r_op rfl rfl rfl (run_asg (v := .bool _) rfl (by exact rfl)) ?_
 refine r_nil ?_
 refine r_seq ?_
 refine r_region ?_
 refine r_op rfl rfl rfl (run_mv (v := S _) rfl (by exact rfl)) ?_
 refine r_op rfl rfl rfl (run_mv (v := S _) rfl (by exact rfl)) ?_
 refine r_opcall rfl rfl rfl (run_callf (vs := [S _, S _]) rfl (by exact rfl) Tryz.func91 rfl (by kernel_rfl)) (sl_cs_calls (by first | omega | (simp; omega)) (by first | omega | (simp; omega))) ?_
 rintro e w1 ⟨rfl, hE1⟩
 refine ⟨_, rfl, ?_⟩
 have hs_w1 := (hE1).size
 replace hV := evo_step0 hV hE1
 refine r_op rfl rfl rfl (run_extract (v := S _) rfl (by exact rfl) (by exact rfl)) ?_
 refine r_op rfl rfl rfl (run_extract (v := .bool _) rfl (by exact rfl) (by exact rfl)) ?_
 refine r_op rfl rfl rfl (run_asg (v := S _) rfl (by exact rfl)) ?_
 refine r_op rfl rfl rfl (run_asg (v := .bool _) rfl (by exact rfl)) ?_
 refine r_nil ?_
 refine r_ret (res2 (v := S _) (u := .bool _) rfl (by exact rfl) (by exact rfl)) ?_
 exact ⟨rfl, hV⟩
theorem rfind_calls {ao : Option Addr} {b off cap : Nat} {c : List Clas} {n : Str} {w0 : World} (hc : RowR w0 ao b off cap c) :
    Calls Tryz.prog 58 #[.slice ao c.length cap, S n] w0 fun e w' => e = .returned (.int .i64 (findC c n)) ∧ Evo w0 w' [] := by
 refine calls_enter (n := 20) (args := [.slice ao c.length cap, S n]) Tryz.func58 rfl Tryz.ntmps58 rfl ?_
 have hV : Evo w0 w0 [] := Evo.refl _ _
 have hc0 := hc.keep
 have hbd_hc := hc.bd
 refine r_seq ?_
 refine r_region ?_
 refine r_op rfl rfl rfl (run_asg (v := .int _ _) rfl (by exact rfl)) ?_
 refine r_nil ?_
 refine r_seq ?_
 refine r_seq ?_
 refine r_region ?_
 refine r_op rfl rfl rfl (run_mv (v := .slice _ _ _) rfl (by exact rfl)) ?_
 refine r_op rfl rfl rfl (run_lenSl rfl (by exact rfl) Tryz.underlying23) ?_
 refine r_op rfl rfl rfl (run_mv (v := .int _ _) rfl (by exact rfl)) ?_
 refine r_nil ?_
 refine r_block ?_
 refine r_loop (α := Nat) [4, 5, 6, 9, 10, 11, 12, 13, 14, 15, 16, 17, 18, 19] (fun k g w => g 9 = .int .i64 (k : Nat) ∧ k ≤ c.length ∧ (∀ j, j < k → ¬ (c.getD j default).name = n) ∧ w0.heap.size ≤ w.heap.size ∧ Evo w0 w []) (fun k => c.length - k) 0 ?_ ?_
 ·refine ⟨(by first | exact rfl | exact congrArg (Value.int _) (by omega) | exact congrArg (Value.int _) (by dsimp only; omega) | exact congrArg (Value.int _) (by simp) | exact congrArg S (by simp)), (by first | assumption | omega | (dsimp only; omega) | (simp; done)), (fun j h => by omega), (by first | assumption | omega | (dsimp only; omega) | (simp; done)), hV⟩
 ·rintro k g w2 ⟨hj3, hk_k, hno, hzl1, hV⟩
  have hs_w2hV := hV.size
  replace hc := hc0.now hV
  refine r_know (i := 9) (v := .int .i64 (k : Nat)) (by exact hj3) ?_
  refine r_seq ?_
  refine r_region ?_
  refine r_op rfl rfl rfl (run_lss rfl (by exact rfl) (by exact rfl)) ?_
  refine r_nil ?_
  refine r_seq ?_
  refine r_cond (by exact rfl) (fun hc4 => ?_) (fun hc4 => ?_)
  ·skip
   refine r_skip ?_
   refine r_seq ?_
   refine r_block ?_
   refine r_seq ?_
   refine r_region ?_
   refine r_op rfl rfl rfl (run_mv (v := .int _ _) rfl (by exact rfl)) ?_
   refine r_op rfl rfl rfl (run_ix (k) rfl Tryz.underlying23 ty_70 (by exact rfl) (by exact rfl) (by first | exact rfl | omega) (by omega) (hc.addr (i := k) (by omega))) ?_
   obtain ⟨ao5, b5, off5, cap5, hX⟩ := clas_atK hc0 (k) (by omega)
   have hA50 := fun (w' : World) (h : Evo w0 w' []) => (hX w' h).1
   have hA5 := hA50 _ hV
   have hR50 := fun (w' : World) (h : Evo w0 w' []) => (hX w' h).2
   have hR5 := hR50 _ hV
   clear hX
   have hbd_hR5 := hR5.bd
   refine r_op rfl rfl rfl (run_ldN rfl ag_70 ty_70 (by exact rfl) rfl hA5) ?_
   refine r_alloc (zs := [_, _]) ty_70 (by exact rfl) rfl ?_
   intro b6 w7 heb6 hEw7 hbb6 hzb6
   have hs_w7 := (hEw7).size
   replace hV := evo_step0 hV hEw7
   replace hc := hc0.now hV
   replace hA5 := hA50 _ hV
   replace hR5 := hR50 _ hV
   have hAb6 := hbb6.at
   refine r_op rfl rfl rfl (run_asg (v := .int _ _) rfl (by exact rfl)) ?_
   refine r_store (v := .agg _) (vs := [_, _]) (cs' := [_, _]) (by exact rfl) (by exact rfl) hbb6 ty_70 (by exact rfl) rfl (by exact rfl) rfl (by exact rfl) ?_
   intro w8 hEw8 hzw8 hb_new
   have hs_w8 := (hEw8).size
   replace hV := evo_step1 hV hEw8 (by first | exact .inl (by omega) | exact .inr (by simp))
   replace hc := hc0.now hV
   replace hR5 := hR50 _ hV
   replace hbb6 := hb_new
   have hAb6 := hbb6.at
   clear hb_new
   refine r_nil ?_
   refine r_seq ?_
   refine r_region ?_
   refine r_op rfl rfl rfl (run_fa rfl (by exact rfl) fo_70_0) ?_
   refine r_op rfl rfl rfl (run_ld1 rfl ag_9 (by exact rfl) (hAb6.cell 0 (by exact rfl))) ?_
   refine r_op rfl rfl rfl (run_mv (v := S _) rfl (by exact rfl)) ?_
   refine r_op rfl rfl rfl (run_seql rfl (by exact rfl) (by exact rfl)) ?_
   refine r_nil ?_
   refine r_cond (by exact rfl) (fun hc9 => ?_) (fun hc9 => ?_)
   ·skip
    refine r_seq ?_
    refine r_region ?_
    refine r_op rfl rfl rfl (run_mv (v := .int _ _) rfl (by exact rfl)) ?_
    refine r_op rfl rfl rfl (run_asg (v := .int _ _) rfl (by exact rfl)) ?_
    refine r_nil ?_
    refine r_ret (res1 (v := .int _ _) rfl (by exact rfl)) ?_
    exact ⟨ret_int (by rw [findC_at (k := k) (by omega) hno hc9]), hV⟩
   ·skip
    refine r_skip ?_
    refine r_blk ?_
    refine r_region ?_
    refine r_op rfl rfl rfl (run_add rfl (by exact rfl) (by exact rfl) (by omega) (by omega)) ?_
    refine r_op rfl rfl rfl (run_mv (v := .int _ _) rfl (by exact rfl)) ?_
    refine r_nil ?_
    refine r_again (k + 1) ?_ ?_ ?_
    ·first | omega | (dsimp only; omega)
    ·refine ⟨(by first | exact rfl | exact congrArg (Value.int _) (by omega) | exact congrArg (Value.int _) (by dsimp only; omega) | exact congrArg (Value.int _) (by simp) | exact congrArg S (by simp)), (by first | assumption | omega | (dsimp only; omega) | (simp; done)), (upto0 hno (by assumption)), (by first | assumption | omega | (dsimp only; omega) | (simp; done)), hV⟩
    ·repeat (first | (with_reducible exact Agree.merge _ _ _) | (with_reducible exact Agree.refl _ _) | (with_reducible refine Agree.upd ?_ _ _ rfl) | ((with_reducible refine Agree.inner ?_ ?_); (kernel_rfl)))
  ·skip
   refine r_exit rfl ?_
   refine r_seq ?_
   refine r_region ?_
   refine r_op rfl rfl rfl (run_asg (v := .int _ _) rfl (by exact rfl)) ?_
   refine r_nil ?_
   refine r_ret (res1 (v := .int _ _) rfl (by exact rfl)) ?_
   exact ⟨ret_int (by rw [findC_none (fun j hj => hno j (by omega))]), hV⟩
end Go.Proofs.YtkklomiipkipnaaGreatDoor
namespace Go.Proofs.YtkklomiipkipnaaGreatDoor
open Go.RowKit Go.Vc
theorem ty_9 : tyP Tryz.prog 9 = some (1, 16, some (.string ⟨#[]⟩)) := by kernel_rfl
end Go.Proofs.YtkklomiipkipnaaGreatDoor
namespace Go.Proofs.YtkklomiipkipnaaGreatDoor
open Go.RowKit Go.Vc
theorem ag_68 : aggP Tryz.prog 68 = some false := by kernel_rfl
theorem fo_70_1 : fieldP Tryz.prog 70 1 = some 1 := by kernel_rfl
end Go.Proofs.YtkklomiipkipnaaGreatDoor
namespace Go.Proofs.YtkklomiipkipnaaGreatDoor
open Go.RowKit Go.Vc
theorem ag_107 : aggP Tryz.prog 107 = some true := by kernel_rfl
theorem fo_107_0 : fieldP Tryz.prog 107 0 = some 0 := by kernel_rfl
theorem fo_107_1 : fieldP Tryz.prog 107 1 = some 1 := by kernel_rfl
theorem fo_60_0 : fieldP Tryz.prog 60 0 = some 0 := by kernel_rfl
theorem fo_60_1 : fieldP Tryz.prog 60 1 = some 1 := by kernel_rfl
theorem ty_107 : tyP Tryz.prog 107 = some (2, 32, some (.agg #[(.string ⟨#[]⟩), (.string ⟨#[]⟩)])) := by kernel_rfl
end Go.Proofs.YtkklomiipkipnaaGreatDoor
namespace Go.Proofs.YtkklomiipkipnaaGreatDoor
open Go.RowKit Go.Vc
theorem find1_calls {m n : Str} {v : Value} {bn : Nat} {w0 : World} (hn : Blk w0 bn 9 [S n]) :
    Calls Tryz.prog 106 #[.agg #[S m, v], .pointer (some ⟨bn, 0, none⟩)] w0 fun e w' => e = .returned (.bool (decide (m = n))) ∧ Evo w0 w' [] := by
 have hAn := hn.at; have hnlt := hn.lt
 refine calls_enter (n := 8) (args := [.agg #[S m, v], .pointer (some ⟨bn, 0, none⟩)]) Tryz.func106 rfl Tryz.ntmps106 rfl ?_
 have hV : Evo w0 w0 [] := Evo.refl _ _
 refine r_seq ?_
 refine r_region ?_
 refine r_box (vs := [_, _]) (by exact rfl) (by exact rfl) rfl ?_
 intro b1 w2 heb1 hEw2 hbb1 hzb1
 have hs_w2 := (hEw2).size
 replace hV := evo_step0 hV hEw2
 replace hn := hn.evo0 hEw2
 replace hAn := hAn.evo0 hEw2
 have hAb1 := hbb1.at
 refine r_op rfl rfl rfl (run_asg (v := .bool _) rfl (by exact rfl)) ?_
 refine r_nil ?_
 refine r_seq ?_
 refine r_region ?_
 refine r_op rfl rfl rfl (run_fa rfl (by exact rfl) fo_70_0) ?_
 refine r_op rfl rfl rfl (run_ld1 rfl ag_9 (by exact rfl) (hAb1.cell 0 (by exact rfl))) ?_
 refine r_op rfl rfl rfl (run_ld1 rfl ag_9 (by exact rfl) (hAn.cell 0 (by exact rfl))) ?_
 refine r_op rfl rfl rfl (run_seql rfl (by exact rfl) (by exact rfl)) ?_
 refine r_op rfl rfl rfl (run_asg (v := .bool _) rfl (by exact rfl)) ?_
 refine r_nil ?_
 refine r_ret (res1 (v := .bool _) rfl (by exact rfl)) ?_
 exact ⟨rfl, hV⟩
theorem indexf_calls {ao : Option Addr} {b off cap : Nat} {c : List Clas} {n : Str} {bn : Nat} {w0 : World} (hc : RowR w0 ao b off cap c) (hn : Blk w0 bn 9 [S n]) :
    Calls Tryz.prog 105 #[.slice ao c.length cap, .func (.func 106) #[] #[.pointer (some ⟨bn, 0, none⟩)]] w0 fun e w' => e = .returned (.int .i64 (findC c n)) ∧ Evo w0 w' [] := by
 have hAn := hn.at; have hnlt := hn.lt
 refine calls_enter (n := 19) (args := [.slice ao c.length cap, .func (.func 106) #[] #[.pointer (some ⟨bn, 0, none⟩)]]) Tryz.func105 rfl Tryz.ntmps105 rfl ?_
 have hV : Evo w0 w0 [] := Evo.refl _ _
 have hc0 := hc.keep
 have hbd_hc := hc.bd
 refine r_seq ?_
 refine r_region ?_
 refine r_op rfl rfl rfl (run_asg (v := .int _ _) rfl (by exact rfl)) ?_
 refine r_nil ?_
 refine r_seq ?_
 refine r_seq ?_
 refine r_region ?_
 refine r_op rfl rfl rfl (run_mv (v := .slice _ _ _) rfl (by exact rfl)) ?_
 refine r_op rfl rfl rfl (run_lenSl rfl (by exact rfl) Tryz.underlying23) ?_
 refine r_op rfl rfl rfl (run_mv (v := .int _ _) rfl (by exact rfl)) ?_
 refine r_nil ?_
 refine r_block ?_
 refine r_loop (α := Nat) [4, 5, 8, 9, 10, 11, 12, 13, 14, 15, 16, 17, 18] (fun k g w => g 8 = .int .i64 (k : Nat) ∧ k ≤ c.length ∧ Blk w bn 9 [S n] ∧ (∀ j, j < k → ¬ (c.getD j default).name = n) ∧ w0.heap.size ≤ w.heap.size ∧ Evo w0 w []) (fun k => c.length - k) 0 ?_ ?_
 ·refine ⟨(by first | exact rfl | exact congrArg (Value.int _) (by omega) | exact congrArg (Value.int _) (by dsimp only; omega) | exact congrArg (Value.int _) (by simp) | exact congrArg S (by simp)), (by first | assumption | omega | (dsimp only; omega) | (simp; done)), hn, (fun j h => by omega), (by first | assumption | omega | (dsimp only; omega) | (simp; done)), hV⟩
 ·rintro k g w2 ⟨hj3, hk_k, hn, hno, hzl1, hV⟩
  have hs_w2hV := hV.size
  have hlt4 := hn.lt
  replace hc := hc0.now hV
  refine r_know (i := 8) (v := .int .i64 (k : Nat)) (by exact hj3) ?_
  refine r_seq ?_
  refine r_region ?_
  refine r_op rfl rfl rfl (run_lss rfl (by exact rfl) (by exact rfl)) ?_
  refine r_nil ?_
  refine r_seq ?_
  refine r_cond (by exact rfl) (fun hc5 => ?_) (fun hc5 => ?_)
  ·skip
   refine r_skip ?_
   refine r_seq ?_
   refine r_block ?_
   refine r_seq ?_
   refine r_region ?_
   refine r_op rfl rfl rfl (run_mv (v := .int _ _) rfl (by exact rfl)) ?_
   refine r_op rfl rfl rfl (run_asg (v := .int _ _) rfl (by exact rfl)) ?_
   refine r_nil ?_
   refine r_seq ?_
   refine r_region ?_
   refine r_op rfl rfl rfl (run_mv (v := .func _ _ _) rfl (by exact rfl)) ?_
   refine r_op rfl rfl rfl (run_mv (v := .slice _ _ _) rfl (by exact rfl)) ?_
   refine r_op rfl rfl rfl (run_mv (v := .int _ _) rfl (by exact rfl)) ?_
   refine r_op rfl rfl rfl (run_ix (k) rfl Tryz.underlying23 ty_70 (by exact rfl) (by exact rfl) (by first | exact rfl | omega) (by omega) (hc.addr (i := k) (by omega))) ?_
   obtain ⟨ao6, b6, off6, cap6, hX⟩ := clas_atK hc0 (k) (by omega)
   have hA60 := fun (w' : World) (h : Evo w0 w' []) => (hX w' h).1
   have hA6 := hA60 _ hV
   have hR60 := fun (w' : World) (h : Evo w0 w' []) => (hX w' h).2
   have hR6 := hR60 _ hV
   clear hX
   have hbd_hR6 := hR6.bd
   refine r_op rfl rfl rfl (run_ldN rfl ag_70 ty_70 (by exact rfl) rfl hA6) ?_
   refine r_opcall rfl rfl rfl (run_callfn (vs := [.agg _]) (cs := [.pointer (some ⟨bn, 0, none⟩)]) rfl (by exact rfl) (by exact rfl) Tryz.func106 rfl (by kernel_rfl)) (find1_calls hn) ?_
   rintro e w7 ⟨rfl, hE7⟩
   refine ⟨_, rfl, ?_⟩
   have hs_w7 := (hE7).size
   replace hV := evo_step0 hV hE7
   replace hc := hc0.now hV
   replace hn := hn.evo0 hE7
   refine r_nil ?_
   refine r_condb (by exact rfl) (fun hc8 => ?_) (fun hc8 => ?_)
   ·skip
    refine r_seq ?_
    refine r_region ?_
    refine r_op rfl rfl rfl (run_mv (v := .int _ _) rfl (by exact rfl)) ?_
    refine r_op rfl rfl rfl (run_asg (v := .int _ _) rfl (by exact rfl)) ?_
    refine r_nil ?_
    refine r_ret (res1 (v := .int _ _) rfl (by exact rfl)) ?_
    exact ⟨ret_int (by rw [findC_at (k := k) (by omega) hno (of_decide_eq_true hc8)]), hV⟩
   ·skip
    refine r_skip ?_
    refine r_blk ?_
    refine r_region ?_
    refine r_op rfl rfl rfl (run_add rfl (by exact rfl) (by exact rfl) (by omega) (by omega)) ?_
    refine r_op rfl rfl rfl (run_mv (v := .int _ _) rfl (by exact rfl)) ?_
    refine r_nil ?_
    refine r_again (k + 1) ?_ ?_ ?_
    ·first | omega | (dsimp only; omega)
    ·refine ⟨(by first | exact rfl | exact congrArg (Value.int _) (by omega) | exact congrArg (Value.int _) (by dsimp only; omega) | exact congrArg (Value.int _) (by simp) | exact congrArg S (by simp)), (by first | assumption | omega | (dsimp only; omega) | (simp; done)), hn, (upto0 hno (of_decide_eq_false hc8)), (by first | assumption | omega | (dsimp only; omega) | (simp; done)), hV⟩
    ·repeat (first | (with_reducible exact Agree.merge _ _ _) | (with_reducible exact Agree.refl _ _) | (with_reducible refine Agree.upd ?_ _ _ rfl) | ((with_reducible refine Agree.inner ?_ ?_); (kernel_rfl)))
  ·skip
   refine r_exit rfl ?_
   refine r_seq ?_
   refine r_region ?_
   refine r_op rfl rfl rfl (run_asg (v := .int _ _) rfl (by exact rfl)) ?_
   refine r_nil ?_
   refine r_ret (res1 (v := .int _ _) rfl (by exact rfl)) ?_
   exact ⟨ret_int (by rw [findC_none (fun j hj => hno j (by omega))]), hV⟩
theorem find_calls {ao : Option Addr} {b off cap : Nat} {c : List Clas} {n : Str} {w0 : World} (hc : RowR w0 ao b off cap c) :
    Calls Tryz.prog 84 #[.slice ao c.length cap, S n] w0 fun e w' => e = .returned (.int .i64 (findC c n)) ∧ Evo w0 w' [] := by
 refine calls_enter (n := 8) (args := [.slice ao c.length cap, S n]) Tryz.func84 rfl Tryz.ntmps84 rfl ?_
 have hV : Evo w0 w0 [] := Evo.refl _ _
 have hc0 := hc.keep
 have hbd_hc := hc.bd
 refine r_seq ?_
 refine r_region ?_
 refine r_box (vs := [_]) (by exact rfl) (by exact rfl) rfl ?_
 intro b1 w2 heb1 hEw2 hbb1 hzb1
 have hs_w2 := (hEw2).size
 replace hV := evo_step0 hV hEw2
 replace hc := hc0.now hV
 have hAb1 := hbb1.at
 refine r_op rfl rfl rfl (run_asg (v := .int _ _) rfl (by exact rfl)) ?_
 refine r_nil ?_
 refine r_seq ?_
 refine r_region ?_
 refine r_op rfl rfl rfl (run_mv (v := .slice _ _ _) rfl (by exact rfl)) ?_
 refine r_op rfl rfl rfl (run_mkF (vs := [.pointer _]) rfl (by exact rfl)) ?_
 refine r_opcall rfl rfl rfl (run_callf (vs := [.slice _ _ _, .func _ _ _]) rfl (by exact rfl) Tryz.func105 rfl (by kernel_rfl)) (indexf_calls hc hbb1) ?_
 rintro e w3 ⟨rfl, hE3⟩
 refine ⟨_, rfl, ?_⟩
 have hs_w3 := (hE3).size
 replace hV := evo_step0 hV hE3
 replace hc := hc0.now hV
 refine r_op rfl rfl rfl (run_asg (v := .int _ _) rfl (by exact rfl)) ?_
 refine r_nil ?_
 refine r_ret (res1 (v := .int _ _) rfl (by exact rfl)) ?_
 exact ⟨rfl, hV⟩
theorem ends_calls {wb : World} {ao : Option Addr} {b off cap : Nat} {c : List Clas} {n : Str} {w0 : World} (hc : RowRK wb [] ao b off cap c) (hW : Evo wb w0 []) :
    Calls Tryz.prog 63 #[.slice ao c.length cap, S n] w0 fun e w' => ∃ ao' b' off' cap', e = .returned (.slice ao' (if n = [] then ([] : List Ende) else endsL c n).length cap') ∧ Evo w0 w' [] ∧ ∀ w2, Evo wb w2 [] → RowE w2 ao' b' off' cap' (if n = [] then [] else endsL c n) := by
 refine calls_enter (n := 20) (args := [.slice ao c.length cap, S n]) Tryz.func63 rfl Tryz.ntmps63 rfl ?_
 have hV : Evo w0 w0 [] := Evo.refl _ _
 have hc0 := hc
 replace hc := hc0.now hW
 have hbd_hc := hc.bd
 refine r_seq ?_
 refine r_region ?_
 refine r_op rfl rfl rfl (run_asg (v := .slice _ _ _) rfl (by exact rfl)) ?_
 refine r_nil ?_
 refine r_seq ?_
 refine r_seq ?_
 refine r_region ?_
 refine r_op rfl rfl rfl (run_mv (v := .slice _ _ _) rfl (by exact rfl)) ?_
 refine r_op rfl rfl rfl (run_mv (v := S _) rfl (by exact rfl)) ?_
 refine r_opcall rfl rfl rfl (run_callf (vs := [.slice _ _ _, S _]) rfl (by exact rfl) Tryz.func84 rfl (by kernel_rfl)) (find_calls hc) ?_
 rintro e w1 ⟨rfl, hE1⟩
 refine ⟨_, rfl, ?_⟩
 have hs_w1 := (hE1).size
 replace hV := evo_step0 hV hE1
 replace hW := evo_step0 hW hE1
 replace hc := hc0.now hW
 refine r_op rfl rfl rfl (run_asg (v := .int _ _) rfl (by exact rfl)) ?_
 refine r_nil ?_
 refine r_seq ?_
 refine r_region ?_
 refine r_op rfl rfl rfl (run_mv (v := .int _ _) rfl (by exact rfl)) ?_
 refine r_op rfl rfl rfl (run_geq rfl (by exact rfl) (by exact rfl)) ?_
 refine r_op rfl rfl rfl (run_mv (v := .bool _) rfl (by exact rfl)) ?_
 refine r_g rfl (wantT (by exact rfl)) rfl (fun hg => run_mv (v := S _) rfl (by exact rfl)) ?_
 refine r_g rfl (wantT (by exact rfl)) rfl (fun hg => run_sneq rfl (glv (by exact rfl) (fun h => h) hg) (by exact rfl)) ?_
 refine r_op rfl rfl rfl (run_pick_and rfl (by exact rfl) (fun hq => glv (by exact rfl) (fun h => h) hq) rfl) ?_
 refine r_nil ?_
 refine r_cond (by exact rfl) (fun hc2 => ?_) (fun hc2 => ?_)
 ·skip
  refine r_seq ?_
  refine r_region ?_
  refine r_op rfl rfl rfl (run_mv (v := .slice _ _ _) rfl (by exact rfl)) ?_
  refine r_op rfl rfl rfl (run_mv (v := .int _ _) rfl (by exact rfl)) ?_
  refine r_op rfl rfl rfl (run_ix ((findC c n).toNat) rfl Tryz.underlying23 ty_70 (by exact rfl) (by exact rfl) (by have := findC_lt c n; omega) (by have := findC_lt c n; omega) (hc.addr (i := (findC c n).toNat) (by have := findC_lt c n; omega))) ?_
  obtain ⟨ao3, b3, off3, cap3, hX⟩ := clas_atK hc0 ((findC c n).toNat) (by have := findC_lt c n; omega)
  have hA30 := fun (w' : World) (h : Evo wb w' []) => (hX w' h).1
  have hA3 := hA30 _ hW
  have hR30 := fun (w' : World) (h : Evo wb w' []) => (hX w' h).2
  have hR3 := hR30 _ hW
  clear hX
  have hbd_hR3 := hR3.bd
  refine r_op rfl rfl rfl (run_fa rfl (by exact rfl) fo_70_1) ?_
  refine r_op rfl rfl rfl (run_ld1 rfl ag_68 (by exact rfl) (hA3.cell 1 (by exact rfl))) ?_
  refine r_op rfl rfl rfl (run_asg (v := .slice _ _ _) rfl (by exact rfl)) ?_
  refine r_nil ?_
  refine r_ret (res1 (v := .slice _ _ _) rfl (by exact rfl)) ?_
  exact ⟨_, _, _, _, by rw [if_neg hc2.2, ends_at (by omega)], hV, by rw [if_neg hc2.2, ends_at (by omega)]; exact hR30⟩
 ·skip
  refine r_skip ?_
  refine r_seq ?_
  refine r_region ?_
  refine r_op rfl rfl rfl (run_asg (v := .slice _ _ _) rfl (by exact rfl)) ?_
  refine r_nil ?_
  refine r_ret (res1 (v := .slice _ _ _) rfl (by exact rfl)) ?_
  exact ⟨none, 0, 0, 0, by rw [ends_if hc2]; rfl, hV, by rw [ends_if hc2]; exact fun w2 _ => RowE.nil _ _ _ _ _⟩
end Go.Proofs.YtkklomiipkipnaaGreatDoor
namespace Go.Proofs.YtkklomiipkipnaaGreatDoor
open Go.RowKit Go.Vc
theorem small_calls {s : Str} {w0 : World} (hs : s.length ≤ 140737488355328) :
    Calls Tryz.prog 103 #[S s] w0 fun e w' => e = .returned (.bool (smallL s)) ∧ Evo w0 w' [] := by
 refine calls_enter (n := 19) (args := [S s]) Tryz.func103 rfl Tryz.ntmps103 rfl ?_
 have hV : Evo w0 w0 [] := Evo.refl _ _
 refine r_seq ?_
 refine r_region ?_
 refine r_op rfl rfl rfl (run_asg (v := .bool _) rfl (by exact rfl)) ?_
 refine r_nil ?_
 refine r_seq ?_
 refine r_seq ?_
 refine r_region ?_
 refine r_op rfl rfl rfl (run_mv (v := S _) rfl (by exact rfl)) ?_
 refine r_op rfl rfl rfl (run_lenS rfl (by exact rfl) Tryz.underlying9) ?_
 refine r_op rfl rfl rfl (run_mv (v := .int _ _) rfl (by exact rfl)) ?_
 refine r_nil ?_
 refine r_block ?_
 refine r_loop (α := Nat) [2, 3, 6, 7, 8, 9, 10, 11, 12, 13, 14] (fun k g w => g 6 = .int .i64 (k : Nat) ∧ k ≤ s.length ∧ (∀ j, j < k → clsB (s.getD j 0) = 4) ∧ w0.heap.size ≤ w.heap.size ∧ Evo w0 w []) (fun k => s.length - k) 0 ?_ ?_
 ·refine ⟨(by first | exact rfl | exact congrArg (Value.int _) (by omega) | exact congrArg (Value.int _) (by dsimp only; omega) | exact congrArg (Value.int _) (by simp) | exact congrArg S (by simp)), (by first | assumption | omega | (dsimp only; omega) | (simp; done)), (fun j h => by omega), (by first | assumption | omega | (dsimp only; omega) | (simp; done)), hV⟩
 ·rintro k g w2 ⟨hj3, hk_k, hall, hzl1, hV⟩
  have hs_w2hV := hV.size
  refine r_know (i := 6) (v := .int .i64 (k : Nat)) (by exact hj3) ?_
  refine r_seq ?_
  refine r_region ?_
  refine r_op rfl rfl rfl (run_lss rfl (by exact rfl) (by exact rfl)) ?_
  refine r_nil ?_
  refine r_seq ?_
  refine r_cond (by exact rfl) (fun hc4 => ?_) (fun hc4 => ?_)
  ·skip
   refine r_skip ?_
   refine r_seq ?_
   refine r_block ?_
   refine r_seq ?_
   refine r_region ?_
   refine r_op rfl rfl rfl (run_mv (v := .int _ _) rfl (by exact rfl)) ?_
   refine r_op rfl rfl rfl (run_asg (v := .int _ _) rfl (by exact rfl)) ?_
   refine r_nil ?_
   refine r_seq ?_
   refine r_region ?_
   refine r_op rfl rfl rfl (run_mv (v := S _) rfl (by exact rfl)) ?_
   refine r_op rfl rfl rfl (run_mv (v := .int _ _) rfl (by exact rfl)) ?_
   refine r_op rfl rfl rfl (run_ixS (k) rfl Tryz.underlying9 (by exact rfl) (by exact rfl) (by first | exact rfl | omega) (by omega)) ?_
   refine r_opcall rfl rfl rfl (run_callf (vs := [.int _ _]) rfl (by exact rfl) Tryz.func95 rfl (by kernel_rfl)) of_calls ?_
   rintro e w5 ⟨rfl, hE5⟩
   refine ⟨_, rfl, ?_⟩
   have hs_w5 := (hE5).size
   replace hV := evo_step0 hV hE5
   refine r_op rfl rfl rfl (run_neq rfl (by exact rfl) (by exact rfl)) ?_
   refine r_nil ?_
   refine r_cond (by exact rfl) (fun hc6 => ?_) (fun hc6 => ?_)
   ·skip
    refine r_seq ?_
    refine r_region ?_
    refine r_op rfl rfl rfl (run_asg (v := .bool _) rfl (by exact rfl)) ?_
    refine r_nil ?_
    refine r_ret (res1 (v := .bool _) rfl (by exact rfl)) ?_
    exact ⟨ret_bool (by rw [small_bad (k := k) (by omega) hc6]), hV⟩
   ·skip
    refine r_skip ?_
    refine r_blk ?_
    refine r_region ?_
    refine r_op rfl rfl rfl (run_add rfl (by exact rfl) (by exact rfl) (by omega) (by omega)) ?_
    refine r_op rfl rfl rfl (run_mv (v := .int _ _) rfl (by exact rfl)) ?_
    refine r_nil ?_
    refine r_again (k + 1) ?_ ?_ ?_
    ·first | omega | (dsimp only; omega)
    ·refine ⟨(by first | exact rfl | exact congrArg (Value.int _) (by omega) | exact congrArg (Value.int _) (by dsimp only; omega) | exact congrArg (Value.int _) (by simp) | exact congrArg S (by simp)), (by first | assumption | omega | (dsimp only; omega) | (simp; done)), (upto0 hall (Classical.not_not.1 hc6)), (by first | assumption | omega | (dsimp only; omega) | (simp; done)), hV⟩
    ·repeat (first | (with_reducible exact Agree.merge _ _ _) | (with_reducible exact Agree.refl _ _) | (with_reducible refine Agree.upd ?_ _ _ rfl) | ((with_reducible refine Agree.inner ?_ ?_); (kernel_rfl)))
  ·skip
   refine r_exit rfl ?_
   refine r_seq ?_
   refine r_region ?_
   refine r_op rfl rfl rfl (run_mv (v := S _) rfl (by exact rfl)) ?_
   refine r_opcall rfl rfl rfl (run_callf (vs := [S _]) rfl (by exact rfl) Tryz.func43 rfl (by kernel_rfl)) (lower_calls (by first | omega | (simp; omega))) ?_
   rintro e w7 ⟨rfl, hE7⟩
   refine ⟨_, rfl, ?_⟩
   have hs_w7 := (hE7).size
   replace hV := evo_step0 hV hE7
   refine r_op rfl rfl rfl (run_mv (v := S _) rfl (by exact rfl)) ?_
   refine r_op rfl rfl rfl (run_seql rfl (by exact rfl) (by exact rfl)) ?_
   refine r_op rfl rfl rfl (run_asg (v := .bool _) rfl (by exact rfl)) ?_
   refine r_nil ?_
   refine r_ret (res1 (v := .bool _) rfl (by exact rfl)) ?_
   exact ⟨ret_bool (by rw [small_yes (fun j hj => hall j (by omega))]), hV⟩
theorem rsmall_calls {s : Str} {w0 : World} (hs : s.length ≤ 140737488355328) :
    Calls Tryz.prog 108 #[S s] w0 fun e w' => e = .returned (.bool (smallL s && decide (s.length ≤ 8))) ∧ Evo w0 w' [] := by
 refine calls_enter (n := 32) (args := [S s]) Tryz.func108 rfl Tryz.ntmps108 rfl ?_
 have hV : Evo w0 w0 [] := Evo.refl _ _
 refine r_seq ?_
 refine r_region ?_
 refine r_op rfl rfl rfl (run_asg (v := .bool _) rfl (by exact rfl)) ?_
 refine r_nil ?_
 refine r_seq ?_
 refine r_seq ?_
 refine r_region ?_
 refine r_op rfl rfl rfl (run_asg (v := .int _ _) rfl (by exact rfl)) ?_
 refine r_nil ?_
 refine r_block ?_
 refine r_loop (α := Nat) [2, 3, 4, 5, 6, 7, 8, 9, 10, 11, 12, 13, 14, 15, 16, 17, 18, 19, 20, 21, 22, 23, 24, 25, 26, 27, 28] (fun k g w => g 3 = .int .i64 (k : Nat) ∧ k ≤ s.length ∧ (∀ j, j < k → smlB (s.getD j 0) = true) ∧ w0.heap.size ≤ w.heap.size ∧ Evo w0 w []) (fun k => s.length - k) 0 ?_ ?_
 ·refine ⟨rfl, (by first | assumption | omega | (dsimp only; omega) | (simp; done)), (fun j h => by omega), (by first | assumption | omega | (dsimp only; omega) | (simp; done)), hV⟩
 ·rintro k g w2 ⟨hj3, hk, hall, hzl1, hV⟩
  have hs_w2hV := hV.size
  refine r_know (i := 3) (v := .int .i64 (k : Nat)) (by exact hj3) ?_
  refine r_seq ?_
  refine r_seq ?_
  refine r_region ?_
  refine r_op rfl rfl rfl (run_mv (v := .int _ _) rfl (by exact rfl)) ?_
  refine r_op rfl rfl rfl (run_mv (v := S _) rfl (by exact rfl)) ?_
  refine r_op rfl rfl rfl (run_lenS rfl (by exact rfl) Tryz.underlying9) ?_
  refine r_op rfl rfl rfl (run_lss rfl (by exact rfl) (by exact rfl)) ?_
  refine r_nil ?_
  refine r_cond (by exact rfl) (fun hc4 => ?_) (fun hc4 => ?_)
  ·skip
   refine r_skip ?_
   refine r_seq ?_
   refine r_block ?_
   refine r_seq ?_
   refine r_qregion (by kernel_rfl) (by kernel_rfl) ?_
   refine q_op rfl rfl rfl (fun w' hC => run_mv (v := S _) rfl (by exact rfl)) ?_
   refine q_op rfl rfl rfl (fun w' hC => run_mv (v := .int _ _) rfl (by exact rfl)) ?_
   refine q_op rfl rfl rfl (fun w' hC => run_ixS (k) rfl Tryz.underlying9 (by exact rfl) (by exact rfl) (by first | exact rfl | omega) (by omega)) ?_
   refine q_call rfl rfl rfl (fun w' hC => run_callf rfl (argcons (v := .int _ _) (by exact rfl) (rfl)) Tryz.func87 rfl (by kernel_rfl)) (fun w' hC => (rclass_calls ).mono (fun e w'' h => ⟨h.1, evo_step0 hC h.2⟩)) ?_
   refine q_op rfl rfl rfl (fun w' hC => run_neq rfl (by exact rfl) (by exact rfl)) ?_
   refine q_op rfl rfl rfl (fun w' hC => run_mv (v := .bool _) rfl (by exact rfl)) ?_
   refine q_g rfl (wantF (by exact rfl)) rfl (fun hg w' hC => run_mv (v := S _) rfl (by exact rfl)) ?_
   refine q_g rfl (wantF (by exact rfl)) rfl (fun hg w' hC => run_mv (v := .int _ _) rfl (by exact rfl)) ?_
   refine q_g rfl (wantF (by exact rfl)) rfl (fun hg w' hC => run_mv (v := .int _ _) rfl (by exact rfl)) ?_
   refine q_g rfl (wantF (by exact rfl)) rfl (fun hg w' hC => run_add rfl (glv (by exact rfl) (fun h => h) hg) (by exact rfl) (by omega) (by omega)) ?_
   refine q_g rfl (wantF (by exact rfl)) rfl (fun hg w' hC => run_slS (k) ((k + 1)) rfl Tryz.underlying9 (glv (by exact rfl) (fun h => h) hg) (at1 (glv (by exact rfl) (fun h => h) hg) (by omega)) (at1 (glv (by exact rfl) (fun h => h) hg) (by omega)) (by first | omega | (simp; omega)) (by first | omega | (simp; omega))) ?_
   refine q_gcall rfl (wantF (by exact rfl)) rfl (fun hg w' hC => run_callf rfl (argcons (v := S _) (glv (by exact rfl) (fun h => h) hg) (rfl)) Tryz.func45 rfl (by kernel_rfl)) (fun hg w' hC => (rlower_calls (by first | omega | (simp; omega))).mono (fun e w'' h => ⟨h.1, evo_step0 hC h.2⟩)) ?_
   refine q_g rfl (wantF (by exact rfl)) rfl (fun hg w' hC => run_mv (v := S _) rfl (by exact rfl)) ?_
   refine q_g rfl (wantF (by exact rfl)) rfl (fun hg w' hC => run_mv (v := .int _ _) rfl (by exact rfl)) ?_
   refine q_g rfl (wantF (by exact rfl)) rfl (fun hg w' hC => run_mv (v := .int _ _) rfl (by exact rfl)) ?_
   refine q_g rfl (wantF (by exact rfl)) rfl (fun hg w' hC => run_add rfl (glv (by exact rfl) (fun h => h) hg) (by exact rfl) (by omega) (by omega)) ?_
   refine q_g rfl (wantF (by exact rfl)) rfl (fun hg w' hC => run_slS (k) ((k + 1)) rfl Tryz.underlying9 (glv (by exact rfl) (fun h => h) hg) (at1 (glv (by exact rfl) (fun h => h) hg) (by omega)) (at1 (glv (by exact rfl) (fun h => h) hg) (by omega)) (by first | omega | (simp; omega)) (by first | omega | (simp; omega))) ?_
   refine q_g rfl (wantF (by exact rfl)) rfl (fun hg w' hC => run_sneq rfl (glv (by exact rfl) (fun h => h) hg) (glv (by exact rfl) (fun h => h) hg)) ?_
   refine q_op rfl rfl rfl (fun w' hC => run_pick_or rfl (by exact rfl) rfl (fun hq => glv (by exact rfl) (fun h => h) hq)) ?_
   refine q_nil (fun w5 hE6 => ?_)
   have hs_w5 := (hE6).size
   replace hV := evo_step0 hV hE6
   refine r_cond (by exact rfl) (fun hc7 => ?_) (fun hc7 => ?_)
   ·skip
    refine r_seq ?_
    refine r_region ?_
    refine r_op rfl rfl rfl (run_asg (v := .bool _) rfl (by exact rfl)) ?_
    refine r_nil ?_
    refine r_ret (res1 (v := .bool _) rfl (by exact rfl)) ?_
    exact ⟨ret_bool (by rw [sml_bad (k := k) (by omega) hc7, Bool.false_and]), hV⟩
   ·skip
    refine r_skip ?_
    refine r_blk ?_
    refine r_region ?_
    refine r_op rfl rfl rfl (run_mv (v := .int _ _) rfl (by exact rfl)) ?_
    refine r_op rfl rfl rfl (run_add rfl (by exact rfl) (by exact rfl) (by omega) (by omega)) ?_
    refine r_op rfl rfl rfl (run_asg (v := .int _ _) rfl (by exact rfl)) ?_
    refine r_nil ?_
    refine r_again (k + 1) ?_ ?_ ?_
    ·first | omega | (dsimp only; omega)
    ·refine ⟨(by first | exact rfl | exact congrArg (Value.int _) (by omega) | exact congrArg (Value.int _) (by dsimp only; omega) | exact congrArg (Value.int _) (by simp) | exact congrArg S (by simp)), (by first | assumption | omega | (dsimp only; omega) | (simp; done)), (upto0 hall (sml_one (by omega) hc7)), (by first | assumption | omega | (dsimp only; omega) | (simp; done)), hV⟩
    ·repeat (first | (with_reducible exact Agree.merge _ _ _) | (with_reducible exact Agree.refl _ _) | (with_reducible refine Agree.upd ?_ _ _ rfl) | ((with_reducible refine Agree.inner ?_ ?_); (kernel_rfl)))
  ·skip
   refine r_exit rfl ?_
   refine r_seq ?_
   refine r_region ?_
   refine r_op rfl rfl rfl (run_mv (v := S _) rfl (by exact rfl)) ?_
   refine r_op rfl rfl rfl (run_lenS rfl (by exact rfl) Tryz.underlying9) ?_
   refine r_op rfl rfl rfl (run_leq rfl (by exact rfl) (by exact rfl)) ?_
   refine r_op rfl rfl rfl (run_asg (v := .bool _) rfl (by exact rfl)) ?_
   refine r_nil ?_
   refine r_ret (res1 (v := .bool _) rfl (by exact rfl)) ?_
   exact ⟨ret_bool (by rw [small_all, all_at (fun j hj => hall j (by omega)), Bool.true_and, Bool.eq_iff_iff, decide_eq_true_iff, decide_eq_true_iff]; omega), hV⟩
end Go.Proofs.YtkklomiipkipnaaGreatDoor
namespace Go.Proofs.YtkklomiipkipnaaGreatDoor
open Go.RowKit Go.Vc
def namedL (c : List Clas) (n : Str) : Int := if isName n = true then (if 0 ≤ findC c n then 5 else 0) else 4
theorem named_no {c : List Clas} {n : Str} (h : ¬ isName n = true) : namedL c n = 4 := if_neg h
theorem named_dup {c : List Clas} {n : Str} (h : isName n = true) (h2 : 0 ≤ findC c n) : namedL c n = 5 := by unfold namedL; rw [if_pos h, if_pos h2]
theorem named_ok {c : List Clas} {n : Str} (h : isName n = true) (h2 : ¬ 0 ≤ findC c n) : namedL c n = 0 := by unfold namedL; rw [if_pos h, if_neg h2]
theorem named_calls {ao : Option Addr} {b off cap : Nat} {c : List Clas} {n : Str} {w0 : World} (hc : RowR w0 ao b off cap c) :
    Calls Tryz.prog 82 #[.slice ao c.length cap, S n] w0 fun e w' => e = .returned (.int .i64 (namedL c n)) ∧ Evo w0 w' [] := by
 refine calls_enter (n := 14) (args := [.slice ao c.length cap, S n]) Tryz.func82 rfl Tryz.ntmps82 rfl ?_
 have hV : Evo w0 w0 [] := Evo.refl _ _
 have hc0 := hc.keep
 have hbd_hc := hc.bd
 refine r_seq ?_
 refine r_region ?_
 refine r_op rfl rfl rfl (run_asg (v := .int _ _) rfl (by exact rfl)) ?_
 refine r_nil ?_
 refine r_seq ?_
 refine r_block ?_
 refine r_seq ?_
 refine r_region ?_
 refine r_op rfl rfl rfl (run_mv (v := S _) rfl (by exact rfl)) ?_
 refine r_opcall rfl rfl rfl (run_callf (vs := [S _]) rfl (by exact rfl) Tryz.func102 rfl (by kernel_rfl)) isname_calls ?_
 rintro e w1 ⟨rfl, hE1⟩
 refine ⟨_, rfl, ?_⟩
 have hs_w1 := (hE1).size
 replace hV := evo_step0 hV hE1
 replace hc := hc0.now hV
 refine r_op rfl rfl rfl (run_notb rfl (by exact rfl)) ?_
 refine r_op rfl rfl rfl (run_asg (v := .bool _) rfl (by exact rfl)) ?_
 refine r_nil ?_
 refine r_condb (by exact rfl) (fun hc2 => ?_) (fun hc2 => ?_)
 ·skip
  refine r_seq ?_
  refine r_region ?_
  refine r_op rfl rfl rfl (run_asg (v := .int _ _) rfl (by exact rfl)) ?_
  refine r_nil ?_
  refine r_ret (res1 (v := .int _ _) rfl (by exact rfl)) ?_
  exact ⟨ret_int (by rw [named_no (by simp_all)]), hV⟩
 ·skip
  refine r_seq ?_
  refine r_region ?_
  refine r_op rfl rfl rfl (run_mv (v := .slice _ _ _) rfl (by exact rfl)) ?_
  refine r_op rfl rfl rfl (run_mv (v := S _) rfl (by exact rfl)) ?_
  refine r_opcall rfl rfl rfl (run_callf (vs := [.slice _ _ _, S _]) rfl (by exact rfl) Tryz.func84 rfl (by kernel_rfl)) (find_calls hc) ?_
  rintro e w3 ⟨rfl, hE3⟩
  refine ⟨_, rfl, ?_⟩
  have hs_w3 := (hE3).size
  replace hV := evo_step0 hV hE3
  replace hc := hc0.now hV
  refine r_op rfl rfl rfl (run_geq rfl (by exact rfl) (by exact rfl)) ?_
  refine r_op rfl rfl rfl (run_asg (v := .bool _) rfl (by exact rfl)) ?_
  refine r_nil ?_
  refine r_cond (by exact rfl) (fun hc4 => ?_) (fun hc4 => ?_)
  ·skip
   refine r_seq ?_
   refine r_region ?_
   refine r_op rfl rfl rfl (run_asg (v := .int _ _) rfl (by exact rfl)) ?_
   refine r_nil ?_
   refine r_ret (res1 (v := .int _ _) rfl (by exact rfl)) ?_
   exact ⟨ret_int (by rw [named_dup (by simp_all) (by omega)]), hV⟩
  ·skip
   refine r_skip ?_
   refine r_blk ?_
   refine r_seq ?_
   refine r_region ?_
   refine r_op rfl rfl rfl (run_asg (v := .int _ _) rfl (by exact rfl)) ?_
   refine r_nil ?_
   refine r_ret (res1 (v := .int _ _) rfl (by exact rfl)) ?_
   exact ⟨ret_int (by rw [named_ok (by simp_all) (by omega)]), hV⟩
theorem rnamed_calls {ao : Option Addr} {b off cap : Nat} {c : List Clas} {n : Str} {w0 : World} (hc : RowR w0 ao b off cap c) :
    Calls Tryz.prog 85 #[.slice ao c.length cap, S n] w0 fun e w' => e = .returned (.int .i64 (namedL c n)) ∧ Evo w0 w' [] := by
 refine calls_enter (n := 12) (args := [.slice ao c.length cap, S n]) Tryz.func85 rfl Tryz.ntmps85 rfl ?_
 have hV : Evo w0 w0 [] := Evo.refl _ _
 have hc0 := hc.keep
 have hbd_hc := hc.bd
 refine r_seq ?_
 refine r_region ?_
 refine r_op rfl rfl rfl (run_asg (v := .int _ _) rfl (by exact rfl)) ?_
 refine r_nil ?_
 refine r_seq ?_
 refine r_seq ?_
 refine r_region ?_
 refine r_op rfl rfl rfl (run_mv (v := S _) rfl (by exact rfl)) ?_
 refine r_opcall rfl rfl rfl (run_callf (vs := [S _]) rfl (by exact rfl) Tryz.func107 rfl (by kernel_rfl)) risname_calls ?_
 rintro e w1 ⟨rfl, hE1⟩
 refine ⟨_, rfl, ?_⟩
 have hs_w1 := (hE1).size
 replace hV := evo_step0 hV hE1
 replace hc := hc0.now hV
 refine r_op rfl rfl rfl (run_notb rfl (by exact rfl)) ?_
 refine r_nil ?_
 refine r_condb (by exact rfl) (fun hc2 => ?_) (fun hc2 => ?_)
 ·skip
  refine r_seq ?_
  refine r_region ?_
  refine r_op rfl rfl rfl (run_asg (v := .int _ _) rfl (by exact rfl)) ?_
  refine r_nil ?_
  refine r_ret (res1 (v := .int _ _) rfl (by exact rfl)) ?_
  exact ⟨ret_int (by rw [named_no (by simp_all)]), hV⟩
 ·skip
  refine r_skip ?_
  refine r_seq ?_
  refine r_seq ?_
  refine r_region ?_
  refine r_op rfl rfl rfl (run_mv (v := .slice _ _ _) rfl (by exact rfl)) ?_
  refine r_op rfl rfl rfl (run_mv (v := S _) rfl (by exact rfl)) ?_
  refine r_opcall rfl rfl rfl (run_callf (vs := [.slice _ _ _, S _]) rfl (by exact rfl) Tryz.func58 rfl (by kernel_rfl)) (rfind_calls hc) ?_
  rintro e w3 ⟨rfl, hE3⟩
  refine ⟨_, rfl, ?_⟩
  have hs_w3 := (hE3).size
  replace hV := evo_step0 hV hE3
  replace hc := hc0.now hV
  refine r_op rfl rfl rfl (run_geq rfl (by exact rfl) (by exact rfl)) ?_
  refine r_nil ?_
  refine r_cond (by exact rfl) (fun hc4 => ?_) (fun hc4 => ?_)
  ·skip
   refine r_seq ?_
   refine r_region ?_
   refine r_op rfl rfl rfl (run_asg (v := .int _ _) rfl (by exact rfl)) ?_
   refine r_nil ?_
   refine r_ret (res1 (v := .int _ _) rfl (by exact rfl)) ?_
   exact ⟨ret_int (by rw [named_dup (by simp_all) (by omega)]), hV⟩
  ·skip
   refine r_skip ?_
   refine r_seq ?_
   refine r_region ?_
   refine r_op rfl rfl rfl (run_asg (v := .int _ _) rfl (by exact rfl)) ?_
   refine r_nil ?_
   refine r_ret (res1 (v := .int _ _) rfl (by exact rfl)) ?_
   exact ⟨ret_int (by rw [named_ok (by simp_all) (by omega)]), hV⟩
end Go.Proofs.YtkklomiipkipnaaGreatDoor
namespace Go.Proofs.YtkklomiipkipnaaGreatDoor
open Go.RowKit Go.Vc
theorem keys_calls {w : World} {b : Nat} : Calls Tryz.prog 52 #[.map (some b)] w fun e w' => e = .returned (.func (.func 81) #[] #[.pointer (some ⟨w.heap.size, 0, none⟩)]) ∧ Evo w w' [] ∧ w' = w.alloc (.cells #[.map (some b)] 76) :=
  (callsIn_wide.1 (Tryz.maps_Keys_52 (some b) w)).mono fun e w' ⟨h1, h2⟩ => ⟨h1, by subst h2; exact evo_below (Below.refl _ _ |>.alloc (Nat.le_refl _) _), h2⟩
theorem sortedk_calls {w w1 : World} {b : Nat} {β : Type} {ev : β → Value} {m : List (Str × β)} (hm : MapIs w b S ev m) (hk : w1 = w.alloc (.cells #[.map (some b)] 76)) (hl : ∀ p ∈ m, p.1.length ≤ maxLen) (hb : m.length * 16 ≤ 140737488355328) :
    Calls Tryz.prog 51 #[.func (.func 81) #[] #[.pointer (some ⟨w.heap.size, 0, none⟩)]] w1 fun e w' => ∃ v, e = .returned v ∧ Evo w1 w' [] ∧ OwnE w' w1.heap.size 9 v (sortS (m.map (·.1))) := by
  subst hk
  obtain ⟨D, hD, hz, hp⟩ := map_owns (P := Tryz.prog) (K := 9) Tryz.underlying9 hm (by unfold maxLen; omega) hl
  refine (callsIn_wide.1 (Tryz.slices_Sorted_keys_51_52 b m.length D R0 w hD (by rw [hz]; unfold maxLen; omega) (by rw [hz]; exact hb))).mono ?_
  rintro e w' ⟨v, ss, rfl, hS, hrow, _, hbl⟩
  have hlen : ss.length = m.length := by have := (hS.trans hp).length_eq; simpa using this
  have hst : sortS (m.map (·.1)) = ss.mergeSort (fun x y => decide (x ≤ y)) := (mergeSort_of_perm (hS.trans hp)).symm
  refine ⟨v, rfl, evo_below hbl, ?_⟩
  rw [hst]
  exact OwnE.of1 (enc1 := encStr) rfl (fun _ => rfl) (by simp; omega) (by rw [show (ss.mergeSort (fun x y => decide (x ≤ y))).length = ss.length from by simp]; exact hrow)
theorem sorted_calls {b : Nat} {β : Type} {ev : β → Value} {m : List (Str × β)} {w0 : World} (hm0 : MapIs w0 b S ev m) (hl : ∀ p ∈ m, p.1.length ≤ maxLen) (hb : m.length * 16 ≤ 140737488355328) :
    Calls Tryz.prog 65 #[.map (some b)] w0 fun e w' => ∃ v, e = .returned v ∧ Evo w0 w' [] ∧ OwnE w' w0.heap.size 9 v (sortS (m.map (·.1))) := by
 refine calls_enter (n := 6) (args := [.map (some b)]) Tryz.func65 rfl Tryz.ntmps65 rfl ?_
 have hV : Evo w0 w0 [] := Evo.refl _ _
 refine r_seq ?_
 refine r_region ?_
 refine r_op rfl rfl rfl (run_asg (v := .slice _ _ _) rfl (by exact rfl)) ?_
 refine r_nil ?_
 refine r_seq ?_
 refine r_region ?_
 refine r_op rfl rfl rfl (run_mv (v := .map _) rfl (by exact rfl)) ?_
 refine r_opcall rfl rfl rfl (run_callf (vs := [.map _]) rfl (by exact rfl) Tryz.func52 rfl (by kernel_rfl)) keys_calls ?_
 rintro e w1 ⟨rfl, hE1, hky1⟩
 refine ⟨_, rfl, ?_⟩
 have hs_w1 := (hE1).size
 replace hV := evo_step0 hV hE1
 refine r_opcall rfl rfl rfl (run_callf (vs := [.func _ _ _]) rfl (by exact rfl) Tryz.func51 rfl (by kernel_rfl)) (sortedk_calls hm0 hky1 hl hb) ?_
 rintro e w2 ⟨vs2, rfl, hE2, hsr2⟩
 refine ⟨_, rfl, ?_⟩
 have hs_w2 := (hE2).size
 replace hV := evo_step0 hV hE2
 refine r_op rfl rfl rfl (run_asg (v := vs2) rfl (by exact rfl)) ?_
 refine r_nil ?_
 refine r_ret (res1 (v := vs2) rfl (by exact rfl)) ?_
 exact ⟨_, rfl, hV, hsr2.base_le (by omega)⟩
end Go.Proofs.YtkklomiipkipnaaGreatDoor
namespace Go.Proofs.YtkklomiipkipnaaGreatDoor
open Go.RowKit Go.Vc
theorem pl_96 : placesP Tryz.prog 96 = some [] := by kernel_rfl
theorem ty_96 : tyP Tryz.prog 96 = some (0, 0, some (.agg #[])) := by kernel_rfl
theorem cut_len (s t : Str) : (if t <:+ s then s.take (s.length - t.length) else s).length ≤ s.length := by
  split
  · exact List.length_take_le' _ _
  · exact Nat.le_refl _
theorem key_len {m : List (Str × Unit)} {ok : Str → Bool} {s : Str} {E : List Ende} {k : Nat} (h : KeyIs m (foldF ok s fwd (E.take k))) (hb : ∀ k, BdE (E.getD k default)) (hs : s.length ≤ 140737488355328) : ∀ p ∈ m, p.1.length ≤ maxLen := fun p hp => by
  have h1 := (h.2 p.1).1 (List.mem_map.2 ⟨p, hp, rfl⟩)
  unfold maxLen
  rcases foldF_mem.1 h1 with h2 | ⟨_, _, x, hx, h2⟩
  · rw [h2]; omega
  · have h3 := turn_len s (fwd x).1 (fwd x).2
    rw [h2] at h3
    obtain ⟨i, hi, rfl⟩ := List.mem_iff_getElem.1 (List.mem_of_mem_take hx)
    have h4 := (hb i).2
    have e : E.getD i default = E[i] := by simp [List.getD, hi]
    rw [e] at h4
    have h5 : p.1.length ≤ s.length + E[i].add.length := h3
    omega
theorem key_cnt {m : List (Str × Unit)} {l : List Str} (h : KeyIs m l) (hl : l.Pairwise (fun a b => a < b)) : m.length = l.length := by
  have := congrArg List.length (h.sorted hl)
  rw [sortS_len, List.length_map] at this
  exact this
end Go.Proofs.YtkklomiipkipnaaGreatDoor
namespace Go.Proofs.YtkklomiipkipnaaGreatDoor
open Go.RowKit Go.Vc
theorem take_bothI {α : Type} [Inhabited α] {a b : List α} {k : Nat} (hp : a.take k = b.take k) (ha : k < a.length) (hb : k < b.length) (h : a.getD k default = b.getD k default) : a.take (k + 1) = b.take (k + 1) := by
  rw [take_succD a k ha, take_succD b k hb, hp, h]
end Go.Proofs.YtkklomiipkipnaaGreatDoor
namespace Go.Proofs.YtkklomiipkipnaaGreatDoor
open Go.RowKit Go.Vc
theorem ag_25 : aggP Tryz.prog 25 = some false := by kernel_rfl
theorem ag_3 : aggP Tryz.prog 3 = some false := by kernel_rfl
theorem fo_85_0 : fieldP Tryz.prog 85 0 = some 0 := by kernel_rfl
theorem fo_85_1 : fieldP Tryz.prog 85 1 = some 1 := by kernel_rfl
theorem ty_3 : tyP Tryz.prog 3 = some (1, 8, some (.int .i64 0)) := by kernel_rfl
theorem place_calls (x n : Int) {w0 : World} (hn : 1 ≤ n) (hn2 : n ≤ 1000000000) :
    Calls Tryz.prog 18 #[.int .i64 x, .int .i64 n] w0 fun e w' => e = .returned (.int .i64 (x % n)) ∧ w0 = w' := by
 refine calls_enter (n := 14) (args := [.int .i64 x, .int .i64 n]) Tryz.func18 rfl Tryz.ntmps18 rfl ?_
 have hV : Evo w0 w0 [] := Evo.refl _ _
 refine r_seq ?_
 refine r_region ?_
 refine r_op rfl rfl rfl (run_asg (v := .int _ _) rfl (by exact rfl)) ?_
 refine r_nil ?_
 refine r_seq ?_
 refine r_region ?_
 refine r_op rfl rfl rfl (run_mv (v := .int _ _) rfl (by exact rfl)) ?_
 refine r_op rfl rfl rfl (run_mv (v := .int _ _) rfl (by exact rfl)) ?_
 refine r_op rfl rfl rfl (run_rem rfl (by exact rfl) (by exact rfl) (by omega)) ?_
 refine r_op rfl rfl rfl (run_asg (v := .int _ _) rfl (by exact rfl)) ?_
 refine r_nil ?_
 refine r_seq ?_
 refine r_seq ?_
 refine r_region ?_
 refine r_op rfl rfl rfl (run_mv (v := .int _ _) rfl (by exact rfl)) ?_
 refine r_op rfl rfl rfl (run_lss rfl (by exact rfl) (by exact rfl)) ?_
 refine r_nil ?_
 refine r_cond (by exact rfl) (fun hc1 => ?_) (fun hc1 => ?_)
 ·skip
  refine r_region ?_
  refine r_op rfl rfl rfl (run_mv (v := .int _ _) rfl (by exact rfl)) ?_
  refine r_op rfl rfl rfl (run_mv (v := .int _ _) rfl (by exact rfl)) ?_
  refine r_op rfl rfl rfl (run_add rfl (by exact rfl) (by exact rfl) (by have := tmod_bd x n (by omega); omega) (by have := tmod_bd x n (by omega); omega)) ?_
  refine r_op rfl rfl rfl (run_asg (v := .int _ _) rfl (by exact rfl)) ?_
  refine r_nil ?_
  refine r_seq ?_
  refine r_region ?_
  refine r_op rfl rfl rfl (run_mv (v := .int _ _) rfl (by exact rfl)) ?_
  refine r_op rfl rfl rfl (run_asg (v := .int _ _) rfl (by exact rfl)) ?_
  refine r_nil ?_
  refine r_ret (res1 (v := .int _ _) rfl (by exact rfl)) ?_
  exact ⟨ret_int (by rw [← place_neg x n (by omega) (by omega)]), rfl⟩
 ·skip
  refine r_skip ?_
  refine r_seq ?_
  refine r_region ?_
  refine r_op rfl rfl rfl (run_mv (v := .int _ _) rfl (by exact rfl)) ?_
  refine r_op rfl rfl rfl (run_asg (v := .int _ _) rfl (by exact rfl)) ?_
  refine r_nil ?_
  refine r_ret (res1 (v := .int _ _) rfl (by exact rfl)) ?_
  exact ⟨ret_int (by rw [← place_pos x n (by omega) (by omega)]), rfl⟩
theorem next_calls {T bs : Nat} {ao : Option Addr} {b off cap : Nat} {l : List Int} {N : Nat} {n : Int} {w0 : World} (hb : Blk w0 bs T [.slice ao l.length cap, .int .i64 (N : Nat)]) (hl : RowE w0 ao b off cap l) (hN : N ≤ 1000000) (hn : 1 ≤ n) (hn2 : n ≤ 1000000000) :
    Calls Tryz.prog 41 #[.pointer (some ⟨bs, 0, none⟩), .int .i64 n] w0 fun e w' => e = .returned (.int .i64 (nextL l N n)) ∧ Evo w0 w' [bs] ∧ Blk w' bs T [.slice ao l.length cap, .int .i64 (N + 1 : Nat)] := by
 have hAs := hb.at
 refine calls_enter (n := 36) (args := [.pointer (some ⟨bs, 0, none⟩), .int .i64 n]) Tryz.func41 rfl Tryz.ntmps41 rfl ?_
 have hV : Evo w0 w0 [bs] := Evo.refl _ _
 have hbd_hl := hl.bd
 refine r_seq ?_
 refine r_region ?_
 refine r_op rfl rfl rfl (run_asg (v := .int _ _) rfl (by exact rfl)) ?_
 refine r_nil ?_
 refine r_seq ?_
 refine r_region ?_
 refine r_op rfl rfl rfl (run_asg (v := .int _ _) rfl (by exact rfl)) ?_
 refine r_nil ?_
 refine r_seq ?_
 refine r_seq ?_
 refine r_qregion (by kernel_rfl) (by kernel_rfl) ?_
 refine q_op rfl rfl rfl (fun w' hC => run_mv (v := .pointer _) rfl (by exact rfl)) ?_
 refine q_op rfl rfl rfl (fun w' hC => run_nc rfl (by exact rfl)) ?_
 refine q_op rfl rfl rfl (fun w' hC => run_fa rfl (by exact rfl) fo_85_1) ?_
 refine q_op rfl rfl rfl (fun w' hC => run_ld1 rfl ag_3 (by exact rfl) ((hAs.evo0 hC).cell 1 (by exact rfl))) ?_
 refine q_op rfl rfl rfl (fun w' hC => run_mv (v := .pointer _) rfl (by exact rfl)) ?_
 refine q_op rfl rfl rfl (fun w' hC => run_nc rfl (by exact rfl)) ?_
 refine q_op rfl rfl rfl (fun w' hC => run_fa rfl (by exact rfl) fo_85_0) ?_
 refine q_op rfl rfl rfl (fun w' hC => run_ld1 rfl ag_25 (by exact rfl) ((hAs.evo0 hC).cell 0 (by exact rfl))) ?_
 refine q_op rfl rfl rfl (fun w' hC => run_lenSl rfl (by exact rfl) Tryz.underlying25) ?_
 refine q_op rfl rfl rfl (fun w' hC => run_lss rfl (by exact rfl) (by exact rfl)) ?_
 refine q_nil (fun w1 hE2 => ?_)
 have hs_w1 := (hE2).size
 replace hV := evo_step0 hV hE2
 replace hb := hb.evo0 hE2
 replace hAs := hAs.evo0 hE2
 replace hl := hl.evo0 hE2
 refine r_cond (by exact rfl) (fun hc3 => ?_) (fun hc3 => ?_)
 ·skip
  refine r_qregion (by kernel_rfl) (by kernel_rfl) ?_
  refine q_op rfl rfl rfl (fun w' hC => run_mv (v := .pointer _) rfl (by exact rfl)) ?_
  refine q_op rfl rfl rfl (fun w' hC => run_nc rfl (by exact rfl)) ?_
  refine q_op rfl rfl rfl (fun w' hC => run_fa rfl (by exact rfl) fo_85_0) ?_
  refine q_op rfl rfl rfl (fun w' hC => run_ld1 rfl ag_25 (by exact rfl) ((hAs.evo0 hC).cell 0 (by exact rfl))) ?_
  refine q_op rfl rfl rfl (fun w' hC => run_mv (v := .pointer _) rfl (by exact rfl)) ?_
  refine q_op rfl rfl rfl (fun w' hC => run_nc rfl (by exact rfl)) ?_
  refine q_op rfl rfl rfl (fun w' hC => run_fa rfl (by exact rfl) fo_85_1) ?_
  refine q_op rfl rfl rfl (fun w' hC => run_ld1 rfl ag_3 (by exact rfl) ((hAs.evo0 hC).cell 1 (by exact rfl))) ?_
  refine q_op rfl rfl rfl (fun w' hC => run_ix (N) rfl Tryz.underlying25 ty_3 (by exact rfl) (by exact rfl) (by first | exact rfl | omega) (by omega) (hl.addr (i := N) (by omega))) ?_
  have hA4 := hl.atD (N) (by omega)
  refine q_op rfl rfl rfl (fun w' hC => run_ld1 rfl ag_3 (by exact rfl) ((hA4.evo0 hC).cell 0 (by exact rfl))) ?_
  refine q_op rfl rfl rfl (fun w' hC => run_asg (v := .int _ _) rfl (by exact rfl)) ?_
  refine q_nil (fun w5 hE6 => ?_)
  have hs_w5 := (hE6).size
  replace hV := evo_step0 hV hE6
  replace hb := hb.evo0 hE6
  replace hAs := hAs.evo0 hE6
  replace hl := hl.evo0 hE6
  refine r_seq ?_
  refine r_region ?_
  refine r_op rfl rfl rfl (run_mv (v := .pointer _) rfl (by exact rfl)) ?_
  refine r_op rfl rfl rfl (run_nc rfl (by exact rfl)) ?_
  refine r_op rfl rfl rfl (run_fa rfl (by exact rfl) fo_85_1) ?_
  refine r_op rfl rfl rfl (run_ld1 rfl ag_3 (by exact rfl) (hAs.cell 1 (by exact rfl))) ?_
  refine r_op rfl rfl rfl (run_add rfl (by exact rfl) (by exact rfl) (by omega) (by omega)) ?_
  refine r_op rfl rfl rfl (run_nc rfl (by exact rfl)) ?_
  refine r_op rfl rfl rfl (run_fa rfl (by exact rfl) fo_85_1) ?_
  refine r_store (v := .int _ _) (vs := [_]) (cs' := [_, _]) (by exact rfl) (by exact rfl) hb ty_3 (by exact rfl) rfl (by exact rfl) rfl (by exact rfl) ?_
  intro w7 hEw7 hzw7 hb_new
  have hs_w7 := (hEw7).size
  replace hV := evo_step1 hV hEw7 (.inr (by simp))
  replace hb := hb_new
  have hAs := hb.at
  clear hb_new
  refine r_nil ?_
  refine r_seq ?_
  refine r_region ?_
  refine r_op rfl rfl rfl (run_mv (v := .int _ _) rfl (by exact rfl)) ?_
  refine r_op rfl rfl rfl (run_mv (v := .int _ _) rfl (by exact rfl)) ?_
  refine r_opcall rfl rfl rfl (run_callf (vs := [.int _ _, .int _ _]) rfl (by exact rfl) Tryz.func18 rfl (by kernel_rfl)) (place_calls _ _ (by omega) (by omega)) ?_
  rintro e w8 ⟨rfl, rfl⟩
  refine ⟨_, rfl, ?_⟩
  refine r_op rfl rfl rfl (run_asg (v := .int _ _) rfl (by exact rfl)) ?_
  refine r_nil ?_
  refine r_ret (res1 (v := .int _ _) rfl (by exact rfl)) ?_
  exact ⟨ret_int (by first | rfl | (unfold nextL; simp [List.getD, List.getElem?_eq_none (by omega : l.length ≤ N)]; done)), hV, hb⟩
 ·skip
  refine r_skip ?_
  refine r_seq ?_
  refine r_region ?_
  refine r_op rfl rfl rfl (run_mv (v := .pointer _) rfl (by exact rfl)) ?_
  refine r_op rfl rfl rfl (run_nc rfl (by exact rfl)) ?_
  refine r_op rfl rfl rfl (run_fa rfl (by exact rfl) fo_85_1) ?_
  refine r_op rfl rfl rfl (run_ld1 rfl ag_3 (by exact rfl) (hAs.cell 1 (by exact rfl))) ?_
  refine r_op rfl rfl rfl (run_add rfl (by exact rfl) (by exact rfl) (by omega) (by omega)) ?_
  refine r_op rfl rfl rfl (run_nc rfl (by exact rfl)) ?_
  refine r_op rfl rfl rfl (run_fa rfl (by exact rfl) fo_85_1) ?_
  refine r_store (v := .int _ _) (vs := [_]) (cs' := [_, _]) (by exact rfl) (by exact rfl) hb ty_3 (by exact rfl) rfl (by exact rfl) rfl (by exact rfl) ?_
  intro w9 hEw9 hzw9 hb_new
  have hs_w9 := (hEw9).size
  replace hV := evo_step1 hV hEw9 (.inr (by simp))
  replace hb := hb_new
  have hAs := hb.at
  clear hb_new
  refine r_nil ?_
  refine r_seq ?_
  refine r_region ?_
  refine r_op rfl rfl rfl (run_mv (v := .int _ _) rfl (by exact rfl)) ?_
  refine r_op rfl rfl rfl (run_mv (v := .int _ _) rfl (by exact rfl)) ?_
  refine r_opcall rfl rfl rfl (run_callf (vs := [.int _ _, .int _ _]) rfl (by exact rfl) Tryz.func18 rfl (by kernel_rfl)) (place_calls _ _ (by omega) (by omega)) ?_
  rintro e w10 ⟨rfl, rfl⟩
  refine ⟨_, rfl, ?_⟩
  refine r_op rfl rfl rfl (run_asg (v := .int _ _) rfl (by exact rfl)) ?_
  refine r_nil ?_
  refine r_ret (res1 (v := .int _ _) rfl (by exact rfl)) ?_
  exact ⟨ret_int (by first | rfl | (unfold nextL; simp [List.getD, List.getElem?_eq_none (by omega : l.length ≤ N)]; done)), hV, hb⟩
theorem nx_calls {w0 : World} {T bs : Nat} {ao : Option Addr} {b off cap : Nat} {l : List Int} {N : Nat} {n : Int} (hb : Blk w0 bs T [.slice ao l.length cap, .int .i64 (N : Nat)]) (hl : RowE w0 ao b off cap l) (hN : N ≤ 1000000) (hn : 1 ≤ n) (hn2 : n ≤ 1000000000) :
    Calls Tryz.prog 41 #[.pointer (some ⟨bs, 0, none⟩), .int .i64 n] w0 fun e w' => ∃ r, e = .returned (.int .i64 r) ∧ (0 ≤ r ∧ r < n) ∧ Evo w0 w' [bs] ∧ Blk w' bs T [.slice ao l.length cap, .int .i64 (N + 1 : Nat)] :=
  (next_calls hb hl hN hn hn2).mono fun e w' ⟨h1, h2, h3⟩ => ⟨_, h1, nextL_bd l N n hn, h2, h3⟩
theorem decimal_calls {n : Nat} {w0 : World} (hn : n < 1000000000) :
    Calls Tryz.prog 88 #[.int .i64 (n : Nat)] w0 fun e w' => e = .returned (S (decW n [])) ∧ Evo w0 w' [] := by
 have hdl := decW_len 8 n [] (by omega); have hdg := decW_ge
 refine calls_enter (n := 17) (args := [.int .i64 (n : Nat)]) Tryz.func88 rfl Tryz.ntmps88 rfl ?_
 have hV : Evo w0 w0 [] := Evo.refl _ _
 refine r_seq ?_
 refine r_region ?_
 refine r_op rfl rfl rfl (run_asg (v := S _) rfl (by exact rfl)) ?_
 refine r_nil ?_
 refine r_seq ?_
 refine r_region ?_
 refine r_op rfl rfl rfl (run_asg (v := S _) rfl (by exact rfl)) ?_
 refine r_nil ?_
 refine r_block ?_
 refine r_loop (α := Nat) [0, 2, 3, 4, 5, 6, 7, 8, 9, 10, 11, 12, 13, 14, 15, 16] (fun m g w => ∃ s1 : Str, g 0 = .int .i64 (m : Nat) ∧ g 3 = S s1 ∧ (m < 1000000000 ∧ s1.length ≤ 20) ∧ decW n [] = decW m s1 ∧ w0.heap.size ≤ w.heap.size ∧ Evo w0 w []) (fun m => m) n ?_ ?_
 ·refine ⟨[], rfl, rfl, (by simp; omega), rfl, (by first | assumption | omega | (dsimp only; omega) | (simp; done)), hV⟩
 ·rintro m g w2 ⟨s1, hj3, hj4, hm, hdw, hzl1, hV⟩
  have hs_w2hV := hV.size
  refine r_know (i := 0) (v := .int .i64 (m : Nat)) (by exact hj3) ?_
  refine r_know (i := 3) (v := S s1) (by exact hj4) ?_
  have hdm := hdg m s1
  have htd := tdiv_ten m
  refine r_block ?_
  refine r_seq ?_
  refine r_region ?_
  refine r_op rfl rfl rfl (run_mv (v := .int _ _) rfl (by exact rfl)) ?_
  refine r_op rfl rfl rfl (run_rem rfl (by exact rfl) (by exact rfl) (by omega)) ?_
  refine r_op rfl rfl rfl (run_add rfl (by exact rfl) (by exact rfl) (by have := tmod_bd (m : Int) 10 (by omega); omega) (by have := tmod_bd (m : Int) 10 (by omega); omega)) ?_
  refine r_op rfl rfl rfl (run_cvInt rfl Tryz.underlying3 Tryz.underlying5 (by exact rfl)) ?_
  refine r_bslice (pv := [(0, .int _ _)]) (zs := [_]) (cs := [_]) Tryz.underlying61 ty_5 (by exact rfl) rfl (by exact rfl) rfl (by exact rfl) ?_
  intro b5 w6 heb5 hEw6 hbb5 hzb5
  have hs_w6 := (hEw6).size
  replace hV := evo_step0 hV hEw6
  have hAb5 := hbb5.at
  have hrb5 : RowE w6 (some ⟨b5, 0, none⟩) b5 0 1 ([UInt8.ofNat (48 + m % 10)] : List UInt8) := rowLit ([UInt8.ofNat (48 + m % 10)] : List UInt8) hbb5 (congrArg (fun z => [Value.int .u8 z]) (dig_wrap (n := m) rfl)) rfl
  refine r_op rfl rfl rfl (run_cvBS rfl Tryz.underlying61 Tryz.underlying5 Tryz.underlying9 (by exact rfl) (by first | rfl | simp) hrb5) ?_
  refine r_op rfl rfl rfl (run_mv (v := S _) rfl (by exact rfl)) ?_
  refine r_op rfl rfl rfl (run_sadd rfl (by exact rfl) (by exact rfl) (by first | omega | (simp; done) | (simp; omega))) ?_
  refine r_op rfl rfl rfl (run_asg (v := S _) rfl (by exact rfl)) ?_
  refine r_nil ?_
  refine r_seq ?_
  refine r_region ?_
  refine r_op rfl rfl rfl (run_mv (v := .int _ _) rfl (by exact rfl)) ?_
  refine r_op rfl rfl rfl (run_quo rfl (by exact rfl) (by exact rfl) (by omega) (by have h8 := tdiv_ten m; omega) (by have h8 := tdiv_ten m; omega)) ?_
  refine r_op rfl rfl rfl (run_asg (v := .int _ _) rfl (by exact rfl)) ?_
  refine r_nil ?_
  refine r_seq ?_
  refine r_region ?_
  refine r_op rfl rfl rfl (run_mv (v := .int _ _) rfl (by exact rfl)) ?_
  refine r_op rfl rfl rfl (run_eql rfl (by exact rfl) (by exact rfl)) ?_
  refine r_nil ?_
  refine r_cond (by exact rfl) (fun hc7 => ?_) (fun hc7 => ?_)
  ·skip
   refine r_seq ?_
   refine r_region ?_
   refine r_op rfl rfl rfl (run_mv (v := S _) rfl (by exact rfl)) ?_
   refine r_op rfl rfl rfl (run_asg (v := S _) rfl (by exact rfl)) ?_
   refine r_nil ?_
   refine r_ret (res1 (v := S _) rfl (by exact rfl)) ?_
   exact ⟨ret_str (by rw [hdw, decW_stop s1 (by omega)]; rfl), hV⟩
  ·skip
   refine r_skip ?_
   refine r_blk ?_
   refine r_again (m / 10) ?_ ?_ ?_
   ·first | omega | (dsimp only; omega)
   ·refine ⟨_, (congrArg (Value.int _) htd), rfl, (by have h8 := congrArg List.length (hdw.trans (decW_go s1 (by omega))); have h7 := hdg (m / 10) (UInt8.ofNat (48 + m % 10) :: s1); simp at h7 h8 hdl ⊢; omega), (hdw.trans (decW_go s1 (by omega))), (by first | assumption | omega | (dsimp only; omega) | (simp; done)), hV⟩
   ·repeat (first | (with_reducible exact Agree.merge _ _ _) | (with_reducible exact Agree.refl _ _) | (with_reducible refine Agree.upd ?_ _ _ rfl) | ((with_reducible refine Agree.inner ?_ ?_); (kernel_rfl)))
theorem Decimal_calls {n : Nat} {w0 : World} (hn : n < 1000000000) :
    Calls Tryz.prog 59 #[.int .i64 (n : Nat)] w0 fun e w' => e = .returned (S (decW n [])) ∧ Evo w0 w' [] := by
 refine calls_enter (n := 16) (args := [.int .i64 (n : Nat)]) Tryz.func59 rfl Tryz.ntmps59 rfl ?_
 have hV : Evo w0 w0 [] := Evo.refl _ _
 refine r_seq ?_
 refine r_region ?_
 refine r_op rfl rfl rfl (run_asg (v := S _) rfl (by exact rfl)) ?_
 refine r_nil ?_
 refine r_seq ?_
 refine r_seq ?_
 refine r_region ?_
 refine r_op rfl rfl rfl (run_mv (v := .int _ _) rfl (by exact rfl)) ?_
 refine r_op rfl rfl rfl (run_lss rfl (by exact rfl) (by exact rfl)) ?_
 refine r_op rfl rfl rfl (run_mv (v := .bool _) rfl (by exact rfl)) ?_
 refine r_g rfl (wantT (by exact rfl)) rfl (fun hg => run_mv (v := .int _ _) rfl (by exact rfl)) ?_
 refine r_g rfl (wantT (by exact rfl)) rfl (fun hg => run_gtr rfl (glv (by exact rfl) (fun h => h) hg) (by exact rfl)) ?_
 refine r_op rfl rfl rfl (run_pick_and rfl (by exact rfl) (fun hq => glv (by exact rfl) (fun h => h) hq) rfl) ?_
 refine r_nil ?_
 refine r_cond (by exact rfl) (fun hc1 => ?_) (fun hc1 => ?_)
 ·skip
  exfalso; omega
 ·skip
  refine r_skip ?_
  refine r_seq ?_
  refine r_region ?_
  refine r_op rfl rfl rfl (run_mv (v := .int _ _) rfl (by exact rfl)) ?_
  refine r_op rfl rfl rfl (run_max rfl (by exact rfl) (by exact rfl)) ?_
  refine r_knowL (i := 14) (v := .int .i64 (n : Nat)) (congrArg (Value.int _) (by omega)) ?_
  refine r_opcall rfl rfl rfl (run_callf (vs := [.int _ _]) rfl (by exact rfl) Tryz.func88 rfl (by kernel_rfl)) (decimal_calls (by omega)) ?_
  rintro e w2 ⟨rfl, hE2⟩
  refine ⟨_, rfl, ?_⟩
  have hs_w2 := (hE2).size
  replace hV := evo_step0 hV hE2
  refine r_op rfl rfl rfl (run_asg (v := S _) rfl (by exact rfl)) ?_
  refine r_nil ?_
  refine r_ret (res1 (v := S _) rfl (by exact rfl)) ?_
  exact ⟨rfl, hV⟩
end Go.Proofs.YtkklomiipkipnaaGreatDoor
namespace Go.Proofs.YtkklomiipkipnaaGreatDoor
open Go.RowKit Go.Vc
theorem pl_107 : placesP Tryz.prog 107 = some [(0, 1), (1, 1)] := by kernel_rfl
theorem pl_70 : placesP Tryz.prog 70 = some [(0, 1), (1, 1)] := by kernel_rfl
theorem ty_68 : tyP Tryz.prog 68 = some (1, 24, some (.slice none 0 0)) := by kernel_rfl
theorem ee_107 : ∀ (w : World) (x y : Ende), (Op.equalIn 10000 107 (.agg (Enc.enc x).toArray) (.agg (Enc.enc y).toArray)).run Tryz.prog w = .ok (decide (x = y)) w := fun w x y => equalIn_ende 9998 Tryz.underlying107 Tryz.stoodInHeld107 (by decide) (by decide) rfl rfl Tryz.underlying9 Tryz.underlying9 ag_9 ag_9 x y
theorem mem_takeS {α : Type} [Inhabited α] {x : α} {l : List α} {k : Nat} (h : k < l.length) : (x ∈ l.take k ∨ x = l.getD k default) ↔ x ∈ l.take (k + 1) := by
  rw [take_succD l k h, List.mem_append, List.mem_singleton]
end Go.Proofs.YtkklomiipkipnaaGreatDoor
namespace Go.Proofs.YtkklomiipkipnaaGreatDoor
open Go.RowKit Go.Vc
theorem pos_all {α : Type} [Inhabited α] {l : List α} {x : α} {k : Nat} (h : ∀ j, j < k → ¬ x = l.getD j default) (hk : l.length ≤ k) : ¬ x ∈ l := fun hx => by
  obtain ⟨j, hj, rfl⟩ := List.mem_iff_getElem.1 hx
  exact h j (by omega) (by simp [List.getD, hj])
theorem pos_at {α : Type} [Inhabited α] {l : List α} {x : α} {k : Nat} (hk : k < l.length) (h : x = l.getD k default) : x ∈ l := by rw [h]; exact getD_in hk
def endedL (b : List Ende) (x : Ende) : Int := if (smallL x.strip = true ∧ x.strip.length ≤ 8) ∧ (smallL x.add = true ∧ x.add.length ≤ 8) then (if x ∈ b then 5 else 0) else 1
def firstE (f : Nat → Int) : Nat → Int
  | 0 => 0
  | n + 1 => if firstE f n = 0 then f n else firstE f n
theorem firstE_none {f : Nat → Int} : ∀ {n : Nat}, (∀ j, j < n → f j = 0) → firstE f n = 0
  | 0, _ => rfl
  | n + 1, h => by unfold firstE; rw [if_pos (firstE_none (fun j hj => h j (by omega)))]; exact h n (by omega)
theorem firstE_at {f : Nat → Int} {k : Nat} (h : ∀ j, j < k → f j = 0) (hk : ¬ f k = 0) : ∀ {n : Nat}, k < n → firstE f n = f k
  | 0, h1 => by omega
  | n + 1, h1 => by
    by_cases e : k = n
    · subst e; unfold firstE; rw [if_pos (firstE_none h)]
    · have := firstE_at h hk (n := n) (by omega)
      unfold firstE; rw [this, if_neg hk]
def endsErr (es : List Ende) : Int := firstE (fun k => endedL (es.take k) (es.getD k default)) es.length
def classErr (c : List Clas) (i : Nat) : Int := if namedL (c.take i) (c.getD i default).name = 0 then (if 16 < (c.getD i default).ends.length then 3 else endsErr (c.getD i default).ends) else namedL (c.take i) (c.getD i default).name
def validC (c : List Clas) : Int := if 32 < c.length then 3 else firstE (classErr c) c.length
theorem cls_named {c : List Clas} {i : Nat} (h : ¬ namedL (c.take i) (c.getD i default).name = 0) : classErr c i = namedL (c.take i) (c.getD i default).name := by unfold classErr; rw [if_neg h]
theorem cls_many {c : List Clas} {i : Nat} (h : namedL (c.take i) (c.getD i default).name = 0) (h2 : 16 < (c.getD i default).ends.length) : classErr c i = 3 := by unfold classErr; rw [if_pos h, if_pos h2]
theorem cls_ends {c : List Clas} {i : Nat} (h : namedL (c.take i) (c.getD i default).name = 0) (h2 : ¬ 16 < (c.getD i default).ends.length) : classErr c i = endsErr (c.getD i default).ends := by unfold classErr; rw [if_pos h, if_neg h2]
theorem valid_at {c : List Clas} {i : Nat} {e : Int} (h : ¬ 32 < c.length) (h1 : ∀ j, j < i → classErr c j = 0) (h2 : classErr c i = e) (h3 : ¬ e = 0) (hi : i < c.length) : validC c = e := by
  unfold validC; rw [if_neg h, firstE_at h1 (by rw [h2]; exact h3) hi, h2]
theorem valid_ok {c : List Clas} {i : Nat} (h : ¬ 32 < c.length) (h1 : ∀ j, j < i → classErr c j = 0) (hi : c.length ≤ i) : validC c = 0 := by
  unfold validC; rw [if_neg h, firstE_none (fun j hj => h1 j (by omega))]
theorem ends_err {es : List Ende} {k : Nat} (h : ∀ j, j < k → endedL (es.take j) (es.getD j default) = 0) (h2 : ¬ endedL (es.take k) (es.getD k default) = 0) (hk : k < es.length) : endsErr es = endedL (es.take k) (es.getD k default) := firstE_at h h2 hk
theorem ends_ok {es : List Ende} {k : Nat} (h : ∀ j, j < k → endedL (es.take j) (es.getD j default) = 0) (hk : es.length ≤ k) : endsErr es = 0 := firstE_none (fun j hj => h j (by omega))
theorem ixende_calls {ao : Option Addr} {b off cap : Nat} {es : List Ende} {x : Ende} {w0 : World} (he : RowE w0 ao b off cap es) :
    Calls Tryz.prog 126 #[.slice ao es.length cap, (.agg (Enc.enc x).toArray)] w0 fun e w' => ∃ z : Int, e = .returned (.int .i64 z) ∧ (0 ≤ z ↔ x ∈ es) ∧ Evo w0 w' [] := by
 refine calls_enter (n := 19) (args := [.slice ao es.length cap, (.agg (Enc.enc x).toArray)]) Tryz.func126 rfl Tryz.ntmps126 rfl ?_
 have hV : Evo w0 w0 [] := Evo.refl _ _
 have he0 := keepE he
 have hbd_he := he.bd
 refine r_seq ?_
 refine r_region ?_
 refine r_box (vs := [_, _]) (by exact rfl) (by exact rfl) rfl ?_
 intro b1 w2 heb1 hEw2 hbb1 hzb1
 have hs_w2 := (hEw2).size
 replace hV := evo_step0 hV hEw2
 replace he := he0 _ hV
 have hAb1 := hbb1.at
 refine r_op rfl rfl rfl (run_asg (v := .int _ _) rfl (by exact rfl)) ?_
 refine r_nil ?_
 refine r_seq ?_
 refine r_seq ?_
 refine r_region ?_
 refine r_op rfl rfl rfl (run_mv (v := .slice _ _ _) rfl (by exact rfl)) ?_
 refine r_op rfl rfl rfl (run_lenSl rfl (by exact rfl) Tryz.underlying68) ?_
 refine r_op rfl rfl rfl (run_mv (v := .int _ _) rfl (by exact rfl)) ?_
 refine r_nil ?_
 refine r_block ?_
 refine r_loop (α := Nat) [4, 5, 8, 9, 10, 11, 12, 13, 14, 15, 16, 17, 18] (fun k g w => g 8 = .int .i64 (k : Nat) ∧ k ≤ es.length ∧ Blk w b1 107 (Enc.enc x) ∧ At w b1 0 (Enc.enc x) ∧ (∀ j, j < k → ¬ x = es.getD j default) ∧ w2.heap.size ≤ w.heap.size ∧ Evo w0 w []) (fun k => es.length - k) 0 ?_ ?_
 ·refine ⟨(by first | exact rfl | exact congrArg (Value.int _) (by omega) | exact congrArg (Value.int _) (by dsimp only; omega) | exact congrArg (Value.int _) (by simp) | exact congrArg S (by simp)), (by first | assumption | omega | (dsimp only; omega) | (simp; done)), hbb1, hAb1, (fun j h => by omega), (by first | assumption | omega | (dsimp only; omega) | (simp; done)), hV⟩
 ·rintro k g w4 ⟨hj5, hk_k, hbb1, hAb1, hno, hzl3, hV⟩
  have hs_w4hV := hV.size
  have hlt6 := hbb1.lt
  replace he := he0 _ hV
  refine r_know (i := 8) (v := .int .i64 (k : Nat)) (by exact hj5) ?_
  refine r_seq ?_
  refine r_region ?_
  refine r_op rfl rfl rfl (run_lss rfl (by exact rfl) (by exact rfl)) ?_
  refine r_nil ?_
  refine r_seq ?_
  refine r_cond (by exact rfl) (fun hc7 => ?_) (fun hc7 => ?_)
  ·skip
   refine r_skip ?_
   refine r_seq ?_
   refine r_block ?_
   refine r_seq ?_
   refine r_region ?_
   refine r_op rfl rfl rfl (run_mv (v := .int _ _) rfl (by exact rfl)) ?_
   refine r_op rfl rfl rfl (run_asg (v := .int _ _) rfl (by exact rfl)) ?_
   refine r_nil ?_
   refine r_seq ?_
   have hbb1_q := hbb1
   have hAb1_q := hAb1
   have hV_q := hV
   refine h_region ([]) (by kernel_rfl) ?_
   intro w8 hE9 hCst4
   have hs_w8 := (hE9).size
   replace hV := evo_step0 hV hE9
   replace he := he0 _ hV
   replace hbb1 := hbb1.evo0 hE9
   replace hAb1 := hAb1.evo0 hE9
   refine h_take (i := 0) (by exact rfl) rfl rfl rfl (by kernel_rfl) (fun w' hC => run_ldN rfl ag_107 ty_107 (by exact rfl) rfl (hAb1_q.evo0 hC)) hCst4 ?_
   refine h_take (i := 1) (by exact rfl) rfl rfl rfl (by kernel_rfl) (fun w' hC => run_mv (v := .slice _ _ _) rfl (by exact rfl)) hCst4 ?_
   refine h_take (i := 2) (by exact rfl) rfl rfl rfl (by kernel_rfl) (fun w' hC => run_mv (v := .int _ _) rfl (by exact rfl)) hCst4 ?_
   refine h_take (i := 3) (by exact rfl) rfl rfl rfl (by kernel_rfl) (fun w' hC => run_ix (k) rfl Tryz.underlying68 ty_107 (by exact rfl) (by exact rfl) (by first | exact rfl | omega) (by omega) (he.addr (i := k) (by omega))) hCst4 ?_
   have hA100 := fun (w' : World) (h : Evo w0 w' []) => (he0 w' h).atD (k) (by omega)
   have hA10 := hA100 _ hV
   refine h_take (i := 4) (by exact rfl) rfl rfl rfl (by kernel_rfl) (fun w' hC => run_ldN rfl ag_107 ty_107 (by exact rfl) rfl (hA100 _ (evo_step0 hV_q hC))) hCst4 ?_
   refine h_take (i := 5) (by exact rfl) rfl rfl rfl (by kernel_rfl) (fun w' hC => run_eqlG (α := Ende) _ _ rfl Tryz.eqGuardType107 ee_107 (by exact rfl) (by exact rfl)) hCst4 ?_
   refine h_done (by kernel_rfl) ?_
   refine r_cond (by exact rfl) (fun hc11 => ?_) (fun hc11 => ?_)
   ·skip
    refine r_seq ?_
    refine r_region ?_
    refine r_op rfl rfl rfl (run_mv (v := .int _ _) rfl (by exact rfl)) ?_
    refine r_op rfl rfl rfl (run_asg (v := .int _ _) rfl (by exact rfl)) ?_
    refine r_nil ?_
    refine r_ret (res1 (v := .int _ _) rfl (by exact rfl)) ?_
    exact ⟨_, rfl, ⟨fun _ => pos_at (by omega) hc11, fun _ => by omega⟩, hV⟩
   ·skip
    refine r_skip ?_
    refine r_blk ?_
    refine r_region ?_
    refine r_op rfl rfl rfl (run_add rfl (by exact rfl) (by exact rfl) (by omega) (by omega)) ?_
    refine r_op rfl rfl rfl (run_mv (v := .int _ _) rfl (by exact rfl)) ?_
    refine r_nil ?_
    refine r_again (k + 1) ?_ ?_ ?_
    ·first | omega | (dsimp only; omega)
    ·refine ⟨(by first | exact rfl | exact congrArg (Value.int _) (by omega) | exact congrArg (Value.int _) (by dsimp only; omega) | exact congrArg (Value.int _) (by simp) | exact congrArg S (by simp)), (by first | assumption | omega | (dsimp only; omega) | (simp; done)), hbb1, hAb1, (upto0 hno hc11), (by first | assumption | omega | (dsimp only; omega) | (simp; done)), hV⟩
    ·repeat (first | (with_reducible exact Agree.merge _ _ _) | (with_reducible exact Agree.refl _ _) | (with_reducible refine Agree.upd ?_ _ _ rfl) | ((with_reducible refine Agree.inner ?_ ?_); (kernel_rfl)))
  ·skip
   refine r_exit rfl ?_
   refine r_seq ?_
   refine r_region ?_
   refine r_op rfl rfl rfl (run_asg (v := .int _ _) rfl (by exact rfl)) ?_
   refine r_nil ?_
   refine r_ret (res1 (v := .int _ _) rfl (by exact rfl)) ?_
   exact ⟨_, rfl, ⟨fun h => by omega, fun h => absurd h (pos_all hno (by omega))⟩, hV⟩
theorem contende_calls {ao : Option Addr} {b off cap : Nat} {es : List Ende} {x : Ende} {w0 : World} (he : RowE w0 ao b off cap es) :
    Calls Tryz.prog 104 #[.slice ao es.length cap, (.agg (Enc.enc x).toArray)] w0 fun e w' => e = .returned (.bool (decide (x ∈ es))) ∧ Evo w0 w' [] := by
 refine calls_enter (n := 9) (args := [.slice ao es.length cap, (.agg (Enc.enc x).toArray)]) Tryz.func104 rfl Tryz.ntmps104 rfl ?_
 have hV : Evo w0 w0 [] := Evo.refl _ _
 have he0 := keepE he
 have hbd_he := he.bd
 refine r_seq ?_
 refine r_region ?_
 refine r_box (vs := [_, _]) (by exact rfl) (by exact rfl) rfl ?_
 intro b1 w2 heb1 hEw2 hbb1 hzb1
 have hs_w2 := (hEw2).size
 replace hV := evo_step0 hV hEw2
 replace he := he0 _ hV
 have hAb1 := hbb1.at
 refine r_op rfl rfl rfl (run_asg (v := .bool _) rfl (by exact rfl)) ?_
 refine r_nil ?_
 refine r_seq ?_
 refine r_region ?_
 refine r_op rfl rfl rfl (run_mv (v := .slice _ _ _) rfl (by exact rfl)) ?_
 refine r_op rfl rfl rfl (run_ldN rfl ag_107 ty_107 (by exact rfl) rfl hAb1) ?_
 refine r_opcall rfl rfl rfl (run_callf (vs := [.slice _ _ _, .agg _]) rfl (by exact rfl) Tryz.func126 rfl (by kernel_rfl)) (ixende_calls he) ?_
 rintro e w3 ⟨zx3, rfl, hzx3, hE3⟩
 refine ⟨_, rfl, ?_⟩
 have hs_w3 := (hE3).size
 replace hV := evo_step0 hV hE3
 replace he := he0 _ hV
 refine r_op rfl rfl rfl (run_geq rfl (by exact rfl) (by exact rfl)) ?_
 refine r_op rfl rfl rfl (run_asg (v := .bool _) rfl (by exact rfl)) ?_
 refine r_nil ?_
 refine r_ret (res1 (v := .bool _) rfl (by exact rfl)) ?_
 exact ⟨ret_bool (decide_eq_decide.2 hzx3), hV⟩
theorem ended_bad {b : List Ende} {p q : Str} (h : ¬ ((smallL p = true ∧ p.length ≤ 8) ∧ (smallL q = true ∧ q.length ≤ 8))) : endedL b ⟨p, q⟩ = 1 := if_neg h
theorem ended_dup {b : List Ende} {p q : Str} (h : (smallL p = true ∧ p.length ≤ 8) ∧ (smallL q = true ∧ q.length ≤ 8)) (h2 : (⟨p, q⟩ : Ende) ∈ b) : endedL b ⟨p, q⟩ = 5 := by unfold endedL; rw [if_pos h, if_pos h2]
theorem ended_ok {b : List Ende} {p q : Str} (h : (smallL p = true ∧ p.length ≤ 8) ∧ (smallL q = true ∧ q.length ≤ 8)) (h2 : ¬ (⟨p, q⟩ : Ende) ∈ b) : endedL b ⟨p, q⟩ = 0 := by unfold endedL; rw [if_pos h, if_neg h2]
theorem end_c1 {p q : Str} : ((8 : Int) < (p.length : Int) ∨ (8 : Int) < (q.length : Int) ∨ smallL p = false ∨ smallL q = false) ↔ ¬ ((smallL p = true ∧ p.length ≤ 8) ∧ (smallL q = true ∧ q.length ≤ 8)) := by
  by_cases h1 : smallL p = true <;> by_cases h2 : smallL q = true <;> simp [h1, h2] <;> omega
theorem end_n1 {p q : Str} (h : (((p.length : Int) ≤ 8 ∧ (q.length : Int) ≤ 8) ∧ smallL p = true) ∧ smallL q = true) : (smallL p = true ∧ p.length ≤ 8) ∧ (smallL q = true ∧ q.length ≤ 8) := ⟨⟨h.1.2, by omega⟩, h.2, by omega⟩
theorem end_n2 {p q : Str} (h : (smallL p = true ∧ p.length ≤ 8) ∧ smallL q = true ∧ q.length ≤ 8) : (smallL p = true ∧ p.length ≤ 8) ∧ (smallL q = true ∧ q.length ≤ 8) := h
theorem end_c2 {p q : Str} : ((smallL p = false ∨ 8 < p.length) ∨ smallL q = false ∨ 8 < q.length) ↔ ¬ ((smallL p = true ∧ p.length ≤ 8) ∧ (smallL q = true ∧ q.length ≤ 8)) := by
  by_cases h1 : smallL p = true <;> by_cases h2 : smallL q = true <;> simp [h1, h2] <;> omega
theorem ending_calls {ao : Option Addr} {b off cap : Nat} {es : List Ende} {p q : Str} {w0 : World} (he : RowE w0 ao b off cap es) (hp : p.length ≤ 140737488355328) (hq : q.length ≤ 140737488355328) :
    Calls Tryz.prog 83 #[.slice ao es.length cap, (.agg #[S p, S q])] w0 fun e w' => e = .returned (.int .i64 (endedL es ⟨p, q⟩)) ∧ Evo w0 w' [] := by
 refine calls_enter (n := 32) (args := [.slice ao es.length cap, (.agg #[S p, S q])]) Tryz.func83 rfl Tryz.ntmps83 rfl ?_
 have hV : Evo w0 w0 [] := Evo.refl _ _
 have he0 := keepE he
 have hbd_he := he.bd
 refine r_seq ?_
 refine r_region ?_
 refine r_box (vs := [_, _]) (by exact rfl) (by exact rfl) rfl ?_
 intro b1 w2 heb1 hEw2 hbb1 hzb1
 have hs_w2 := (hEw2).size
 replace hV := evo_step0 hV hEw2
 replace he := he0 _ hV
 have hAb1 := hbb1.at
 refine r_op rfl rfl rfl (run_asg (v := .int _ _) rfl (by exact rfl)) ?_
 refine r_nil ?_
 refine r_seq ?_
 refine r_block ?_
 refine r_seq ?_
 refine r_region ?_
 refine r_op rfl rfl rfl (run_fa rfl (by exact rfl) fo_107_0) ?_
 refine r_op rfl rfl rfl (run_ld1 rfl ag_9 (by exact rfl) (hAb1.cell 0 (by exact rfl))) ?_
 refine r_op rfl rfl rfl (run_lenS rfl (by exact rfl) Tryz.underlying9) ?_
 refine r_op rfl rfl rfl (run_gtr rfl (by exact rfl) (by exact rfl)) ?_
 refine r_op rfl rfl rfl (run_mv (v := .bool _) rfl (by exact rfl)) ?_
 refine r_g rfl (wantF (by exact rfl)) rfl (fun hg => run_fa rfl (by exact rfl) fo_107_1) ?_
 refine r_g rfl (wantF (by exact rfl)) rfl (fun hg => run_ld1 rfl ag_9 (glv (by exact rfl) (fun h => h) hg) (hAb1.cell 1 (by exact rfl))) ?_
 refine r_g rfl (wantF (by exact rfl)) rfl (fun hg => run_lenS rfl (glv (by exact rfl) (fun h => h) hg) Tryz.underlying9) ?_
 refine r_g rfl (wantF (by exact rfl)) rfl (fun hg => run_gtr rfl (glv (by exact rfl) (fun h => h) hg) (by exact rfl)) ?_
 refine r_op rfl rfl rfl (run_pick_or rfl (by exact rfl) rfl (fun hq => glv (by exact rfl) (fun h => h) hq)) ?_
 refine r_op rfl rfl rfl (run_mv (v := .bool _) rfl (by exact rfl)) ?_
 refine r_g rfl (wantF (by exact rfl)) rfl (fun hg => run_fa rfl (by exact rfl) fo_107_0) ?_
 refine r_g rfl (wantF (by exact rfl)) rfl (fun hg => run_ld1 rfl ag_9 (glv (by exact rfl) (fun h => h) hg) (hAb1.cell 0 (by exact rfl))) ?_
 refine r_gcall rfl (wantF (by exact rfl)) rfl (fun hg => run_callf rfl (argcons (v := S _) (glv (by exact rfl) (fun h => h) hg) (rfl)) Tryz.func103 rfl (by kernel_rfl)) (fun hg => (small_calls (by first | omega | (simp; omega))).mono (fun e w' h => ⟨h.1, h.2⟩)) (fun w3 hE4 => ?_)
 have hs_w3 := (hE4).size
 replace hV := evo_step0 hV hE4
 replace he := he0 _ hV
 replace hbb1 := hbb1.evo0 hE4
 replace hAb1 := hAb1.evo0 hE4
 refine r_g rfl (wantF (by exact rfl)) rfl (fun hg => run_notb rfl (glv (by exact rfl) (fun h => h) hg)) ?_
 refine r_op rfl rfl rfl (run_pick_orB rfl (by exact rfl) rfl (fun hq => glv (by exact rfl) (fun h => h) hq)) ?_
 refine r_op rfl rfl rfl (run_mv (v := .bool _) rfl (by exact rfl)) ?_
 refine r_g rfl (wantF (by exact rfl)) rfl (fun hg => run_fa rfl (by exact rfl) fo_107_1) ?_
 refine r_g rfl (wantF (by exact rfl)) rfl (fun hg => run_ld1 rfl ag_9 (glv (by exact rfl) (fun h => h) hg) (hAb1.cell 1 (by exact rfl))) ?_
 refine r_gcall rfl (wantF (by exact rfl)) rfl (fun hg => run_callf rfl (argcons (v := S _) (glv (by exact rfl) (fun h => h) hg) (rfl)) Tryz.func103 rfl (by kernel_rfl)) (fun hg => (small_calls (by first | omega | (simp; omega))).mono (fun e w' h => ⟨h.1, h.2⟩)) (fun w5 hE6 => ?_)
 have hs_w5 := (hE6).size
 replace hV := evo_step0 hV hE6
 replace he := he0 _ hV
 replace hbb1 := hbb1.evo0 hE6
 replace hAb1 := hAb1.evo0 hE6
 refine r_g rfl (wantF (by exact rfl)) rfl (fun hg => run_notb rfl (glv (by exact rfl) (fun h => h) hg)) ?_
 refine r_op rfl rfl rfl (run_pick_orB rfl (by exact rfl) rfl (fun hq => glv (by exact rfl) (fun h => h) hq)) ?_
 refine r_op rfl rfl rfl (run_asg (v := .bool _) rfl (by exact rfl)) ?_
 refine r_nil ?_
 refine r_cond (by exact rfl) (fun hc7 => ?_) (fun hc7 => ?_)
 ·skip
  refine r_seq ?_
  refine r_region ?_
  refine r_op rfl rfl rfl (run_asg (v := .int _ _) rfl (by exact rfl)) ?_
  refine r_nil ?_
  refine r_ret (res1 (v := .int _ _) rfl (by exact rfl)) ?_
  exact ⟨ret_int (by rw [ended_bad (end_c1.1 (by simpa [or_assoc] using hc7))]), hV⟩
 ·skip
  refine r_seq ?_
  refine r_region ?_
  refine r_op rfl rfl rfl (run_mv (v := .slice _ _ _) rfl (by exact rfl)) ?_
  refine r_op rfl rfl rfl (run_ldN rfl ag_107 ty_107 (by exact rfl) rfl hAb1) ?_
  refine r_opcall rfl rfl rfl (run_callf (vs := [.slice _ _ _, .agg _]) rfl (by exact rfl) Tryz.func104 rfl (by kernel_rfl)) (contende_calls (x := ⟨p, q⟩) he) ?_
  rintro e w8 ⟨rfl, hE8⟩
  refine ⟨_, rfl, ?_⟩
  have hs_w8 := (hE8).size
  replace hV := evo_step0 hV hE8
  replace he := he0 _ hV
  refine r_op rfl rfl rfl (run_asg (v := .bool _) rfl (by exact rfl)) ?_
  refine r_nil ?_
  refine r_condb (by exact rfl) (fun hc9 => ?_) (fun hc9 => ?_)
  ·skip
   refine r_seq ?_
   refine r_region ?_
   refine r_op rfl rfl rfl (run_asg (v := .int _ _) rfl (by exact rfl)) ?_
   refine r_nil ?_
   refine r_ret (res1 (v := .int _ _) rfl (by exact rfl)) ?_
   exact ⟨ret_int (by rw [ended_dup (end_n1 (by simpa using hc7)) (of_decide_eq_true hc9)]), hV⟩
  ·skip
   refine r_skip ?_
   refine r_blk ?_
   refine r_seq ?_
   refine r_region ?_
   refine r_op rfl rfl rfl (run_asg (v := .int _ _) rfl (by exact rfl)) ?_
   refine r_nil ?_
   refine r_ret (res1 (v := .int _ _) rfl (by exact rfl)) ?_
   exact ⟨ret_int (by rw [ended_ok (end_n1 (by simpa using hc7)) (of_decide_eq_false hc9)]), hV⟩
theorem rended_calls {ao : Option Addr} {b off cap : Nat} {es : List Ende} {p q : Str} {w0 : World} (he : RowE w0 ao b off cap es) (hp : p.length ≤ 140737488355328) (hq : q.length ≤ 140737488355328) :
    Calls Tryz.prog 86 #[.slice ao es.length cap, (.agg #[S p, S q])] w0 fun e w' => e = .returned (.int .i64 (endedL es ⟨p, q⟩)) ∧ Evo w0 w' [] := by
 refine calls_enter (n := 27) (args := [.slice ao es.length cap, (.agg #[S p, S q])]) Tryz.func86 rfl Tryz.ntmps86 rfl ?_
 have hV : Evo w0 w0 [] := Evo.refl _ _
 have he0 := keepE he
 have hbd_he := he.bd
 refine r_seq ?_
 refine r_region ?_
 refine r_box (vs := [_, _]) (by exact rfl) (by exact rfl) rfl ?_
 intro b1 w2 heb1 hEw2 hbb1 hzb1
 have hs_w2 := (hEw2).size
 replace hV := evo_step0 hV hEw2
 replace he := he0 _ hV
 have hAb1 := hbb1.at
 refine r_op rfl rfl rfl (run_asg (v := .int _ _) rfl (by exact rfl)) ?_
 refine r_nil ?_
 refine r_seq ?_
 refine r_seq ?_
 refine r_region ?_
 refine r_op rfl rfl rfl (run_fa rfl (by exact rfl) fo_107_0) ?_
 refine r_op rfl rfl rfl (run_ld1 rfl ag_9 (by exact rfl) (hAb1.cell 0 (by exact rfl))) ?_
 refine r_opcall rfl rfl rfl (run_callf (vs := [S _]) rfl (by exact rfl) Tryz.func108 rfl (by kernel_rfl)) (rsmall_calls (by first | omega | (simp; omega))) ?_
 rintro e w3 ⟨rfl, hE3⟩
 refine ⟨_, rfl, ?_⟩
 have hs_w3 := (hE3).size
 replace hV := evo_step0 hV hE3
 replace he := he0 _ hV
 replace hbb1 := hbb1.evo0 hE3
 replace hAb1 := hAb1.evo0 hE3
 refine r_op rfl rfl rfl (run_notb rfl (by exact rfl)) ?_
 refine r_op rfl rfl rfl (run_mvb rfl (by exact rfl)) ?_
 refine r_g rfl (wantF (by exact rfl)) rfl (fun hg => run_fa rfl (by exact rfl) fo_107_1) ?_
 refine r_g rfl (wantF (by exact rfl)) rfl (fun hg => run_ld1 rfl ag_9 (glv (by exact rfl) (fun h => h) hg) (hAb1.cell 1 (by exact rfl))) ?_
 refine r_gcall rfl (wantF (by exact rfl)) rfl (fun hg => run_callf rfl (argcons (v := S _) (glv (by exact rfl) (fun h => h) hg) (rfl)) Tryz.func108 rfl (by kernel_rfl)) (fun hg => (rsmall_calls (by first | omega | (simp; omega))).mono (fun e w' h => ⟨h.1, h.2⟩)) (fun w4 hE5 => ?_)
 have hs_w4 := (hE5).size
 replace hV := evo_step0 hV hE5
 replace he := he0 _ hV
 replace hbb1 := hbb1.evo0 hE5
 replace hAb1 := hAb1.evo0 hE5
 refine r_g rfl (wantF (by exact rfl)) rfl (fun hg => run_notb rfl (glv (by exact rfl) (fun h => h) hg)) ?_
 refine r_op rfl rfl rfl (run_pick_orB rfl (by exact rfl) rfl (fun hq => glv (by exact rfl) (fun h => h) hq)) ?_
 refine r_nil ?_
 refine r_cond (by exact rfl) (fun hc6 => ?_) (fun hc6 => ?_)
 ·skip
  refine r_seq ?_
  refine r_region ?_
  refine r_op rfl rfl rfl (run_asg (v := .int _ _) rfl (by exact rfl)) ?_
  refine r_nil ?_
  refine r_ret (res1 (v := .int _ _) rfl (by exact rfl)) ?_
  exact ⟨ret_int (by rw [ended_bad (end_c2.1 (by simpa using hc6))]), hV⟩
 ·skip
  refine r_skip ?_
  refine r_seq ?_
  refine r_seq ?_
  refine r_region ?_
  refine r_op rfl rfl rfl (run_mv (v := .slice _ _ _) rfl (by exact rfl)) ?_
  refine r_op rfl rfl rfl (run_lenSl rfl (by exact rfl) Tryz.underlying68) ?_
  refine r_op rfl rfl rfl (run_mv (v := .int _ _) rfl (by exact rfl)) ?_
  refine r_nil ?_
  refine r_block ?_
  refine r_loop (α := Nat) [4, 6, 19, 20, 21, 22, 23, 24, 25, 26] (fun k g w => g 19 = .int .i64 (k : Nat) ∧ k ≤ es.length ∧ Blk w b1 107 (Enc.enc (⟨p, q⟩ : Ende)) ∧ At w b1 0 (Enc.enc (⟨p, q⟩ : Ende)) ∧ (∀ j, j < k → ¬ (⟨p, q⟩ : Ende) = es.getD j default) ∧ w4.heap.size ≤ w.heap.size ∧ Evo w0 w []) (fun k => es.length - k) 0 ?_ ?_
  ·refine ⟨(by first | exact rfl | exact congrArg (Value.int _) (by omega) | exact congrArg (Value.int _) (by dsimp only; omega) | exact congrArg (Value.int _) (by simp) | exact congrArg S (by simp)), (by first | assumption | omega | (dsimp only; omega) | (simp; done)), hbb1, hAb1, (fun j h => by omega), (by first | assumption | omega | (dsimp only; omega) | (simp; done)), hV⟩
  ·rintro k g w8 ⟨hj9, hk_k, hbb1, hAb1, hno, hzl7, hV⟩
   have hs_w8hV := hV.size
   have hlt10 := hbb1.lt
   replace he := he0 _ hV
   refine r_know (i := 19) (v := .int .i64 (k : Nat)) (by exact hj9) ?_
   refine r_seq ?_
   refine r_region ?_
   refine r_op rfl rfl rfl (run_lss rfl (by exact rfl) (by exact rfl)) ?_
   refine r_nil ?_
   refine r_seq ?_
   refine r_cond (by exact rfl) (fun hc11 => ?_) (fun hc11 => ?_)
   ·skip
    refine r_skip ?_
    refine r_seq ?_
    refine r_block ?_
    refine r_seq ?_
    refine r_region ?_
    refine r_op rfl rfl rfl (run_ix (k) rfl Tryz.underlying68 ty_107 (by exact rfl) (by exact rfl) (by first | exact rfl | omega) (by omega) (he.addr (i := k) (by omega))) ?_
    have hA120 := fun (w' : World) (h : Evo w0 w' []) => (he0 w' h).atD (k) (by omega)
    have hA12 := hA120 _ hV
    refine r_op rfl rfl rfl (run_ldN rfl ag_107 ty_107 (by exact rfl) rfl hA12) ?_
    refine r_var (zs := [_, _]) (vs := [_, _]) ty_107 (by exact rfl) rfl (by exact rfl) (fun _ => rfl) (by exact rfl) rfl rfl (by exact rfl) ?_
    intro b13 w14 heb13 hEw14 hbb13 hzb13
    have hs_w14 := (hEw14).size
    replace hV := evo_step0 hV hEw14
    replace he := he0 _ hV
    replace hbb1 := hbb1.evo0 hEw14
    replace hAb1 := hAb1.evo0 hEw14
    have hAb13 := hbb13.at
    refine r_nil ?_
    refine r_seq ?_
    refine r_region ?_
    refine r_op rfl rfl rfl (run_ldN rfl ag_107 ty_107 (by exact rfl) rfl hAb1) ?_
    refine r_op rfl rfl rfl (run_ldN rfl ag_107 ty_107 (by exact rfl) rfl hAb13) ?_
    refine r_op rfl rfl rfl (run_eqlG (α := Ende) _ _ rfl Tryz.eqGuardType107 ee_107 (by exact rfl) (by exact rfl)) ?_
    refine r_nil ?_
    refine r_cond (by exact rfl) (fun hc15 => ?_) (fun hc15 => ?_)
    ·skip
     refine r_seq ?_
     refine r_region ?_
     refine r_op rfl rfl rfl (run_asg (v := .int _ _) rfl (by exact rfl)) ?_
     refine r_nil ?_
     refine r_ret (res1 (v := .int _ _) rfl (by exact rfl)) ?_
     exact ⟨ret_int (by rw [ended_dup (end_n2 (by simpa using hc6)) (pos_at (by omega) hc15)]), hV⟩
    ·skip
     refine r_skip ?_
     refine r_blk ?_
     refine r_region ?_
     refine r_op rfl rfl rfl (run_add rfl (by exact rfl) (by exact rfl) (by omega) (by omega)) ?_
     refine r_op rfl rfl rfl (run_mv (v := .int _ _) rfl (by exact rfl)) ?_
     refine r_nil ?_
     refine r_again (k + 1) ?_ ?_ ?_
     ·first | omega | (dsimp only; omega)
     ·refine ⟨(by first | exact rfl | exact congrArg (Value.int _) (by omega) | exact congrArg (Value.int _) (by dsimp only; omega) | exact congrArg (Value.int _) (by simp) | exact congrArg S (by simp)), (by first | assumption | omega | (dsimp only; omega) | (simp; done)), hbb1, hAb1, (upto0 hno hc15), (by first | assumption | omega | (dsimp only; omega) | (simp; done)), hV⟩
     ·repeat (first | (with_reducible exact Agree.merge _ _ _) | (with_reducible exact Agree.refl _ _) | (with_reducible refine Agree.upd ?_ _ _ rfl) | ((with_reducible refine Agree.inner ?_ ?_); (kernel_rfl)))
   ·skip
    refine r_exit rfl ?_
    refine r_seq ?_
    refine r_region ?_
    refine r_op rfl rfl rfl (run_asg (v := .int _ _) rfl (by exact rfl)) ?_
    refine r_nil ?_
    refine r_ret (res1 (v := .int _ _) rfl (by exact rfl)) ?_
    exact ⟨ret_int (by rw [ended_ok (end_n2 (by simpa using hc6)) (pos_all hno (by omega))]), hV⟩
end Go.Proofs.YtkklomiipkipnaaGreatDoor
namespace Go.Proofs.YtkklomiipkipnaaGreatDoor
open Go.RowKit Go.Vc
theorem validate_calls {ao : Option Addr} {b off cap : Nat} {c : List Clas} {w0 : World} (hc : RowR w0 ao b off cap c) :
    Calls Tryz.prog 54 #[.slice ao c.length cap] w0 fun e w' => e = .returned (.int .i64 (validC c)) ∧ Evo w0 w' [] := by
 have hcb := clas_bd hc
 refine calls_enter (n := 51) (args := [.slice ao c.length cap]) Tryz.func54 rfl Tryz.ntmps54 rfl ?_
 have hV : Evo w0 w0 [] := Evo.refl _ _
 have hc0 := hc.keep
 have hbd_hc := hc.bd
 refine r_seq ?_
 refine r_region ?_
 refine r_op rfl rfl rfl (run_asg (v := .int _ _) rfl (by exact rfl)) ?_
 refine r_nil ?_
 refine r_seq ?_
 refine r_seq ?_
 refine r_region ?_
 refine r_op rfl rfl rfl (run_mv (v := .slice _ _ _) rfl (by exact rfl)) ?_
 refine r_op rfl rfl rfl (run_lenSl rfl (by exact rfl) Tryz.underlying23) ?_
 refine r_op rfl rfl rfl (run_gtr rfl (by exact rfl) (by exact rfl)) ?_
 refine r_nil ?_
 refine r_cond (by exact rfl) (fun hc1 => ?_) (fun hc1 => ?_)
 ·skip
  refine r_seq ?_
  refine r_region ?_
  refine r_op rfl rfl rfl (run_asg (v := .int _ _) rfl (by exact rfl)) ?_
  refine r_nil ?_
  refine r_ret (res1 (v := .int _ _) rfl (by exact rfl)) ?_
  exact ⟨ret_int (by unfold validC; rw [if_pos (by omega)]), hV⟩
 ·skip
  refine r_skip ?_
  refine r_seq ?_
  refine r_seq ?_
  refine r_region ?_
  refine r_op rfl rfl rfl (run_mv (v := .slice _ _ _) rfl (by exact rfl)) ?_
  refine r_op rfl rfl rfl (run_lenSl rfl (by exact rfl) Tryz.underlying23) ?_
  refine r_op rfl rfl rfl (run_mv (v := .int _ _) rfl (by exact rfl)) ?_
  refine r_nil ?_
  refine r_block ?_
  refine r_loop (α := Nat) [2, 3, 4, 5, 6, 7, 8, 14, 15, 16, 17, 18, 19, 20, 21, 22, 23, 24, 25, 26, 27, 28, 29, 30, 31, 32, 33, 34, 35, 36, 37, 38, 39, 40, 41, 42, 43, 44, 45, 46, 47, 48, 49, 50] (fun i g w => g 14 = .int .i64 (i : Nat) ∧ i ≤ c.length ∧ (∀ j, j < i → classErr c j = 0) ∧ w0.heap.size ≤ w.heap.size ∧ Evo w0 w []) (fun i => c.length - i) 0 ?_ ?_
  ·refine ⟨(by first | exact rfl | exact congrArg (Value.int _) (by omega) | exact congrArg (Value.int _) (by dsimp only; omega) | exact congrArg (Value.int _) (by simp) | exact congrArg S (by simp)), (by first | assumption | omega | (dsimp only; omega) | (simp; done)), (fun j h => by omega), (by first | assumption | omega | (dsimp only; omega) | (simp; done)), hV⟩
  ·rintro i g w3 ⟨hj4, hk_i, hno, hzl2, hV⟩
   have hs_w3hV := hV.size
   replace hc := hc0.now hV
   refine r_know (i := 14) (v := .int .i64 (i : Nat)) (by exact hj4) ?_
   refine r_seq ?_
   refine r_region ?_
   refine r_op rfl rfl rfl (run_lss rfl (by exact rfl) (by exact rfl)) ?_
   refine r_nil ?_
   refine r_seq ?_
   refine r_cond (by exact rfl) (fun hc5 => ?_) (fun hc5 => ?_)
   ·skip
    refine r_skip ?_
    refine r_seq ?_
    refine r_block ?_
    refine r_seq ?_
    refine r_region ?_
    refine r_op rfl rfl rfl (run_mv (v := .int _ _) rfl (by exact rfl)) ?_
    refine r_op rfl rfl rfl (run_ix (i) rfl Tryz.underlying23 ty_70 (by exact rfl) (by exact rfl) (by first | exact rfl | omega) (by omega) (hc.addr (i := i) (by omega))) ?_
    obtain ⟨ao6, b6, off6, cap6, hX⟩ := clas_atK hc0 (i) (by omega)
    have hA60 := fun (w' : World) (h : Evo w0 w' []) => (hX w' h).1
    have hA6 := hA60 _ hV
    have hR60 := fun (w' : World) (h : Evo w0 w' []) => (hX w' h).2
    have hR6 := hR60 _ hV
    clear hX
    have hbd_hR6 := hR6.bd
    refine r_op rfl rfl rfl (run_ldN rfl ag_70 ty_70 (by exact rfl) rfl hA6) ?_
    refine r_alloc (zs := [_, _]) ty_70 (by exact rfl) rfl ?_
    intro b7 w8 heb7 hEw8 hbb7 hzb7
    have hs_w8 := (hEw8).size
    replace hV := evo_step0 hV hEw8
    replace hc := hc0.now hV
    replace hA6 := hA60 _ hV
    replace hR6 := hR60 _ hV
    have hAb7 := hbb7.at
    refine r_op rfl rfl rfl (run_asg (v := .int _ _) rfl (by exact rfl)) ?_
    refine r_store (v := .agg _) (vs := [_, _]) (cs' := [_, _]) (by exact rfl) (by exact rfl) hbb7 ty_70 (by exact rfl) rfl (by exact rfl) rfl (by exact rfl) ?_
    intro w9 hEw9 hzw9 hb_new
    have hs_w9 := (hEw9).size
    replace hV := evo_step1 hV hEw9 (by first | exact .inl (by omega) | exact .inr (by simp))
    replace hc := hc0.now hV
    replace hR6 := hR60 _ hV
    replace hbb7 := hb_new
    have hAb7 := hbb7.at
    clear hb_new
    refine r_nil ?_
    refine r_seq ?_
    refine r_seq ?_
    refine r_qregion (by kernel_rfl) (by kernel_rfl) ?_
    refine q_op rfl rfl rfl (fun w' hC => run_mv (v := .slice _ _ _) rfl (by exact rfl)) ?_
    refine q_op rfl rfl rfl (fun w' hC => run_mv (v := .int _ _) rfl (by exact rfl)) ?_
    refine q_op rfl rfl rfl (fun w' hC => run_slR (0) (i) rfl Tryz.underlying23 ty_70 (by exact rfl) (hc.evo0 hC) lo0 (at1 (by exact rfl) (by omega)) (by first | omega | (simp; omega)) (by first | omega | (simp; omega)) List.drop_zero) ?_
    have hS100 := (by have h9 := (hc0.take (i)).drop (0); rw [List.drop_zero] at h9; exact h9)
    have hS10 := (by have h9 := (hc.take (i)).drop (0); rw [List.drop_zero] at h9; exact h9)
    have hbd_hS10 := hS10.bd
    refine q_op rfl rfl rfl (fun w' hC => run_fa rfl (by exact rfl) fo_70_0) ?_
    refine q_op rfl rfl rfl (fun w' hC => run_ld1 rfl ag_9 (by exact rfl) ((hAb7.evo0 hC).cell 0 (by exact rfl))) ?_
    refine q_call rfl rfl rfl (fun w' hC => run_callf rfl (argcons (v := .slice _ _ _) (by exact rfl) (argcons (v := S _) (by exact rfl) (rfl))) Tryz.func82 rfl (by kernel_rfl)) (fun w' hC => (named_calls (hS10.evo0 hC)).mono (fun e w'' h => ⟨h.1, evo_step0 hC h.2⟩)) ?_
    refine q_op rfl rfl rfl (fun w' hC => run_asg (v := .int _ _) rfl (by exact rfl)) ?_
    refine q_nil (fun w11 hE12 => ?_)
    have hs_w11 := (hE12).size
    replace hV := evo_step0 hV hE12
    replace hc := hc0.now hV
    replace hR6 := hR60 _ hV
    replace hbb7 := hbb7.evo0 hE12
    replace hAb7 := hAb7.evo0 hE12
    refine r_seq ?_
    refine r_region ?_
    refine r_op rfl rfl rfl (run_mv (v := .int _ _) rfl (by exact rfl)) ?_
    refine r_op rfl rfl rfl (run_neq rfl (by exact rfl) (by exact rfl)) ?_
    refine r_nil ?_
    refine r_cond (by exact rfl) (fun hc13 => ?_) (fun hc13 => ?_)
    ·skip
     refine r_seq ?_
     refine r_region ?_
     refine r_op rfl rfl rfl (run_mv (v := .int _ _) rfl (by exact rfl)) ?_
     refine r_op rfl rfl rfl (run_asg (v := .int _ _) rfl (by exact rfl)) ?_
     refine r_nil ?_
     refine r_ret (res1 (v := .int _ _) rfl (by exact rfl)) ?_
     exact ⟨ret_int (by rw [valid_at (by omega) hno (cls_named hc13) hc13 (by omega)]), hV⟩
    ·skip
     refine r_skip ?_
     refine r_seq ?_
     refine r_seq ?_
     refine r_region ?_
     refine r_op rfl rfl rfl (run_fa rfl (by exact rfl) fo_70_1) ?_
     refine r_op rfl rfl rfl (run_ld1 rfl ag_68 (by exact rfl) (hAb7.cell 1 (by exact rfl))) ?_
     refine r_op rfl rfl rfl (run_lenSl rfl (by exact rfl) Tryz.underlying68) ?_
     refine r_op rfl rfl rfl (run_gtr rfl (by exact rfl) (by exact rfl)) ?_
     refine r_nil ?_
     refine r_cond (by exact rfl) (fun hc14 => ?_) (fun hc14 => ?_)
     ·skip
      refine r_seq ?_
      refine r_region ?_
      refine r_op rfl rfl rfl (run_asg (v := .int _ _) rfl (by exact rfl)) ?_
      refine r_nil ?_
      refine r_ret (res1 (v := .int _ _) rfl (by exact rfl)) ?_
      exact ⟨ret_int (by rw [valid_at (by omega) hno (cls_many (Classical.not_not.1 (by assumption)) (by omega)) (by decide) (by omega)]), hV⟩
     ·skip
      refine r_skip ?_
      refine r_seq ?_
      refine r_region ?_
      refine r_op rfl rfl rfl (run_fa rfl (by exact rfl) fo_70_1) ?_
      refine r_op rfl rfl rfl (run_ld1 rfl ag_68 (by exact rfl) (hAb7.cell 1 (by exact rfl))) ?_
      refine r_op rfl rfl rfl (run_lenSl rfl (by exact rfl) Tryz.underlying68) ?_
      refine r_op rfl rfl rfl (run_mv (v := .int _ _) rfl (by exact rfl)) ?_
      refine r_nil ?_
      refine r_block ?_
      refine r_loop (α := Nat) [2, 6, 7, 8, 35, 36, 37, 38, 39, 40, 41, 42, 43, 44, 45, 46, 47, 48, 49] (fun k g w => g 35 = .int .i64 (k : Nat) ∧ k ≤ (c.getD i default).ends.length ∧ At w b7 0 [S (c.getD i default).name, .slice ao6 (c.getD i default).ends.length cap6] ∧ (∀ j, j < k → endedL ((c.getD i default).ends.take j) ((c.getD i default).ends.getD j default) = 0) ∧ w11.heap.size ≤ w.heap.size ∧ Evo w0 w []) (fun k => (c.getD i default).ends.length - k) 0 ?_ ?_
      ·refine ⟨(by first | exact rfl | exact congrArg (Value.int _) (by omega) | exact congrArg (Value.int _) (by dsimp only; omega) | exact congrArg (Value.int _) (by simp) | exact congrArg S (by simp)), (by first | assumption | omega | (dsimp only; omega) | (simp; done)), hAb7, (fun j h => by omega), (by first | assumption | omega | (dsimp only; omega) | (simp; done)), hV⟩
      ·rintro k g w16 ⟨hj17, hk_k, hAb7, hnk, hzl15, hV⟩
       have hs_w16hV := hV.size
       replace hc := hc0.now hV
       replace hA6 := hA60 _ hV
       replace hR6 := hR60 _ hV
       replace hS10 := hS100.now hV
       refine r_know (i := 35) (v := .int .i64 (k : Nat)) (by exact hj17) ?_
       have hbx := hcb _ (getD_in (show i < c.length by omega))
       refine r_seq ?_
       refine r_region ?_
       refine r_op rfl rfl rfl (run_lss rfl (by exact rfl) (by exact rfl)) ?_
       refine r_nil ?_
       refine r_seq ?_
       refine r_cond (by exact rfl) (fun hc18 => ?_) (fun hc18 => ?_)
       ·skip
        refine r_skip ?_
        refine r_seq ?_
        refine r_block ?_
        refine r_seq ?_
        refine r_region ?_
        refine r_op rfl rfl rfl (run_mv (v := .int _ _) rfl (by exact rfl)) ?_
        refine r_op rfl rfl rfl (run_ix (k) rfl Tryz.underlying68 ty_107 (by exact rfl) (by exact rfl) (by first | exact rfl | omega) (by omega) (hR6.addr (i := k) (by omega))) ?_
        have hA190 := fun (w' : World) (h : Evo w0 w' []) => (hR60 w' h).atD (k) (by omega)
        have hA19 := hA190 _ hV
        refine r_op rfl rfl rfl (run_ldN rfl ag_107 ty_107 (by exact rfl) rfl hA19) ?_
        refine r_alloc (zs := [_, _]) ty_107 (by exact rfl) rfl ?_
        intro b20 w21 heb20 hEw21 hbb20 hzb20
        have hs_w21 := (hEw21).size
        replace hV := evo_step0 hV hEw21
        replace hc := hc0.now hV
        replace hR6 := hR60 _ hV
        replace hAb7 := hAb7.evo0 hEw21
        replace hA19 := hA190 _ hV
        have hAb20 := hbb20.at
        refine r_op rfl rfl rfl (run_asg (v := .int _ _) rfl (by exact rfl)) ?_
        refine r_store (v := .agg _) (vs := [_, _]) (cs' := [_, _]) (by exact rfl) (by exact rfl) hbb20 ty_107 (by exact rfl) rfl (by exact rfl) rfl (by exact rfl) ?_
        intro w22 hEw22 hzw22 hb_new
        have hs_w22 := (hEw22).size
        replace hV := evo_step1 hV hEw22 (by first | exact .inl (by omega) | exact .inr (by simp))
        replace hc := hc0.now hV
        replace hR6 := hR60 _ hV
        replace hAb7 := hAb7.evo hEw22 (by simp; omega)
        replace hbb20 := hb_new
        have hAb20 := hbb20.at
        clear hb_new
        refine r_nil ?_
        refine r_seq ?_
        have hbk := hbx.2.1 _ (getD_in (show k < (c.getD i default).ends.length by omega))
        refine r_qregion (by kernel_rfl) (by kernel_rfl) ?_
        refine q_op rfl rfl rfl (fun w' hC => run_fa rfl (by exact rfl) fo_70_1) ?_
        refine q_op rfl rfl rfl (fun w' hC => run_ld1 rfl ag_68 (by exact rfl) ((hAb7.evo0 hC).cell 1 (by exact rfl))) ?_
        refine q_op rfl rfl rfl (fun w' hC => run_mv (v := .int _ _) rfl (by exact rfl)) ?_
        refine q_op rfl rfl rfl (fun w' hC => run_slE (0) (k) rfl Tryz.underlying68 ty_107 (by exact rfl) (hR6.evo0 hC) lo0 (at1 (by exact rfl) (by omega)) (by first | omega | (simp; omega)) (by first | omega | (simp; omega)) List.drop_zero) ?_
        have hS230 := fun (w' : World) (h : Evo w0 w' []) => (by have h9 := ((hR60 w' h).take (k)).drop (0); rw [List.drop_zero] at h9; exact h9)
        have hS23 := (by have h9 := (hR6.take (k)).drop (0); rw [List.drop_zero] at h9; exact h9)
        have hbd_hS23 := hS23.bd
        refine q_op rfl rfl rfl (fun w' hC => run_ldN rfl ag_107 ty_107 (by exact rfl) rfl (hAb20.evo0 hC)) ?_
        refine q_call rfl rfl rfl (fun w' hC => run_callf rfl (argcons (v := .slice _ _ _) (by exact rfl) (argcons (v := .agg _) (by exact rfl) (rfl))) Tryz.func83 rfl (by kernel_rfl)) (fun w' hC => (ending_calls (hS23.evo0 hC) (Nat.le_trans hbk.1 (by decide)) (Nat.le_trans hbk.2 (by decide))).mono (fun e w'' h => ⟨h.1, evo_step0 hC h.2⟩)) ?_
        refine q_op rfl rfl rfl (fun w' hC => run_asg (v := .int _ _) rfl (by exact rfl)) ?_
        refine q_nil (fun w24 hE25 => ?_)
        have hs_w24 := (hE25).size
        replace hV := evo_step0 hV hE25
        replace hc := hc0.now hV
        replace hR6 := hR60 _ hV
        replace hAb7 := hAb7.evo0 hE25
        refine r_seq ?_
        refine r_region ?_
        refine r_op rfl rfl rfl (run_mv (v := .int _ _) rfl (by exact rfl)) ?_
        refine r_op rfl rfl rfl (run_neq rfl (by exact rfl) (by exact rfl)) ?_
        refine r_nil ?_
        refine r_cond (by exact rfl) (fun hc26 => ?_) (fun hc26 => ?_)
        ·skip
         refine r_seq ?_
         refine r_region ?_
         refine r_op rfl rfl rfl (run_mv (v := .int _ _) rfl (by exact rfl)) ?_
         refine r_op rfl rfl rfl (run_asg (v := .int _ _) rfl (by exact rfl)) ?_
         refine r_nil ?_
         refine r_ret (res1 (v := .int _ _) rfl (by exact rfl)) ?_
         exact ⟨ret_int (by rw [valid_at (by omega) hno ((cls_ends (Classical.not_not.1 (by assumption)) (by omega)).trans (ends_err hnk hc26 (by omega))) hc26 (by omega)]), hV⟩
        ·skip
         refine r_skip ?_
         refine r_blk ?_
         refine r_region ?_
         refine r_op rfl rfl rfl (run_add rfl (by exact rfl) (by exact rfl) (by omega) (by omega)) ?_
         refine r_op rfl rfl rfl (run_mv (v := .int _ _) rfl (by exact rfl)) ?_
         refine r_nil ?_
         refine r_again (k + 1) ?_ ?_ ?_
         ·first | omega | (dsimp only; omega)
         ·refine ⟨(by first | exact rfl | exact congrArg (Value.int _) (by omega) | exact congrArg (Value.int _) (by dsimp only; omega) | exact congrArg (Value.int _) (by simp) | exact congrArg S (by simp)), (by first | assumption | omega | (dsimp only; omega) | (simp; done)), hAb7, (upto0 hnk (Classical.not_not.1 hc26)), (by first | assumption | omega | (dsimp only; omega) | (simp; done)), hV⟩
         ·repeat (first | (with_reducible exact Agree.merge _ _ _) | (with_reducible exact Agree.refl _ _) | (with_reducible refine Agree.upd ?_ _ _ rfl) | ((with_reducible refine Agree.inner ?_ ?_); (kernel_rfl)))
       ·skip
        refine r_exit rfl ?_
        refine r_blk ?_
        refine r_region ?_
        refine r_op rfl rfl rfl (run_add rfl (by exact rfl) (by exact rfl) (by omega) (by omega)) ?_
        refine r_op rfl rfl rfl (run_mv (v := .int _ _) rfl (by exact rfl)) ?_
        refine r_nil ?_
        refine r_again (i + 1) ?_ ?_ ?_
        ·first | omega | (dsimp only; omega)
        ·refine ⟨(by first | exact rfl | exact congrArg (Value.int _) (by omega) | exact congrArg (Value.int _) (by dsimp only; omega) | exact congrArg (Value.int _) (by simp) | exact congrArg S (by simp)), (by first | assumption | omega | (dsimp only; omega) | (simp; done)), (upto0 hno ((cls_ends (Classical.not_not.1 (by assumption)) (by omega)).trans (ends_ok hnk (by omega)))), (by first | assumption | omega | (dsimp only; omega) | (simp; done)), hV⟩
        ·repeat (first | (with_reducible exact Agree.merge _ _ _) | (with_reducible exact Agree.refl _ _) | (with_reducible refine Agree.upd ?_ _ _ rfl) | ((with_reducible refine Agree.inner ?_ ?_); (kernel_rfl)))
   ·skip
    refine r_exit rfl ?_
    refine r_seq ?_
    refine r_region ?_
    refine r_op rfl rfl rfl (run_asg (v := .int _ _) rfl (by exact rfl)) ?_
    refine r_nil ?_
    refine r_ret (res1 (v := .int _ _) rfl (by exact rfl)) ?_
    exact ⟨ret_int (by rw [valid_ok (by omega) hno (by omega)]), hV⟩
theorem rvalidate_calls {ao : Option Addr} {b off cap : Nat} {c : List Clas} {w0 : World} (hc : RowR w0 ao b off cap c) :
    Calls Tryz.prog 56 #[.slice ao c.length cap] w0 fun e w' => e = .returned (.int .i64 (validC c)) ∧ Evo w0 w' [] := by
 have hcb := clas_bd hc
 refine calls_enter (n := 51) (args := [.slice ao c.length cap]) Tryz.func56 rfl Tryz.ntmps56 rfl ?_
 have hV : Evo w0 w0 [] := Evo.refl _ _
 have hc0 := hc.keep
 have hbd_hc := hc.bd
 refine r_seq ?_
 refine r_region ?_
 refine r_op rfl rfl rfl (run_asg (v := .int _ _) rfl (by exact rfl)) ?_
 refine r_nil ?_
 refine r_seq ?_
 refine r_seq ?_
 refine r_region ?_
 refine r_op rfl rfl rfl (run_mv (v := .slice _ _ _) rfl (by exact rfl)) ?_
 refine r_op rfl rfl rfl (run_lenSl rfl (by exact rfl) Tryz.underlying23) ?_
 refine r_op rfl rfl rfl (run_gtr rfl (by exact rfl) (by exact rfl)) ?_
 refine r_nil ?_
 refine r_cond (by exact rfl) (fun hc1 => ?_) (fun hc1 => ?_)
 ·skip
  refine r_seq ?_
  refine r_region ?_
  refine r_op rfl rfl rfl (run_asg (v := .int _ _) rfl (by exact rfl)) ?_
  refine r_nil ?_
  refine r_ret (res1 (v := .int _ _) rfl (by exact rfl)) ?_
  exact ⟨ret_int (by unfold validC; rw [if_pos (by omega)]), hV⟩
 ·skip
  refine r_skip ?_
  refine r_seq ?_
  refine r_seq ?_
  refine r_region ?_
  refine r_op rfl rfl rfl (run_mv (v := .slice _ _ _) rfl (by exact rfl)) ?_
  refine r_op rfl rfl rfl (run_lenSl rfl (by exact rfl) Tryz.underlying23) ?_
  refine r_op rfl rfl rfl (run_mv (v := .int _ _) rfl (by exact rfl)) ?_
  refine r_nil ?_
  refine r_block ?_
  refine r_loop (α := Nat) [2, 3, 4, 5, 6, 7, 8, 14, 15, 16, 17, 18, 19, 20, 21, 22, 23, 24, 25, 26, 27, 28, 29, 30, 31, 32, 33, 34, 35, 36, 37, 38, 39, 40, 41, 42, 43, 44, 45, 46, 47, 48, 49, 50] (fun i g w => g 14 = .int .i64 (i : Nat) ∧ i ≤ c.length ∧ (∀ j, j < i → classErr c j = 0) ∧ w0.heap.size ≤ w.heap.size ∧ Evo w0 w []) (fun i => c.length - i) 0 ?_ ?_
  ·refine ⟨(by first | exact rfl | exact congrArg (Value.int _) (by omega) | exact congrArg (Value.int _) (by dsimp only; omega) | exact congrArg (Value.int _) (by simp) | exact congrArg S (by simp)), (by first | assumption | omega | (dsimp only; omega) | (simp; done)), (fun j h => by omega), (by first | assumption | omega | (dsimp only; omega) | (simp; done)), hV⟩
  ·rintro i g w3 ⟨hj4, hk_i, hno, hzl2, hV⟩
   have hs_w3hV := hV.size
   replace hc := hc0.now hV
   refine r_know (i := 14) (v := .int .i64 (i : Nat)) (by exact hj4) ?_
   refine r_seq ?_
   refine r_region ?_
   refine r_op rfl rfl rfl (run_lss rfl (by exact rfl) (by exact rfl)) ?_
   refine r_nil ?_
   refine r_seq ?_
   refine r_cond (by exact rfl) (fun hc5 => ?_) (fun hc5 => ?_)
   ·skip
    refine r_skip ?_
    refine r_seq ?_
    refine r_block ?_
    refine r_seq ?_
    refine r_region ?_
    refine r_op rfl rfl rfl (run_mv (v := .int _ _) rfl (by exact rfl)) ?_
    refine r_op rfl rfl rfl (run_ix (i) rfl Tryz.underlying23 ty_70 (by exact rfl) (by exact rfl) (by first | exact rfl | omega) (by omega) (hc.addr (i := i) (by omega))) ?_
    obtain ⟨ao6, b6, off6, cap6, hX⟩ := clas_atK hc0 (i) (by omega)
    have hA60 := fun (w' : World) (h : Evo w0 w' []) => (hX w' h).1
    have hA6 := hA60 _ hV
    have hR60 := fun (w' : World) (h : Evo w0 w' []) => (hX w' h).2
    have hR6 := hR60 _ hV
    clear hX
    have hbd_hR6 := hR6.bd
    refine r_op rfl rfl rfl (run_ldN rfl ag_70 ty_70 (by exact rfl) rfl hA6) ?_
    refine r_alloc (zs := [_, _]) ty_70 (by exact rfl) rfl ?_
    intro b7 w8 heb7 hEw8 hbb7 hzb7
    have hs_w8 := (hEw8).size
    replace hV := evo_step0 hV hEw8
    replace hc := hc0.now hV
    replace hA6 := hA60 _ hV
    replace hR6 := hR60 _ hV
    have hAb7 := hbb7.at
    refine r_op rfl rfl rfl (run_asg (v := .int _ _) rfl (by exact rfl)) ?_
    refine r_store (v := .agg _) (vs := [_, _]) (cs' := [_, _]) (by exact rfl) (by exact rfl) hbb7 ty_70 (by exact rfl) rfl (by exact rfl) rfl (by exact rfl) ?_
    intro w9 hEw9 hzw9 hb_new
    have hs_w9 := (hEw9).size
    replace hV := evo_step1 hV hEw9 (by first | exact .inl (by omega) | exact .inr (by simp))
    replace hc := hc0.now hV
    replace hR6 := hR60 _ hV
    replace hbb7 := hb_new
    have hAb7 := hbb7.at
    clear hb_new
    refine r_nil ?_
    refine r_seq ?_
    refine r_seq ?_
    refine r_qregion (by kernel_rfl) (by kernel_rfl) ?_
    refine q_op rfl rfl rfl (fun w' hC => run_mv (v := .slice _ _ _) rfl (by exact rfl)) ?_
    refine q_op rfl rfl rfl (fun w' hC => run_mv (v := .int _ _) rfl (by exact rfl)) ?_
    refine q_op rfl rfl rfl (fun w' hC => run_slR (0) (i) rfl Tryz.underlying23 ty_70 (by exact rfl) (hc.evo0 hC) lo0 (at1 (by exact rfl) (by omega)) (by first | omega | (simp; omega)) (by first | omega | (simp; omega)) List.drop_zero) ?_
    have hS100 := (by have h9 := (hc0.take (i)).drop (0); rw [List.drop_zero] at h9; exact h9)
    have hS10 := (by have h9 := (hc.take (i)).drop (0); rw [List.drop_zero] at h9; exact h9)
    have hbd_hS10 := hS10.bd
    refine q_op rfl rfl rfl (fun w' hC => run_fa rfl (by exact rfl) fo_70_0) ?_
    refine q_op rfl rfl rfl (fun w' hC => run_ld1 rfl ag_9 (by exact rfl) ((hAb7.evo0 hC).cell 0 (by exact rfl))) ?_
    refine q_call rfl rfl rfl (fun w' hC => run_callf rfl (argcons (v := .slice _ _ _) (by exact rfl) (argcons (v := S _) (by exact rfl) (rfl))) Tryz.func85 rfl (by kernel_rfl)) (fun w' hC => (rnamed_calls (hS10.evo0 hC)).mono (fun e w'' h => ⟨h.1, evo_step0 hC h.2⟩)) ?_
    refine q_op rfl rfl rfl (fun w' hC => run_asg (v := .int _ _) rfl (by exact rfl)) ?_
    refine q_nil (fun w11 hE12 => ?_)
    have hs_w11 := (hE12).size
    replace hV := evo_step0 hV hE12
    replace hc := hc0.now hV
    replace hR6 := hR60 _ hV
    replace hbb7 := hbb7.evo0 hE12
    replace hAb7 := hAb7.evo0 hE12
    refine r_seq ?_
    refine r_region ?_
    refine r_op rfl rfl rfl (run_mv (v := .int _ _) rfl (by exact rfl)) ?_
    refine r_op rfl rfl rfl (run_neq rfl (by exact rfl) (by exact rfl)) ?_
    refine r_nil ?_
    refine r_cond (by exact rfl) (fun hc13 => ?_) (fun hc13 => ?_)
    ·skip
     refine r_seq ?_
     refine r_region ?_
     refine r_op rfl rfl rfl (run_mv (v := .int _ _) rfl (by exact rfl)) ?_
     refine r_op rfl rfl rfl (run_asg (v := .int _ _) rfl (by exact rfl)) ?_
     refine r_nil ?_
     refine r_ret (res1 (v := .int _ _) rfl (by exact rfl)) ?_
     exact ⟨ret_int (by rw [valid_at (by omega) hno (cls_named hc13) hc13 (by omega)]), hV⟩
    ·skip
     refine r_skip ?_
     refine r_seq ?_
     refine r_seq ?_
     refine r_region ?_
     refine r_op rfl rfl rfl (run_fa rfl (by exact rfl) fo_70_1) ?_
     refine r_op rfl rfl rfl (run_ld1 rfl ag_68 (by exact rfl) (hAb7.cell 1 (by exact rfl))) ?_
     refine r_op rfl rfl rfl (run_lenSl rfl (by exact rfl) Tryz.underlying68) ?_
     refine r_op rfl rfl rfl (run_gtr rfl (by exact rfl) (by exact rfl)) ?_
     refine r_nil ?_
     refine r_cond (by exact rfl) (fun hc14 => ?_) (fun hc14 => ?_)
     ·skip
      refine r_seq ?_
      refine r_region ?_
      refine r_op rfl rfl rfl (run_asg (v := .int _ _) rfl (by exact rfl)) ?_
      refine r_nil ?_
      refine r_ret (res1 (v := .int _ _) rfl (by exact rfl)) ?_
      exact ⟨ret_int (by rw [valid_at (by omega) hno (cls_many (Classical.not_not.1 (by assumption)) (by omega)) (by decide) (by omega)]), hV⟩
     ·skip
      refine r_skip ?_
      refine r_seq ?_
      refine r_region ?_
      refine r_op rfl rfl rfl (run_fa rfl (by exact rfl) fo_70_1) ?_
      refine r_op rfl rfl rfl (run_ld1 rfl ag_68 (by exact rfl) (hAb7.cell 1 (by exact rfl))) ?_
      refine r_op rfl rfl rfl (run_lenSl rfl (by exact rfl) Tryz.underlying68) ?_
      refine r_op rfl rfl rfl (run_mv (v := .int _ _) rfl (by exact rfl)) ?_
      refine r_nil ?_
      refine r_block ?_
      refine r_loop (α := Nat) [2, 6, 7, 8, 35, 36, 37, 38, 39, 40, 41, 42, 43, 44, 45, 46, 47, 48, 49] (fun k g w => g 35 = .int .i64 (k : Nat) ∧ k ≤ (c.getD i default).ends.length ∧ At w b7 0 [S (c.getD i default).name, .slice ao6 (c.getD i default).ends.length cap6] ∧ (∀ j, j < k → endedL ((c.getD i default).ends.take j) ((c.getD i default).ends.getD j default) = 0) ∧ w11.heap.size ≤ w.heap.size ∧ Evo w0 w []) (fun k => (c.getD i default).ends.length - k) 0 ?_ ?_
      ·refine ⟨(by first | exact rfl | exact congrArg (Value.int _) (by omega) | exact congrArg (Value.int _) (by dsimp only; omega) | exact congrArg (Value.int _) (by simp) | exact congrArg S (by simp)), (by first | assumption | omega | (dsimp only; omega) | (simp; done)), hAb7, (fun j h => by omega), (by first | assumption | omega | (dsimp only; omega) | (simp; done)), hV⟩
      ·rintro k g w16 ⟨hj17, hk_k, hAb7, hnk, hzl15, hV⟩
       have hs_w16hV := hV.size
       replace hc := hc0.now hV
       replace hA6 := hA60 _ hV
       replace hR6 := hR60 _ hV
       replace hS10 := hS100.now hV
       refine r_know (i := 35) (v := .int .i64 (k : Nat)) (by exact hj17) ?_
       have hbx := hcb _ (getD_in (show i < c.length by omega))
       refine r_seq ?_
       refine r_region ?_
       refine r_op rfl rfl rfl (run_lss rfl (by exact rfl) (by exact rfl)) ?_
       refine r_nil ?_
       refine r_seq ?_
       refine r_cond (by exact rfl) (fun hc18 => ?_) (fun hc18 => ?_)
       ·skip
        refine r_skip ?_
        refine r_seq ?_
        refine r_block ?_
        refine r_seq ?_
        refine r_region ?_
        refine r_op rfl rfl rfl (run_mv (v := .int _ _) rfl (by exact rfl)) ?_
        refine r_op rfl rfl rfl (run_ix (k) rfl Tryz.underlying68 ty_107 (by exact rfl) (by exact rfl) (by first | exact rfl | omega) (by omega) (hR6.addr (i := k) (by omega))) ?_
        have hA190 := fun (w' : World) (h : Evo w0 w' []) => (hR60 w' h).atD (k) (by omega)
        have hA19 := hA190 _ hV
        refine r_op rfl rfl rfl (run_ldN rfl ag_107 ty_107 (by exact rfl) rfl hA19) ?_
        refine r_alloc (zs := [_, _]) ty_107 (by exact rfl) rfl ?_
        intro b20 w21 heb20 hEw21 hbb20 hzb20
        have hs_w21 := (hEw21).size
        replace hV := evo_step0 hV hEw21
        replace hc := hc0.now hV
        replace hR6 := hR60 _ hV
        replace hAb7 := hAb7.evo0 hEw21
        replace hA19 := hA190 _ hV
        have hAb20 := hbb20.at
        refine r_op rfl rfl rfl (run_asg (v := .int _ _) rfl (by exact rfl)) ?_
        refine r_store (v := .agg _) (vs := [_, _]) (cs' := [_, _]) (by exact rfl) (by exact rfl) hbb20 ty_107 (by exact rfl) rfl (by exact rfl) rfl (by exact rfl) ?_
        intro w22 hEw22 hzw22 hb_new
        have hs_w22 := (hEw22).size
        replace hV := evo_step1 hV hEw22 (by first | exact .inl (by omega) | exact .inr (by simp))
        replace hc := hc0.now hV
        replace hR6 := hR60 _ hV
        replace hAb7 := hAb7.evo hEw22 (by simp; omega)
        replace hbb20 := hb_new
        have hAb20 := hbb20.at
        clear hb_new
        refine r_nil ?_
        refine r_seq ?_
        have hbk := hbx.2.1 _ (getD_in (show k < (c.getD i default).ends.length by omega))
        refine r_qregion (by kernel_rfl) (by kernel_rfl) ?_
        refine q_op rfl rfl rfl (fun w' hC => run_fa rfl (by exact rfl) fo_70_1) ?_
        refine q_op rfl rfl rfl (fun w' hC => run_ld1 rfl ag_68 (by exact rfl) ((hAb7.evo0 hC).cell 1 (by exact rfl))) ?_
        refine q_op rfl rfl rfl (fun w' hC => run_mv (v := .int _ _) rfl (by exact rfl)) ?_
        refine q_op rfl rfl rfl (fun w' hC => run_slE (0) (k) rfl Tryz.underlying68 ty_107 (by exact rfl) (hR6.evo0 hC) lo0 (at1 (by exact rfl) (by omega)) (by first | omega | (simp; omega)) (by first | omega | (simp; omega)) List.drop_zero) ?_
        have hS230 := fun (w' : World) (h : Evo w0 w' []) => (by have h9 := ((hR60 w' h).take (k)).drop (0); rw [List.drop_zero] at h9; exact h9)
        have hS23 := (by have h9 := (hR6.take (k)).drop (0); rw [List.drop_zero] at h9; exact h9)
        have hbd_hS23 := hS23.bd
        refine q_op rfl rfl rfl (fun w' hC => run_ldN rfl ag_107 ty_107 (by exact rfl) rfl (hAb20.evo0 hC)) ?_
        refine q_call rfl rfl rfl (fun w' hC => run_callf rfl (argcons (v := .slice _ _ _) (by exact rfl) (argcons (v := .agg _) (by exact rfl) (rfl))) Tryz.func86 rfl (by kernel_rfl)) (fun w' hC => (rended_calls (hS23.evo0 hC) (Nat.le_trans hbk.1 (by decide)) (Nat.le_trans hbk.2 (by decide))).mono (fun e w'' h => ⟨h.1, evo_step0 hC h.2⟩)) ?_
        refine q_op rfl rfl rfl (fun w' hC => run_asg (v := .int _ _) rfl (by exact rfl)) ?_
        refine q_nil (fun w24 hE25 => ?_)
        have hs_w24 := (hE25).size
        replace hV := evo_step0 hV hE25
        replace hc := hc0.now hV
        replace hR6 := hR60 _ hV
        replace hAb7 := hAb7.evo0 hE25
        refine r_seq ?_
        refine r_region ?_
        refine r_op rfl rfl rfl (run_mv (v := .int _ _) rfl (by exact rfl)) ?_
        refine r_op rfl rfl rfl (run_neq rfl (by exact rfl) (by exact rfl)) ?_
        refine r_nil ?_
        refine r_cond (by exact rfl) (fun hc26 => ?_) (fun hc26 => ?_)
        ·skip
         refine r_seq ?_
         refine r_region ?_
         refine r_op rfl rfl rfl (run_mv (v := .int _ _) rfl (by exact rfl)) ?_
         refine r_op rfl rfl rfl (run_asg (v := .int _ _) rfl (by exact rfl)) ?_
         refine r_nil ?_
         refine r_ret (res1 (v := .int _ _) rfl (by exact rfl)) ?_
         exact ⟨ret_int (by rw [valid_at (by omega) hno ((cls_ends (Classical.not_not.1 (by assumption)) (by omega)).trans (ends_err hnk hc26 (by omega))) hc26 (by omega)]), hV⟩
        ·skip
         refine r_skip ?_
         refine r_blk ?_
         refine r_region ?_
         refine r_op rfl rfl rfl (run_add rfl (by exact rfl) (by exact rfl) (by omega) (by omega)) ?_
         refine r_op rfl rfl rfl (run_mv (v := .int _ _) rfl (by exact rfl)) ?_
         refine r_nil ?_
         refine r_again (k + 1) ?_ ?_ ?_
         ·first | omega | (dsimp only; omega)
         ·refine ⟨(by first | exact rfl | exact congrArg (Value.int _) (by omega) | exact congrArg (Value.int _) (by dsimp only; omega) | exact congrArg (Value.int _) (by simp) | exact congrArg S (by simp)), (by first | assumption | omega | (dsimp only; omega) | (simp; done)), hAb7, (upto0 hnk (Classical.not_not.1 hc26)), (by first | assumption | omega | (dsimp only; omega) | (simp; done)), hV⟩
         ·repeat (first | (with_reducible exact Agree.merge _ _ _) | (with_reducible exact Agree.refl _ _) | (with_reducible refine Agree.upd ?_ _ _ rfl) | ((with_reducible refine Agree.inner ?_ ?_); (kernel_rfl)))
       ·skip
        refine r_exit rfl ?_
        refine r_blk ?_
        refine r_region ?_
        refine r_op rfl rfl rfl (run_add rfl (by exact rfl) (by exact rfl) (by omega) (by omega)) ?_
        refine r_op rfl rfl rfl (run_mv (v := .int _ _) rfl (by exact rfl)) ?_
        refine r_nil ?_
        refine r_again (i + 1) ?_ ?_ ?_
        ·first | omega | (dsimp only; omega)
        ·refine ⟨(by first | exact rfl | exact congrArg (Value.int _) (by omega) | exact congrArg (Value.int _) (by dsimp only; omega) | exact congrArg (Value.int _) (by simp) | exact congrArg S (by simp)), (by first | assumption | omega | (dsimp only; omega) | (simp; done)), (upto0 hno ((cls_ends (Classical.not_not.1 (by assumption)) (by omega)).trans (ends_ok hnk (by omega)))), (by first | assumption | omega | (dsimp only; omega) | (simp; done)), hV⟩
        ·repeat (first | (with_reducible exact Agree.merge _ _ _) | (with_reducible exact Agree.refl _ _) | (with_reducible refine Agree.upd ?_ _ _ rfl) | ((with_reducible refine Agree.inner ?_ ?_); (kernel_rfl)))
   ·skip
    refine r_exit rfl ?_
    refine r_seq ?_
    refine r_region ?_
    refine r_op rfl rfl rfl (run_asg (v := .int _ _) rfl (by exact rfl)) ?_
    refine r_nil ?_
    refine r_ret (res1 (v := .int _ _) rfl (by exact rfl)) ?_
    exact ⟨ret_int (by rw [valid_ok (by omega) hno (by omega)]), hV⟩
end Go.Proofs.YtkklomiipkipnaaGreatDoor
namespace Go.Proofs.YtkklomiipkipnaaGreatDoor
open Go.RowKit Go.Vc
theorem u8i {c d : UInt8} : ((c.toNat : Nat) : Int) = ((d.toNat : Nat) : Int) ↔ c = d := ⟨fun h => UInt8.toNat_inj.1 (by omega), fun h => by rw [h]⟩
theorem wd_iff {c : UInt8} : wdB c = true ↔ (clsB c = 4 ∨ clsB c = 3) := by unfold wdB; simp
theorem dg_iff {c : UInt8} : dgtB c = true ↔ clsB c = 3 := by unfold dgtB; simp
section
variable {inner : UInt8 → Bool} {a b : UInt8} {s : Str} {n : Nat}
theorem jn_twoC (hi : inner (s.getD n 0) = false) (hc : (((((s.getD n 0).toNat : Nat) : Int) = (((([a, b] : Str).getD 0 0).toNat : Nat) : Int) ∨ (((s.getD n 0).toNat : Nat) : Int) = (((([a, b] : Str).getD 1 0).toNat : Nat) : Int)) ∧ (n : Int) + 1 < (s.length : Int)) ∧ inner (s.getD (n + 1) 0) = true) :
    jnL inner a b (s.drop n) = 2 + jnL inner a b (s.drop (n + 2)) :=
  jn_two (by omega) (by show ¬ inner (s.getD n 0) = true; rw [hi]; simp) (hc.1.1.imp u8i.1 u8i.1) hc.2
theorem jn_noC (hn : n < s.length) (hi : inner (s.getD n 0) = false) (hc : ¬ ((((((s.getD n 0).toNat : Nat) : Int) = (((([a, b] : Str).getD 0 0).toNat : Nat) : Int) ∨ (((s.getD n 0).toNat : Nat) : Int) = (((([a, b] : Str).getD 1 0).toNat : Nat) : Int)) ∧ (n : Int) + 1 < (s.length : Int)) ∧ inner (s.getD (n + 1) 0) = true)) :
    jnL inner a b (s.drop n) = 0 := by
  refine jn_no hn (by show ¬ inner (s.getD n 0) = true; rw [hi]; simp) ?_
  by_cases h1 : s.getD n 0 = a ∨ s.getD n 0 = b
  · by_cases h2 : n + 1 < s.length
    · exact .inr (.inr fun h3 => hc ⟨⟨h1.imp u8i.2 u8i.2, by omega⟩, h3⟩)
    · exact .inr (.inl h2)
  · exact .inl h1
theorem wd_iffF {c : UInt8} : wdB c = false ↔ ¬ (clsB c = 4 ∨ clsB c = 3) := by rw [← wd_iff]; simp
theorem dg_iffF {c : UInt8} : dgtB c = false ↔ ¬ clsB c = 3 := by rw [← dg_iff]; simp
end
theorem bl_noC {s : Str} {k : Nat} (hk : k ≤ s.length) (h : ¬ ((k : Int) < (s.length : Int) ∧ clsB (s.getD k 0) = 2)) : blL (s.drop k) = 0 := by
  by_cases h1 : k < s.length
  · exact bl_no h1 (fun h2 => h ⟨by omega, h2⟩)
  · exact bl_end (by omega)
theorem word_no {s : Str} (h : s = [] ∨ ¬ clsB (s.getD 0 default) = 4) : wordL s = 0 := by unfold wordL; rw [if_neg (by rintro ⟨h1, h2⟩; exact h.elim (fun h => h1 h) (fun h => h h2))]
theorem num_no {s : Str} (h : s = [] ∨ ¬ clsB (s.getD 0 default) = 3) : numL s = 0 := by unfold numL; rw [if_neg (by rintro ⟨h1, h2⟩; exact h.elim (fun h => h1 h) (fun h => h h2))]
theorem word_go {s : Str} (h : ¬ (s = [] ∨ ¬ clsB (s.getD 0 default) = 4)) : wordL s = 1 + jnL wdB 39 45 (s.drop 1) := by unfold wordL; rw [if_pos ⟨fun e => h (.inl e), Classical.not_not.1 fun e => h (.inr e)⟩]
theorem num_go {s : Str} (h : ¬ (s = [] ∨ ¬ clsB (s.getD 0 default) = 3)) : numL s = 1 + jnL dgtB 46 44 (s.drop 1) := by unfold numL; rw [if_pos ⟨fun e => h (.inl e), Classical.not_not.1 fun e => h (.inr e)⟩]
theorem ne_nil_len {s : Str} (h : ¬ s = []) : 1 ≤ s.length := List.length_pos_iff.2 h
theorem ne_len {s : Str} {q : Prop} (h : ¬ (s = [] ∨ q)) : 1 ≤ s.length := List.length_pos_iff.2 fun e => h (.inl e)
theorem rw_two {s : Str} {k : Nat} (h1 : ¬ (clsB (s.getD k 0) = 4 ∨ clsB (s.getD k 0) = 3)) (h2 : ((((s.getD k 0).toNat : Nat) : Int) = 39 ∨ (((s.getD k 0).toNat : Nat) : Int) = 45) ∧ (k : Int) + 1 < (s.length : Int)) (h3 : clsB (s.getD (k + 1) 0) = 4 ∨ clsB (s.getD (k + 1) 0) = 3) :
    jnL wdB 39 45 (s.drop k) = 2 + jnL wdB 39 45 (s.drop (k + 2)) := jn_twoC (wd_iffF.2 h1) ⟨⟨h2.1, h2.2⟩, wd_iff.2 h3⟩
theorem rw_no {s : Str} {k : Nat} (hk : k < s.length) (h1 : ¬ (clsB (s.getD k 0) = 4 ∨ clsB (s.getD k 0) = 3)) (h2 : ¬ ((((((s.getD k 0).toNat : Nat) : Int) = 39 ∨ (((s.getD k 0).toNat : Nat) : Int) = 45) ∧ (k : Int) + 1 < (s.length : Int)) ∧ (clsB (s.getD (k + 1) 0) = 4 ∨ clsB (s.getD (k + 1) 0) = 3))) :
    jnL wdB 39 45 (s.drop k) = 0 := jn_noC hk (wd_iffF.2 h1) (fun h => h2 ⟨⟨h.1.1, h.1.2⟩, wd_iff.1 h.2⟩)
theorem rn_two {s : Str} {k : Nat} (h1 : ¬ clsB (s.getD k 0) = 3) (h2 : (((((s.getD k 0).toNat : Nat) : Int) = 46 ∨ (((s.getD k 0).toNat : Nat) : Int) = 44) ∧ (k : Int) + 1 < (s.length : Int)) ∧ clsB (s.getD (k + 1) 0) = 3) :
    jnL dgtB 46 44 (s.drop k) = 2 + jnL dgtB 46 44 (s.drop (k + 2)) := jn_twoC (dg_iffF.2 h1) ⟨⟨h2.1.1, h2.1.2⟩, dg_iff.2 h2.2⟩
theorem rn_no {s : Str} {k : Nat} (hk : k < s.length) (h1 : ¬ clsB (s.getD k 0) = 3) (h2 : ¬ ((((((s.getD k 0).toNat : Nat) : Int) = 46 ∨ (((s.getD k 0).toNat : Nat) : Int) = 44) ∧ (k : Int) + 1 < (s.length : Int)) ∧ clsB (s.getD (k + 1) 0) = 3)) :
    jnL dgtB 46 44 (s.drop k) = 0 := jn_noC hk (dg_iffF.2 h1) (fun h => h2 ⟨⟨h.1.1, h.1.2⟩, dg_iff.1 h.2⟩)
theorem rword_calls {s : Str} {w0 : World} (hs : s.length ≤ 140737488355328) :
    Calls Tryz.prog 73 #[S s] w0 fun e w' => e = .returned (.int .i64 ((wordL s : Nat) : Int)) ∧ Evo w0 w' [] := by
 refine calls_enter (n := 61) (args := [S s]) Tryz.func73 rfl Tryz.ntmps73 rfl ?_
 have hV : Evo w0 w0 [] := Evo.refl _ _
 refine r_seq ?_
 refine r_region ?_
 refine r_op rfl rfl rfl (run_asg (v := .int _ _) rfl (by exact rfl)) ?_
 refine r_nil ?_
 refine r_seq ?_
 refine r_seq ?_
 refine r_region ?_
 refine r_op rfl rfl rfl (run_mv (v := S _) rfl (by exact rfl)) ?_
 refine r_op rfl rfl rfl (run_seql rfl (by exact rfl) (by exact rfl)) ?_
 refine r_op rfl rfl rfl (run_mv (v := .bool _) rfl (by exact rfl)) ?_
 refine r_g rfl (wantF (by exact rfl)) rfl (fun hg => run_mv (v := S _) rfl (by exact rfl)) ?_
 refine r_g rfl (wantF (by exact rfl)) rfl (fun hg => run_ixS (0) rfl Tryz.underlying9 (glv (by exact rfl) (fun h => h) hg) (by exact rfl) (by first | exact rfl | omega) (by have := ne_nil_len hg; omega)) ?_
 refine r_gcall rfl (wantF (by exact rfl)) rfl (fun hg => run_callf rfl (argcons (v := .int _ _) (glv (by exact rfl) (fun h => h) hg) (rfl)) Tryz.func87 rfl (by kernel_rfl)) (fun hg => (rclass_calls ).mono (fun e w' h => ⟨h.1, h.2⟩)) (fun w1 hE2 => ?_)
 have hs_w1 := (hE2).size
 replace hV := evo_step0 hV hE2
 refine r_g rfl (wantF (by exact rfl)) rfl (fun hg => run_neq rfl (glv (by exact rfl) (fun h => h) hg) (by exact rfl)) ?_
 refine r_op rfl rfl rfl (run_pick_or rfl (by exact rfl) rfl (fun hq => glv (by exact rfl) (fun h => h) hq)) ?_
 refine r_nil ?_
 refine r_cond (by exact rfl) (fun hc3 => ?_) (fun hc3 => ?_)
 ·skip
  refine r_seq ?_
  refine r_region ?_
  refine r_op rfl rfl rfl (run_asg (v := .int _ _) rfl (by exact rfl)) ?_
  refine r_nil ?_
  refine r_ret (res1 (v := .int _ _) rfl (by exact rfl)) ?_
  exact ⟨ret_int (by rw [word_no hc3]; rfl), hV⟩
 ·skip
  refine r_skip ?_
  refine r_seq ?_
  have hs1 := ne_len hc3
  refine r_region ?_
  refine r_op rfl rfl rfl (run_asg (v := .int _ _) rfl (by exact rfl)) ?_
  refine r_nil ?_
  refine r_seq ?_
  refine r_block ?_
  refine r_loop (α := Nat) [3, 4, 5, 14, 15, 16, 17, 18, 19, 20, 21, 22, 23, 24, 25, 26, 27, 28, 29, 30, 31, 32, 33, 34, 35, 36, 37, 38, 39, 40, 41, 42, 43, 44, 45, 46, 47, 48, 49, 50, 51, 52, 53, 54, 55, 56, 57, 58, 59] (fun k g w => g 3 = .int .i64 (k : Nat) ∧ (1 ≤ k ∧ k ≤ s.length) ∧ k + jnL wdB 39 45 (s.drop k) = 1 + jnL wdB 39 45 (s.drop 1) ∧ w1.heap.size ≤ w.heap.size ∧ Evo w0 w []) (fun k => s.length - k) 1 ?_ ?_
  ·refine ⟨rfl, (by first | assumption | omega | (dsimp only; omega) | (simp; done)), (by first | assumption | omega | (dsimp only; omega) | (simp; done)), (by first | assumption | omega | (dsimp only; omega) | (simp; done)), hV⟩
  ·rintro k g w5 ⟨hj6, hk1, hj, hzl4, hV⟩
   have hs_w5hV := hV.size
   refine r_know (i := 3) (v := .int .i64 (k : Nat)) (by exact hj6) ?_
   refine r_seq ?_
   refine r_seq ?_
   refine r_region ?_
   refine r_op rfl rfl rfl (run_mv (v := .int _ _) rfl (by exact rfl)) ?_
   refine r_op rfl rfl rfl (run_mv (v := S _) rfl (by exact rfl)) ?_
   refine r_op rfl rfl rfl (run_lenS rfl (by exact rfl) Tryz.underlying9) ?_
   refine r_op rfl rfl rfl (run_lss rfl (by exact rfl) (by exact rfl)) ?_
   refine r_nil ?_
   refine r_cond (by exact rfl) (fun hc7 => ?_) (fun hc7 => ?_)
   ·skip
    refine r_skip ?_
    refine r_block ?_
    refine r_seq ?_
    refine r_region ?_
    refine r_op rfl rfl rfl (run_mv (v := S _) rfl (by exact rfl)) ?_
    refine r_op rfl rfl rfl (run_mv (v := .int _ _) rfl (by exact rfl)) ?_
    refine r_op rfl rfl rfl (run_ixS (k) rfl Tryz.underlying9 (by exact rfl) (by exact rfl) (by first | exact rfl | omega) (by omega)) ?_
    refine r_opcall rfl rfl rfl (run_callf (vs := [.int _ _]) rfl (by exact rfl) Tryz.func87 rfl (by kernel_rfl)) rclass_calls ?_
    rintro e w8 ⟨rfl, hE8⟩
    refine ⟨_, rfl, ?_⟩
    have hs_w8 := (hE8).size
    replace hV := evo_step0 hV hE8
    refine r_op rfl rfl rfl (run_asg (v := .int _ _) rfl (by exact rfl)) ?_
    refine r_nil ?_
    refine r_seq ?_
    refine r_seq ?_
    refine r_region ?_
    refine r_op rfl rfl rfl (run_mv (v := .int _ _) rfl (by exact rfl)) ?_
    refine r_op rfl rfl rfl (run_eql rfl (by exact rfl) (by exact rfl)) ?_
    refine r_op rfl rfl rfl (run_mv (v := .bool _) rfl (by exact rfl)) ?_
    refine r_g rfl (wantF (by exact rfl)) rfl (fun hg => run_mv (v := .int _ _) rfl (by exact rfl)) ?_
    refine r_g rfl (wantF (by exact rfl)) rfl (fun hg => run_eql rfl (glv (by exact rfl) (fun h => h) hg) (by exact rfl)) ?_
    refine r_op rfl rfl rfl (run_pick_or rfl (by exact rfl) rfl (fun hq => glv (by exact rfl) (fun h => h) hq)) ?_
    refine r_nil ?_
    refine r_cond (by exact rfl) (fun hc9 => ?_) (fun hc9 => ?_)
    ·skip
     refine r_seq ?_
     refine r_region ?_
     refine r_op rfl rfl rfl (run_mv (v := .int _ _) rfl (by exact rfl)) ?_
     refine r_op rfl rfl rfl (run_add rfl (by exact rfl) (by exact rfl) (by omega) (by omega)) ?_
     refine r_knowL (i := 29) (v := .int .i64 ((k + 1 : Nat) : Int)) (congrArg (Value.int _) (by omega)) ?_
     refine r_op rfl rfl rfl (run_asg (v := .int _ _) rfl (by exact rfl)) ?_
     refine r_nil ?_
     refine r_exit rfl ?_
     refine r_again (k + 1) ?_ ?_ ?_
     ·first | omega | (dsimp only; omega)
     ·refine ⟨rfl, (by first | assumption | omega | (dsimp only; omega) | (simp; done)), (by first | (have h8 := jn_in (inner := wdB) (a := 39) (b := 45) (s := s) (n := k) (by omega) (wd_iff.2 hc9); omega) | (have h8 := rw_two (s := s) (k := k) (by assumption) (by assumption) hc9; omega)), (by first | assumption | omega | (dsimp only; omega) | (simp; done)), hV⟩
     ·repeat (first | (with_reducible exact Agree.merge _ _ _) | (with_reducible exact Agree.refl _ _) | (with_reducible refine Agree.upd ?_ _ _ rfl) | ((with_reducible refine Agree.inner ?_ ?_); (kernel_rfl)))
    ·skip
     refine r_skip ?_
     refine r_seq ?_
     refine r_seq ?_
     refine r_region ?_
     refine r_op rfl rfl rfl (run_mv (v := S _) rfl (by exact rfl)) ?_
     refine r_op rfl rfl rfl (run_mv (v := .int _ _) rfl (by exact rfl)) ?_
     refine r_op rfl rfl rfl (run_ixS (k) rfl Tryz.underlying9 (by exact rfl) (by exact rfl) (by first | exact rfl | omega) (by omega)) ?_
     refine r_op rfl rfl rfl (run_eql rfl (by exact rfl) (by exact rfl)) ?_
     refine r_op rfl rfl rfl (run_mv (v := .bool _) rfl (by exact rfl)) ?_
     refine r_g rfl (wantF (by exact rfl)) rfl (fun hg => run_mv (v := S _) rfl (by exact rfl)) ?_
     refine r_g rfl (wantF (by exact rfl)) rfl (fun hg => run_mv (v := .int _ _) rfl (by exact rfl)) ?_
     refine r_g rfl (wantF (by exact rfl)) rfl (fun hg => run_ixS (k) rfl Tryz.underlying9 (glv (by exact rfl) (fun h => h) hg) (glv (by exact rfl) (fun h => h) hg) (by first | exact rfl | omega) (by omega)) ?_
     refine r_g rfl (wantF (by exact rfl)) rfl (fun hg => run_eql rfl (glv (by exact rfl) (fun h => h) hg) (by exact rfl)) ?_
     refine r_op rfl rfl rfl (run_pick_or rfl (by exact rfl) rfl (fun hq => glv (by exact rfl) (fun h => h) hq)) ?_
     refine r_op rfl rfl rfl (run_mv (v := .bool _) rfl (by exact rfl)) ?_
     refine r_g rfl (wantT (by exact rfl)) rfl (fun hg => run_mv (v := .int _ _) rfl (by exact rfl)) ?_
     refine r_g rfl (wantT (by exact rfl)) rfl (fun hg => run_add rfl (glv (by exact rfl) (fun h => h) hg) (by exact rfl) (by omega) (by omega)) ?_
     refine r_g rfl (wantT (by exact rfl)) rfl (fun hg => run_mv (v := S _) rfl (by exact rfl)) ?_
     refine r_g rfl (wantT (by exact rfl)) rfl (fun hg => run_lenS rfl (glv (by exact rfl) (fun h => h) hg) Tryz.underlying9) ?_
     refine r_g rfl (wantT (by exact rfl)) rfl (fun hg => run_lss rfl (glv (by exact rfl) (fun h => h) hg) (glv (by exact rfl) (fun h => h) hg)) ?_
     refine r_op rfl rfl rfl (run_pick_and rfl (by exact rfl) (fun hq => glv (by exact rfl) (fun h => h) hq) rfl) ?_
     refine r_nil ?_
     refine r_cond (by exact rfl) (fun hc10 => ?_) (fun hc10 => ?_)
     ·skip
      refine r_seq ?_
      refine r_region ?_
      refine r_op rfl rfl rfl (run_mv (v := S _) rfl (by exact rfl)) ?_
      refine r_op rfl rfl rfl (run_mv (v := .int _ _) rfl (by exact rfl)) ?_
      refine r_op rfl rfl rfl (run_add rfl (by exact rfl) (by exact rfl) (by omega) (by omega)) ?_
      refine r_op rfl rfl rfl (run_ixS ((k + 1)) rfl Tryz.underlying9 (by exact rfl) (by exact rfl) (by omega) (by omega)) ?_
      refine r_opcall rfl rfl rfl (run_callf (vs := [.int _ _]) rfl (by exact rfl) Tryz.func87 rfl (by kernel_rfl)) rclass_calls ?_
      rintro e w11 ⟨rfl, hE11⟩
      refine ⟨_, rfl, ?_⟩
      have hs_w11 := (hE11).size
      replace hV := evo_step0 hV hE11
      refine r_op rfl rfl rfl (run_asg (v := .int _ _) rfl (by exact rfl)) ?_
      refine r_nil ?_
      refine r_seq ?_
      refine r_region ?_
      refine r_op rfl rfl rfl (run_mv (v := .int _ _) rfl (by exact rfl)) ?_
      refine r_op rfl rfl rfl (run_eql rfl (by exact rfl) (by exact rfl)) ?_
      refine r_op rfl rfl rfl (run_mv (v := .bool _) rfl (by exact rfl)) ?_
      refine r_g rfl (wantF (by exact rfl)) rfl (fun hg => run_mv (v := .int _ _) rfl (by exact rfl)) ?_
      refine r_g rfl (wantF (by exact rfl)) rfl (fun hg => run_eql rfl (glv (by exact rfl) (fun h => h) hg) (by exact rfl)) ?_
      refine r_op rfl rfl rfl (run_pick_or rfl (by exact rfl) rfl (fun hq => glv (by exact rfl) (fun h => h) hq)) ?_
      refine r_nil ?_
      refine r_cond (by exact rfl) (fun hc12 => ?_) (fun hc12 => ?_)
      ·skip
       refine r_seq ?_
       refine r_region ?_
       refine r_op rfl rfl rfl (run_mv (v := .int _ _) rfl (by exact rfl)) ?_
       refine r_op rfl rfl rfl (run_add rfl (by exact rfl) (by exact rfl) (by omega) (by omega)) ?_
       refine r_knowL (i := 59) (v := .int .i64 ((k + 2 : Nat) : Int)) (congrArg (Value.int _) (by omega)) ?_
       refine r_op rfl rfl rfl (run_asg (v := .int _ _) rfl (by exact rfl)) ?_
       refine r_nil ?_
       refine r_exit rfl ?_
       refine r_again (k + 2) ?_ ?_ ?_
       ·first | omega | (dsimp only; omega)
       ·refine ⟨rfl, (by first | assumption | omega | (dsimp only; omega) | (simp; done)), (by first | (have h8 := jn_in (inner := wdB) (a := 39) (b := 45) (s := s) (n := k) (by omega) (wd_iff.2 hc12); omega) | (have h8 := rw_two (s := s) (k := k) (by assumption) (by assumption) hc12; omega)), (by first | assumption | omega | (dsimp only; omega) | (simp; done)), hV⟩
       ·repeat (first | (with_reducible exact Agree.merge _ _ _) | (with_reducible exact Agree.refl _ _) | (with_reducible refine Agree.upd ?_ _ _ rfl) | ((with_reducible refine Agree.inner ?_ ?_); (kernel_rfl)))
      ·skip
       refine r_skip ?_
       refine r_exit rfl ?_
       refine r_seq ?_
       refine r_region ?_
       refine r_op rfl rfl rfl (run_mv (v := .int _ _) rfl (by exact rfl)) ?_
       refine r_op rfl rfl rfl (run_asg (v := .int _ _) rfl (by exact rfl)) ?_
       refine r_nil ?_
       refine r_ret (res1 (v := .int _ _) rfl (by exact rfl)) ?_
       exact ⟨ret_int (by have h8 := rw_no (s := s) (k := k) (by omega) (by assumption) (fun h => by first | exact hc12 h.2 | exact hc12 h.1); rw [word_go (by assumption)]; omega), hV⟩
     ·skip
      refine r_skip ?_
      refine r_exit rfl ?_
      refine r_seq ?_
      refine r_region ?_
      refine r_op rfl rfl rfl (run_mv (v := .int _ _) rfl (by exact rfl)) ?_
      refine r_op rfl rfl rfl (run_asg (v := .int _ _) rfl (by exact rfl)) ?_
      refine r_nil ?_
      refine r_ret (res1 (v := .int _ _) rfl (by exact rfl)) ?_
      exact ⟨ret_int (by have h8 := rw_no (s := s) (k := k) (by omega) (by assumption) (fun h => by first | exact hc10 h.2 | exact hc10 h.1); rw [word_go (by assumption)]; omega), hV⟩
   ·skip
    refine r_exit rfl ?_
    refine r_seq ?_
    refine r_region ?_
    refine r_op rfl rfl rfl (run_mv (v := .int _ _) rfl (by exact rfl)) ?_
    refine r_op rfl rfl rfl (run_asg (v := .int _ _) rfl (by exact rfl)) ?_
    refine r_nil ?_
    refine r_ret (res1 (v := .int _ _) rfl (by exact rfl)) ?_
    exact ⟨ret_int (by have h8 := jn_end (a := 39) (b := 45) (inner := wdB) (s := s) (n := k) (by omega); rw [word_go (by assumption)]; omega), hV⟩
theorem rnumber_calls {s : Str} {w0 : World} (hs : s.length ≤ 140737488355328) :
    Calls Tryz.prog 74 #[S s] w0 fun e w' => e = .returned (.int .i64 ((numL s : Nat) : Int)) ∧ Evo w0 w' [] := by
 refine calls_enter (n := 51) (args := [S s]) Tryz.func74 rfl Tryz.ntmps74 rfl ?_
 have hV : Evo w0 w0 [] := Evo.refl _ _
 refine r_seq ?_
 refine r_region ?_
 refine r_op rfl rfl rfl (run_asg (v := .int _ _) rfl (by exact rfl)) ?_
 refine r_nil ?_
 refine r_seq ?_
 refine r_seq ?_
 refine r_region ?_
 refine r_op rfl rfl rfl (run_mv (v := S _) rfl (by exact rfl)) ?_
 refine r_op rfl rfl rfl (run_seql rfl (by exact rfl) (by exact rfl)) ?_
 refine r_op rfl rfl rfl (run_mv (v := .bool _) rfl (by exact rfl)) ?_
 refine r_g rfl (wantF (by exact rfl)) rfl (fun hg => run_mv (v := S _) rfl (by exact rfl)) ?_
 refine r_g rfl (wantF (by exact rfl)) rfl (fun hg => run_ixS (0) rfl Tryz.underlying9 (glv (by exact rfl) (fun h => h) hg) (by exact rfl) (by first | exact rfl | omega) (by have := ne_nil_len hg; omega)) ?_
 refine r_gcall rfl (wantF (by exact rfl)) rfl (fun hg => run_callf rfl (argcons (v := .int _ _) (glv (by exact rfl) (fun h => h) hg) (rfl)) Tryz.func87 rfl (by kernel_rfl)) (fun hg => (rclass_calls ).mono (fun e w' h => ⟨h.1, h.2⟩)) (fun w1 hE2 => ?_)
 have hs_w1 := (hE2).size
 replace hV := evo_step0 hV hE2
 refine r_g rfl (wantF (by exact rfl)) rfl (fun hg => run_neq rfl (glv (by exact rfl) (fun h => h) hg) (by exact rfl)) ?_
 refine r_op rfl rfl rfl (run_pick_or rfl (by exact rfl) rfl (fun hq => glv (by exact rfl) (fun h => h) hq)) ?_
 refine r_nil ?_
 refine r_cond (by exact rfl) (fun hc3 => ?_) (fun hc3 => ?_)
 ·skip
  refine r_seq ?_
  refine r_region ?_
  refine r_op rfl rfl rfl (run_asg (v := .int _ _) rfl (by exact rfl)) ?_
  refine r_nil ?_
  refine r_ret (res1 (v := .int _ _) rfl (by exact rfl)) ?_
  exact ⟨ret_int (by rw [num_no hc3]; rfl), hV⟩
 ·skip
  refine r_skip ?_
  refine r_seq ?_
  have hs1 := ne_len hc3
  refine r_region ?_
  refine r_op rfl rfl rfl (run_asg (v := .int _ _) rfl (by exact rfl)) ?_
  refine r_nil ?_
  refine r_seq ?_
  refine r_block ?_
  refine r_loop (α := Nat) [3, 12, 13, 14, 15, 16, 17, 18, 19, 20, 21, 22, 23, 24, 25, 26, 27, 28, 29, 30, 31, 32, 33, 34, 35, 36, 37, 38, 39, 40, 41, 42, 43, 44, 45, 46, 47, 48, 49] (fun k g w => g 3 = .int .i64 (k : Nat) ∧ (1 ≤ k ∧ k ≤ s.length) ∧ k + jnL dgtB 46 44 (s.drop k) = 1 + jnL dgtB 46 44 (s.drop 1) ∧ w1.heap.size ≤ w.heap.size ∧ Evo w0 w []) (fun k => s.length - k) 1 ?_ ?_
  ·refine ⟨rfl, (by first | assumption | omega | (dsimp only; omega) | (simp; done)), (by first | assumption | omega | (dsimp only; omega) | (simp; done)), (by first | assumption | omega | (dsimp only; omega) | (simp; done)), hV⟩
  ·rintro k g w5 ⟨hj6, hk1, hj, hzl4, hV⟩
   have hs_w5hV := hV.size
   refine r_know (i := 3) (v := .int .i64 (k : Nat)) (by exact hj6) ?_
   refine r_seq ?_
   refine r_seq ?_
   refine r_region ?_
   refine r_op rfl rfl rfl (run_mv (v := .int _ _) rfl (by exact rfl)) ?_
   refine r_op rfl rfl rfl (run_mv (v := S _) rfl (by exact rfl)) ?_
   refine r_op rfl rfl rfl (run_lenS rfl (by exact rfl) Tryz.underlying9) ?_
   refine r_op rfl rfl rfl (run_lss rfl (by exact rfl) (by exact rfl)) ?_
   refine r_nil ?_
   refine r_cond (by exact rfl) (fun hc7 => ?_) (fun hc7 => ?_)
   ·skip
    refine r_skip ?_
    refine r_block ?_
    refine r_seq ?_
    refine r_seq ?_
    refine r_region ?_
    refine r_op rfl rfl rfl (run_mv (v := S _) rfl (by exact rfl)) ?_
    refine r_op rfl rfl rfl (run_mv (v := .int _ _) rfl (by exact rfl)) ?_
    refine r_op rfl rfl rfl (run_ixS (k) rfl Tryz.underlying9 (by exact rfl) (by exact rfl) (by first | exact rfl | omega) (by omega)) ?_
    refine r_opcall rfl rfl rfl (run_callf (vs := [.int _ _]) rfl (by exact rfl) Tryz.func87 rfl (by kernel_rfl)) rclass_calls ?_
    rintro e w8 ⟨rfl, hE8⟩
    refine ⟨_, rfl, ?_⟩
    have hs_w8 := (hE8).size
    replace hV := evo_step0 hV hE8
    refine r_op rfl rfl rfl (run_eql rfl (by exact rfl) (by exact rfl)) ?_
    refine r_nil ?_
    refine r_cond (by exact rfl) (fun hc9 => ?_) (fun hc9 => ?_)
    ·skip
     refine r_seq ?_
     refine r_region ?_
     refine r_op rfl rfl rfl (run_mv (v := .int _ _) rfl (by exact rfl)) ?_
     refine r_op rfl rfl rfl (run_add rfl (by exact rfl) (by exact rfl) (by omega) (by omega)) ?_
     refine r_knowL (i := 22) (v := .int .i64 ((k + 1 : Nat) : Int)) (congrArg (Value.int _) (by omega)) ?_
     refine r_op rfl rfl rfl (run_asg (v := .int _ _) rfl (by exact rfl)) ?_
     refine r_nil ?_
     refine r_exit rfl ?_
     refine r_again (k + 1) ?_ ?_ ?_
     ·first | omega | (dsimp only; omega)
     ·refine ⟨rfl, (by first | assumption | omega | (dsimp only; omega) | (simp; done)), (by first | (have h8 := jn_in (inner := dgtB) (a := 46) (b := 44) (s := s) (n := k) (by omega) (dg_iff.2 hc9); omega) | (have h8 := rn_two (s := s) (k := k) (by assumption) hc9; omega)), (by first | assumption | omega | (dsimp only; omega) | (simp; done)), hV⟩
     ·repeat (first | (with_reducible exact Agree.merge _ _ _) | (with_reducible exact Agree.refl _ _) | (with_reducible refine Agree.upd ?_ _ _ rfl) | ((with_reducible refine Agree.inner ?_ ?_); (kernel_rfl)))
    ·skip
     refine r_skip ?_
     refine r_seq ?_
     refine r_seq ?_
     refine r_region ?_
     refine r_op rfl rfl rfl (run_mv (v := S _) rfl (by exact rfl)) ?_
     refine r_op rfl rfl rfl (run_mv (v := .int _ _) rfl (by exact rfl)) ?_
     refine r_op rfl rfl rfl (run_ixS (k) rfl Tryz.underlying9 (by exact rfl) (by exact rfl) (by first | exact rfl | omega) (by omega)) ?_
     refine r_op rfl rfl rfl (run_eql rfl (by exact rfl) (by exact rfl)) ?_
     refine r_op rfl rfl rfl (run_mv (v := .bool _) rfl (by exact rfl)) ?_
     refine r_g rfl (wantF (by exact rfl)) rfl (fun hg => run_mv (v := S _) rfl (by exact rfl)) ?_
     refine r_g rfl (wantF (by exact rfl)) rfl (fun hg => run_mv (v := .int _ _) rfl (by exact rfl)) ?_
     refine r_g rfl (wantF (by exact rfl)) rfl (fun hg => run_ixS (k) rfl Tryz.underlying9 (glv (by exact rfl) (fun h => h) hg) (glv (by exact rfl) (fun h => h) hg) (by first | exact rfl | omega) (by omega)) ?_
     refine r_g rfl (wantF (by exact rfl)) rfl (fun hg => run_eql rfl (glv (by exact rfl) (fun h => h) hg) (by exact rfl)) ?_
     refine r_op rfl rfl rfl (run_pick_or rfl (by exact rfl) rfl (fun hq => glv (by exact rfl) (fun h => h) hq)) ?_
     refine r_op rfl rfl rfl (run_mv (v := .bool _) rfl (by exact rfl)) ?_
     refine r_g rfl (wantT (by exact rfl)) rfl (fun hg => run_mv (v := .int _ _) rfl (by exact rfl)) ?_
     refine r_g rfl (wantT (by exact rfl)) rfl (fun hg => run_add rfl (glv (by exact rfl) (fun h => h) hg) (by exact rfl) (by omega) (by omega)) ?_
     refine r_g rfl (wantT (by exact rfl)) rfl (fun hg => run_mv (v := S _) rfl (by exact rfl)) ?_
     refine r_g rfl (wantT (by exact rfl)) rfl (fun hg => run_lenS rfl (glv (by exact rfl) (fun h => h) hg) Tryz.underlying9) ?_
     refine r_g rfl (wantT (by exact rfl)) rfl (fun hg => run_lss rfl (glv (by exact rfl) (fun h => h) hg) (glv (by exact rfl) (fun h => h) hg)) ?_
     refine r_op rfl rfl rfl (run_pick_and rfl (by exact rfl) (fun hq => glv (by exact rfl) (fun h => h) hq) rfl) ?_
     refine r_op rfl rfl rfl (run_mv (v := .bool _) rfl (by exact rfl)) ?_
     refine r_g rfl (wantT (by exact rfl)) rfl (fun hg => run_mv (v := S _) rfl (by exact rfl)) ?_
     refine r_g rfl (wantT (by exact rfl)) rfl (fun hg => run_mv (v := .int _ _) rfl (by exact rfl)) ?_
     refine r_g rfl (wantT (by exact rfl)) rfl (fun hg => run_add rfl (glv (by exact rfl) (fun h => h) hg) (by exact rfl) (by omega) (by omega)) ?_
     refine r_g rfl (wantT (by exact rfl)) rfl (fun hg => run_ixS ((k + 1)) rfl Tryz.underlying9 (glv (by exact rfl) (fun h => h) hg) (glv (by exact rfl) (fun h => h) hg) (by omega) (by omega)) ?_
     refine r_gcall rfl (wantT (by exact rfl)) rfl (fun hg => run_callf rfl (argcons (v := .int _ _) (glv (by exact rfl) (fun h => h) hg) (rfl)) Tryz.func87 rfl (by kernel_rfl)) (fun hg => (rclass_calls ).mono (fun e w' h => ⟨h.1, h.2⟩)) (fun w10 hE11 => ?_)
     have hs_w10 := (hE11).size
     replace hV := evo_step0 hV hE11
     refine r_g rfl (wantT (by exact rfl)) rfl (fun hg => run_eql rfl (glv (by exact rfl) (fun h => h) hg) (by exact rfl)) ?_
     refine r_op rfl rfl rfl (run_pick_and rfl (by exact rfl) (fun hq => glv (by exact rfl) (fun h => h) hq) rfl) ?_
     refine r_nil ?_
     refine r_cond (by exact rfl) (fun hc12 => ?_) (fun hc12 => ?_)
     ·skip
      refine r_seq ?_
      refine r_region ?_
      refine r_op rfl rfl rfl (run_mv (v := .int _ _) rfl (by exact rfl)) ?_
      refine r_op rfl rfl rfl (run_add rfl (by exact rfl) (by exact rfl) (by omega) (by omega)) ?_
      refine r_knowL (i := 49) (v := .int .i64 ((k + 2 : Nat) : Int)) (congrArg (Value.int _) (by omega)) ?_
      refine r_op rfl rfl rfl (run_asg (v := .int _ _) rfl (by exact rfl)) ?_
      refine r_nil ?_
      refine r_exit rfl ?_
      refine r_again (k + 2) ?_ ?_ ?_
      ·first | omega | (dsimp only; omega)
      ·refine ⟨rfl, (by first | assumption | omega | (dsimp only; omega) | (simp; done)), (by first | (have h8 := jn_in (inner := dgtB) (a := 46) (b := 44) (s := s) (n := k) (by omega) (dg_iff.2 hc12); omega) | (have h8 := rn_two (s := s) (k := k) (by assumption) hc12; omega)), (by first | assumption | omega | (dsimp only; omega) | (simp; done)), hV⟩
      ·repeat (first | (with_reducible exact Agree.merge _ _ _) | (with_reducible exact Agree.refl _ _) | (with_reducible refine Agree.upd ?_ _ _ rfl) | ((with_reducible refine Agree.inner ?_ ?_); (kernel_rfl)))
     ·skip
      refine r_skip ?_
      refine r_exit rfl ?_
      refine r_seq ?_
      refine r_region ?_
      refine r_op rfl rfl rfl (run_mv (v := .int _ _) rfl (by exact rfl)) ?_
      refine r_op rfl rfl rfl (run_asg (v := .int _ _) rfl (by exact rfl)) ?_
      refine r_nil ?_
      refine r_ret (res1 (v := .int _ _) rfl (by exact rfl)) ?_
      exact ⟨ret_int (by have h8 := rn_no (s := s) (k := k) (by omega) (by assumption) hc12; rw [num_go (by assumption)]; omega), hV⟩
   ·skip
    refine r_exit rfl ?_
    refine r_seq ?_
    refine r_region ?_
    refine r_op rfl rfl rfl (run_mv (v := .int _ _) rfl (by exact rfl)) ?_
    refine r_op rfl rfl rfl (run_asg (v := .int _ _) rfl (by exact rfl)) ?_
    refine r_nil ?_
    refine r_ret (res1 (v := .int _ _) rfl (by exact rfl)) ?_
    exact ⟨ret_int (by have h8 := jn_end (a := 46) (b := 44) (inner := dgtB) (s := s) (n := k) (by omega); rw [num_go (by assumption)]; omega), hV⟩
theorem rblank_calls {s : Str} {w0 : World} (hs : s.length ≤ 140737488355328) :
    Calls Tryz.prog 75 #[S s] w0 fun e w' => e = .returned (.int .i64 ((blL s : Nat) : Int)) ∧ Evo w0 w' [] := by
 refine calls_enter (n := 18) (args := [S s]) Tryz.func75 rfl Tryz.ntmps75 rfl ?_
 have hV : Evo w0 w0 [] := Evo.refl _ _
 refine r_seq ?_
 refine r_region ?_
 refine r_op rfl rfl rfl (run_asg (v := .int _ _) rfl (by exact rfl)) ?_
 refine r_nil ?_
 refine r_seq ?_
 refine r_region ?_
 refine r_op rfl rfl rfl (run_asg (v := .int _ _) rfl (by exact rfl)) ?_
 refine r_nil ?_
 refine r_seq ?_
 refine r_block ?_
 refine r_loop (α := Nat) [3, 4, 5, 6, 7, 8, 9, 10, 11, 12, 13, 14, 15, 16] (fun k g w => g 3 = .int .i64 (k : Nat) ∧ k ≤ s.length ∧ k + blL (s.drop k) = blL s ∧ w0.heap.size ≤ w.heap.size ∧ Evo w0 w []) (fun k => s.length - k) 0 ?_ ?_
 ·refine ⟨rfl, (by first | assumption | omega | (dsimp only; omega) | (simp; done)), (by simp), (by first | assumption | omega | (dsimp only; omega) | (simp; done)), hV⟩
 ·rintro k g w2 ⟨hj3, hk1, hb, hzl1, hV⟩
  have hs_w2hV := hV.size
  refine r_know (i := 3) (v := .int .i64 (k : Nat)) (by exact hj3) ?_
  refine r_seq ?_
  refine r_seq ?_
  refine r_region ?_
  refine r_op rfl rfl rfl (run_mv (v := .int _ _) rfl (by exact rfl)) ?_
  refine r_op rfl rfl rfl (run_mv (v := S _) rfl (by exact rfl)) ?_
  refine r_op rfl rfl rfl (run_lenS rfl (by exact rfl) Tryz.underlying9) ?_
  refine r_op rfl rfl rfl (run_lss rfl (by exact rfl) (by exact rfl)) ?_
  refine r_op rfl rfl rfl (run_mv (v := .bool _) rfl (by exact rfl)) ?_
  refine r_g rfl (wantT (by exact rfl)) rfl (fun hg => run_mv (v := S _) rfl (by exact rfl)) ?_
  refine r_g rfl (wantT (by exact rfl)) rfl (fun hg => run_mv (v := .int _ _) rfl (by exact rfl)) ?_
  refine r_g rfl (wantT (by exact rfl)) rfl (fun hg => run_ixS (k) rfl Tryz.underlying9 (glv (by exact rfl) (fun h => h) hg) (glv (by exact rfl) (fun h => h) hg) (by first | exact rfl | omega) (by omega)) ?_
  refine r_gcall rfl (wantT (by exact rfl)) rfl (fun hg => run_callf rfl (argcons (v := .int _ _) (glv (by exact rfl) (fun h => h) hg) (rfl)) Tryz.func87 rfl (by kernel_rfl)) (fun hg => (rclass_calls ).mono (fun e w' h => ⟨h.1, h.2⟩)) (fun w4 hE5 => ?_)
  have hs_w4 := (hE5).size
  replace hV := evo_step0 hV hE5
  refine r_g rfl (wantT (by exact rfl)) rfl (fun hg => run_eql rfl (glv (by exact rfl) (fun h => h) hg) (by exact rfl)) ?_
  refine r_op rfl rfl rfl (run_pick_and rfl (by exact rfl) (fun hq => glv (by exact rfl) (fun h => h) hq) rfl) ?_
  refine r_nil ?_
  refine r_cond (by exact rfl) (fun hc6 => ?_) (fun hc6 => ?_)
  ·skip
   refine r_skip ?_
   refine r_block ?_
   refine r_region ?_
   refine r_op rfl rfl rfl (run_mv (v := .int _ _) rfl (by exact rfl)) ?_
   refine r_op rfl rfl rfl (run_add rfl (by exact rfl) (by exact rfl) (by omega) (by omega)) ?_
   refine r_op rfl rfl rfl (run_asg (v := .int _ _) rfl (by exact rfl)) ?_
   refine r_nil ?_
   refine r_blk ?_
   refine r_again (k + 1) ?_ ?_ ?_
   ·first | omega | (dsimp only; omega)
   ·refine ⟨(by first | exact rfl | exact congrArg (Value.int _) (by omega) | exact congrArg (Value.int _) (by dsimp only; omega) | exact congrArg (Value.int _) (by simp) | exact congrArg S (by simp)), (by first | assumption | omega | (dsimp only; omega) | (simp; done)), (by have h8 := bl_yes (s := s) (n := k) (by omega) hc6.2; omega), (by first | assumption | omega | (dsimp only; omega) | (simp; done)), hV⟩
   ·repeat (first | (with_reducible exact Agree.merge _ _ _) | (with_reducible exact Agree.refl _ _) | (with_reducible refine Agree.upd ?_ _ _ rfl) | ((with_reducible refine Agree.inner ?_ ?_); (kernel_rfl)))
  ·skip
   refine r_exit rfl ?_
   refine r_seq ?_
   refine r_region ?_
   refine r_op rfl rfl rfl (run_mv (v := .int _ _) rfl (by exact rfl)) ?_
   refine r_op rfl rfl rfl (run_asg (v := .int _ _) rfl (by exact rfl)) ?_
   refine r_nil ?_
   refine r_ret (res1 (v := .int _ _) rfl (by exact rfl)) ?_
   exact ⟨ret_int (by have h8 := bl_noC (s := s) (k := k) (by omega) hc6; omega), hV⟩
end Go.Proofs.YtkklomiipkipnaaGreatDoor
namespace Go.Proofs.YtkklomiipkipnaaGreatDoor
open Go.RowKit Go.Vc
theorem ag_52 : aggP Tryz.prog 52 = some true := by kernel_rfl
theorem fo_52_0 : fieldP Tryz.prog 52 0 = some 0 := by kernel_rfl
theorem fo_52_1 : fieldP Tryz.prog 52 1 = some 1 := by kernel_rfl
theorem fo_52_2 : fieldP Tryz.prog 52 2 = some 2 := by kernel_rfl
theorem pl_38 : placesP Tryz.prog 38 = some [(0, 1), (1, 1), (2, 1)] := by kernel_rfl
theorem ty_38 : tyP Tryz.prog 38 = some (3, 32, some (.agg #[(.int .i64 0), (.string ⟨#[]⟩), (.int .i64 0)])) := by kernel_rfl
theorem ty_52 : tyP Tryz.prog 52 = some (3, 32, some (.agg #[(.int .i64 0), (.string ⟨#[]⟩), (.int .i64 0)])) := by kernel_rfl
theorem cut_step {r : Str} {l L : List Vc.Item} {p : Int × Nat} (hp : tokN r = p) (hacc : l ++ cutT r = L) (hr : ¬ r = []) : (l ++ [⟨p.1, r.take p.2, 0⟩]) ++ cutT (r.drop p.2) = L := by
  rw [cutT_cons hr, hp] at hacc
  rw [List.append_assoc]; exact hacc
theorem fLen_at : ∀ (f : List Vc.Item) (k : Nat), (f.getD k default).text.length ≤ fLen f
  | [], k => by show ([] : Str).length ≤ _; exact Nat.zero_le _
  | x :: f, 0 => by simp [fLen]
  | x :: f, k + 1 => by
    have := fLen_at f k
    simp only [fLen, List.map_cons, List.sum_cons, List.getD_cons_succ] at *
    omega
theorem fLen_take : ∀ (f : List Vc.Item) (k : Nat), fLen (f.take k) ≤ fLen f
  | [], k => by simp
  | x :: f, 0 => by simp [fLen]
  | x :: f, k + 1 => by
    have := fLen_take f k
    simp only [fLen, List.take_succ_cons, List.map_cons, List.sum_cons] at *
    omega
theorem fLen_snoc (f : List Vc.Item) (k : Nat) (h : k < f.length) : fLen (f.take k) + (f.getD k default).text.length ≤ fLen f := by
  have h1 := fLen_take f (k + 1)
  rw [take_succD f k h] at h1
  simpa [fLen] using h1
theorem tokI_text {x : Vc.Item} (h : x.kind = 1) : tokI x = cutT x.text := if_pos h
theorem tokI_tag {x : Vc.Item} (h : x.kind = 2 ∨ x.kind = 3 ∨ x.kind = 4 ∨ x.kind = 5) : tokI x = [x] := by unfold tokI; rw [if_neg (by omega), if_pos (by omega)]
theorem tokI_none {x : Vc.Item} (h : ¬ x.kind = 1) (h2 : ¬ x.kind = 2) (h3 : ¬ x.kind = 3) (h4 : ¬ x.kind = 4) (h5 : ¬ x.kind = 5) : tokI x = [] := by unfold tokI; rw [if_neg h, if_neg (by omega)]
theorem cut_bd (s : Str) : (cutT s).length ≤ s.length := cutT_len _ s rfl
theorem cut_c1 {r : Str} (h : ¬ r = []) (h2 : (0 : Int) < ((blL r : Nat) : Int)) : tokN r = (8, blL r) := tok_blank h (by omega)
theorem cut_c2 {r : Str} (h : ¬ r = []) (h2 : ¬ (0 : Int) < ((blL r : Nat) : Int)) (h1 : (0 : Int) < ((numL r : Nat) : Int)) : tokN r = (7, numL r) := tok_num h (by omega) (by omega)
theorem cut_c3 {r : Str} (h : ¬ r = []) (h2 : ¬ (0 : Int) < ((blL r : Nat) : Int)) (h1 : ¬ (0 : Int) < ((numL r : Nat) : Int)) (h0 : (0 : Int) < ((wordL r : Nat) : Int)) : tokN r = (6, wordL r) := tok_word h (by omega) (by omega) (by omega)
theorem cut_c4 {r : Str} (h : ¬ r = []) (h2 : ¬ (0 : Int) < ((blL r : Nat) : Int)) (h1 : ¬ (0 : Int) < ((numL r : Nat) : Int)) (h0 : ¬ (0 : Int) < ((wordL r : Nat) : Int)) : tokN r = (9, 1) := tok_sign h (by omega) (by omega) (by omega)
theorem rcut_calls {s : Str} {w0 : World} (hs : s.length ≤ 1000000000) :
    Calls Tryz.prog 46 #[S s] w0 fun e w' => ∃ v, e = .returned v ∧ Evo w0 w' [] ∧ OwnE w' w0.heap.size 38 v (cutT s) := by
 have hcb := cut_bd s
 refine calls_enter (n := 39) (args := [S s]) Tryz.func46 rfl Tryz.ntmps46 rfl ?_
 have hV : Evo w0 w0 [] := Evo.refl _ _
 refine r_seq ?_
 refine r_region ?_
 refine r_op rfl rfl rfl (run_asg (v := .slice _ _ _) rfl (by exact rfl)) ?_
 refine r_nil ?_
 refine r_seq ?_
 refine r_region ?_
 refine r_op rfl rfl rfl (run_asg (v := .slice _ _ _) rfl (by exact rfl)) ?_
 refine r_nil ?_
 refine r_seq ?_
 refine r_block ?_
 refine r_loop (α := Str) [0, 3, 4, 5, 6, 7, 8, 9, 10, 11, 12, 13, 14, 15, 16, 17, 18, 19, 20, 21, 22, 23, 24, 25, 26, 27, 28, 29, 30, 31, 32, 33, 34, 35, 36, 37] (fun r g w => ∃ vo : Value, ∃ l : List Vc.Item, g 0 = S r ∧ g 3 = vo ∧ OwnE w w0.heap.size 38 vo l ∧ l ++ cutT r = cutT s ∧ r.length ≤ s.length ∧ w0.heap.size ≤ w.heap.size ∧ Evo w0 w []) (fun r => r.length) s ?_ ?_
 ·refine ⟨_, [], rfl, rfl, (OwnE.nil _ _ _), (List.nil_append _), (Nat.le_refl _), (by first | assumption | omega | (dsimp only; omega) | (simp; done)), hV⟩
 ·rintro r g w2 ⟨vo, l, hj3, hj4, hoo, hacc, hrl, hzl1, hV⟩
  have hs_w2hV := hV.size
  refine r_know (i := 0) (v := S r) (by exact hj3) ?_
  refine r_know (i := 3) (v := vo) (by exact hj4) ?_
  have hla := congrArg List.length hacc
  rw [List.length_append] at hla
  refine r_seq ?_
  refine r_seq ?_
  refine r_region ?_
  refine r_op rfl rfl rfl (run_mv (v := S _) rfl (by exact rfl)) ?_
  refine r_op rfl rfl rfl (run_lenS rfl (by exact rfl) Tryz.underlying9) ?_
  refine r_op rfl rfl rfl (run_gtr rfl (by exact rfl) (by exact rfl)) ?_
  refine r_nil ?_
  refine r_cond (by exact rfl) (fun hc5 => ?_) (fun hc5 => ?_)
  ·skip
   refine r_skip ?_
   refine r_block ?_
   refine r_seq ?_
   have hr0 : 0 < r.length := by omega
   have hne : ¬ r = [] := fun e => by rw [e] at hr0; simp at hr0
   have htl := tokN_len hne; have htp := tokN_pos r
   refine r_region ?_
   refine r_op rfl rfl rfl (run_asg (v := .int _ _) rfl (by exact rfl)) ?_
   refine r_op rfl rfl rfl (run_asg (v := .int _ _) rfl (by exact rfl)) ?_
   refine r_nil ?_
   refine r_seq ?_
   refine r_seq ?_
   refine r_region ?_
   refine r_op rfl rfl rfl (run_mv (v := S _) rfl (by exact rfl)) ?_
   refine r_opcall rfl rfl rfl (run_callf (vs := [S _]) rfl (by exact rfl) Tryz.func73 rfl (by kernel_rfl)) (rword_calls (by omega)) ?_
   rintro e w6 ⟨rfl, hE6⟩
   refine ⟨_, rfl, ?_⟩
   have hs_w6 := (hE6).size
   replace hV := evo_step0 hV hE6
   replace hoo := hoo.evo0 hE6
   refine r_op rfl rfl rfl (run_asg (v := .int _ _) rfl (by exact rfl)) ?_
   refine r_nil ?_
   refine r_seq ?_
   refine r_region ?_
   refine r_op rfl rfl rfl (run_mv (v := .int _ _) rfl (by exact rfl)) ?_
   refine r_op rfl rfl rfl (run_gtr rfl (by exact rfl) (by exact rfl)) ?_
   refine r_nil ?_
   refine r_cond (by exact rfl) (fun hc7 => ?_) (fun hc7 => ?_)
   ·skip
    refine r_region ?_
    refine r_op rfl rfl rfl (run_mv (v := .int _ _) rfl (by exact rfl)) ?_
    refine r_op rfl rfl rfl (run_asg (v := .int _ _) rfl (by exact rfl)) ?_
    refine r_op rfl rfl rfl (run_asg (v := .int _ _) rfl (by exact rfl)) ?_
    refine r_nil ?_
    refine r_seq ?_
    refine r_seq ?_
    refine r_region ?_
    refine r_op rfl rfl rfl (run_mv (v := S _) rfl (by exact rfl)) ?_
    refine r_opcall rfl rfl rfl (run_callf (vs := [S _]) rfl (by exact rfl) Tryz.func74 rfl (by kernel_rfl)) (rnumber_calls (by omega)) ?_
    rintro e w8 ⟨rfl, hE8⟩
    refine ⟨_, rfl, ?_⟩
    have hs_w8 := (hE8).size
    replace hV := evo_step0 hV hE8
    replace hoo := hoo.evo0 hE8
    refine r_op rfl rfl rfl (run_asg (v := .int _ _) rfl (by exact rfl)) ?_
    refine r_nil ?_
    refine r_seq ?_
    refine r_region ?_
    refine r_op rfl rfl rfl (run_mv (v := .int _ _) rfl (by exact rfl)) ?_
    refine r_op rfl rfl rfl (run_gtr rfl (by exact rfl) (by exact rfl)) ?_
    refine r_nil ?_
    refine r_cond (by exact rfl) (fun hc9 => ?_) (fun hc9 => ?_)
    ·skip
     refine r_region ?_
     refine r_op rfl rfl rfl (run_mv (v := .int _ _) rfl (by exact rfl)) ?_
     refine r_op rfl rfl rfl (run_asg (v := .int _ _) rfl (by exact rfl)) ?_
     refine r_op rfl rfl rfl (run_asg (v := .int _ _) rfl (by exact rfl)) ?_
     refine r_nil ?_
     refine r_seq ?_
     refine r_seq ?_
     refine r_region ?_
     refine r_op rfl rfl rfl (run_mv (v := S _) rfl (by exact rfl)) ?_
     refine r_opcall rfl rfl rfl (run_callf (vs := [S _]) rfl (by exact rfl) Tryz.func75 rfl (by kernel_rfl)) (rblank_calls (by omega)) ?_
     rintro e w10 ⟨rfl, hE10⟩
     refine ⟨_, rfl, ?_⟩
     have hs_w10 := (hE10).size
     replace hV := evo_step0 hV hE10
     replace hoo := hoo.evo0 hE10
     refine r_op rfl rfl rfl (run_asg (v := .int _ _) rfl (by exact rfl)) ?_
     refine r_nil ?_
     refine r_seq ?_
     refine r_region ?_
     refine r_op rfl rfl rfl (run_mv (v := .int _ _) rfl (by exact rfl)) ?_
     refine r_op rfl rfl rfl (run_gtr rfl (by exact rfl) (by exact rfl)) ?_
     refine r_nil ?_
     refine r_cond (by exact rfl) (fun hc11 => ?_) (fun hc11 => ?_)
     ·skip
      refine r_region ?_
      refine r_op rfl rfl rfl (run_mv (v := .int _ _) rfl (by exact rfl)) ?_
      refine r_op rfl rfl rfl (run_asg (v := .int _ _) rfl (by exact rfl)) ?_
      refine r_op rfl rfl rfl (run_asg (v := .int _ _) rfl (by exact rfl)) ?_
      refine r_nil ?_
      refine r_seq ?_
      refine r_know (i := 4) (v := .int .i64 (tokN r).1) (by first | (rw [cut_c1 hne (by assumption)]; exact rfl) | (rw [cut_c2 hne (by assumption) (by assumption)]; exact rfl) | (rw [cut_c3 hne (by assumption) (by assumption) (by assumption)]; exact rfl) | (rw [cut_c4 hne (by assumption) (by assumption) (by assumption)]; exact rfl)) ?_
      refine r_know (i := 5) (v := .int .i64 (((tokN r).2 : Nat) : Int)) (by first | (rw [cut_c1 hne (by assumption)]; exact rfl) | (rw [cut_c2 hne (by assumption) (by assumption)]; exact rfl) | (rw [cut_c3 hne (by assumption) (by assumption) (by assumption)]; exact rfl) | (rw [cut_c4 hne (by assumption) (by assumption) (by assumption)]; exact rfl)) ?_
      refine r_region ?_
      refine r_op rfl rfl rfl (run_mv (v := vo) rfl (by exact rfl)) ?_
      refine r_op rfl rfl rfl (run_mv (v := .int _ _) rfl (by exact rfl)) ?_
      refine r_op rfl rfl rfl (run_mv (v := S _) rfl (by exact rfl)) ?_
      refine r_op rfl rfl rfl (run_mv (v := .int _ _) rfl (by exact rfl)) ?_
      refine r_op rfl rfl rfl (by exact run_slS (0) ((tokN r).2) rfl Tryz.underlying9 (by exact rfl) lo0 (at1 (by exact rfl) (by omega)) (by first | omega | (simp; omega)) (by first | omega | (simp; omega))) ?_
      refine r_op rfl rfl rfl (run_bld (pv := [(0, .int _ _), (1, S _)]) (zs := [_, _, _]) (cells := [_, _, _]) rfl ty_38 (by exact rfl) pl_38 (by exact rfl) (by exact rfl)) ?_
      refine r_append1E (u := .agg _) (y := (⟨(tokN r).1, r.take (tokN r).2, 0⟩ : Vc.Item)) rfl rfl Tryz.underlying24 ty_38 (by exact rfl) hoo (fun _ => (by exact rfl)) (by exact rfl) (by first | exact rfl | (show _ = List.toArray [_, _, _]; first | (dsimp only; done) | exact rfl | (dsimp only; exact rfl))) ((by first | omega | (simp; omega))) ((by first | omega | (simp; omega))) (by omega) ?_
      intro q_v12 v12 w13 hEw13 hov12 hlv12
      have hs_w13 := (hEw13).size
      replace hV := evo_stepo hV hEw13 (fun g hg => .inl (by first | exact (hoo.block hg).1 | (have := hoo.block hg; omega)))
      refine r_op rfl rfl rfl (run_asg (v := v12) rfl (by exact rfl)) ?_
      refine r_nil ?_
      refine r_region ?_
      refine r_op rfl rfl rfl (run_mv (v := S _) rfl (by exact rfl)) ?_
      refine r_op rfl rfl rfl (run_mv (v := .int _ _) rfl (by exact rfl)) ?_
      refine r_op rfl rfl rfl (by exact run_slS ((tokN r).2) (_) rfl Tryz.underlying9 (by exact rfl) (at1 (by exact rfl) (by omega)) hi0 (by first | omega | (simp; omega)) (by first | omega | (simp; omega))) ?_
      refine r_op rfl rfl rfl (run_asg (v := S _) rfl (by exact rfl)) ?_
      refine r_nil ?_
      refine r_blk ?_
      refine r_again (r.drop (tokN r).2) ?_ ?_ ?_
      ·rw [List.length_drop]; omega
      ·refine ⟨_, _, (congrArg S (List.take_of_length_le (by rw [List.length_drop]; exact Nat.le_refl _))), rfl, hov12, (cut_step (p := ((tokN r).1, (tokN r).2)) rfl hacc hne), (by rw [List.length_drop]; omega), (by first | assumption | omega | (dsimp only; omega) | (simp; done)), hV⟩
      ·repeat (first | (with_reducible exact Agree.merge _ _ _) | (with_reducible exact Agree.refl _ _) | (with_reducible refine Agree.upd ?_ _ _ rfl) | ((with_reducible refine Agree.inner ?_ ?_); (kernel_rfl)))
     ·skip
      refine r_skip ?_
      refine r_seq ?_
      refine r_know (i := 4) (v := .int .i64 (tokN r).1) (by first | (rw [cut_c1 hne (by assumption)]; exact rfl) | (rw [cut_c2 hne (by assumption) (by assumption)]; exact rfl) | (rw [cut_c3 hne (by assumption) (by assumption) (by assumption)]; exact rfl) | (rw [cut_c4 hne (by assumption) (by assumption) (by assumption)]; exact rfl)) ?_
      refine r_know (i := 5) (v := .int .i64 (((tokN r).2 : Nat) : Int)) (by first | (rw [cut_c1 hne (by assumption)]; exact rfl) | (rw [cut_c2 hne (by assumption) (by assumption)]; exact rfl) | (rw [cut_c3 hne (by assumption) (by assumption) (by assumption)]; exact rfl) | (rw [cut_c4 hne (by assumption) (by assumption) (by assumption)]; exact rfl)) ?_
      refine r_region ?_
      refine r_op rfl rfl rfl (run_mv (v := vo) rfl (by exact rfl)) ?_
      refine r_op rfl rfl rfl (run_mv (v := .int _ _) rfl (by exact rfl)) ?_
      refine r_op rfl rfl rfl (run_mv (v := S _) rfl (by exact rfl)) ?_
      refine r_op rfl rfl rfl (run_mv (v := .int _ _) rfl (by exact rfl)) ?_
      refine r_op rfl rfl rfl (by exact run_slS (0) ((tokN r).2) rfl Tryz.underlying9 (by exact rfl) lo0 (at1 (by exact rfl) (by omega)) (by first | omega | (simp; omega)) (by first | omega | (simp; omega))) ?_
      refine r_op rfl rfl rfl (run_bld (pv := [(0, .int _ _), (1, S _)]) (zs := [_, _, _]) (cells := [_, _, _]) rfl ty_38 (by exact rfl) pl_38 (by exact rfl) (by exact rfl)) ?_
      refine r_append1E (u := .agg _) (y := (⟨(tokN r).1, r.take (tokN r).2, 0⟩ : Vc.Item)) rfl rfl Tryz.underlying24 ty_38 (by exact rfl) hoo (fun _ => (by exact rfl)) (by exact rfl) (by first | exact rfl | (show _ = List.toArray [_, _, _]; first | (dsimp only; done) | exact rfl | (dsimp only; exact rfl))) ((by first | omega | (simp; omega))) ((by first | omega | (simp; omega))) (by omega) ?_
      intro q_v14 v14 w15 hEw15 hov14 hlv14
      have hs_w15 := (hEw15).size
      replace hV := evo_stepo hV hEw15 (fun g hg => .inl (by first | exact (hoo.block hg).1 | (have := hoo.block hg; omega)))
      refine r_op rfl rfl rfl (run_asg (v := v14) rfl (by exact rfl)) ?_
      refine r_nil ?_
      refine r_region ?_
      refine r_op rfl rfl rfl (run_mv (v := S _) rfl (by exact rfl)) ?_
      refine r_op rfl rfl rfl (run_mv (v := .int _ _) rfl (by exact rfl)) ?_
      refine r_op rfl rfl rfl (by exact run_slS ((tokN r).2) (_) rfl Tryz.underlying9 (by exact rfl) (at1 (by exact rfl) (by omega)) hi0 (by first | omega | (simp; omega)) (by first | omega | (simp; omega))) ?_
      refine r_op rfl rfl rfl (run_asg (v := S _) rfl (by exact rfl)) ?_
      refine r_nil ?_
      refine r_blk ?_
      refine r_again (r.drop (tokN r).2) ?_ ?_ ?_
      ·rw [List.length_drop]; omega
      ·refine ⟨_, _, (congrArg S (List.take_of_length_le (by rw [List.length_drop]; exact Nat.le_refl _))), rfl, hov14, (cut_step (p := ((tokN r).1, (tokN r).2)) rfl hacc hne), (by rw [List.length_drop]; omega), (by first | assumption | omega | (dsimp only; omega) | (simp; done)), hV⟩
      ·repeat (first | (with_reducible exact Agree.merge _ _ _) | (with_reducible exact Agree.refl _ _) | (with_reducible refine Agree.upd ?_ _ _ rfl) | ((with_reducible refine Agree.inner ?_ ?_); (kernel_rfl)))
    ·skip
     refine r_skip ?_
     refine r_seq ?_
     refine r_seq ?_
     refine r_region ?_
     refine r_op rfl rfl rfl (run_mv (v := S _) rfl (by exact rfl)) ?_
     refine r_opcall rfl rfl rfl (run_callf (vs := [S _]) rfl (by exact rfl) Tryz.func75 rfl (by kernel_rfl)) (rblank_calls (by omega)) ?_
     rintro e w16 ⟨rfl, hE16⟩
     refine ⟨_, rfl, ?_⟩
     have hs_w16 := (hE16).size
     replace hV := evo_step0 hV hE16
     replace hoo := hoo.evo0 hE16
     refine r_op rfl rfl rfl (run_asg (v := .int _ _) rfl (by exact rfl)) ?_
     refine r_nil ?_
     refine r_seq ?_
     refine r_region ?_
     refine r_op rfl rfl rfl (run_mv (v := .int _ _) rfl (by exact rfl)) ?_
     refine r_op rfl rfl rfl (run_gtr rfl (by exact rfl) (by exact rfl)) ?_
     refine r_nil ?_
     refine r_cond (by exact rfl) (fun hc17 => ?_) (fun hc17 => ?_)
     ·skip
      refine r_region ?_
      refine r_op rfl rfl rfl (run_mv (v := .int _ _) rfl (by exact rfl)) ?_
      refine r_op rfl rfl rfl (run_asg (v := .int _ _) rfl (by exact rfl)) ?_
      refine r_op rfl rfl rfl (run_asg (v := .int _ _) rfl (by exact rfl)) ?_
      refine r_nil ?_
      refine r_seq ?_
      refine r_know (i := 4) (v := .int .i64 (tokN r).1) (by first | (rw [cut_c1 hne (by assumption)]; exact rfl) | (rw [cut_c2 hne (by assumption) (by assumption)]; exact rfl) | (rw [cut_c3 hne (by assumption) (by assumption) (by assumption)]; exact rfl) | (rw [cut_c4 hne (by assumption) (by assumption) (by assumption)]; exact rfl)) ?_
      refine r_know (i := 5) (v := .int .i64 (((tokN r).2 : Nat) : Int)) (by first | (rw [cut_c1 hne (by assumption)]; exact rfl) | (rw [cut_c2 hne (by assumption) (by assumption)]; exact rfl) | (rw [cut_c3 hne (by assumption) (by assumption) (by assumption)]; exact rfl) | (rw [cut_c4 hne (by assumption) (by assumption) (by assumption)]; exact rfl)) ?_
      refine r_region ?_
      refine r_op rfl rfl rfl (run_mv (v := vo) rfl (by exact rfl)) ?_
      refine r_op rfl rfl rfl (run_mv (v := .int _ _) rfl (by exact rfl)) ?_
      refine r_op rfl rfl rfl (run_mv (v := S _) rfl (by exact rfl)) ?_
      refine r_op rfl rfl rfl (run_mv (v := .int _ _) rfl (by exact rfl)) ?_
      refine r_op rfl rfl rfl (by exact run_slS (0) ((tokN r).2) rfl Tryz.underlying9 (by exact rfl) lo0 (at1 (by exact rfl) (by omega)) (by first | omega | (simp; omega)) (by first | omega | (simp; omega))) ?_
      refine r_op rfl rfl rfl (run_bld (pv := [(0, .int _ _), (1, S _)]) (zs := [_, _, _]) (cells := [_, _, _]) rfl ty_38 (by exact rfl) pl_38 (by exact rfl) (by exact rfl)) ?_
      refine r_append1E (u := .agg _) (y := (⟨(tokN r).1, r.take (tokN r).2, 0⟩ : Vc.Item)) rfl rfl Tryz.underlying24 ty_38 (by exact rfl) hoo (fun _ => (by exact rfl)) (by exact rfl) (by first | exact rfl | (show _ = List.toArray [_, _, _]; first | (dsimp only; done) | exact rfl | (dsimp only; exact rfl))) ((by first | omega | (simp; omega))) ((by first | omega | (simp; omega))) (by omega) ?_
      intro q_v18 v18 w19 hEw19 hov18 hlv18
      have hs_w19 := (hEw19).size
      replace hV := evo_stepo hV hEw19 (fun g hg => .inl (by first | exact (hoo.block hg).1 | (have := hoo.block hg; omega)))
      refine r_op rfl rfl rfl (run_asg (v := v18) rfl (by exact rfl)) ?_
      refine r_nil ?_
      refine r_region ?_
      refine r_op rfl rfl rfl (run_mv (v := S _) rfl (by exact rfl)) ?_
      refine r_op rfl rfl rfl (run_mv (v := .int _ _) rfl (by exact rfl)) ?_
      refine r_op rfl rfl rfl (by exact run_slS ((tokN r).2) (_) rfl Tryz.underlying9 (by exact rfl) (at1 (by exact rfl) (by omega)) hi0 (by first | omega | (simp; omega)) (by first | omega | (simp; omega))) ?_
      refine r_op rfl rfl rfl (run_asg (v := S _) rfl (by exact rfl)) ?_
      refine r_nil ?_
      refine r_blk ?_
      refine r_again (r.drop (tokN r).2) ?_ ?_ ?_
      ·rw [List.length_drop]; omega
      ·refine ⟨_, _, (congrArg S (List.take_of_length_le (by rw [List.length_drop]; exact Nat.le_refl _))), rfl, hov18, (cut_step (p := ((tokN r).1, (tokN r).2)) rfl hacc hne), (by rw [List.length_drop]; omega), (by first | assumption | omega | (dsimp only; omega) | (simp; done)), hV⟩
      ·repeat (first | (with_reducible exact Agree.merge _ _ _) | (with_reducible exact Agree.refl _ _) | (with_reducible refine Agree.upd ?_ _ _ rfl) | ((with_reducible refine Agree.inner ?_ ?_); (kernel_rfl)))
     ·skip
      refine r_skip ?_
      refine r_seq ?_
      refine r_know (i := 4) (v := .int .i64 (tokN r).1) (by first | (rw [cut_c1 hne (by assumption)]; exact rfl) | (rw [cut_c2 hne (by assumption) (by assumption)]; exact rfl) | (rw [cut_c3 hne (by assumption) (by assumption) (by assumption)]; exact rfl) | (rw [cut_c4 hne (by assumption) (by assumption) (by assumption)]; exact rfl)) ?_
      refine r_know (i := 5) (v := .int .i64 (((tokN r).2 : Nat) : Int)) (by first | (rw [cut_c1 hne (by assumption)]; exact rfl) | (rw [cut_c2 hne (by assumption) (by assumption)]; exact rfl) | (rw [cut_c3 hne (by assumption) (by assumption) (by assumption)]; exact rfl) | (rw [cut_c4 hne (by assumption) (by assumption) (by assumption)]; exact rfl)) ?_
      refine r_region ?_
      refine r_op rfl rfl rfl (run_mv (v := vo) rfl (by exact rfl)) ?_
      refine r_op rfl rfl rfl (run_mv (v := .int _ _) rfl (by exact rfl)) ?_
      refine r_op rfl rfl rfl (run_mv (v := S _) rfl (by exact rfl)) ?_
      refine r_op rfl rfl rfl (run_mv (v := .int _ _) rfl (by exact rfl)) ?_
      refine r_op rfl rfl rfl (by exact run_slS (0) ((tokN r).2) rfl Tryz.underlying9 (by exact rfl) lo0 (at1 (by exact rfl) (by omega)) (by first | omega | (simp; omega)) (by first | omega | (simp; omega))) ?_
      refine r_op rfl rfl rfl (run_bld (pv := [(0, .int _ _), (1, S _)]) (zs := [_, _, _]) (cells := [_, _, _]) rfl ty_38 (by exact rfl) pl_38 (by exact rfl) (by exact rfl)) ?_
      refine r_append1E (u := .agg _) (y := (⟨(tokN r).1, r.take (tokN r).2, 0⟩ : Vc.Item)) rfl rfl Tryz.underlying24 ty_38 (by exact rfl) hoo (fun _ => (by exact rfl)) (by exact rfl) (by first | exact rfl | (show _ = List.toArray [_, _, _]; first | (dsimp only; done) | exact rfl | (dsimp only; exact rfl))) ((by first | omega | (simp; omega))) ((by first | omega | (simp; omega))) (by omega) ?_
      intro q_v20 v20 w21 hEw21 hov20 hlv20
      have hs_w21 := (hEw21).size
      replace hV := evo_stepo hV hEw21 (fun g hg => .inl (by first | exact (hoo.block hg).1 | (have := hoo.block hg; omega)))
      refine r_op rfl rfl rfl (run_asg (v := v20) rfl (by exact rfl)) ?_
      refine r_nil ?_
      refine r_region ?_
      refine r_op rfl rfl rfl (run_mv (v := S _) rfl (by exact rfl)) ?_
      refine r_op rfl rfl rfl (run_mv (v := .int _ _) rfl (by exact rfl)) ?_
      refine r_op rfl rfl rfl (by exact run_slS ((tokN r).2) (_) rfl Tryz.underlying9 (by exact rfl) (at1 (by exact rfl) (by omega)) hi0 (by first | omega | (simp; omega)) (by first | omega | (simp; omega))) ?_
      refine r_op rfl rfl rfl (run_asg (v := S _) rfl (by exact rfl)) ?_
      refine r_nil ?_
      refine r_blk ?_
      refine r_again (r.drop (tokN r).2) ?_ ?_ ?_
      ·rw [List.length_drop]; omega
      ·refine ⟨_, _, (congrArg S (List.take_of_length_le (by rw [List.length_drop]; exact Nat.le_refl _))), rfl, hov20, (cut_step (p := ((tokN r).1, (tokN r).2)) rfl hacc hne), (by rw [List.length_drop]; omega), (by first | assumption | omega | (dsimp only; omega) | (simp; done)), hV⟩
      ·repeat (first | (with_reducible exact Agree.merge _ _ _) | (with_reducible exact Agree.refl _ _) | (with_reducible refine Agree.upd ?_ _ _ rfl) | ((with_reducible refine Agree.inner ?_ ?_); (kernel_rfl)))
   ·skip
    refine r_skip ?_
    refine r_seq ?_
    refine r_seq ?_
    refine r_region ?_
    refine r_op rfl rfl rfl (run_mv (v := S _) rfl (by exact rfl)) ?_
    refine r_opcall rfl rfl rfl (run_callf (vs := [S _]) rfl (by exact rfl) Tryz.func74 rfl (by kernel_rfl)) (rnumber_calls (by omega)) ?_
    rintro e w22 ⟨rfl, hE22⟩
    refine ⟨_, rfl, ?_⟩
    have hs_w22 := (hE22).size
    replace hV := evo_step0 hV hE22
    replace hoo := hoo.evo0 hE22
    refine r_op rfl rfl rfl (run_asg (v := .int _ _) rfl (by exact rfl)) ?_
    refine r_nil ?_
    refine r_seq ?_
    refine r_region ?_
    refine r_op rfl rfl rfl (run_mv (v := .int _ _) rfl (by exact rfl)) ?_
    refine r_op rfl rfl rfl (run_gtr rfl (by exact rfl) (by exact rfl)) ?_
    refine r_nil ?_
    refine r_cond (by exact rfl) (fun hc23 => ?_) (fun hc23 => ?_)
    ·skip
     refine r_region ?_
     refine r_op rfl rfl rfl (run_mv (v := .int _ _) rfl (by exact rfl)) ?_
     refine r_op rfl rfl rfl (run_asg (v := .int _ _) rfl (by exact rfl)) ?_
     refine r_op rfl rfl rfl (run_asg (v := .int _ _) rfl (by exact rfl)) ?_
     refine r_nil ?_
     refine r_seq ?_
     refine r_seq ?_
     refine r_region ?_
     refine r_op rfl rfl rfl (run_mv (v := S _) rfl (by exact rfl)) ?_
     refine r_opcall rfl rfl rfl (run_callf (vs := [S _]) rfl (by exact rfl) Tryz.func75 rfl (by kernel_rfl)) (rblank_calls (by omega)) ?_
     rintro e w24 ⟨rfl, hE24⟩
     refine ⟨_, rfl, ?_⟩
     have hs_w24 := (hE24).size
     replace hV := evo_step0 hV hE24
     replace hoo := hoo.evo0 hE24
     refine r_op rfl rfl rfl (run_asg (v := .int _ _) rfl (by exact rfl)) ?_
     refine r_nil ?_
     refine r_seq ?_
     refine r_region ?_
     refine r_op rfl rfl rfl (run_mv (v := .int _ _) rfl (by exact rfl)) ?_
     refine r_op rfl rfl rfl (run_gtr rfl (by exact rfl) (by exact rfl)) ?_
     refine r_nil ?_
     refine r_cond (by exact rfl) (fun hc25 => ?_) (fun hc25 => ?_)
     ·skip
      refine r_region ?_
      refine r_op rfl rfl rfl (run_mv (v := .int _ _) rfl (by exact rfl)) ?_
      refine r_op rfl rfl rfl (run_asg (v := .int _ _) rfl (by exact rfl)) ?_
      refine r_op rfl rfl rfl (run_asg (v := .int _ _) rfl (by exact rfl)) ?_
      refine r_nil ?_
      refine r_seq ?_
      refine r_know (i := 4) (v := .int .i64 (tokN r).1) (by first | (rw [cut_c1 hne (by assumption)]; exact rfl) | (rw [cut_c2 hne (by assumption) (by assumption)]; exact rfl) | (rw [cut_c3 hne (by assumption) (by assumption) (by assumption)]; exact rfl) | (rw [cut_c4 hne (by assumption) (by assumption) (by assumption)]; exact rfl)) ?_
      refine r_know (i := 5) (v := .int .i64 (((tokN r).2 : Nat) : Int)) (by first | (rw [cut_c1 hne (by assumption)]; exact rfl) | (rw [cut_c2 hne (by assumption) (by assumption)]; exact rfl) | (rw [cut_c3 hne (by assumption) (by assumption) (by assumption)]; exact rfl) | (rw [cut_c4 hne (by assumption) (by assumption) (by assumption)]; exact rfl)) ?_
      refine r_region ?_
      refine r_op rfl rfl rfl (run_mv (v := vo) rfl (by exact rfl)) ?_
      refine r_op rfl rfl rfl (run_mv (v := .int _ _) rfl (by exact rfl)) ?_
      refine r_op rfl rfl rfl (run_mv (v := S _) rfl (by exact rfl)) ?_
      refine r_op rfl rfl rfl (run_mv (v := .int _ _) rfl (by exact rfl)) ?_
      refine r_op rfl rfl rfl (by exact run_slS (0) ((tokN r).2) rfl Tryz.underlying9 (by exact rfl) lo0 (at1 (by exact rfl) (by omega)) (by first | omega | (simp; omega)) (by first | omega | (simp; omega))) ?_
      refine r_op rfl rfl rfl (run_bld (pv := [(0, .int _ _), (1, S _)]) (zs := [_, _, _]) (cells := [_, _, _]) rfl ty_38 (by exact rfl) pl_38 (by exact rfl) (by exact rfl)) ?_
      refine r_append1E (u := .agg _) (y := (⟨(tokN r).1, r.take (tokN r).2, 0⟩ : Vc.Item)) rfl rfl Tryz.underlying24 ty_38 (by exact rfl) hoo (fun _ => (by exact rfl)) (by exact rfl) (by first | exact rfl | (show _ = List.toArray [_, _, _]; first | (dsimp only; done) | exact rfl | (dsimp only; exact rfl))) ((by first | omega | (simp; omega))) ((by first | omega | (simp; omega))) (by omega) ?_
      intro q_v26 v26 w27 hEw27 hov26 hlv26
      have hs_w27 := (hEw27).size
      replace hV := evo_stepo hV hEw27 (fun g hg => .inl (by first | exact (hoo.block hg).1 | (have := hoo.block hg; omega)))
      refine r_op rfl rfl rfl (run_asg (v := v26) rfl (by exact rfl)) ?_
      refine r_nil ?_
      refine r_region ?_
      refine r_op rfl rfl rfl (run_mv (v := S _) rfl (by exact rfl)) ?_
      refine r_op rfl rfl rfl (run_mv (v := .int _ _) rfl (by exact rfl)) ?_
      refine r_op rfl rfl rfl (by exact run_slS ((tokN r).2) (_) rfl Tryz.underlying9 (by exact rfl) (at1 (by exact rfl) (by omega)) hi0 (by first | omega | (simp; omega)) (by first | omega | (simp; omega))) ?_
      refine r_op rfl rfl rfl (run_asg (v := S _) rfl (by exact rfl)) ?_
      refine r_nil ?_
      refine r_blk ?_
      refine r_again (r.drop (tokN r).2) ?_ ?_ ?_
      ·rw [List.length_drop]; omega
      ·refine ⟨_, _, (congrArg S (List.take_of_length_le (by rw [List.length_drop]; exact Nat.le_refl _))), rfl, hov26, (cut_step (p := ((tokN r).1, (tokN r).2)) rfl hacc hne), (by rw [List.length_drop]; omega), (by first | assumption | omega | (dsimp only; omega) | (simp; done)), hV⟩
      ·repeat (first | (with_reducible exact Agree.merge _ _ _) | (with_reducible exact Agree.refl _ _) | (with_reducible refine Agree.upd ?_ _ _ rfl) | ((with_reducible refine Agree.inner ?_ ?_); (kernel_rfl)))
     ·skip
      refine r_skip ?_
      refine r_seq ?_
      refine r_know (i := 4) (v := .int .i64 (tokN r).1) (by first | (rw [cut_c1 hne (by assumption)]; exact rfl) | (rw [cut_c2 hne (by assumption) (by assumption)]; exact rfl) | (rw [cut_c3 hne (by assumption) (by assumption) (by assumption)]; exact rfl) | (rw [cut_c4 hne (by assumption) (by assumption) (by assumption)]; exact rfl)) ?_
      refine r_know (i := 5) (v := .int .i64 (((tokN r).2 : Nat) : Int)) (by first | (rw [cut_c1 hne (by assumption)]; exact rfl) | (rw [cut_c2 hne (by assumption) (by assumption)]; exact rfl) | (rw [cut_c3 hne (by assumption) (by assumption) (by assumption)]; exact rfl) | (rw [cut_c4 hne (by assumption) (by assumption) (by assumption)]; exact rfl)) ?_
      refine r_region ?_
      refine r_op rfl rfl rfl (run_mv (v := vo) rfl (by exact rfl)) ?_
      refine r_op rfl rfl rfl (run_mv (v := .int _ _) rfl (by exact rfl)) ?_
      refine r_op rfl rfl rfl (run_mv (v := S _) rfl (by exact rfl)) ?_
      refine r_op rfl rfl rfl (run_mv (v := .int _ _) rfl (by exact rfl)) ?_
      refine r_op rfl rfl rfl (by exact run_slS (0) ((tokN r).2) rfl Tryz.underlying9 (by exact rfl) lo0 (at1 (by exact rfl) (by omega)) (by first | omega | (simp; omega)) (by first | omega | (simp; omega))) ?_
      refine r_op rfl rfl rfl (run_bld (pv := [(0, .int _ _), (1, S _)]) (zs := [_, _, _]) (cells := [_, _, _]) rfl ty_38 (by exact rfl) pl_38 (by exact rfl) (by exact rfl)) ?_
      refine r_append1E (u := .agg _) (y := (⟨(tokN r).1, r.take (tokN r).2, 0⟩ : Vc.Item)) rfl rfl Tryz.underlying24 ty_38 (by exact rfl) hoo (fun _ => (by exact rfl)) (by exact rfl) (by first | exact rfl | (show _ = List.toArray [_, _, _]; first | (dsimp only; done) | exact rfl | (dsimp only; exact rfl))) ((by first | omega | (simp; omega))) ((by first | omega | (simp; omega))) (by omega) ?_
      intro q_v28 v28 w29 hEw29 hov28 hlv28
      have hs_w29 := (hEw29).size
      replace hV := evo_stepo hV hEw29 (fun g hg => .inl (by first | exact (hoo.block hg).1 | (have := hoo.block hg; omega)))
      refine r_op rfl rfl rfl (run_asg (v := v28) rfl (by exact rfl)) ?_
      refine r_nil ?_
      refine r_region ?_
      refine r_op rfl rfl rfl (run_mv (v := S _) rfl (by exact rfl)) ?_
      refine r_op rfl rfl rfl (run_mv (v := .int _ _) rfl (by exact rfl)) ?_
      refine r_op rfl rfl rfl (by exact run_slS ((tokN r).2) (_) rfl Tryz.underlying9 (by exact rfl) (at1 (by exact rfl) (by omega)) hi0 (by first | omega | (simp; omega)) (by first | omega | (simp; omega))) ?_
      refine r_op rfl rfl rfl (run_asg (v := S _) rfl (by exact rfl)) ?_
      refine r_nil ?_
      refine r_blk ?_
      refine r_again (r.drop (tokN r).2) ?_ ?_ ?_
      ·rw [List.length_drop]; omega
      ·refine ⟨_, _, (congrArg S (List.take_of_length_le (by rw [List.length_drop]; exact Nat.le_refl _))), rfl, hov28, (cut_step (p := ((tokN r).1, (tokN r).2)) rfl hacc hne), (by rw [List.length_drop]; omega), (by first | assumption | omega | (dsimp only; omega) | (simp; done)), hV⟩
      ·repeat (first | (with_reducible exact Agree.merge _ _ _) | (with_reducible exact Agree.refl _ _) | (with_reducible refine Agree.upd ?_ _ _ rfl) | ((with_reducible refine Agree.inner ?_ ?_); (kernel_rfl)))
    ·skip
     refine r_skip ?_
     refine r_seq ?_
     refine r_seq ?_
     refine r_region ?_
     refine r_op rfl rfl rfl (run_mv (v := S _) rfl (by exact rfl)) ?_
     refine r_opcall rfl rfl rfl (run_callf (vs := [S _]) rfl (by exact rfl) Tryz.func75 rfl (by kernel_rfl)) (rblank_calls (by omega)) ?_
     rintro e w30 ⟨rfl, hE30⟩
     refine ⟨_, rfl, ?_⟩
     have hs_w30 := (hE30).size
     replace hV := evo_step0 hV hE30
     replace hoo := hoo.evo0 hE30
     refine r_op rfl rfl rfl (run_asg (v := .int _ _) rfl (by exact rfl)) ?_
     refine r_nil ?_
     refine r_seq ?_
     refine r_region ?_
     refine r_op rfl rfl rfl (run_mv (v := .int _ _) rfl (by exact rfl)) ?_
     refine r_op rfl rfl rfl (run_gtr rfl (by exact rfl) (by exact rfl)) ?_
     refine r_nil ?_
     refine r_cond (by exact rfl) (fun hc31 => ?_) (fun hc31 => ?_)
     ·skip
      refine r_region ?_
      refine r_op rfl rfl rfl (run_mv (v := .int _ _) rfl (by exact rfl)) ?_
      refine r_op rfl rfl rfl (run_asg (v := .int _ _) rfl (by exact rfl)) ?_
      refine r_op rfl rfl rfl (run_asg (v := .int _ _) rfl (by exact rfl)) ?_
      refine r_nil ?_
      refine r_seq ?_
      refine r_know (i := 4) (v := .int .i64 (tokN r).1) (by first | (rw [cut_c1 hne (by assumption)]; exact rfl) | (rw [cut_c2 hne (by assumption) (by assumption)]; exact rfl) | (rw [cut_c3 hne (by assumption) (by assumption) (by assumption)]; exact rfl) | (rw [cut_c4 hne (by assumption) (by assumption) (by assumption)]; exact rfl)) ?_
      refine r_know (i := 5) (v := .int .i64 (((tokN r).2 : Nat) : Int)) (by first | (rw [cut_c1 hne (by assumption)]; exact rfl) | (rw [cut_c2 hne (by assumption) (by assumption)]; exact rfl) | (rw [cut_c3 hne (by assumption) (by assumption) (by assumption)]; exact rfl) | (rw [cut_c4 hne (by assumption) (by assumption) (by assumption)]; exact rfl)) ?_
      refine r_region ?_
      refine r_op rfl rfl rfl (run_mv (v := vo) rfl (by exact rfl)) ?_
      refine r_op rfl rfl rfl (run_mv (v := .int _ _) rfl (by exact rfl)) ?_
      refine r_op rfl rfl rfl (run_mv (v := S _) rfl (by exact rfl)) ?_
      refine r_op rfl rfl rfl (run_mv (v := .int _ _) rfl (by exact rfl)) ?_
      refine r_op rfl rfl rfl (by exact run_slS (0) ((tokN r).2) rfl Tryz.underlying9 (by exact rfl) lo0 (at1 (by exact rfl) (by omega)) (by first | omega | (simp; omega)) (by first | omega | (simp; omega))) ?_
      refine r_op rfl rfl rfl (run_bld (pv := [(0, .int _ _), (1, S _)]) (zs := [_, _, _]) (cells := [_, _, _]) rfl ty_38 (by exact rfl) pl_38 (by exact rfl) (by exact rfl)) ?_
      refine r_append1E (u := .agg _) (y := (⟨(tokN r).1, r.take (tokN r).2, 0⟩ : Vc.Item)) rfl rfl Tryz.underlying24 ty_38 (by exact rfl) hoo (fun _ => (by exact rfl)) (by exact rfl) (by first | exact rfl | (show _ = List.toArray [_, _, _]; first | (dsimp only; done) | exact rfl | (dsimp only; exact rfl))) ((by first | omega | (simp; omega))) ((by first | omega | (simp; omega))) (by omega) ?_
      intro q_v32 v32 w33 hEw33 hov32 hlv32
      have hs_w33 := (hEw33).size
      replace hV := evo_stepo hV hEw33 (fun g hg => .inl (by first | exact (hoo.block hg).1 | (have := hoo.block hg; omega)))
      refine r_op rfl rfl rfl (run_asg (v := v32) rfl (by exact rfl)) ?_
      refine r_nil ?_
      refine r_region ?_
      refine r_op rfl rfl rfl (run_mv (v := S _) rfl (by exact rfl)) ?_
      refine r_op rfl rfl rfl (run_mv (v := .int _ _) rfl (by exact rfl)) ?_
      refine r_op rfl rfl rfl (by exact run_slS ((tokN r).2) (_) rfl Tryz.underlying9 (by exact rfl) (at1 (by exact rfl) (by omega)) hi0 (by first | omega | (simp; omega)) (by first | omega | (simp; omega))) ?_
      refine r_op rfl rfl rfl (run_asg (v := S _) rfl (by exact rfl)) ?_
      refine r_nil ?_
      refine r_blk ?_
      refine r_again (r.drop (tokN r).2) ?_ ?_ ?_
      ·rw [List.length_drop]; omega
      ·refine ⟨_, _, (congrArg S (List.take_of_length_le (by rw [List.length_drop]; exact Nat.le_refl _))), rfl, hov32, (cut_step (p := ((tokN r).1, (tokN r).2)) rfl hacc hne), (by rw [List.length_drop]; omega), (by first | assumption | omega | (dsimp only; omega) | (simp; done)), hV⟩
      ·repeat (first | (with_reducible exact Agree.merge _ _ _) | (with_reducible exact Agree.refl _ _) | (with_reducible refine Agree.upd ?_ _ _ rfl) | ((with_reducible refine Agree.inner ?_ ?_); (kernel_rfl)))
     ·skip
      refine r_skip ?_
      refine r_seq ?_
      refine r_know (i := 4) (v := .int .i64 (tokN r).1) (by first | (rw [cut_c1 hne (by assumption)]; exact rfl) | (rw [cut_c2 hne (by assumption) (by assumption)]; exact rfl) | (rw [cut_c3 hne (by assumption) (by assumption) (by assumption)]; exact rfl) | (rw [cut_c4 hne (by assumption) (by assumption) (by assumption)]; exact rfl)) ?_
      refine r_know (i := 5) (v := .int .i64 (((tokN r).2 : Nat) : Int)) (by first | (rw [cut_c1 hne (by assumption)]; exact rfl) | (rw [cut_c2 hne (by assumption) (by assumption)]; exact rfl) | (rw [cut_c3 hne (by assumption) (by assumption) (by assumption)]; exact rfl) | (rw [cut_c4 hne (by assumption) (by assumption) (by assumption)]; exact rfl)) ?_
      refine r_region ?_
      refine r_op rfl rfl rfl (run_mv (v := vo) rfl (by exact rfl)) ?_
      refine r_op rfl rfl rfl (run_mv (v := .int _ _) rfl (by exact rfl)) ?_
      refine r_op rfl rfl rfl (run_mv (v := S _) rfl (by exact rfl)) ?_
      refine r_op rfl rfl rfl (run_mv (v := .int _ _) rfl (by exact rfl)) ?_
      refine r_op rfl rfl rfl (by exact run_slS (0) ((tokN r).2) rfl Tryz.underlying9 (by exact rfl) lo0 (at1 (by exact rfl) (by omega)) (by first | omega | (simp; omega)) (by first | omega | (simp; omega))) ?_
      refine r_op rfl rfl rfl (run_bld (pv := [(0, .int _ _), (1, S _)]) (zs := [_, _, _]) (cells := [_, _, _]) rfl ty_38 (by exact rfl) pl_38 (by exact rfl) (by exact rfl)) ?_
      refine r_append1E (u := .agg _) (y := (⟨(tokN r).1, r.take (tokN r).2, 0⟩ : Vc.Item)) rfl rfl Tryz.underlying24 ty_38 (by exact rfl) hoo (fun _ => (by exact rfl)) (by exact rfl) (by first | exact rfl | (show _ = List.toArray [_, _, _]; first | (dsimp only; done) | exact rfl | (dsimp only; exact rfl))) ((by first | omega | (simp; omega))) ((by first | omega | (simp; omega))) (by omega) ?_
      intro q_v34 v34 w35 hEw35 hov34 hlv34
      have hs_w35 := (hEw35).size
      replace hV := evo_stepo hV hEw35 (fun g hg => .inl (by first | exact (hoo.block hg).1 | (have := hoo.block hg; omega)))
      refine r_op rfl rfl rfl (run_asg (v := v34) rfl (by exact rfl)) ?_
      refine r_nil ?_
      refine r_region ?_
      refine r_op rfl rfl rfl (run_mv (v := S _) rfl (by exact rfl)) ?_
      refine r_op rfl rfl rfl (run_mv (v := .int _ _) rfl (by exact rfl)) ?_
      refine r_op rfl rfl rfl (by exact run_slS ((tokN r).2) (_) rfl Tryz.underlying9 (by exact rfl) (at1 (by exact rfl) (by omega)) hi0 (by first | omega | (simp; omega)) (by first | omega | (simp; omega))) ?_
      refine r_op rfl rfl rfl (run_asg (v := S _) rfl (by exact rfl)) ?_
      refine r_nil ?_
      refine r_blk ?_
      refine r_again (r.drop (tokN r).2) ?_ ?_ ?_
      ·rw [List.length_drop]; omega
      ·refine ⟨_, _, (congrArg S (List.take_of_length_le (by rw [List.length_drop]; exact Nat.le_refl _))), rfl, hov34, (cut_step (p := ((tokN r).1, (tokN r).2)) rfl hacc hne), (by rw [List.length_drop]; omega), (by first | assumption | omega | (dsimp only; omega) | (simp; done)), hV⟩
      ·repeat (first | (with_reducible exact Agree.merge _ _ _) | (with_reducible exact Agree.refl _ _) | (with_reducible refine Agree.upd ?_ _ _ rfl) | ((with_reducible refine Agree.inner ?_ ?_); (kernel_rfl)))
  ·skip
   refine r_exit rfl ?_
   refine r_seq ?_
   refine r_region ?_
   refine r_op rfl rfl rfl (run_mv (v := vo) rfl (by exact rfl)) ?_
   refine r_op rfl rfl rfl (run_asg (v := vo) rfl (by exact rfl)) ?_
   refine r_nil ?_
   refine r_ret (res1 (v := vo) rfl (by exact rfl)) ?_
   exact ⟨_, rfl, hV, by have h8 : r = [] := List.eq_nil_of_length_eq_zero (by omega); rw [h8, cutT_nil, List.append_nil] at hacc; rw [← hacc]; exact hoo⟩
theorem rtokens_calls {ao : Option Addr} {b off cap : Nat} {f : List Vc.Item} {w0 : World} (hf : RowE w0 ao b off cap f) (hz : fLen f + f.length ≤ 1000000000) :
    Calls Tryz.prog 23 #[.slice ao f.length cap] w0 fun e w' => ∃ v, e = .returned v ∧ Evo w0 w' [] ∧ OwnE w' w0.heap.size 38 v (toks f) := by
 refine calls_enter (n := 38) (args := [.slice ao f.length cap]) Tryz.func23 rfl Tryz.ntmps23 rfl ?_
 have hV : Evo w0 w0 [] := Evo.refl _ _
 have hf0 := keepE hf
 have hbd_hf := hf.bd
 refine r_seq ?_
 refine r_region ?_
 refine r_op rfl rfl rfl (run_asg (v := .slice _ _ _) rfl (by exact rfl)) ?_
 refine r_nil ?_
 refine r_seq ?_
 refine r_region ?_
 refine r_op rfl rfl rfl (run_asg (v := .slice _ _ _) rfl (by exact rfl)) ?_
 refine r_nil ?_
 refine r_seq ?_
 refine r_seq ?_
 refine r_region ?_
 refine r_op rfl rfl rfl (run_mv (v := .slice _ _ _) rfl (by exact rfl)) ?_
 refine r_op rfl rfl rfl (run_lenSl rfl (by exact rfl) Tryz.underlying53) ?_
 refine r_op rfl rfl rfl (run_mv (v := .int _ _) rfl (by exact rfl)) ?_
 refine r_nil ?_
 refine r_block ?_
 refine r_loop (α := Nat) [3, 5, 8, 9, 10, 11, 12, 13, 14, 15, 16, 17, 18, 19, 20, 21, 22, 23, 24, 25, 26, 27, 28, 29, 30, 31, 32, 33, 34, 35, 36] (fun k g w => ∃ vo : Value, g 8 = .int .i64 (k : Nat) ∧ g 3 = vo ∧ k ≤ f.length ∧ OwnE w w0.heap.size 38 vo (toks (f.take k)) ∧ w0.heap.size ≤ w.heap.size ∧ Evo w0 w []) (fun k => f.length - k) 0 ?_ ?_
 ·refine ⟨_, (by first | exact rfl | exact congrArg (Value.int _) (by omega) | exact congrArg (Value.int _) (by dsimp only; omega) | exact congrArg (Value.int _) (by simp) | exact congrArg S (by simp)), rfl, (by first | assumption | omega | (dsimp only; omega) | (simp; done)), (OwnE.nil _ _ _), (by first | assumption | omega | (dsimp only; omega) | (simp; done)), hV⟩
 ·rintro k g w2 ⟨vo, hj3, hj4, hk_k, hoo, hzl1, hV⟩
  have hs_w2hV := hV.size
  replace hf := hf0 _ hV
  refine r_know (i := 8) (v := .int .i64 (k : Nat)) (by exact hj3) ?_
  refine r_know (i := 3) (v := vo) (by exact hj4) ?_
  have htl := toks_len (f.take k); have hfl := fLen_take f k
  have hfa := fLen_at f k
  have hft : (f.take k).length ≤ k := List.length_take_le _ _
  have hcb := cut_bd (f.getD k default).text
  have hfs := fun h => fLen_snoc f k h
  refine r_seq ?_
  refine r_region ?_
  refine r_op rfl rfl rfl (run_lss rfl (by exact rfl) (by exact rfl)) ?_
  refine r_nil ?_
  refine r_seq ?_
  refine r_cond (by exact rfl) (fun hc5 => ?_) (fun hc5 => ?_)
  ·skip
   refine r_skip ?_
   refine r_seq ?_
   refine r_block ?_
   refine r_seq ?_
   refine r_region ?_
   refine r_op rfl rfl rfl (run_ix (k) rfl Tryz.underlying53 ty_52 (by exact rfl) (by exact rfl) (by first | exact rfl | omega) (by omega) (hf.addr (i := k) (by omega))) ?_
   have hA60 := fun (w' : World) (h : Evo w0 w' []) => (hf0 w' h).atD (k) (by omega)
   have hA6 := hA60 _ hV
   refine r_op rfl rfl rfl (run_ldN rfl ag_52 ty_52 (by exact rfl) rfl hA6) ?_
   have hob7 := fun g hg => (hoo.block (g := g) hg).2
   refine r_var (zs := [_, _, _]) (vs := [_, _, _]) ty_52 (by exact rfl) rfl (by exact rfl) (fun _ => rfl) (by exact rfl) rfl rfl (by exact rfl) ?_
   intro b8 w9 heb8 hEw9 hbb8 hzb8
   have hs_w9 := (hEw9).size
   replace hV := evo_step0 hV hEw9
   replace hf := hf0 _ hV
   replace hoo := hoo.evo0 hEw9
   have hAb8 := hbb8.at
   refine r_nil ?_
   refine r_seq ?_
   refine r_region ?_
   refine r_op rfl rfl rfl (run_fa rfl (by exact rfl) fo_52_0) ?_
   refine r_op rfl rfl rfl (run_ld1 rfl ag_3 (by exact rfl) (hAb8.cell 0 (by exact rfl))) ?_
   refine r_nil ?_
   refine r_block ?_
   refine r_seq ?_
   refine r_region ?_
   refine r_op rfl rfl rfl (run_eql rfl (by exact rfl) (by exact rfl)) ?_
   refine r_op rfl rfl rfl (run_asg (v := .bool _) rfl (by exact rfl)) ?_
   refine r_nil ?_
   refine r_cond (by exact rfl) (fun hc10 => ?_) (fun hc10 => ?_)
   ·skip
    refine r_region ?_
    refine r_op rfl rfl rfl (run_mv (v := vo) rfl (by exact rfl)) ?_
    refine r_op rfl rfl rfl (run_fa rfl (by exact rfl) fo_52_1) ?_
    refine r_op rfl rfl rfl (run_ld1 rfl ag_9 (by exact rfl) (hAb8.cell 1 (by exact rfl))) ?_
    refine r_opcall rfl rfl rfl (run_callf (vs := [S _]) rfl (by exact rfl) Tryz.func46 rfl (by kernel_rfl)) (rcut_calls (by omega)) ?_
    rintro e w11 ⟨vk11, rfl, hE11, hok11⟩
    refine ⟨_, rfl, ?_⟩
    have hs_w11 := (hE11).size
    replace hV := evo_step0 hV hE11
    replace hf := hf0 _ hV
    replace hoo := hoo.evo0 hE11
    obtain ⟨ao12, g12, cp12, hv12, hr12, hg12⟩ := hok11.rowOf
    subst hv12
    refine r_appendE rfl Tryz.underlying24 ty_38 (by exact rfl) hoo (by exact rfl) (by exact rfl) hr12 rfl ((by first | omega | (simp; omega))) ((by first | omega | (simp; omega))) (by omega) ?_
    intro v13 w14 hEw14 hov13 hlv13
    have hs_w14 := (hEw14).size
    replace hV := evo_stepo hV hEw14 (fun g hg => .inl (by first | exact (hoo.block hg).1 | (have := hoo.block hg; omega)))
    replace hf := hf0 _ hV
    refine r_op rfl rfl rfl (run_asg (v := v13) rfl (by exact rfl)) ?_
    refine r_nil ?_
    refine r_blk ?_
    refine r_blk ?_
    refine r_region ?_
    refine r_op rfl rfl rfl (run_add rfl (by exact rfl) (by exact rfl) (by omega) (by omega)) ?_
    refine r_op rfl rfl rfl (run_mv (v := .int _ _) rfl (by exact rfl)) ?_
    refine r_nil ?_
    refine r_again (k + 1) ?_ ?_ ?_
    ·first | omega | (dsimp only; omega)
    ·refine ⟨_, (by first | exact rfl | exact congrArg (Value.int _) (by omega) | exact congrArg (Value.int _) (by dsimp only; omega) | exact congrArg (Value.int _) (by simp) | exact congrArg S (by simp)), rfl, (by first | assumption | omega | (dsimp only; omega) | (simp; done)), (by rw [toks_succ (by omega)]; first | (rw [tokI_text (by assumption)]; exact hov13) | (rw [tokI_tag (by first | exact .inl (by assumption) | exact .inr (.inl (by assumption)) | exact .inr (.inr (.inl (by assumption))) | exact .inr (.inr (.inr (by assumption))))]; exact hov13) | (rw [tokI_none (by assumption) (by assumption) (by assumption) (by assumption) (by assumption), List.append_nil]; exact hov13)), (by first | assumption | omega | (dsimp only; omega) | (simp; done)), hV⟩
    ·repeat (first | (with_reducible exact Agree.merge _ _ _) | (with_reducible exact Agree.refl _ _) | (with_reducible refine Agree.upd ?_ _ _ rfl) | ((with_reducible refine Agree.inner ?_ ?_); (kernel_rfl)))
   ·skip
    refine r_seq ?_
    refine r_seq ?_
    refine r_region ?_
    refine r_op rfl rfl rfl (run_eql rfl (by exact rfl) (by exact rfl)) ?_
    refine r_op rfl rfl rfl (run_asg (v := .bool _) rfl (by exact rfl)) ?_
    refine r_nil ?_
    refine r_cond (by exact rfl) (fun hc15 => ?_) (fun hc15 => ?_)
    ·skip
     refine r_skip ?_
     refine r_condT (by exact rfl) hc15 ?_
     refine r_region ?_
     refine r_op rfl rfl rfl (run_mv (v := vo) rfl (by exact rfl)) ?_
     refine r_op rfl rfl rfl (run_fa rfl (by exact rfl) fo_52_0) ?_
     refine r_op rfl rfl rfl (run_ld1 rfl ag_3 (by exact rfl) (hAb8.cell 0 (by exact rfl))) ?_
     refine r_op rfl rfl rfl (run_fa rfl (by exact rfl) fo_52_1) ?_
     refine r_op rfl rfl rfl (run_ld1 rfl ag_9 (by exact rfl) (hAb8.cell 1 (by exact rfl))) ?_
     refine r_op rfl rfl rfl (run_fa rfl (by exact rfl) fo_52_2) ?_
     refine r_op rfl rfl rfl (run_ld1 rfl ag_3 (by exact rfl) (hAb8.cell 2 (by exact rfl))) ?_
     refine r_op rfl rfl rfl (run_bld (pv := [(0, .int _ _), (1, S _), (2, .int _ _)]) (zs := [_, _, _]) (cells := [_, _, _]) rfl ty_38 (by exact rfl) pl_38 (by exact rfl) (by exact rfl)) ?_
     refine r_append1E (u := .agg _) (y := (f.getD k default : Vc.Item)) rfl rfl Tryz.underlying24 ty_38 (by exact rfl) hoo (fun _ => (by exact rfl)) (by exact rfl) (by first | exact rfl | (show _ = List.toArray [_, _, _]; first | (dsimp only; done) | exact rfl | (dsimp only; exact rfl))) ((by first | omega | (simp; omega))) ((by first | omega | (simp; omega))) (by omega) ?_
     intro q_v16 v16 w17 hEw17 hov16 hlv16
     have hs_w17 := (hEw17).size
     replace hV := evo_stepo hV hEw17 (fun g hg => .inl (by first | exact (hoo.block hg).1 | (have := hoo.block hg; omega)))
     replace hf := hf0 _ hV
     refine r_op rfl rfl rfl (run_asg (v := v16) rfl (by exact rfl)) ?_
     refine r_nil ?_
     refine r_blk ?_
     refine r_blk ?_
     refine r_region ?_
     refine r_op rfl rfl rfl (run_add rfl (by exact rfl) (by exact rfl) (by omega) (by omega)) ?_
     refine r_op rfl rfl rfl (run_mv (v := .int _ _) rfl (by exact rfl)) ?_
     refine r_nil ?_
     refine r_again (k + 1) ?_ ?_ ?_
     ·first | omega | (dsimp only; omega)
     ·refine ⟨_, (by first | exact rfl | exact congrArg (Value.int _) (by omega) | exact congrArg (Value.int _) (by dsimp only; omega) | exact congrArg (Value.int _) (by simp) | exact congrArg S (by simp)), rfl, (by first | assumption | omega | (dsimp only; omega) | (simp; done)), (by rw [toks_succ (by omega)]; first | (rw [tokI_text (by assumption)]; exact hov16) | (rw [tokI_tag (by first | exact .inl (by assumption) | exact .inr (.inl (by assumption)) | exact .inr (.inr (.inl (by assumption))) | exact .inr (.inr (.inr (by assumption))))]; exact hov16) | (rw [tokI_none (by assumption) (by assumption) (by assumption) (by assumption) (by assumption), List.append_nil]; exact hov16)), (by first | assumption | omega | (dsimp only; omega) | (simp; done)), hV⟩
     ·repeat (first | (with_reducible exact Agree.merge _ _ _) | (with_reducible exact Agree.refl _ _) | (with_reducible refine Agree.upd ?_ _ _ rfl) | ((with_reducible refine Agree.inner ?_ ?_); (kernel_rfl)))
    ·skip
     refine r_seq ?_
     refine r_region ?_
     refine r_op rfl rfl rfl (run_eql rfl (by exact rfl) (by exact rfl)) ?_
     refine r_op rfl rfl rfl (run_asg (v := .bool _) rfl (by exact rfl)) ?_
     refine r_nil ?_
     refine r_cond (by exact rfl) (fun hc18 => ?_) (fun hc18 => ?_)
     ·skip
      refine r_skip ?_
      refine r_condT (by exact rfl) hc18 ?_
      refine r_region ?_
      refine r_op rfl rfl rfl (run_mv (v := vo) rfl (by exact rfl)) ?_
      refine r_op rfl rfl rfl (run_fa rfl (by exact rfl) fo_52_0) ?_
      refine r_op rfl rfl rfl (run_ld1 rfl ag_3 (by exact rfl) (hAb8.cell 0 (by exact rfl))) ?_
      refine r_op rfl rfl rfl (run_fa rfl (by exact rfl) fo_52_1) ?_
      refine r_op rfl rfl rfl (run_ld1 rfl ag_9 (by exact rfl) (hAb8.cell 1 (by exact rfl))) ?_
      refine r_op rfl rfl rfl (run_fa rfl (by exact rfl) fo_52_2) ?_
      refine r_op rfl rfl rfl (run_ld1 rfl ag_3 (by exact rfl) (hAb8.cell 2 (by exact rfl))) ?_
      refine r_op rfl rfl rfl (run_bld (pv := [(0, .int _ _), (1, S _), (2, .int _ _)]) (zs := [_, _, _]) (cells := [_, _, _]) rfl ty_38 (by exact rfl) pl_38 (by exact rfl) (by exact rfl)) ?_
      refine r_append1E (u := .agg _) (y := (f.getD k default : Vc.Item)) rfl rfl Tryz.underlying24 ty_38 (by exact rfl) hoo (fun _ => (by exact rfl)) (by exact rfl) (by first | exact rfl | (show _ = List.toArray [_, _, _]; first | (dsimp only; done) | exact rfl | (dsimp only; exact rfl))) ((by first | omega | (simp; omega))) ((by first | omega | (simp; omega))) (by omega) ?_
      intro q_v19 v19 w20 hEw20 hov19 hlv19
      have hs_w20 := (hEw20).size
      replace hV := evo_stepo hV hEw20 (fun g hg => .inl (by first | exact (hoo.block hg).1 | (have := hoo.block hg; omega)))
      replace hf := hf0 _ hV
      refine r_op rfl rfl rfl (run_asg (v := v19) rfl (by exact rfl)) ?_
      refine r_nil ?_
      refine r_blk ?_
      refine r_blk ?_
      refine r_region ?_
      refine r_op rfl rfl rfl (run_add rfl (by exact rfl) (by exact rfl) (by omega) (by omega)) ?_
      refine r_op rfl rfl rfl (run_mv (v := .int _ _) rfl (by exact rfl)) ?_
      refine r_nil ?_
      refine r_again (k + 1) ?_ ?_ ?_
      ·first | omega | (dsimp only; omega)
      ·refine ⟨_, (by first | exact rfl | exact congrArg (Value.int _) (by omega) | exact congrArg (Value.int _) (by dsimp only; omega) | exact congrArg (Value.int _) (by simp) | exact congrArg S (by simp)), rfl, (by first | assumption | omega | (dsimp only; omega) | (simp; done)), (by rw [toks_succ (by omega)]; first | (rw [tokI_text (by assumption)]; exact hov19) | (rw [tokI_tag (by first | exact .inl (by assumption) | exact .inr (.inl (by assumption)) | exact .inr (.inr (.inl (by assumption))) | exact .inr (.inr (.inr (by assumption))))]; exact hov19) | (rw [tokI_none (by assumption) (by assumption) (by assumption) (by assumption) (by assumption), List.append_nil]; exact hov19)), (by first | assumption | omega | (dsimp only; omega) | (simp; done)), hV⟩
      ·repeat (first | (with_reducible exact Agree.merge _ _ _) | (with_reducible exact Agree.refl _ _) | (with_reducible refine Agree.upd ?_ _ _ rfl) | ((with_reducible refine Agree.inner ?_ ?_); (kernel_rfl)))
     ·skip
      refine r_seq ?_
      refine r_region ?_
      refine r_op rfl rfl rfl (run_eql rfl (by exact rfl) (by exact rfl)) ?_
      refine r_op rfl rfl rfl (run_asg (v := .bool _) rfl (by exact rfl)) ?_
      refine r_nil ?_
      refine r_cond (by exact rfl) (fun hc21 => ?_) (fun hc21 => ?_)
      ·skip
       refine r_skip ?_
       refine r_condT (by exact rfl) hc21 ?_
       refine r_region ?_
       refine r_op rfl rfl rfl (run_mv (v := vo) rfl (by exact rfl)) ?_
       refine r_op rfl rfl rfl (run_fa rfl (by exact rfl) fo_52_0) ?_
       refine r_op rfl rfl rfl (run_ld1 rfl ag_3 (by exact rfl) (hAb8.cell 0 (by exact rfl))) ?_
       refine r_op rfl rfl rfl (run_fa rfl (by exact rfl) fo_52_1) ?_
       refine r_op rfl rfl rfl (run_ld1 rfl ag_9 (by exact rfl) (hAb8.cell 1 (by exact rfl))) ?_
       refine r_op rfl rfl rfl (run_fa rfl (by exact rfl) fo_52_2) ?_
       refine r_op rfl rfl rfl (run_ld1 rfl ag_3 (by exact rfl) (hAb8.cell 2 (by exact rfl))) ?_
       refine r_op rfl rfl rfl (run_bld (pv := [(0, .int _ _), (1, S _), (2, .int _ _)]) (zs := [_, _, _]) (cells := [_, _, _]) rfl ty_38 (by exact rfl) pl_38 (by exact rfl) (by exact rfl)) ?_
       refine r_append1E (u := .agg _) (y := (f.getD k default : Vc.Item)) rfl rfl Tryz.underlying24 ty_38 (by exact rfl) hoo (fun _ => (by exact rfl)) (by exact rfl) (by first | exact rfl | (show _ = List.toArray [_, _, _]; first | (dsimp only; done) | exact rfl | (dsimp only; exact rfl))) ((by first | omega | (simp; omega))) ((by first | omega | (simp; omega))) (by omega) ?_
       intro q_v22 v22 w23 hEw23 hov22 hlv22
       have hs_w23 := (hEw23).size
       replace hV := evo_stepo hV hEw23 (fun g hg => .inl (by first | exact (hoo.block hg).1 | (have := hoo.block hg; omega)))
       replace hf := hf0 _ hV
       refine r_op rfl rfl rfl (run_asg (v := v22) rfl (by exact rfl)) ?_
       refine r_nil ?_
       refine r_blk ?_
       refine r_blk ?_
       refine r_region ?_
       refine r_op rfl rfl rfl (run_add rfl (by exact rfl) (by exact rfl) (by omega) (by omega)) ?_
       refine r_op rfl rfl rfl (run_mv (v := .int _ _) rfl (by exact rfl)) ?_
       refine r_nil ?_
       refine r_again (k + 1) ?_ ?_ ?_
       ·first | omega | (dsimp only; omega)
       ·refine ⟨_, (by first | exact rfl | exact congrArg (Value.int _) (by omega) | exact congrArg (Value.int _) (by dsimp only; omega) | exact congrArg (Value.int _) (by simp) | exact congrArg S (by simp)), rfl, (by first | assumption | omega | (dsimp only; omega) | (simp; done)), (by rw [toks_succ (by omega)]; first | (rw [tokI_text (by assumption)]; exact hov22) | (rw [tokI_tag (by first | exact .inl (by assumption) | exact .inr (.inl (by assumption)) | exact .inr (.inr (.inl (by assumption))) | exact .inr (.inr (.inr (by assumption))))]; exact hov22) | (rw [tokI_none (by assumption) (by assumption) (by assumption) (by assumption) (by assumption), List.append_nil]; exact hov22)), (by first | assumption | omega | (dsimp only; omega) | (simp; done)), hV⟩
       ·repeat (first | (with_reducible exact Agree.merge _ _ _) | (with_reducible exact Agree.refl _ _) | (with_reducible refine Agree.upd ?_ _ _ rfl) | ((with_reducible refine Agree.inner ?_ ?_); (kernel_rfl)))
      ·skip
       refine r_region ?_
       refine r_op rfl rfl rfl (run_eql rfl (by exact rfl) (by exact rfl)) ?_
       refine r_op rfl rfl rfl (run_asg (v := .bool _) rfl (by exact rfl)) ?_
       refine r_nil ?_
       refine r_cond (by exact rfl) (fun hc24 => ?_) (fun hc24 => ?_)
       ·skip
        refine r_region ?_
        refine r_op rfl rfl rfl (run_mv (v := vo) rfl (by exact rfl)) ?_
        refine r_op rfl rfl rfl (run_fa rfl (by exact rfl) fo_52_0) ?_
        refine r_op rfl rfl rfl (run_ld1 rfl ag_3 (by exact rfl) (hAb8.cell 0 (by exact rfl))) ?_
        refine r_op rfl rfl rfl (run_fa rfl (by exact rfl) fo_52_1) ?_
        refine r_op rfl rfl rfl (run_ld1 rfl ag_9 (by exact rfl) (hAb8.cell 1 (by exact rfl))) ?_
        refine r_op rfl rfl rfl (run_fa rfl (by exact rfl) fo_52_2) ?_
        refine r_op rfl rfl rfl (run_ld1 rfl ag_3 (by exact rfl) (hAb8.cell 2 (by exact rfl))) ?_
        refine r_op rfl rfl rfl (run_bld (pv := [(0, .int _ _), (1, S _), (2, .int _ _)]) (zs := [_, _, _]) (cells := [_, _, _]) rfl ty_38 (by exact rfl) pl_38 (by exact rfl) (by exact rfl)) ?_
        refine r_append1E (u := .agg _) (y := (f.getD k default : Vc.Item)) rfl rfl Tryz.underlying24 ty_38 (by exact rfl) hoo (fun _ => (by exact rfl)) (by exact rfl) (by first | exact rfl | (show _ = List.toArray [_, _, _]; first | (dsimp only; done) | exact rfl | (dsimp only; exact rfl))) ((by first | omega | (simp; omega))) ((by first | omega | (simp; omega))) (by omega) ?_
        intro q_v25 v25 w26 hEw26 hov25 hlv25
        have hs_w26 := (hEw26).size
        replace hV := evo_stepo hV hEw26 (fun g hg => .inl (by first | exact (hoo.block hg).1 | (have := hoo.block hg; omega)))
        replace hf := hf0 _ hV
        refine r_op rfl rfl rfl (run_asg (v := v25) rfl (by exact rfl)) ?_
        refine r_nil ?_
        refine r_blk ?_
        refine r_blk ?_
        refine r_region ?_
        refine r_op rfl rfl rfl (run_add rfl (by exact rfl) (by exact rfl) (by omega) (by omega)) ?_
        refine r_op rfl rfl rfl (run_mv (v := .int _ _) rfl (by exact rfl)) ?_
        refine r_nil ?_
        refine r_again (k + 1) ?_ ?_ ?_
        ·first | omega | (dsimp only; omega)
        ·refine ⟨_, (by first | exact rfl | exact congrArg (Value.int _) (by omega) | exact congrArg (Value.int _) (by dsimp only; omega) | exact congrArg (Value.int _) (by simp) | exact congrArg S (by simp)), rfl, (by first | assumption | omega | (dsimp only; omega) | (simp; done)), (by rw [toks_succ (by omega)]; first | (rw [tokI_text (by assumption)]; exact hov25) | (rw [tokI_tag (by first | exact .inl (by assumption) | exact .inr (.inl (by assumption)) | exact .inr (.inr (.inl (by assumption))) | exact .inr (.inr (.inr (by assumption))))]; exact hov25) | (rw [tokI_none (by assumption) (by assumption) (by assumption) (by assumption) (by assumption), List.append_nil]; exact hov25)), (by first | assumption | omega | (dsimp only; omega) | (simp; done)), hV⟩
        ·repeat (first | (with_reducible exact Agree.merge _ _ _) | (with_reducible exact Agree.refl _ _) | (with_reducible refine Agree.upd ?_ _ _ rfl) | ((with_reducible refine Agree.inner ?_ ?_); (kernel_rfl)))
       ·skip
        refine r_skip ?_
        refine r_blk ?_
        refine r_blk ?_
        refine r_region ?_
        refine r_op rfl rfl rfl (run_add rfl (by exact rfl) (by exact rfl) (by omega) (by omega)) ?_
        refine r_op rfl rfl rfl (run_mv (v := .int _ _) rfl (by exact rfl)) ?_
        refine r_nil ?_
        refine r_again (k + 1) ?_ ?_ ?_
        ·first | omega | (dsimp only; omega)
        ·refine ⟨_, (by first | exact rfl | exact congrArg (Value.int _) (by omega) | exact congrArg (Value.int _) (by dsimp only; omega) | exact congrArg (Value.int _) (by simp) | exact congrArg S (by simp)), rfl, (by first | assumption | omega | (dsimp only; omega) | (simp; done)), (by rw [toks_succ (by omega)]; first | (rw [tokI_text (by assumption)]; exact hoo) | (rw [tokI_tag (by first | exact .inl (by assumption) | exact .inr (.inl (by assumption)) | exact .inr (.inr (.inl (by assumption))) | exact .inr (.inr (.inr (by assumption))))]; exact hoo) | (rw [tokI_none (by assumption) (by assumption) (by assumption) (by assumption) (by assumption), List.append_nil]; exact hoo)), (by first | assumption | omega | (dsimp only; omega) | (simp; done)), hV⟩
        ·repeat (first | (with_reducible exact Agree.merge _ _ _) | (with_reducible exact Agree.refl _ _) | (with_reducible refine Agree.upd ?_ _ _ rfl) | ((with_reducible refine Agree.inner ?_ ?_); (kernel_rfl)))
  ·skip
   refine r_exit rfl ?_
   refine r_seq ?_
   refine r_region ?_
   refine r_op rfl rfl rfl (run_mv (v := vo) rfl (by exact rfl)) ?_
   refine r_op rfl rfl rfl (run_asg (v := vo) rfl (by exact rfl)) ?_
   refine r_nil ?_
   refine r_ret (res1 (v := vo) rfl (by exact rfl)) ?_
   exact ⟨_, rfl, hV, by rw [List.take_of_length_le (by omega)] at hoo; exact hoo⟩
end Go.Proofs.YtkklomiipkipnaaGreatDoor
