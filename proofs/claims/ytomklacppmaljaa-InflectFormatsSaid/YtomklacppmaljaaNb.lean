/-
  Walks of functions that the statement reaches (joined by a program out of smaller texts).
-/
import Derived.Test.YtomklacppmaljaaPa
import Derived.Test.YtomklacppmaljaaLb
import Derived.Test.YtomklacppmaljaaRows
import Derived.Test.YtomklacppmaljaaPu
import Derived.Test.YtomklacppmaljaaByt
import Derived.Test.YtomklacppmaljaaClr
import Derived.Test.YtomklacppmaljaaClo
import Derived.Test.YtomklacppmaljaaItr
import Derived.Test.YtomklacppmaljaaSrt
import Derived.Test.YtomklacppmaljaaPw
import Derived.Test.YtomklacppmaljaaEqe
import Derived.Test.YtomklacppmaljaaCl9
import Derived.Test.YtomklacppmaljaaApk
import Derived.Test.YtomklacppmaljaaCls
import Derived.Test.YtomklacppmaljaaPv
namespace Go.Proofs.Ytomklacppmaljaa
open Go.RowKit Go.Vc

theorem isname_calls {s : Str} {w0 : World}  :
    Calls Try.prog 116 #[S s] w0 fun e w' => e = .returned (.bool (isName s)) ∧ Evo w0 w' [] := by
 refine calls_enter (n := 51) (args := [S s]) Try.func116 rfl Try.ntmps116 rfl ?_
 have hV : Evo w0 w0 [] := Evo.refl _ _
 refine r_seq ?_
 refine r_region ?_
 refine r_op rfl rfl rfl (run_asg (v := .bool _) rfl (by exact rfl)) ?_
 refine r_nil ?_
 refine r_seq ?_
 refine r_seq ?_
 refine r_region ?_
 refine r_op rfl rfl rfl (run_mv (v := S _) rfl (by exact rfl)) ?_
 refine r_op rfl rfl rfl (run_lenS rfl (by exact rfl) Try.underlying9) ?_
 refine r_op rfl rfl rfl (run_lss rfl (by exact rfl) (by exact rfl)) ?_
 refine r_op rfl rfl rfl (run_mv (v := .bool _) rfl (by exact rfl)) ?_
 refine r_g rfl (wantF (by exact rfl)) rfl (fun hg => run_mv (v := S _) rfl (by exact rfl)) ?_
 refine r_g rfl (wantF (by exact rfl)) rfl (fun hg => run_lenS rfl (glv (by exact rfl) (fun h => h) hg) Try.underlying9) ?_
 refine r_g rfl (wantF (by exact rfl)) rfl (fun hg => run_gtr rfl (glv (by exact rfl) (fun h => h) hg) (by exact rfl)) ?_
 refine r_op rfl rfl rfl (run_pick_or rfl (by exact rfl) rfl (fun hq => glv (by exact rfl) (fun h => h) hq)) ?_
 refine r_op rfl rfl rfl (run_mv (v := .bool _) rfl (by exact rfl)) ?_
 refine r_g rfl (wantF (by exact rfl)) rfl (fun hg => run_mv (v := S _) rfl (by exact rfl)) ?_
 refine r_g rfl (wantF (by exact rfl)) rfl (fun hg => run_ixS (0) rfl Try.underlying9 (glv (by exact rfl) (fun h => h) hg) (by exact rfl) (by first | exact rfl | omega) (by omega)) ?_
 refine r_g rfl (wantF (by exact rfl)) rfl (fun hg => run_lss rfl (glv (by exact rfl) (fun h => h) hg) (by exact rfl)) ?_
 refine r_op rfl rfl rfl (run_pick_or rfl (by exact rfl) rfl (fun hq => glv (by exact rfl) (fun h => h) hq)) ?_
 refine r_op rfl rfl rfl (run_mv (v := .bool _) rfl (by exact rfl)) ?_
 refine r_g rfl (wantF (by exact rfl)) rfl (fun hg => run_mv (v := S _) rfl (by exact rfl)) ?_
 refine r_g rfl (wantF (by exact rfl)) rfl (fun hg => run_ixS (0) rfl Try.underlying9 (glv (by exact rfl) (fun h => h) hg) (by exact rfl) (by first | exact rfl | omega) (by omega)) ?_
 refine r_g rfl (wantF (by exact rfl)) rfl (fun hg => run_gtr rfl (glv (by exact rfl) (fun h => h) hg) (by exact rfl)) ?_
 refine r_op rfl rfl rfl (run_pick_or rfl (by exact rfl) rfl (fun hq => glv (by exact rfl) (fun h => h) hq)) ?_
 refine r_nil ?_
 refine r_cond (by exact rfl) (fun hc1 => ?_) (fun hc1 => ?_)
 ·skip
  refine r_seq ?_
  refine r_region ?_
  refine r_op rfl rfl rfl (run_asg (v := .bool _) rfl (by exact rfl)) ?_
  refine r_nil ?_
  refine r_ret (res1 (v := .bool _) rfl (by exact rfl)) ?_
  exact ⟨by rw [isName_len (by omega)], hV⟩
 ·skip
  refine r_skip ?_
  refine r_seq ?_
  refine r_seq ?_
  refine r_region ?_
  refine r_op rfl rfl rfl (run_asg (v := .int _ _) rfl (by exact rfl)) ?_
  refine r_nil ?_
  refine r_block ?_
  refine r_loop (α := Nat) [2, 3, 4, 23, 24, 25, 26, 27, 28, 29, 30, 31, 32, 33, 34, 35, 36, 37, 38, 39, 40, 41, 42, 43, 44, 45, 46, 47, 48, 49, 50] (fun k g w => g 3 = .int .i64 (k : Nat) ∧ (1 ≤ k ∧ k ≤ s.length) ∧ (∀ j, 1 ≤ j → j < k → nameB (s.getD j 0) = true) ∧ w0.heap.size ≤ w.heap.size ∧ Evo w0 w []) (fun k => s.length - k) 1 ?_ ?_
  ·refine ⟨(by first | exact rfl | exact congrArg (Value.int _) (by omega) | exact congrArg (Value.int _) (by dsimp only; omega) | exact congrArg (Value.int _) (by simp) | exact congrArg S (by simp)), (by first | assumption | omega | (dsimp only; omega) | (simp; done)), (fun j h1 h2 => by omega), (by first | assumption | omega | (dsimp only; omega) | (simp; done)), hV⟩
  ·rintro k g w3 ⟨hj4, hk, hall, hzl2, hV⟩
   have hs_w3hV := hV.size
   refine r_know (i := 3) (v := .int .i64 (k : Nat)) (by exact hj4) ?_
   refine r_seq ?_
   refine r_seq ?_
   refine r_region ?_
   refine r_op rfl rfl rfl (run_mv (v := .int _ _) rfl (by exact rfl)) ?_
   refine r_op rfl rfl rfl (run_mv (v := S _) rfl (by exact rfl)) ?_
   refine r_op rfl rfl rfl (run_lenS rfl (by exact rfl) Try.underlying9) ?_
   refine r_op rfl rfl rfl (run_lss rfl (by exact rfl) (by exact rfl)) ?_
   refine r_nil ?_
   refine r_cond (by exact rfl) (fun hc5 => ?_) (fun hc5 => ?_)
   ·skip
    refine r_skip ?_
    refine r_seq ?_
    refine r_block ?_
    refine r_seq ?_
    refine r_region ?_
    refine r_op rfl rfl rfl (run_mv (v := S _) rfl (by exact rfl)) ?_
    refine r_op rfl rfl rfl (run_mv (v := .int _ _) rfl (by exact rfl)) ?_
    refine r_op rfl rfl rfl (run_ixS (k) rfl Try.underlying9 (by exact rfl) (by exact rfl) (by first | exact rfl | omega) (by omega)) ?_
    refine r_op rfl rfl rfl (run_asg (v := .int _ _) rfl (by exact rfl)) ?_
    refine r_nil ?_
    refine r_seq ?_
    refine r_region ?_
    refine r_op rfl rfl rfl (run_mv (v := .int _ _) rfl (by exact rfl)) ?_
    refine r_op rfl rfl rfl (run_geq rfl (by exact rfl) (by exact rfl)) ?_
    refine r_op rfl rfl rfl (run_mv (v := .bool _) rfl (by exact rfl)) ?_
    refine r_g rfl (wantT (by exact rfl)) rfl (fun hg => run_mv (v := .int _ _) rfl (by exact rfl)) ?_
    refine r_g rfl (wantT (by exact rfl)) rfl (fun hg => run_leq rfl (glv (by exact rfl) (fun h => h) hg) (by exact rfl)) ?_
    refine r_op rfl rfl rfl (run_pick_and rfl (by exact rfl) (fun hq => glv (by exact rfl) (fun h => h) hq) rfl) ?_
    refine r_op rfl rfl rfl (run_mv (v := .bool _) rfl (by exact rfl)) ?_
    refine r_g rfl (wantF (by exact rfl)) rfl (fun hg => run_mv (v := .int _ _) rfl (by exact rfl)) ?_
    refine r_g rfl (wantF (by exact rfl)) rfl (fun hg => run_geq rfl (glv (by exact rfl) (fun h => h) hg) (by exact rfl)) ?_
    refine r_g rfl (wantF (by exact rfl)) rfl (fun hg => run_mv (v := .bool _) rfl (glv (by exact rfl) (fun h => h) hg)) ?_
    refine r_g rfl (wantTg (by exact rfl)) rfl (fun hg => run_mv (v := .int _ _) rfl (by exact rfl)) ?_
    refine r_g rfl (wantTg (by exact rfl)) rfl (fun hg => run_leq rfl (glv (by exact rfl) (fun h => h) hg) (by exact rfl)) ?_
    refine r_g rfl (wantF (by exact rfl)) rfl (fun hg => run_pick_and rfl (glv (by exact rfl) (fun h => h) hg) (fun hq => glv (by exact rfl) (fun h => h) (And.intro hg hq)) rfl) ?_
    refine r_op rfl rfl rfl (run_pick_or rfl (by exact rfl) rfl (fun hq => glv (by exact rfl) (fun h => h) hq)) ?_
    refine r_op rfl rfl rfl (run_mv (v := .bool _) rfl (by exact rfl)) ?_
    refine r_g rfl (wantF (by exact rfl)) rfl (fun hg => run_mv (v := .int _ _) rfl (by exact rfl)) ?_
    refine r_g rfl (wantF (by exact rfl)) rfl (fun hg => run_eql rfl (glv (by exact rfl) (fun h => h) hg) (by exact rfl)) ?_
    refine r_op rfl rfl rfl (run_pick_or rfl (by exact rfl) rfl (fun hq => glv (by exact rfl) (fun h => h) hq)) ?_
    refine r_op rfl rfl rfl (run_not rfl (by exact rfl)) ?_
    refine r_nil ?_
    refine r_cond (by exact rfl) (fun hc6 => ?_) (fun hc6 => ?_)
    ·skip
     refine r_seq ?_
     refine r_region ?_
     refine r_op rfl rfl rfl (run_asg (v := .bool _) rfl (by exact rfl)) ?_
     refine r_nil ?_
     refine r_ret (res1 (v := .bool _) rfl (by exact rfl)) ?_
     exact ⟨by rw [isName_bad (k := k) (by omega) (by omega)], hV⟩
    ·skip
     refine r_skip ?_
     refine r_blk ?_
     refine r_region ?_
     refine r_op rfl rfl rfl (run_mv (v := .int _ _) rfl (by exact rfl)) ?_
     refine r_op rfl rfl rfl (run_add rfl (by exact rfl) (by exact rfl) (by omega) (by omega)) ?_
     refine r_op rfl rfl rfl (run_asg (v := .int _ _) rfl (by exact rfl)) ?_
     refine r_nil ?_
     refine r_again (k + 1) ?_ ?_ ?_
     ·first | omega | (dsimp only; omega)
     ·refine ⟨(by first | exact rfl | exact congrArg (Value.int _) (by omega) | exact congrArg (Value.int _) (by dsimp only; omega) | exact congrArg (Value.int _) (by simp) | exact congrArg S (by simp)), (by first | assumption | omega | (dsimp only; omega) | (simp; done)), (upto1 hall (fun _ => (nameB_iff _).2 (by omega))), (by first | assumption | omega | (dsimp only; omega) | (simp; done)), hV⟩
     ·repeat (first | (with_reducible exact Agree.merge _ _ _) | (with_reducible exact Agree.refl _ _) | (with_reducible refine Agree.upd ?_ _ _ rfl) | ((with_reducible refine Agree.inner ?_ ?_); (kernel_rfl)))
   ·skip
    refine r_exit rfl ?_
    refine r_seq ?_
    refine r_region ?_
    refine r_op rfl rfl rfl (run_asg (v := .bool _) rfl (by exact rfl)) ?_
    refine r_nil ?_
    refine r_ret (res1 (v := .bool _) rfl (by exact rfl)) ?_
    exact ⟨by rw [(isName_iff s).2 ⟨by omega, by omega, by omega, fun j h1 h2 => hall j h1 (by omega)⟩], hV⟩

theorem risname_calls {s : Str} {w0 : World}  :
    Calls Try.prog 119 #[S s] w0 fun e w' => e = .returned (.bool (isName s)) ∧ Evo w0 w' [] := by
 refine calls_enter (n := 44) (args := [S s]) Try.func119 rfl Try.ntmps119 rfl ?_
 have hV : Evo w0 w0 [] := Evo.refl _ _
 refine r_seq ?_
 refine r_region ?_
 refine r_op rfl rfl rfl (run_asg (v := .bool _) rfl (by exact rfl)) ?_
 refine r_nil ?_
 refine r_seq ?_
 refine r_seq ?_
 refine r_region ?_
 refine r_op rfl rfl rfl (run_mv (v := S _) rfl (by exact rfl)) ?_
 refine r_op rfl rfl rfl (run_lenS rfl (by exact rfl) Try.underlying9) ?_
 refine r_op rfl rfl rfl (run_lss rfl (by exact rfl) (by exact rfl)) ?_
 refine r_op rfl rfl rfl (run_mv (v := .bool _) rfl (by exact rfl)) ?_
 refine r_g rfl (wantF (by exact rfl)) rfl (fun hg => run_mv (v := S _) rfl (by exact rfl)) ?_
 refine r_g rfl (wantF (by exact rfl)) rfl (fun hg => run_lenS rfl (glv (by exact rfl) (fun h => h) hg) Try.underlying9) ?_
 refine r_g rfl (wantF (by exact rfl)) rfl (fun hg => run_gtr rfl (glv (by exact rfl) (fun h => h) hg) (by exact rfl)) ?_
 refine r_op rfl rfl rfl (run_pick_or rfl (by exact rfl) rfl (fun hq => glv (by exact rfl) (fun h => h) hq)) ?_
 refine r_nil ?_
 refine r_cond (by exact rfl) (fun hc1 => ?_) (fun hc1 => ?_)
 ·skip
  refine r_seq ?_
  refine r_region ?_
  refine r_op rfl rfl rfl (run_asg (v := .bool _) rfl (by exact rfl)) ?_
  refine r_nil ?_
  refine r_ret (res1 (v := .bool _) rfl (by exact rfl)) ?_
  exact ⟨by rw [isName_len (by omega)], hV⟩
 ·skip
  refine r_skip ?_
  refine r_seq ?_
  refine r_seq ?_
  refine r_region ?_
  refine r_op rfl rfl rfl (run_asg (v := .int _ _) rfl (by exact rfl)) ?_
  refine r_nil ?_
  refine r_block ?_
  refine r_loop (α := Nat) [2, 3, 4, 13, 14, 15, 16, 17, 18, 19, 20, 21, 22, 23, 24, 25, 26, 27, 28, 29, 30, 31, 32, 33, 34, 35, 36, 37, 38, 39, 40, 41, 42, 43] (fun k g w => g 3 = .int .i64 (k : Nat) ∧ k ≤ s.length ∧ (k = 0 ∨ (97 ≤ (s.getD 0 0).toNat ∧ (s.getD 0 0).toNat ≤ 122)) ∧ (∀ j, 1 ≤ j → j < k → nameB (s.getD j 0) = true) ∧ w0.heap.size ≤ w.heap.size ∧ Evo w0 w []) (fun k => s.length - k) 0 ?_ ?_
  ·refine ⟨(by first | exact rfl | exact congrArg (Value.int _) (by omega) | exact congrArg (Value.int _) (by dsimp only; omega) | exact congrArg (Value.int _) (by simp) | exact congrArg S (by simp)), (by first | assumption | omega | (dsimp only; omega) | (simp; done)), (.inl rfl), (fun j h1 h2 => by omega), (by first | assumption | omega | (dsimp only; omega) | (simp; done)), hV⟩
  ·rintro k g w3 ⟨hj4, hk, hlow, hall, hzl2, hV⟩
   have hs_w3hV := hV.size
   refine r_know (i := 3) (v := .int .i64 (k : Nat)) (by exact hj4) ?_
   refine r_seq ?_
   refine r_seq ?_
   refine r_region ?_
   refine r_op rfl rfl rfl (run_mv (v := .int _ _) rfl (by exact rfl)) ?_
   refine r_op rfl rfl rfl (run_mv (v := S _) rfl (by exact rfl)) ?_
   refine r_op rfl rfl rfl (run_lenS rfl (by exact rfl) Try.underlying9) ?_
   refine r_op rfl rfl rfl (run_lss rfl (by exact rfl) (by exact rfl)) ?_
   refine r_nil ?_
   refine r_cond (by exact rfl) (fun hc5 => ?_) (fun hc5 => ?_)
   ·skip
    refine r_skip ?_
    refine r_seq ?_
    refine r_block ?_
    refine r_seq ?_
    refine r_region ?_
    refine r_op rfl rfl rfl (run_mv (v := S _) rfl (by exact rfl)) ?_
    refine r_op rfl rfl rfl (run_mv (v := .int _ _) rfl (by exact rfl)) ?_
    refine r_op rfl rfl rfl (run_ixS (k) rfl Try.underlying9 (by exact rfl) (by exact rfl) (by first | exact rfl | omega) (by omega)) ?_
    refine r_op rfl rfl rfl (run_asg (v := .int _ _) rfl (by exact rfl)) ?_
    refine r_nil ?_
    refine r_seq ?_
    refine r_seq ?_
    refine r_region ?_
    refine r_op rfl rfl rfl (run_mv (v := .int _ _) rfl (by exact rfl)) ?_
    refine r_op rfl rfl rfl (run_geq rfl (by exact rfl) (by exact rfl)) ?_
    refine r_op rfl rfl rfl (run_mv (v := .bool _) rfl (by exact rfl)) ?_
    refine r_g rfl (wantT (by exact rfl)) rfl (fun hg => run_mv (v := .int _ _) rfl (by exact rfl)) ?_
    refine r_g rfl (wantT (by exact rfl)) rfl (fun hg => run_leq rfl (glv (by exact rfl) (fun h => h) hg) (by exact rfl)) ?_
    refine r_op rfl rfl rfl (run_pick_and rfl (by exact rfl) (fun hq => glv (by exact rfl) (fun h => h) hq) rfl) ?_
    refine r_op rfl rfl rfl (run_mv (v := .bool _) rfl (by exact rfl)) ?_
    refine r_g rfl (wantF (by exact rfl)) rfl (fun hg => run_mv (v := .int _ _) rfl (by exact rfl)) ?_
    refine r_g rfl (wantF (by exact rfl)) rfl (fun hg => run_gtr rfl (glv (by exact rfl) (fun h => h) hg) (by exact rfl)) ?_
    refine r_g rfl (wantF (by exact rfl)) rfl (fun hg => run_mv (v := .bool _) rfl (glv (by exact rfl) (fun h => h) hg)) ?_
    refine r_g rfl (wantTg (by exact rfl)) rfl (fun hg => run_mv (v := .int _ _) rfl (by exact rfl)) ?_
    refine r_g rfl (wantTg (by exact rfl)) rfl (fun hg => run_geq rfl (glv (by exact rfl) (fun h => h) hg) (by exact rfl)) ?_
    refine r_g rfl (wantTg (by exact rfl)) rfl (fun hg => run_mv (v := .bool _) rfl (glv (by exact rfl) (fun h => h) hg)) ?_
    refine r_g rfl (wantTg (by exact rfl)) rfl (fun hg => run_mv (v := .int _ _) rfl (by exact rfl)) ?_
    refine r_g rfl (wantTg (by exact rfl)) rfl (fun hg => run_leq rfl (glv (by exact rfl) (fun h => h) hg) (by exact rfl)) ?_
    refine r_g rfl (wantTg (by exact rfl)) rfl (fun hg => run_pick_and rfl (glv (by exact rfl) (fun h => h) hg) (fun hq => glv (by exact rfl) (fun h => h) (And.intro hg hq)) rfl) ?_
    refine r_g rfl (wantTg (by exact rfl)) rfl (fun hg => run_mv (v := .bool _) rfl (glv (by exact rfl) (fun h => h) hg)) ?_
    refine r_g rfl (wantFg (by exact rfl)) rfl (fun hg => run_mv (v := .int _ _) rfl (by exact rfl)) ?_
    refine r_g rfl (wantFg (by exact rfl)) rfl (fun hg => run_eql rfl (glv (by exact rfl) (fun h => h) hg) (by exact rfl)) ?_
    refine r_g rfl (wantTg (by exact rfl)) rfl (fun hg => run_pick_or rfl (glv (by exact rfl) (fun h => h) hg) rfl (fun hq => glv (by exact rfl) (fun h => h) (And.intro hg hq))) ?_
    refine r_g rfl (wantF (by exact rfl)) rfl (fun hg => run_pick_and rfl (glv (by exact rfl) (fun h => h) hg) (fun hq => glv (by exact rfl) (fun h => h) (And.intro hg hq)) rfl) ?_
    refine r_op rfl rfl rfl (run_pick_or rfl (by exact rfl) rfl (fun hq => glv (by exact rfl) (fun h => h) hq)) ?_
    refine r_nil ?_
    refine r_cond (by exact rfl) (fun hc6 => ?_) (fun hc6 => ?_)
    ·skip
     refine r_exit rfl ?_
     refine r_region ?_
     refine r_op rfl rfl rfl (run_mv (v := .int _ _) rfl (by exact rfl)) ?_
     refine r_op rfl rfl rfl (run_add rfl (by exact rfl) (by exact rfl) (by omega) (by omega)) ?_
     refine r_op rfl rfl rfl (run_asg (v := .int _ _) rfl (by exact rfl)) ?_
     refine r_nil ?_
     refine r_again (k + 1) ?_ ?_ ?_
     ·first | omega | (dsimp only; omega)
     ·refine ⟨(by first | exact rfl | exact congrArg (Value.int _) (by omega) | exact congrArg (Value.int _) (by dsimp only; omega) | exact congrArg (Value.int _) (by simp) | exact congrArg S (by simp)), (by first | assumption | omega | (dsimp only; omega) | (simp; done)), (.inr (hlow.elim (fun h => by subst h; omega) id)), (upto1 hall (fun _ => (nameB_iff _).2 (by omega))), (by first | assumption | omega | (dsimp only; omega) | (simp; done)), hV⟩
     ·repeat (first | (with_reducible exact Agree.merge _ _ _) | (with_reducible exact Agree.refl _ _) | (with_reducible refine Agree.upd ?_ _ _ rfl) | ((with_reducible refine Agree.inner ?_ ?_); (kernel_rfl)))
    ·skip
     refine r_skip ?_
     refine r_seq ?_
     refine r_region ?_
     refine r_op rfl rfl rfl (run_asg (v := .bool _) rfl (by exact rfl)) ?_
     refine r_nil ?_
     refine r_ret (res1 (v := .bool _) rfl (by exact rfl)) ?_
     exact ⟨by rw [isName_bad (k := k) (by omega) (by omega)], hV⟩
   ·skip
    refine r_exit rfl ?_
    refine r_seq ?_
    refine r_region ?_
    refine r_op rfl rfl rfl (run_asg (v := .bool _) rfl (by exact rfl)) ?_
    refine r_nil ?_
    refine r_ret (res1 (v := .bool _) rfl (by exact rfl)) ?_
    exact ⟨by rw [(isName_iff s).2 ⟨by omega, by omega, by omega, fun j h1 h2 => hall j h1 (by omega)⟩], hV⟩

theorem sl_ib_calls {s : Str} {c : UInt8} {w0 : World}  :
    Calls Try.prog 193 #[S s, .int .u8 ((c.toNat : Nat) : Int)] w0 fun e w' => e = .returned (.int .i64 (Lib.indexByte s c)) ∧ Evo w0 w' [] := by
 refine calls_enter (n := 8) (args := [S s, .int .u8 ((c.toNat : Nat) : Int)]) Try.func193 rfl Try.ntmps193 rfl ?_
 have hV : Evo w0 w0 [] := Evo.refl _ _
 refine r_seq ?_
 refine r_region ?_
 refine r_op rfl rfl rfl (run_asg (v := .int _ _) rfl (by exact rfl)) ?_
 refine r_nil ?_
 refine r_seq ?_
 refine r_region ?_
 refine r_op rfl rfl rfl (run_mv (v := S _) rfl (by exact rfl)) ?_
 refine r_op rfl rfl rfl (run_mv (v := .int _ _) rfl (by exact rfl)) ?_
 refine r_op rfl rfl rfl (run_extIdx (s := _) (c := _) rfl (by exact rfl) (by exact rfl) Try.func207 rfl rfl rfl rfl) ?_
 refine r_op rfl rfl rfl (run_asg (v := .int _ _) rfl (by exact rfl)) ?_
 refine r_nil ?_
 refine r_ret (res1 (v := .int _ _) rfl (by exact rfl)) ?_
 exact ⟨rfl, hV⟩

theorem sl_ix_calls {s : Str} {c : UInt8} {w0 : World}  :
    Calls Try.prog 154 #[S s, S [c]] w0 fun e w' => e = .returned (.int .i64 (Lib.indexByte s c)) ∧ Evo w0 w' [] := by
 refine calls_enter (n := 143) (args := [S s, S [c]]) Try.func154 rfl Try.ntmps154 rfl ?_
 have hV : Evo w0 w0 [] := Evo.refl _ _
 refine r_seq ?_
 refine r_region ?_
 refine r_op rfl rfl rfl (run_asg (v := .int _ _) rfl (by exact rfl)) ?_
 refine r_nil ?_
 refine r_seq ?_
 refine r_region ?_
 refine r_op rfl rfl rfl (run_mv (v := S _) rfl (by exact rfl)) ?_
 refine r_op rfl rfl rfl (run_lenS rfl (by exact rfl) Try.underlying9) ?_
 refine r_op rfl rfl rfl (run_asg (v := .int _ _) rfl (by exact rfl)) ?_
 refine r_nil ?_
 refine r_seq ?_
 refine r_block ?_
 refine r_seq ?_
 refine r_region ?_
 refine r_op rfl rfl rfl (run_mv (v := .int _ _) rfl (by exact rfl)) ?_
 refine r_op rfl rfl rfl (run_eql rfl (by exact rfl) (by exact rfl)) ?_
 refine r_op rfl rfl rfl (run_mv (v := .bool _) rfl (by exact rfl)) ?_
 refine r_g rfl (wantF (by exact rfl)) rfl (fun hg => run_mv (v := S _) rfl (by exact rfl)) ?_
 refine r_g rfl (wantF (by exact rfl)) rfl (fun hg => run_mv (v := S _) rfl (by exact rfl)) ?_
 refine r_g rfl (wantF (by exact rfl)) rfl (fun hg => run_seql rfl (glv (by exact rfl) (fun h => h) hg) (glv (by exact rfl) (fun h => h) hg)) ?_
 refine r_op rfl rfl rfl (run_pick_or rfl (by exact rfl) rfl (fun hq => glv (by exact rfl) (fun h => h) hq)) ?_
 refine r_op rfl rfl rfl (run_asg (v := .bool _) rfl (by exact rfl)) ?_
 refine r_nil ?_
 refine r_cond (by exact rfl) (fun hc1 => ?_) (fun hc1 => ?_)
 ·skip
  refine r_seq ?_
  refine r_region ?_
  refine r_op rfl rfl rfl (run_asg (v := .int _ _) rfl (by exact rfl)) ?_
  refine r_nil ?_
  refine r_ret (res1 (v := .int _ _) rfl (by exact rfl)) ?_
  exact ⟨by rw [ix_same hc1], hV⟩
 ·skip
  refine r_seq ?_
  refine r_region ?_
  refine r_op rfl rfl rfl (run_mv (v := .int _ _) rfl (by exact rfl)) ?_
  refine r_op rfl rfl rfl (run_eql rfl (by exact rfl) (by exact rfl)) ?_
  refine r_op rfl rfl rfl (run_asg (v := .bool _) rfl (by exact rfl)) ?_
  refine r_nil ?_
  refine r_cond (by exact rfl) (fun hc2 => ?_) (fun hc2 => ?_)
  ·skip
   refine r_seq ?_
   refine r_region ?_
   refine r_op rfl rfl rfl (run_mv (v := S _) rfl (by exact rfl)) ?_
   refine r_op rfl rfl rfl (run_mv (v := S _) rfl (by exact rfl)) ?_
   refine r_op rfl rfl rfl (run_ixS (0) rfl Try.underlying9 (by exact rfl) (by exact rfl) (by first | exact rfl | omega) (by simp)) ?_
   refine r_opcall rfl rfl rfl (run_callf (vs := [S _, .int _ _]) rfl (by exact rfl) Try.func193 rfl (by kernel_rfl)) sl_ib_calls ?_
   rintro e w3 ⟨rfl, hE3⟩
   refine ⟨_, rfl, ?_⟩
   have hs_w3 := (hE3).size
   replace hV := evo_step0 hV hE3
   refine r_op rfl rfl rfl (run_asg (v := .int _ _) rfl (by exact rfl)) ?_
   refine r_nil ?_
   refine r_ret (res1 (v := .int _ _) rfl (by exact rfl)) ?_
   exact ⟨rfl, hV⟩
  ·skip
   exfalso; simp at hc2

theorem sl_cut_calls {s : Str} {c : UInt8} {w0 : World} (hs : s.length ≤ 140737488355328) :
    Calls Try.prog 121 #[S s, S [c]] w0 fun e w' => e = .returned (.tuple #[S (cutL s c).1, S (cutL s c).2.1, .bool (cutL s c).2.2]) ∧ Evo w0 w' [] := by
 refine calls_enter (n := 23) (args := [S s, S [c]]) Try.func121 rfl Try.ntmps121 rfl ?_
 have hV : Evo w0 w0 [] := Evo.refl _ _
 refine r_seq ?_
 refine r_region ?_
 refine r_op rfl rfl rfl (run_asg (v := S _) rfl (by exact rfl)) ?_
 refine r_op rfl rfl rfl (run_asg (v := S _) rfl (by exact rfl)) ?_
 refine r_op rfl rfl rfl (run_asg (v := .bool _) rfl (by exact rfl)) ?_
 refine r_nil ?_
 refine r_seq ?_
 refine r_seq ?_
 refine r_region ?_
 refine r_op rfl rfl rfl (run_mv (v := S _) rfl (by exact rfl)) ?_
 refine r_op rfl rfl rfl (run_mv (v := S _) rfl (by exact rfl)) ?_
 refine r_opcall rfl rfl rfl (run_callf (vs := [S _, S _]) rfl (by exact rfl) Try.func154 rfl (by kernel_rfl)) sl_ix_calls ?_
 rintro e w1 ⟨rfl, hE1⟩
 refine ⟨_, rfl, ?_⟩
 have hs_w1 := (hE1).size
 replace hV := evo_step0 hV hE1
 refine r_op rfl rfl rfl (run_asg (v := .int _ _) rfl (by exact rfl)) ?_
 refine r_nil ?_
 refine r_seq ?_
 have hix := index_tw s c
 refine r_region ?_
 refine r_op rfl rfl rfl (run_mv (v := .int _ _) rfl (by exact rfl)) ?_
 refine r_op rfl rfl rfl (run_geq rfl (by exact rfl) (by exact rfl)) ?_
 refine r_nil ?_
 refine r_cond (by exact rfl) (fun hc2 => ?_) (fun hc2 => ?_)
 ·skip
  refine r_seq ?_
  refine r_qregion (by kernel_rfl) (by kernel_rfl) ?_
  refine q_op rfl rfl rfl (fun w' hC => run_mv (v := S _) rfl (by exact rfl)) ?_
  refine q_op rfl rfl rfl (fun w' hC => run_mv (v := .int _ _) rfl (by exact rfl)) ?_
  refine q_op rfl rfl rfl (fun w' hC => run_slS (0) ((s.takeWhile (fun x => x != c)).length) rfl Try.underlying9 (by exact rfl) lo0 (at1 (by exact rfl) (by omega)) (by first | omega | (simp; omega)) (by first | omega | (simp; omega))) ?_
  refine q_op rfl rfl rfl (fun w' hC => run_mv (v := S _) rfl (by exact rfl)) ?_
  refine q_op rfl rfl rfl (fun w' hC => run_mv (v := .int _ _) rfl (by exact rfl)) ?_
  refine q_op rfl rfl rfl (fun w' hC => run_mv (v := S _) rfl (by exact rfl)) ?_
  refine q_op rfl rfl rfl (fun w' hC => run_lenS rfl (by exact rfl) Try.underlying9) ?_
  refine q_op rfl rfl rfl (fun w' hC => run_add rfl (by exact rfl) (by exact rfl) (by simp; omega) (by simp; omega)) ?_
  refine q_op rfl rfl rfl (fun w' hC => run_slS ((s.takeWhile (fun x => x != c)).length + 1) (_) rfl Try.underlying9 (by exact rfl) (at1 (by exact rfl) (by simp; omega)) hi0 (by first | omega | (simp; omega)) (by first | omega | (simp; omega))) ?_
  refine q_op rfl rfl rfl (fun w' hC => run_asg (v := S _) rfl (by exact rfl)) ?_
  refine q_op rfl rfl rfl (fun w' hC => run_asg (v := S _) rfl (by exact rfl)) ?_
  refine q_op rfl rfl rfl (fun w' hC => run_asg (v := .bool _) rfl (by exact rfl)) ?_
  refine q_nil (fun w3 hE4 => ?_)
  have hs_w3 := (hE4).size
  replace hV := evo_step0 hV hE4
  refine r_ret (res3 (v := S _) (u := S _) (x := .bool _) rfl (by exact rfl) (by exact rfl) (by exact rfl)) ?_
  exact ⟨by unfold cutL; rw [if_pos (by omega)]; simp; rw [List.take_of_length_le (by simp)], hV⟩
 ·skip
  refine r_skip ?_
  refine r_seq ?_
  refine r_region ?_
  refine r_op rfl rfl rfl (run_mv (v := S _) rfl (by exact rfl)) ?_
  refine r_op rfl rfl rfl (run_asg (v := S _) rfl (by exact rfl)) ?_
  refine r_op rfl rfl rfl (run_asg (v := S _) rfl (by exact rfl)) ?_
  refine r_op rfl rfl rfl (run_asg (v := .bool _) rfl (by exact rfl)) ?_
  refine r_nil ?_
  refine r_ret (res3 (v := S _) (u := S _) (x := .bool _) rfl (by exact rfl) (by exact rfl) (by exact rfl)) ?_
  exact ⟨by unfold cutL; rw [if_neg (by omega)], hV⟩

theorem s_cut_calls {s : Str} {c : UInt8} {w0 : World} (hs : s.length ≤ 140737488355328) :
    Calls Try.prog 83 #[S s, S [c]] w0 fun e w' => e = .returned (.tuple #[S (cutL s c).1, S (cutL s c).2.1, .bool (cutL s c).2.2]) ∧ Evo w0 w' [] := by
 refine calls_enter (n := 13) (args := [S s, S [c]]) Try.func83 rfl Try.ntmps83 rfl ?_
 have hV : Evo w0 w0 [] := Evo.refl _ _
 refine r_seq ?_
 refine r_region ?_
 refine r_op rfl rfl rfl (run_asg (v := S _) rfl (by exact rfl)) ?_
 refine r_op rfl rfl rfl (run_asg (v := S _) rfl (by exact rfl)) ?_
 refine r_op rfl rfl rfl (run_asg (v := .bool _) rfl (by exact rfl)) ?_
 refine r_nil ?_
 refine r_seq ?_
 refine r_region ?_
 refine r_op rfl rfl rfl (run_mv (v := S _) rfl (by exact rfl)) ?_
 refine r_op rfl rfl rfl (run_mv (v := S _) rfl (by exact rfl)) ?_
 refine r_opcall rfl rfl rfl (run_callf (vs := [S _, S _]) rfl (by exact rfl) Try.func121 rfl (by kernel_rfl)) (sl_cut_calls (by omega)) ?_
 rintro e w1 ⟨rfl, hE1⟩
 refine ⟨_, rfl, ?_⟩
 have hs_w1 := (hE1).size
 replace hV := evo_step0 hV hE1
 refine r_op rfl rfl rfl (run_extract (v := S _) rfl (by exact rfl) (by exact rfl)) ?_
 refine r_op rfl rfl rfl (run_extract (v := S _) rfl (by exact rfl) (by exact rfl)) ?_
 refine r_op rfl rfl rfl (run_extract (v := .bool _) rfl (by exact rfl) (by exact rfl)) ?_
 refine r_op rfl rfl rfl (run_asg (v := S _) rfl (by exact rfl)) ?_
 refine r_op rfl rfl rfl (run_asg (v := S _) rfl (by exact rfl)) ?_
 refine r_op rfl rfl rfl (run_asg (v := .bool _) rfl (by exact rfl)) ?_
 refine r_nil ?_
 refine r_ret (res3 (v := S _) (u := S _) (x := .bool _) rfl (by exact rfl) (by exact rfl) (by exact rfl)) ?_
 exact ⟨rfl, hV⟩

end Go.Proofs.Ytomklacppmaljaa

namespace Go.Proofs.Ytomklacppmaljaa
open Go.RowKit Go.Vc
theorem ag_5 : aggP Try.prog 5 = some false := by kernel_rfl
theorem ty_5 : tyP Try.prog 5 = some (1, 1, some (.int .u8 0)) := by kernel_rfl
theorem of_calls {c : UInt8} {w0 : World}  :
    Calls Try.prog 151 #[.int .u8 ((c.toNat : Nat) : Int)] w0 fun e w' => e = .returned (.int .i64 (clsB c)) ∧ Evo w0 w' [] := by
 refine calls_enter (n := 51) (args := [.int .u8 ((c.toNat : Nat) : Int)]) Try.func151 rfl Try.ntmps151 rfl ?_
 have hV : Evo w0 w0 [] := Evo.refl _ _
 refine r_seq ?_
 refine r_region ?_
 refine r_op rfl rfl rfl (run_asg (v := .int _ _) rfl (by exact rfl)) ?_
 refine r_nil ?_
 refine r_seq ?_
 refine r_block ?_
 refine r_seq ?_
 refine r_region ?_
 refine r_op rfl rfl rfl (run_mv (v := .int _ _) rfl (by exact rfl)) ?_
 refine r_op rfl rfl rfl (run_eql rfl (by exact rfl) (by exact rfl)) ?_
 refine r_op rfl rfl rfl (run_mv (v := .bool _) rfl (by exact rfl)) ?_
 refine r_g rfl (wantF (by exact rfl)) rfl (fun hg => run_mv (v := .int _ _) rfl (by exact rfl)) ?_
 refine r_g rfl (wantF (by exact rfl)) rfl (fun hg => run_eql rfl (glv (by exact rfl) (fun h => h) hg) (by exact rfl)) ?_
 refine r_op rfl rfl rfl (run_pick_or rfl (by exact rfl) rfl (fun hq => glv (by exact rfl) (fun h => h) hq)) ?_
 refine r_op rfl rfl rfl (run_mv (v := .bool _) rfl (by exact rfl)) ?_
 refine r_g rfl (wantF (by exact rfl)) rfl (fun hg => run_mv (v := .int _ _) rfl (by exact rfl)) ?_
 refine r_g rfl (wantF (by exact rfl)) rfl (fun hg => run_eql rfl (glv (by exact rfl) (fun h => h) hg) (by exact rfl)) ?_
 refine r_op rfl rfl rfl (run_pick_or rfl (by exact rfl) rfl (fun hq => glv (by exact rfl) (fun h => h) hq)) ?_
 refine r_op rfl rfl rfl (run_mv (v := .bool _) rfl (by exact rfl)) ?_
 refine r_g rfl (wantF (by exact rfl)) rfl (fun hg => run_mv (v := .int _ _) rfl (by exact rfl)) ?_
 refine r_g rfl (wantF (by exact rfl)) rfl (fun hg => run_eql rfl (glv (by exact rfl) (fun h => h) hg) (by exact rfl)) ?_
 refine r_op rfl rfl rfl (run_pick_or rfl (by exact rfl) rfl (fun hq => glv (by exact rfl) (fun h => h) hq)) ?_
 refine r_op rfl rfl rfl (run_asg (v := .bool _) rfl (by exact rfl)) ?_
 refine r_nil ?_
 refine r_cond (by exact rfl) (fun hc1 => ?_) (fun hc1 => ?_)
 ·skip
  refine r_seq ?_
  refine r_region ?_
  refine r_op rfl rfl rfl (run_asg (v := .int _ _) rfl (by exact rfl)) ?_
  refine r_nil ?_
  refine r_ret (res1 (v := .int _ _) rfl (by exact rfl)) ?_
  exact ⟨ret_int (by rw [cls_space (by omega)]), hV⟩
 ·skip
  refine r_seq ?_
  refine r_region ?_
  refine r_op rfl rfl rfl (run_mv (v := .int _ _) rfl (by exact rfl)) ?_
  refine r_op rfl rfl rfl (run_lss rfl (by exact rfl) (by exact rfl)) ?_
  refine r_op rfl rfl rfl (run_mv (v := .bool _) rfl (by exact rfl)) ?_
  refine r_g rfl (wantF (by exact rfl)) rfl (fun hg => run_mv (v := .int _ _) rfl (by exact rfl)) ?_
  refine r_g rfl (wantF (by exact rfl)) rfl (fun hg => run_eql rfl (glv (by exact rfl) (fun h => h) hg) (by exact rfl)) ?_
  refine r_op rfl rfl rfl (run_pick_or rfl (by exact rfl) rfl (fun hq => glv (by exact rfl) (fun h => h) hq)) ?_
  refine r_op rfl rfl rfl (run_asg (v := .bool _) rfl (by exact rfl)) ?_
  refine r_nil ?_
  refine r_cond (by exact rfl) (fun hc2 => ?_) (fun hc2 => ?_)
  ·skip
   refine r_seq ?_
   refine r_region ?_
   refine r_op rfl rfl rfl (run_asg (v := .int _ _) rfl (by exact rfl)) ?_
   refine r_nil ?_
   refine r_ret (res1 (v := .int _ _) rfl (by exact rfl)) ?_
   exact ⟨ret_int (by rw [cls_control (by omega) (by omega)]), hV⟩
  ·skip
   refine r_seq ?_
   refine r_region ?_
   refine r_op rfl rfl rfl (run_mv (v := .int _ _) rfl (by exact rfl)) ?_
   refine r_op rfl rfl rfl (run_geq rfl (by exact rfl) (by exact rfl)) ?_
   refine r_op rfl rfl rfl (run_mv (v := .bool _) rfl (by exact rfl)) ?_
   refine r_g rfl (wantT (by exact rfl)) rfl (fun hg => run_mv (v := .int _ _) rfl (by exact rfl)) ?_
   refine r_g rfl (wantT (by exact rfl)) rfl (fun hg => run_leq rfl (glv (by exact rfl) (fun h => h) hg) (by exact rfl)) ?_
   refine r_op rfl rfl rfl (run_pick_and rfl (by exact rfl) (fun hq => glv (by exact rfl) (fun h => h) hq) rfl) ?_
   refine r_op rfl rfl rfl (run_asg (v := .bool _) rfl (by exact rfl)) ?_
   refine r_nil ?_
   refine r_cond (by exact rfl) (fun hc3 => ?_) (fun hc3 => ?_)
   ·skip
    refine r_seq ?_
    refine r_region ?_
    refine r_op rfl rfl rfl (run_asg (v := .int _ _) rfl (by exact rfl)) ?_
    refine r_nil ?_
    refine r_ret (res1 (v := .int _ _) rfl (by exact rfl)) ?_
    exact ⟨ret_int (by rw [cls_digit (by omega)]), hV⟩
   ·skip
    refine r_seq ?_
    refine r_region ?_
    refine r_op rfl rfl rfl (run_mv (v := .int _ _) rfl (by exact rfl)) ?_
    refine r_op rfl rfl rfl (run_geq rfl (by exact rfl) (by exact rfl)) ?_
    refine r_op rfl rfl rfl (run_mv (v := .bool _) rfl (by exact rfl)) ?_
    refine r_g rfl (wantT (by exact rfl)) rfl (fun hg => run_mv (v := .int _ _) rfl (by exact rfl)) ?_
    refine r_g rfl (wantT (by exact rfl)) rfl (fun hg => run_leq rfl (glv (by exact rfl) (fun h => h) hg) (by exact rfl)) ?_
    refine r_op rfl rfl rfl (run_pick_and rfl (by exact rfl) (fun hq => glv (by exact rfl) (fun h => h) hq) rfl) ?_
    refine r_op rfl rfl rfl (run_mv (v := .bool _) rfl (by exact rfl)) ?_
    refine r_g rfl (wantF (by exact rfl)) rfl (fun hg => run_mv (v := .int _ _) rfl (by exact rfl)) ?_
    refine r_g rfl (wantF (by exact rfl)) rfl (fun hg => run_geq rfl (glv (by exact rfl) (fun h => h) hg) (by exact rfl)) ?_
    refine r_g rfl (wantF (by exact rfl)) rfl (fun hg => run_mv (v := .bool _) rfl (glv (by exact rfl) (fun h => h) hg)) ?_
    refine r_g rfl (wantTg (by exact rfl)) rfl (fun hg => run_mv (v := .int _ _) rfl (by exact rfl)) ?_
    refine r_g rfl (wantTg (by exact rfl)) rfl (fun hg => run_leq rfl (glv (by exact rfl) (fun h => h) hg) (by exact rfl)) ?_
    refine r_g rfl (wantF (by exact rfl)) rfl (fun hg => run_pick_and rfl (glv (by exact rfl) (fun h => h) hg) (fun hq => glv (by exact rfl) (fun h => h) (And.intro hg hq)) rfl) ?_
    refine r_op rfl rfl rfl (run_pick_or rfl (by exact rfl) rfl (fun hq => glv (by exact rfl) (fun h => h) hq)) ?_
    refine r_op rfl rfl rfl (run_mv (v := .bool _) rfl (by exact rfl)) ?_
    refine r_g rfl (wantF (by exact rfl)) rfl (fun hg => run_mv (v := .int _ _) rfl (by exact rfl)) ?_
    refine r_g rfl (wantF (by exact rfl)) rfl (fun hg => run_geq rfl (glv (by exact rfl) (fun h => h) hg) (by exact rfl)) ?_
    refine r_op rfl rfl rfl (run_pick_or rfl (by exact rfl) rfl (fun hq => glv (by exact rfl) (fun h => h) hq)) ?_
    refine r_op rfl rfl rfl (run_asg (v := .bool _) rfl (by exact rfl)) ?_
    refine r_nil ?_
    refine r_cond (by exact rfl) (fun hc4 => ?_) (fun hc4 => ?_)
    ·skip
     refine r_seq ?_
     refine r_region ?_
     refine r_op rfl rfl rfl (run_asg (v := .int _ _) rfl (by exact rfl)) ?_
     refine r_nil ?_
     refine r_ret (res1 (v := .int _ _) rfl (by exact rfl)) ?_
     exact ⟨ret_int (by rw [cls_letter (by omega)]), hV⟩
    ·skip
     refine r_skip ?_
     refine r_blk ?_
     refine r_seq ?_
     refine r_region ?_
     refine r_op rfl rfl rfl (run_asg (v := .int _ _) rfl (by exact rfl)) ?_
     refine r_nil ?_
     refine r_ret (res1 (v := .int _ _) rfl (by exact rfl)) ?_
     exact ⟨ret_int (by rw [cls_mark (by omega) (by omega) (by omega) (by omega)]), hV⟩

theorem rclass_calls {c : UInt8} {w0 : World}  :
    Calls Try.prog 153 #[.int .u8 ((c.toNat : Nat) : Int)] w0 fun e w' => e = .returned (.int .i64 (clsB c)) ∧ Evo w0 w' [] := by
 refine calls_enter (n := 51) (args := [.int .u8 ((c.toNat : Nat) : Int)]) Try.func153 rfl Try.ntmps153 rfl ?_
 have hV : Evo w0 w0 [] := Evo.refl _ _
 refine r_seq ?_
 refine r_region ?_
 refine r_op rfl rfl rfl (run_asg (v := .int _ _) rfl (by exact rfl)) ?_
 refine r_nil ?_
 refine r_seq ?_
 refine r_block ?_
 refine r_seq ?_
 refine r_region ?_
 refine r_op rfl rfl rfl (run_mv (v := .int _ _) rfl (by exact rfl)) ?_
 refine r_op rfl rfl rfl (run_eql rfl (by exact rfl) (by exact rfl)) ?_
 refine r_op rfl rfl rfl (run_mv (v := .bool _) rfl (by exact rfl)) ?_
 refine r_g rfl (wantF (by exact rfl)) rfl (fun hg => run_mv (v := .int _ _) rfl (by exact rfl)) ?_
 refine r_g rfl (wantF (by exact rfl)) rfl (fun hg => run_eql rfl (glv (by exact rfl) (fun h => h) hg) (by exact rfl)) ?_
 refine r_op rfl rfl rfl (run_pick_or rfl (by exact rfl) rfl (fun hq => glv (by exact rfl) (fun h => h) hq)) ?_
 refine r_op rfl rfl rfl (run_mv (v := .bool _) rfl (by exact rfl)) ?_
 refine r_g rfl (wantF (by exact rfl)) rfl (fun hg => run_mv (v := .int _ _) rfl (by exact rfl)) ?_
 refine r_g rfl (wantF (by exact rfl)) rfl (fun hg => run_eql rfl (glv (by exact rfl) (fun h => h) hg) (by exact rfl)) ?_
 refine r_op rfl rfl rfl (run_pick_or rfl (by exact rfl) rfl (fun hq => glv (by exact rfl) (fun h => h) hq)) ?_
 refine r_op rfl rfl rfl (run_mv (v := .bool _) rfl (by exact rfl)) ?_
 refine r_g rfl (wantF (by exact rfl)) rfl (fun hg => run_mv (v := .int _ _) rfl (by exact rfl)) ?_
 refine r_g rfl (wantF (by exact rfl)) rfl (fun hg => run_eql rfl (glv (by exact rfl) (fun h => h) hg) (by exact rfl)) ?_
 refine r_op rfl rfl rfl (run_pick_or rfl (by exact rfl) rfl (fun hq => glv (by exact rfl) (fun h => h) hq)) ?_
 refine r_op rfl rfl rfl (run_asg (v := .bool _) rfl (by exact rfl)) ?_
 refine r_nil ?_
 refine r_cond (by exact rfl) (fun hc1 => ?_) (fun hc1 => ?_)
 ·skip
  refine r_seq ?_
  refine r_region ?_
  refine r_op rfl rfl rfl (run_asg (v := .int _ _) rfl (by exact rfl)) ?_
  refine r_nil ?_
  refine r_ret (res1 (v := .int _ _) rfl (by exact rfl)) ?_
  exact ⟨ret_int (by rw [cls_space (by omega)]), hV⟩
 ·skip
  refine r_seq ?_
  refine r_region ?_
  refine r_op rfl rfl rfl (run_mv (v := .int _ _) rfl (by exact rfl)) ?_
  refine r_op rfl rfl rfl (run_lss rfl (by exact rfl) (by exact rfl)) ?_
  refine r_op rfl rfl rfl (run_mv (v := .bool _) rfl (by exact rfl)) ?_
  refine r_g rfl (wantF (by exact rfl)) rfl (fun hg => run_mv (v := .int _ _) rfl (by exact rfl)) ?_
  refine r_g rfl (wantF (by exact rfl)) rfl (fun hg => run_eql rfl (glv (by exact rfl) (fun h => h) hg) (by exact rfl)) ?_
  refine r_op rfl rfl rfl (run_pick_or rfl (by exact rfl) rfl (fun hq => glv (by exact rfl) (fun h => h) hq)) ?_
  refine r_op rfl rfl rfl (run_asg (v := .bool _) rfl (by exact rfl)) ?_
  refine r_nil ?_
  refine r_cond (by exact rfl) (fun hc2 => ?_) (fun hc2 => ?_)
  ·skip
   refine r_seq ?_
   refine r_region ?_
   refine r_op rfl rfl rfl (run_asg (v := .int _ _) rfl (by exact rfl)) ?_
   refine r_nil ?_
   refine r_ret (res1 (v := .int _ _) rfl (by exact rfl)) ?_
   exact ⟨ret_int (by rw [cls_control (by omega) (by omega)]), hV⟩
  ·skip
   refine r_seq ?_
   refine r_region ?_
   refine r_op rfl rfl rfl (run_mv (v := .int _ _) rfl (by exact rfl)) ?_
   refine r_op rfl rfl rfl (run_geq rfl (by exact rfl) (by exact rfl)) ?_
   refine r_op rfl rfl rfl (run_mv (v := .bool _) rfl (by exact rfl)) ?_
   refine r_g rfl (wantT (by exact rfl)) rfl (fun hg => run_mv (v := .int _ _) rfl (by exact rfl)) ?_
   refine r_g rfl (wantT (by exact rfl)) rfl (fun hg => run_leq rfl (glv (by exact rfl) (fun h => h) hg) (by exact rfl)) ?_
   refine r_op rfl rfl rfl (run_pick_and rfl (by exact rfl) (fun hq => glv (by exact rfl) (fun h => h) hq) rfl) ?_
   refine r_op rfl rfl rfl (run_asg (v := .bool _) rfl (by exact rfl)) ?_
   refine r_nil ?_
   refine r_cond (by exact rfl) (fun hc3 => ?_) (fun hc3 => ?_)
   ·skip
    refine r_seq ?_
    refine r_region ?_
    refine r_op rfl rfl rfl (run_asg (v := .int _ _) rfl (by exact rfl)) ?_
    refine r_nil ?_
    refine r_ret (res1 (v := .int _ _) rfl (by exact rfl)) ?_
    exact ⟨ret_int (by rw [cls_digit (by omega)]), hV⟩
   ·skip
    refine r_seq ?_
    refine r_region ?_
    refine r_op rfl rfl rfl (run_mv (v := .int _ _) rfl (by exact rfl)) ?_
    refine r_op rfl rfl rfl (run_geq rfl (by exact rfl) (by exact rfl)) ?_
    refine r_op rfl rfl rfl (run_mv (v := .bool _) rfl (by exact rfl)) ?_
    refine r_g rfl (wantT (by exact rfl)) rfl (fun hg => run_mv (v := .int _ _) rfl (by exact rfl)) ?_
    refine r_g rfl (wantT (by exact rfl)) rfl (fun hg => run_leq rfl (glv (by exact rfl) (fun h => h) hg) (by exact rfl)) ?_
    refine r_op rfl rfl rfl (run_pick_and rfl (by exact rfl) (fun hq => glv (by exact rfl) (fun h => h) hq) rfl) ?_
    refine r_op rfl rfl rfl (run_mv (v := .bool _) rfl (by exact rfl)) ?_
    refine r_g rfl (wantF (by exact rfl)) rfl (fun hg => run_mv (v := .int _ _) rfl (by exact rfl)) ?_
    refine r_g rfl (wantF (by exact rfl)) rfl (fun hg => run_geq rfl (glv (by exact rfl) (fun h => h) hg) (by exact rfl)) ?_
    refine r_g rfl (wantF (by exact rfl)) rfl (fun hg => run_mv (v := .bool _) rfl (glv (by exact rfl) (fun h => h) hg)) ?_
    refine r_g rfl (wantTg (by exact rfl)) rfl (fun hg => run_mv (v := .int _ _) rfl (by exact rfl)) ?_
    refine r_g rfl (wantTg (by exact rfl)) rfl (fun hg => run_leq rfl (glv (by exact rfl) (fun h => h) hg) (by exact rfl)) ?_
    refine r_g rfl (wantF (by exact rfl)) rfl (fun hg => run_pick_and rfl (glv (by exact rfl) (fun h => h) hg) (fun hq => glv (by exact rfl) (fun h => h) (And.intro hg hq)) rfl) ?_
    refine r_op rfl rfl rfl (run_pick_or rfl (by exact rfl) rfl (fun hq => glv (by exact rfl) (fun h => h) hq)) ?_
    refine r_op rfl rfl rfl (run_mv (v := .bool _) rfl (by exact rfl)) ?_
    refine r_g rfl (wantF (by exact rfl)) rfl (fun hg => run_mv (v := .int _ _) rfl (by exact rfl)) ?_
    refine r_g rfl (wantF (by exact rfl)) rfl (fun hg => run_geq rfl (glv (by exact rfl) (fun h => h) hg) (by exact rfl)) ?_
    refine r_op rfl rfl rfl (run_pick_or rfl (by exact rfl) rfl (fun hq => glv (by exact rfl) (fun h => h) hq)) ?_
    refine r_op rfl rfl rfl (run_asg (v := .bool _) rfl (by exact rfl)) ?_
    refine r_nil ?_
    refine r_cond (by exact rfl) (fun hc4 => ?_) (fun hc4 => ?_)
    ·skip
     refine r_seq ?_
     refine r_region ?_
     refine r_op rfl rfl rfl (run_asg (v := .int _ _) rfl (by exact rfl)) ?_
     refine r_nil ?_
     refine r_ret (res1 (v := .int _ _) rfl (by exact rfl)) ?_
     exact ⟨ret_int (by rw [cls_letter (by omega)]), hV⟩
    ·skip
     refine r_skip ?_
     refine r_blk ?_
     refine r_seq ?_
     refine r_region ?_
     refine r_op rfl rfl rfl (run_asg (v := .int _ _) rfl (by exact rfl)) ?_
     refine r_nil ?_
     refine r_ret (res1 (v := .int _ _) rfl (by exact rfl)) ?_
     exact ⟨ret_int (by rw [cls_mark (by omega) (by omega) (by omega) (by omega)]), hV⟩

theorem lower_calls {s : Str} {w0 : World} (hs : s.length ≤ 140737488355328) :
    Calls Try.prog 70 #[S s] w0 fun e w' => e = .returned (S (lowS s)) ∧ Evo w0 w' [] := by
 refine calls_enter (n := 30) (args := [S s]) Try.func70 rfl Try.ntmps70 rfl ?_
 have hV : Evo w0 w0 [] := Evo.refl _ _
 refine r_seq ?_
 refine r_region ?_
 refine r_op rfl rfl rfl (run_asg (v := S _) rfl (by exact rfl)) ?_
 refine r_nil ?_
 refine r_seq ?_
 refine r_region ?_
 refine r_op rfl rfl rfl (run_mv (v := S _) rfl (by exact rfl)) ?_
 refine r_cvSB rfl Try.underlying9 Try.underlying52 Try.underlying5 (by exact rfl) (by first | omega | (simp; omega)) ?_
 intro b1 capb1 w2 heb1 hEw2 hyb1 hzb1
 have hs_w2 := (hEw2).size
 replace hV := evo_step0 hV hEw2
 have hrb1 := hyb1.row
 refine r_op rfl rfl rfl (run_asg (v := .slice (some ⟨b1, 0, none⟩) _ _) rfl (by exact rfl)) ?_
 refine r_nil ?_
 refine r_seq ?_
 refine r_seq ?_
 refine r_region ?_
 refine r_op rfl rfl rfl (run_mv (v := .slice (some ⟨b1, 0, none⟩) _ _) rfl (by exact rfl)) ?_
 refine r_op rfl rfl rfl (run_lenSl rfl (by exact rfl) Try.underlying52) ?_
 refine r_op rfl rfl rfl (run_mv (v := .int _ _) rfl (by exact rfl)) ?_
 refine r_nil ?_
 refine r_block ?_
 refine r_loop (α := Nat) [4, 5, 10, 11, 12, 13, 14, 15, 16, 17, 18, 19, 20, 21, 22, 23, 24, 25, 26, 27] (fun k g w => g 10 = .int .i64 (k : Nat) ∧ k ≤ s.length ∧ ByB w b1 capb1 (lowK s k) ∧ RowE w (some ⟨b1, 0, none⟩) b1 0 capb1 (lowK s k) ∧ w2.heap.size ≤ w.heap.size ∧ Evo w0 w []) (fun k => s.length - k) 0 ?_ ?_
 ·refine ⟨(by first | exact rfl | exact congrArg (Value.int _) (by omega) | exact congrArg (Value.int _) (by dsimp only; omega) | exact congrArg (Value.int _) (by simp) | exact congrArg S (by simp)), (by first | assumption | omega | (dsimp only; omega) | (simp; done)), (by rw [lowK_zero]; exact hyb1), (by rw [lowK_zero]; exact hrb1), (by first | assumption | omega | (dsimp only; omega) | (simp; done)), hV⟩
 ·rintro k g w4 ⟨hj5, hk_k, hyb1, hrb1, hzl3, hV⟩
  have hs_w4hV := hV.size
  refine r_know (i := 10) (v := .int .i64 (k : Nat)) (by exact hj5) ?_
  have hll := lowK_len s k
  have hlg := fun h => lowK_get (s := s) (k := k) h
  have hln := fun h => congrArg UInt8.toNat (lowK_get (s := s) (k := k) h)
  refine r_seq ?_
  refine r_region ?_
  refine r_op rfl rfl rfl (run_lss rfl (by exact rfl) (by exact rfl)) ?_
  refine r_nil ?_
  refine r_seq ?_
  refine r_cond (by exact rfl) (fun hc6 => ?_) (fun hc6 => ?_)
  ·skip
   refine r_skip ?_
   refine r_seq ?_
   refine r_block ?_
   refine r_seq ?_
   refine r_region ?_
   refine r_op rfl rfl rfl (run_mv (v := .int _ _) rfl (by exact rfl)) ?_
   refine r_op rfl rfl rfl (run_ix (k) rfl Try.underlying52 ty_5 (by exact rfl) (by exact rfl) (by first | exact rfl | omega) (by omega) (hrb1.addr (i := k) (by omega))) ?_
   have hA7 := hrb1.atD (k) (by omega)
   refine r_op rfl rfl rfl (run_ld1 rfl ag_5 (by exact rfl) (hA7.cell 0 (by exact rfl))) ?_
   refine r_op rfl rfl rfl (run_asg (v := .int _ _) rfl (by exact rfl)) ?_
   refine r_op rfl rfl rfl (run_asg (v := .int _ _) rfl (by exact rfl)) ?_
   refine r_nil ?_
   refine r_seq ?_
   refine r_region ?_
   refine r_op rfl rfl rfl (run_mv (v := .int _ _) rfl (by exact rfl)) ?_
   refine r_op rfl rfl rfl (run_geq rfl (by exact rfl) (by exact rfl)) ?_
   refine r_op rfl rfl rfl (run_mv (v := .bool _) rfl (by exact rfl)) ?_
   refine r_g rfl (wantT (by exact rfl)) rfl (fun hg => run_mv (v := .int _ _) rfl (by exact rfl)) ?_
   refine r_g rfl (wantT (by exact rfl)) rfl (fun hg => run_leq rfl (glv (by exact rfl) (fun h => h) hg) (by exact rfl)) ?_
   refine r_op rfl rfl rfl (run_pick_and rfl (by exact rfl) (fun hq => glv (by exact rfl) (fun h => h) hq) rfl) ?_
   refine r_nil ?_
   refine r_cond (by exact rfl) (fun hc8 => ?_) (fun hc8 => ?_)
   ·skip
    refine r_region ?_
    refine r_op rfl rfl rfl (run_mv (v := .slice (some ⟨b1, 0, none⟩) _ _) rfl (by exact rfl)) ?_
    refine r_op rfl rfl rfl (run_mv (v := .int _ _) rfl (by exact rfl)) ?_
    refine r_op rfl rfl rfl (run_mv (v := .int _ _) rfl (by exact rfl)) ?_
    refine r_op rfl rfl rfl (run_addw rfl (by exact rfl) (by exact rfl)) ?_
    refine r_op rfl rfl rfl (run_subw rfl (by exact rfl) (by exact rfl)) ?_
    refine r_op rfl rfl rfl (run_ix (k) rfl Try.underlying52 ty_5 (by exact rfl) (by exact rfl) (by first | exact rfl | omega) (by omega) (hrb1.addr (i := k) (by omega))) ?_
    have hA9 := hrb1.atD (k) (by omega)
    refine r_storeBy2 (k) ((lwB (s.getD k 0))) (by exact rfl) (by first | omega | (show 0 + _ * 1 = _; omega)) (by exact rfl) (by have h8 := hlg (by omega); refine Eq.trans ?_ (low_add (c := s.getD k 0) (by rw [← h8]; omega) (by rw [← h8]; omega)); rw [h8]) hyb1 (by omega) ty_5 ?_
    intro w10 hEw10 hzw10 hy_new
    have hs_w10 := (hEw10).size
    replace hV := evo_step1 hV hEw10 (by first | exact .inl (by omega) | exact .inr (by simp))
    have hyb1 := hy_new
    have hrb1 := hyb1.row
    clear hy_new
    refine r_nil ?_
    refine r_blk ?_
    refine r_region ?_
    refine r_op rfl rfl rfl (run_add rfl (by exact rfl) (by exact rfl) (by omega) (by omega)) ?_
    refine r_op rfl rfl rfl (run_mv (v := .int _ _) rfl (by exact rfl)) ?_
    refine r_nil ?_
    refine r_again (k + 1) ?_ ?_ ?_
    ·first | omega | (dsimp only; omega)
    ·refine ⟨(by first | exact rfl | exact congrArg (Value.int _) (by omega) | exact congrArg (Value.int _) (by dsimp only; omega) | exact congrArg (Value.int _) (by simp) | exact congrArg S (by simp)), (by first | assumption | omega | (dsimp only; omega) | (simp; done)), (by first | (have h9 := hyb1; rw [lowK_set (by omega)] at h9; exact h9) | (rw [lowK_keep (by omega) (by have := hln (by omega); omega)]; exact hyb1)), (by first | (have h9 := hrb1; rw [lowK_set (by omega)] at h9; exact h9) | (rw [lowK_keep (by omega) (by have := hln (by omega); omega)]; exact hrb1)), (by first | assumption | omega | (dsimp only; omega) | (simp; done)), hV⟩
    ·repeat (first | (with_reducible exact Agree.merge _ _ _) | (with_reducible exact Agree.refl _ _) | (with_reducible refine Agree.upd ?_ _ _ rfl) | ((with_reducible refine Agree.inner ?_ ?_); (kernel_rfl)))
   ·skip
    refine r_skip ?_
    refine r_blk ?_
    refine r_region ?_
    refine r_op rfl rfl rfl (run_add rfl (by exact rfl) (by exact rfl) (by omega) (by omega)) ?_
    refine r_op rfl rfl rfl (run_mv (v := .int _ _) rfl (by exact rfl)) ?_
    refine r_nil ?_
    refine r_again (k + 1) ?_ ?_ ?_
    ·first | omega | (dsimp only; omega)
    ·refine ⟨(by first | exact rfl | exact congrArg (Value.int _) (by omega) | exact congrArg (Value.int _) (by dsimp only; omega) | exact congrArg (Value.int _) (by simp) | exact congrArg S (by simp)), (by first | assumption | omega | (dsimp only; omega) | (simp; done)), (by first | (have h9 := hyb1; rw [lowK_set (by omega)] at h9; exact h9) | (rw [lowK_keep (by omega) (by have := hln (by omega); omega)]; exact hyb1)), (by first | (have h9 := hrb1; rw [lowK_set (by omega)] at h9; exact h9) | (rw [lowK_keep (by omega) (by have := hln (by omega); omega)]; exact hrb1)), (by first | assumption | omega | (dsimp only; omega) | (simp; done)), hV⟩
    ·repeat (first | (with_reducible exact Agree.merge _ _ _) | (with_reducible exact Agree.refl _ _) | (with_reducible refine Agree.upd ?_ _ _ rfl) | ((with_reducible refine Agree.inner ?_ ?_); (kernel_rfl)))
  ·skip
   refine r_exit rfl ?_
   refine r_seq ?_
   refine r_region ?_
   refine r_op rfl rfl rfl (run_mv (v := .slice (some ⟨b1, 0, none⟩) _ _) rfl (by exact rfl)) ?_
   refine r_op rfl rfl rfl (run_cvBS rfl Try.underlying52 Try.underlying5 Try.underlying9 (by exact rfl) (by first | rfl | simp) hrb1) ?_
   refine r_op rfl rfl rfl (run_asg (v := S _) rfl (by exact rfl)) ?_
   refine r_nil ?_
   refine r_ret (res1 (v := S _) rfl (by exact rfl)) ?_
   exact ⟨by rw [← lowK_all (k := k) (by omega)], hV⟩

theorem rlower_calls {s : Str} {w0 : World} (hs : s.length ≤ 140737488355328) :
    Calls Try.prog 74 #[S s] w0 fun e w' => e = .returned (S (lowS s)) ∧ Evo w0 w' [] := by
 refine calls_enter (n := 33) (args := [S s]) Try.func74 rfl Try.ntmps74 rfl ?_
 have hV : Evo w0 w0 [] := Evo.refl _ _
 refine r_seq ?_
 refine r_region ?_
 refine r_op rfl rfl rfl (run_asg (v := S _) rfl (by exact rfl)) ?_
 refine r_nil ?_
 refine r_seq ?_
 refine r_region ?_
 refine r_op rfl rfl rfl (run_mv (v := S _) rfl (by exact rfl)) ?_
 refine r_cvSB rfl Try.underlying9 Try.underlying52 Try.underlying5 (by exact rfl) (by first | omega | (simp; omega)) ?_
 intro b1 capb1 w2 heb1 hEw2 hyb1 hzb1
 have hs_w2 := (hEw2).size
 replace hV := evo_step0 hV hEw2
 have hrb1 := hyb1.row
 refine r_op rfl rfl rfl (run_asg (v := .slice (some ⟨b1, 0, none⟩) _ _) rfl (by exact rfl)) ?_
 refine r_nil ?_
 refine r_seq ?_
 refine r_seq ?_
 refine r_region ?_
 refine r_op rfl rfl rfl (run_mv (v := .slice (some ⟨b1, 0, none⟩) _ _) rfl (by exact rfl)) ?_
 refine r_op rfl rfl rfl (run_lenSl rfl (by exact rfl) Try.underlying52) ?_
 refine r_op rfl rfl rfl (run_mv (v := .int _ _) rfl (by exact rfl)) ?_
 refine r_nil ?_
 refine r_block ?_
 refine r_loop (α := Nat) [4, 9, 10, 11, 12, 13, 14, 15, 16, 17, 18, 19, 20, 21, 22, 23, 24, 25, 26, 27, 28, 29, 30] (fun k g w => g 9 = .int .i64 (k : Nat) ∧ k ≤ s.length ∧ ByB w b1 capb1 (lowK s k) ∧ RowE w (some ⟨b1, 0, none⟩) b1 0 capb1 (lowK s k) ∧ w2.heap.size ≤ w.heap.size ∧ Evo w0 w []) (fun k => s.length - k) 0 ?_ ?_
 ·refine ⟨(by first | exact rfl | exact congrArg (Value.int _) (by omega) | exact congrArg (Value.int _) (by dsimp only; omega) | exact congrArg (Value.int _) (by simp) | exact congrArg S (by simp)), (by first | assumption | omega | (dsimp only; omega) | (simp; done)), (by rw [lowK_zero]; exact hyb1), (by rw [lowK_zero]; exact hrb1), (by first | assumption | omega | (dsimp only; omega) | (simp; done)), hV⟩
 ·rintro k g w4 ⟨hj5, hk_k, hyb1, hrb1, hzl3, hV⟩
  have hs_w4hV := hV.size
  refine r_know (i := 9) (v := .int .i64 (k : Nat)) (by exact hj5) ?_
  have hll := lowK_len s k
  have hlg := fun h => lowK_get (s := s) (k := k) h
  have hln := fun h => congrArg UInt8.toNat (lowK_get (s := s) (k := k) h)
  refine r_seq ?_
  refine r_region ?_
  refine r_op rfl rfl rfl (run_lss rfl (by exact rfl) (by exact rfl)) ?_
  refine r_nil ?_
  refine r_seq ?_
  refine r_cond (by exact rfl) (fun hc6 => ?_) (fun hc6 => ?_)
  ·skip
   refine r_skip ?_
   refine r_seq ?_
   refine r_block ?_
   refine r_seq ?_
   refine r_region ?_
   refine r_op rfl rfl rfl (run_mv (v := .int _ _) rfl (by exact rfl)) ?_
   refine r_op rfl rfl rfl (run_asg (v := .int _ _) rfl (by exact rfl)) ?_
   refine r_nil ?_
   refine r_seq ?_
   refine r_region ?_
   refine r_op rfl rfl rfl (run_mv (v := .slice (some ⟨b1, 0, none⟩) _ _) rfl (by exact rfl)) ?_
   refine r_op rfl rfl rfl (run_mv (v := .int _ _) rfl (by exact rfl)) ?_
   refine r_op rfl rfl rfl (run_ix (k) rfl Try.underlying52 ty_5 (by exact rfl) (by exact rfl) (by first | exact rfl | omega) (by omega) (hrb1.addr (i := k) (by omega))) ?_
   have hA7 := hrb1.atD (k) (by omega)
   refine r_op rfl rfl rfl (run_ld1 rfl ag_5 (by exact rfl) (hA7.cell 0 (by exact rfl))) ?_
   refine r_op rfl rfl rfl (run_geq rfl (by exact rfl) (by exact rfl)) ?_
   refine r_op rfl rfl rfl (run_mv (v := .bool _) rfl (by exact rfl)) ?_
   refine r_g rfl (wantT (by exact rfl)) rfl (fun hg => run_mv (v := .slice (some ⟨b1, 0, none⟩) _ _) rfl (by exact rfl)) ?_
   refine r_g rfl (wantT (by exact rfl)) rfl (fun hg => run_mv (v := .int _ _) rfl (by exact rfl)) ?_
   refine r_g rfl (wantT (by exact rfl)) rfl (fun hg => run_ix (k) rfl Try.underlying52 ty_5 (glv (by exact rfl) (fun h => h) hg) (glv (by exact rfl) (fun h => h) hg) (by first | exact rfl | omega) (by omega) (hrb1.addr (i := k) (by omega))) ?_
   refine r_g rfl (wantT (by exact rfl)) rfl (fun hg => run_ld1 rfl ag_5 (glv (by exact rfl) (fun h => h) hg) ((hrb1.atD (k) (by omega)).cell 0 (by exact rfl))) ?_
   refine r_g rfl (wantT (by exact rfl)) rfl (fun hg => run_leq rfl (glv (by exact rfl) (fun h => h) hg) (by exact rfl)) ?_
   refine r_op rfl rfl rfl (run_pick_and rfl (by exact rfl) (fun hq => glv (by exact rfl) (fun h => h) hq) rfl) ?_
   refine r_nil ?_
   refine r_cond (by exact rfl) (fun hc8 => ?_) (fun hc8 => ?_)
   ·skip
    refine r_region ?_
    refine r_op rfl rfl rfl (run_mv (v := .slice (some ⟨b1, 0, none⟩) _ _) rfl (by exact rfl)) ?_
    refine r_op rfl rfl rfl (run_mv (v := .int _ _) rfl (by exact rfl)) ?_
    refine r_op rfl rfl rfl (run_ix (k) rfl Try.underlying52 ty_5 (by exact rfl) (by exact rfl) (by first | exact rfl | omega) (by omega) (hrb1.addr (i := k) (by omega))) ?_
    have hA9 := hrb1.atD (k) (by omega)
    refine r_op rfl rfl rfl (run_ld1 rfl ag_5 (by exact rfl) (hA9.cell 0 (by exact rfl))) ?_
    refine r_op rfl rfl rfl (run_addw rfl (by exact rfl) (by exact rfl)) ?_
    refine r_op rfl rfl rfl (run_ix (k) rfl Try.underlying52 ty_5 (by exact rfl) (by exact rfl) (by first | exact rfl | omega) (by omega) (hrb1.addr (i := k) (by omega))) ?_
    have hA10 := hrb1.atD (k) (by omega)
    refine r_storeBy2 (k) ((lwB (s.getD k 0))) (by exact rfl) (by first | omega | (show 0 + _ * 1 = _; omega)) (by exact rfl) (by have h8 := hlg (by omega); refine Eq.trans ?_ (low_add2 (c := s.getD k 0) (by rw [← h8]; omega) (by rw [← h8]; omega)); rw [h8]) hyb1 (by omega) ty_5 ?_
    intro w11 hEw11 hzw11 hy_new
    have hs_w11 := (hEw11).size
    replace hV := evo_step1 hV hEw11 (by first | exact .inl (by omega) | exact .inr (by simp))
    have hyb1 := hy_new
    have hrb1 := hyb1.row
    clear hy_new
    refine r_nil ?_
    refine r_blk ?_
    refine r_region ?_
    refine r_op rfl rfl rfl (run_add rfl (by exact rfl) (by exact rfl) (by omega) (by omega)) ?_
    refine r_op rfl rfl rfl (run_mv (v := .int _ _) rfl (by exact rfl)) ?_
    refine r_nil ?_
    refine r_again (k + 1) ?_ ?_ ?_
    ·first | omega | (dsimp only; omega)
    ·refine ⟨(by first | exact rfl | exact congrArg (Value.int _) (by omega) | exact congrArg (Value.int _) (by dsimp only; omega) | exact congrArg (Value.int _) (by simp) | exact congrArg S (by simp)), (by first | assumption | omega | (dsimp only; omega) | (simp; done)), (by first | (have h9 := hyb1; rw [lowK_set (by omega)] at h9; exact h9) | (rw [lowK_keep (by omega) (by have := hln (by omega); omega)]; exact hyb1)), (by first | (have h9 := hrb1; rw [lowK_set (by omega)] at h9; exact h9) | (rw [lowK_keep (by omega) (by have := hln (by omega); omega)]; exact hrb1)), (by first | assumption | omega | (dsimp only; omega) | (simp; done)), hV⟩
    ·repeat (first | (with_reducible exact Agree.merge _ _ _) | (with_reducible exact Agree.refl _ _) | (with_reducible refine Agree.upd ?_ _ _ rfl) | ((with_reducible refine Agree.inner ?_ ?_); (kernel_rfl)))
   ·skip
    refine r_skip ?_
    refine r_blk ?_
    refine r_region ?_
    refine r_op rfl rfl rfl (run_add rfl (by exact rfl) (by exact rfl) (by omega) (by omega)) ?_
    refine r_op rfl rfl rfl (run_mv (v := .int _ _) rfl (by exact rfl)) ?_
    refine r_nil ?_
    refine r_again (k + 1) ?_ ?_ ?_
    ·first | omega | (dsimp only; omega)
    ·refine ⟨(by first | exact rfl | exact congrArg (Value.int _) (by omega) | exact congrArg (Value.int _) (by dsimp only; omega) | exact congrArg (Value.int _) (by simp) | exact congrArg S (by simp)), (by first | assumption | omega | (dsimp only; omega) | (simp; done)), (by first | (have h9 := hyb1; rw [lowK_set (by omega)] at h9; exact h9) | (rw [lowK_keep (by omega) (by have := hln (by omega); omega)]; exact hyb1)), (by first | (have h9 := hrb1; rw [lowK_set (by omega)] at h9; exact h9) | (rw [lowK_keep (by omega) (by have := hln (by omega); omega)]; exact hrb1)), (by first | assumption | omega | (dsimp only; omega) | (simp; done)), hV⟩
    ·repeat (first | (with_reducible exact Agree.merge _ _ _) | (with_reducible exact Agree.refl _ _) | (with_reducible refine Agree.upd ?_ _ _ rfl) | ((with_reducible refine Agree.inner ?_ ?_); (kernel_rfl)))
  ·skip
   refine r_exit rfl ?_
   refine r_seq ?_
   refine r_region ?_
   refine r_op rfl rfl rfl (run_mv (v := .slice (some ⟨b1, 0, none⟩) _ _) rfl (by exact rfl)) ?_
   refine r_op rfl rfl rfl (run_cvBS rfl Try.underlying52 Try.underlying5 Try.underlying9 (by exact rfl) (by first | rfl | simp) hrb1) ?_
   refine r_op rfl rfl rfl (run_asg (v := S _) rfl (by exact rfl)) ?_
   refine r_nil ?_
   refine r_ret (res1 (v := S _) rfl (by exact rfl)) ?_
   exact ⟨by rw [← lowK_all (k := k) (by omega)], hV⟩

end Go.Proofs.Ytomklacppmaljaa

namespace Go.Proofs.Ytomklacppmaljaa
open Go.RowKit Go.Vc
theorem ag_43 : aggP Try.prog 43 = some true := by kernel_rfl
theorem ag_9 : aggP Try.prog 9 = some false := by kernel_rfl
theorem fo_43_0 : fieldP Try.prog 43 0 = some 0 := by kernel_rfl
theorem ty_43 : tyP Try.prog 43 = some (2, 40, some (.agg #[(.string ⟨#[]⟩), (.slice none 0 0)])) := by kernel_rfl
theorem sl_hs_calls {s t : Str} {w0 : World} (hs : s.length ≤ 140737488355328) (ht : t.length ≤ 140737488355328) :
    Calls Try.prog 148 #[S s, S t] w0 fun e w' => e = .returned (.bool (decide (t <:+ s))) ∧ Evo w0 w' [] := by
 refine calls_enter (n := 21) (args := [S s, S t]) Try.func148 rfl Try.ntmps148 rfl ?_
 have hV : Evo w0 w0 [] := Evo.refl _ _
 refine r_seq ?_
 refine r_region ?_
 refine r_op rfl rfl rfl (run_asg (v := .bool _) rfl (by exact rfl)) ?_
 refine r_nil ?_
 refine r_seq ?_
 refine r_region ?_
 refine r_op rfl rfl rfl (run_mv (v := S _) rfl (by exact rfl)) ?_
 refine r_op rfl rfl rfl (run_lenS rfl (by exact rfl) Try.underlying9) ?_
 refine r_op rfl rfl rfl (run_mv (v := S _) rfl (by exact rfl)) ?_
 refine r_op rfl rfl rfl (run_lenS rfl (by exact rfl) Try.underlying9) ?_
 refine r_op rfl rfl rfl (run_geq rfl (by exact rfl) (by exact rfl)) ?_
 refine r_op rfl rfl rfl (run_mv (v := .bool _) rfl (by exact rfl)) ?_
 refine r_g rfl (wantT (by exact rfl)) rfl (fun hg => run_mv (v := S _) rfl (by exact rfl)) ?_
 refine r_g rfl (wantT (by exact rfl)) rfl (fun hg => run_mv (v := S _) rfl (by exact rfl)) ?_
 refine r_g rfl (wantT (by exact rfl)) rfl (fun hg => run_lenS rfl (glv (by exact rfl) (fun h => h) hg) Try.underlying9) ?_
 refine r_g rfl (wantT (by exact rfl)) rfl (fun hg => run_mv (v := S _) rfl (by exact rfl)) ?_
 refine r_g rfl (wantT (by exact rfl)) rfl (fun hg => run_lenS rfl (glv (by exact rfl) (fun h => h) hg) Try.underlying9) ?_
 refine r_g rfl (wantT (by exact rfl)) rfl (fun hg => run_sub rfl (glv (by exact rfl) (fun h => h) hg) (glv (by exact rfl) (fun h => h) hg) (by omega) (by omega)) ?_
 refine r_g rfl (wantT (by exact rfl)) rfl (fun hg => run_slS ((s.length - t.length)) (_) rfl Try.underlying9 (glv (by exact rfl) (fun h => h) hg) (at1 (glv (by exact rfl) (fun h => h) hg) (by omega)) hi0 (by first | omega | (simp; omega)) (by first | omega | (simp; omega))) ?_
 refine r_g rfl (wantT (by exact rfl)) rfl (fun hg => run_mv (v := S _) rfl (by exact rfl)) ?_
 refine r_g rfl (wantT (by exact rfl)) rfl (fun hg => run_seql rfl (glv (by exact rfl) (fun h => h) hg) (glv (by exact rfl) (fun h => h) hg)) ?_
 refine r_op rfl rfl rfl (run_pick_and rfl (by exact rfl) (fun hq => glv (by exact rfl) (fun h => h) hq) rfl) ?_
 refine r_op rfl rfl rfl (run_asg (v := .bool _) rfl (by exact rfl)) ?_
 refine r_nil ?_
 refine r_ret (res1 (v := .bool _) rfl (by exact rfl)) ?_
 exact ⟨ret_bool (by rw [Bool.eq_iff_iff, decide_eq_true_iff, decide_eq_true_iff, suffix_iff2]; first | omega | (constructor <;> (rintro ⟨h1, h2⟩; exact ⟨by omega, h2⟩))), hV⟩

theorem sl_cs_calls {s t : Str} {w0 : World} (hs : s.length ≤ 140737488355328) (ht : t.length ≤ 140737488355328) :
    Calls Try.prog 113 #[S s, S t] w0 fun e w' => e = .returned (.tuple #[S (if t <:+ s then s.take (s.length - t.length) else s), .bool (decide (t <:+ s))]) ∧ Evo w0 w' [] := by
 refine calls_enter (n := 18) (args := [S s, S t]) Try.func113 rfl Try.ntmps113 rfl ?_
 have hV : Evo w0 w0 [] := Evo.refl _ _
 refine r_seq ?_
 refine r_region ?_
 refine r_op rfl rfl rfl (run_asg (v := S _) rfl (by exact rfl)) ?_
 refine r_op rfl rfl rfl (run_asg (v := .bool _) rfl (by exact rfl)) ?_
 refine r_nil ?_
 refine r_seq ?_
 refine r_seq ?_
 refine r_region ?_
 refine r_op rfl rfl rfl (run_mv (v := S _) rfl (by exact rfl)) ?_
 refine r_op rfl rfl rfl (run_mv (v := S _) rfl (by exact rfl)) ?_
 refine r_opcall rfl rfl rfl (run_callf (vs := [S _, S _]) rfl (by exact rfl) Try.func148 rfl (by kernel_rfl)) (sl_hs_calls (by first | omega | (simp; omega)) (by first | omega | (simp; omega))) ?_
 rintro e w1 ⟨rfl, hE1⟩
 refine ⟨_, rfl, ?_⟩
 have hs_w1 := (hE1).size
 replace hV := evo_step0 hV hE1
 refine r_op rfl rfl rfl (run_notb rfl (by exact rfl)) ?_
 refine r_nil ?_
 refine r_condb (by exact rfl) (fun hc2 => ?_) (fun hc2 => ?_)
 ·skip
  refine r_seq ?_
  refine r_region ?_
  refine r_op rfl rfl rfl (run_mv (v := S _) rfl (by exact rfl)) ?_
  refine r_op rfl rfl rfl (run_asg (v := S _) rfl (by exact rfl)) ?_
  refine r_op rfl rfl rfl (run_asg (v := .bool _) rfl (by exact rfl)) ?_
  refine r_nil ?_
  refine r_ret (res2 (v := S _) (u := .bool _) rfl (by exact rfl) (by exact rfl)) ?_
  exact ⟨by rw [if_neg (by simpa using hc2)]; simp_all, hV⟩
 ·skip
  refine r_skip ?_
  refine r_seq ?_
  have hsx := (suffix_iff.1 (by simpa using hc2 : t <:+ s)).1
  refine r_region ?_
  refine r_op rfl rfl rfl (run_mv (v := S _) rfl (by exact rfl)) ?_
  refine r_op rfl rfl rfl (run_mv (v := S _) rfl (by exact rfl)) ?_
  refine r_op rfl rfl rfl (run_lenS rfl (by exact rfl) Try.underlying9) ?_
  refine r_op rfl rfl rfl (run_mv (v := S _) rfl (by exact rfl)) ?_
  refine r_op rfl rfl rfl (run_lenS rfl (by exact rfl) Try.underlying9) ?_
  refine r_op rfl rfl rfl (run_sub rfl (by exact rfl) (by exact rfl) (by omega) (by omega)) ?_
  refine r_op rfl rfl rfl (by exact run_slS (0) ((s.length - t.length)) rfl Try.underlying9 (by exact rfl) lo0 (at1 (by exact rfl) (by omega)) (by first | omega | (simp; omega)) (by first | omega | (simp; omega))) ?_
  refine r_op rfl rfl rfl (run_asg (v := S _) rfl (by exact rfl)) ?_
  refine r_op rfl rfl rfl (run_asg (v := .bool _) rfl (by exact rfl)) ?_
  refine r_nil ?_
  refine r_ret (res2 (v := S _) (u := .bool _) rfl (by exact rfl) (by exact rfl)) ?_
  exact ⟨by rw [if_pos (by simpa using hc2)]; simp_all, hV⟩

theorem s_cs_calls {s t : Str} {w0 : World} (hs : s.length ≤ 140737488355328) (ht : t.length ≤ 140737488355328) :
    Calls Try.prog 72 #[S s, S t] w0 fun e w' => e = .returned (.tuple #[S (if t <:+ s then s.take (s.length - t.length) else s), .bool (decide (t <:+ s))]) ∧ Evo w0 w' [] := by
 refine calls_enter (n := 11) (args := [S s, S t]) Try.func72 rfl Try.ntmps72 rfl ?_
 have hV : Evo w0 w0 [] := Evo.refl _ _
 refine r_seq ?_
 refine r_region ?_
 refine r_op rfl rfl rfl (run_asg (v := S _) rfl (by exact rfl)) ?_
 refine r_op rfl rfl rfl (run_asg (v := .bool _) rfl (by exact rfl)) ?_
 refine r_nil ?_
 refine r_seq ?_
 refine r_region ?_
 refine r_op rfl rfl rfl (run_mv (v := S _) rfl (by exact rfl)) ?_
 refine r_op rfl rfl rfl (run_mv (v := S _) rfl (by exact rfl)) ?_
 refine r_opcall rfl rfl rfl (run_callf (vs := [S _, S _]) rfl (by exact rfl) Try.func113 rfl (by kernel_rfl)) (sl_cs_calls (by first | omega | (simp; omega)) (by first | omega | (simp; omega))) ?_
 rintro e w1 ⟨rfl, hE1⟩
 refine ⟨_, rfl, ?_⟩
 have hs_w1 := (hE1).size
 replace hV := evo_step0 hV hE1
 refine r_op rfl rfl rfl (run_extract (v := S _) rfl (by exact rfl) (by exact rfl)) ?_
 refine r_op rfl rfl rfl (run_extract (v := .bool _) rfl (by exact rfl) (by exact rfl)) ?_
 refine r_op rfl rfl rfl (run_asg (v := S _) rfl (by exact rfl)) ?_
 refine r_op rfl rfl rfl (run_asg (v := .bool _) rfl (by exact rfl)) ?_
 refine r_nil ?_
 refine r_ret (res2 (v := S _) (u := .bool _) rfl (by exact rfl) (by exact rfl)) ?_
 exact ⟨rfl, hV⟩

theorem rfind_calls {ao : Option Addr} {b off cap : Nat} {c : List Clas} {n : Str} {w0 : World} (hc : RowR w0 ao b off cap c) :
    Calls Try.prog 27 #[.slice ao c.length cap, S n] w0 fun e w' => e = .returned (.int .i64 (findC c n)) ∧ Evo w0 w' [] := by
 refine calls_enter (n := 20) (args := [.slice ao c.length cap, S n]) Try.func27 rfl Try.ntmps27 rfl ?_
 have hV : Evo w0 w0 [] := Evo.refl _ _
 have hc0 := hc.keep
 have hbd_hc := hc.bd
 refine r_seq ?_
 refine r_region ?_
 refine r_op rfl rfl rfl (run_asg (v := .int _ _) rfl (by exact rfl)) ?_
 refine r_nil ?_
 refine r_seq ?_
 refine r_seq ?_
 refine r_region ?_
 refine r_op rfl rfl rfl (run_mv (v := .slice _ _ _) rfl (by exact rfl)) ?_
 refine r_op rfl rfl rfl (run_lenSl rfl (by exact rfl) Try.underlying22) ?_
 refine r_op rfl rfl rfl (run_mv (v := .int _ _) rfl (by exact rfl)) ?_
 refine r_nil ?_
 refine r_block ?_
 refine r_loop (α := Nat) [4, 5, 6, 9, 10, 11, 12, 13, 14, 15, 16, 17, 18, 19] (fun k g w => g 9 = .int .i64 (k : Nat) ∧ k ≤ c.length ∧ (∀ j, j < k → ¬ (c.getD j default).name = n) ∧ w0.heap.size ≤ w.heap.size ∧ Evo w0 w []) (fun k => c.length - k) 0 ?_ ?_
 ·refine ⟨(by first | exact rfl | exact congrArg (Value.int _) (by omega) | exact congrArg (Value.int _) (by dsimp only; omega) | exact congrArg (Value.int _) (by simp) | exact congrArg S (by simp)), (by first | assumption | omega | (dsimp only; omega) | (simp; done)), (fun j h => by omega), (by first | assumption | omega | (dsimp only; omega) | (simp; done)), hV⟩
 ·rintro k g w2 ⟨hj3, hk_k, hno, hzl1, hV⟩
  have hs_w2hV := hV.size
  replace hc := hc0.now hV
  refine r_know (i := 9) (v := .int .i64 (k : Nat)) (by exact hj3) ?_
  refine r_seq ?_
  refine r_region ?_
  refine r_op rfl rfl rfl (run_lss rfl (by exact rfl) (by exact rfl)) ?_
  refine r_nil ?_
  refine r_seq ?_
  refine r_cond (by exact rfl) (fun hc4 => ?_) (fun hc4 => ?_)
  ·skip
   refine r_skip ?_
   refine r_seq ?_
   refine r_block ?_
   refine r_seq ?_
   refine r_region ?_
   refine r_op rfl rfl rfl (run_mv (v := .int _ _) rfl (by exact rfl)) ?_
   refine r_op rfl rfl rfl (run_ix (k) rfl Try.underlying22 ty_43 (by exact rfl) (by exact rfl) (by first | exact rfl | omega) (by omega) (hc.addr (i := k) (by omega))) ?_
   obtain ⟨ao5, b5, off5, cap5, hX⟩ := clas_atK hc0 (k) (by omega)
   have hA50 := fun (w' : World) (h : Evo w0 w' []) => (hX w' h).1
   have hA5 := hA50 _ hV
   have hR50 := fun (w' : World) (h : Evo w0 w' []) => (hX w' h).2
   have hR5 := hR50 _ hV
   clear hX
   have hbd_hR5 := hR5.bd
   refine r_op rfl rfl rfl (run_ldN rfl ag_43 ty_43 (by exact rfl) rfl hA5) ?_
   refine r_alloc (zs := [_, _]) ty_43 (by exact rfl) rfl ?_
   intro b6 w7 heb6 hEw7 hbb6 hzb6
   have hs_w7 := (hEw7).size
   replace hV := evo_step0 hV hEw7
   replace hc := hc0.now hV
   replace hA5 := hA50 _ hV
   replace hR5 := hR50 _ hV
   have hAb6 := hbb6.at
   refine r_op rfl rfl rfl (run_asg (v := .int _ _) rfl (by exact rfl)) ?_
   refine r_store (v := .agg _) (vs := [_, _]) (cs' := [_, _]) (by exact rfl) (by exact rfl) hbb6 ty_43 (by exact rfl) rfl (by exact rfl) rfl (by exact rfl) ?_
   intro w8 hEw8 hzw8 hb_new
   have hs_w8 := (hEw8).size
   replace hV := evo_step1 hV hEw8 (by first | exact .inl (by omega) | exact .inr (by simp))
   replace hc := hc0.now hV
   replace hbb6 := hb_new
   have hAb6 := hbb6.at
   clear hb_new
   refine r_nil ?_
   refine r_seq ?_
   refine r_region ?_
   refine r_op rfl rfl rfl (run_fa rfl (by exact rfl) fo_43_0) ?_
   refine r_op rfl rfl rfl (run_ld1 rfl ag_9 (by exact rfl) (hAb6.cell 0 (by exact rfl))) ?_
   refine r_op rfl rfl rfl (run_mv (v := S _) rfl (by exact rfl)) ?_
   refine r_op rfl rfl rfl (run_seql rfl (by exact rfl) (by exact rfl)) ?_
   refine r_nil ?_
   refine r_cond (by exact rfl) (fun hc9 => ?_) (fun hc9 => ?_)
   ·skip
    refine r_seq ?_
    refine r_region ?_
    refine r_op rfl rfl rfl (run_mv (v := .int _ _) rfl (by exact rfl)) ?_
    refine r_op rfl rfl rfl (run_asg (v := .int _ _) rfl (by exact rfl)) ?_
    refine r_nil ?_
    refine r_ret (res1 (v := .int _ _) rfl (by exact rfl)) ?_
    exact ⟨ret_int (by rw [findC_at (k := k) (by omega) hno hc9]), hV⟩
   ·skip
    refine r_skip ?_
    refine r_blk ?_
    refine r_region ?_
    refine r_op rfl rfl rfl (run_add rfl (by exact rfl) (by exact rfl) (by omega) (by omega)) ?_
    refine r_op rfl rfl rfl (run_mv (v := .int _ _) rfl (by exact rfl)) ?_
    refine r_nil ?_
    refine r_again (k + 1) ?_ ?_ ?_
    ·first | omega | (dsimp only; omega)
    ·refine ⟨(by first | exact rfl | exact congrArg (Value.int _) (by omega) | exact congrArg (Value.int _) (by dsimp only; omega) | exact congrArg (Value.int _) (by simp) | exact congrArg S (by simp)), (by first | assumption | omega | (dsimp only; omega) | (simp; done)), (upto0 hno (by assumption)), (by first | assumption | omega | (dsimp only; omega) | (simp; done)), hV⟩
    ·repeat (first | (with_reducible exact Agree.merge _ _ _) | (with_reducible exact Agree.refl _ _) | (with_reducible refine Agree.upd ?_ _ _ rfl) | ((with_reducible refine Agree.inner ?_ ?_); (kernel_rfl)))
  ·skip
   refine r_exit rfl ?_
   refine r_seq ?_
   refine r_region ?_
   refine r_op rfl rfl rfl (run_asg (v := .int _ _) rfl (by exact rfl)) ?_
   refine r_nil ?_
   refine r_ret (res1 (v := .int _ _) rfl (by exact rfl)) ?_
   exact ⟨ret_int (by rw [findC_none (fun j hj => hno j (by omega))]), hV⟩

end Go.Proofs.Ytomklacppmaljaa

namespace Go.Proofs.Ytomklacppmaljaa
open Go.RowKit Go.Vc
theorem ty_9 : tyP Try.prog 9 = some (1, 16, some (.string ⟨#[]⟩)) := by kernel_rfl
end Go.Proofs.Ytomklacppmaljaa

namespace Go.Proofs.Ytomklacppmaljaa
open Go.RowKit Go.Vc
theorem ag_41 : aggP Try.prog 41 = some false := by kernel_rfl
theorem fo_43_1 : fieldP Try.prog 43 1 = some 1 := by kernel_rfl
end Go.Proofs.Ytomklacppmaljaa

namespace Go.Proofs.Ytomklacppmaljaa
open Go.RowKit Go.Vc
theorem ag_46 : aggP Try.prog 46 = some true := by kernel_rfl
theorem fo_33_0 : fieldP Try.prog 33 0 = some 0 := by kernel_rfl
theorem fo_33_1 : fieldP Try.prog 33 1 = some 1 := by kernel_rfl
theorem fo_46_0 : fieldP Try.prog 46 0 = some 0 := by kernel_rfl
theorem fo_46_1 : fieldP Try.prog 46 1 = some 1 := by kernel_rfl
theorem ty_46 : tyP Try.prog 46 = some (2, 32, some (.agg #[(.string ⟨#[]⟩), (.string ⟨#[]⟩)])) := by kernel_rfl
end Go.Proofs.Ytomklacppmaljaa

namespace Go.Proofs.Ytomklacppmaljaa
open Go.RowKit Go.Vc

theorem find1_calls {m n : Str} {v : Value} {bn : Nat} {w0 : World} (hn : Blk w0 bn 9 [S n]) :
    Calls Try.prog 69 #[.agg #[S m, v], .pointer (some ⟨bn, 0, none⟩)] w0 fun e w' => e = .returned (.bool (decide (m = n))) ∧ Evo w0 w' [] := by
 have hAn := hn.at; have hnlt := hn.lt
 refine calls_enter (n := 8) (args := [.agg #[S m, v], .pointer (some ⟨bn, 0, none⟩)]) Try.func69 rfl Try.ntmps69 rfl ?_
 have hV : Evo w0 w0 [] := Evo.refl _ _
 refine r_seq ?_
 refine r_region ?_
 refine r_box (vs := [_, _]) (by exact rfl) (by exact rfl) rfl ?_
 intro b1 w2 heb1 hEw2 hbb1 hzb1
 have hs_w2 := (hEw2).size
 replace hV := evo_step0 hV hEw2
 replace hn := hn.evo0 hEw2
 replace hAn := hAn.evo0 hEw2
 have hAb1 := hbb1.at
 refine r_op rfl rfl rfl (run_asg (v := .bool _) rfl (by exact rfl)) ?_
 refine r_nil ?_
 refine r_seq ?_
 refine r_region ?_
 refine r_op rfl rfl rfl (run_fa rfl (by exact rfl) fo_43_0) ?_
 refine r_op rfl rfl rfl (run_ld1 rfl ag_9 (by exact rfl) (hAb1.cell 0 (by exact rfl))) ?_
 refine r_op rfl rfl rfl (run_ld1 rfl ag_9 (by exact rfl) (hAn.cell 0 (by exact rfl))) ?_
 refine r_op rfl rfl rfl (run_seql rfl (by exact rfl) (by exact rfl)) ?_
 refine r_op rfl rfl rfl (run_asg (v := .bool _) rfl (by exact rfl)) ?_
 refine r_nil ?_
 refine r_ret (res1 (v := .bool _) rfl (by exact rfl)) ?_
 exact ⟨rfl, hV⟩

theorem indexf_calls {ao : Option Addr} {b off cap : Nat} {c : List Clas} {n : Str} {bn : Nat} {w0 : World} (hc : RowR w0 ao b off cap c) (hn : Blk w0 bn 9 [S n]) :
    Calls Try.prog 68 #[.slice ao c.length cap, .func (.func 69) #[] #[.pointer (some ⟨bn, 0, none⟩)]] w0 fun e w' => e = .returned (.int .i64 (findC c n)) ∧ Evo w0 w' [] := by
 have hAn := hn.at; have hnlt := hn.lt
 refine calls_enter (n := 19) (args := [.slice ao c.length cap, .func (.func 69) #[] #[.pointer (some ⟨bn, 0, none⟩)]]) Try.func68 rfl Try.ntmps68 rfl ?_
 have hV : Evo w0 w0 [] := Evo.refl _ _
 have hc0 := hc.keep
 have hbd_hc := hc.bd
 refine r_seq ?_
 refine r_region ?_
 refine r_op rfl rfl rfl (run_asg (v := .int _ _) rfl (by exact rfl)) ?_
 refine r_nil ?_
 refine r_seq ?_
 refine r_seq ?_
 refine r_region ?_
 refine r_op rfl rfl rfl (run_mv (v := .slice _ _ _) rfl (by exact rfl)) ?_
 refine r_op rfl rfl rfl (run_lenSl rfl (by exact rfl) Try.underlying22) ?_
 refine r_op rfl rfl rfl (run_mv (v := .int _ _) rfl (by exact rfl)) ?_
 refine r_nil ?_
 refine r_block ?_
 refine r_loop (α := Nat) [4, 5, 8, 9, 10, 11, 12, 13, 14, 15, 16, 17, 18] (fun k g w => g 8 = .int .i64 (k : Nat) ∧ k ≤ c.length ∧ Blk w bn 9 [S n] ∧ (∀ j, j < k → ¬ (c.getD j default).name = n) ∧ w0.heap.size ≤ w.heap.size ∧ Evo w0 w []) (fun k => c.length - k) 0 ?_ ?_
 ·refine ⟨(by first | exact rfl | exact congrArg (Value.int _) (by omega) | exact congrArg (Value.int _) (by dsimp only; omega) | exact congrArg (Value.int _) (by simp) | exact congrArg S (by simp)), (by first | assumption | omega | (dsimp only; omega) | (simp; done)), hn, (fun j h => by omega), (by first | assumption | omega | (dsimp only; omega) | (simp; done)), hV⟩
 ·rintro k g w2 ⟨hj3, hk_k, hn, hno, hzl1, hV⟩
  have hs_w2hV := hV.size
  have hlt4 := hn.lt
  replace hc := hc0.now hV
  refine r_know (i := 8) (v := .int .i64 (k : Nat)) (by exact hj3) ?_
  refine r_seq ?_
  refine r_region ?_
  refine r_op rfl rfl rfl (run_lss rfl (by exact rfl) (by exact rfl)) ?_
  refine r_nil ?_
  refine r_seq ?_
  refine r_cond (by exact rfl) (fun hc5 => ?_) (fun hc5 => ?_)
  ·skip
   refine r_skip ?_
   refine r_seq ?_
   refine r_block ?_
   refine r_seq ?_
   refine r_region ?_
   refine r_op rfl rfl rfl (run_mv (v := .int _ _) rfl (by exact rfl)) ?_
   refine r_op rfl rfl rfl (run_asg (v := .int _ _) rfl (by exact rfl)) ?_
   refine r_nil ?_
   refine r_seq ?_
   refine r_region ?_
   refine r_op rfl rfl rfl (run_mv (v := .func _ _ _) rfl (by exact rfl)) ?_
   refine r_op rfl rfl rfl (run_mv (v := .slice _ _ _) rfl (by exact rfl)) ?_
   refine r_op rfl rfl rfl (run_mv (v := .int _ _) rfl (by exact rfl)) ?_
   refine r_op rfl rfl rfl (run_ix (k) rfl Try.underlying22 ty_43 (by exact rfl) (by exact rfl) (by first | exact rfl | omega) (by omega) (hc.addr (i := k) (by omega))) ?_
   obtain ⟨ao6, b6, off6, cap6, hX⟩ := clas_atK hc0 (k) (by omega)
   have hA60 := fun (w' : World) (h : Evo w0 w' []) => (hX w' h).1
   have hA6 := hA60 _ hV
   have hR60 := fun (w' : World) (h : Evo w0 w' []) => (hX w' h).2
   have hR6 := hR60 _ hV
   clear hX
   have hbd_hR6 := hR6.bd
   refine r_op rfl rfl rfl (run_ldN rfl ag_43 ty_43 (by exact rfl) rfl hA6) ?_
   refine r_opcall rfl rfl rfl (run_callfn (vs := [.agg _]) (cs := [.pointer (some ⟨bn, 0, none⟩)]) rfl (by exact rfl) (by exact rfl) Try.func69 rfl (by kernel_rfl)) (find1_calls hn) ?_
   rintro e w7 ⟨rfl, hE7⟩
   refine ⟨_, rfl, ?_⟩
   have hs_w7 := (hE7).size
   replace hV := evo_step0 hV hE7
   replace hc := hc0.now hV
   replace hn := hn.evo0 hE7
   refine r_nil ?_
   refine r_condb (by exact rfl) (fun hc8 => ?_) (fun hc8 => ?_)
   ·skip
    refine r_seq ?_
    refine r_region ?_
    refine r_op rfl rfl rfl (run_mv (v := .int _ _) rfl (by exact rfl)) ?_
    refine r_op rfl rfl rfl (run_asg (v := .int _ _) rfl (by exact rfl)) ?_
    refine r_nil ?_
    refine r_ret (res1 (v := .int _ _) rfl (by exact rfl)) ?_
    exact ⟨ret_int (by rw [findC_at (k := k) (by omega) hno (of_decide_eq_true hc8)]), hV⟩
   ·skip
    refine r_skip ?_
    refine r_blk ?_
    refine r_region ?_
    refine r_op rfl rfl rfl (run_add rfl (by exact rfl) (by exact rfl) (by omega) (by omega)) ?_
    refine r_op rfl rfl rfl (run_mv (v := .int _ _) rfl (by exact rfl)) ?_
    refine r_nil ?_
    refine r_again (k + 1) ?_ ?_ ?_
    ·first | omega | (dsimp only; omega)
    ·refine ⟨(by first | exact rfl | exact congrArg (Value.int _) (by omega) | exact congrArg (Value.int _) (by dsimp only; omega) | exact congrArg (Value.int _) (by simp) | exact congrArg S (by simp)), (by first | assumption | omega | (dsimp only; omega) | (simp; done)), hn, (upto0 hno (of_decide_eq_false hc8)), (by first | assumption | omega | (dsimp only; omega) | (simp; done)), hV⟩
    ·repeat (first | (with_reducible exact Agree.merge _ _ _) | (with_reducible exact Agree.refl _ _) | (with_reducible refine Agree.upd ?_ _ _ rfl) | ((with_reducible refine Agree.inner ?_ ?_); (kernel_rfl)))
  ·skip
   refine r_exit rfl ?_
   refine r_seq ?_
   refine r_region ?_
   refine r_op rfl rfl rfl (run_asg (v := .int _ _) rfl (by exact rfl)) ?_
   refine r_nil ?_
   refine r_ret (res1 (v := .int _ _) rfl (by exact rfl)) ?_
   exact ⟨ret_int (by rw [findC_none (fun j hj => hno j (by omega))]), hV⟩

theorem find_calls {ao : Option Addr} {b off cap : Nat} {c : List Clas} {n : Str} {w0 : World} (hc : RowR w0 ao b off cap c) :
    Calls Try.prog 26 #[.slice ao c.length cap, S n] w0 fun e w' => e = .returned (.int .i64 (findC c n)) ∧ Evo w0 w' [] := by
 refine calls_enter (n := 8) (args := [.slice ao c.length cap, S n]) Try.func26 rfl Try.ntmps26 rfl ?_
 have hV : Evo w0 w0 [] := Evo.refl _ _
 have hc0 := hc.keep
 have hbd_hc := hc.bd
 refine r_seq ?_
 refine r_region ?_
 refine r_box (vs := [_]) (by exact rfl) (by exact rfl) rfl ?_
 intro b1 w2 heb1 hEw2 hbb1 hzb1
 have hs_w2 := (hEw2).size
 replace hV := evo_step0 hV hEw2
 replace hc := hc0.now hV
 have hAb1 := hbb1.at
 refine r_op rfl rfl rfl (run_asg (v := .int _ _) rfl (by exact rfl)) ?_
 refine r_nil ?_
 refine r_seq ?_
 refine r_region ?_
 refine r_op rfl rfl rfl (run_mv (v := .slice _ _ _) rfl (by exact rfl)) ?_
 refine r_op rfl rfl rfl (run_mkF (vs := [.pointer _]) rfl (by exact rfl)) ?_
 refine r_opcall rfl rfl rfl (run_callf (vs := [.slice _ _ _, .func _ _ _]) rfl (by exact rfl) Try.func68 rfl (by kernel_rfl)) (indexf_calls hc hbb1) ?_
 rintro e w3 ⟨rfl, hE3⟩
 refine ⟨_, rfl, ?_⟩
 have hs_w3 := (hE3).size
 replace hV := evo_step0 hV hE3
 replace hc := hc0.now hV
 refine r_op rfl rfl rfl (run_asg (v := .int _ _) rfl (by exact rfl)) ?_
 refine r_nil ?_
 refine r_ret (res1 (v := .int _ _) rfl (by exact rfl)) ?_
 exact ⟨rfl, hV⟩

theorem ends_calls {wb : World} {ao : Option Addr} {b off cap : Nat} {c : List Clas} {n : Str} {w0 : World} (hc : RowRK wb [] ao b off cap c) (hW : Evo wb w0 []) :
    Calls Try.prog 71 #[.slice ao c.length cap, S n] w0 fun e w' => ∃ ao' b' off' cap', e = .returned (.slice ao' (if n = [] then ([] : List Ende) else endsL c n).length cap') ∧ Evo w0 w' [] ∧ ∀ w2, Evo wb w2 [] → RowE w2 ao' b' off' cap' (if n = [] then [] else endsL c n) := by
 refine calls_enter (n := 20) (args := [.slice ao c.length cap, S n]) Try.func71 rfl Try.ntmps71 rfl ?_
 have hV : Evo w0 w0 [] := Evo.refl _ _
 have hc0 := hc
 replace hc := hc0.now hW
 have hbd_hc := hc.bd
 refine r_seq ?_
 refine r_region ?_
 refine r_op rfl rfl rfl (run_asg (v := .slice _ _ _) rfl (by exact rfl)) ?_
 refine r_nil ?_
 refine r_seq ?_
 refine r_seq ?_
 refine r_region ?_
 refine r_op rfl rfl rfl (run_mv (v := .slice _ _ _) rfl (by exact rfl)) ?_
 refine r_op rfl rfl rfl (run_mv (v := S _) rfl (by exact rfl)) ?_
 refine r_opcall rfl rfl rfl (run_callf (vs := [.slice _ _ _, S _]) rfl (by exact rfl) Try.func26 rfl (by kernel_rfl)) (find_calls hc) ?_
 rintro e w1 ⟨rfl, hE1⟩
 refine ⟨_, rfl, ?_⟩
 have hs_w1 := (hE1).size
 replace hV := evo_step0 hV hE1
 replace hW := evo_step0 hW hE1
 replace hc := hc0.now hW
 refine r_op rfl rfl rfl (run_asg (v := .int _ _) rfl (by exact rfl)) ?_
 refine r_nil ?_
 refine r_seq ?_
 refine r_region ?_
 refine r_op rfl rfl rfl (run_mv (v := .int _ _) rfl (by exact rfl)) ?_
 refine r_op rfl rfl rfl (run_geq rfl (by exact rfl) (by exact rfl)) ?_
 refine r_op rfl rfl rfl (run_mv (v := .bool _) rfl (by exact rfl)) ?_
 refine r_g rfl (wantT (by exact rfl)) rfl (fun hg => run_mv (v := S _) rfl (by exact rfl)) ?_
 refine r_g rfl (wantT (by exact rfl)) rfl (fun hg => run_sneq rfl (glv (by exact rfl) (fun h => h) hg) (by exact rfl)) ?_
 refine r_op rfl rfl rfl (run_pick_and rfl (by exact rfl) (fun hq => glv (by exact rfl) (fun h => h) hq) rfl) ?_
 refine r_nil ?_
 refine r_cond (by exact rfl) (fun hc2 => ?_) (fun hc2 => ?_)
 ·skip
  refine r_seq ?_
  refine r_region ?_
  refine r_op rfl rfl rfl (run_mv (v := .slice _ _ _) rfl (by exact rfl)) ?_
  refine r_op rfl rfl rfl (run_mv (v := .int _ _) rfl (by exact rfl)) ?_
  refine r_op rfl rfl rfl (run_ix ((findC c n).toNat) rfl Try.underlying22 ty_43 (by exact rfl) (by exact rfl) (by have := findC_lt c n; omega) (by have := findC_lt c n; omega) (hc.addr (i := (findC c n).toNat) (by have := findC_lt c n; omega))) ?_
  obtain ⟨ao3, b3, off3, cap3, hX⟩ := clas_atK hc0 ((findC c n).toNat) (by have := findC_lt c n; omega)
  have hA30 := fun (w' : World) (h : Evo wb w' []) => (hX w' h).1
  have hA3 := hA30 _ hW
  have hR30 := fun (w' : World) (h : Evo wb w' []) => (hX w' h).2
  have hR3 := hR30 _ hW
  clear hX
  have hbd_hR3 := hR3.bd
  refine r_op rfl rfl rfl (run_fa rfl (by exact rfl) fo_43_1) ?_
  refine r_op rfl rfl rfl (run_ld1 rfl ag_41 (by exact rfl) (hA3.cell 1 (by exact rfl))) ?_
  refine r_op rfl rfl rfl (run_asg (v := .slice _ _ _) rfl (by exact rfl)) ?_
  refine r_nil ?_
  refine r_ret (res1 (v := .slice _ _ _) rfl (by exact rfl)) ?_
  exact ⟨_, _, _, _, by rw [if_neg hc2.2, ends_at (by omega)], hV, by rw [if_neg hc2.2, ends_at (by omega)]; exact hR30⟩
 ·skip
  refine r_skip ?_
  refine r_seq ?_
  refine r_region ?_
  refine r_op rfl rfl rfl (run_asg (v := .slice _ _ _) rfl (by exact rfl)) ?_
  refine r_nil ?_
  refine r_ret (res1 (v := .slice _ _ _) rfl (by exact rfl)) ?_
  exact ⟨none, 0, 0, 0, by rw [ends_if hc2]; rfl, hV, by rw [ends_if hc2]; exact fun w2 _ => RowE.nil _ _ _ _ _⟩

end Go.Proofs.Ytomklacppmaljaa

namespace Go.Proofs.Ytomklacppmaljaa
open Go.RowKit Go.Vc

theorem small_calls {s : Str} {w0 : World} (hs : s.length ≤ 140737488355328) :
    Calls Try.prog 117 #[S s] w0 fun e w' => e = .returned (.bool (smallL s)) ∧ Evo w0 w' [] := by
 refine calls_enter (n := 19) (args := [S s]) Try.func117 rfl Try.ntmps117 rfl ?_
 have hV : Evo w0 w0 [] := Evo.refl _ _
 refine r_seq ?_
 refine r_region ?_
 refine r_op rfl rfl rfl (run_asg (v := .bool _) rfl (by exact rfl)) ?_
 refine r_nil ?_
 refine r_seq ?_
 refine r_seq ?_
 refine r_region ?_
 refine r_op rfl rfl rfl (run_mv (v := S _) rfl (by exact rfl)) ?_
 refine r_op rfl rfl rfl (run_lenS rfl (by exact rfl) Try.underlying9) ?_
 refine r_op rfl rfl rfl (run_mv (v := .int _ _) rfl (by exact rfl)) ?_
 refine r_nil ?_
 refine r_block ?_
 refine r_loop (α := Nat) [2, 3, 6, 7, 8, 9, 10, 11, 12, 13, 14] (fun k g w => g 6 = .int .i64 (k : Nat) ∧ k ≤ s.length ∧ (∀ j, j < k → clsB (s.getD j 0) = 4) ∧ w0.heap.size ≤ w.heap.size ∧ Evo w0 w []) (fun k => s.length - k) 0 ?_ ?_
 ·refine ⟨(by first | exact rfl | exact congrArg (Value.int _) (by omega) | exact congrArg (Value.int _) (by dsimp only; omega) | exact congrArg (Value.int _) (by simp) | exact congrArg S (by simp)), (by first | assumption | omega | (dsimp only; omega) | (simp; done)), (fun j h => by omega), (by first | assumption | omega | (dsimp only; omega) | (simp; done)), hV⟩
 ·rintro k g w2 ⟨hj3, hk_k, hall, hzl1, hV⟩
  have hs_w2hV := hV.size
  refine r_know (i := 6) (v := .int .i64 (k : Nat)) (by exact hj3) ?_
  refine r_seq ?_
  refine r_region ?_
  refine r_op rfl rfl rfl (run_lss rfl (by exact rfl) (by exact rfl)) ?_
  refine r_nil ?_
  refine r_seq ?_
  refine r_cond (by exact rfl) (fun hc4 => ?_) (fun hc4 => ?_)
  ·skip
   refine r_skip ?_
   refine r_seq ?_
   refine r_block ?_
   refine r_seq ?_
   refine r_region ?_
   refine r_op rfl rfl rfl (run_mv (v := .int _ _) rfl (by exact rfl)) ?_
   refine r_op rfl rfl rfl (run_asg (v := .int _ _) rfl (by exact rfl)) ?_
   refine r_nil ?_
   refine r_seq ?_
   refine r_region ?_
   refine r_op rfl rfl rfl (run_mv (v := S _) rfl (by exact rfl)) ?_
   refine r_op rfl rfl rfl (run_mv (v := .int _ _) rfl (by exact rfl)) ?_
   refine r_op rfl rfl rfl (run_ixS (k) rfl Try.underlying9 (by exact rfl) (by exact rfl) (by first | exact rfl | omega) (by omega)) ?_
   refine r_opcall rfl rfl rfl (run_callf (vs := [.int _ _]) rfl (by exact rfl) Try.func151 rfl (by kernel_rfl)) of_calls ?_
   rintro e w5 ⟨rfl, hE5⟩
   refine ⟨_, rfl, ?_⟩
   have hs_w5 := (hE5).size
   replace hV := evo_step0 hV hE5
   refine r_op rfl rfl rfl (run_neq rfl (by exact rfl) (by exact rfl)) ?_
   refine r_nil ?_
   refine r_cond (by exact rfl) (fun hc6 => ?_) (fun hc6 => ?_)
   ·skip
    refine r_seq ?_
    refine r_region ?_
    refine r_op rfl rfl rfl (run_asg (v := .bool _) rfl (by exact rfl)) ?_
    refine r_nil ?_
    refine r_ret (res1 (v := .bool _) rfl (by exact rfl)) ?_
    exact ⟨ret_bool (by rw [small_bad (k := k) (by omega) hc6]), hV⟩
   ·skip
    refine r_skip ?_
    refine r_blk ?_
    refine r_region ?_
    refine r_op rfl rfl rfl (run_add rfl (by exact rfl) (by exact rfl) (by omega) (by omega)) ?_
    refine r_op rfl rfl rfl (run_mv (v := .int _ _) rfl (by exact rfl)) ?_
    refine r_nil ?_
    refine r_again (k + 1) ?_ ?_ ?_
    ·first | omega | (dsimp only; omega)
    ·refine ⟨(by first | exact rfl | exact congrArg (Value.int _) (by omega) | exact congrArg (Value.int _) (by dsimp only; omega) | exact congrArg (Value.int _) (by simp) | exact congrArg S (by simp)), (by first | assumption | omega | (dsimp only; omega) | (simp; done)), (upto0 hall (Classical.not_not.1 hc6)), (by first | assumption | omega | (dsimp only; omega) | (simp; done)), hV⟩
    ·repeat (first | (with_reducible exact Agree.merge _ _ _) | (with_reducible exact Agree.refl _ _) | (with_reducible refine Agree.upd ?_ _ _ rfl) | ((with_reducible refine Agree.inner ?_ ?_); (kernel_rfl)))
  ·skip
   refine r_exit rfl ?_
   refine r_seq ?_
   refine r_region ?_
   refine r_op rfl rfl rfl (run_mv (v := S _) rfl (by exact rfl)) ?_
   refine r_opcall rfl rfl rfl (run_callf (vs := [S _]) rfl (by exact rfl) Try.func70 rfl (by kernel_rfl)) (lower_calls (by first | omega | (simp; omega))) ?_
   rintro e w7 ⟨rfl, hE7⟩
   refine ⟨_, rfl, ?_⟩
   have hs_w7 := (hE7).size
   replace hV := evo_step0 hV hE7
   refine r_op rfl rfl rfl (run_mv (v := S _) rfl (by exact rfl)) ?_
   refine r_op rfl rfl rfl (run_seql rfl (by exact rfl) (by exact rfl)) ?_
   refine r_op rfl rfl rfl (run_asg (v := .bool _) rfl (by exact rfl)) ?_
   refine r_nil ?_
   refine r_ret (res1 (v := .bool _) rfl (by exact rfl)) ?_
   exact ⟨ret_bool (by rw [small_yes (fun j hj => hall j (by omega))]), hV⟩

theorem rsmall_calls {s : Str} {w0 : World} (hs : s.length ≤ 140737488355328) :
    Calls Try.prog 120 #[S s] w0 fun e w' => e = .returned (.bool (smallL s && decide (s.length ≤ 8))) ∧ Evo w0 w' [] := by
 refine calls_enter (n := 32) (args := [S s]) Try.func120 rfl Try.ntmps120 rfl ?_
 have hV : Evo w0 w0 [] := Evo.refl _ _
 refine r_seq ?_
 refine r_region ?_
 refine r_op rfl rfl rfl (run_asg (v := .bool _) rfl (by exact rfl)) ?_
 refine r_nil ?_
 refine r_seq ?_
 refine r_seq ?_
 refine r_region ?_
 refine r_op rfl rfl rfl (run_asg (v := .int _ _) rfl (by exact rfl)) ?_
 refine r_nil ?_
 refine r_block ?_
 refine r_loop (α := Nat) [2, 3, 4, 5, 6, 7, 8, 9, 10, 11, 12, 13, 14, 15, 16, 17, 18, 19, 20, 21, 22, 23, 24, 25, 26, 27, 28] (fun k g w => g 3 = .int .i64 (k : Nat) ∧ k ≤ s.length ∧ (∀ j, j < k → smlB (s.getD j 0) = true) ∧ w0.heap.size ≤ w.heap.size ∧ Evo w0 w []) (fun k => s.length - k) 0 ?_ ?_
 ·refine ⟨rfl, (by first | assumption | omega | (dsimp only; omega) | (simp; done)), (fun j h => by omega), (by first | assumption | omega | (dsimp only; omega) | (simp; done)), hV⟩
 ·rintro k g w2 ⟨hj3, hk, hall, hzl1, hV⟩
  have hs_w2hV := hV.size
  refine r_know (i := 3) (v := .int .i64 (k : Nat)) (by exact hj3) ?_
  refine r_seq ?_
  refine r_seq ?_
  refine r_region ?_
  refine r_op rfl rfl rfl (run_mv (v := .int _ _) rfl (by exact rfl)) ?_
  refine r_op rfl rfl rfl (run_mv (v := S _) rfl (by exact rfl)) ?_
  refine r_op rfl rfl rfl (run_lenS rfl (by exact rfl) Try.underlying9) ?_
  refine r_op rfl rfl rfl (run_lss rfl (by exact rfl) (by exact rfl)) ?_
  refine r_nil ?_
  refine r_cond (by exact rfl) (fun hc4 => ?_) (fun hc4 => ?_)
  ·skip
   refine r_skip ?_
   refine r_seq ?_
   refine r_block ?_
   refine r_seq ?_
   refine r_qregion (by kernel_rfl) (by kernel_rfl) ?_
   refine q_op rfl rfl rfl (fun w' hC => run_mv (v := S _) rfl (by exact rfl)) ?_
   refine q_op rfl rfl rfl (fun w' hC => run_mv (v := .int _ _) rfl (by exact rfl)) ?_
   refine q_op rfl rfl rfl (fun w' hC => run_ixS (k) rfl Try.underlying9 (by exact rfl) (by exact rfl) (by first | exact rfl | omega) (by omega)) ?_
   refine q_call rfl rfl rfl (fun w' hC => run_callf rfl (argcons (v := .int _ _) (by exact rfl) (rfl)) Try.func153 rfl (by kernel_rfl)) (fun w' hC => (rclass_calls ).mono (fun e w'' h => ⟨h.1, evo_step0 hC h.2⟩)) ?_
   refine q_op rfl rfl rfl (fun w' hC => run_neq rfl (by exact rfl) (by exact rfl)) ?_
   refine q_op rfl rfl rfl (fun w' hC => run_mv (v := .bool _) rfl (by exact rfl)) ?_
   refine q_g rfl (wantF (by exact rfl)) rfl (fun hg w' hC => run_mv (v := S _) rfl (by exact rfl)) ?_
   refine q_g rfl (wantF (by exact rfl)) rfl (fun hg w' hC => run_mv (v := .int _ _) rfl (by exact rfl)) ?_
   refine q_g rfl (wantF (by exact rfl)) rfl (fun hg w' hC => run_mv (v := .int _ _) rfl (by exact rfl)) ?_
   refine q_g rfl (wantF (by exact rfl)) rfl (fun hg w' hC => run_add rfl (glv (by exact rfl) (fun h => h) hg) (by exact rfl) (by omega) (by omega)) ?_
   refine q_g rfl (wantF (by exact rfl)) rfl (fun hg w' hC => run_slS (k) ((k + 1)) rfl Try.underlying9 (glv (by exact rfl) (fun h => h) hg) (at1 (glv (by exact rfl) (fun h => h) hg) (by omega)) (at1 (glv (by exact rfl) (fun h => h) hg) (by omega)) (by first | omega | (simp; omega)) (by first | omega | (simp; omega))) ?_
   refine q_gcall rfl (wantF (by exact rfl)) rfl (fun hg w' hC => run_callf rfl (argcons (v := S _) (glv (by exact rfl) (fun h => h) hg) (rfl)) Try.func74 rfl (by kernel_rfl)) (fun hg w' hC => (rlower_calls (by first | omega | (simp; omega))).mono (fun e w'' h => ⟨h.1, evo_step0 hC h.2⟩)) ?_
   refine q_g rfl (wantF (by exact rfl)) rfl (fun hg w' hC => run_mv (v := S _) rfl (by exact rfl)) ?_
   refine q_g rfl (wantF (by exact rfl)) rfl (fun hg w' hC => run_mv (v := .int _ _) rfl (by exact rfl)) ?_
   refine q_g rfl (wantF (by exact rfl)) rfl (fun hg w' hC => run_mv (v := .int _ _) rfl (by exact rfl)) ?_
   refine q_g rfl (wantF (by exact rfl)) rfl (fun hg w' hC => run_add rfl (glv (by exact rfl) (fun h => h) hg) (by exact rfl) (by omega) (by omega)) ?_
   refine q_g rfl (wantF (by exact rfl)) rfl (fun hg w' hC => run_slS (k) ((k + 1)) rfl Try.underlying9 (glv (by exact rfl) (fun h => h) hg) (at1 (glv (by exact rfl) (fun h => h) hg) (by omega)) (at1 (glv (by exact rfl) (fun h => h) hg) (by omega)) (by first | omega | (simp; omega)) (by first | omega | (simp; omega))) ?_
   refine q_g rfl (wantF (by exact rfl)) rfl (fun hg w' hC => run_sneq rfl (glv (by exact rfl) (fun h => h) hg) (glv (by exact rfl) (fun h => h) hg)) ?_
   refine q_op rfl rfl rfl (fun w' hC => run_pick_or rfl (by exact rfl) rfl (fun hq => glv (by exact rfl) (fun h => h) hq)) ?_
   refine q_nil (fun w5 hE6 => ?_)
   have hs_w5 := (hE6).size
   replace hV := evo_step0 hV hE6
   refine r_cond (by exact rfl) (fun hc7 => ?_) (fun hc7 => ?_)
   ·skip
    refine r_seq ?_
    refine r_region ?_
    refine r_op rfl rfl rfl (run_asg (v := .bool _) rfl (by exact rfl)) ?_
    refine r_nil ?_
    refine r_ret (res1 (v := .bool _) rfl (by exact rfl)) ?_
    exact ⟨ret_bool (by rw [sml_bad (k := k) (by omega) hc7, Bool.false_and]), hV⟩
   ·skip
    refine r_skip ?_
    refine r_blk ?_
    refine r_region ?_
    refine r_op rfl rfl rfl (run_mv (v := .int _ _) rfl (by exact rfl)) ?_
    refine r_op rfl rfl rfl (run_add rfl (by exact rfl) (by exact rfl) (by omega) (by omega)) ?_
    refine r_op rfl rfl rfl (run_asg (v := .int _ _) rfl (by exact rfl)) ?_
    refine r_nil ?_
    refine r_again (k + 1) ?_ ?_ ?_
    ·first | omega | (dsimp only; omega)
    ·refine ⟨(by first | exact rfl | exact congrArg (Value.int _) (by omega) | exact congrArg (Value.int _) (by dsimp only; omega) | exact congrArg (Value.int _) (by simp) | exact congrArg S (by simp)), (by first | assumption | omega | (dsimp only; omega) | (simp; done)), (upto0 hall (sml_one (by omega) hc7)), (by first | assumption | omega | (dsimp only; omega) | (simp; done)), hV⟩
    ·repeat (first | (with_reducible exact Agree.merge _ _ _) | (with_reducible exact Agree.refl _ _) | (with_reducible refine Agree.upd ?_ _ _ rfl) | ((with_reducible refine Agree.inner ?_ ?_); (kernel_rfl)))
  ·skip
   refine r_exit rfl ?_
   refine r_seq ?_
   refine r_region ?_
   refine r_op rfl rfl rfl (run_mv (v := S _) rfl (by exact rfl)) ?_
   refine r_op rfl rfl rfl (run_lenS rfl (by exact rfl) Try.underlying9) ?_
   refine r_op rfl rfl rfl (run_leq rfl (by exact rfl) (by exact rfl)) ?_
   refine r_op rfl rfl rfl (run_asg (v := .bool _) rfl (by exact rfl)) ?_
   refine r_nil ?_
   refine r_ret (res1 (v := .bool _) rfl (by exact rfl)) ?_
   exact ⟨ret_bool (by rw [small_all, all_at (fun j hj => hall j (by omega)), Bool.true_and, Bool.eq_iff_iff, decide_eq_true_iff, decide_eq_true_iff]; omega), hV⟩

end Go.Proofs.Ytomklacppmaljaa

namespace Go.Proofs.Ytomklacppmaljaa
open Go.RowKit Go.Vc

def namedL (c : List Clas) (n : Str) : Int := if isName n = true then (if 0 ≤ findC c n then 5 else 0) else 4
theorem named_no {c : List Clas} {n : Str} (h : ¬ isName n = true) : namedL c n = 4 := if_neg h
theorem named_dup {c : List Clas} {n : Str} (h : isName n = true) (h2 : 0 ≤ findC c n) : namedL c n = 5 := by unfold namedL; rw [if_pos h, if_pos h2]
theorem named_ok {c : List Clas} {n : Str} (h : isName n = true) (h2 : ¬ 0 ≤ findC c n) : namedL c n = 0 := by unfold namedL; rw [if_pos h, if_neg h2]

theorem named_calls {ao : Option Addr} {b off cap : Nat} {c : List Clas} {n : Str} {w0 : World} (hc : RowR w0 ao b off cap c) :
    Calls Try.prog 78 #[.slice ao c.length cap, S n] w0 fun e w' => e = .returned (.int .i64 (namedL c n)) ∧ Evo w0 w' [] := by
 refine calls_enter (n := 14) (args := [.slice ao c.length cap, S n]) Try.func78 rfl Try.ntmps78 rfl ?_
 have hV : Evo w0 w0 [] := Evo.refl _ _
 have hc0 := hc.keep
 have hbd_hc := hc.bd
 refine r_seq ?_
 refine r_region ?_
 refine r_op rfl rfl rfl (run_asg (v := .int _ _) rfl (by exact rfl)) ?_
 refine r_nil ?_
 refine r_seq ?_
 refine r_block ?_
 refine r_seq ?_
 refine r_region ?_
 refine r_op rfl rfl rfl (run_mv (v := S _) rfl (by exact rfl)) ?_
 refine r_opcall rfl rfl rfl (run_callf (vs := [S _]) rfl (by exact rfl) Try.func116 rfl (by kernel_rfl)) isname_calls ?_
 rintro e w1 ⟨rfl, hE1⟩
 refine ⟨_, rfl, ?_⟩
 have hs_w1 := (hE1).size
 replace hV := evo_step0 hV hE1
 replace hc := hc0.now hV
 refine r_op rfl rfl rfl (run_notb rfl (by exact rfl)) ?_
 refine r_op rfl rfl rfl (run_asg (v := .bool _) rfl (by exact rfl)) ?_
 refine r_nil ?_
 refine r_condb (by exact rfl) (fun hc2 => ?_) (fun hc2 => ?_)
 ·skip
  refine r_seq ?_
  refine r_region ?_
  refine r_op rfl rfl rfl (run_asg (v := .int _ _) rfl (by exact rfl)) ?_
  refine r_nil ?_
  refine r_ret (res1 (v := .int _ _) rfl (by exact rfl)) ?_
  exact ⟨ret_int (by rw [named_no (by simp_all)]), hV⟩
 ·skip
  refine r_seq ?_
  refine r_region ?_
  refine r_op rfl rfl rfl (run_mv (v := .slice _ _ _) rfl (by exact rfl)) ?_
  refine r_op rfl rfl rfl (run_mv (v := S _) rfl (by exact rfl)) ?_
  refine r_opcall rfl rfl rfl (run_callf (vs := [.slice _ _ _, S _]) rfl (by exact rfl) Try.func26 rfl (by kernel_rfl)) (find_calls hc) ?_
  rintro e w3 ⟨rfl, hE3⟩
  refine ⟨_, rfl, ?_⟩
  have hs_w3 := (hE3).size
  replace hV := evo_step0 hV hE3
  replace hc := hc0.now hV
  refine r_op rfl rfl rfl (run_geq rfl (by exact rfl) (by exact rfl)) ?_
  refine r_op rfl rfl rfl (run_asg (v := .bool _) rfl (by exact rfl)) ?_
  refine r_nil ?_
  refine r_cond (by exact rfl) (fun hc4 => ?_) (fun hc4 => ?_)
  ·skip
   refine r_seq ?_
   refine r_region ?_
   refine r_op rfl rfl rfl (run_asg (v := .int _ _) rfl (by exact rfl)) ?_
   refine r_nil ?_
   refine r_ret (res1 (v := .int _ _) rfl (by exact rfl)) ?_
   exact ⟨ret_int (by rw [named_dup (by simp_all) (by omega)]), hV⟩
  ·skip
   refine r_skip ?_
   refine r_blk ?_
   refine r_seq ?_
   refine r_region ?_
   refine r_op rfl rfl rfl (run_asg (v := .int _ _) rfl (by exact rfl)) ?_
   refine r_nil ?_
   refine r_ret (res1 (v := .int _ _) rfl (by exact rfl)) ?_
   exact ⟨ret_int (by rw [named_ok (by simp_all) (by omega)]), hV⟩

theorem rnamed_calls {ao : Option Addr} {b off cap : Nat} {c : List Clas} {n : Str} {w0 : World} (hc : RowR w0 ao b off cap c) :
    Calls Try.prog 80 #[.slice ao c.length cap, S n] w0 fun e w' => e = .returned (.int .i64 (namedL c n)) ∧ Evo w0 w' [] := by
 refine calls_enter (n := 12) (args := [.slice ao c.length cap, S n]) Try.func80 rfl Try.ntmps80 rfl ?_
 have hV : Evo w0 w0 [] := Evo.refl _ _
 have hc0 := hc.keep
 have hbd_hc := hc.bd
 refine r_seq ?_
 refine r_region ?_
 refine r_op rfl rfl rfl (run_asg (v := .int _ _) rfl (by exact rfl)) ?_
 refine r_nil ?_
 refine r_seq ?_
 refine r_seq ?_
 refine r_region ?_
 refine r_op rfl rfl rfl (run_mv (v := S _) rfl (by exact rfl)) ?_
 refine r_opcall rfl rfl rfl (run_callf (vs := [S _]) rfl (by exact rfl) Try.func119 rfl (by kernel_rfl)) risname_calls ?_
 rintro e w1 ⟨rfl, hE1⟩
 refine ⟨_, rfl, ?_⟩
 have hs_w1 := (hE1).size
 replace hV := evo_step0 hV hE1
 replace hc := hc0.now hV
 refine r_op rfl rfl rfl (run_notb rfl (by exact rfl)) ?_
 refine r_nil ?_
 refine r_condb (by exact rfl) (fun hc2 => ?_) (fun hc2 => ?_)
 ·skip
  refine r_seq ?_
  refine r_region ?_
  refine r_op rfl rfl rfl (run_asg (v := .int _ _) rfl (by exact rfl)) ?_
  refine r_nil ?_
  refine r_ret (res1 (v := .int _ _) rfl (by exact rfl)) ?_
  exact ⟨ret_int (by rw [named_no (by simp_all)]), hV⟩
 ·skip
  refine r_skip ?_
  refine r_seq ?_
  refine r_seq ?_
  refine r_region ?_
  refine r_op rfl rfl rfl (run_mv (v := .slice _ _ _) rfl (by exact rfl)) ?_
  refine r_op rfl rfl rfl (run_mv (v := S _) rfl (by exact rfl)) ?_
  refine r_opcall rfl rfl rfl (run_callf (vs := [.slice _ _ _, S _]) rfl (by exact rfl) Try.func27 rfl (by kernel_rfl)) (rfind_calls hc) ?_
  rintro e w3 ⟨rfl, hE3⟩
  refine ⟨_, rfl, ?_⟩
  have hs_w3 := (hE3).size
  replace hV := evo_step0 hV hE3
  replace hc := hc0.now hV
  refine r_op rfl rfl rfl (run_geq rfl (by exact rfl) (by exact rfl)) ?_
  refine r_nil ?_
  refine r_cond (by exact rfl) (fun hc4 => ?_) (fun hc4 => ?_)
  ·skip
   refine r_seq ?_
   refine r_region ?_
   refine r_op rfl rfl rfl (run_asg (v := .int _ _) rfl (by exact rfl)) ?_
   refine r_nil ?_
   refine r_ret (res1 (v := .int _ _) rfl (by exact rfl)) ?_
   exact ⟨ret_int (by rw [named_dup (by simp_all) (by omega)]), hV⟩
  ·skip
   refine r_skip ?_
   refine r_seq ?_
   refine r_region ?_
   refine r_op rfl rfl rfl (run_asg (v := .int _ _) rfl (by exact rfl)) ?_
   refine r_nil ?_
   refine r_ret (res1 (v := .int _ _) rfl (by exact rfl)) ?_
   exact ⟨ret_int (by rw [named_ok (by simp_all) (by omega)]), hV⟩

theorem big_calls {ao : Option Addr} {b off cap : Nat} {c : List Clas} {w0 : World} (hc : RowR w0 ao b off cap c) :
    Calls Try.prog 22 #[.slice ao c.length cap] w0 fun e w' => ∃ x, e = .returned (.bool x) ∧ Evo w0 w' [] := by
 have hbdn := fun k => clas_bdD hc k
 refine calls_enter (n := 26) (args := [.slice ao c.length cap]) Try.func22 rfl Try.ntmps22 rfl ?_
 have hV : Evo w0 w0 [] := Evo.refl _ _
 have hc0 := hc.keep
 have hbd_hc := hc.bd
 refine r_seq ?_
 refine r_region ?_
 refine r_op rfl rfl rfl (run_asg (v := .bool _) rfl (by exact rfl)) ?_
 refine r_nil ?_
 refine r_seq ?_
 refine r_region ?_
 refine r_op rfl rfl rfl (run_mv (v := .slice _ _ _) rfl (by exact rfl)) ?_
 refine r_op rfl rfl rfl (run_lenSl rfl (by exact rfl) Try.underlying22) ?_
 refine r_op rfl rfl rfl (run_asg (v := .int _ _) rfl (by exact rfl)) ?_
 refine r_nil ?_
 refine r_seq ?_
 refine r_seq ?_
 refine r_region ?_
 refine r_op rfl rfl rfl (run_mv (v := .slice _ _ _) rfl (by exact rfl)) ?_
 refine r_op rfl rfl rfl (run_lenSl rfl (by exact rfl) Try.underlying22) ?_
 refine r_op rfl rfl rfl (run_mv (v := .int _ _) rfl (by exact rfl)) ?_
 refine r_nil ?_
 refine r_block ?_
 refine r_loop (α := Nat) [3, 5, 10, 11, 12, 13, 14, 15, 16, 17, 18, 19, 20, 21, 22, 23] (fun k g w => ∃ z : Int, g 10 = .int .i64 (k : Nat) ∧ g 3 = .int .i64 z ∧ k ≤ c.length ∧ w0.heap.size ≤ w.heap.size ∧ Evo w0 w []) (fun k => c.length - k) 0 ?_ ?_
 ·refine ⟨_, (by first | exact rfl | exact congrArg (Value.int _) (by omega) | exact congrArg (Value.int _) (by dsimp only; omega) | exact congrArg (Value.int _) (by simp) | exact congrArg S (by simp)), (by first | exact rfl | exact congrArg (Value.int _) (by omega) | exact congrArg (Value.int _) (by dsimp only; omega) | exact congrArg (Value.int _) (by simp) | exact congrArg S (by simp)), (by first | assumption | omega | (dsimp only; omega) | (simp; done)), (by first | assumption | omega | (dsimp only; omega) | (simp; done)), hV⟩
 ·rintro k g w2 ⟨z, hj3, hj4, hk_k, hzl1, hV⟩
  have hs_w2hV := hV.size
  replace hc := hc0.now hV
  refine r_know (i := 10) (v := .int .i64 (k : Nat)) (by exact hj3) ?_
  refine r_know (i := 3) (v := .int .i64 z) (by exact hj4) ?_
  refine r_seq ?_
  refine r_region ?_
  refine r_op rfl rfl rfl (run_lss rfl (by exact rfl) (by exact rfl)) ?_
  refine r_nil ?_
  refine r_seq ?_
  refine r_cond (by exact rfl) (fun hc5 => ?_) (fun hc5 => ?_)
  ·skip
   refine r_skip ?_
   refine r_seq ?_
   refine r_block ?_
   refine r_seq ?_
   refine r_region ?_
   refine r_op rfl rfl rfl (run_ix (k) rfl Try.underlying22 ty_43 (by exact rfl) (by exact rfl) (by first | exact rfl | omega) (by omega) (hc.addr (i := k) (by omega))) ?_
   obtain ⟨ao6, b6, off6, cap6, hX⟩ := clas_atK hc0 (k) (by omega)
   have hA60 := fun (w' : World) (h : Evo w0 w' []) => (hX w' h).1
   have hA6 := hA60 _ hV
   have hR60 := fun (w' : World) (h : Evo w0 w' []) => (hX w' h).2
   have hR6 := hR60 _ hV
   clear hX
   have hbd_hR6 := hR6.bd
   refine r_op rfl rfl rfl (run_ldN rfl ag_43 ty_43 (by exact rfl) rfl hA6) ?_
   refine r_var (zs := [_, _]) (vs := [_, _]) ty_43 (by exact rfl) rfl (by exact rfl) (fun _ => rfl) (by exact rfl) rfl rfl (by exact rfl) ?_
   intro b7 w8 heb7 hEw8 hbb7 hzb7
   have hs_w8 := (hEw8).size
   replace hV := evo_step0 hV hEw8
   replace hc := hc0.now hV
   replace hR6 := hR60 _ hV
   have hAb7 := hbb7.at
   refine r_nil ?_
   refine r_region ?_
   refine r_op rfl rfl rfl (run_mv (v := .int _ _) rfl (by exact rfl)) ?_
   refine r_op rfl rfl rfl (run_fa rfl (by exact rfl) fo_43_1) ?_
   refine r_op rfl rfl rfl (run_ld1 rfl ag_41 (by exact rfl) (hAb7.cell 1 (by exact rfl))) ?_
   refine r_op rfl rfl rfl (run_lenSl rfl (by exact rfl) Try.underlying41) ?_
   refine r_op rfl rfl rfl (run_fa rfl (by exact rfl) fo_43_0) ?_
   refine r_op rfl rfl rfl (run_ld1 rfl ag_9 (by exact rfl) (hAb7.cell 0 (by exact rfl))) ?_
   refine r_op rfl rfl rfl (run_lenS rfl (by exact rfl) Try.underlying9) ?_
   refine r_op rfl rfl rfl (run_addw rfl (by exact rfl) (by exact rfl)) ?_
   refine r_op rfl rfl rfl (run_addw rfl (by exact rfl) (by exact rfl)) ?_
   refine r_op rfl rfl rfl (run_asg (v := .int _ _) rfl (by exact rfl)) ?_
   refine r_nil ?_
   refine r_blk ?_
   refine r_region ?_
   refine r_op rfl rfl rfl (run_add rfl (by exact rfl) (by exact rfl) (by omega) (by omega)) ?_
   refine r_op rfl rfl rfl (run_mv (v := .int _ _) rfl (by exact rfl)) ?_
   refine r_nil ?_
   refine r_again (k + 1) ?_ ?_ ?_
   ·first | omega | (dsimp only; omega)
   ·refine ⟨_, (by first | exact rfl | exact congrArg (Value.int _) (by omega) | exact congrArg (Value.int _) (by dsimp only; omega) | exact congrArg (Value.int _) (by simp) | exact congrArg S (by simp)), (by first | exact rfl | exact congrArg (Value.int _) (by omega) | exact congrArg (Value.int _) (by dsimp only; omega) | exact congrArg (Value.int _) (by simp) | exact congrArg S (by simp)), (by first | assumption | omega | (dsimp only; omega) | (simp; done)), (by first | assumption | omega | (dsimp only; omega) | (simp; done)), hV⟩
   ·repeat (first | (with_reducible exact Agree.merge _ _ _) | (with_reducible exact Agree.refl _ _) | (with_reducible refine Agree.upd ?_ _ _ rfl) | ((with_reducible refine Agree.inner ?_ ?_); (kernel_rfl)))
  ·skip
   refine r_exit rfl ?_
   refine r_seq ?_
   refine r_region ?_
   refine r_op rfl rfl rfl (run_mv (v := .int _ _) rfl (by exact rfl)) ?_
   refine r_op rfl rfl rfl (run_gtr rfl (by exact rfl) (by exact rfl)) ?_
   refine r_op rfl rfl rfl (run_asg (v := .bool _) rfl (by exact rfl)) ?_
   refine r_nil ?_
   refine r_ret (res1 (v := .bool _) rfl (by exact rfl)) ?_
   exact ⟨_, rfl, hV⟩

end Go.Proofs.Ytomklacppmaljaa

namespace Go.Proofs.Ytomklacppmaljaa
open Go.RowKit Go.Vc

theorem keys_calls {w : World} {b : Nat} : Calls Try.prog 115 #[.map (some b)] w fun e w' => e = .returned (.func (.func 150) #[] #[.pointer (some ⟨w.heap.size, 0, none⟩)]) ∧ Evo w w' [] ∧ w' = w.alloc (.cells #[.map (some b)] 107) :=
  (callsIn_wide.1 (Try.maps_Keys_115 (some b) w)).mono fun e w' ⟨h1, h2⟩ => ⟨h1, by subst h2; exact evo_below (Below.refl _ _ |>.alloc (Nat.le_refl _) _), h2⟩
theorem sortedk_calls {w w1 : World} {b : Nat} {β : Type} {ev : β → Value} {m : List (Str × β)} (hm : MapIs w b S ev m) (hk : w1 = w.alloc (.cells #[.map (some b)] 107)) (hl : ∀ p ∈ m, p.1.length ≤ maxLen) (hb : m.length * 16 ≤ 140737488355328) :
    Calls Try.prog 114 #[.func (.func 150) #[] #[.pointer (some ⟨w.heap.size, 0, none⟩)]] w1 fun e w' => ∃ v, e = .returned v ∧ Evo w1 w' [] ∧ OwnE w' w1.heap.size 9 v (sortS (m.map (·.1))) := by
  subst hk
  obtain ⟨D, hD, hz, hp⟩ := map_owns (P := Try.prog) (K := 9) Try.underlying9 hm (by unfold maxLen; omega) hl
  refine (callsIn_wide.1 (Try.slices_Sorted_keys_114_115 b m.length D R0 w hD (by rw [hz]; unfold maxLen; omega) (by rw [hz]; exact hb))).mono ?_
  rintro e w' ⟨v, ss, rfl, hS, hrow, _, hbl⟩
  have hlen : ss.length = m.length := by have := (hS.trans hp).length_eq; simpa using this
  have hst : sortS (m.map (·.1)) = ss.mergeSort (fun x y => decide (x ≤ y)) := (mergeSort_of_perm (hS.trans hp)).symm
  refine ⟨v, rfl, evo_below hbl, ?_⟩
  rw [hst]
  exact OwnE.of1 (enc1 := encStr) rfl (fun _ => rfl) (by simp; omega) (by rw [show (ss.mergeSort (fun x y => decide (x ≤ y))).length = ss.length from by simp]; exact hrow)

theorem sorted_calls {b : Nat} {β : Type} {ev : β → Value} {m : List (Str × β)} {w0 : World} (hm0 : MapIs w0 b S ev m) (hl : ∀ p ∈ m, p.1.length ≤ maxLen) (hb : m.length * 16 ≤ 140737488355328) :
    Calls Try.prog 73 #[.map (some b)] w0 fun e w' => ∃ v, e = .returned v ∧ Evo w0 w' [] ∧ OwnE w' w0.heap.size 9 v (sortS (m.map (·.1))) := by
 refine calls_enter (n := 6) (args := [.map (some b)]) Try.func73 rfl Try.ntmps73 rfl ?_
 have hV : Evo w0 w0 [] := Evo.refl _ _
 refine r_seq ?_
 refine r_region ?_
 refine r_op rfl rfl rfl (run_asg (v := .slice _ _ _) rfl (by exact rfl)) ?_
 refine r_nil ?_
 refine r_seq ?_
 refine r_region ?_
 refine r_op rfl rfl rfl (run_mv (v := .map _) rfl (by exact rfl)) ?_
 refine r_opcall rfl rfl rfl (run_callf (vs := [.map _]) rfl (by exact rfl) Try.func115 rfl (by kernel_rfl)) keys_calls ?_
 rintro e w1 ⟨rfl, hE1, hky1⟩
 refine ⟨_, rfl, ?_⟩
 have hs_w1 := (hE1).size
 replace hV := evo_step0 hV hE1
 refine r_opcall rfl rfl rfl (run_callf (vs := [.func _ _ _]) rfl (by exact rfl) Try.func114 rfl (by kernel_rfl)) (sortedk_calls hm0 hky1 hl hb) ?_
 rintro e w2 ⟨vs2, rfl, hE2, hsr2⟩
 refine ⟨_, rfl, ?_⟩
 have hs_w2 := (hE2).size
 replace hV := evo_step0 hV hE2
 refine r_op rfl rfl rfl (run_asg (v := vs2) rfl (by exact rfl)) ?_
 refine r_nil ?_
 refine r_ret (res1 (v := vs2) rfl (by exact rfl)) ?_
 exact ⟨_, rfl, hV, hsr2.base_le (by omega)⟩

end Go.Proofs.Ytomklacppmaljaa

namespace Go.Proofs.Ytomklacppmaljaa
open Go.RowKit Go.Vc
theorem pl_106 : placesP Try.prog 106 = some [] := by kernel_rfl
theorem ty_106 : tyP Try.prog 106 = some (0, 0, some (.agg #[])) := by kernel_rfl
theorem cut_len (s t : Str) : (if t <:+ s then s.take (s.length - t.length) else s).length ≤ s.length := by
  split
  · exact List.length_take_le' _ _
  · exact Nat.le_refl _
theorem key_len {m : List (Str × Unit)} {ok : Str → Bool} {s : Str} {E : List Ende} {k : Nat} (h : KeyIs m (foldF ok s fwd (E.take k))) (hb : ∀ k, BdE (E.getD k default)) (hs : s.length ≤ 4000) : ∀ p ∈ m, p.1.length ≤ maxLen := fun p hp => by
  have h1 := (h.2 p.1).1 (List.mem_map.2 ⟨p, hp, rfl⟩)
  unfold maxLen
  rcases foldF_mem.1 h1 with h2 | ⟨_, _, x, hx, h2⟩
  · rw [h2]; omega
  · have h3 := turn_len s (fwd x).1 (fwd x).2
    rw [h2] at h3
    obtain ⟨i, hi, rfl⟩ := List.mem_iff_getElem.1 (List.mem_of_mem_take hx)
    have h4 := (hb i).2
    have e : E.getD i default = E[i] := by simp [List.getD, hi]
    rw [e] at h4
    have h5 : p.1.length ≤ s.length + E[i].add.length := h3
    omega
theorem key_cnt {m : List (Str × Unit)} {l : List Str} (h : KeyIs m l) (hl : l.Pairwise (fun a b => a < b)) : m.length = l.length := by
  have := congrArg List.length (h.sorted hl)
  rw [sortS_len, List.length_map] at this
  exact this

theorem forms_calls {ao : Option Addr} {b off cap : Nat} {c : List Clas} {p q : Str} {w0 : World} (hc : RowR w0 ao b off cap c) (hen : (endsL c q).length ≤ 4398046510976) (hbe : ∀ k, BdE ((endsL c q).getD k default)) (hp : p.length ≤ 4000) (hq : q.length ≤ 140737488355328) :
    Calls Try.prog 29 #[.slice ao c.length cap, (.agg #[S p, S q])] w0 fun e w' => ∃ ao' b' off' cap', e = .returned (.slice ao' (formsC c p q).length cap') ∧ Evo w0 w' [] ∧ RowE w' ao' b' off' cap' (formsC c p q) := by
 refine calls_enter (n := 53) (args := [.slice ao c.length cap, (.agg #[S p, S q])]) Try.func29 rfl Try.ntmps29 rfl ?_
 have hV : Evo w0 w0 [] := Evo.refl _ _
 have hc0 := hc.keep
 have hbd_hc := hc.bd
 refine r_seq ?_
 refine r_region ?_
 refine r_box (vs := [_, _]) (by exact rfl) (by exact rfl) rfl ?_
 intro b1 w2 heb1 hEw2 hbb1 hzb1
 have hs_w2 := (hEw2).size
 replace hV := evo_step0 hV hEw2
 replace hc := hc0.now hV
 have hAb1 := hbb1.at
 refine r_op rfl rfl rfl (run_asg (v := .slice _ _ _) rfl (by exact rfl)) ?_
 refine r_nil ?_
 refine r_seq ?_
 refine r_region ?_
 refine r_op rfl rfl rfl (run_fa rfl (by exact rfl) fo_33_0) ?_
 refine r_op rfl rfl rfl (run_ld1 rfl ag_9 (by exact rfl) (hAb1.cell 0 (by exact rfl))) ?_
 refine r_opcall rfl rfl rfl (run_callf (vs := [S _]) rfl (by exact rfl) Try.func70 rfl (by kernel_rfl)) (lower_calls (by first | omega | (simp; omega))) ?_
 rintro e w3 ⟨rfl, hE3⟩
 refine ⟨_, rfl, ?_⟩
 have hs_w3 := (hE3).size
 replace hV := evo_step0 hV hE3
 replace hc := hc0.now hV
 replace hbb1 := hbb1.evo0 hE3
 replace hAb1 := hAb1.evo0 hE3
 refine r_op rfl rfl rfl (run_asg (v := S _) rfl (by exact rfl)) ?_
 refine r_nil ?_
 refine r_seq ?_
 refine r_seq ?_
 refine r_region ?_
 refine r_op rfl rfl rfl (run_mv (v := S _) rfl (by exact rfl)) ?_
 refine r_op rfl rfl rfl (run_seql rfl (by exact rfl) (by exact rfl)) ?_
 refine r_nil ?_
 refine r_cond (by exact rfl) (fun hc4 => ?_) (fun hc4 => ?_)
 ·skip
  refine r_seq ?_
  refine r_region ?_
  refine r_op rfl rfl rfl (run_asg (v := .slice _ _ _) rfl (by exact rfl)) ?_
  refine r_nil ?_
  refine r_ret (res1 (v := .slice _ _ _) rfl (by exact rfl)) ?_
  exact ⟨none, 0, 0, 0, by rw [forms_nil hc4]; rfl, hV, by rw [forms_nil hc4]; exact RowE.nil _ _ _ _ _⟩
 ·skip
  refine r_skip ?_
  refine r_seq ?_
  refine r_region ?_
  refine r_makeMap (α := Str) (β := Unit) S (fun _ : Unit => Value.agg #[]) rfl ?_
  intro b5 w6 heb5 hEw6 hmb5 hzb5
  have hs_w6 := (hEw6).size
  replace hV := evo_step0 hV hEw6
  replace hc := hc0.now hV
  replace hbb1 := hbb1.evo0 hEw6
  replace hAb1 := hAb1.evo0 hEw6
  refine r_op rfl rfl rfl (run_mv (v := S _) rfl (by exact rfl)) ?_
  refine r_op rfl rfl rfl (run_bld (pv := []) (zs := []) (cells := []) rfl ty_106 (by exact rfl) pl_106 (by exact rfl) (by exact rfl)) ?_
  refine r_mapins (a := _) (v := ()) (key_str Try.underlying9) Try.underlying107 (by exact rfl) (by exact rfl) (by exact rfl) hmb5 ?_
  intro w7 hEw7 hzw7 hm_new
  have hs_w7 := (hEw7).size
  replace hV := evo_step1 hV hEw7 (by first | exact .inl (by omega) | exact .inr (by simp))
  replace hc := hc0.now hV
  replace hbb1 := hbb1.evo hEw7 (by simp; omega)
  replace hAb1 := hAb1.evo hEw7 (by simp; omega)
  replace hmb5 := hm_new
  clear hm_new
  refine r_op rfl rfl rfl (run_mv (v := .map _) rfl (by exact rfl)) ?_
  refine r_op rfl rfl rfl (run_asg (v := .map _) rfl (by exact rfl)) ?_
  refine r_nil ?_
  refine r_seq ?_
  refine r_seq ?_
  refine r_region ?_
  refine r_op rfl rfl rfl (run_mv (v := .slice _ _ _) rfl (by exact rfl)) ?_
  refine r_op rfl rfl rfl (run_fa rfl (by exact rfl) fo_33_1) ?_
  refine r_op rfl rfl rfl (run_ld1 rfl ag_9 (by exact rfl) (hAb1.cell 1 (by exact rfl))) ?_
  refine r_opcall rfl rfl rfl (run_callf (vs := [.slice _ _ _, S _]) rfl (by exact rfl) Try.func71 rfl (by kernel_rfl)) (ends_calls hc0 hV) ?_
  rintro e w8 ⟨ao8, b8, off8, cap8, rfl, hE8, hr80⟩
  refine ⟨_, rfl, ?_⟩
  have hs_w8 := (hE8).size
  replace hV := evo_step0 hV hE8
  replace hc := hc0.now hV
  replace hmb5 := hmb5.evo0 hE8
  have hr8 := hr80 _ hV
  have hbd_hr8 := hr8.bd
  refine r_op rfl rfl rfl (run_lenSl rfl (by exact rfl) Try.underlying41) ?_
  refine r_op rfl rfl rfl (run_mv (v := .int _ _) rfl (by exact rfl)) ?_
  refine r_nil ?_
  refine r_block ?_
  refine r_loop (α := Nat) [8, 9, 10, 25, 26, 27, 28, 29, 30, 31, 32, 33, 34, 35, 36, 37, 38, 39, 40, 41, 42, 43, 44, 45, 46, 47, 48, 49, 50] (fun k g w => ∃ m : List (Str × Unit), g 25 = .int .i64 (k : Nat) ∧ k ≤ (if q = [] then ([] : List Ende) else endsL c q).length ∧ MapIs w b5 S (fun _ : Unit => Value.agg #[]) m ∧ KeyIs m (foldF (fun _ => true) (lowS p) fwd ((if q = [] then ([] : List Ende) else endsL c q).take k)) ∧ w8.heap.size ≤ w.heap.size ∧ Evo w0 w []) (fun k => (if q = [] then ([] : List Ende) else endsL c q).length - k) 0 ?_ ?_
  ·refine ⟨_, (by first | exact rfl | exact congrArg (Value.int _) (by omega) | exact congrArg (Value.int _) (by dsimp only; omega) | exact congrArg (Value.int _) (by simp) | exact congrArg S (by simp)), (by first | assumption | omega | (dsimp only; omega) | (simp; done)), hmb5, (KeyIs.one _), (by first | assumption | omega | (dsimp only; omega) | (simp; done)), hV⟩
  ·rintro k g w10 ⟨m, hj11, hk_k, hmb5, hks, hzl9, hV⟩
   have hs_w10hV := hV.size
   have hlt12 := hmb5.lt
   replace hc := hc0.now hV
   replace hr8 := hr80 _ hV
   refine r_know (i := 25) (v := .int .i64 (k : Nat)) (by exact hj11) ?_
   have hbk := ends_ifbd hbe k
   have hb1 := hbk.1
   have hb2 := hbk.2
   refine r_seq ?_
   refine r_region ?_
   refine r_op rfl rfl rfl (run_lss rfl (by exact rfl) (by exact rfl)) ?_
   refine r_nil ?_
   refine r_seq ?_
   refine r_cond (by exact rfl) (fun hc13 => ?_) (fun hc13 => ?_)
   ·skip
    refine r_skip ?_
    refine r_seq ?_
    refine r_block ?_
    refine r_seq ?_
    refine r_region ?_
    refine r_op rfl rfl rfl (run_ix (k) rfl Try.underlying41 ty_46 (by exact rfl) (by exact rfl) (by first | exact rfl | omega) (by omega) (hr8.addr (i := k) (by omega))) ?_
    have hA140 := fun (w' : World) (h : Evo w0 w' []) => (hr80 w' h).atD (k) (by omega)
    have hA14 := hA140 _ hV
    refine r_op rfl rfl rfl (run_ldN rfl ag_46 ty_46 (by exact rfl) rfl hA14) ?_
    refine r_var (zs := [_, _]) (vs := [_, _]) ty_46 (by exact rfl) rfl (by exact rfl) (fun _ => rfl) (by exact rfl) rfl rfl (by exact rfl) ?_
    intro b15 w16 heb15 hEw16 hbb15 hzb15
    have hs_w16 := (hEw16).size
    replace hV := evo_step0 hV hEw16
    replace hc := hc0.now hV
    replace hmb5 := hmb5.evo0 hEw16
    have hAb15 := hbb15.at
    refine r_nil ?_
    refine r_seq ?_
    refine r_region ?_
    refine r_op rfl rfl rfl (run_mv (v := S _) rfl (by exact rfl)) ?_
    refine r_op rfl rfl rfl (run_fa rfl (by exact rfl) fo_46_0) ?_
    refine r_op rfl rfl rfl (run_ld1 rfl ag_9 (by exact rfl) (hAb15.cell 0 (by exact rfl))) ?_
    refine r_opcall rfl rfl rfl (run_callf (vs := [S _, S _]) rfl (by exact rfl) Try.func72 rfl (by kernel_rfl)) (s_cs_calls (by first | omega | (simp; omega)) (by first | omega | (simp; omega))) ?_
    rintro e w17 ⟨rfl, hE17⟩
    refine ⟨_, rfl, ?_⟩
    have hs_w17 := (hE17).size
    replace hV := evo_step0 hV hE17
    replace hc := hc0.now hV
    replace hmb5 := hmb5.evo0 hE17
    replace hbb15 := hbb15.evo0 hE17
    replace hAb15 := hAb15.evo0 hE17
    refine r_op rfl rfl rfl (run_mv (v := .tuple _) rfl (by exact rfl)) ?_
    refine r_op rfl rfl rfl (run_extract (v := S _) rfl (by exact rfl) (by exact rfl)) ?_
    refine r_op rfl rfl rfl (run_extract (v := .bool _) rfl (by exact rfl) (by exact rfl)) ?_
    refine r_op rfl rfl rfl (run_asg (v := S _) rfl (by exact rfl)) ?_
    refine r_op rfl rfl rfl (run_asg (v := .bool _) rfl (by exact rfl)) ?_
    refine r_nil ?_
    refine r_seq ?_
    have hcl := cut_len (lowS p) ((if q = [] then ([] : List Ende) else endsL c q).getD k default).strip; have hlw := lowS_len p
    refine r_region ?_
    refine r_op rfl rfl rfl (run_mvb rfl (by exact rfl)) ?_
    refine r_op rfl rfl rfl (run_mv (v := .bool _) rfl (by exact rfl)) ?_
    refine r_g rfl (wantT (by exact rfl)) rfl (fun hg => run_mv (v := S _) rfl (by exact rfl)) ?_
    refine r_g rfl (wantT (by exact rfl)) rfl (fun hg => run_fa rfl (by exact rfl) fo_46_1) ?_
    refine r_g rfl (wantT (by exact rfl)) rfl (fun hg => run_ld1 rfl ag_9 (glv (by exact rfl) (fun h => h) hg) (hAb15.cell 1 (by exact rfl))) ?_
    refine r_g rfl (wantT (by exact rfl)) rfl (fun hg => run_sadd rfl (glv (by exact rfl) (fun h => h) hg) (glv (by exact rfl) (fun h => h) hg) (by first | omega | (simp; omega))) ?_
    refine r_g rfl (wantT (by exact rfl)) rfl (fun hg => run_sneq rfl (glv (by exact rfl) (fun h => h) hg) (by exact rfl)) ?_
    refine r_op rfl rfl rfl (run_pick_and rfl (by exact rfl) (fun hq => glv (by exact rfl) (fun h => h) hq) rfl) ?_
    refine r_nil ?_
    refine r_cond (by exact rfl) (fun hc18 => ?_) (fun hc18 => ?_)
    ·skip
     refine r_region ?_
     refine r_op rfl rfl rfl (run_mv (v := .map _) rfl (by exact rfl)) ?_
     refine r_op rfl rfl rfl (run_mv (v := S _) rfl (by exact rfl)) ?_
     refine r_op rfl rfl rfl (run_fa rfl (by exact rfl) fo_46_1) ?_
     refine r_op rfl rfl rfl (run_ld1 rfl ag_9 (by exact rfl) (hAb15.cell 1 (by exact rfl))) ?_
     refine r_op rfl rfl rfl (run_sadd rfl (by exact rfl) (by exact rfl) (by first | omega | (simp; omega))) ?_
     refine r_op rfl rfl rfl (run_bld (pv := []) (zs := []) (cells := []) rfl ty_106 (by exact rfl) pl_106 (by exact rfl) (by exact rfl)) ?_
     refine r_mapset (a := _) (v := ()) (key_str Try.underlying9) Try.underlying107 (by exact rfl) (by exact rfl) (by exact rfl) hmb5 ?_
     intro w19 hEw19 hzw19 hm_new
     have hs_w19 := (hEw19).size
     replace hV := evo_step1 hV hEw19 (by first | exact .inl (by omega) | exact .inr (by simp))
     replace hc := hc0.now hV
     replace hmb5 := hm_new
     clear hm_new
     refine r_nil ?_
     refine r_blk ?_
     refine r_region ?_
     refine r_op rfl rfl rfl (run_add rfl (by exact rfl) (by exact rfl) (by omega) (by omega)) ?_
     refine r_op rfl rfl rfl (run_mv (v := .int _ _) rfl (by exact rfl)) ?_
     refine r_nil ?_
     refine r_again (k + 1) ?_ ?_ ?_
     ·first | omega | (dsimp only; omega)
     ·refine ⟨_, (by first | exact rfl | exact congrArg (Value.int _) (by omega) | exact congrArg (Value.int _) (by dsimp only; omega) | exact congrArg (Value.int _) (by simp) | exact congrArg S (by simp)), (by first | assumption | omega | (dsimp only; omega) | (simp; done)), hmb5, (by first | exact cut_yes hks (by omega) hc18 | exact cut_no hks (by omega) hc18), (by first | assumption | omega | (dsimp only; omega) | (simp; done)), hV⟩
     ·repeat (first | (with_reducible exact Agree.merge _ _ _) | (with_reducible exact Agree.refl _ _) | (with_reducible refine Agree.upd ?_ _ _ rfl) | ((with_reducible refine Agree.inner ?_ ?_); (kernel_rfl)))
    ·skip
     refine r_skip ?_
     refine r_blk ?_
     refine r_region ?_
     refine r_op rfl rfl rfl (run_add rfl (by exact rfl) (by exact rfl) (by omega) (by omega)) ?_
     refine r_op rfl rfl rfl (run_mv (v := .int _ _) rfl (by exact rfl)) ?_
     refine r_nil ?_
     refine r_again (k + 1) ?_ ?_ ?_
     ·first | omega | (dsimp only; omega)
     ·refine ⟨_, (by first | exact rfl | exact congrArg (Value.int _) (by omega) | exact congrArg (Value.int _) (by dsimp only; omega) | exact congrArg (Value.int _) (by simp) | exact congrArg S (by simp)), (by first | assumption | omega | (dsimp only; omega) | (simp; done)), hmb5, (by first | exact cut_yes hks (by omega) hc18 | exact cut_no hks (by omega) hc18), (by first | assumption | omega | (dsimp only; omega) | (simp; done)), hV⟩
     ·repeat (first | (with_reducible exact Agree.merge _ _ _) | (with_reducible exact Agree.refl _ _) | (with_reducible refine Agree.upd ?_ _ _ rfl) | ((with_reducible refine Agree.inner ?_ ?_); (kernel_rfl)))
   ·skip
    refine r_exit rfl ?_
    refine r_seq ?_
    refine r_region ?_
    refine r_op rfl rfl rfl (run_mv (v := .map _) rfl (by exact rfl)) ?_
    refine r_opcall rfl rfl rfl (run_callf (vs := [.map _]) rfl (by exact rfl) Try.func73 rfl (by kernel_rfl)) (sorted_calls hmb5 (key_len hks (fun k => ends_ifbd hbe k) (by rw [lowS_len]; omega)) (by have h9 := key_cnt hks (foldF_sorted _ _ _ _); have h8 := foldF_len (fun _ => true) (lowS p) fwd ((if q = [] then ([] : List Ende) else endsL c q).take k); have h7 : ((if q = [] then ([] : List Ende) else endsL c q).take k).length ≤ (if q = [] then ([] : List Ende) else endsL c q).length := List.length_take_le' _ _; have h6 := ends_iflen hen; omega)) ?_
    rintro e w20 ⟨vs20, rfl, hE20, hsr20⟩
    refine ⟨_, rfl, ?_⟩
    have hs_w20 := (hE20).size
    replace hV := evo_step0 hV hE20
    replace hc := hc0.now hV
    replace hmb5 := hmb5.evo0 hE20
    refine r_op rfl rfl rfl (run_asg (v := vs20) rfl (by exact rfl)) ?_
    refine r_nil ?_
    refine r_ret (res1 (v := vs20) rfl (by exact rfl)) ?_
    obtain ⟨ao9, g9, cp9, hv9, hr9, _⟩ := hsr20.rowOf
    have e9 : sortS (m.map (·.1)) = formsC c p q := by rw [hks.sorted (foldF_sorted _ _ _ _), forms_if (by assumption), List.take_of_length_le (by omega)]
    rw [e9] at hv9 hr9
    exact ⟨_, g9, 0, cp9, by rw [hv9], hV, hr9⟩

end Go.Proofs.Ytomklacppmaljaa

namespace Go.Proofs.Ytomklacppmaljaa
open Go.RowKit Go.Vc

theorem scut_yes {s : Str} {E : List Ende} {k : Nat} {m : List (Str × Unit)} (h : KeyIs m (foldF isLow s bwd (E.take k))) (hk : k < E.length) (h1 : ((decide ((E.getD k default).add <:+ s) = true ∧ ¬ (if (E.getD k default).add <:+ s then s.take (s.length - (E.getD k default).add.length) else s) ++ (E.getD k default).strip = []) ∧ lowS ((if (E.getD k default).add <:+ s then s.take (s.length - (E.getD k default).add.length) else s) ++ (E.getD k default).strip) = (if (E.getD k default).add <:+ s then s.take (s.length - (E.getD k default).add.length) else s) ++ (E.getD k default).strip)) :
    KeyIs (setM m ((if (E.getD k default).add <:+ s then s.take (s.length - (E.getD k default).add.length) else s) ++ (E.getD k default).strip) ()) (foldF isLow s bwd (E.take (k + 1))) := by
  have hs := of_decide_eq_true h1.1.1
  rw [if_pos hs] at h1 ⊢
  have e : turnL s (bwd (E.getD k default)).1 (bwd (E.getD k default)).2 = some (s.take (s.length - (E.getD k default).add.length) ++ (E.getD k default).strip) := if_pos hs
  have h2 := fold_yes (ok := isLow) (s := s) (b := bwd) hk ⟨by rw [e]; rfl, by rw [e]; exact h1.1.2⟩ (by rw [e]; exact decide_eq_true h1.2)
  rw [e] at h2
  rw [h2]
  exact h.add _
theorem scut_no {s : Str} {E : List Ende} {k : Nat} {m : List (Str × Unit)} (h : KeyIs m (foldF isLow s bwd (E.take k))) (hk : k < E.length) (h1 : ¬ ((decide ((E.getD k default).add <:+ s) = true ∧ ¬ (if (E.getD k default).add <:+ s then s.take (s.length - (E.getD k default).add.length) else s) ++ (E.getD k default).strip = []) ∧ lowS ((if (E.getD k default).add <:+ s then s.take (s.length - (E.getD k default).add.length) else s) ++ (E.getD k default).strip) = (if (E.getD k default).add <:+ s then s.take (s.length - (E.getD k default).add.length) else s) ++ (E.getD k default).strip)) :
    KeyIs m (foldF isLow s bwd (E.take (k + 1))) := by
  rw [fold_no (ok := isLow) (s := s) (b := bwd) hk]
  · exact h
  · intro h2
    by_cases hs : (E.getD k default).add <:+ s
    · have e : turnL s (bwd (E.getD k default)).1 (bwd (E.getD k default)).2 = some (s.take (s.length - (E.getD k default).add.length) ++ (E.getD k default).strip) := if_pos hs
      rw [e] at h2
      exact h1 (by rw [if_pos hs]; exact ⟨⟨decide_eq_true hs, h2.1.2⟩, of_decide_eq_true h2.2⟩)
    · have e : turnL s (bwd (E.getD k default)).1 (bwd (E.getD k default)).2 = none := if_neg hs
      rw [e] at h2
      exact absurd h2.1.1 (by simp)
theorem skey_len {m : List (Str × Unit)} {ok : Str → Bool} {s : Str} {E : List Ende} {k : Nat} (h : KeyIs m (foldF ok s bwd (E.take k))) (hb : ∀ k, BdE (E.getD k default)) (hs : s.length ≤ 4000) : ∀ p ∈ m, p.1.length ≤ maxLen := fun p hp => by
  have h1 := (h.2 p.1).1 (List.mem_map.2 ⟨p, hp, rfl⟩)
  unfold maxLen
  rcases foldF_mem.1 h1 with h2 | ⟨_, _, x, hx, h2⟩
  · rw [h2]; omega
  · have h3 := turn_len s (bwd x).1 (bwd x).2
    rw [h2] at h3
    obtain ⟨i, hi, rfl⟩ := List.mem_iff_getElem.1 (List.mem_of_mem_take hx)
    have h4 := (hb i).1
    have e : E.getD i default = E[i] := by simp [List.getD, hi]
    rw [e] at h4
    have h5 : p.1.length ≤ s.length + E[i].strip.length := h3
    omega
theorem stems_nil {c : List Clas} {p q : Str} (h : lowS p = []) : stemsC c q p = [] := by unfold stemsC; rw [if_pos (lowS_nil.1 h)]
theorem stems_if {c : List Clas} {p q : Str} (h : ¬ lowS p = []) : stemsC c q p = foldF isLow (lowS p) bwd (if q = [] then [] else endsL c q) := by unfold stemsC; rw [if_neg (fun e => h (lowS_nil.2 e))]

theorem stems_calls {ao : Option Addr} {b off cap : Nat} {c : List Clas} {p q : Str} {w0 : World} (hc : RowR w0 ao b off cap c) (hen : (endsL c q).length ≤ 4398046510976) (hbe : ∀ k, BdE ((endsL c q).getD k default)) (hp : p.length ≤ 4000) (hq : q.length ≤ 140737488355328) :
    Calls Try.prog 31 #[.slice ao c.length cap, S q, S p] w0 fun e w' => ∃ ao' b' off' cap', e = .returned (.slice ao' (stemsC c q p).length cap') ∧ Evo w0 w' [] ∧ RowE w' ao' b' off' cap' (stemsC c q p) := by
 refine calls_enter (n := 58) (args := [.slice ao c.length cap, S q, S p]) Try.func31 rfl Try.ntmps31 rfl ?_
 have hV : Evo w0 w0 [] := Evo.refl _ _
 have hc0 := hc.keep
 have hbd_hc := hc.bd
 refine r_seq ?_
 refine r_region ?_
 refine r_op rfl rfl rfl (run_asg (v := .slice _ _ _) rfl (by exact rfl)) ?_
 refine r_nil ?_
 refine r_seq ?_
 refine r_region ?_
 refine r_op rfl rfl rfl (run_mv (v := S _) rfl (by exact rfl)) ?_
 refine r_opcall rfl rfl rfl (run_callf (vs := [S _]) rfl (by exact rfl) Try.func70 rfl (by kernel_rfl)) (lower_calls (by first | omega | (simp; omega))) ?_
 rintro e w1 ⟨rfl, hE1⟩
 refine ⟨_, rfl, ?_⟩
 have hs_w1 := (hE1).size
 replace hV := evo_step0 hV hE1
 replace hc := hc0.now hV
 refine r_op rfl rfl rfl (run_asg (v := S _) rfl (by exact rfl)) ?_
 refine r_nil ?_
 refine r_seq ?_
 refine r_seq ?_
 refine r_region ?_
 refine r_op rfl rfl rfl (run_mv (v := S _) rfl (by exact rfl)) ?_
 refine r_op rfl rfl rfl (run_seql rfl (by exact rfl) (by exact rfl)) ?_
 refine r_nil ?_
 refine r_cond (by exact rfl) (fun hc2 => ?_) (fun hc2 => ?_)
 ·skip
  refine r_seq ?_
  refine r_region ?_
  refine r_op rfl rfl rfl (run_asg (v := .slice _ _ _) rfl (by exact rfl)) ?_
  refine r_nil ?_
  refine r_ret (res1 (v := .slice _ _ _) rfl (by exact rfl)) ?_
  exact ⟨none, 0, 0, 0, by rw [stems_nil hc2]; rfl, hV, by rw [stems_nil hc2]; exact RowE.nil _ _ _ _ _⟩
 ·skip
  refine r_skip ?_
  refine r_seq ?_
  refine r_region ?_
  refine r_makeMap (α := Str) (β := Unit) S (fun _ : Unit => Value.agg #[]) rfl ?_
  intro b3 w4 heb3 hEw4 hmb3 hzb3
  have hs_w4 := (hEw4).size
  replace hV := evo_step0 hV hEw4
  replace hc := hc0.now hV
  refine r_op rfl rfl rfl (run_mv (v := S _) rfl (by exact rfl)) ?_
  refine r_op rfl rfl rfl (run_bld (pv := []) (zs := []) (cells := []) rfl ty_106 (by exact rfl) pl_106 (by exact rfl) (by exact rfl)) ?_
  refine r_mapins (a := _) (v := ()) (key_str Try.underlying9) Try.underlying107 (by exact rfl) (by exact rfl) (by exact rfl) hmb3 ?_
  intro w5 hEw5 hzw5 hm_new
  have hs_w5 := (hEw5).size
  replace hV := evo_step1 hV hEw5 (by first | exact .inl (by omega) | exact .inr (by simp))
  replace hc := hc0.now hV
  replace hmb3 := hm_new
  clear hm_new
  refine r_op rfl rfl rfl (run_mv (v := .map _) rfl (by exact rfl)) ?_
  refine r_op rfl rfl rfl (run_asg (v := .map _) rfl (by exact rfl)) ?_
  refine r_nil ?_
  refine r_seq ?_
  refine r_seq ?_
  refine r_region ?_
  refine r_op rfl rfl rfl (run_mv (v := .slice _ _ _) rfl (by exact rfl)) ?_
  refine r_op rfl rfl rfl (run_mv (v := S _) rfl (by exact rfl)) ?_
  refine r_opcall rfl rfl rfl (run_callf (vs := [.slice _ _ _, S _]) rfl (by exact rfl) Try.func71 rfl (by kernel_rfl)) (ends_calls hc0 hV) ?_
  rintro e w6 ⟨ao6, b6, off6, cap6, rfl, hE6, hr60⟩
  refine ⟨_, rfl, ?_⟩
  have hs_w6 := (hE6).size
  replace hV := evo_step0 hV hE6
  replace hc := hc0.now hV
  replace hmb3 := hmb3.evo0 hE6
  have hr6 := hr60 _ hV
  have hbd_hr6 := hr6.bd
  refine r_op rfl rfl rfl (run_lenSl rfl (by exact rfl) Try.underlying41) ?_
  refine r_op rfl rfl rfl (run_mv (v := .int _ _) rfl (by exact rfl)) ?_
  refine r_nil ?_
  refine r_block ?_
  refine r_loop (α := Nat) [10, 11, 12, 13, 26, 27, 28, 29, 30, 31, 32, 33, 34, 35, 36, 37, 38, 39, 40, 41, 42, 43, 44, 45, 46, 47, 48, 49, 50, 51, 52, 53, 54, 55] (fun k g w => ∃ m : List (Str × Unit), g 26 = .int .i64 (k : Nat) ∧ k ≤ (if q = [] then ([] : List Ende) else endsL c q).length ∧ MapIs w b3 S (fun _ : Unit => Value.agg #[]) m ∧ KeyIs m (foldF isLow (lowS p) bwd ((if q = [] then ([] : List Ende) else endsL c q).take k)) ∧ w6.heap.size ≤ w.heap.size ∧ Evo w0 w []) (fun k => (if q = [] then ([] : List Ende) else endsL c q).length - k) 0 ?_ ?_
  ·refine ⟨_, (by first | exact rfl | exact congrArg (Value.int _) (by omega) | exact congrArg (Value.int _) (by dsimp only; omega) | exact congrArg (Value.int _) (by simp) | exact congrArg S (by simp)), (by first | assumption | omega | (dsimp only; omega) | (simp; done)), hmb3, (KeyIs.one _), (by first | assumption | omega | (dsimp only; omega) | (simp; done)), hV⟩
  ·rintro k g w8 ⟨m, hj9, hk_k, hmb3, hks, hzl7, hV⟩
   have hs_w8hV := hV.size
   have hlt10 := hmb3.lt
   replace hc := hc0.now hV
   replace hr6 := hr60 _ hV
   refine r_know (i := 26) (v := .int .i64 (k : Nat)) (by exact hj9) ?_
   have hbk := ends_ifbd hbe k
   have hb1 := hbk.1
   have hb2 := hbk.2
   have hcl := cut_len (lowS p) ((if q = [] then ([] : List Ende) else endsL c q).getD k default).add
   have hlw := lowS_len p
   refine r_seq ?_
   refine r_region ?_
   refine r_op rfl rfl rfl (run_lss rfl (by exact rfl) (by exact rfl)) ?_
   refine r_nil ?_
   refine r_seq ?_
   refine r_cond (by exact rfl) (fun hc11 => ?_) (fun hc11 => ?_)
   ·skip
    refine r_skip ?_
    refine r_seq ?_
    refine r_block ?_
    refine r_seq ?_
    refine r_region ?_
    refine r_op rfl rfl rfl (run_ix (k) rfl Try.underlying41 ty_46 (by exact rfl) (by exact rfl) (by first | exact rfl | omega) (by omega) (hr6.addr (i := k) (by omega))) ?_
    have hA120 := fun (w' : World) (h : Evo w0 w' []) => (hr60 w' h).atD (k) (by omega)
    have hA12 := hA120 _ hV
    refine r_op rfl rfl rfl (run_ldN rfl ag_46 ty_46 (by exact rfl) rfl hA12) ?_
    refine r_var (zs := [_, _]) (vs := [_, _]) ty_46 (by exact rfl) rfl (by exact rfl) (fun _ => rfl) (by exact rfl) rfl rfl (by exact rfl) ?_
    intro b13 w14 heb13 hEw14 hbb13 hzb13
    have hs_w14 := (hEw14).size
    replace hV := evo_step0 hV hEw14
    replace hc := hc0.now hV
    replace hmb3 := hmb3.evo0 hEw14
    have hAb13 := hbb13.at
    refine r_nil ?_
    refine r_seq ?_
    refine r_region ?_
    refine r_op rfl rfl rfl (run_mv (v := S _) rfl (by exact rfl)) ?_
    refine r_op rfl rfl rfl (run_fa rfl (by exact rfl) fo_46_1) ?_
    refine r_op rfl rfl rfl (run_ld1 rfl ag_9 (by exact rfl) (hAb13.cell 1 (by exact rfl))) ?_
    refine r_opcall rfl rfl rfl (run_callf (vs := [S _, S _]) rfl (by exact rfl) Try.func72 rfl (by kernel_rfl)) (s_cs_calls (by first | omega | (simp; omega)) (by first | omega | (simp; omega))) ?_
    rintro e w15 ⟨rfl, hE15⟩
    refine ⟨_, rfl, ?_⟩
    have hs_w15 := (hE15).size
    replace hV := evo_step0 hV hE15
    replace hc := hc0.now hV
    replace hmb3 := hmb3.evo0 hE15
    replace hbb13 := hbb13.evo0 hE15
    replace hAb13 := hAb13.evo0 hE15
    refine r_op rfl rfl rfl (run_mv (v := .tuple _) rfl (by exact rfl)) ?_
    refine r_op rfl rfl rfl (run_extract (v := S _) rfl (by exact rfl) (by exact rfl)) ?_
    refine r_op rfl rfl rfl (run_extract (v := .bool _) rfl (by exact rfl) (by exact rfl)) ?_
    refine r_op rfl rfl rfl (run_asg (v := S _) rfl (by exact rfl)) ?_
    refine r_op rfl rfl rfl (run_asg (v := .bool _) rfl (by exact rfl)) ?_
    refine r_nil ?_
    refine r_seq ?_
    refine r_region ?_
    refine r_op rfl rfl rfl (run_mv (v := S _) rfl (by exact rfl)) ?_
    refine r_op rfl rfl rfl (run_fa rfl (by exact rfl) fo_46_0) ?_
    refine r_op rfl rfl rfl (run_ld1 rfl ag_9 (by exact rfl) (hAb13.cell 0 (by exact rfl))) ?_
    refine r_op rfl rfl rfl (run_sadd rfl (by exact rfl) (by exact rfl) (by first | omega | (simp; omega))) ?_
    refine r_op rfl rfl rfl (run_asg (v := S _) rfl (by exact rfl)) ?_
    refine r_nil ?_
    refine r_seq ?_
    have hap : ((if ((if q = [] then ([] : List Ende) else endsL c q).getD k default).add <:+ lowS p then (lowS p).take ((lowS p).length - ((if q = [] then ([] : List Ende) else endsL c q).getD k default).add.length) else lowS p) ++ ((if q = [] then ([] : List Ende) else endsL c q).getD k default).strip).length ≤ 140737488355328 := by rw [List.length_append]; omega
    refine r_region ?_
    refine r_op rfl rfl rfl (run_mvb rfl (by exact rfl)) ?_
    refine r_op rfl rfl rfl (run_mv (v := .bool _) rfl (by exact rfl)) ?_
    refine r_g rfl (wantT (by exact rfl)) rfl (fun hg => run_mv (v := S _) rfl (by exact rfl)) ?_
    refine r_g rfl (wantT (by exact rfl)) rfl (fun hg => run_sneq rfl (glv (by exact rfl) (fun h => h) hg) (by exact rfl)) ?_
    refine r_op rfl rfl rfl (run_pick_and rfl (by exact rfl) (fun hq => glv (by exact rfl) (fun h => h) hq) rfl) ?_
    refine r_op rfl rfl rfl (run_mv (v := .bool _) rfl (by exact rfl)) ?_
    refine r_g rfl (wantT (by exact rfl)) rfl (fun hg => run_mv (v := S _) rfl (by exact rfl)) ?_
    refine r_gcall rfl (wantT (by exact rfl)) rfl (fun hg => run_callf rfl (argcons (v := S _) (glv (by exact rfl) (fun h => h) hg) (rfl)) Try.func70 rfl (by kernel_rfl)) (fun hg => (lower_calls (by first | omega | (simp; omega))).mono (fun e w' h => ⟨h.1, h.2⟩)) (fun w16 hE17 => ?_)
    have hs_w16 := (hE17).size
    replace hV := evo_step0 hV hE17
    replace hc := hc0.now hV
    replace hmb3 := hmb3.evo0 hE17
    refine r_g rfl (wantT (by exact rfl)) rfl (fun hg => run_mv (v := S _) rfl (by exact rfl)) ?_
    refine r_g rfl (wantT (by exact rfl)) rfl (fun hg => run_seql rfl (glv (by exact rfl) (fun h => h) hg) (glv (by exact rfl) (fun h => h) hg)) ?_
    refine r_op rfl rfl rfl (run_pick_and rfl (by exact rfl) (fun hq => glv (by exact rfl) (fun h => h) hq) rfl) ?_
    refine r_nil ?_
    refine r_cond (by exact rfl) (fun hc18 => ?_) (fun hc18 => ?_)
    ·skip
     refine r_region ?_
     refine r_op rfl rfl rfl (run_mv (v := .map _) rfl (by exact rfl)) ?_
     refine r_op rfl rfl rfl (run_mv (v := S _) rfl (by exact rfl)) ?_
     refine r_op rfl rfl rfl (run_bld (pv := []) (zs := []) (cells := []) rfl ty_106 (by exact rfl) pl_106 (by exact rfl) (by exact rfl)) ?_
     refine r_mapset (a := _) (v := ()) (key_str Try.underlying9) Try.underlying107 (by exact rfl) (by exact rfl) (by exact rfl) hmb3 ?_
     intro w19 hEw19 hzw19 hm_new
     have hs_w19 := (hEw19).size
     replace hV := evo_step1 hV hEw19 (by first | exact .inl (by omega) | exact .inr (by simp))
     replace hc := hc0.now hV
     replace hmb3 := hm_new
     clear hm_new
     refine r_nil ?_
     refine r_blk ?_
     refine r_region ?_
     refine r_op rfl rfl rfl (run_add rfl (by exact rfl) (by exact rfl) (by omega) (by omega)) ?_
     refine r_op rfl rfl rfl (run_mv (v := .int _ _) rfl (by exact rfl)) ?_
     refine r_nil ?_
     refine r_again (k + 1) ?_ ?_ ?_
     ·first | omega | (dsimp only; omega)
     ·refine ⟨_, (by first | exact rfl | exact congrArg (Value.int _) (by omega) | exact congrArg (Value.int _) (by dsimp only; omega) | exact congrArg (Value.int _) (by simp) | exact congrArg S (by simp)), (by first | assumption | omega | (dsimp only; omega) | (simp; done)), hmb3, (by first | exact scut_yes hks (by omega) hc18 | exact scut_no hks (by omega) hc18), (by first | assumption | omega | (dsimp only; omega) | (simp; done)), hV⟩
     ·repeat (first | (with_reducible exact Agree.merge _ _ _) | (with_reducible exact Agree.refl _ _) | (with_reducible refine Agree.upd ?_ _ _ rfl) | ((with_reducible refine Agree.inner ?_ ?_); (kernel_rfl)))
    ·skip
     refine r_skip ?_
     refine r_blk ?_
     refine r_region ?_
     refine r_op rfl rfl rfl (run_add rfl (by exact rfl) (by exact rfl) (by omega) (by omega)) ?_
     refine r_op rfl rfl rfl (run_mv (v := .int _ _) rfl (by exact rfl)) ?_
     refine r_nil ?_
     refine r_again (k + 1) ?_ ?_ ?_
     ·first | omega | (dsimp only; omega)
     ·refine ⟨_, (by first | exact rfl | exact congrArg (Value.int _) (by omega) | exact congrArg (Value.int _) (by dsimp only; omega) | exact congrArg (Value.int _) (by simp) | exact congrArg S (by simp)), (by first | assumption | omega | (dsimp only; omega) | (simp; done)), hmb3, (by first | exact scut_yes hks (by omega) hc18 | exact scut_no hks (by omega) hc18), (by first | assumption | omega | (dsimp only; omega) | (simp; done)), hV⟩
     ·repeat (first | (with_reducible exact Agree.merge _ _ _) | (with_reducible exact Agree.refl _ _) | (with_reducible refine Agree.upd ?_ _ _ rfl) | ((with_reducible refine Agree.inner ?_ ?_); (kernel_rfl)))
   ·skip
    refine r_exit rfl ?_
    refine r_seq ?_
    refine r_region ?_
    refine r_op rfl rfl rfl (run_mv (v := .map _) rfl (by exact rfl)) ?_
    refine r_opcall rfl rfl rfl (run_callf (vs := [.map _]) rfl (by exact rfl) Try.func73 rfl (by kernel_rfl)) (sorted_calls hmb3 (skey_len hks (fun k => ends_ifbd hbe k) (by rw [lowS_len]; omega)) (by have h9 := key_cnt hks (foldF_sorted _ _ _ _); have h8 := foldF_len isLow (lowS p) bwd ((if q = [] then ([] : List Ende) else endsL c q).take k); have h7 : ((if q = [] then ([] : List Ende) else endsL c q).take k).length ≤ (if q = [] then ([] : List Ende) else endsL c q).length := List.length_take_le' _ _; have h6 := ends_iflen hen; omega)) ?_
    rintro e w20 ⟨vs20, rfl, hE20, hsr20⟩
    refine ⟨_, rfl, ?_⟩
    have hs_w20 := (hE20).size
    replace hV := evo_step0 hV hE20
    replace hc := hc0.now hV
    replace hmb3 := hmb3.evo0 hE20
    refine r_op rfl rfl rfl (run_asg (v := vs20) rfl (by exact rfl)) ?_
    refine r_nil ?_
    refine r_ret (res1 (v := vs20) rfl (by exact rfl)) ?_
    obtain ⟨ao9, g9, cp9, hv9, hr9, _⟩ := hsr20.rowOf
    have e9 : sortS (m.map (·.1)) = stemsC c q p := by rw [hks.sorted (foldF_sorted _ _ _ _), stems_if (by assumption), List.take_of_length_le (by omega)]
    rw [e9] at hv9 hr9
    exact ⟨_, g9, 0, cp9, by rw [hv9], hV, hr9⟩

end Go.Proofs.Ytomklacppmaljaa

namespace Go.Proofs.Ytomklacppmaljaa
open Go.RowKit Go.Vc

theorem take_bothI {α : Type} [Inhabited α] {a b : List α} {k : Nat} (hp : a.take k = b.take k) (ha : k < a.length) (hb : k < b.length) (h : a.getD k default = b.getD k default) : a.take (k + 1) = b.take (k + 1) := by
  rw [take_succD a k ha, take_succD b k hb, hp, h]

theorem sametexts_calls {aoa aob : Option Addr} {ba offa capa bb offb capb : Nat} {a b : List Str} {w0 : World} (ha : RowE w0 aoa ba offa capa a) (hb : RowE w0 aob bb offb capb b) :
    Calls Try.prog 28 #[.slice aoa a.length capa, .slice aob b.length capb] w0 fun e w' => e = .returned (.bool (decide (a = b))) ∧ Evo w0 w' [] := by
 refine calls_enter (n := 26) (args := [.slice aoa a.length capa, .slice aob b.length capb]) Try.func28 rfl Try.ntmps28 rfl ?_
 have hV : Evo w0 w0 [] := Evo.refl _ _
 have ha0 := keepE ha
 have hbd_ha := ha.bd
 have hb0 := keepE hb
 have hbd_hb := hb.bd
 refine r_seq ?_
 refine r_region ?_
 refine r_op rfl rfl rfl (run_asg (v := .bool _) rfl (by exact rfl)) ?_
 refine r_nil ?_
 refine r_seq ?_
 refine r_seq ?_
 refine r_region ?_
 refine r_op rfl rfl rfl (run_mv (v := .slice _ _ _) rfl (by exact rfl)) ?_
 refine r_op rfl rfl rfl (run_lenSl rfl (by exact rfl) Try.underlying34) ?_
 refine r_op rfl rfl rfl (run_mv (v := .slice _ _ _) rfl (by exact rfl)) ?_
 refine r_op rfl rfl rfl (run_lenSl rfl (by exact rfl) Try.underlying34) ?_
 refine r_op rfl rfl rfl (run_neq rfl (by exact rfl) (by exact rfl)) ?_
 refine r_nil ?_
 refine r_cond (by exact rfl) (fun hc1 => ?_) (fun hc1 => ?_)
 ·skip
  refine r_seq ?_
  refine r_region ?_
  refine r_op rfl rfl rfl (run_asg (v := .bool _) rfl (by exact rfl)) ?_
  refine r_nil ?_
  refine r_ret (res1 (v := .bool _) rfl (by exact rfl)) ?_
  exact ⟨by rw [decide_eq_false (fun h => by subst h; omega)], hV⟩
 ·skip
  refine r_skip ?_
  refine r_seq ?_
  refine r_seq ?_
  refine r_region ?_
  refine r_op rfl rfl rfl (run_mv (v := .slice _ _ _) rfl (by exact rfl)) ?_
  refine r_op rfl rfl rfl (run_lenSl rfl (by exact rfl) Try.underlying34) ?_
  refine r_op rfl rfl rfl (run_mv (v := .int _ _) rfl (by exact rfl)) ?_
  refine r_nil ?_
  refine r_block ?_
  refine r_loop (α := Nat) [4, 5, 13, 14, 15, 16, 17, 18, 19, 20, 21, 22, 23, 24, 25] (fun k g w => g 13 = .int .i64 (k : Nat) ∧ k ≤ a.length ∧ a.take k = b.take k ∧ w0.heap.size ≤ w.heap.size ∧ Evo w0 w []) (fun k => a.length - k) 0 ?_ ?_
  ·refine ⟨(by first | exact rfl | exact congrArg (Value.int _) (by omega) | exact congrArg (Value.int _) (by dsimp only; omega) | exact congrArg (Value.int _) (by simp) | exact congrArg S (by simp)), (by first | assumption | omega | (dsimp only; omega) | (simp; done)), (by simp), (by first | assumption | omega | (dsimp only; omega) | (simp; done)), hV⟩
  ·rintro k g w3 ⟨hj4, hk_k, hpre, hzl2, hV⟩
   have hs_w3hV := hV.size
   replace ha := ha0 _ hV
   replace hb := hb0 _ hV
   refine r_know (i := 13) (v := .int .i64 (k : Nat)) (by exact hj4) ?_
   refine r_seq ?_
   refine r_region ?_
   refine r_op rfl rfl rfl (run_lss rfl (by exact rfl) (by exact rfl)) ?_
   refine r_nil ?_
   refine r_seq ?_
   refine r_cond (by exact rfl) (fun hc5 => ?_) (fun hc5 => ?_)
   ·skip
    refine r_skip ?_
    refine r_seq ?_
    refine r_block ?_
    refine r_seq ?_
    refine r_region ?_
    refine r_op rfl rfl rfl (run_mv (v := .int _ _) rfl (by exact rfl)) ?_
    refine r_op rfl rfl rfl (run_asg (v := .int _ _) rfl (by exact rfl)) ?_
    refine r_nil ?_
    refine r_seq ?_
    refine r_qregion (by kernel_rfl) (by kernel_rfl) ?_
    refine q_op rfl rfl rfl (fun w' hC => run_mv (v := .slice _ _ _) rfl (by exact rfl)) ?_
    refine q_op rfl rfl rfl (fun w' hC => run_mv (v := .int _ _) rfl (by exact rfl)) ?_
    refine q_op rfl rfl rfl (fun w' hC => run_ix (k) rfl Try.underlying34 ty_9 (by exact rfl) (by exact rfl) (by first | exact rfl | omega) (by omega) (ha.addr (i := k) (by omega))) ?_
    have hA60 := fun (w' : World) (h : Evo w0 w' []) => (ha0 w' h).atD (k) (by omega)
    have hA6 := hA60 _ hV
    refine q_op rfl rfl rfl (fun w' hC => run_ld1 rfl ag_9 (by exact rfl) ((hA6.evo0 hC).cell 0 (by exact rfl))) ?_
    refine q_op rfl rfl rfl (fun w' hC => run_mv (v := .slice _ _ _) rfl (by exact rfl)) ?_
    refine q_op rfl rfl rfl (fun w' hC => run_mv (v := .int _ _) rfl (by exact rfl)) ?_
    refine q_op rfl rfl rfl (fun w' hC => run_ix (k) rfl Try.underlying34 ty_9 (by exact rfl) (by exact rfl) (by first | exact rfl | omega) (by omega) (hb.addr (i := k) (by omega))) ?_
    have hA70 := fun (w' : World) (h : Evo w0 w' []) => (hb0 w' h).atD (k) (by omega)
    have hA7 := hA70 _ hV
    refine q_op rfl rfl rfl (fun w' hC => run_ld1 rfl ag_9 (by exact rfl) ((hA7.evo0 hC).cell 0 (by exact rfl))) ?_
    refine q_op rfl rfl rfl (fun w' hC => run_sneq rfl (by exact rfl) (by exact rfl)) ?_
    refine q_nil (fun w8 hE9 => ?_)
    have hs_w8 := (hE9).size
    replace hV := evo_step0 hV hE9
    replace ha := ha0 _ hV
    replace hb := hb0 _ hV
    refine r_cond (by exact rfl) (fun hc10 => ?_) (fun hc10 => ?_)
    ·skip
     refine r_seq ?_
     refine r_region ?_
     refine r_op rfl rfl rfl (run_asg (v := .bool _) rfl (by exact rfl)) ?_
     refine r_nil ?_
     refine r_ret (res1 (v := .bool _) rfl (by exact rfl)) ?_
     exact ⟨by rw [decide_eq_false (fun h => by subst h; exact hc10 rfl)], hV⟩
    ·skip
     refine r_skip ?_
     refine r_blk ?_
     refine r_region ?_
     refine r_op rfl rfl rfl (run_add rfl (by exact rfl) (by exact rfl) (by omega) (by omega)) ?_
     refine r_op rfl rfl rfl (run_mv (v := .int _ _) rfl (by exact rfl)) ?_
     refine r_nil ?_
     refine r_again (k + 1) ?_ ?_ ?_
     ·first | omega | (dsimp only; omega)
     ·refine ⟨(by first | exact rfl | exact congrArg (Value.int _) (by omega) | exact congrArg (Value.int _) (by dsimp only; omega) | exact congrArg (Value.int _) (by simp) | exact congrArg S (by simp)), (by first | assumption | omega | (dsimp only; omega) | (simp; done)), (take_bothI hpre (by omega) (by omega) (Classical.not_not.1 hc10)), (by first | assumption | omega | (dsimp only; omega) | (simp; done)), hV⟩
     ·repeat (first | (with_reducible exact Agree.merge _ _ _) | (with_reducible exact Agree.refl _ _) | (with_reducible refine Agree.upd ?_ _ _ rfl) | ((with_reducible refine Agree.inner ?_ ?_); (kernel_rfl)))
   ·skip
    refine r_exit rfl ?_
    refine r_seq ?_
    refine r_region ?_
    refine r_op rfl rfl rfl (run_asg (v := .bool _) rfl (by exact rfl)) ?_
    refine r_nil ?_
    refine r_ret (res1 (v := .bool _) rfl (by exact rfl)) ?_
    exact ⟨by rw [decide_eq_true (by rw [List.take_of_length_le (by omega), List.take_of_length_le (by omega)] at hpre; exact hpre)], hV⟩

end Go.Proofs.Ytomklacppmaljaa

namespace Go.Proofs.Ytomklacppmaljaa
open Go.RowKit Go.Vc
theorem pl_33 : placesP Try.prog 33 = some [(0, 1), (1, 1)] := by kernel_rfl
theorem pl_43 : placesP Try.prog 43 = some [(0, 1), (1, 1)] := by kernel_rfl
theorem pl_46 : placesP Try.prog 46 = some [(0, 1), (1, 1)] := by kernel_rfl
theorem ty_33 : tyP Try.prog 33 = some (2, 32, some (.agg #[(.string ⟨#[]⟩), (.string ⟨#[]⟩)])) := by kernel_rfl
def knownC : List Clas := ([⟨[110, 111, 117, 110], ([⟨[], [115]⟩, ⟨[121], [105, 101, 115]⟩] : List Ende)⟩] : List Clas)
theorem known_bd : BdC ⟨[110, 111, 117, 110], ([⟨[], [115]⟩, ⟨[121], [105, 101, 115]⟩] : List Ende)⟩ := by
  refine ⟨by decide, fun y hy => ?_, by decide⟩
  rcases List.mem_cons.1 hy with rfl | hy
  · exact ⟨by decide, by decide⟩
  · rcases List.mem_cons.1 hy with rfl | hy
    · exact ⟨by decide, by decide⟩
    · cases hy
theorem known_forms : formsC knownC [67, 105, 116, 121] [110, 111, 117, 110] = ([[99, 105, 116, 105, 101, 115], [99, 105, 116, 121], [99, 105, 116, 121, 115]] : List Str) := by decide
theorem known_stems : stemsC knownC [110, 111, 117, 110] [99, 105, 116, 105, 101, 115] = ([[99, 105, 116, 105, 101], [99, 105, 116, 105, 101, 115], [99, 105, 116, 121]] : List Str) := by decide
theorem known_ends (k : Nat) : BdE ((endsL knownC [110, 111, 117, 110]).getD k default) := ends_bd (fun x hx => by
  rcases List.mem_cons.1 hx with rfl | hx
  · exact known_bd
  · cases hx) _ k

theorem known_calls  {w0 : World}  :
    Calls Try.prog 23 #[] w0 fun e w' => e = .returned (.bool true) ∧ Evo w0 w' [] := by
 refine calls_enter (n := 18) (args := []) Try.func23 rfl Try.ntmps23 rfl ?_
 have hV : Evo w0 w0 [] := Evo.refl _ _
 refine r_seq ?_
 refine r_region ?_
 refine r_op rfl rfl rfl (run_asg (v := .bool _) rfl (by exact rfl)) ?_
 refine r_nil ?_
 refine r_seq ?_
 refine r_region ?_
 refine r_op rfl rfl rfl (run_bld (pv := [(1, S _)]) (zs := [_, _]) (cells := [_, _]) rfl ty_46 (by exact rfl) pl_46 (by exact rfl) (by exact rfl)) ?_
 refine r_op rfl rfl rfl (run_bld (pv := [(0, S _), (1, S _)]) (zs := [_, _]) (cells := [_, _]) rfl ty_46 (by exact rfl) pl_46 (by exact rfl) (by exact rfl)) ?_
 refine r_bslice (pv := [(0, .agg _), (1, .agg _)]) (zs := [_, _]) (cs := [_, _, _, _]) Try.underlying41 ty_46 (by exact rfl) rfl (by exact rfl) rfl (by exact rfl) ?_
 intro b1 w2 heb1 hEw2 hbb1 hzb1
 have hs_w2 := (hEw2).size
 replace hV := evo_step0 hV hEw2
 have hAb1 := hbb1.at
 have hrb1 : RowE w2 (some ⟨b1, 0, none⟩) b1 0 2 ([⟨[], [115]⟩, ⟨[121], [105, 101, 115]⟩] : List Ende) := rowLit ([⟨[], [115]⟩, ⟨[121], [105, 101, 115]⟩] : List Ende) hbb1 rfl rfl
 refine r_op rfl rfl rfl (run_bld (pv := [(0, S _), (1, .slice (some ⟨b1, 0, none⟩) _ _)]) (zs := [_, _]) (cells := [_, _]) rfl ty_43 (by exact rfl) pl_43 (by exact rfl) (by exact rfl)) ?_
 refine r_bslice (pv := [(0, .agg _)]) (zs := [_, _]) (cs := [_, _]) Try.underlying22 ty_43 (by exact rfl) rfl (by exact rfl) rfl (by exact rfl) ?_
 intro b3 w4 heb3 hEw4 hbb3 hzb3
 have hs_w4 := (hEw4).size
 replace hV := evo_step0 hV hEw4
 replace hrb1 := hrb1.evo0 hEw4
 have hAb3 := hbb3.at
 have hrb3 : RowR w4 (some ⟨b3, 0, none⟩) b3 0 1 knownC := rowLitR [[_, _]] knownC hbb3 rfl (RepL.one (clas_lit hrb1 rfl known_bd)) rfl
 refine r_op rfl rfl rfl (run_asg (v := .slice (some ⟨b3, 0, none⟩) _ _) rfl (by exact rfl)) ?_
 refine r_nil ?_
 refine r_seq ?_
 refine r_region ?_
 refine r_op rfl rfl rfl (run_mv (v := .slice (some ⟨b3, 0, none⟩) _ _) rfl (by exact rfl)) ?_
 refine r_op rfl rfl rfl (run_bld (pv := [(0, S _), (1, S _)]) (zs := [_, _]) (cells := [_, _]) rfl ty_33 (by exact rfl) pl_33 (by exact rfl) (by exact rfl)) ?_
 refine r_opcall rfl rfl rfl (run_callf (vs := [.slice (some ⟨b3, 0, none⟩) _ _, .agg _]) rfl (by exact rfl) Try.func29 rfl (by kernel_rfl)) (forms_calls hrb3 (by decide) known_ends (by decide) (by decide)) ?_
 rintro e w5 ⟨ao5, b5, off5, cap5, rfl, hE5, hr5⟩
 refine ⟨_, rfl, ?_⟩
 have hs_w5 := (hE5).size
 replace hV := evo_step0 hV hE5
 replace hrb1 := hrb1.evo0 hE5
 replace hrb3 := hrb3.evo0 hE5
 refine r_bslice (pv := [(0, S _), (1, S _), (2, S _)]) (zs := [_]) (cs := [_, _, _]) Try.underlying34 ty_9 (by exact rfl) rfl (by exact rfl) rfl (by exact rfl) ?_
 intro b6 w7 heb6 hEw7 hbb6 hzb6
 have hs_w7 := (hEw7).size
 replace hV := evo_step0 hV hEw7
 replace hrb1 := hrb1.evo0 hEw7
 replace hrb3 := hrb3.evo0 hEw7
 replace hr5 := hr5.evo0 hEw7
 have hAb6 := hbb6.at
 have hrb6 : RowE w7 (some ⟨b6, 0, none⟩) b6 0 3 ([[99, 105, 116, 105, 101, 115], [99, 105, 116, 121], [99, 105, 116, 121, 115]] : List Str) := rowLit ([[99, 105, 116, 105, 101, 115], [99, 105, 116, 121], [99, 105, 116, 121, 115]] : List Str) hbb6 rfl rfl
 refine r_opcall rfl rfl rfl (run_callf (vs := [.slice _ _ _, .slice (some ⟨b6, 0, none⟩) _ _]) rfl (by exact rfl) Try.func28 rfl (by kernel_rfl)) (sametexts_calls hr5 hrb6) ?_
 rintro e w8 ⟨rfl, hE8⟩
 refine ⟨_, rfl, ?_⟩
 have hs_w8 := (hE8).size
 replace hV := evo_step0 hV hE8
 replace hrb1 := hrb1.evo0 hE8
 replace hrb3 := hrb3.evo0 hE8
 replace hr5 := hr5.evo0 hE8
 replace hrb6 := hrb6.evo0 hE8
 refine r_op rfl rfl rfl (run_mvb rfl (by exact rfl)) ?_
 refine r_splitL (i := 12) (by exact rfl) (fun hs9 => ?_) (fun hs9 => ?_)
 ·skip
  refine r_guard_yes (by exact rfl) (by exact rfl) ?_
  refine r_op rfl rfl rfl (run_mv (v := .slice (some ⟨b3, 0, none⟩) _ _) rfl (by exact rfl)) ?_
  refine r_guard_yes (by exact rfl) (by exact rfl) ?_
  refine r_opcall rfl rfl rfl (run_callf (vs := [.slice (some ⟨b3, 0, none⟩) _ _, S _, S _]) rfl (by exact rfl) Try.func31 rfl (by kernel_rfl)) (stems_calls hrb3 (by decide) known_ends (by decide) (by decide)) ?_
  rintro e w10 ⟨ao10, b10, off10, cap10, rfl, hE10, hr10⟩
  refine ⟨_, rfl, ?_⟩
  have hs_w10 := (hE10).size
  replace hV := evo_step0 hV hE10
  replace hrb1 := hrb1.evo0 hE10
  replace hrb3 := hrb3.evo0 hE10
  replace hr5 := hr5.evo0 hE10
  replace hrb6 := hrb6.evo0 hE10
  refine r_guard_yes (by exact rfl) (by exact rfl) ?_
  refine r_bslice (pv := [(0, S _), (1, S _), (2, S _)]) (zs := [_]) (cs := [_, _, _]) Try.underlying34 ty_9 (by exact rfl) rfl (by exact rfl) rfl (by exact rfl) ?_
  intro b11 w12 heb11 hEw12 hbb11 hzb11
  have hs_w12 := (hEw12).size
  replace hV := evo_step0 hV hEw12
  replace hrb1 := hrb1.evo0 hEw12
  replace hrb3 := hrb3.evo0 hEw12
  replace hr5 := hr5.evo0 hEw12
  replace hrb6 := hrb6.evo0 hEw12
  replace hr10 := hr10.evo0 hEw12
  have hAb11 := hbb11.at
  have hrb11 : RowE w12 (some ⟨b11, 0, none⟩) b11 0 3 ([[99, 105, 116, 105, 101], [99, 105, 116, 105, 101, 115], [99, 105, 116, 121]] : List Str) := rowLit ([[99, 105, 116, 105, 101], [99, 105, 116, 105, 101, 115], [99, 105, 116, 121]] : List Str) hbb11 rfl rfl
  refine r_guard_yes (by exact rfl) (by exact rfl) ?_
  refine r_opcall rfl rfl rfl (run_callf (vs := [.slice _ _ _, .slice (some ⟨b11, 0, none⟩) _ _]) rfl (by exact rfl) Try.func28 rfl (by kernel_rfl)) (sametexts_calls hr10 hrb11) ?_
  rintro e w13 ⟨rfl, hE13⟩
  refine ⟨_, rfl, ?_⟩
  have hs_w13 := (hE13).size
  replace hV := evo_step0 hV hE13
  replace hrb1 := hrb1.evo0 hE13
  replace hrb3 := hrb3.evo0 hE13
  replace hr5 := hr5.evo0 hE13
  replace hrb6 := hrb6.evo0 hE13
  replace hr10 := hr10.evo0 hE13
  replace hrb11 := hrb11.evo0 hE13
  refine r_op rfl rfl rfl (run_pick_yes (v := .bool true) rfl (by exact rfl) (by exact rfl)) ?_
  refine r_op rfl rfl rfl (run_asg (v := .bool _) rfl (by exact rfl)) ?_
  refine r_nil ?_
  refine r_ret (res1 (v := .bool _) rfl (by exact rfl)) ?_
  exact ⟨ret_bool (decide_eq_true known_stems), hV⟩
 ·skip
  refine r_guard_no (by exact rfl) (by exact rfl) rfl rfl ?_
  refine r_guard_no (by exact rfl) (by exact rfl) rfl rfl ?_
  refine r_guard_no (by exact rfl) (by exact rfl) rfl rfl ?_
  refine r_guard_no (by exact rfl) (by exact rfl) rfl rfl ?_
  refine r_op rfl rfl rfl (run_pick_no (v := .bool _) rfl (by exact rfl) (by exact rfl)) ?_
  refine r_op rfl rfl rfl (run_asg (v := .bool _) rfl (by exact rfl)) ?_
  refine r_nil ?_
  refine r_ret (res1 (v := .bool _) rfl (by exact rfl)) ?_
  exact absurd known_forms (by simpa using hs9)

end Go.Proofs.Ytomklacppmaljaa

namespace Go.Proofs.Ytomklacppmaljaa
open Go.RowKit Go.Vc
theorem ag_23 : aggP Try.prog 23 = some false := by kernel_rfl
theorem ty_23 : tyP Try.prog 23 = some (1, 24, some (.slice none 0 0)) := by kernel_rfl
theorem long_calls {ao : Option Addr} {b off cap : Nat} {ll : List (List Int)} {w0 : World} (hs : RowR w0 ao b off cap ll) (hb : ll.flatten.length ≤ 9000000000000000000) :
    Calls Try.prog 21 #[.slice ao ll.length cap] w0 fun e w' => e = .returned (.bool (decide (ll.flatten.length > 160))) ∧ Evo w0 w' [] := by
 refine calls_enter (n := 19) (args := [.slice ao ll.length cap]) Try.func21 rfl Try.ntmps21 rfl ?_
 have hV : Evo w0 w0 [] := Evo.refl _ _
 have hs0 := hs.keep
 have hbd_hs := hs.bd
 refine r_seq ?_
 refine r_region ?_
 refine r_op rfl rfl rfl (run_asg (v := .bool _) rfl (by exact rfl)) ?_
 refine r_nil ?_
 refine r_seq ?_
 refine r_region ?_
 refine r_op rfl rfl rfl (run_asg (v := .int _ _) rfl (by exact rfl)) ?_
 refine r_nil ?_
 refine r_seq ?_
 refine r_seq ?_
 refine r_region ?_
 refine r_op rfl rfl rfl (run_mv (v := .slice _ _ _) rfl (by exact rfl)) ?_
 refine r_op rfl rfl rfl (run_lenSl rfl (by exact rfl) Try.underlying101) ?_
 refine r_op rfl rfl rfl (run_mv (v := .int _ _) rfl (by exact rfl)) ?_
 refine r_nil ?_
 refine r_block ?_
 refine r_loop (α := Nat) [3, 5, 8, 9, 10, 11, 12, 13, 14, 15, 16] (fun k g w => g 8 = .int .i64 (k : Nat) ∧ g 3 = .int .i64 (((ll.take k).flatten).length : Nat) ∧ k ≤ ll.length ∧ w0.heap.size ≤ w.heap.size ∧ Evo w0 w []) (fun k => ll.length - k) 0 ?_ ?_
 ·refine ⟨(by first | exact rfl | exact congrArg (Value.int _) (by omega) | exact congrArg (Value.int _) (by dsimp only; omega) | exact congrArg (Value.int _) (by simp) | exact congrArg S (by simp)), rfl, (by first | assumption | omega | (dsimp only; omega) | (simp; done)), (by first | assumption | omega | (dsimp only; omega) | (simp; done)), hV⟩
 ·rintro k g w2 ⟨hj3, hj4, hk_k, hzl1, hV⟩
  have hs_w2hV := hV.size
  replace hs := hs0.now hV
  refine r_know (i := 8) (v := .int .i64 (k : Nat)) (by exact hj3) ?_
  refine r_know (i := 3) (v := .int .i64 (((ll.take k).flatten).length : Nat)) (by exact hj4) ?_
  refine r_seq ?_
  refine r_region ?_
  refine r_op rfl rfl rfl (run_lss rfl (by exact rfl) (by exact rfl)) ?_
  refine r_nil ?_
  refine r_seq ?_
  refine r_cond (by exact rfl) (fun hc5 => ?_) (fun hc5 => ?_)
  ·skip
   refine r_skip ?_
   refine r_seq ?_
   refine r_block ?_
   refine r_seq ?_
   refine r_region ?_
   refine r_op rfl rfl rfl (run_ix (k) rfl Try.underlying101 ty_23 (by exact rfl) (by exact rfl) (by first | exact rfl | omega) (by omega) (hs.addr (i := k) (by omega))) ?_
   obtain ⟨ao6, b6, off6, cap6, hX⟩ := sl_atK hs0 (k) (by omega)
   have hA60 := fun (w' : World) (h : Evo w0 w' []) => (hX w' h).1
   have hA6 := hA60 _ hV
   have hR60 := fun (w' : World) (h : Evo w0 w' []) => (hX w' h).2
   have hR6 := hR60 _ hV
   clear hX
   have hbd_hR6 := hR6.bd
   refine r_op rfl rfl rfl (run_ld1 rfl ag_23 (by exact rfl) (hA6.cell 0 (by exact rfl))) ?_
   refine r_op rfl rfl rfl (run_asg (v := .slice _ _ _) rfl (by exact rfl)) ?_
   refine r_nil ?_
   have hf1 := flat_take ll (k + 1); have hf2 : ((ll.take (k + 1)).flatten).length = ((ll.take k).flatten).length + (ll.getD k default).length := by rw [flat_succL ll k (by omega), List.length_append]
   refine r_region ?_
   refine r_op rfl rfl rfl (run_mv (v := .int _ _) rfl (by exact rfl)) ?_
   refine r_op rfl rfl rfl (run_mv (v := .slice _ _ _) rfl (by exact rfl)) ?_
   refine r_op rfl rfl rfl (run_lenSl rfl (by exact rfl) Try.underlying23) ?_
   refine r_op rfl rfl rfl (run_add rfl (by exact rfl) (by exact rfl) (by omega) (by omega)) ?_
   refine r_op rfl rfl rfl (run_asg (v := .int _ _) rfl (by exact rfl)) ?_
   refine r_nil ?_
   refine r_blk ?_
   refine r_region ?_
   refine r_op rfl rfl rfl (run_add rfl (by exact rfl) (by exact rfl) (by omega) (by omega)) ?_
   refine r_op rfl rfl rfl (run_mv (v := .int _ _) rfl (by exact rfl)) ?_
   refine r_nil ?_
   refine r_again (k + 1) ?_ ?_ ?_
   ·first | omega | (dsimp only; omega)
   ·refine ⟨(by first | exact rfl | exact congrArg (Value.int _) (by omega) | exact congrArg (Value.int _) (by dsimp only; omega) | exact congrArg (Value.int _) (by simp) | exact congrArg S (by simp)), (congrArg (Value.int _) (by omega)), (by first | assumption | omega | (dsimp only; omega) | (simp; done)), (by first | assumption | omega | (dsimp only; omega) | (simp; done)), hV⟩
   ·repeat (first | (with_reducible exact Agree.merge _ _ _) | (with_reducible exact Agree.refl _ _) | (with_reducible refine Agree.upd ?_ _ _ rfl) | ((with_reducible refine Agree.inner ?_ ?_); (kernel_rfl)))
  ·skip
   refine r_exit rfl ?_
   refine r_seq ?_
   refine r_region ?_
   refine r_op rfl rfl rfl (run_mv (v := .int _ _) rfl (by exact rfl)) ?_
   refine r_op rfl rfl rfl (run_gtr rfl (by exact rfl) (by exact rfl)) ?_
   refine r_op rfl rfl rfl (run_asg (v := .bool _) rfl (by exact rfl)) ?_
   refine r_nil ?_
   refine r_ret (res1 (v := .bool _) rfl (by exact rfl)) ?_
   exact ⟨ret_bool (by rw [List.take_of_length_le (by omega)]; rw [Bool.eq_iff_iff, decide_eq_true_iff, decide_eq_true_iff]; omega), hV⟩

end Go.Proofs.Ytomklacppmaljaa

namespace Go.Proofs.Ytomklacppmaljaa
open Go.RowKit Go.Vc
theorem ag_3 : aggP Try.prog 3 = some false := by kernel_rfl
theorem fo_89_0 : fieldP Try.prog 89 0 = some 0 := by kernel_rfl
theorem fo_89_1 : fieldP Try.prog 89 1 = some 1 := by kernel_rfl
theorem pl_89 : placesP Try.prog 89 = some [(0, 1), (1, 1)] := by kernel_rfl
theorem ty_3 : tyP Try.prog 3 = some (1, 8, some (.int .i64 0)) := by kernel_rfl
theorem ty_89 : tyP Try.prog 89 = some (2, 32, some (.agg #[(.slice none 0 0), (.int .i64 0)])) := by kernel_rfl
theorem place_calls (x n : Int) {w0 : World} (hn : 1 ≤ n) (hn2 : n ≤ 1000000000) :
    Calls Try.prog 33 #[.int .i64 x, .int .i64 n] w0 fun e w' => e = .returned (.int .i64 (x % n)) ∧ w0 = w' := by
 refine calls_enter (n := 14) (args := [.int .i64 x, .int .i64 n]) Try.func33 rfl Try.ntmps33 rfl ?_
 have hV : Evo w0 w0 [] := Evo.refl _ _
 refine r_seq ?_
 refine r_region ?_
 refine r_op rfl rfl rfl (run_asg (v := .int _ _) rfl (by exact rfl)) ?_
 refine r_nil ?_
 refine r_seq ?_
 refine r_region ?_
 refine r_op rfl rfl rfl (run_mv (v := .int _ _) rfl (by exact rfl)) ?_
 refine r_op rfl rfl rfl (run_mv (v := .int _ _) rfl (by exact rfl)) ?_
 refine r_op rfl rfl rfl (run_rem rfl (by exact rfl) (by exact rfl) (by omega)) ?_
 refine r_op rfl rfl rfl (run_asg (v := .int _ _) rfl (by exact rfl)) ?_
 refine r_nil ?_
 refine r_seq ?_
 refine r_seq ?_
 refine r_region ?_
 refine r_op rfl rfl rfl (run_mv (v := .int _ _) rfl (by exact rfl)) ?_
 refine r_op rfl rfl rfl (run_lss rfl (by exact rfl) (by exact rfl)) ?_
 refine r_nil ?_
 refine r_cond (by exact rfl) (fun hc1 => ?_) (fun hc1 => ?_)
 ·skip
  refine r_region ?_
  refine r_op rfl rfl rfl (run_mv (v := .int _ _) rfl (by exact rfl)) ?_
  refine r_op rfl rfl rfl (run_mv (v := .int _ _) rfl (by exact rfl)) ?_
  refine r_op rfl rfl rfl (run_add rfl (by exact rfl) (by exact rfl) (by have := tmod_bd x n (by omega); omega) (by have := tmod_bd x n (by omega); omega)) ?_
  refine r_op rfl rfl rfl (run_asg (v := .int _ _) rfl (by exact rfl)) ?_
  refine r_nil ?_
  refine r_seq ?_
  refine r_region ?_
  refine r_op rfl rfl rfl (run_mv (v := .int _ _) rfl (by exact rfl)) ?_
  refine r_op rfl rfl rfl (run_asg (v := .int _ _) rfl (by exact rfl)) ?_
  refine r_nil ?_
  refine r_ret (res1 (v := .int _ _) rfl (by exact rfl)) ?_
  exact ⟨ret_int (by rw [← place_neg x n (by omega) (by omega)]), rfl⟩
 ·skip
  refine r_skip ?_
  refine r_seq ?_
  refine r_region ?_
  refine r_op rfl rfl rfl (run_mv (v := .int _ _) rfl (by exact rfl)) ?_
  refine r_op rfl rfl rfl (run_asg (v := .int _ _) rfl (by exact rfl)) ?_
  refine r_nil ?_
  refine r_ret (res1 (v := .int _ _) rfl (by exact rfl)) ?_
  exact ⟨ret_int (by rw [← place_pos x n (by omega) (by omega)]), rfl⟩

theorem next_calls {T bs : Nat} {ao : Option Addr} {b off cap : Nat} {l : List Int} {N : Nat} {n : Int} {w0 : World} (hb : Blk w0 bs T [.slice ao l.length cap, .int .i64 (N : Nat)]) (hl : RowE w0 ao b off cap l) (hN : N ≤ 1000000) (hn : 1 ≤ n) (hn2 : n ≤ 1000000000) :
    Calls Try.prog 67 #[.pointer (some ⟨bs, 0, none⟩), .int .i64 n] w0 fun e w' => e = .returned (.int .i64 (nextL l N n)) ∧ Evo w0 w' [bs] ∧ Blk w' bs T [.slice ao l.length cap, .int .i64 (N + 1 : Nat)] := by
 have hAs := hb.at
 refine calls_enter (n := 36) (args := [.pointer (some ⟨bs, 0, none⟩), .int .i64 n]) Try.func67 rfl Try.ntmps67 rfl ?_
 have hV : Evo w0 w0 [bs] := Evo.refl _ _
 have hbd_hl := hl.bd
 refine r_seq ?_
 refine r_region ?_
 refine r_op rfl rfl rfl (run_asg (v := .int _ _) rfl (by exact rfl)) ?_
 refine r_nil ?_
 refine r_seq ?_
 refine r_region ?_
 refine r_op rfl rfl rfl (run_asg (v := .int _ _) rfl (by exact rfl)) ?_
 refine r_nil ?_
 refine r_seq ?_
 refine r_seq ?_
 refine r_qregion (by kernel_rfl) (by kernel_rfl) ?_
 refine q_op rfl rfl rfl (fun w' hC => run_mv (v := .pointer _) rfl (by exact rfl)) ?_
 refine q_op rfl rfl rfl (fun w' hC => run_nc rfl (by exact rfl)) ?_
 refine q_op rfl rfl rfl (fun w' hC => run_fa rfl (by exact rfl) fo_89_1) ?_
 refine q_op rfl rfl rfl (fun w' hC => run_ld1 rfl ag_3 (by exact rfl) ((hAs.evo0 hC).cell 1 (by exact rfl))) ?_
 refine q_op rfl rfl rfl (fun w' hC => run_mv (v := .pointer _) rfl (by exact rfl)) ?_
 refine q_op rfl rfl rfl (fun w' hC => run_nc rfl (by exact rfl)) ?_
 refine q_op rfl rfl rfl (fun w' hC => run_fa rfl (by exact rfl) fo_89_0) ?_
 refine q_op rfl rfl rfl (fun w' hC => run_ld1 rfl ag_23 (by exact rfl) ((hAs.evo0 hC).cell 0 (by exact rfl))) ?_
 refine q_op rfl rfl rfl (fun w' hC => run_lenSl rfl (by exact rfl) Try.underlying23) ?_
 refine q_op rfl rfl rfl (fun w' hC => run_lss rfl (by exact rfl) (by exact rfl)) ?_
 refine q_nil (fun w1 hE2 => ?_)
 have hs_w1 := (hE2).size
 replace hV := evo_step0 hV hE2
 replace hb := hb.evo0 hE2
 replace hAs := hAs.evo0 hE2
 replace hl := hl.evo0 hE2
 refine r_cond (by exact rfl) (fun hc3 => ?_) (fun hc3 => ?_)
 ·skip
  refine r_qregion (by kernel_rfl) (by kernel_rfl) ?_
  refine q_op rfl rfl rfl (fun w' hC => run_mv (v := .pointer _) rfl (by exact rfl)) ?_
  refine q_op rfl rfl rfl (fun w' hC => run_nc rfl (by exact rfl)) ?_
  refine q_op rfl rfl rfl (fun w' hC => run_fa rfl (by exact rfl) fo_89_0) ?_
  refine q_op rfl rfl rfl (fun w' hC => run_ld1 rfl ag_23 (by exact rfl) ((hAs.evo0 hC).cell 0 (by exact rfl))) ?_
  refine q_op rfl rfl rfl (fun w' hC => run_mv (v := .pointer _) rfl (by exact rfl)) ?_
  refine q_op rfl rfl rfl (fun w' hC => run_nc rfl (by exact rfl)) ?_
  refine q_op rfl rfl rfl (fun w' hC => run_fa rfl (by exact rfl) fo_89_1) ?_
  refine q_op rfl rfl rfl (fun w' hC => run_ld1 rfl ag_3 (by exact rfl) ((hAs.evo0 hC).cell 1 (by exact rfl))) ?_
  refine q_op rfl rfl rfl (fun w' hC => run_ix (N) rfl Try.underlying23 ty_3 (by exact rfl) (by exact rfl) (by first | exact rfl | omega) (by omega) (hl.addr (i := N) (by omega))) ?_
  have hA4 := hl.atD (N) (by omega)
  refine q_op rfl rfl rfl (fun w' hC => run_ld1 rfl ag_3 (by exact rfl) ((hA4.evo0 hC).cell 0 (by exact rfl))) ?_
  refine q_op rfl rfl rfl (fun w' hC => run_asg (v := .int _ _) rfl (by exact rfl)) ?_
  refine q_nil (fun w5 hE6 => ?_)
  have hs_w5 := (hE6).size
  replace hV := evo_step0 hV hE6
  replace hb := hb.evo0 hE6
  replace hAs := hAs.evo0 hE6
  replace hl := hl.evo0 hE6
  refine r_seq ?_
  refine r_region ?_
  refine r_op rfl rfl rfl (run_mv (v := .pointer _) rfl (by exact rfl)) ?_
  refine r_op rfl rfl rfl (run_nc rfl (by exact rfl)) ?_
  refine r_op rfl rfl rfl (run_fa rfl (by exact rfl) fo_89_1) ?_
  refine r_op rfl rfl rfl (run_ld1 rfl ag_3 (by exact rfl) (hAs.cell 1 (by exact rfl))) ?_
  refine r_op rfl rfl rfl (run_add rfl (by exact rfl) (by exact rfl) (by omega) (by omega)) ?_
  refine r_op rfl rfl rfl (run_nc rfl (by exact rfl)) ?_
  refine r_op rfl rfl rfl (run_fa rfl (by exact rfl) fo_89_1) ?_
  refine r_store (v := .int _ _) (vs := [_]) (cs' := [_, _]) (by exact rfl) (by exact rfl) hb ty_3 (by exact rfl) rfl (by exact rfl) rfl (by exact rfl) ?_
  intro w7 hEw7 hzw7 hb_new
  have hs_w7 := (hEw7).size
  replace hV := evo_step1 hV hEw7 (.inr (by simp))
  replace hb := hb_new
  have hAs := hb.at
  clear hb_new
  refine r_nil ?_
  refine r_seq ?_
  refine r_region ?_
  refine r_op rfl rfl rfl (run_mv (v := .int _ _) rfl (by exact rfl)) ?_
  refine r_op rfl rfl rfl (run_mv (v := .int _ _) rfl (by exact rfl)) ?_
  refine r_opcall rfl rfl rfl (run_callf (vs := [.int _ _, .int _ _]) rfl (by exact rfl) Try.func33 rfl (by kernel_rfl)) (place_calls _ _ (by omega) (by omega)) ?_
  rintro e w8 ⟨rfl, rfl⟩
  refine ⟨_, rfl, ?_⟩
  refine r_op rfl rfl rfl (run_asg (v := .int _ _) rfl (by exact rfl)) ?_
  refine r_nil ?_
  refine r_ret (res1 (v := .int _ _) rfl (by exact rfl)) ?_
  exact ⟨ret_int (by first | rfl | (unfold nextL; simp [List.getD, List.getElem?_eq_none (by omega : l.length ≤ N)]; done)), hV, hb⟩
 ·skip
  refine r_skip ?_
  refine r_seq ?_
  refine r_region ?_
  refine r_op rfl rfl rfl (run_mv (v := .pointer _) rfl (by exact rfl)) ?_
  refine r_op rfl rfl rfl (run_nc rfl (by exact rfl)) ?_
  refine r_op rfl rfl rfl (run_fa rfl (by exact rfl) fo_89_1) ?_
  refine r_op rfl rfl rfl (run_ld1 rfl ag_3 (by exact rfl) (hAs.cell 1 (by exact rfl))) ?_
  refine r_op rfl rfl rfl (run_add rfl (by exact rfl) (by exact rfl) (by omega) (by omega)) ?_
  refine r_op rfl rfl rfl (run_nc rfl (by exact rfl)) ?_
  refine r_op rfl rfl rfl (run_fa rfl (by exact rfl) fo_89_1) ?_
  refine r_store (v := .int _ _) (vs := [_]) (cs' := [_, _]) (by exact rfl) (by exact rfl) hb ty_3 (by exact rfl) rfl (by exact rfl) rfl (by exact rfl) ?_
  intro w9 hEw9 hzw9 hb_new
  have hs_w9 := (hEw9).size
  replace hV := evo_step1 hV hEw9 (.inr (by simp))
  replace hb := hb_new
  have hAs := hb.at
  clear hb_new
  refine r_nil ?_
  refine r_seq ?_
  refine r_region ?_
  refine r_op rfl rfl rfl (run_mv (v := .int _ _) rfl (by exact rfl)) ?_
  refine r_op rfl rfl rfl (run_mv (v := .int _ _) rfl (by exact rfl)) ?_
  refine r_opcall rfl rfl rfl (run_callf (vs := [.int _ _, .int _ _]) rfl (by exact rfl) Try.func33 rfl (by kernel_rfl)) (place_calls _ _ (by omega) (by omega)) ?_
  rintro e w10 ⟨rfl, rfl⟩
  refine ⟨_, rfl, ?_⟩
  refine r_op rfl rfl rfl (run_asg (v := .int _ _) rfl (by exact rfl)) ?_
  refine r_nil ?_
  refine r_ret (res1 (v := .int _ _) rfl (by exact rfl)) ?_
  exact ⟨ret_int (by first | rfl | (unfold nextL; simp [List.getD, List.getElem?_eq_none (by omega : l.length ≤ N)]; done)), hV, hb⟩

theorem nx_calls {w0 : World} {T bs : Nat} {ao : Option Addr} {b off cap : Nat} {l : List Int} {N : Nat} {n : Int} (hb : Blk w0 bs T [.slice ao l.length cap, .int .i64 (N : Nat)]) (hl : RowE w0 ao b off cap l) (hN : N ≤ 1000000) (hn : 1 ≤ n) (hn2 : n ≤ 1000000000) :
    Calls Try.prog 67 #[.pointer (some ⟨bs, 0, none⟩), .int .i64 n] w0 fun e w' => ∃ r, e = .returned (.int .i64 r) ∧ (0 ≤ r ∧ r < n) ∧ Evo w0 w' [bs] ∧ Blk w' bs T [.slice ao l.length cap, .int .i64 (N + 1 : Nat)] :=
  (next_calls hb hl hN hn hn2).mono fun e w' ⟨h1, h2, h3⟩ => ⟨_, h1, nextL_bd l N n hn, h2, h3⟩

theorem decimal_calls {n : Nat} {w0 : World} (hn : n < 1000000000) :
    Calls Try.prog 82 #[.int .i64 (n : Nat)] w0 fun e w' => e = .returned (S (decW n [])) ∧ Evo w0 w' [] := by
 have hdl := decW_len 8 n [] (by omega); have hdg := decW_ge
 refine calls_enter (n := 17) (args := [.int .i64 (n : Nat)]) Try.func82 rfl Try.ntmps82 rfl ?_
 have hV : Evo w0 w0 [] := Evo.refl _ _
 refine r_seq ?_
 refine r_region ?_
 refine r_op rfl rfl rfl (run_asg (v := S _) rfl (by exact rfl)) ?_
 refine r_nil ?_
 refine r_seq ?_
 refine r_region ?_
 refine r_op rfl rfl rfl (run_asg (v := S _) rfl (by exact rfl)) ?_
 refine r_nil ?_
 refine r_block ?_
 refine r_loop (α := Nat) [0, 2, 3, 4, 5, 6, 7, 8, 9, 10, 11, 12, 13, 14, 15, 16] (fun m g w => ∃ s1 : Str, g 0 = .int .i64 (m : Nat) ∧ g 3 = S s1 ∧ (m < 1000000000 ∧ s1.length ≤ 20) ∧ decW n [] = decW m s1 ∧ w0.heap.size ≤ w.heap.size ∧ Evo w0 w []) (fun m => m) n ?_ ?_
 ·refine ⟨[], rfl, rfl, (by simp; omega), rfl, (by first | assumption | omega | (dsimp only; omega) | (simp; done)), hV⟩
 ·rintro m g w2 ⟨s1, hj3, hj4, hm, hdw, hzl1, hV⟩
  have hs_w2hV := hV.size
  refine r_know (i := 0) (v := .int .i64 (m : Nat)) (by exact hj3) ?_
  refine r_know (i := 3) (v := S s1) (by exact hj4) ?_
  have hdm := hdg m s1
  have htd := tdiv_ten m
  refine r_block ?_
  refine r_seq ?_
  refine r_region ?_
  refine r_op rfl rfl rfl (run_mv (v := .int _ _) rfl (by exact rfl)) ?_
  refine r_op rfl rfl rfl (run_rem rfl (by exact rfl) (by exact rfl) (by omega)) ?_
  refine r_op rfl rfl rfl (run_add rfl (by exact rfl) (by exact rfl) (by have := tmod_bd (m : Int) 10 (by omega); omega) (by have := tmod_bd (m : Int) 10 (by omega); omega)) ?_
  refine r_op rfl rfl rfl (run_cvInt rfl Try.underlying3 Try.underlying5 (by exact rfl)) ?_
  refine r_bslice (pv := [(0, .int _ _)]) (zs := [_]) (cs := [_]) Try.underlying52 ty_5 (by exact rfl) rfl (by exact rfl) rfl (by exact rfl) ?_
  intro b5 w6 heb5 hEw6 hbb5 hzb5
  have hs_w6 := (hEw6).size
  replace hV := evo_step0 hV hEw6
  have hAb5 := hbb5.at
  have hrb5 : RowE w6 (some ⟨b5, 0, none⟩) b5 0 1 ([UInt8.ofNat (48 + m % 10)] : List UInt8) := rowLit ([UInt8.ofNat (48 + m % 10)] : List UInt8) hbb5 (congrArg (fun z => [Value.int .u8 z]) (dig_wrap (n := m) rfl)) rfl
  refine r_op rfl rfl rfl (run_cvBS rfl Try.underlying52 Try.underlying5 Try.underlying9 (by exact rfl) (by first | rfl | simp) hrb5) ?_
  refine r_op rfl rfl rfl (run_mv (v := S _) rfl (by exact rfl)) ?_
  refine r_op rfl rfl rfl (run_sadd rfl (by exact rfl) (by exact rfl) (by first | omega | (simp; omega))) ?_
  refine r_op rfl rfl rfl (run_asg (v := S _) rfl (by exact rfl)) ?_
  refine r_nil ?_
  refine r_seq ?_
  refine r_region ?_
  refine r_op rfl rfl rfl (run_mv (v := .int _ _) rfl (by exact rfl)) ?_
  refine r_op rfl rfl rfl (run_quo rfl (by exact rfl) (by exact rfl) (by omega) (by have h8 := tdiv_ten m; omega) (by have h8 := tdiv_ten m; omega)) ?_
  refine r_op rfl rfl rfl (run_asg (v := .int _ _) rfl (by exact rfl)) ?_
  refine r_nil ?_
  refine r_seq ?_
  refine r_region ?_
  refine r_op rfl rfl rfl (run_mv (v := .int _ _) rfl (by exact rfl)) ?_
  refine r_op rfl rfl rfl (run_eql rfl (by exact rfl) (by exact rfl)) ?_
  refine r_nil ?_
  refine r_cond (by exact rfl) (fun hc7 => ?_) (fun hc7 => ?_)
  ·skip
   refine r_seq ?_
   refine r_region ?_
   refine r_op rfl rfl rfl (run_mv (v := S _) rfl (by exact rfl)) ?_
   refine r_op rfl rfl rfl (run_asg (v := S _) rfl (by exact rfl)) ?_
   refine r_nil ?_
   refine r_ret (res1 (v := S _) rfl (by exact rfl)) ?_
   exact ⟨ret_str (by rw [hdw, decW_stop s1 (by omega)]; rfl), hV⟩
  ·skip
   refine r_skip ?_
   refine r_blk ?_
   refine r_again (m / 10) ?_ ?_ ?_
   ·first | omega | (dsimp only; omega)
   ·refine ⟨_, (congrArg (Value.int _) htd), rfl, (by have h8 := congrArg List.length (hdw.trans (decW_go s1 (by omega))); have h7 := hdg (m / 10) (UInt8.ofNat (48 + m % 10) :: s1); simp at h7 h8 hdl ⊢; omega), (hdw.trans (decW_go s1 (by omega))), (by first | assumption | omega | (dsimp only; omega) | (simp; done)), hV⟩
   ·repeat (first | (with_reducible exact Agree.merge _ _ _) | (with_reducible exact Agree.refl _ _) | (with_reducible refine Agree.upd ?_ _ _ rfl) | ((with_reducible refine Agree.inner ?_ ?_); (kernel_rfl)))

theorem Decimal_calls {n : Nat} {w0 : World} (hn : n < 1000000000) :
    Calls Try.prog 36 #[.int .i64 (n : Nat)] w0 fun e w' => e = .returned (S (decW n [])) ∧ Evo w0 w' [] := by
 refine calls_enter (n := 16) (args := [.int .i64 (n : Nat)]) Try.func36 rfl Try.ntmps36 rfl ?_
 have hV : Evo w0 w0 [] := Evo.refl _ _
 refine r_seq ?_
 refine r_region ?_
 refine r_op rfl rfl rfl (run_asg (v := S _) rfl (by exact rfl)) ?_
 refine r_nil ?_
 refine r_seq ?_
 refine r_seq ?_
 refine r_region ?_
 refine r_op rfl rfl rfl (run_mv (v := .int _ _) rfl (by exact rfl)) ?_
 refine r_op rfl rfl rfl (run_lss rfl (by exact rfl) (by exact rfl)) ?_
 refine r_op rfl rfl rfl (run_mv (v := .bool _) rfl (by exact rfl)) ?_
 refine r_g rfl (wantT (by exact rfl)) rfl (fun hg => run_mv (v := .int _ _) rfl (by exact rfl)) ?_
 refine r_g rfl (wantT (by exact rfl)) rfl (fun hg => run_gtr rfl (glv (by exact rfl) (fun h => h) hg) (by exact rfl)) ?_
 refine r_op rfl rfl rfl (run_pick_and rfl (by exact rfl) (fun hq => glv (by exact rfl) (fun h => h) hq) rfl) ?_
 refine r_nil ?_
 refine r_cond (by exact rfl) (fun hc1 => ?_) (fun hc1 => ?_)
 ·skip
  exfalso; omega
 ·skip
  refine r_skip ?_
  refine r_seq ?_
  refine r_region ?_
  refine r_op rfl rfl rfl (run_mv (v := .int _ _) rfl (by exact rfl)) ?_
  refine r_op rfl rfl rfl (run_max rfl (by exact rfl) (by exact rfl)) ?_
  refine r_knowL (i := 14) (v := .int .i64 (n : Nat)) (congrArg (Value.int _) (by omega)) ?_
  refine r_opcall rfl rfl rfl (run_callf (vs := [.int _ _]) rfl (by exact rfl) Try.func82 rfl (by kernel_rfl)) (decimal_calls (by omega)) ?_
  rintro e w2 ⟨rfl, hE2⟩
  refine ⟨_, rfl, ?_⟩
  have hs_w2 := (hE2).size
  replace hV := evo_step0 hV hE2
  refine r_op rfl rfl rfl (run_asg (v := S _) rfl (by exact rfl)) ?_
  refine r_nil ?_
  refine r_ret (res1 (v := S _) rfl (by exact rfl)) ?_
  exact ⟨rfl, hV⟩

theorem from_calls {ao : Option Addr} {cap : Nat} {l : List Int} {w0 : World}  :
    Calls Try.prog 25 #[.slice ao l.length cap] w0 fun e w' => ∃ bs, e = .returned (.pointer (some ⟨bs, 0, none⟩)) ∧ w0.heap.size ≤ bs ∧ Evo w0 w' [] ∧ Blk w' bs 89 [.slice ao l.length cap, .int .i64 ((0 : Nat) : Int)] ∧ At w' bs 0 [.slice ao l.length cap, .int .i64 ((0 : Nat) : Int)] := by
 refine calls_enter (n := 6) (args := [.slice ao l.length cap]) Try.func25 rfl Try.ntmps25 rfl ?_
 have hV : Evo w0 w0 [] := Evo.refl _ _
 refine r_seq ?_
 refine r_region ?_
 refine r_op rfl rfl rfl (run_asg (v := .pointer _) rfl (by exact rfl)) ?_
 refine r_nil ?_
 refine r_seq ?_
 refine r_region ?_
 refine r_op rfl rfl rfl (run_mv (v := .slice _ _ _) rfl (by exact rfl)) ?_
 refine r_op rfl rfl rfl (run_bld (pv := [(0, .slice _ _ _)]) (zs := [_, _]) (cells := [_, _]) rfl ty_89 (by exact rfl) pl_89 (by exact rfl) (by exact rfl)) ?_
 refine r_box (vs := [_, _]) (by exact rfl) (by exact rfl) rfl ?_
 intro b1 w2 heb1 hEw2 hbb1 hzb1
 have hs_w2 := (hEw2).size
 replace hV := evo_step0 hV hEw2
 have hAb1 := hbb1.at
 refine r_op rfl rfl rfl (run_asg (v := .pointer _) rfl (by exact rfl)) ?_
 refine r_nil ?_
 refine r_ret (res1 (v := .pointer _) rfl (by exact rfl)) ?_
 exact ⟨_, rfl, by omega, hV, hbb1, hAb1⟩

end Go.Proofs.Ytomklacppmaljaa

namespace Go.Proofs.Ytomklacppmaljaa
open Go.RowKit Go.Vc
theorem ty_41 : tyP Try.prog 41 = some (1, 24, some (.slice none 0 0)) := by kernel_rfl
theorem ee_46 : ∀ (w : World) (x y : Ende), (Op.equalIn 10000 46 (.agg (Enc.enc x).toArray) (.agg (Enc.enc y).toArray)).run Try.prog w = .ok (decide (x = y)) w := fun w x y => equalIn_ende 9998 Try.underlying46 Try.stoodInHeld46 (by decide) (by decide) rfl rfl Try.underlying9 Try.underlying9 ag_9 ag_9 x y
theorem mem_takeS {α : Type} [Inhabited α] {x : α} {l : List α} {k : Nat} (h : k < l.length) : (x ∈ l.take k ∨ x = l.getD k default) ↔ x ∈ l.take (k + 1) := by
  rw [take_succD l k h, List.mem_append, List.mem_singleton]

set_option maxHeartbeats 4000000 in
theorem classes_calls {T bs : Nat} {ao : Option Addr} {b off cap : Nat} {l : List Int} {N : Nat} {n : Int} {w0 : World} (hb : Blk w0 bs T [.slice ao l.length cap, .int .i64 (N : Nat)]) (hl : ∀ w', Evo w0 w' [bs] → RowE w' ao b off cap l) (hN : N ≤ 800000) (hn0 : 0 ≤ n) (hn9 : n ≤ 8) :
    Calls Try.prog 24 #[.pointer (some ⟨bs, 0, none⟩), .int .i64 n] w0 fun e w' => ∃ v, ∃ cl : List Clas, ∃ m N' : Nat, e = .returned v ∧ (MadeP cl m 0 ∧ (m : Int) ≤ n) ∧ (N ≤ N' ∧ N' ≤ N + 100) ∧ Evo w0 w' [bs] ∧ Blk w' bs T [.slice ao l.length cap, .int .i64 (N' : Nat)] ∧ OwnR w' w0.heap.size 43 [] v cl := by
 have hAs := hb.at; have hbslt := hb.lt
 refine calls_enter (n := 69) (args := [.pointer (some ⟨bs, 0, none⟩), .int .i64 n]) Try.func24 rfl Try.ntmps24 rfl ?_
 have hV : Evo w0 w0 [bs] := Evo.refl _ _
 have hl0 := hl
 replace hl := hl0 _ hV
 have hbd_hl := hl.bd
 refine r_seq ?_
 refine r_region ?_
 refine r_op rfl rfl rfl (run_asg (v := .slice _ _ _) rfl (by exact rfl)) ?_
 refine r_nil ?_
 refine r_seq ?_
 refine r_region ?_
 refine r_op rfl rfl rfl (run_asg (v := .slice _ _ _) rfl (by exact rfl)) ?_
 refine r_nil ?_
 refine r_seq ?_
 refine r_seq ?_
 refine r_region ?_
 refine r_op rfl rfl rfl (run_mv (v := .pointer _) rfl (by exact rfl)) ?_
 refine r_op rfl rfl rfl (run_mv (v := .int _ _) rfl (by exact rfl)) ?_
 refine r_op rfl rfl rfl (run_add rfl (by exact rfl) (by exact rfl) (by omega) (by omega)) ?_
 refine r_opcall rfl rfl rfl (run_callf (vs := [.pointer _, .int _ _]) rfl (by exact rfl) Try.func67 rfl (by kernel_rfl)) (nx_calls hb hl (by omega) (by omega) (by omega)) ?_
 rintro e w1 ⟨nx1, rfl, hx1, hE1, hn1⟩
 refine ⟨_, rfl, ?_⟩
 have hs_w1 := (hE1).size
 replace hV := evo_step1 hV hE1 (.inr (by simp))
 replace hl := hl0 _ hV
 replace hb := hn1
 clear hn1
 have hAs := hb.at
 refine r_op rfl rfl rfl (run_asg (v := .int _ _) rfl (by exact rfl)) ?_
 refine r_nil ?_
 refine r_block ?_
 refine r_loop (α := Nat) [5, 6, 7, 8, 9, 10, 12, 17, 18, 19, 20, 21, 22, 23, 24, 25, 26, 27, 28, 29, 30, 31, 32, 33, 34, 35, 36, 37, 38, 39, 40, 41, 42, 43, 44, 45, 46, 47, 48, 49, 50, 51, 52, 53, 54, 55, 56, 57, 58, 59, 60, 61, 62, 63, 64, 65, 66, 67] (fun i g w => ∃ vo : Value, ∃ cl : List Clas, ∃ N1 : Nat, g 6 = .int .i64 (i : Nat) ∧ g 5 = vo ∧ OwnR w w0.heap.size 43 [bs] vo cl ∧ Blk w bs T [.slice ao l.length cap, .int .i64 (N1 : Nat)] ∧ At w bs 0 [.slice ao l.length cap, .int .i64 (N1 : Nat)] ∧ MadeP cl nx1.toNat i ∧ (N + 1 ≤ N1 ∧ N1 + 7 * i ≤ N + 1 + 7 * nx1.toNat) ∧ w1.heap.size ≤ w.heap.size ∧ Evo w0 w [bs]) (fun i => i) nx1.toNat ?_ ?_
 ·refine ⟨_, [], _, (congrArg (Value.int _) (by omega)), rfl, (OwnR.nil _ _ _ _), hb, hb.at, (MadeP.nil _), (by first | assumption | omega | (dsimp only; omega) | (simp; done)), (by first | assumption | omega | (dsimp only; omega) | (simp; done)), hV⟩
 ·rintro i g w3 ⟨vo, cl, N1, hj4, hj5, hoR, hb, hAs, hMP, hN1, hzl2, hV⟩
  have hs_w3hV := hV.size
  have hlt6 := hb.lt
  replace hl := hl0 _ hV
  refine r_know (i := 6) (v := .int .i64 (i : Nat)) (by exact hj4) ?_
  refine r_know (i := 5) (v := vo) (by exact hj5) ?_
  refine r_seq ?_
  refine r_seq ?_
  refine r_region ?_
  refine r_op rfl rfl rfl (run_mv (v := .int _ _) rfl (by exact rfl)) ?_
  refine r_op rfl rfl rfl (run_gtr rfl (by exact rfl) (by exact rfl)) ?_
  refine r_nil ?_
  refine r_cond (by exact rfl) (fun hc7 => ?_) (fun hc7 => ?_)
  ·skip
   refine r_skip ?_
   refine r_seq ?_
   refine r_block ?_
   refine r_seq ?_
   have hdl9 := decW_len 0 i [] (by omega); simp only [List.length_nil] at hdl9; have hcl9 := hMP.1
   have hI : Evo w3 w3 [bs] := Evo.refl _ _
   have hoR0 := hoR
   have hobR := fun g hg => (hoR.block (g := g) hg).2
   refine r_region ?_
   refine r_op rfl rfl rfl (run_mv (v := .int _ _) rfl (by exact rfl)) ?_
   refine r_opcall rfl rfl rfl (run_callf (vs := [.int _ _]) rfl (by exact rfl) Try.func36 rfl (by kernel_rfl)) (Decimal_calls (by omega)) ?_
   rintro e w8 ⟨rfl, hE8⟩
   refine ⟨_, rfl, ?_⟩
   have hs_w8 := (hE8).size
   replace hV := evo_step0 hV hE8
   replace hI := evo_step0 hI hE8
   replace hl := hl0 _ hV
   replace hb := hb.evo0 hE8
   replace hAs := hAs.evo0 hE8
   refine r_op rfl rfl rfl (run_sadd rfl (by exact rfl) (by exact rfl) (by first | omega | (simp; omega))) ?_
   refine r_op rfl rfl rfl (run_bld (pv := [(0, S _)]) (zs := [_, _]) (cells := [_, _]) rfl ty_43 (by exact rfl) pl_43 (by exact rfl) (by exact rfl)) ?_
   refine r_var (zs := [_, _]) (vs := [_, _]) ty_43 (by exact rfl) rfl (by exact rfl) (fun _ => rfl) (by exact rfl) rfl rfl (by exact rfl) ?_
   intro b9 w10 heb9 hEw10 hbb9 hzb9
   have hs_w10 := (hEw10).size
   replace hV := evo_step0 hV hEw10
   replace hI := evo_step0 hI hEw10
   replace hl := hl0 _ hV
   replace hb := hb.evo0 hEw10
   replace hAs := hAs.evo0 hEw10
   have hAb9 := hbb9.at
   refine r_nil ?_
   refine r_seq ?_
   refine r_seq ?_
   refine r_region ?_
   refine r_op rfl rfl rfl (run_mv (v := .pointer _) rfl (by exact rfl)) ?_
   refine r_opcall rfl rfl rfl (run_callf (vs := [.pointer _, .int _ _]) rfl (by exact rfl) Try.func67 rfl (by kernel_rfl)) (nx_calls hb hl (by omega) (by omega) (by omega)) ?_
   rintro e w11 ⟨nx11, rfl, hx11, hE11, hn11⟩
   refine ⟨_, rfl, ?_⟩
   have hs_w11 := (hE11).size
   replace hV := evo_step1 hV hE11 (.inr (by simp))
   replace hI := evo_step1 hI hE11 (by first | exact .inl (by omega) | exact .inr (by simp))
   replace hl := hl0 _ hV
   replace hbb9 := hbb9.evo hE11 (by simp; omega)
   replace hAb9 := hAb9.evo hE11 (by simp; omega)
   replace hb := hn11
   clear hn11
   have hAs := hb.at
   refine r_op rfl rfl rfl (run_asg (v := .int _ _) rfl (by exact rfl)) ?_
   refine r_nil ?_
   refine r_block ?_
   refine r_loop (α := Nat) [8, 9, 10, 12, 27, 28, 29, 30, 31, 32, 33, 34, 35, 36, 37, 38, 39, 40, 41, 42, 43, 44, 45, 46, 47, 48, 49, 50, 51, 52, 53, 54, 55, 56, 57, 58, 59, 60, 61, 62, 63] (fun kk g w => ∃ vs : Value, ∃ es : List Ende, ∃ N2 : Nat, g 8 = .int .i64 (kk : Nat) ∧ OwnE w w10.heap.size 46 vs es ∧ Blk w b9 43 [S (99 :: decW i []), vs] ∧ At w b9 0 [S (99 :: decW i []), vs] ∧ Blk w bs T [.slice ao l.length cap, .int .i64 (N2 : Nat)] ∧ At w bs 0 [.slice ao l.length cap, .int .i64 (N2 : Nat)] ∧ MadeE es ∧ (es.length + kk ≤ 3 ∧ N1 + 1 ≤ N2 ∧ N2 + 2 * kk ≤ N1 + 1 + 2 * nx11.toNat) ∧ w11.heap.size ≤ w.heap.size ∧ Evo w0 w [bs] ∧ Evo w3 w [bs]) (fun kk => kk) nx11.toNat ?_ ?_
   ·refine ⟨_, [], _, (congrArg (Value.int _) (by omega)), (OwnE.nil _ _ _), hbb9, hbb9.at, hb, hb.at, MadeE.nil, (by simp; omega), (by first | assumption | omega | (dsimp only; omega) | (simp; done)), hV, hI⟩
   ·rintro kk g w13 ⟨vs, es, N2, hj14, hos, hbb9, hAb9, hb, hAs, hME, hek, hzl12, hV, hI⟩
    have hs_w13hV := hV.size
    have hs_w13hI := hI.size
    have hlt15 := hbb9.lt
    have hlt16 := hb.lt
    replace hl := hl0 _ hV
    refine r_know (i := 8) (v := .int .i64 (kk : Nat)) (by exact hj14) ?_
    refine r_seq ?_
    refine r_seq ?_
    refine r_region ?_
    refine r_op rfl rfl rfl (run_mv (v := .int _ _) rfl (by exact rfl)) ?_
    refine r_op rfl rfl rfl (run_gtr rfl (by exact rfl) (by exact rfl)) ?_
    refine r_nil ?_
    refine r_cond (by exact rfl) (fun hc17 => ?_) (fun hc17 => ?_)
    ·skip
     refine r_skip ?_
     refine r_seq ?_
     refine r_block ?_
     refine r_seq ?_
     refine r_cut [9, 31, 32, 33, 34, 35, 36, 37, 38, 39, 40, 41] (fun g w => ∃ bx : Nat, ∃ sx : Str, ∃ tx : Str, g 9 = .pointer (some ⟨bx, 0, none⟩) ∧ Blk w bx 46 (Enc.enc (⟨sx, tx⟩ : Ende)) ∧ At w bx 0 (Enc.enc (⟨sx, tx⟩ : Ende)) ∧ OwnE w w10.heap.size 46 vs es ∧ Blk w b9 43 [S (99 :: decW i []), vs] ∧ At w b9 0 [S (99 :: decW i []), vs] ∧ Blk w bs T [.slice ao l.length cap, .int .i64 (N2 + 2 : Nat)] ∧ At w bs 0 [.slice ao l.length cap, .int .i64 (N2 + 2 : Nat)] ∧ sx ∈ stripsL ∧ tx ∈ addsL ∧ w13.heap.size ≤ w.heap.size ∧ Evo w0 w [bs] ∧ Evo w3 w [bs]) ?_ ?_
     ·skip
      have hbsz : bs < w13.heap.size := by omega
      refine h_rgm M9 (I9 w13 bs 46 T N2 (.slice ao l.length cap)) (by kernel_rfl) (by kernel_rfl) (fun w1 he => I9.init (he.mono (by simp)) (hb.evo0 he)) ?_ ?_
      ·skip
       intro g w20 hI9
       obtain ⟨hE19, hbz, bx, sx, tx, hbx1, hj9, hbx, hsx, htx⟩ := hI9.done
       refine r_know (i := 9) (v := .pointer (some ⟨bx, 0, none⟩)) (by exact hj9) ?_
       have hs_w20 := (hE19).size
       replace hV := evo_step1 hV hE19 (.inr (by simp))
       replace hI := evo_step1 hI hE19 (by first | exact .inl (by omega) | exact .inr (by simp))
       replace hl := hl0 _ hV
       replace hos := hos.evo hE19 (by intro g hg hm; simp at hm; subst hm; have := hos.block hg; omega)
       replace hbb9 := hbb9.evo hE19 (by simp; omega)
       replace hAb9 := hAb9.evo hE19 (by simp; omega)
       have hb := hbz; have hAs := hb.at; have hAx := hbx.at
       refine r_cut_end ?_ ?_
       ·refine ⟨_, _, _, rfl, hbx, hbx.at, hos, hbb9, hbb9.at, hb, hb.at, hsx, htx, (by first | assumption | omega | (dsimp only; omega) | (simp; done)), hV, hI⟩
       ·repeat (first | (with_reducible exact Agree.merge _ _ _) | (with_reducible exact Agree.refl _ _) | (with_reducible refine Agree.upd ?_ _ _ rfl) | ((with_reducible refine Agree.inner ?_ ?_); (kernel_rfl)))
      refine ⟨fun l9 g w hu hd ⟨hI9, hA9⟩ => ?_, ?_⟩
      ·skip
       obtain ⟨hE, hb, h12, hP⟩ := hI9.deps (by omega) hu
       refine rg_step hA9 ?_
       have hE1 : Evo w w [bs] := Evo.refl _ _
       have hcn := cn9_le l9
       have hszE := hE.size
       have hAs := hb.at
       refine r_bslice (pv := [(0, S _), (1, S _), (2, S _), (3, S _), (4, S _)]) (zs := [_]) (cs := [_, _, _, _, _]) Try.underlying34 ty_9 (by exact rfl) rfl (by exact rfl) rfl (by exact rfl) ?_
       intro b21 w22 heb21 hEw22 hbb21 hzb21
       have hs_w22 := (hEw22).size
       replace hE := evo_step0 hE hEw22
       replace hE1 := evo_step0 hE1 hEw22
       replace hb := hb.evo0 hEw22
       replace hAs := hAs.evo0 hEw22
       have hAb21 := hbb21.at
       have hrb21 : RowE w22 (some ⟨b21, 0, none⟩) b21 0 5 stripsL := rowLit stripsL hbb21 rfl rfl
       refine rg_end (And.intro ?_ ?_)
       ·exact I9.step (i := 0) (by omega) hu hbsz h12 hP hE1 hE (by rw [cn9_set (by decide) (by decide)]; exact hb) (same_put (same_merge (M := M9))) ⟨_, by omega, rfl, hrb21⟩
       ·repeat (first | (with_reducible exact Agree.merge _ _ _) | (with_reducible exact Agree.refl _ _) | (with_reducible refine Agree.upd ?_ _ _ rfl) | ((with_reducible refine Agree.inner ?_ ?_); (kernel_rfl)))
      refine ⟨fun l9 g w hu hd ⟨hI9, hA9⟩ => ?_, ?_⟩
      ·skip
       obtain ⟨hE, hb, h12, hP⟩ := hI9.deps (by omega) hu
       refine rg_step hA9 ?_
       have hE1 : Evo w w [bs] := Evo.refl _ _
       have hcn := cn9_le l9
       have hszE := hE.size
       have hAs := hb.at
       refine r_op rfl rfl rfl (run_mv (v := .pointer _) rfl (by exact rfl)) ?_
       refine rg_end (And.intro ?_ ?_)
       ·exact I9.step (i := 1) (by omega) hu hbsz h12 hP hE1 hE (by rw [cn9_set (by decide) (by decide)]; exact hb) (same_put (same_merge (M := M9))) rfl
       ·repeat (first | (with_reducible exact Agree.merge _ _ _) | (with_reducible exact Agree.refl _ _) | (with_reducible refine Agree.upd ?_ _ _ rfl) | ((with_reducible refine Agree.inner ?_ ?_); (kernel_rfl)))
      refine ⟨fun l9 g w hu hd ⟨hI9, hA9⟩ => ?_, ?_⟩
      ·skip
       obtain ⟨hE, hb, h12, hP⟩ := hI9.deps (by omega) hu
       refine rg_step hA9 ?_
       have hE1 : Evo w w [bs] := Evo.refl _ _
       have hcn := cn9_le l9
       have hszE := hE.size
       have hAs := hb.at
       have hj1 := hP 1 (dep_of hd 1 (by kernel_rfl))
       have hl := hl0 _ (Evo.trans hV hE (fun x hx _ => hx))
       refine r_knowL (i := 32) (v := .pointer (some ⟨bs, 0, none⟩)) (by exact hj1) ?_
       refine r_opcall rfl rfl rfl (run_callf (vs := [.pointer _, .int _ _]) rfl (by exact rfl) Try.func67 rfl (by kernel_rfl)) (nx_calls hb hl (by omega) (by omega) (by omega)) ?_
       rintro e w23 ⟨nx23, rfl, hx23, hE23, hn23⟩
       refine ⟨_, rfl, ?_⟩
       have hs_w23 := (hE23).size
       replace hE := evo_step1 hE hE23 (by first | exact .inl (by omega) | exact .inr (by simp))
       replace hE1 := evo_step1 hE1 hE23 (by first | exact .inl (by omega) | exact .inr (by simp))
       replace hb := hn23
       clear hn23
       have hAs := hb.at
       refine rg_end (And.intro ?_ ?_)
       ·exact I9.step (i := 2) (by omega) hu hbsz h12 hP hE1 hE (by rw [cn9_2 hu]; exact hb) (same_put (same_know (same_merge (M := M9)) hj1)) ⟨_, rfl, hx23⟩
       ·repeat (first | (with_reducible exact Agree.merge _ _ _) | (with_reducible exact Agree.refl _ _) | (with_reducible refine Agree.upd ?_ _ _ rfl) | ((with_reducible refine Agree.inner ?_ ?_); (kernel_rfl)))
      refine ⟨fun l9 g w hu hd ⟨hI9, hA9⟩ => ?_, ?_⟩
      ·skip
       obtain ⟨hE, hb, h12, hP⟩ := hI9.deps (by omega) hu
       refine rg_step hA9 ?_
       have hE1 : Evo w w [bs] := Evo.refl _ _
       have hcn := cn9_le l9
       have hszE := hE.size
       have hAs := hb.at
       obtain ⟨bz, hbz1, hj1, hrz⟩ := hP 0 (dep_of hd 0 (by kernel_rfl))
       obtain ⟨rz, hj2, hr0, hr5⟩ := hP 2 (dep_of hd 2 (by kernel_rfl))
       refine r_knowL (i := 31) (v := .slice (some ⟨bz, 0, none⟩) 5 5) (by exact hj1) ?_
       refine r_knowL (i := 33) (v := .int .i64 rz) (by exact hj2) ?_
       refine r_op rfl rfl rfl (run_ix (rz.toNat) rfl Try.underlying34 ty_9 (by exact rfl) (by exact rfl) (by omega) (by show _ < 5; omega) (hrz.addr (i := rz.toNat) (by show _ < 5; omega))) ?_
       have hA24 := hrz.atD (rz.toNat) (by show _ < 5; omega)
       refine rg_end (And.intro ?_ ?_)
       ·exact I9.step (i := 3) (by omega) hu hbsz h12 hP hE1 hE (by rw [cn9_set (by decide) (by decide)]; exact hb) (same_put (same_know (same_know (same_merge (M := M9)) hj1) hj2)) (by obtain ⟨sq, hq1, hq2⟩ := elem_in hrz (show rz.toNat < _ by show _ < 5; omega) rfl; exact ⟨_, _, sq, by omega, rfl, hq1, hq2⟩)
       ·repeat (first | (with_reducible exact Agree.merge _ _ _) | (with_reducible exact Agree.refl _ _) | (with_reducible refine Agree.upd ?_ _ _ rfl) | ((with_reducible refine Agree.inner ?_ ?_); (kernel_rfl)))
      refine ⟨fun l9 g w hu hd ⟨hI9, hA9⟩ => ?_, ?_⟩
      ·skip
       obtain ⟨hE, hb, h12, hP⟩ := hI9.deps (by omega) hu
       refine rg_step hA9 ?_
       have hE1 : Evo w w [bs] := Evo.refl _ _
       have hcn := cn9_le l9
       have hszE := hE.size
       have hAs := hb.at
       obtain ⟨bz, jz, sz, hbz1, hj1, haz, hsz⟩ := hP 3 (dep_of hd 3 (by kernel_rfl))
       refine r_knowL (i := 34) (v := .pointer (some ⟨bz, jz, none⟩)) (by exact hj1) ?_
       refine r_op rfl rfl rfl (run_ld1 rfl ag_9 (by exact rfl) (haz.cell 0 (by exact rfl))) ?_
       refine rg_end (And.intro ?_ ?_)
       ·exact I9.step (i := 4) (by omega) hu hbsz h12 hP hE1 hE (by rw [cn9_set (by decide) (by decide)]; exact hb) (same_put (same_know (same_merge (M := M9)) hj1)) ⟨_, rfl, hsz⟩
       ·repeat (first | (with_reducible exact Agree.merge _ _ _) | (with_reducible exact Agree.refl _ _) | (with_reducible refine Agree.upd ?_ _ _ rfl) | ((with_reducible refine Agree.inner ?_ ?_); (kernel_rfl)))
      refine ⟨fun l9 g w hu hd ⟨hI9, hA9⟩ => ?_, ?_⟩
      ·skip
       obtain ⟨hE, hb, h12, hP⟩ := hI9.deps (by omega) hu
       refine rg_step hA9 ?_
       have hE1 : Evo w w [bs] := Evo.refl _ _
       have hcn := cn9_le l9
       have hszE := hE.size
       have hAs := hb.at
       refine r_bslice (pv := [(0, S _), (1, S _), (2, S _), (3, S _), (4, S _), (5, S _)]) (zs := [_]) (cs := [_, _, _, _, _, _]) Try.underlying34 ty_9 (by exact rfl) rfl (by exact rfl) rfl (by exact rfl) ?_
       intro b25 w26 heb25 hEw26 hbb25 hzb25
       have hs_w26 := (hEw26).size
       replace hE := evo_step0 hE hEw26
       replace hE1 := evo_step0 hE1 hEw26
       replace hb := hb.evo0 hEw26
       replace hAs := hAs.evo0 hEw26
       have hAb25 := hbb25.at
       have hrb25 : RowE w26 (some ⟨b25, 0, none⟩) b25 0 6 addsL := rowLit addsL hbb25 rfl rfl
       refine rg_end (And.intro ?_ ?_)
       ·exact I9.step (i := 5) (by omega) hu hbsz h12 hP hE1 hE (by rw [cn9_set (by decide) (by decide)]; exact hb) (same_put (same_merge (M := M9))) ⟨_, by omega, rfl, hrb25⟩
       ·repeat (first | (with_reducible exact Agree.merge _ _ _) | (with_reducible exact Agree.refl _ _) | (with_reducible refine Agree.upd ?_ _ _ rfl) | ((with_reducible refine Agree.inner ?_ ?_); (kernel_rfl)))
      refine ⟨fun l9 g w hu hd ⟨hI9, hA9⟩ => ?_, ?_⟩
      ·skip
       obtain ⟨hE, hb, h12, hP⟩ := hI9.deps (by omega) hu
       refine rg_step hA9 ?_
       have hE1 : Evo w w [bs] := Evo.refl _ _
       have hcn := cn9_le l9
       have hszE := hE.size
       have hAs := hb.at
       refine r_op rfl rfl rfl (run_mv (v := .pointer _) rfl (by exact rfl)) ?_
       refine rg_end (And.intro ?_ ?_)
       ·exact I9.step (i := 6) (by omega) hu hbsz h12 hP hE1 hE (by rw [cn9_set (by decide) (by decide)]; exact hb) (same_put (same_merge (M := M9))) rfl
       ·repeat (first | (with_reducible exact Agree.merge _ _ _) | (with_reducible exact Agree.refl _ _) | (with_reducible refine Agree.upd ?_ _ _ rfl) | ((with_reducible refine Agree.inner ?_ ?_); (kernel_rfl)))
      refine ⟨fun l9 g w hu hd ⟨hI9, hA9⟩ => ?_, ?_⟩
      ·skip
       obtain ⟨hE, hb, h12, hP⟩ := hI9.deps (by omega) hu
       refine rg_step hA9 ?_
       have hE1 : Evo w w [bs] := Evo.refl _ _
       have hcn := cn9_le l9
       have hszE := hE.size
       have hAs := hb.at
       have hj1 := hP 6 (dep_of hd 6 (by kernel_rfl))
       have hl := hl0 _ (Evo.trans hV hE (fun x hx _ => hx))
       refine r_knowL (i := 37) (v := .pointer (some ⟨bs, 0, none⟩)) (by exact hj1) ?_
       refine r_opcall rfl rfl rfl (run_callf (vs := [.pointer _, .int _ _]) rfl (by exact rfl) Try.func67 rfl (by kernel_rfl)) (nx_calls hb hl (by omega) (by omega) (by omega)) ?_
       rintro e w27 ⟨nx27, rfl, hx27, hE27, hn27⟩
       refine ⟨_, rfl, ?_⟩
       have hs_w27 := (hE27).size
       replace hE := evo_step1 hE hE27 (by first | exact .inl (by omega) | exact .inr (by simp))
       replace hE1 := evo_step1 hE1 hE27 (by first | exact .inl (by omega) | exact .inr (by simp))
       replace hb := hn27
       clear hn27
       have hAs := hb.at
       refine rg_end (And.intro ?_ ?_)
       ·exact I9.step (i := 7) (by omega) hu hbsz h12 hP hE1 hE (by rw [cn9_7 hu]; exact hb) (same_put (same_know (same_merge (M := M9)) hj1)) ⟨_, rfl, hx27⟩
       ·repeat (first | (with_reducible exact Agree.merge _ _ _) | (with_reducible exact Agree.refl _ _) | (with_reducible refine Agree.upd ?_ _ _ rfl) | ((with_reducible refine Agree.inner ?_ ?_); (kernel_rfl)))
      refine ⟨fun l9 g w hu hd ⟨hI9, hA9⟩ => ?_, ?_⟩
      ·skip
       obtain ⟨hE, hb, h12, hP⟩ := hI9.deps (by omega) hu
       refine rg_step hA9 ?_
       have hE1 : Evo w w [bs] := Evo.refl _ _
       have hcn := cn9_le l9
       have hszE := hE.size
       have hAs := hb.at
       obtain ⟨bz, hbz1, hj1, hrz⟩ := hP 5 (dep_of hd 5 (by kernel_rfl))
       obtain ⟨rz, hj2, hr0, hr5⟩ := hP 7 (dep_of hd 7 (by kernel_rfl))
       refine r_knowL (i := 36) (v := .slice (some ⟨bz, 0, none⟩) 6 6) (by exact hj1) ?_
       refine r_knowL (i := 38) (v := .int .i64 rz) (by exact hj2) ?_
       refine r_op rfl rfl rfl (run_ix (rz.toNat) rfl Try.underlying34 ty_9 (by exact rfl) (by exact rfl) (by omega) (by show _ < 6; omega) (hrz.addr (i := rz.toNat) (by show _ < 6; omega))) ?_
       have hA28 := hrz.atD (rz.toNat) (by show _ < 6; omega)
       refine rg_end (And.intro ?_ ?_)
       ·exact I9.step (i := 8) (by omega) hu hbsz h12 hP hE1 hE (by rw [cn9_set (by decide) (by decide)]; exact hb) (same_put (same_know (same_know (same_merge (M := M9)) hj1) hj2)) (by obtain ⟨sq, hq1, hq2⟩ := elem_in hrz (show rz.toNat < _ by show _ < 6; omega) rfl; exact ⟨_, _, sq, by omega, rfl, hq1, hq2⟩)
       ·repeat (first | (with_reducible exact Agree.merge _ _ _) | (with_reducible exact Agree.refl _ _) | (with_reducible refine Agree.upd ?_ _ _ rfl) | ((with_reducible refine Agree.inner ?_ ?_); (kernel_rfl)))
      refine ⟨fun l9 g w hu hd ⟨hI9, hA9⟩ => ?_, ?_⟩
      ·skip
       obtain ⟨hE, hb, h12, hP⟩ := hI9.deps (by omega) hu
       refine rg_step hA9 ?_
       have hE1 : Evo w w [bs] := Evo.refl _ _
       have hcn := cn9_le l9
       have hszE := hE.size
       have hAs := hb.at
       obtain ⟨bz, jz, sz, hbz1, hj1, haz, hsz⟩ := hP 8 (dep_of hd 8 (by kernel_rfl))
       refine r_knowL (i := 39) (v := .pointer (some ⟨bz, jz, none⟩)) (by exact hj1) ?_
       refine r_op rfl rfl rfl (run_ld1 rfl ag_9 (by exact rfl) (haz.cell 0 (by exact rfl))) ?_
       refine rg_end (And.intro ?_ ?_)
       ·exact I9.step (i := 9) (by omega) hu hbsz h12 hP hE1 hE (by rw [cn9_set (by decide) (by decide)]; exact hb) (same_put (same_know (same_merge (M := M9)) hj1)) ⟨_, rfl, hsz⟩
       ·repeat (first | (with_reducible exact Agree.merge _ _ _) | (with_reducible exact Agree.refl _ _) | (with_reducible refine Agree.upd ?_ _ _ rfl) | ((with_reducible refine Agree.inner ?_ ?_); (kernel_rfl)))
      refine ⟨fun l9 g w hu hd ⟨hI9, hA9⟩ => ?_, ?_⟩
      ·skip
       obtain ⟨hE, hb, h12, hP⟩ := hI9.deps (by omega) hu
       refine rg_step hA9 ?_
       have hE1 : Evo w w [bs] := Evo.refl _ _
       have hcn := cn9_le l9
       have hszE := hE.size
       have hAs := hb.at
       obtain ⟨sz, hj1, hsz⟩ := hP 4 (dep_of hd 4 (by kernel_rfl))
       obtain ⟨tz, hj2, htz⟩ := hP 9 (dep_of hd 9 (by kernel_rfl))
       refine r_knowL (i := 35) (v := S sz) (by exact hj1) ?_
       refine r_knowL (i := 40) (v := S tz) (by exact hj2) ?_
       refine r_op rfl rfl rfl (run_bld (pv := [(0, S _), (1, S _)]) (zs := [_, _]) (cells := [_, _]) rfl ty_46 (by exact rfl) pl_46 (by exact rfl) (by exact rfl)) ?_
       refine rg_end (And.intro ?_ ?_)
       ·exact I9.step (i := 10) (by omega) hu hbsz h12 hP hE1 hE (by rw [cn9_set (by decide) (by decide)]; exact hb) (same_put (same_know (same_know (same_merge (M := M9)) hj1) hj2)) ⟨_, _, rfl, hsz, htz⟩
       ·repeat (first | (with_reducible exact Agree.merge _ _ _) | (with_reducible exact Agree.refl _ _) | (with_reducible refine Agree.upd ?_ _ _ rfl) | ((with_reducible refine Agree.inner ?_ ?_); (kernel_rfl)))
      refine ⟨fun l9 g w hu hd ⟨hI9, hA9⟩ => ?_, ?_⟩
      ·skip
       obtain ⟨hE, hb, h12, hP⟩ := hI9.deps (by omega) hu
       refine rg_step hA9 ?_
       have hE1 : Evo w w [bs] := Evo.refl _ _
       have hcn := cn9_le l9
       have hszE := hE.size
       have hAs := hb.at
       refine r_alloc (zs := [_, _]) ty_46 (by exact rfl) rfl ?_
       intro b29 w30 heb29 hEw30 hbb29 hzb29
       have hs_w30 := (hEw30).size
       replace hE := evo_step0 hE hEw30
       replace hE1 := evo_step0 hE1 hEw30
       replace hb := hb.evo0 hEw30
       replace hAs := hAs.evo0 hEw30
       have hAb29 := hbb29.at
       refine rg_end (And.intro ?_ ?_)
       ·exact I9.step (i := 11) (by omega) hu hbsz h12 hP hE1 hE (by rw [cn9_set (by decide) (by decide)]; exact hb) (same_put (same_merge (M := M9))) ⟨_, by omega, rfl, [], [], hbb29⟩
       ·repeat (first | (with_reducible exact Agree.merge _ _ _) | (with_reducible exact Agree.refl _ _) | (with_reducible refine Agree.upd ?_ _ _ rfl) | ((with_reducible refine Agree.inner ?_ ?_); (kernel_rfl)))
      refine ⟨fun l9 g w hu hd ⟨hI9, hA9⟩ => ?_, ?_⟩
      ·skip
       obtain ⟨hE, hb, h12, hP⟩ := hI9.deps (by omega) hu
       refine rg_step hA9 ?_
       have hE1 : Evo w w [bs] := Evo.refl _ _
       have hcn := cn9_le l9
       have hszE := hE.size
       have hAs := hb.at
       obtain ⟨bz, hbz1, hj1, sy, ty, hbx⟩ := hP 11 (dep_of hd 11 (by kernel_rfl))
       have hax := hbx.at
       obtain ⟨sz, tz, hj2, hsz, htz⟩ := hP 10 (dep_of hd 10 (by kernel_rfl))
       refine r_knowL (i := 9) (v := .pointer (some ⟨bz, 0, none⟩)) (by exact hj1) ?_
       refine r_knowL (i := 41) (v := .agg #[S sz, S tz]) (by exact hj2) ?_
       refine r_store (v := .agg _) (vs := [_, _]) (cs' := [_, _]) (by exact rfl) (by exact rfl) hbx ty_46 (by exact rfl) rfl (by exact rfl) rfl (by exact rfl) ?_
       intro w31 hEw31 hzw31 hb_new
       have hs_w31 := (hEw31).size
       replace hE := evo_step1 hE hEw31 (by first | exact .inl (by omega) | exact .inr (by simp))
       replace hb := hb.evo hEw31 (by simp; omega)
       replace hAs := hAs.evo hEw31 (by simp; omega)
       replace hbx := hb_new
       have hax := hbx.at
       clear hb_new
       refine rg_end (And.intro ?_ ?_)
       ·exact I9.last hu (deps_all hd (by kernel_rfl)) hE (by rw [cn9_set (by decide) (by decide)]; exact hb) ⟨bz, sz, tz, by omega, rfl, hbx, hsz, htz⟩
       ·repeat (first | (with_reducible exact Agree.merge _ _ _) | (with_reducible exact Agree.refl _ _) | (with_reducible refine Agree.upd ?_ _ _ rfl) | ((with_reducible refine Agree.inner ?_ ?_); (kernel_rfl)))
      exact trivial
     ·rintro g w32 ⟨bx, sx, tx, hj33, hbx, hAx, hos, hbb9, hAb9, hb, hAs, hsx, htx, hzl18, hV, hI⟩
      have hs_w32hV := hV.size
      have hs_w32hI := hI.size
      have hlt34 := hbx.lt
      have hlt35 := hbb9.lt
      have hlt36 := hb.lt
      replace hl := hl0 _ hV
      refine r_know (i := 9) (v := .pointer (some ⟨bx, 0, none⟩)) (by exact hj33) ?_
      refine r_seq ?_
      refine r_region ?_
      refine r_op rfl rfl rfl (run_asg (v := .bool _) rfl (by exact rfl)) ?_
      refine r_nil ?_
      refine r_seq ?_
      refine r_seq ?_
      refine r_region ?_
      refine r_op rfl rfl rfl (run_fa rfl (by exact rfl) fo_43_1) ?_
      refine r_op rfl rfl rfl (run_ld1 rfl ag_41 (by exact rfl) (hAb9.cell 1 (by exact rfl))) ?_
      refine r_op rfl rfl rfl (run_lenOE rfl (by exact rfl) Try.underlying41 hos) ?_
      refine r_op rfl rfl rfl (run_mv (v := .int _ _) rfl (by exact rfl)) ?_
      refine r_nil ?_
      refine r_block ?_
      have hbdo := hos.bd
      obtain ⟨ao37, g37, cp37, hv37, hr37, hg37⟩ := hos.rowOf
      subst hv37
      refine r_loop (α := Nat) [10, 12, 45, 46, 47, 48, 49, 50, 51, 52, 53, 54, 55] (fun k g w => g 45 = .int .i64 (k : Nat) ∧ g 10 = .bool (decide ((⟨sx, tx⟩ : Ende) ∈ es.take k)) ∧ k ≤ es.length ∧ RowE w ao37 g37 0 cp37 es ∧ OwnE w w10.heap.size 46 (.slice ao37 es.length cp37) es ∧ Blk w b9 43 [S (99 :: decW i []), .slice ao37 es.length cp37] ∧ At w b9 0 [S (99 :: decW i []), .slice ao37 es.length cp37] ∧ Blk w bs T [.slice ao l.length cap, .int .i64 (N2 + 2 : Nat)] ∧ At w bs 0 [.slice ao l.length cap, .int .i64 (N2 + 2 : Nat)] ∧ Blk w bx 46 (Enc.enc (⟨sx, tx⟩ : Ende)) ∧ At w bx 0 (Enc.enc (⟨sx, tx⟩ : Ende)) ∧ w32.heap.size ≤ w.heap.size ∧ Evo w0 w [bs] ∧ Evo w3 w [bs]) (fun k => es.length - k) 0 ?_ ?_
      ·refine ⟨(by first | exact rfl | exact congrArg (Value.int _) (by omega) | exact congrArg (Value.int _) (by dsimp only; omega) | exact congrArg (Value.int _) (by simp) | exact congrArg S (by simp)), (congrArg Value.bool (by simp)), (by first | assumption | omega | (dsimp only; omega) | (simp; done)), hr37, (by first | assumption | omega | (dsimp only; omega) | (simp; done)), (by first | assumption | omega | (dsimp only; omega) | (simp; done)), (by first | assumption | omega | (dsimp only; omega) | (simp; done)), (by first | assumption | omega | (dsimp only; omega) | (simp; done)), (by first | assumption | omega | (dsimp only; omega) | (simp; done)), (by first | assumption | omega | (dsimp only; omega) | (simp; done)), (by first | assumption | omega | (dsimp only; omega) | (simp; done)), (by first | assumption | omega | (dsimp only; omega) | (simp; done)), hV, hI⟩
      ·rintro k g w39 ⟨hj40, hj41, hk_k, hro, hos, hbb9, hAb9, hb, hAs, hbx, hAx, hzl38, hV, hI⟩
       have hs_w39hV := hV.size
       have hs_w39hI := hI.size
       have hlt42 := hbb9.lt
       have hlt43 := hb.lt
       have hlt44 := hbx.lt
       replace hl := hl0 _ hV
       refine r_know (i := 45) (v := .int .i64 (k : Nat)) (by exact hj40) ?_
       refine r_know (i := 10) (v := .bool (decide ((⟨sx, tx⟩ : Ende) ∈ es.take k))) (by exact hj41) ?_
       refine r_seq ?_
       refine r_region ?_
       refine r_op rfl rfl rfl (run_lss rfl (by exact rfl) (by exact rfl)) ?_
       refine r_nil ?_
       refine r_seq ?_
       refine r_cond (by exact rfl) (fun hc45 => ?_) (fun hc45 => ?_)
       ·skip
        refine r_skip ?_
        refine r_seq ?_
        refine r_block ?_
        refine r_seq ?_
        refine r_region ?_
        refine r_op rfl rfl rfl (run_ix (k) rfl Try.underlying41 ty_46 (by exact rfl) (by exact rfl) (by first | exact rfl | omega) (by omega) (hro.addr (i := k) (by omega))) ?_
        have hA46 := hro.atD (k) (by omega)
        refine r_op rfl rfl rfl (run_ldN rfl ag_46 ty_46 (by exact rfl) rfl hA46) ?_
        have hob47 := fun g hg => (hos.block (g := g) hg).2
        refine r_var (zs := [_, _]) (vs := [_, _]) ty_46 (by exact rfl) rfl (by exact rfl) (fun _ => rfl) (by exact rfl) rfl rfl (by exact rfl) ?_
        intro b48 w49 heb48 hEw49 hbb48 hzb48
        have hs_w49 := (hEw49).size
        replace hV := evo_step0 hV hEw49
        replace hI := evo_step0 hI hEw49
        replace hl := hl0 _ hV
        replace hro := hro.evo0 hEw49
        replace hos := hos.evo0 hEw49
        replace hbb9 := hbb9.evo0 hEw49
        replace hAb9 := hAb9.evo0 hEw49
        replace hb := hb.evo0 hEw49
        replace hAs := hAs.evo0 hEw49
        replace hbx := hbx.evo0 hEw49
        replace hAx := hAx.evo0 hEw49
        have hAb48 := hbb48.at
        refine r_nil ?_
        refine r_region ?_
        refine r_op rfl rfl rfl (run_mvb rfl (by exact rfl)) ?_
        refine r_op rfl rfl rfl (run_mv (v := .bool _) rfl (by exact rfl)) ?_
        refine r_g rfl (wantF (by exact rfl)) rfl (fun hg => run_ldN rfl ag_46 ty_46 (by exact rfl) rfl hAx) ?_
        refine r_g rfl (wantF (by exact rfl)) rfl (fun hg => run_ldN rfl ag_46 ty_46 (by exact rfl) rfl hAb48) ?_
        refine r_g rfl (wantF (by exact rfl)) rfl (fun hg => run_eqlG (α := Ende) _ _ rfl Try.eqGuardType46 ee_46 (glv (by exact rfl) (fun h => h) hg) (glv (by exact rfl) (fun h => h) hg)) ?_
        refine r_op rfl rfl rfl (run_pick_or rfl (by exact rfl) rfl (fun hq => glv (by exact rfl) (fun h => h) hq)) ?_
        refine r_op rfl rfl rfl (run_asg (v := .bool _) rfl (by exact rfl)) ?_
        refine r_nil ?_
        refine r_blk ?_
        refine r_region ?_
        refine r_op rfl rfl rfl (run_add rfl (by exact rfl) (by exact rfl) (by omega) (by omega)) ?_
        refine r_op rfl rfl rfl (run_mv (v := .int _ _) rfl (by exact rfl)) ?_
        refine r_nil ?_
        refine r_again (k + 1) ?_ ?_ ?_
        ·first | omega | (dsimp only; omega)
        ·refine ⟨(by first | exact rfl | exact congrArg (Value.int _) (by omega) | exact congrArg (Value.int _) (by dsimp only; omega) | exact congrArg (Value.int _) (by simp) | exact congrArg S (by simp)), (congrArg Value.bool (decide_eq_decide.2 ((or_congr_left decide_eq_true_iff).trans (mem_takeS (x := (⟨sx, tx⟩ : Ende)) (l := es) (k := k) (by omega))))), (by first | assumption | omega | (dsimp only; omega) | (simp; done)), hro, hos, hbb9, hAb9, hb, hAs, hbx, hAx, (by first | assumption | omega | (dsimp only; omega) | (simp; done)), hV, hI⟩
        ·repeat (first | (with_reducible exact Agree.merge _ _ _) | (with_reducible exact Agree.refl _ _) | (with_reducible refine Agree.upd ?_ _ _ rfl) | ((with_reducible refine Agree.inner ?_ ?_); (kernel_rfl)))
       ·skip
        refine r_exit rfl ?_
        refine r_seq ?_
        refine r_region ?_
        refine r_op rfl rfl rfl (run_mvb rfl (by exact rfl)) ?_
        refine r_op rfl rfl rfl (run_not rfl (by exact rfl)) ?_
        refine r_nil ?_
        refine r_cond (by exact rfl) (fun hc50 => ?_) (fun hc50 => ?_)
        ·skip
         refine r_region ?_
         refine r_op rfl rfl rfl (run_fa rfl (by exact rfl) fo_43_1) ?_
         refine r_op rfl rfl rfl (run_ld1 rfl ag_41 (by exact rfl) (hAb9.cell 1 (by exact rfl))) ?_
         refine r_op rfl rfl rfl (run_ldN rfl ag_46 ty_46 (by exact rfl) rfl hAx) ?_
         refine r_append1E (u := .agg _) (y := (⟨sx, tx⟩ : Ende)) rfl rfl Try.underlying41 ty_46 (by exact rfl) hos (fun _ => (by exact rfl)) (by exact rfl) (by first | exact rfl | (show _ = List.toArray [_, _]; first | (dsimp only; done) | exact rfl | (dsimp only; exact rfl))) ((by first | omega | (simp; omega))) ((by first | omega | (simp; omega))) (by omega) ?_
         intro q_v51 v51 w52 hEw52 hov51 hlv51
         have hs_w52 := (hEw52).size
         replace hV := evo_stepo hV hEw52 (fun g hg => .inl (by first | exact (hos.block hg).1 | (have := hos.block hg; omega)))
         replace hI := evo_stepo hI hEw52 (fun g hg => .inl (by first | exact (hos.block hg).1 | (have := hos.block hg; omega)))
         replace hl := hl0 _ hV
         replace hbb9 := hbb9.evo hEw52 (by intro hm; have hm2 := Option.mem_toList.1 hm; have := hos.block hm2; omega)
         replace hAb9 := hAb9.evo hEw52 (by intro hm; have hm2 := Option.mem_toList.1 hm; have := hos.block hm2; omega)
         replace hb := hb.evo hEw52 (by intro hm; have hm2 := Option.mem_toList.1 hm; have := hos.block hm2; omega)
         have hos := hov51
         refine r_op rfl rfl rfl (run_fa rfl (by exact rfl) fo_43_1) ?_
         obtain ⟨ao53, cp53, hv53⟩ := hos.shape
         subst hv53
         refine r_store (v := .slice _ _ _) (vs := [_]) (cs' := [_, _]) (by exact rfl) (by exact rfl) hbb9 ty_41 (by exact rfl) rfl (by exact rfl) rfl (by exact rfl) ?_
         intro w54 hEw54 hzw54 hb_new
         have hs_w54 := (hEw54).size
         replace hV := evo_step1 hV hEw54 (by first | exact .inl (by omega) | exact .inr (by simp))
         replace hI := evo_step1 hI hEw54 (by first | exact .inl (by omega) | exact .inr (by simp))
         replace hl := hl0 _ hV
         replace hb := hb.evo hEw54 (by simp; omega)
         replace hos := hos.evo hEw54 (by intro g hg hm; simp at hm; subst hm; have := hos.block hg; omega)
         replace hbb9 := hb_new
         have hAb9 := hbb9.at
         clear hb_new
         refine r_nil ?_
         refine r_blk ?_
         refine r_region ?_
         refine r_op rfl rfl rfl (run_mv (v := .int _ _) rfl (by exact rfl)) ?_
         refine r_op rfl rfl rfl (run_sub rfl (by exact rfl) (by exact rfl) (by omega) (by omega)) ?_
         refine r_op rfl rfl rfl (run_asg (v := .int _ _) rfl (by exact rfl)) ?_
         refine r_nil ?_
         refine r_again (kk - 1) ?_ ?_ ?_
         ·first | omega | (dsimp only; omega)
         ·refine ⟨_, _, _, (by first | exact rfl | exact congrArg (Value.int _) (by omega) | exact congrArg (Value.int _) (by dsimp only; omega) | exact congrArg (Value.int _) (by simp) | exact congrArg S (by simp)), hos, hbb9, hbb9.at, hb, hb.at, (by first | exact hME | exact hME.snoc (by have h8 := hc50; rw [List.take_of_length_le (by omega)] at h8; exact fun h9 => h8 (decide_eq_true h9)) hsx htx), (by first | omega | (simp; omega)), (by first | assumption | omega | (dsimp only; omega) | (simp; done)), hV, hI⟩
         ·repeat (first | (with_reducible exact Agree.merge _ _ _) | (with_reducible exact Agree.refl _ _) | (with_reducible refine Agree.upd ?_ _ _ rfl) | ((with_reducible refine Agree.inner ?_ ?_); (kernel_rfl)))
        ·skip
         refine r_skip ?_
         refine r_blk ?_
         refine r_region ?_
         refine r_op rfl rfl rfl (run_mv (v := .int _ _) rfl (by exact rfl)) ?_
         refine r_op rfl rfl rfl (run_sub rfl (by exact rfl) (by exact rfl) (by omega) (by omega)) ?_
         refine r_op rfl rfl rfl (run_asg (v := .int _ _) rfl (by exact rfl)) ?_
         refine r_nil ?_
         refine r_again (kk - 1) ?_ ?_ ?_
         ·first | omega | (dsimp only; omega)
         ·refine ⟨_, _, _, (by first | exact rfl | exact congrArg (Value.int _) (by omega) | exact congrArg (Value.int _) (by dsimp only; omega) | exact congrArg (Value.int _) (by simp) | exact congrArg S (by simp)), hos, hbb9, hbb9.at, hb, hb.at, (by first | exact hME | exact hME.snoc (by have h8 := hc50; rw [List.take_of_length_le (by omega)] at h8; exact fun h9 => h8 (decide_eq_true h9)) hsx htx), (by first | omega | (simp; omega)), (by first | assumption | omega | (dsimp only; omega) | (simp; done)), hV, hI⟩
         ·repeat (first | (with_reducible exact Agree.merge _ _ _) | (with_reducible exact Agree.refl _ _) | (with_reducible refine Agree.upd ?_ _ _ rfl) | ((with_reducible refine Agree.inner ?_ ?_); (kernel_rfl)))
    ·skip
     refine r_exit rfl ?_
     have hoR := hoR0.evoY hI (by simp; omega)
     clear hoR0
     obtain ⟨aoS, cpS, hvS⟩ := hos.shape
     subst hvS
     refine r_region ?_
     refine r_op rfl rfl rfl (run_mv (v := vo) rfl (by exact rfl)) ?_
     refine r_op rfl rfl rfl (run_ldN rfl ag_43 ty_43 (by exact rfl) rfl hAb9) ?_
     refine r_append1R (u := .agg _) (us := [_, _]) rfl rfl Try.underlying22 ty_43 (by exact rfl) rfl rfl hoR (fun _ => (by exact rfl)) (by exact rfl) (by exact rfl) rfl (by exact rfl) (clas_own _ hos (by simp; omega) (fun g hg => by have := hobR g hg; omega) (made_bdC hME (by omega) (by omega))) ((by first | omega | (simp; omega))) ((by first | omega | (simp; omega))) (by omega) ?_
     intro q_v55 v55 w56 hEw56 hov55 hlv55
     have hs_w56 := (hEw56).size
     replace hV := evo_stepo hV hEw56 (fun g hg => .inl (by first | exact (hoR.block hg).1 | (have := hoR.block hg; omega)))
     replace hl := hl0 _ hV
     replace hb := hb.evo hEw56 (by intro hm; have hm2 := Option.mem_toList.1 hm; have := hoR.block hm2; omega)
     refine r_op rfl rfl rfl (run_asg (v := v55) rfl (by exact rfl)) ?_
     refine r_nil ?_
     refine r_blk ?_
     refine r_region ?_
     refine r_op rfl rfl rfl (run_mv (v := .int _ _) rfl (by exact rfl)) ?_
     refine r_op rfl rfl rfl (run_sub rfl (by exact rfl) (by exact rfl) (by omega) (by omega)) ?_
     refine r_op rfl rfl rfl (run_asg (v := .int _ _) rfl (by exact rfl)) ?_
     refine r_nil ?_
     refine r_again (i - 1) ?_ ?_ ?_
     ·first | omega | (dsimp only; omega)
     ·refine ⟨_, _, _, (by first | exact rfl | exact congrArg (Value.int _) (by omega) | exact congrArg (Value.int _) (by dsimp only; omega) | exact congrArg (Value.int _) (by simp) | exact congrArg S (by simp)), rfl, hov55, hb, hb.at, (hMP.snoc (by omega) rfl hME (by omega)), (by first | assumption | omega | (dsimp only; omega) | (simp; done)), (by first | assumption | omega | (dsimp only; omega) | (simp; done)), hV⟩
     ·repeat (first | (with_reducible exact Agree.merge _ _ _) | (with_reducible exact Agree.refl _ _) | (with_reducible refine Agree.upd ?_ _ _ rfl) | ((with_reducible refine Agree.inner ?_ ?_); (kernel_rfl)))
  ·skip
   refine r_exit rfl ?_
   refine r_seq ?_
   refine r_region ?_
   refine r_op rfl rfl rfl (run_mv (v := vo) rfl (by exact rfl)) ?_
   refine r_op rfl rfl rfl (run_asg (v := vo) rfl (by exact rfl)) ?_
   refine r_nil ?_
   refine r_ret (res1 (v := vo) rfl (by exact rfl)) ?_
   exact ⟨_, cl, _, N1, rfl, ⟨(by rw [show i = 0 by omega] at hMP; exact hMP), by omega⟩, by omega, hV, hb, hoR.sub (by omega) (by simp)⟩

end Go.Proofs.Ytomklacppmaljaa

namespace Go.Proofs.Ytomklacppmaljaa
open Go.RowKit Go.Vc
theorem bigx_calls {w0 : World} {ao : Option Addr} {b off cap : Nat} {c : List Clas} (hc : RowR w0 ao b off cap c) :
    Calls Try.prog 22 #[.slice ao c.length cap] w0 fun e w' => ∃ x, e = .returned (.bool x) ∧ True ∧ Evo w0 w' [] := (big_calls hc).mono fun e w' ⟨x, h1, h2⟩ => ⟨x, h1, trivial, h2⟩

end Go.Proofs.Ytomklacppmaljaa

namespace Go.Proofs.Ytomklacppmaljaa
open Go.RowKit Go.Vc

theorem pos_all {α : Type} [Inhabited α] {l : List α} {x : α} {k : Nat} (h : ∀ j, j < k → ¬ x = l.getD j default) (hk : l.length ≤ k) : ¬ x ∈ l := fun hx => by
  obtain ⟨j, hj, rfl⟩ := List.mem_iff_getElem.1 hx
  exact h j (by omega) (by simp [List.getD, hj])
theorem pos_at {α : Type} [Inhabited α] {l : List α} {x : α} {k : Nat} (hk : k < l.length) (h : x = l.getD k default) : x ∈ l := by rw [h]; exact getD_in hk
def endedL (b : List Ende) (x : Ende) : Int := if (smallL x.strip = true ∧ x.strip.length ≤ 8) ∧ (smallL x.add = true ∧ x.add.length ≤ 8) then (if x ∈ b then 5 else 0) else 1
/-- the first number that is not 0 -/
def firstE (f : Nat → Int) : Nat → Int
  | 0 => 0
  | n + 1 => if firstE f n = 0 then f n else firstE f n
theorem firstE_none {f : Nat → Int} : ∀ {n : Nat}, (∀ j, j < n → f j = 0) → firstE f n = 0
  | 0, _ => rfl
  | n + 1, h => by unfold firstE; rw [if_pos (firstE_none (fun j hj => h j (by omega)))]; exact h n (by omega)
theorem firstE_at {f : Nat → Int} {k : Nat} (h : ∀ j, j < k → f j = 0) (hk : ¬ f k = 0) : ∀ {n : Nat}, k < n → firstE f n = f k
  | 0, h1 => by omega
  | n + 1, h1 => by
    by_cases e : k = n
    · subst e; unfold firstE; rw [if_pos (firstE_none h)]
    · have := firstE_at h hk (n := n) (by omega)
      unfold firstE; rw [this, if_neg hk]
def endsErr (es : List Ende) : Int := firstE (fun k => endedL (es.take k) (es.getD k default)) es.length
def classErr (c : List Clas) (i : Nat) : Int := if namedL (c.take i) (c.getD i default).name = 0 then (if 16 < (c.getD i default).ends.length then 3 else endsErr (c.getD i default).ends) else namedL (c.take i) (c.getD i default).name
def validC (c : List Clas) : Int := if 32 < c.length then 3 else firstE (classErr c) c.length
theorem cls_named {c : List Clas} {i : Nat} (h : ¬ namedL (c.take i) (c.getD i default).name = 0) : classErr c i = namedL (c.take i) (c.getD i default).name := by unfold classErr; rw [if_neg h]
theorem cls_many {c : List Clas} {i : Nat} (h : namedL (c.take i) (c.getD i default).name = 0) (h2 : 16 < (c.getD i default).ends.length) : classErr c i = 3 := by unfold classErr; rw [if_pos h, if_pos h2]
theorem cls_ends {c : List Clas} {i : Nat} (h : namedL (c.take i) (c.getD i default).name = 0) (h2 : ¬ 16 < (c.getD i default).ends.length) : classErr c i = endsErr (c.getD i default).ends := by unfold classErr; rw [if_pos h, if_neg h2]
theorem valid_at {c : List Clas} {i : Nat} {e : Int} (h : ¬ 32 < c.length) (h1 : ∀ j, j < i → classErr c j = 0) (h2 : classErr c i = e) (h3 : ¬ e = 0) (hi : i < c.length) : validC c = e := by
  unfold validC; rw [if_neg h, firstE_at h1 (by rw [h2]; exact h3) hi, h2]
theorem valid_ok {c : List Clas} {i : Nat} (h : ¬ 32 < c.length) (h1 : ∀ j, j < i → classErr c j = 0) (hi : c.length ≤ i) : validC c = 0 := by
  unfold validC; rw [if_neg h, firstE_none (fun j hj => h1 j (by omega))]
theorem ends_err {es : List Ende} {k : Nat} (h : ∀ j, j < k → endedL (es.take j) (es.getD j default) = 0) (h2 : ¬ endedL (es.take k) (es.getD k default) = 0) (hk : k < es.length) : endsErr es = endedL (es.take k) (es.getD k default) := firstE_at h h2 hk
theorem ends_ok {es : List Ende} {k : Nat} (h : ∀ j, j < k → endedL (es.take j) (es.getD j default) = 0) (hk : es.length ≤ k) : endsErr es = 0 := firstE_none (fun j hj => h j (by omega))

theorem ixende_calls {ao : Option Addr} {b off cap : Nat} {es : List Ende} {x : Ende} {w0 : World} (he : RowE w0 ao b off cap es) :
    Calls Try.prog 152 #[.slice ao es.length cap, (.agg (Enc.enc x).toArray)] w0 fun e w' => ∃ z : Int, e = .returned (.int .i64 z) ∧ (0 ≤ z ↔ x ∈ es) ∧ Evo w0 w' [] := by
 refine calls_enter (n := 19) (args := [.slice ao es.length cap, (.agg (Enc.enc x).toArray)]) Try.func152 rfl Try.ntmps152 rfl ?_
 have hV : Evo w0 w0 [] := Evo.refl _ _
 have he0 := keepE he
 have hbd_he := he.bd
 refine r_seq ?_
 refine r_region ?_
 refine r_box (vs := [_, _]) (by exact rfl) (by exact rfl) rfl ?_
 intro b1 w2 heb1 hEw2 hbb1 hzb1
 have hs_w2 := (hEw2).size
 replace hV := evo_step0 hV hEw2
 replace he := he0 _ hV
 have hAb1 := hbb1.at
 refine r_op rfl rfl rfl (run_asg (v := .int _ _) rfl (by exact rfl)) ?_
 refine r_nil ?_
 refine r_seq ?_
 refine r_seq ?_
 refine r_region ?_
 refine r_op rfl rfl rfl (run_mv (v := .slice _ _ _) rfl (by exact rfl)) ?_
 refine r_op rfl rfl rfl (run_lenSl rfl (by exact rfl) Try.underlying41) ?_
 refine r_op rfl rfl rfl (run_mv (v := .int _ _) rfl (by exact rfl)) ?_
 refine r_nil ?_
 refine r_block ?_
 refine r_loop (α := Nat) [4, 5, 8, 9, 10, 11, 12, 13, 14, 15, 16, 17, 18] (fun k g w => g 8 = .int .i64 (k : Nat) ∧ k ≤ es.length ∧ Blk w b1 46 (Enc.enc x) ∧ At w b1 0 (Enc.enc x) ∧ (∀ j, j < k → ¬ x = es.getD j default) ∧ w2.heap.size ≤ w.heap.size ∧ Evo w0 w []) (fun k => es.length - k) 0 ?_ ?_
 ·refine ⟨(by first | exact rfl | exact congrArg (Value.int _) (by omega) | exact congrArg (Value.int _) (by dsimp only; omega) | exact congrArg (Value.int _) (by simp) | exact congrArg S (by simp)), (by first | assumption | omega | (dsimp only; omega) | (simp; done)), hbb1, hAb1, (fun j h => by omega), (by first | assumption | omega | (dsimp only; omega) | (simp; done)), hV⟩
 ·rintro k g w4 ⟨hj5, hk_k, hbb1, hAb1, hno, hzl3, hV⟩
  have hs_w4hV := hV.size
  have hlt6 := hbb1.lt
  replace he := he0 _ hV
  refine r_know (i := 8) (v := .int .i64 (k : Nat)) (by exact hj5) ?_
  refine r_seq ?_
  refine r_region ?_
  refine r_op rfl rfl rfl (run_lss rfl (by exact rfl) (by exact rfl)) ?_
  refine r_nil ?_
  refine r_seq ?_
  refine r_cond (by exact rfl) (fun hc7 => ?_) (fun hc7 => ?_)
  ·skip
   refine r_skip ?_
   refine r_seq ?_
   refine r_block ?_
   refine r_seq ?_
   refine r_region ?_
   refine r_op rfl rfl rfl (run_mv (v := .int _ _) rfl (by exact rfl)) ?_
   refine r_op rfl rfl rfl (run_asg (v := .int _ _) rfl (by exact rfl)) ?_
   refine r_nil ?_
   refine r_seq ?_
   have hbb1_q := hbb1
   have hAb1_q := hAb1
   have hV_q := hV
   refine h_region ([]) (by kernel_rfl) ?_
   intro w8 hE9 hCst4
   have hs_w8 := (hE9).size
   replace hV := evo_step0 hV hE9
   replace he := he0 _ hV
   replace hbb1 := hbb1.evo0 hE9
   replace hAb1 := hAb1.evo0 hE9
   refine h_take (i := 0) (by exact rfl) rfl rfl rfl (by kernel_rfl) (fun w' hC => run_ldN rfl ag_46 ty_46 (by exact rfl) rfl (hAb1_q.evo0 hC)) hCst4 ?_
   refine h_take (i := 1) (by exact rfl) rfl rfl rfl (by kernel_rfl) (fun w' hC => run_mv (v := .slice _ _ _) rfl (by exact rfl)) hCst4 ?_
   refine h_take (i := 2) (by exact rfl) rfl rfl rfl (by kernel_rfl) (fun w' hC => run_mv (v := .int _ _) rfl (by exact rfl)) hCst4 ?_
   refine h_take (i := 3) (by exact rfl) rfl rfl rfl (by kernel_rfl) (fun w' hC => run_ix (k) rfl Try.underlying41 ty_46 (by exact rfl) (by exact rfl) (by first | exact rfl | omega) (by omega) (he.addr (i := k) (by omega))) hCst4 ?_
   have hA100 := fun (w' : World) (h : Evo w0 w' []) => (he0 w' h).atD (k) (by omega)
   have hA10 := hA100 _ hV
   refine h_take (i := 4) (by exact rfl) rfl rfl rfl (by kernel_rfl) (fun w' hC => run_ldN rfl ag_46 ty_46 (by exact rfl) rfl (hA100 _ (evo_step0 hV_q hC))) hCst4 ?_
   refine h_take (i := 5) (by exact rfl) rfl rfl rfl (by kernel_rfl) (fun w' hC => run_eqlG (α := Ende) _ _ rfl Try.eqGuardType46 ee_46 (by exact rfl) (by exact rfl)) hCst4 ?_
   refine h_done (by kernel_rfl) ?_
   refine r_cond (by exact rfl) (fun hc11 => ?_) (fun hc11 => ?_)
   ·skip
    refine r_seq ?_
    refine r_region ?_
    refine r_op rfl rfl rfl (run_mv (v := .int _ _) rfl (by exact rfl)) ?_
    refine r_op rfl rfl rfl (run_asg (v := .int _ _) rfl (by exact rfl)) ?_
    refine r_nil ?_
    refine r_ret (res1 (v := .int _ _) rfl (by exact rfl)) ?_
    exact ⟨_, rfl, ⟨fun _ => pos_at (by omega) hc11, fun _ => by omega⟩, hV⟩
   ·skip
    refine r_skip ?_
    refine r_blk ?_
    refine r_region ?_
    refine r_op rfl rfl rfl (run_add rfl (by exact rfl) (by exact rfl) (by omega) (by omega)) ?_
    refine r_op rfl rfl rfl (run_mv (v := .int _ _) rfl (by exact rfl)) ?_
    refine r_nil ?_
    refine r_again (k + 1) ?_ ?_ ?_
    ·first | omega | (dsimp only; omega)
    ·refine ⟨(by first | exact rfl | exact congrArg (Value.int _) (by omega) | exact congrArg (Value.int _) (by dsimp only; omega) | exact congrArg (Value.int _) (by simp) | exact congrArg S (by simp)), (by first | assumption | omega | (dsimp only; omega) | (simp; done)), hbb1, hAb1, (upto0 hno hc11), (by first | assumption | omega | (dsimp only; omega) | (simp; done)), hV⟩
    ·repeat (first | (with_reducible exact Agree.merge _ _ _) | (with_reducible exact Agree.refl _ _) | (with_reducible refine Agree.upd ?_ _ _ rfl) | ((with_reducible refine Agree.inner ?_ ?_); (kernel_rfl)))
  ·skip
   refine r_exit rfl ?_
   refine r_seq ?_
   refine r_region ?_
   refine r_op rfl rfl rfl (run_asg (v := .int _ _) rfl (by exact rfl)) ?_
   refine r_nil ?_
   refine r_ret (res1 (v := .int _ _) rfl (by exact rfl)) ?_
   exact ⟨_, rfl, ⟨fun h => by omega, fun h => absurd h (pos_all hno (by omega))⟩, hV⟩

theorem contende_calls {ao : Option Addr} {b off cap : Nat} {es : List Ende} {x : Ende} {w0 : World} (he : RowE w0 ao b off cap es) :
    Calls Try.prog 118 #[.slice ao es.length cap, (.agg (Enc.enc x).toArray)] w0 fun e w' => e = .returned (.bool (decide (x ∈ es))) ∧ Evo w0 w' [] := by
 refine calls_enter (n := 9) (args := [.slice ao es.length cap, (.agg (Enc.enc x).toArray)]) Try.func118 rfl Try.ntmps118 rfl ?_
 have hV : Evo w0 w0 [] := Evo.refl _ _
 have he0 := keepE he
 have hbd_he := he.bd
 refine r_seq ?_
 refine r_region ?_
 refine r_box (vs := [_, _]) (by exact rfl) (by exact rfl) rfl ?_
 intro b1 w2 heb1 hEw2 hbb1 hzb1
 have hs_w2 := (hEw2).size
 replace hV := evo_step0 hV hEw2
 replace he := he0 _ hV
 have hAb1 := hbb1.at
 refine r_op rfl rfl rfl (run_asg (v := .bool _) rfl (by exact rfl)) ?_
 refine r_nil ?_
 refine r_seq ?_
 refine r_region ?_
 refine r_op rfl rfl rfl (run_mv (v := .slice _ _ _) rfl (by exact rfl)) ?_
 refine r_op rfl rfl rfl (run_ldN rfl ag_46 ty_46 (by exact rfl) rfl hAb1) ?_
 refine r_opcall rfl rfl rfl (run_callf (vs := [.slice _ _ _, .agg _]) rfl (by exact rfl) Try.func152 rfl (by kernel_rfl)) (ixende_calls he) ?_
 rintro e w3 ⟨zx3, rfl, hzx3, hE3⟩
 refine ⟨_, rfl, ?_⟩
 have hs_w3 := (hE3).size
 replace hV := evo_step0 hV hE3
 replace he := he0 _ hV
 refine r_op rfl rfl rfl (run_geq rfl (by exact rfl) (by exact rfl)) ?_
 refine r_op rfl rfl rfl (run_asg (v := .bool _) rfl (by exact rfl)) ?_
 refine r_nil ?_
 refine r_ret (res1 (v := .bool _) rfl (by exact rfl)) ?_
 exact ⟨ret_bool (decide_eq_decide.2 hzx3), hV⟩

theorem ended_bad {b : List Ende} {p q : Str} (h : ¬ ((smallL p = true ∧ p.length ≤ 8) ∧ (smallL q = true ∧ q.length ≤ 8))) : endedL b ⟨p, q⟩ = 1 := if_neg h
theorem ended_dup {b : List Ende} {p q : Str} (h : (smallL p = true ∧ p.length ≤ 8) ∧ (smallL q = true ∧ q.length ≤ 8)) (h2 : (⟨p, q⟩ : Ende) ∈ b) : endedL b ⟨p, q⟩ = 5 := by unfold endedL; rw [if_pos h, if_pos h2]
theorem ended_ok {b : List Ende} {p q : Str} (h : (smallL p = true ∧ p.length ≤ 8) ∧ (smallL q = true ∧ q.length ≤ 8)) (h2 : ¬ (⟨p, q⟩ : Ende) ∈ b) : endedL b ⟨p, q⟩ = 0 := by unfold endedL; rw [if_pos h, if_neg h2]

theorem end_c1 {p q : Str} : ((8 : Int) < (p.length : Int) ∨ (8 : Int) < (q.length : Int) ∨ smallL p = false ∨ smallL q = false) ↔ ¬ ((smallL p = true ∧ p.length ≤ 8) ∧ (smallL q = true ∧ q.length ≤ 8)) := by
  by_cases h1 : smallL p = true <;> by_cases h2 : smallL q = true <;> simp [h1, h2] <;> omega
theorem end_n1 {p q : Str} (h : (((p.length : Int) ≤ 8 ∧ (q.length : Int) ≤ 8) ∧ smallL p = true) ∧ smallL q = true) : (smallL p = true ∧ p.length ≤ 8) ∧ (smallL q = true ∧ q.length ≤ 8) := ⟨⟨h.1.2, by omega⟩, h.2, by omega⟩
theorem end_n2 {p q : Str} (h : (smallL p = true ∧ p.length ≤ 8) ∧ smallL q = true ∧ q.length ≤ 8) : (smallL p = true ∧ p.length ≤ 8) ∧ (smallL q = true ∧ q.length ≤ 8) := h
theorem end_c2 {p q : Str} : ((smallL p = false ∨ 8 < p.length) ∨ smallL q = false ∨ 8 < q.length) ↔ ¬ ((smallL p = true ∧ p.length ≤ 8) ∧ (smallL q = true ∧ q.length ≤ 8)) := by
  by_cases h1 : smallL p = true <;> by_cases h2 : smallL q = true <;> simp [h1, h2] <;> omega

theorem ending_calls {ao : Option Addr} {b off cap : Nat} {es : List Ende} {p q : Str} {w0 : World} (he : RowE w0 ao b off cap es) (hp : p.length ≤ 140737488355328) (hq : q.length ≤ 140737488355328) :
    Calls Try.prog 79 #[.slice ao es.length cap, (.agg #[S p, S q])] w0 fun e w' => e = .returned (.int .i64 (endedL es ⟨p, q⟩)) ∧ Evo w0 w' [] := by
 refine calls_enter (n := 32) (args := [.slice ao es.length cap, (.agg #[S p, S q])]) Try.func79 rfl Try.ntmps79 rfl ?_
 have hV : Evo w0 w0 [] := Evo.refl _ _
 have he0 := keepE he
 have hbd_he := he.bd
 refine r_seq ?_
 refine r_region ?_
 refine r_box (vs := [_, _]) (by exact rfl) (by exact rfl) rfl ?_
 intro b1 w2 heb1 hEw2 hbb1 hzb1
 have hs_w2 := (hEw2).size
 replace hV := evo_step0 hV hEw2
 replace he := he0 _ hV
 have hAb1 := hbb1.at
 refine r_op rfl rfl rfl (run_asg (v := .int _ _) rfl (by exact rfl)) ?_
 refine r_nil ?_
 refine r_seq ?_
 refine r_block ?_
 refine r_seq ?_
 refine r_region ?_
 refine r_op rfl rfl rfl (run_fa rfl (by exact rfl) fo_46_0) ?_
 refine r_op rfl rfl rfl (run_ld1 rfl ag_9 (by exact rfl) (hAb1.cell 0 (by exact rfl))) ?_
 refine r_op rfl rfl rfl (run_lenS rfl (by exact rfl) Try.underlying9) ?_
 refine r_op rfl rfl rfl (run_gtr rfl (by exact rfl) (by exact rfl)) ?_
 refine r_op rfl rfl rfl (run_mv (v := .bool _) rfl (by exact rfl)) ?_
 refine r_g rfl (wantF (by exact rfl)) rfl (fun hg => run_fa rfl (by exact rfl) fo_46_1) ?_
 refine r_g rfl (wantF (by exact rfl)) rfl (fun hg => run_ld1 rfl ag_9 (glv (by exact rfl) (fun h => h) hg) (hAb1.cell 1 (by exact rfl))) ?_
 refine r_g rfl (wantF (by exact rfl)) rfl (fun hg => run_lenS rfl (glv (by exact rfl) (fun h => h) hg) Try.underlying9) ?_
 refine r_g rfl (wantF (by exact rfl)) rfl (fun hg => run_gtr rfl (glv (by exact rfl) (fun h => h) hg) (by exact rfl)) ?_
 refine r_op rfl rfl rfl (run_pick_or rfl (by exact rfl) rfl (fun hq => glv (by exact rfl) (fun h => h) hq)) ?_
 refine r_op rfl rfl rfl (run_mv (v := .bool _) rfl (by exact rfl)) ?_
 refine r_g rfl (wantF (by exact rfl)) rfl (fun hg => run_fa rfl (by exact rfl) fo_46_0) ?_
 refine r_g rfl (wantF (by exact rfl)) rfl (fun hg => run_ld1 rfl ag_9 (glv (by exact rfl) (fun h => h) hg) (hAb1.cell 0 (by exact rfl))) ?_
 refine r_gcall rfl (wantF (by exact rfl)) rfl (fun hg => run_callf rfl (argcons (v := S _) (glv (by exact rfl) (fun h => h) hg) (rfl)) Try.func117 rfl (by kernel_rfl)) (fun hg => (small_calls (by first | omega | (simp; omega))).mono (fun e w' h => ⟨h.1, h.2⟩)) (fun w3 hE4 => ?_)
 have hs_w3 := (hE4).size
 replace hV := evo_step0 hV hE4
 replace he := he0 _ hV
 replace hbb1 := hbb1.evo0 hE4
 replace hAb1 := hAb1.evo0 hE4
 refine r_g rfl (wantF (by exact rfl)) rfl (fun hg => run_notb rfl (glv (by exact rfl) (fun h => h) hg)) ?_
 refine r_op rfl rfl rfl (run_pick_orB rfl (by exact rfl) rfl (fun hq => glv (by exact rfl) (fun h => h) hq)) ?_
 refine r_op rfl rfl rfl (run_mv (v := .bool _) rfl (by exact rfl)) ?_
 refine r_g rfl (wantF (by exact rfl)) rfl (fun hg => run_fa rfl (by exact rfl) fo_46_1) ?_
 refine r_g rfl (wantF (by exact rfl)) rfl (fun hg => run_ld1 rfl ag_9 (glv (by exact rfl) (fun h => h) hg) (hAb1.cell 1 (by exact rfl))) ?_
 refine r_gcall rfl (wantF (by exact rfl)) rfl (fun hg => run_callf rfl (argcons (v := S _) (glv (by exact rfl) (fun h => h) hg) (rfl)) Try.func117 rfl (by kernel_rfl)) (fun hg => (small_calls (by first | omega | (simp; omega))).mono (fun e w' h => ⟨h.1, h.2⟩)) (fun w5 hE6 => ?_)
 have hs_w5 := (hE6).size
 replace hV := evo_step0 hV hE6
 replace he := he0 _ hV
 replace hbb1 := hbb1.evo0 hE6
 replace hAb1 := hAb1.evo0 hE6
 refine r_g rfl (wantF (by exact rfl)) rfl (fun hg => run_notb rfl (glv (by exact rfl) (fun h => h) hg)) ?_
 refine r_op rfl rfl rfl (run_pick_orB rfl (by exact rfl) rfl (fun hq => glv (by exact rfl) (fun h => h) hq)) ?_
 refine r_op rfl rfl rfl (run_asg (v := .bool _) rfl (by exact rfl)) ?_
 refine r_nil ?_
 refine r_cond (by exact rfl) (fun hc7 => ?_) (fun hc7 => ?_)
 ·skip
  refine r_seq ?_
  refine r_region ?_
  refine r_op rfl rfl rfl (run_asg (v := .int _ _) rfl (by exact rfl)) ?_
  refine r_nil ?_
  refine r_ret (res1 (v := .int _ _) rfl (by exact rfl)) ?_
  exact ⟨ret_int (by rw [ended_bad (end_c1.1 (by simpa [or_assoc] using hc7))]), hV⟩
 ·skip
  refine r_seq ?_
  refine r_region ?_
  refine r_op rfl rfl rfl (run_mv (v := .slice _ _ _) rfl (by exact rfl)) ?_
  refine r_op rfl rfl rfl (run_ldN rfl ag_46 ty_46 (by exact rfl) rfl hAb1) ?_
  refine r_opcall rfl rfl rfl (run_callf (vs := [.slice _ _ _, .agg _]) rfl (by exact rfl) Try.func118 rfl (by kernel_rfl)) (contende_calls (x := ⟨p, q⟩) he) ?_
  rintro e w8 ⟨rfl, hE8⟩
  refine ⟨_, rfl, ?_⟩
  have hs_w8 := (hE8).size
  replace hV := evo_step0 hV hE8
  replace he := he0 _ hV
  refine r_op rfl rfl rfl (run_asg (v := .bool _) rfl (by exact rfl)) ?_
  refine r_nil ?_
  refine r_condb (by exact rfl) (fun hc9 => ?_) (fun hc9 => ?_)
  ·skip
   refine r_seq ?_
   refine r_region ?_
   refine r_op rfl rfl rfl (run_asg (v := .int _ _) rfl (by exact rfl)) ?_
   refine r_nil ?_
   refine r_ret (res1 (v := .int _ _) rfl (by exact rfl)) ?_
   exact ⟨ret_int (by rw [ended_dup (end_n1 (by simpa using hc7)) (of_decide_eq_true hc9)]), hV⟩
  ·skip
   refine r_skip ?_
   refine r_blk ?_
   refine r_seq ?_
   refine r_region ?_
   refine r_op rfl rfl rfl (run_asg (v := .int _ _) rfl (by exact rfl)) ?_
   refine r_nil ?_
   refine r_ret (res1 (v := .int _ _) rfl (by exact rfl)) ?_
   exact ⟨ret_int (by rw [ended_ok (end_n1 (by simpa using hc7)) (of_decide_eq_false hc9)]), hV⟩

theorem rended_calls {ao : Option Addr} {b off cap : Nat} {es : List Ende} {p q : Str} {w0 : World} (he : RowE w0 ao b off cap es) (hp : p.length ≤ 140737488355328) (hq : q.length ≤ 140737488355328) :
    Calls Try.prog 81 #[.slice ao es.length cap, (.agg #[S p, S q])] w0 fun e w' => e = .returned (.int .i64 (endedL es ⟨p, q⟩)) ∧ Evo w0 w' [] := by
 refine calls_enter (n := 27) (args := [.slice ao es.length cap, (.agg #[S p, S q])]) Try.func81 rfl Try.ntmps81 rfl ?_
 have hV : Evo w0 w0 [] := Evo.refl _ _
 have he0 := keepE he
 have hbd_he := he.bd
 refine r_seq ?_
 refine r_region ?_
 refine r_box (vs := [_, _]) (by exact rfl) (by exact rfl) rfl ?_
 intro b1 w2 heb1 hEw2 hbb1 hzb1
 have hs_w2 := (hEw2).size
 replace hV := evo_step0 hV hEw2
 replace he := he0 _ hV
 have hAb1 := hbb1.at
 refine r_op rfl rfl rfl (run_asg (v := .int _ _) rfl (by exact rfl)) ?_
 refine r_nil ?_
 refine r_seq ?_
 refine r_seq ?_
 refine r_region ?_
 refine r_op rfl rfl rfl (run_fa rfl (by exact rfl) fo_46_0) ?_
 refine r_op rfl rfl rfl (run_ld1 rfl ag_9 (by exact rfl) (hAb1.cell 0 (by exact rfl))) ?_
 refine r_opcall rfl rfl rfl (run_callf (vs := [S _]) rfl (by exact rfl) Try.func120 rfl (by kernel_rfl)) (rsmall_calls (by first | omega | (simp; omega))) ?_
 rintro e w3 ⟨rfl, hE3⟩
 refine ⟨_, rfl, ?_⟩
 have hs_w3 := (hE3).size
 replace hV := evo_step0 hV hE3
 replace he := he0 _ hV
 replace hbb1 := hbb1.evo0 hE3
 replace hAb1 := hAb1.evo0 hE3
 refine r_op rfl rfl rfl (run_notb rfl (by exact rfl)) ?_
 refine r_op rfl rfl rfl (run_mvb rfl (by exact rfl)) ?_
 refine r_g rfl (wantF (by exact rfl)) rfl (fun hg => run_fa rfl (by exact rfl) fo_46_1) ?_
 refine r_g rfl (wantF (by exact rfl)) rfl (fun hg => run_ld1 rfl ag_9 (glv (by exact rfl) (fun h => h) hg) (hAb1.cell 1 (by exact rfl))) ?_
 refine r_gcall rfl (wantF (by exact rfl)) rfl (fun hg => run_callf rfl (argcons (v := S _) (glv (by exact rfl) (fun h => h) hg) (rfl)) Try.func120 rfl (by kernel_rfl)) (fun hg => (rsmall_calls (by first | omega | (simp; omega))).mono (fun e w' h => ⟨h.1, h.2⟩)) (fun w4 hE5 => ?_)
 have hs_w4 := (hE5).size
 replace hV := evo_step0 hV hE5
 replace he := he0 _ hV
 replace hbb1 := hbb1.evo0 hE5
 replace hAb1 := hAb1.evo0 hE5
 refine r_g rfl (wantF (by exact rfl)) rfl (fun hg => run_notb rfl (glv (by exact rfl) (fun h => h) hg)) ?_
 refine r_op rfl rfl rfl (run_pick_orB rfl (by exact rfl) rfl (fun hq => glv (by exact rfl) (fun h => h) hq)) ?_
 refine r_nil ?_
 refine r_cond (by exact rfl) (fun hc6 => ?_) (fun hc6 => ?_)
 ·skip
  refine r_seq ?_
  refine r_region ?_
  refine r_op rfl rfl rfl (run_asg (v := .int _ _) rfl (by exact rfl)) ?_
  refine r_nil ?_
  refine r_ret (res1 (v := .int _ _) rfl (by exact rfl)) ?_
  exact ⟨ret_int (by rw [ended_bad (end_c2.1 (by simpa using hc6))]), hV⟩
 ·skip
  refine r_skip ?_
  refine r_seq ?_
  refine r_seq ?_
  refine r_region ?_
  refine r_op rfl rfl rfl (run_mv (v := .slice _ _ _) rfl (by exact rfl)) ?_
  refine r_op rfl rfl rfl (run_lenSl rfl (by exact rfl) Try.underlying41) ?_
  refine r_op rfl rfl rfl (run_mv (v := .int _ _) rfl (by exact rfl)) ?_
  refine r_nil ?_
  refine r_block ?_
  refine r_loop (α := Nat) [4, 6, 19, 20, 21, 22, 23, 24, 25, 26] (fun k g w => g 19 = .int .i64 (k : Nat) ∧ k ≤ es.length ∧ Blk w b1 46 (Enc.enc (⟨p, q⟩ : Ende)) ∧ At w b1 0 (Enc.enc (⟨p, q⟩ : Ende)) ∧ (∀ j, j < k → ¬ (⟨p, q⟩ : Ende) = es.getD j default) ∧ w4.heap.size ≤ w.heap.size ∧ Evo w0 w []) (fun k => es.length - k) 0 ?_ ?_
  ·refine ⟨(by first | exact rfl | exact congrArg (Value.int _) (by omega) | exact congrArg (Value.int _) (by dsimp only; omega) | exact congrArg (Value.int _) (by simp) | exact congrArg S (by simp)), (by first | assumption | omega | (dsimp only; omega) | (simp; done)), hbb1, hAb1, (fun j h => by omega), (by first | assumption | omega | (dsimp only; omega) | (simp; done)), hV⟩
  ·rintro k g w8 ⟨hj9, hk_k, hbb1, hAb1, hno, hzl7, hV⟩
   have hs_w8hV := hV.size
   have hlt10 := hbb1.lt
   replace he := he0 _ hV
   refine r_know (i := 19) (v := .int .i64 (k : Nat)) (by exact hj9) ?_
   refine r_seq ?_
   refine r_region ?_
   refine r_op rfl rfl rfl (run_lss rfl (by exact rfl) (by exact rfl)) ?_
   refine r_nil ?_
   refine r_seq ?_
   refine r_cond (by exact rfl) (fun hc11 => ?_) (fun hc11 => ?_)
   ·skip
    refine r_skip ?_
    refine r_seq ?_
    refine r_block ?_
    refine r_seq ?_
    refine r_region ?_
    refine r_op rfl rfl rfl (run_ix (k) rfl Try.underlying41 ty_46 (by exact rfl) (by exact rfl) (by first | exact rfl | omega) (by omega) (he.addr (i := k) (by omega))) ?_
    have hA120 := fun (w' : World) (h : Evo w0 w' []) => (he0 w' h).atD (k) (by omega)
    have hA12 := hA120 _ hV
    refine r_op rfl rfl rfl (run_ldN rfl ag_46 ty_46 (by exact rfl) rfl hA12) ?_
    refine r_var (zs := [_, _]) (vs := [_, _]) ty_46 (by exact rfl) rfl (by exact rfl) (fun _ => rfl) (by exact rfl) rfl rfl (by exact rfl) ?_
    intro b13 w14 heb13 hEw14 hbb13 hzb13
    have hs_w14 := (hEw14).size
    replace hV := evo_step0 hV hEw14
    replace he := he0 _ hV
    replace hbb1 := hbb1.evo0 hEw14
    replace hAb1 := hAb1.evo0 hEw14
    have hAb13 := hbb13.at
    refine r_nil ?_
    refine r_seq ?_
    refine r_region ?_
    refine r_op rfl rfl rfl (run_ldN rfl ag_46 ty_46 (by exact rfl) rfl hAb1) ?_
    refine r_op rfl rfl rfl (run_ldN rfl ag_46 ty_46 (by exact rfl) rfl hAb13) ?_
    refine r_op rfl rfl rfl (run_eqlG (α := Ende) _ _ rfl Try.eqGuardType46 ee_46 (by exact rfl) (by exact rfl)) ?_
    refine r_nil ?_
    refine r_cond (by exact rfl) (fun hc15 => ?_) (fun hc15 => ?_)
    ·skip
     refine r_seq ?_
     refine r_region ?_
     refine r_op rfl rfl rfl (run_asg (v := .int _ _) rfl (by exact rfl)) ?_
     refine r_nil ?_
     refine r_ret (res1 (v := .int _ _) rfl (by exact rfl)) ?_
     exact ⟨ret_int (by rw [ended_dup (end_n2 (by simpa using hc6)) (pos_at (by omega) hc15)]), hV⟩
    ·skip
     refine r_skip ?_
     refine r_blk ?_
     refine r_region ?_
     refine r_op rfl rfl rfl (run_add rfl (by exact rfl) (by exact rfl) (by omega) (by omega)) ?_
     refine r_op rfl rfl rfl (run_mv (v := .int _ _) rfl (by exact rfl)) ?_
     refine r_nil ?_
     refine r_again (k + 1) ?_ ?_ ?_
     ·first | omega | (dsimp only; omega)
     ·refine ⟨(by first | exact rfl | exact congrArg (Value.int _) (by omega) | exact congrArg (Value.int _) (by dsimp only; omega) | exact congrArg (Value.int _) (by simp) | exact congrArg S (by simp)), (by first | assumption | omega | (dsimp only; omega) | (simp; done)), hbb1, hAb1, (upto0 hno hc15), (by first | assumption | omega | (dsimp only; omega) | (simp; done)), hV⟩
     ·repeat (first | (with_reducible exact Agree.merge _ _ _) | (with_reducible exact Agree.refl _ _) | (with_reducible refine Agree.upd ?_ _ _ rfl) | ((with_reducible refine Agree.inner ?_ ?_); (kernel_rfl)))
   ·skip
    refine r_exit rfl ?_
    refine r_seq ?_
    refine r_region ?_
    refine r_op rfl rfl rfl (run_asg (v := .int _ _) rfl (by exact rfl)) ?_
    refine r_nil ?_
    refine r_ret (res1 (v := .int _ _) rfl (by exact rfl)) ?_
    exact ⟨ret_int (by rw [ended_ok (end_n2 (by simpa using hc6)) (pos_all hno (by omega))]), hV⟩

end Go.Proofs.Ytomklacppmaljaa

namespace Go.Proofs.Ytomklacppmaljaa
open Go.RowKit Go.Vc

theorem validate_calls {ao : Option Addr} {b off cap : Nat} {c : List Clas} {w0 : World} (hc : RowR w0 ao b off cap c) :
    Calls Try.prog 34 #[.slice ao c.length cap] w0 fun e w' => e = .returned (.int .i64 (validC c)) ∧ Evo w0 w' [] := by
 have hcb := clas_bd hc
 refine calls_enter (n := 51) (args := [.slice ao c.length cap]) Try.func34 rfl Try.ntmps34 rfl ?_
 have hV : Evo w0 w0 [] := Evo.refl _ _
 have hc0 := hc.keep
 have hbd_hc := hc.bd
 refine r_seq ?_
 refine r_region ?_
 refine r_op rfl rfl rfl (run_asg (v := .int _ _) rfl (by exact rfl)) ?_
 refine r_nil ?_
 refine r_seq ?_
 refine r_seq ?_
 refine r_region ?_
 refine r_op rfl rfl rfl (run_mv (v := .slice _ _ _) rfl (by exact rfl)) ?_
 refine r_op rfl rfl rfl (run_lenSl rfl (by exact rfl) Try.underlying22) ?_
 refine r_op rfl rfl rfl (run_gtr rfl (by exact rfl) (by exact rfl)) ?_
 refine r_nil ?_
 refine r_cond (by exact rfl) (fun hc1 => ?_) (fun hc1 => ?_)
 ·skip
  refine r_seq ?_
  refine r_region ?_
  refine r_op rfl rfl rfl (run_asg (v := .int _ _) rfl (by exact rfl)) ?_
  refine r_nil ?_
  refine r_ret (res1 (v := .int _ _) rfl (by exact rfl)) ?_
  exact ⟨ret_int (by unfold validC; rw [if_pos (by omega)]), hV⟩
 ·skip
  refine r_skip ?_
  refine r_seq ?_
  refine r_seq ?_
  refine r_region ?_
  refine r_op rfl rfl rfl (run_mv (v := .slice _ _ _) rfl (by exact rfl)) ?_
  refine r_op rfl rfl rfl (run_lenSl rfl (by exact rfl) Try.underlying22) ?_
  refine r_op rfl rfl rfl (run_mv (v := .int _ _) rfl (by exact rfl)) ?_
  refine r_nil ?_
  refine r_block ?_
  refine r_loop (α := Nat) [2, 3, 4, 5, 6, 7, 8, 14, 15, 16, 17, 18, 19, 20, 21, 22, 23, 24, 25, 26, 27, 28, 29, 30, 31, 32, 33, 34, 35, 36, 37, 38, 39, 40, 41, 42, 43, 44, 45, 46, 47, 48, 49, 50] (fun i g w => g 14 = .int .i64 (i : Nat) ∧ i ≤ c.length ∧ (∀ j, j < i → classErr c j = 0) ∧ w0.heap.size ≤ w.heap.size ∧ Evo w0 w []) (fun i => c.length - i) 0 ?_ ?_
  ·refine ⟨(by first | exact rfl | exact congrArg (Value.int _) (by omega) | exact congrArg (Value.int _) (by dsimp only; omega) | exact congrArg (Value.int _) (by simp) | exact congrArg S (by simp)), (by first | assumption | omega | (dsimp only; omega) | (simp; done)), (fun j h => by omega), (by first | assumption | omega | (dsimp only; omega) | (simp; done)), hV⟩
  ·rintro i g w3 ⟨hj4, hk_i, hno, hzl2, hV⟩
   have hs_w3hV := hV.size
   replace hc := hc0.now hV
   refine r_know (i := 14) (v := .int .i64 (i : Nat)) (by exact hj4) ?_
   refine r_seq ?_
   refine r_region ?_
   refine r_op rfl rfl rfl (run_lss rfl (by exact rfl) (by exact rfl)) ?_
   refine r_nil ?_
   refine r_seq ?_
   refine r_cond (by exact rfl) (fun hc5 => ?_) (fun hc5 => ?_)
   ·skip
    refine r_skip ?_
    refine r_seq ?_
    refine r_block ?_
    refine r_seq ?_
    refine r_region ?_
    refine r_op rfl rfl rfl (run_mv (v := .int _ _) rfl (by exact rfl)) ?_
    refine r_op rfl rfl rfl (run_ix (i) rfl Try.underlying22 ty_43 (by exact rfl) (by exact rfl) (by first | exact rfl | omega) (by omega) (hc.addr (i := i) (by omega))) ?_
    obtain ⟨ao6, b6, off6, cap6, hX⟩ := clas_atK hc0 (i) (by omega)
    have hA60 := fun (w' : World) (h : Evo w0 w' []) => (hX w' h).1
    have hA6 := hA60 _ hV
    have hR60 := fun (w' : World) (h : Evo w0 w' []) => (hX w' h).2
    have hR6 := hR60 _ hV
    clear hX
    have hbd_hR6 := hR6.bd
    refine r_op rfl rfl rfl (run_ldN rfl ag_43 ty_43 (by exact rfl) rfl hA6) ?_
    refine r_alloc (zs := [_, _]) ty_43 (by exact rfl) rfl ?_
    intro b7 w8 heb7 hEw8 hbb7 hzb7
    have hs_w8 := (hEw8).size
    replace hV := evo_step0 hV hEw8
    replace hc := hc0.now hV
    replace hA6 := hA60 _ hV
    replace hR6 := hR60 _ hV
    have hAb7 := hbb7.at
    refine r_op rfl rfl rfl (run_asg (v := .int _ _) rfl (by exact rfl)) ?_
    refine r_store (v := .agg _) (vs := [_, _]) (cs' := [_, _]) (by exact rfl) (by exact rfl) hbb7 ty_43 (by exact rfl) rfl (by exact rfl) rfl (by exact rfl) ?_
    intro w9 hEw9 hzw9 hb_new
    have hs_w9 := (hEw9).size
    replace hV := evo_step1 hV hEw9 (by first | exact .inl (by omega) | exact .inr (by simp))
    replace hc := hc0.now hV
    replace hR6 := hR60 _ hV
    replace hbb7 := hb_new
    have hAb7 := hbb7.at
    clear hb_new
    refine r_nil ?_
    refine r_seq ?_
    refine r_seq ?_
    refine r_qregion (by kernel_rfl) (by kernel_rfl) ?_
    refine q_op rfl rfl rfl (fun w' hC => run_mv (v := .slice _ _ _) rfl (by exact rfl)) ?_
    refine q_op rfl rfl rfl (fun w' hC => run_mv (v := .int _ _) rfl (by exact rfl)) ?_
    refine q_op rfl rfl rfl (fun w' hC => run_slR (0) (i) rfl Try.underlying22 ty_43 (by exact rfl) (hc.evo0 hC) lo0 (at1 (by exact rfl) (by omega)) (by first | omega | (simp; omega)) (by first | omega | (simp; omega)) List.drop_zero) ?_
    have hS100 := (by have h9 := (hc0.take (i)).drop (0); rw [List.drop_zero] at h9; exact h9)
    have hS10 := (by have h9 := (hc.take (i)).drop (0); rw [List.drop_zero] at h9; exact h9)
    have hbd_hS10 := hS10.bd
    refine q_op rfl rfl rfl (fun w' hC => run_fa rfl (by exact rfl) fo_43_0) ?_
    refine q_op rfl rfl rfl (fun w' hC => run_ld1 rfl ag_9 (by exact rfl) ((hAb7.evo0 hC).cell 0 (by exact rfl))) ?_
    refine q_call rfl rfl rfl (fun w' hC => run_callf rfl (argcons (v := .slice _ _ _) (by exact rfl) (argcons (v := S _) (by exact rfl) (rfl))) Try.func78 rfl (by kernel_rfl)) (fun w' hC => (named_calls (hS10.evo0 hC)).mono (fun e w'' h => ⟨h.1, evo_step0 hC h.2⟩)) ?_
    refine q_op rfl rfl rfl (fun w' hC => run_asg (v := .int _ _) rfl (by exact rfl)) ?_
    refine q_nil (fun w11 hE12 => ?_)
    have hs_w11 := (hE12).size
    replace hV := evo_step0 hV hE12
    replace hc := hc0.now hV
    replace hR6 := hR60 _ hV
    replace hbb7 := hbb7.evo0 hE12
    replace hAb7 := hAb7.evo0 hE12
    refine r_seq ?_
    refine r_region ?_
    refine r_op rfl rfl rfl (run_mv (v := .int _ _) rfl (by exact rfl)) ?_
    refine r_op rfl rfl rfl (run_neq rfl (by exact rfl) (by exact rfl)) ?_
    refine r_nil ?_
    refine r_cond (by exact rfl) (fun hc13 => ?_) (fun hc13 => ?_)
    ·skip
     refine r_seq ?_
     refine r_region ?_
     refine r_op rfl rfl rfl (run_mv (v := .int _ _) rfl (by exact rfl)) ?_
     refine r_op rfl rfl rfl (run_asg (v := .int _ _) rfl (by exact rfl)) ?_
     refine r_nil ?_
     refine r_ret (res1 (v := .int _ _) rfl (by exact rfl)) ?_
     exact ⟨ret_int (by rw [valid_at (by omega) hno (cls_named hc13) hc13 (by omega)]), hV⟩
    ·skip
     refine r_skip ?_
     refine r_seq ?_
     refine r_seq ?_
     refine r_region ?_
     refine r_op rfl rfl rfl (run_fa rfl (by exact rfl) fo_43_1) ?_
     refine r_op rfl rfl rfl (run_ld1 rfl ag_41 (by exact rfl) (hAb7.cell 1 (by exact rfl))) ?_
     refine r_op rfl rfl rfl (run_lenSl rfl (by exact rfl) Try.underlying41) ?_
     refine r_op rfl rfl rfl (run_gtr rfl (by exact rfl) (by exact rfl)) ?_
     refine r_nil ?_
     refine r_cond (by exact rfl) (fun hc14 => ?_) (fun hc14 => ?_)
     ·skip
      refine r_seq ?_
      refine r_region ?_
      refine r_op rfl rfl rfl (run_asg (v := .int _ _) rfl (by exact rfl)) ?_
      refine r_nil ?_
      refine r_ret (res1 (v := .int _ _) rfl (by exact rfl)) ?_
      exact ⟨ret_int (by rw [valid_at (by omega) hno (cls_many (Classical.not_not.1 (by assumption)) (by omega)) (by decide) (by omega)]), hV⟩
     ·skip
      refine r_skip ?_
      refine r_seq ?_
      refine r_region ?_
      refine r_op rfl rfl rfl (run_fa rfl (by exact rfl) fo_43_1) ?_
      refine r_op rfl rfl rfl (run_ld1 rfl ag_41 (by exact rfl) (hAb7.cell 1 (by exact rfl))) ?_
      refine r_op rfl rfl rfl (run_lenSl rfl (by exact rfl) Try.underlying41) ?_
      refine r_op rfl rfl rfl (run_mv (v := .int _ _) rfl (by exact rfl)) ?_
      refine r_nil ?_
      refine r_block ?_
      refine r_loop (α := Nat) [2, 6, 7, 8, 35, 36, 37, 38, 39, 40, 41, 42, 43, 44, 45, 46, 47, 48, 49] (fun k g w => g 35 = .int .i64 (k : Nat) ∧ k ≤ (c.getD i default).ends.length ∧ At w b7 0 [S (c.getD i default).name, .slice ao6 (c.getD i default).ends.length cap6] ∧ (∀ j, j < k → endedL ((c.getD i default).ends.take j) ((c.getD i default).ends.getD j default) = 0) ∧ w11.heap.size ≤ w.heap.size ∧ Evo w0 w []) (fun k => (c.getD i default).ends.length - k) 0 ?_ ?_
      ·refine ⟨(by first | exact rfl | exact congrArg (Value.int _) (by omega) | exact congrArg (Value.int _) (by dsimp only; omega) | exact congrArg (Value.int _) (by simp) | exact congrArg S (by simp)), (by first | assumption | omega | (dsimp only; omega) | (simp; done)), hAb7, (fun j h => by omega), (by first | assumption | omega | (dsimp only; omega) | (simp; done)), hV⟩
      ·rintro k g w16 ⟨hj17, hk_k, hAb7, hnk, hzl15, hV⟩
       have hs_w16hV := hV.size
       replace hc := hc0.now hV
       replace hA6 := hA60 _ hV
       replace hR6 := hR60 _ hV
       replace hS10 := hS100.now hV
       refine r_know (i := 35) (v := .int .i64 (k : Nat)) (by exact hj17) ?_
       have hbx := hcb _ (getD_in (show i < c.length by omega))
       refine r_seq ?_
       refine r_region ?_
       refine r_op rfl rfl rfl (run_lss rfl (by exact rfl) (by exact rfl)) ?_
       refine r_nil ?_
       refine r_seq ?_
       refine r_cond (by exact rfl) (fun hc18 => ?_) (fun hc18 => ?_)
       ·skip
        refine r_skip ?_
        refine r_seq ?_
        refine r_block ?_
        refine r_seq ?_
        refine r_region ?_
        refine r_op rfl rfl rfl (run_mv (v := .int _ _) rfl (by exact rfl)) ?_
        refine r_op rfl rfl rfl (run_ix (k) rfl Try.underlying41 ty_46 (by exact rfl) (by exact rfl) (by first | exact rfl | omega) (by omega) (hR6.addr (i := k) (by omega))) ?_
        have hA190 := fun (w' : World) (h : Evo w0 w' []) => (hR60 w' h).atD (k) (by omega)
        have hA19 := hA190 _ hV
        refine r_op rfl rfl rfl (run_ldN rfl ag_46 ty_46 (by exact rfl) rfl hA19) ?_
        refine r_alloc (zs := [_, _]) ty_46 (by exact rfl) rfl ?_
        intro b20 w21 heb20 hEw21 hbb20 hzb20
        have hs_w21 := (hEw21).size
        replace hV := evo_step0 hV hEw21
        replace hc := hc0.now hV
        replace hR6 := hR60 _ hV
        replace hAb7 := hAb7.evo0 hEw21
        replace hA19 := hA190 _ hV
        have hAb20 := hbb20.at
        refine r_op rfl rfl rfl (run_asg (v := .int _ _) rfl (by exact rfl)) ?_
        refine r_store (v := .agg _) (vs := [_, _]) (cs' := [_, _]) (by exact rfl) (by exact rfl) hbb20 ty_46 (by exact rfl) rfl (by exact rfl) rfl (by exact rfl) ?_
        intro w22 hEw22 hzw22 hb_new
        have hs_w22 := (hEw22).size
        replace hV := evo_step1 hV hEw22 (by first | exact .inl (by omega) | exact .inr (by simp))
        replace hc := hc0.now hV
        replace hR6 := hR60 _ hV
        replace hAb7 := hAb7.evo hEw22 (by simp; omega)
        replace hbb20 := hb_new
        have hAb20 := hbb20.at
        clear hb_new
        refine r_nil ?_
        refine r_seq ?_
        have hbk := hbx.2.1 _ (getD_in (show k < (c.getD i default).ends.length by omega))
        refine r_qregion (by kernel_rfl) (by kernel_rfl) ?_
        refine q_op rfl rfl rfl (fun w' hC => run_fa rfl (by exact rfl) fo_43_1) ?_
        refine q_op rfl rfl rfl (fun w' hC => run_ld1 rfl ag_41 (by exact rfl) ((hAb7.evo0 hC).cell 1 (by exact rfl))) ?_
        refine q_op rfl rfl rfl (fun w' hC => run_mv (v := .int _ _) rfl (by exact rfl)) ?_
        refine q_op rfl rfl rfl (fun w' hC => run_slE (0) (k) rfl Try.underlying41 ty_46 (by exact rfl) (hR6.evo0 hC) lo0 (at1 (by exact rfl) (by omega)) (by first | omega | (simp; omega)) (by first | omega | (simp; omega)) List.drop_zero) ?_
        have hS230 := fun (w' : World) (h : Evo w0 w' []) => (by have h9 := ((hR60 w' h).take (k)).drop (0); rw [List.drop_zero] at h9; exact h9)
        have hS23 := (by have h9 := (hR6.take (k)).drop (0); rw [List.drop_zero] at h9; exact h9)
        have hbd_hS23 := hS23.bd
        refine q_op rfl rfl rfl (fun w' hC => run_ldN rfl ag_46 ty_46 (by exact rfl) rfl (hAb20.evo0 hC)) ?_
        refine q_call rfl rfl rfl (fun w' hC => run_callf rfl (argcons (v := .slice _ _ _) (by exact rfl) (argcons (v := .agg _) (by exact rfl) (rfl))) Try.func79 rfl (by kernel_rfl)) (fun w' hC => (ending_calls (hS23.evo0 hC) (Nat.le_trans hbk.1 (by decide)) (Nat.le_trans hbk.2 (by decide))).mono (fun e w'' h => ⟨h.1, evo_step0 hC h.2⟩)) ?_
        refine q_op rfl rfl rfl (fun w' hC => run_asg (v := .int _ _) rfl (by exact rfl)) ?_
        refine q_nil (fun w24 hE25 => ?_)
        have hs_w24 := (hE25).size
        replace hV := evo_step0 hV hE25
        replace hc := hc0.now hV
        replace hR6 := hR60 _ hV
        replace hAb7 := hAb7.evo0 hE25
        refine r_seq ?_
        refine r_region ?_
        refine r_op rfl rfl rfl (run_mv (v := .int _ _) rfl (by exact rfl)) ?_
        refine r_op rfl rfl rfl (run_neq rfl (by exact rfl) (by exact rfl)) ?_
        refine r_nil ?_
        refine r_cond (by exact rfl) (fun hc26 => ?_) (fun hc26 => ?_)
        ·skip
         refine r_seq ?_
         refine r_region ?_
         refine r_op rfl rfl rfl (run_mv (v := .int _ _) rfl (by exact rfl)) ?_
         refine r_op rfl rfl rfl (run_asg (v := .int _ _) rfl (by exact rfl)) ?_
         refine r_nil ?_
         refine r_ret (res1 (v := .int _ _) rfl (by exact rfl)) ?_
         exact ⟨ret_int (by rw [valid_at (by omega) hno ((cls_ends (Classical.not_not.1 (by assumption)) (by omega)).trans (ends_err hnk hc26 (by omega))) hc26 (by omega)]), hV⟩
        ·skip
         refine r_skip ?_
         refine r_blk ?_
         refine r_region ?_
         refine r_op rfl rfl rfl (run_add rfl (by exact rfl) (by exact rfl) (by omega) (by omega)) ?_
         refine r_op rfl rfl rfl (run_mv (v := .int _ _) rfl (by exact rfl)) ?_
         refine r_nil ?_
         refine r_again (k + 1) ?_ ?_ ?_
         ·first | omega | (dsimp only; omega)
         ·refine ⟨(by first | exact rfl | exact congrArg (Value.int _) (by omega) | exact congrArg (Value.int _) (by dsimp only; omega) | exact congrArg (Value.int _) (by simp) | exact congrArg S (by simp)), (by first | assumption | omega | (dsimp only; omega) | (simp; done)), hAb7, (upto0 hnk (Classical.not_not.1 hc26)), (by first | assumption | omega | (dsimp only; omega) | (simp; done)), hV⟩
         ·repeat (first | (with_reducible exact Agree.merge _ _ _) | (with_reducible exact Agree.refl _ _) | (with_reducible refine Agree.upd ?_ _ _ rfl) | ((with_reducible refine Agree.inner ?_ ?_); (kernel_rfl)))
       ·skip
        refine r_exit rfl ?_
        refine r_blk ?_
        refine r_region ?_
        refine r_op rfl rfl rfl (run_add rfl (by exact rfl) (by exact rfl) (by omega) (by omega)) ?_
        refine r_op rfl rfl rfl (run_mv (v := .int _ _) rfl (by exact rfl)) ?_
        refine r_nil ?_
        refine r_again (i + 1) ?_ ?_ ?_
        ·first | omega | (dsimp only; omega)
        ·refine ⟨(by first | exact rfl | exact congrArg (Value.int _) (by omega) | exact congrArg (Value.int _) (by dsimp only; omega) | exact congrArg (Value.int _) (by simp) | exact congrArg S (by simp)), (by first | assumption | omega | (dsimp only; omega) | (simp; done)), (upto0 hno ((cls_ends (Classical.not_not.1 (by assumption)) (by omega)).trans (ends_ok hnk (by omega)))), (by first | assumption | omega | (dsimp only; omega) | (simp; done)), hV⟩
        ·repeat (first | (with_reducible exact Agree.merge _ _ _) | (with_reducible exact Agree.refl _ _) | (with_reducible refine Agree.upd ?_ _ _ rfl) | ((with_reducible refine Agree.inner ?_ ?_); (kernel_rfl)))
   ·skip
    refine r_exit rfl ?_
    refine r_seq ?_
    refine r_region ?_
    refine r_op rfl rfl rfl (run_asg (v := .int _ _) rfl (by exact rfl)) ?_
    refine r_nil ?_
    refine r_ret (res1 (v := .int _ _) rfl (by exact rfl)) ?_
    exact ⟨ret_int (by rw [valid_ok (by omega) hno (by omega)]), hV⟩

theorem rvalidate_calls {ao : Option Addr} {b off cap : Nat} {c : List Clas} {w0 : World} (hc : RowR w0 ao b off cap c) :
    Calls Try.prog 35 #[.slice ao c.length cap] w0 fun e w' => e = .returned (.int .i64 (validC c)) ∧ Evo w0 w' [] := by
 have hcb := clas_bd hc
 refine calls_enter (n := 51) (args := [.slice ao c.length cap]) Try.func35 rfl Try.ntmps35 rfl ?_
 have hV : Evo w0 w0 [] := Evo.refl _ _
 have hc0 := hc.keep
 have hbd_hc := hc.bd
 refine r_seq ?_
 refine r_region ?_
 refine r_op rfl rfl rfl (run_asg (v := .int _ _) rfl (by exact rfl)) ?_
 refine r_nil ?_
 refine r_seq ?_
 refine r_seq ?_
 refine r_region ?_
 refine r_op rfl rfl rfl (run_mv (v := .slice _ _ _) rfl (by exact rfl)) ?_
 refine r_op rfl rfl rfl (run_lenSl rfl (by exact rfl) Try.underlying22) ?_
 refine r_op rfl rfl rfl (run_gtr rfl (by exact rfl) (by exact rfl)) ?_
 refine r_nil ?_
 refine r_cond (by exact rfl) (fun hc1 => ?_) (fun hc1 => ?_)
 ·skip
  refine r_seq ?_
  refine r_region ?_
  refine r_op rfl rfl rfl (run_asg (v := .int _ _) rfl (by exact rfl)) ?_
  refine r_nil ?_
  refine r_ret (res1 (v := .int _ _) rfl (by exact rfl)) ?_
  exact ⟨ret_int (by unfold validC; rw [if_pos (by omega)]), hV⟩
 ·skip
  refine r_skip ?_
  refine r_seq ?_
  refine r_seq ?_
  refine r_region ?_
  refine r_op rfl rfl rfl (run_mv (v := .slice _ _ _) rfl (by exact rfl)) ?_
  refine r_op rfl rfl rfl (run_lenSl rfl (by exact rfl) Try.underlying22) ?_
  refine r_op rfl rfl rfl (run_mv (v := .int _ _) rfl (by exact rfl)) ?_
  refine r_nil ?_
  refine r_block ?_
  refine r_loop (α := Nat) [2, 3, 4, 5, 6, 7, 8, 14, 15, 16, 17, 18, 19, 20, 21, 22, 23, 24, 25, 26, 27, 28, 29, 30, 31, 32, 33, 34, 35, 36, 37, 38, 39, 40, 41, 42, 43, 44, 45, 46, 47, 48, 49, 50] (fun i g w => g 14 = .int .i64 (i : Nat) ∧ i ≤ c.length ∧ (∀ j, j < i → classErr c j = 0) ∧ w0.heap.size ≤ w.heap.size ∧ Evo w0 w []) (fun i => c.length - i) 0 ?_ ?_
  ·refine ⟨(by first | exact rfl | exact congrArg (Value.int _) (by omega) | exact congrArg (Value.int _) (by dsimp only; omega) | exact congrArg (Value.int _) (by simp) | exact congrArg S (by simp)), (by first | assumption | omega | (dsimp only; omega) | (simp; done)), (fun j h => by omega), (by first | assumption | omega | (dsimp only; omega) | (simp; done)), hV⟩
  ·rintro i g w3 ⟨hj4, hk_i, hno, hzl2, hV⟩
   have hs_w3hV := hV.size
   replace hc := hc0.now hV
   refine r_know (i := 14) (v := .int .i64 (i : Nat)) (by exact hj4) ?_
   refine r_seq ?_
   refine r_region ?_
   refine r_op rfl rfl rfl (run_lss rfl (by exact rfl) (by exact rfl)) ?_
   refine r_nil ?_
   refine r_seq ?_
   refine r_cond (by exact rfl) (fun hc5 => ?_) (fun hc5 => ?_)
   ·skip
    refine r_skip ?_
    refine r_seq ?_
    refine r_block ?_
    refine r_seq ?_
    refine r_region ?_
    refine r_op rfl rfl rfl (run_mv (v := .int _ _) rfl (by exact rfl)) ?_
    refine r_op rfl rfl rfl (run_ix (i) rfl Try.underlying22 ty_43 (by exact rfl) (by exact rfl) (by first | exact rfl | omega) (by omega) (hc.addr (i := i) (by omega))) ?_
    obtain ⟨ao6, b6, off6, cap6, hX⟩ := clas_atK hc0 (i) (by omega)
    have hA60 := fun (w' : World) (h : Evo w0 w' []) => (hX w' h).1
    have hA6 := hA60 _ hV
    have hR60 := fun (w' : World) (h : Evo w0 w' []) => (hX w' h).2
    have hR6 := hR60 _ hV
    clear hX
    have hbd_hR6 := hR6.bd
    refine r_op rfl rfl rfl (run_ldN rfl ag_43 ty_43 (by exact rfl) rfl hA6) ?_
    refine r_alloc (zs := [_, _]) ty_43 (by exact rfl) rfl ?_
    intro b7 w8 heb7 hEw8 hbb7 hzb7
    have hs_w8 := (hEw8).size
    replace hV := evo_step0 hV hEw8
    replace hc := hc0.now hV
    replace hA6 := hA60 _ hV
    replace hR6 := hR60 _ hV
    have hAb7 := hbb7.at
    refine r_op rfl rfl rfl (run_asg (v := .int _ _) rfl (by exact rfl)) ?_
    refine r_store (v := .agg _) (vs := [_, _]) (cs' := [_, _]) (by exact rfl) (by exact rfl) hbb7 ty_43 (by exact rfl) rfl (by exact rfl) rfl (by exact rfl) ?_
    intro w9 hEw9 hzw9 hb_new
    have hs_w9 := (hEw9).size
    replace hV := evo_step1 hV hEw9 (by first | exact .inl (by omega) | exact .inr (by simp))
    replace hc := hc0.now hV
    replace hR6 := hR60 _ hV
    replace hbb7 := hb_new
    have hAb7 := hbb7.at
    clear hb_new
    refine r_nil ?_
    refine r_seq ?_
    refine r_seq ?_
    refine r_qregion (by kernel_rfl) (by kernel_rfl) ?_
    refine q_op rfl rfl rfl (fun w' hC => run_mv (v := .slice _ _ _) rfl (by exact rfl)) ?_
    refine q_op rfl rfl rfl (fun w' hC => run_mv (v := .int _ _) rfl (by exact rfl)) ?_
    refine q_op rfl rfl rfl (fun w' hC => run_slR (0) (i) rfl Try.underlying22 ty_43 (by exact rfl) (hc.evo0 hC) lo0 (at1 (by exact rfl) (by omega)) (by first | omega | (simp; omega)) (by first | omega | (simp; omega)) List.drop_zero) ?_
    have hS100 := (by have h9 := (hc0.take (i)).drop (0); rw [List.drop_zero] at h9; exact h9)
    have hS10 := (by have h9 := (hc.take (i)).drop (0); rw [List.drop_zero] at h9; exact h9)
    have hbd_hS10 := hS10.bd
    refine q_op rfl rfl rfl (fun w' hC => run_fa rfl (by exact rfl) fo_43_0) ?_
    refine q_op rfl rfl rfl (fun w' hC => run_ld1 rfl ag_9 (by exact rfl) ((hAb7.evo0 hC).cell 0 (by exact rfl))) ?_
    refine q_call rfl rfl rfl (fun w' hC => run_callf rfl (argcons (v := .slice _ _ _) (by exact rfl) (argcons (v := S _) (by exact rfl) (rfl))) Try.func80 rfl (by kernel_rfl)) (fun w' hC => (rnamed_calls (hS10.evo0 hC)).mono (fun e w'' h => ⟨h.1, evo_step0 hC h.2⟩)) ?_
    refine q_op rfl rfl rfl (fun w' hC => run_asg (v := .int _ _) rfl (by exact rfl)) ?_
    refine q_nil (fun w11 hE12 => ?_)
    have hs_w11 := (hE12).size
    replace hV := evo_step0 hV hE12
    replace hc := hc0.now hV
    replace hR6 := hR60 _ hV
    replace hbb7 := hbb7.evo0 hE12
    replace hAb7 := hAb7.evo0 hE12
    refine r_seq ?_
    refine r_region ?_
    refine r_op rfl rfl rfl (run_mv (v := .int _ _) rfl (by exact rfl)) ?_
    refine r_op rfl rfl rfl (run_neq rfl (by exact rfl) (by exact rfl)) ?_
    refine r_nil ?_
    refine r_cond (by exact rfl) (fun hc13 => ?_) (fun hc13 => ?_)
    ·skip
     refine r_seq ?_
     refine r_region ?_
     refine r_op rfl rfl rfl (run_mv (v := .int _ _) rfl (by exact rfl)) ?_
     refine r_op rfl rfl rfl (run_asg (v := .int _ _) rfl (by exact rfl)) ?_
     refine r_nil ?_
     refine r_ret (res1 (v := .int _ _) rfl (by exact rfl)) ?_
     exact ⟨ret_int (by rw [valid_at (by omega) hno (cls_named hc13) hc13 (by omega)]), hV⟩
    ·skip
     refine r_skip ?_
     refine r_seq ?_
     refine r_seq ?_
     refine r_region ?_
     refine r_op rfl rfl rfl (run_fa rfl (by exact rfl) fo_43_1) ?_
     refine r_op rfl rfl rfl (run_ld1 rfl ag_41 (by exact rfl) (hAb7.cell 1 (by exact rfl))) ?_
     refine r_op rfl rfl rfl (run_lenSl rfl (by exact rfl) Try.underlying41) ?_
     refine r_op rfl rfl rfl (run_gtr rfl (by exact rfl) (by exact rfl)) ?_
     refine r_nil ?_
     refine r_cond (by exact rfl) (fun hc14 => ?_) (fun hc14 => ?_)
     ·skip
      refine r_seq ?_
      refine r_region ?_
      refine r_op rfl rfl rfl (run_asg (v := .int _ _) rfl (by exact rfl)) ?_
      refine r_nil ?_
      refine r_ret (res1 (v := .int _ _) rfl (by exact rfl)) ?_
      exact ⟨ret_int (by rw [valid_at (by omega) hno (cls_many (Classical.not_not.1 (by assumption)) (by omega)) (by decide) (by omega)]), hV⟩
     ·skip
      refine r_skip ?_
      refine r_seq ?_
      refine r_region ?_
      refine r_op rfl rfl rfl (run_fa rfl (by exact rfl) fo_43_1) ?_
      refine r_op rfl rfl rfl (run_ld1 rfl ag_41 (by exact rfl) (hAb7.cell 1 (by exact rfl))) ?_
      refine r_op rfl rfl rfl (run_lenSl rfl (by exact rfl) Try.underlying41) ?_
      refine r_op rfl rfl rfl (run_mv (v := .int _ _) rfl (by exact rfl)) ?_
      refine r_nil ?_
      refine r_block ?_
      refine r_loop (α := Nat) [2, 6, 7, 8, 35, 36, 37, 38, 39, 40, 41, 42, 43, 44, 45, 46, 47, 48, 49] (fun k g w => g 35 = .int .i64 (k : Nat) ∧ k ≤ (c.getD i default).ends.length ∧ At w b7 0 [S (c.getD i default).name, .slice ao6 (c.getD i default).ends.length cap6] ∧ (∀ j, j < k → endedL ((c.getD i default).ends.take j) ((c.getD i default).ends.getD j default) = 0) ∧ w11.heap.size ≤ w.heap.size ∧ Evo w0 w []) (fun k => (c.getD i default).ends.length - k) 0 ?_ ?_
      ·refine ⟨(by first | exact rfl | exact congrArg (Value.int _) (by omega) | exact congrArg (Value.int _) (by dsimp only; omega) | exact congrArg (Value.int _) (by simp) | exact congrArg S (by simp)), (by first | assumption | omega | (dsimp only; omega) | (simp; done)), hAb7, (fun j h => by omega), (by first | assumption | omega | (dsimp only; omega) | (simp; done)), hV⟩
      ·rintro k g w16 ⟨hj17, hk_k, hAb7, hnk, hzl15, hV⟩
       have hs_w16hV := hV.size
       replace hc := hc0.now hV
       replace hA6 := hA60 _ hV
       replace hR6 := hR60 _ hV
       replace hS10 := hS100.now hV
       refine r_know (i := 35) (v := .int .i64 (k : Nat)) (by exact hj17) ?_
       have hbx := hcb _ (getD_in (show i < c.length by omega))
       refine r_seq ?_
       refine r_region ?_
       refine r_op rfl rfl rfl (run_lss rfl (by exact rfl) (by exact rfl)) ?_
       refine r_nil ?_
       refine r_seq ?_
       refine r_cond (by exact rfl) (fun hc18 => ?_) (fun hc18 => ?_)
       ·skip
        refine r_skip ?_
        refine r_seq ?_
        refine r_block ?_
        refine r_seq ?_
        refine r_region ?_
        refine r_op rfl rfl rfl (run_mv (v := .int _ _) rfl (by exact rfl)) ?_
        refine r_op rfl rfl rfl (run_ix (k) rfl Try.underlying41 ty_46 (by exact rfl) (by exact rfl) (by first | exact rfl | omega) (by omega) (hR6.addr (i := k) (by omega))) ?_
        have hA190 := fun (w' : World) (h : Evo w0 w' []) => (hR60 w' h).atD (k) (by omega)
        have hA19 := hA190 _ hV
        refine r_op rfl rfl rfl (run_ldN rfl ag_46 ty_46 (by exact rfl) rfl hA19) ?_
        refine r_alloc (zs := [_, _]) ty_46 (by exact rfl) rfl ?_
        intro b20 w21 heb20 hEw21 hbb20 hzb20
        have hs_w21 := (hEw21).size
        replace hV := evo_step0 hV hEw21
        replace hc := hc0.now hV
        replace hR6 := hR60 _ hV
        replace hAb7 := hAb7.evo0 hEw21
        replace hA19 := hA190 _ hV
        have hAb20 := hbb20.at
        refine r_op rfl rfl rfl (run_asg (v := .int _ _) rfl (by exact rfl)) ?_
        refine r_store (v := .agg _) (vs := [_, _]) (cs' := [_, _]) (by exact rfl) (by exact rfl) hbb20 ty_46 (by exact rfl) rfl (by exact rfl) rfl (by exact rfl) ?_
        intro w22 hEw22 hzw22 hb_new
        have hs_w22 := (hEw22).size
        replace hV := evo_step1 hV hEw22 (by first | exact .inl (by omega) | exact .inr (by simp))
        replace hc := hc0.now hV
        replace hR6 := hR60 _ hV
        replace hAb7 := hAb7.evo hEw22 (by simp; omega)
        replace hbb20 := hb_new
        have hAb20 := hbb20.at
        clear hb_new
        refine r_nil ?_
        refine r_seq ?_
        have hbk := hbx.2.1 _ (getD_in (show k < (c.getD i default).ends.length by omega))
        refine r_qregion (by kernel_rfl) (by kernel_rfl) ?_
        refine q_op rfl rfl rfl (fun w' hC => run_fa rfl (by exact rfl) fo_43_1) ?_
        refine q_op rfl rfl rfl (fun w' hC => run_ld1 rfl ag_41 (by exact rfl) ((hAb7.evo0 hC).cell 1 (by exact rfl))) ?_
        refine q_op rfl rfl rfl (fun w' hC => run_mv (v := .int _ _) rfl (by exact rfl)) ?_
        refine q_op rfl rfl rfl (fun w' hC => run_slE (0) (k) rfl Try.underlying41 ty_46 (by exact rfl) (hR6.evo0 hC) lo0 (at1 (by exact rfl) (by omega)) (by first | omega | (simp; omega)) (by first | omega | (simp; omega)) List.drop_zero) ?_
        have hS230 := fun (w' : World) (h : Evo w0 w' []) => (by have h9 := ((hR60 w' h).take (k)).drop (0); rw [List.drop_zero] at h9; exact h9)
        have hS23 := (by have h9 := (hR6.take (k)).drop (0); rw [List.drop_zero] at h9; exact h9)
        have hbd_hS23 := hS23.bd
        refine q_op rfl rfl rfl (fun w' hC => run_ldN rfl ag_46 ty_46 (by exact rfl) rfl (hAb20.evo0 hC)) ?_
        refine q_call rfl rfl rfl (fun w' hC => run_callf rfl (argcons (v := .slice _ _ _) (by exact rfl) (argcons (v := .agg _) (by exact rfl) (rfl))) Try.func81 rfl (by kernel_rfl)) (fun w' hC => (rended_calls (hS23.evo0 hC) (Nat.le_trans hbk.1 (by decide)) (Nat.le_trans hbk.2 (by decide))).mono (fun e w'' h => ⟨h.1, evo_step0 hC h.2⟩)) ?_
        refine q_op rfl rfl rfl (fun w' hC => run_asg (v := .int _ _) rfl (by exact rfl)) ?_
        refine q_nil (fun w24 hE25 => ?_)
        have hs_w24 := (hE25).size
        replace hV := evo_step0 hV hE25
        replace hc := hc0.now hV
        replace hR6 := hR60 _ hV
        replace hAb7 := hAb7.evo0 hE25
        refine r_seq ?_
        refine r_region ?_
        refine r_op rfl rfl rfl (run_mv (v := .int _ _) rfl (by exact rfl)) ?_
        refine r_op rfl rfl rfl (run_neq rfl (by exact rfl) (by exact rfl)) ?_
        refine r_nil ?_
        refine r_cond (by exact rfl) (fun hc26 => ?_) (fun hc26 => ?_)
        ·skip
         refine r_seq ?_
         refine r_region ?_
         refine r_op rfl rfl rfl (run_mv (v := .int _ _) rfl (by exact rfl)) ?_
         refine r_op rfl rfl rfl (run_asg (v := .int _ _) rfl (by exact rfl)) ?_
         refine r_nil ?_
         refine r_ret (res1 (v := .int _ _) rfl (by exact rfl)) ?_
         exact ⟨ret_int (by rw [valid_at (by omega) hno ((cls_ends (Classical.not_not.1 (by assumption)) (by omega)).trans (ends_err hnk hc26 (by omega))) hc26 (by omega)]), hV⟩
        ·skip
         refine r_skip ?_
         refine r_blk ?_
         refine r_region ?_
         refine r_op rfl rfl rfl (run_add rfl (by exact rfl) (by exact rfl) (by omega) (by omega)) ?_
         refine r_op rfl rfl rfl (run_mv (v := .int _ _) rfl (by exact rfl)) ?_
         refine r_nil ?_
         refine r_again (k + 1) ?_ ?_ ?_
         ·first | omega | (dsimp only; omega)
         ·refine ⟨(by first | exact rfl | exact congrArg (Value.int _) (by omega) | exact congrArg (Value.int _) (by dsimp only; omega) | exact congrArg (Value.int _) (by simp) | exact congrArg S (by simp)), (by first | assumption | omega | (dsimp only; omega) | (simp; done)), hAb7, (upto0 hnk (Classical.not_not.1 hc26)), (by first | assumption | omega | (dsimp only; omega) | (simp; done)), hV⟩
         ·repeat (first | (with_reducible exact Agree.merge _ _ _) | (with_reducible exact Agree.refl _ _) | (with_reducible refine Agree.upd ?_ _ _ rfl) | ((with_reducible refine Agree.inner ?_ ?_); (kernel_rfl)))
       ·skip
        refine r_exit rfl ?_
        refine r_blk ?_
        refine r_region ?_
        refine r_op rfl rfl rfl (run_add rfl (by exact rfl) (by exact rfl) (by omega) (by omega)) ?_
        refine r_op rfl rfl rfl (run_mv (v := .int _ _) rfl (by exact rfl)) ?_
        refine r_nil ?_
        refine r_again (i + 1) ?_ ?_ ?_
        ·first | omega | (dsimp only; omega)
        ·refine ⟨(by first | exact rfl | exact congrArg (Value.int _) (by omega) | exact congrArg (Value.int _) (by dsimp only; omega) | exact congrArg (Value.int _) (by simp) | exact congrArg S (by simp)), (by first | assumption | omega | (dsimp only; omega) | (simp; done)), (upto0 hno ((cls_ends (Classical.not_not.1 (by assumption)) (by omega)).trans (ends_ok hnk (by omega)))), (by first | assumption | omega | (dsimp only; omega) | (simp; done)), hV⟩
        ·repeat (first | (with_reducible exact Agree.merge _ _ _) | (with_reducible exact Agree.refl _ _) | (with_reducible refine Agree.upd ?_ _ _ rfl) | ((with_reducible refine Agree.inner ?_ ?_); (kernel_rfl)))
   ·skip
    refine r_exit rfl ?_
    refine r_seq ?_
    refine r_region ?_
    refine r_op rfl rfl rfl (run_asg (v := .int _ _) rfl (by exact rfl)) ?_
    refine r_nil ?_
    refine r_ret (res1 (v := .int _ _) rfl (by exact rfl)) ?_
    exact ⟨ret_int (by rw [valid_ok (by omega) hno (by omega)]), hV⟩

end Go.Proofs.Ytomklacppmaljaa

namespace Go.Proofs.Ytomklacppmaljaa
open Go.RowKit Go.Vc

theorem u8i {c d : UInt8} : ((c.toNat : Nat) : Int) = ((d.toNat : Nat) : Int) ↔ c = d := ⟨fun h => UInt8.toNat_inj.1 (by omega), fun h => by rw [h]⟩
section
variable {inner : UInt8 → Bool} {a b : UInt8} {s : Str} {n : Nat}
end

theorem ne_nil_len {s : Str} (h : ¬ s = []) : 1 ≤ s.length := List.length_pos_iff.2 h
end Go.Proofs.Ytomklacppmaljaa

