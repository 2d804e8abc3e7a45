import Derived.Test.YtomklacppmaljaaPa
import Derived.Test.YtomklacppmaljaaLb
import Derived.Test.YtomklacppmaljaaRows
namespace Go.Proofs.Ytomklacppmaljaa
open Go.RowKit Go.Vc

theorem isname_calls {s : Str} {w0 : World}  :
    Calls Try.prog 116 #[S s] w0 fun e w' => e = .returned (.bool (isName s)) ∧ Evo w0 w' [] := by
 refine calls_enter (n := 51) (args := [S s]) Try.func116 rfl Try.ntmps116 rfl ?_
 have hV : Evo w0 w0 [] := Evo.refl _ _
 refine r_seq ?_
 refine r_region ?_
 refine r_op rfl rfl rfl (run_asg (v := .bool _) rfl (by exact rfl)) ?_
 refine r_nil ?_
 refine r_seq ?_
 refine r_seq ?_
 refine r_region ?_
 refine r_op rfl rfl rfl (run_mv (v := S _) rfl (by exact rfl)) ?_
 refine r_op rfl rfl rfl (run_lenS rfl (by exact rfl) Try.underlying9) ?_
 refine r_op rfl rfl rfl (run_lss rfl (by exact rfl) (by exact rfl)) ?_
 refine r_op rfl rfl rfl (run_mv (v := .bool _) rfl (by exact rfl)) ?_
 refine r_g rfl (wantF (by exact rfl)) rfl (fun hg => run_mv (v := S _) rfl (by exact rfl)) ?_
 refine r_g rfl (wantF (by exact rfl)) rfl (fun hg => run_lenS rfl (glv (by exact rfl) (fun h => h) hg) Try.underlying9) ?_
 refine r_g rfl (wantF (by exact rfl)) rfl (fun hg => run_gtr rfl (glv (by exact rfl) (fun h => h) hg) (by exact rfl)) ?_
 refine r_op rfl rfl rfl (run_pick_or rfl (by exact rfl) rfl (fun hq => glv (by exact rfl) (fun h => h) hq)) ?_
 refine r_op rfl rfl rfl (run_mv (v := .bool _) rfl (by exact rfl)) ?_
 refine r_g rfl (wantF (by exact rfl)) rfl (fun hg => run_mv (v := S _) rfl (by exact rfl)) ?_
 refine r_g rfl (wantF (by exact rfl)) rfl (fun hg => run_ixS (0) rfl Try.underlying9 (glv (by exact rfl) (fun h => h) hg) (by exact rfl) (by first | exact rfl | omega) (by omega)) ?_
 refine r_g rfl (wantF (by exact rfl)) rfl (fun hg => run_lss rfl (glv (by exact rfl) (fun h => h) hg) (by exact rfl)) ?_
 refine r_op rfl rfl rfl (run_pick_or rfl (by exact rfl) rfl (fun hq => glv (by exact rfl) (fun h => h) hq)) ?_
 refine r_op rfl rfl rfl (run_mv (v := .bool _) rfl (by exact rfl)) ?_
 refine r_g rfl (wantF (by exact rfl)) rfl (fun hg => run_mv (v := S _) rfl (by exact rfl)) ?_
 refine r_g rfl (wantF (by exact rfl)) rfl (fun hg => run_ixS (0) rfl Try.underlying9 (glv (by exact rfl) (fun h => h) hg) (by exact rfl) (by first | exact rfl | omega) (by omega)) ?_
 refine r_g rfl (wantF (by exact rfl)) rfl (fun hg => run_gtr rfl (glv (by exact rfl) (fun h => h) hg) (by exact rfl)) ?_
 refine r_op rfl rfl rfl (run_pick_or rfl (by exact rfl) rfl (fun hq => glv (by exact rfl) (fun h => h) hq)) ?_
 refine r_nil ?_
 refine r_cond (by exact rfl) (fun hc1 => ?_) (fun hc1 => ?_)
 ·skip
  refine r_seq ?_
  refine r_region ?_
  refine r_op rfl rfl rfl (run_asg (v := .bool _) rfl (by exact rfl)) ?_
  refine r_nil ?_
  refine r_ret (res1 (v := .bool _) rfl (by exact rfl)) ?_
  exact ⟨by rw [isName_len (by omega)], hV⟩
 ·skip
  refine r_skip ?_
  refine r_seq ?_
  refine r_seq ?_
  refine r_region ?_
  refine r_op rfl rfl rfl (run_asg (v := .int _ _) rfl (by exact rfl)) ?_
  refine r_nil ?_
  refine r_block ?_
  refine r_loop (α := Nat) [2, 3, 4, 23, 24, 25, 26, 27, 28, 29, 30, 31, 32, 33, 34, 35, 36, 37, 38, 39, 40, 41, 42, 43, 44, 45, 46, 47, 48, 49, 50] (fun k g w => g 3 = .int .i64 (k : Nat) ∧ (1 ≤ k ∧ k ≤ s.length) ∧ (∀ j, 1 ≤ j → j < k → nameB (s.getD j 0) = true) ∧ w0.heap.size ≤ w.heap.size ∧ Evo w0 w []) (fun k => s.length - k) 1 ?_ ?_
  ·refine ⟨(by first | exact rfl | exact congrArg (Value.int _) (by omega) | exact congrArg (Value.int _) (by dsimp only; omega) | exact congrArg (Value.int _) (by simp) | exact congrArg S (by simp)), (by first | assumption | omega | (dsimp only; omega) | (simp; done)), (fun j h1 h2 => by omega), (by first | assumption | omega | (dsimp only; omega) | (simp; done)), hV⟩
  ·rintro k g w3 ⟨hj4, hk, hall, hzl2, hV⟩
   have hs_w3hV := hV.size
   refine r_know (i := 3) (v := .int .i64 (k : Nat)) (by exact hj4) ?_
   refine r_seq ?_
   refine r_seq ?_
   refine r_region ?_
   refine r_op rfl rfl rfl (run_mv (v := .int _ _) rfl (by exact rfl)) ?_
   refine r_op rfl rfl rfl (run_mv (v := S _) rfl (by exact rfl)) ?_
   refine r_op rfl rfl rfl (run_lenS rfl (by exact rfl) Try.underlying9) ?_
   refine r_op rfl rfl rfl (run_lss rfl (by exact rfl) (by exact rfl)) ?_
   refine r_nil ?_
   refine r_cond (by exact rfl) (fun hc5 => ?_) (fun hc5 => ?_)
   ·skip
    refine r_skip ?_
    refine r_seq ?_
    refine r_block ?_
    refine r_seq ?_
    refine r_region ?_
    refine r_op rfl rfl rfl (run_mv (v := S _) rfl (by exact rfl)) ?_
    refine r_op rfl rfl rfl (run_mv (v := .int _ _) rfl (by exact rfl)) ?_
    refine r_op rfl rfl rfl (run_ixS (k) rfl Try.underlying9 (by exact rfl) (by exact rfl) (by first | exact rfl | omega) (by omega)) ?_
    refine r_op rfl rfl rfl (run_asg (v := .int _ _) rfl (by exact rfl)) ?_
    refine r_nil ?_
    refine r_seq ?_
    refine r_region ?_
    refine r_op rfl rfl rfl (run_mv (v := .int _ _) rfl (by exact rfl)) ?_
    refine r_op rfl rfl rfl (run_geq rfl (by exact rfl) (by exact rfl)) ?_
    refine r_op rfl rfl rfl (run_mv (v := .bool _) rfl (by exact rfl)) ?_
    refine r_g rfl (wantT (by exact rfl)) rfl (fun hg => run_mv (v := .int _ _) rfl (by exact rfl)) ?_
    refine r_g rfl (wantT (by exact rfl)) rfl (fun hg => run_leq rfl (glv (by exact rfl) (fun h => h) hg) (by exact rfl)) ?_
    refine r_op rfl rfl rfl (run_pick_and rfl (by exact rfl) (fun hq => glv (by exact rfl) (fun h => h) hq) rfl) ?_
    refine r_op rfl rfl rfl (run_mv (v := .bool _) rfl (by exact rfl)) ?_
    refine r_g rfl (wantF (by exact rfl)) rfl (fun hg => run_mv (v := .int _ _) rfl (by exact rfl)) ?_
    refine r_g rfl (wantF (by exact rfl)) rfl (fun hg => run_geq rfl (glv (by exact rfl) (fun h => h) hg) (by exact rfl)) ?_
    refine r_g rfl (wantF (by exact rfl)) rfl (fun hg => run_mv (v := .bool _) rfl (glv (by exact rfl) (fun h => h) hg)) ?_
    refine r_g rfl (wantTg (by exact rfl)) rfl (fun hg => run_mv (v := .int _ _) rfl (by exact rfl)) ?_
    refine r_g rfl (wantTg (by exact rfl)) rfl (fun hg => run_leq rfl (glv (by exact rfl) (fun h => h) hg) (by exact rfl)) ?_
    refine r_g rfl (wantF (by exact rfl)) rfl (fun hg => run_pick_and rfl (glv (by exact rfl) (fun h => h) hg) (fun hq => glv (by exact rfl) (fun h => h) (And.intro hg hq)) rfl) ?_
    refine r_op rfl rfl rfl (run_pick_or rfl (by exact rfl) rfl (fun hq => glv (by exact rfl) (fun h => h) hq)) ?_
    refine r_op rfl rfl rfl (run_mv (v := .bool _) rfl (by exact rfl)) ?_
    refine r_g rfl (wantF (by exact rfl)) rfl (fun hg => run_mv (v := .int _ _) rfl (by exact rfl)) ?_
    refine r_g rfl (wantF (by exact rfl)) rfl (fun hg => run_eql rfl (glv (by exact rfl) (fun h => h) hg) (by exact rfl)) ?_
    refine r_op rfl rfl rfl (run_pick_or rfl (by exact rfl) rfl (fun hq => glv (by exact rfl) (fun h => h) hq)) ?_
    refine r_op rfl rfl rfl (run_not rfl (by exact rfl)) ?_
    refine r_nil ?_
    refine r_cond (by exact rfl) (fun hc6 => ?_) (fun hc6 => ?_)
    ·skip
     refine r_seq ?_
     refine r_region ?_
     refine r_op rfl rfl rfl (run_asg (v := .bool _) rfl (by exact rfl)) ?_
     refine r_nil ?_
     refine r_ret (res1 (v := .bool _) rfl (by exact rfl)) ?_
     exact ⟨by rw [isName_bad (k := k) (by omega) (by omega)], hV⟩
    ·skip
     refine r_skip ?_
     refine r_blk ?_
     refine r_region ?_
     refine r_op rfl rfl rfl (run_mv (v := .int _ _) rfl (by exact rfl)) ?_
     refine r_op rfl rfl rfl (run_add rfl (by exact rfl) (by exact rfl) (by omega) (by omega)) ?_
     refine r_op rfl rfl rfl (run_asg (v := .int _ _) rfl (by exact rfl)) ?_
     refine r_nil ?_
     refine r_again (k + 1) ?_ ?_ ?_
     ·first | omega | (dsimp only; omega)
     ·refine ⟨(by first | exact rfl | exact congrArg (Value.int _) (by omega) | exact congrArg (Value.int _) (by dsimp only; omega) | exact congrArg (Value.int _) (by simp) | exact congrArg S (by simp)), (by first | assumption | omega | (dsimp only; omega) | (simp; done)), (upto1 hall (fun _ => (nameB_iff _).2 (by omega))), (by first | assumption | omega | (dsimp only; omega) | (simp; done)), hV⟩
     ·repeat (first | (with_reducible exact Agree.merge _ _ _) | (with_reducible exact Agree.refl _ _) | (with_reducible refine Agree.upd ?_ _ _ rfl) | ((with_reducible refine Agree.inner ?_ ?_); (kernel_rfl)))
   ·skip
    refine r_exit rfl ?_
    refine r_seq ?_
    refine r_region ?_
    refine r_op rfl rfl rfl (run_asg (v := .bool _) rfl (by exact rfl)) ?_
    refine r_nil ?_
    refine r_ret (res1 (v := .bool _) rfl (by exact rfl)) ?_
    exact ⟨by rw [(isName_iff s).2 ⟨by omega, by omega, by omega, fun j h1 h2 => hall j h1 (by omega)⟩], hV⟩

theorem risname_calls {s : Str} {w0 : World}  :
    Calls Try.prog 119 #[S s] w0 fun e w' => e = .returned (.bool (isName s)) ∧ Evo w0 w' [] := by
 refine calls_enter (n := 44) (args := [S s]) Try.func119 rfl Try.ntmps119 rfl ?_
 have hV : Evo w0 w0 [] := Evo.refl _ _
 refine r_seq ?_
 refine r_region ?_
 refine r_op rfl rfl rfl (run_asg (v := .bool _) rfl (by exact rfl)) ?_
 refine r_nil ?_
 refine r_seq ?_
 refine r_seq ?_
 refine r_region ?_
 refine r_op rfl rfl rfl (run_mv (v := S _) rfl (by exact rfl)) ?_
 refine r_op rfl rfl rfl (run_lenS rfl (by exact rfl) Try.underlying9) ?_
 refine r_op rfl rfl rfl (run_lss rfl (by exact rfl) (by exact rfl)) ?_
 refine r_op rfl rfl rfl (run_mv (v := .bool _) rfl (by exact rfl)) ?_
 refine r_g rfl (wantF (by exact rfl)) rfl (fun hg => run_mv (v := S _) rfl (by exact rfl)) ?_
 refine r_g rfl (wantF (by exact rfl)) rfl (fun hg => run_lenS rfl (glv (by exact rfl) (fun h => h) hg) Try.underlying9) ?_
 refine r_g rfl (wantF (by exact rfl)) rfl (fun hg => run_gtr rfl (glv (by exact rfl) (fun h => h) hg) (by exact rfl)) ?_
 refine r_op rfl rfl rfl (run_pick_or rfl (by exact rfl) rfl (fun hq => glv (by exact rfl) (fun h => h) hq)) ?_
 refine r_nil ?_
 refine r_cond (by exact rfl) (fun hc1 => ?_) (fun hc1 => ?_)
 ·skip
  refine r_seq ?_
  refine r_region ?_
  refine r_op rfl rfl rfl (run_asg (v := .bool _) rfl (by exact rfl)) ?_
  refine r_nil ?_
  refine r_ret (res1 (v := .bool _) rfl (by exact rfl)) ?_
  exact ⟨by rw [isName_len (by omega)], hV⟩
 ·skip
  refine r_skip ?_
  refine r_seq ?_
  refine r_seq ?_
  refine r_region ?_
  refine r_op rfl rfl rfl (run_asg (v := .int _ _) rfl (by exact rfl)) ?_
  refine r_nil ?_
  refine r_block ?_
  refine r_loop (α := Nat) [2, 3, 4, 13, 14, 15, 16, 17, 18, 19, 20, 21, 22, 23, 24, 25, 26, 27, 28, 29, 30, 31, 32, 33, 34, 35, 36, 37, 38, 39, 40, 41, 42, 43] (fun k g w => g 3 = .int .i64 (k : Nat) ∧ k ≤ s.length ∧ (k = 0 ∨ (97 ≤ (s.getD 0 0).toNat ∧ (s.getD 0 0).toNat ≤ 122)) ∧ (∀ j, 1 ≤ j → j < k → nameB (s.getD j 0) = true) ∧ w0.heap.size ≤ w.heap.size ∧ Evo w0 w []) (fun k => s.length - k) 0 ?_ ?_
  ·refine ⟨(by first | exact rfl | exact congrArg (Value.int _) (by omega) | exact congrArg (Value.int _) (by dsimp only; omega) | exact congrArg (Value.int _) (by simp) | exact congrArg S (by simp)), (by first | assumption | omega | (dsimp only; omega) | (simp; done)), (.inl rfl), (fun j h1 h2 => by omega), (by first | assumption | omega | (dsimp only; omega) | (simp; done)), hV⟩
  ·rintro k g w3 ⟨hj4, hk, hlow, hall, hzl2, hV⟩
   have hs_w3hV := hV.size
   refine r_know (i := 3) (v := .int .i64 (k : Nat)) (by exact hj4) ?_
   refine r_seq ?_
   refine r_seq ?_
   refine r_region ?_
   refine r_op rfl rfl rfl (run_mv (v := .int _ _) rfl (by exact rfl)) ?_
   refine r_op rfl rfl rfl (run_mv (v := S _) rfl (by exact rfl)) ?_
   refine r_op rfl rfl rfl (run_lenS rfl (by exact rfl) Try.underlying9) ?_
   refine r_op rfl rfl rfl (run_lss rfl (by exact rfl) (by exact rfl)) ?_
   refine r_nil ?_
   refine r_cond (by exact rfl) (fun hc5 => ?_) (fun hc5 => ?_)
   ·skip
    refine r_skip ?_
    refine r_seq ?_
    refine r_block ?_
    refine r_seq ?_
    refine r_region ?_
    refine r_op rfl rfl rfl (run_mv (v := S _) rfl (by exact rfl)) ?_
    refine r_op rfl rfl rfl (run_mv (v := .int _ _) rfl (by exact rfl)) ?_
    refine r_op rfl rfl rfl (run_ixS (k) rfl Try.underlying9 (by exact rfl) (by exact rfl) (by first | exact rfl | omega) (by omega)) ?_
    refine r_op rfl rfl rfl (run_asg (v := .int _ _) rfl (by exact rfl)) ?_
    refine r_nil ?_
    refine r_seq ?_
    refine r_seq ?_
    refine r_region ?_
    refine r_op rfl rfl rfl (run_mv (v := .int _ _) rfl (by exact rfl)) ?_
    refine r_op rfl rfl rfl (run_geq rfl (by exact rfl) (by exact rfl)) ?_
    refine r_op rfl rfl rfl (run_mv (v := .bool _) rfl (by exact rfl)) ?_
    refine r_g rfl (wantT (by exact rfl)) rfl (fun hg => run_mv (v := .int _ _) rfl (by exact rfl)) ?_
    refine r_g rfl (wantT (by exact rfl)) rfl (fun hg => run_leq rfl (glv (by exact rfl) (fun h => h) hg) (by exact rfl)) ?_
    refine r_op rfl rfl rfl (run_pick_and rfl (by exact rfl) (fun hq => glv (by exact rfl) (fun h => h) hq) rfl) ?_
    refine r_op rfl rfl rfl (run_mv (v := .bool _) rfl (by exact rfl)) ?_
    refine r_g rfl (wantF (by exact rfl)) rfl (fun hg => run_mv (v := .int _ _) rfl (by exact rfl)) ?_
    refine r_g rfl (wantF (by exact rfl)) rfl (fun hg => run_gtr rfl (glv (by exact rfl) (fun h => h) hg) (by exact rfl)) ?_
    refine r_g rfl (wantF (by exact rfl)) rfl (fun hg => run_mv (v := .bool _) rfl (glv (by exact rfl) (fun h => h) hg)) ?_
    refine r_g rfl (wantTg (by exact rfl)) rfl (fun hg => run_mv (v := .int _ _) rfl (by exact rfl)) ?_
    refine r_g rfl (wantTg (by exact rfl)) rfl (fun hg => run_geq rfl (glv (by exact rfl) (fun h => h) hg) (by exact rfl)) ?_
    refine r_g rfl (wantTg (by exact rfl)) rfl (fun hg => run_mv (v := .bool _) rfl (glv (by exact rfl) (fun h => h) hg)) ?_
    refine r_g rfl (wantTg (by exact rfl)) rfl (fun hg => run_mv (v := .int _ _) rfl (by exact rfl)) ?_
    refine r_g rfl (wantTg (by exact rfl)) rfl (fun hg => run_leq rfl (glv (by exact rfl) (fun h => h) hg) (by exact rfl)) ?_
    refine r_g rfl (wantTg (by exact rfl)) rfl (fun hg => run_pick_and rfl (glv (by exact rfl) (fun h => h) hg) (fun hq => glv (by exact rfl) (fun h => h) (And.intro hg hq)) rfl) ?_
    refine r_g rfl (wantTg (by exact rfl)) rfl (fun hg => run_mv (v := .bool _) rfl (glv (by exact rfl) (fun h => h) hg)) ?_
    refine r_g rfl (wantFg (by exact rfl)) rfl (fun hg => run_mv (v := .int _ _) rfl (by exact rfl)) ?_
    refine r_g rfl (wantFg (by exact rfl)) rfl (fun hg => run_eql rfl (glv (by exact rfl) (fun h => h) hg) (by exact rfl)) ?_
    refine r_g rfl (wantTg (by exact rfl)) rfl (fun hg => run_pick_or rfl (glv (by exact rfl) (fun h => h) hg) rfl (fun hq => glv (by exact rfl) (fun h => h) (And.intro hg hq))) ?_
    refine r_g rfl (wantF (by exact rfl)) rfl (fun hg => run_pick_and rfl (glv (by exact rfl) (fun h => h) hg) (fun hq => glv (by exact rfl) (fun h => h) (And.intro hg hq)) rfl) ?_
    refine r_op rfl rfl rfl (run_pick_or rfl (by exact rfl) rfl (fun hq => glv (by exact rfl) (fun h => h) hq)) ?_
    refine r_nil ?_
    refine r_cond (by exact rfl) (fun hc6 => ?_) (fun hc6 => ?_)
    ·skip
     refine r_exit rfl ?_
     refine r_region ?_
     refine r_op rfl rfl rfl (run_mv (v := .int _ _) rfl (by exact rfl)) ?_
     refine r_op rfl rfl rfl (run_add rfl (by exact rfl) (by exact rfl) (by omega) (by omega)) ?_
     refine r_op rfl rfl rfl (run_asg (v := .int _ _) rfl (by exact rfl)) ?_
     refine r_nil ?_
     refine r_again (k + 1) ?_ ?_ ?_
     ·first | omega | (dsimp only; omega)
     ·refine ⟨(by first | exact rfl | exact congrArg (Value.int _) (by omega) | exact congrArg (Value.int _) (by dsimp only; omega) | exact congrArg (Value.int _) (by simp) | exact congrArg S (by simp)), (by first | assumption | omega | (dsimp only; omega) | (simp; done)), (.inr (hlow.elim (fun h => by subst h; omega) id)), (upto1 hall (fun _ => (nameB_iff _).2 (by omega))), (by first | assumption | omega | (dsimp only; omega) | (simp; done)), hV⟩
     ·repeat (first | (with_reducible exact Agree.merge _ _ _) | (with_reducible exact Agree.refl _ _) | (with_reducible refine Agree.upd ?_ _ _ rfl) | ((with_reducible refine Agree.inner ?_ ?_); (kernel_rfl)))
    ·skip
     refine r_skip ?_
     refine r_seq ?_
     refine r_region ?_
     refine r_op rfl rfl rfl (run_asg (v := .bool _) rfl (by exact rfl)) ?_
     refine r_nil ?_
     refine r_ret (res1 (v := .bool _) rfl (by exact rfl)) ?_
     exact ⟨by rw [isName_bad (k := k) (by omega) (by omega)], hV⟩
   ·skip
    refine r_exit rfl ?_
    refine r_seq ?_
    refine r_region ?_
    refine r_op rfl rfl rfl (run_asg (v := .bool _) rfl (by exact rfl)) ?_
    refine r_nil ?_
    refine r_ret (res1 (v := .bool _) rfl (by exact rfl)) ?_
    exact ⟨by rw [(isName_iff s).2 ⟨by omega, by omega, by omega, fun j h1 h2 => hall j h1 (by omega)⟩], hV⟩

theorem sl_ib_calls {s : Str} {c : UInt8} {w0 : World}  :
    Calls Try.prog 193 #[S s, .int .u8 ((c.toNat : Nat) : Int)] w0 fun e w' => e = .returned (.int .i64 (Lib.indexByte s c)) ∧ Evo w0 w' [] := by
 refine calls_enter (n := 8) (args := [S s, .int .u8 ((c.toNat : Nat) : Int)]) Try.func193 rfl Try.ntmps193 rfl ?_
 have hV : Evo w0 w0 [] := Evo.refl _ _
 refine r_seq ?_
 refine r_region ?_
 refine r_op rfl rfl rfl (run_asg (v := .int _ _) rfl (by exact rfl)) ?_
 refine r_nil ?_
 refine r_seq ?_
 refine r_region ?_
 refine r_op rfl rfl rfl (run_mv (v := S _) rfl (by exact rfl)) ?_
 refine r_op rfl rfl rfl (run_mv (v := .int _ _) rfl (by exact rfl)) ?_
 refine r_op rfl rfl rfl (run_extIdx (s := _) (c := _) rfl (by exact rfl) (by exact rfl) Try.func207 rfl rfl rfl rfl) ?_
 refine r_op rfl rfl rfl (run_asg (v := .int _ _) rfl (by exact rfl)) ?_
 refine r_nil ?_
 refine r_ret (res1 (v := .int _ _) rfl (by exact rfl)) ?_
 exact ⟨rfl, hV⟩

theorem s_ib_calls {s : Str} {c : UInt8} {w0 : World}  :
    Calls Try.prog 203 #[S s, .int .u8 ((c.toNat : Nat) : Int)] w0 fun e w' => e = .returned (.int .i64 (Lib.indexByte s c)) ∧ Evo w0 w' [] := by
 refine calls_enter (n := 8) (args := [S s, .int .u8 ((c.toNat : Nat) : Int)]) Try.func203 rfl Try.ntmps203 rfl ?_
 have hV : Evo w0 w0 [] := Evo.refl _ _
 refine r_seq ?_
 refine r_region ?_
 refine r_op rfl rfl rfl (run_asg (v := .int _ _) rfl (by exact rfl)) ?_
 refine r_nil ?_
 refine r_seq ?_
 refine r_region ?_
 refine r_op rfl rfl rfl (run_mv (v := S _) rfl (by exact rfl)) ?_
 refine r_op rfl rfl rfl (run_mv (v := .int _ _) rfl (by exact rfl)) ?_
 refine r_opcall rfl rfl rfl (run_callf (vs := [S _, .int _ _]) rfl (by exact rfl) Try.func193 rfl (by kernel_rfl)) sl_ib_calls ?_
 rintro e w1 ⟨rfl, hE1⟩
 refine ⟨_, rfl, ?_⟩
 have hs_w1 := (hE1).size
 replace hV := evo_step0 hV hE1
 refine r_op rfl rfl rfl (run_asg (v := .int _ _) rfl (by exact rfl)) ?_
 refine r_nil ?_
 refine r_ret (res1 (v := .int _ _) rfl (by exact rfl)) ?_
 exact ⟨rfl, hV⟩

theorem sl_ix_calls {s : Str} {c : UInt8} {w0 : World}  :
    Calls Try.prog 154 #[S s, S [c]] w0 fun e w' => e = .returned (.int .i64 (Lib.indexByte s c)) ∧ Evo w0 w' [] := by
 refine calls_enter (n := 143) (args := [S s, S [c]]) Try.func154 rfl Try.ntmps154 rfl ?_
 have hV : Evo w0 w0 [] := Evo.refl _ _
 refine r_seq ?_
 refine r_region ?_
 refine r_op rfl rfl rfl (run_asg (v := .int _ _) rfl (by exact rfl)) ?_
 refine r_nil ?_
 refine r_seq ?_
 refine r_region ?_
 refine r_op rfl rfl rfl (run_mv (v := S _) rfl (by exact rfl)) ?_
 refine r_op rfl rfl rfl (run_lenS rfl (by exact rfl) Try.underlying9) ?_
 refine r_op rfl rfl rfl (run_asg (v := .int _ _) rfl (by exact rfl)) ?_
 refine r_nil ?_
 refine r_seq ?_
 refine r_block ?_
 refine r_seq ?_
 refine r_region ?_
 refine r_op rfl rfl rfl (run_mv (v := .int _ _) rfl (by exact rfl)) ?_
 refine r_op rfl rfl rfl (run_eql rfl (by exact rfl) (by exact rfl)) ?_
 refine r_op rfl rfl rfl (run_mv (v := .bool _) rfl (by exact rfl)) ?_
 refine r_g rfl (wantF (by exact rfl)) rfl (fun hg => run_mv (v := S _) rfl (by exact rfl)) ?_
 refine r_g rfl (wantF (by exact rfl)) rfl (fun hg => run_mv (v := S _) rfl (by exact rfl)) ?_
 refine r_g rfl (wantF (by exact rfl)) rfl (fun hg => run_seql rfl (glv (by exact rfl) (fun h => h) hg) (glv (by exact rfl) (fun h => h) hg)) ?_
 refine r_op rfl rfl rfl (run_pick_or rfl (by exact rfl) rfl (fun hq => glv (by exact rfl) (fun h => h) hq)) ?_
 refine r_op rfl rfl rfl (run_asg (v := .bool _) rfl (by exact rfl)) ?_
 refine r_nil ?_
 refine r_cond (by exact rfl) (fun hc1 => ?_) (fun hc1 => ?_)
 ·skip
  refine r_seq ?_
  refine r_region ?_
  refine r_op rfl rfl rfl (run_asg (v := .int _ _) rfl (by exact rfl)) ?_
  refine r_nil ?_
  refine r_ret (res1 (v := .int _ _) rfl (by exact rfl)) ?_
  exact ⟨by rw [ix_same hc1], hV⟩
 ·skip
  refine r_seq ?_
  refine r_region ?_
  refine r_op rfl rfl rfl (run_mv (v := .int _ _) rfl (by exact rfl)) ?_
  refine r_op rfl rfl rfl (run_eql rfl (by exact rfl) (by exact rfl)) ?_
  refine r_op rfl rfl rfl (run_asg (v := .bool _) rfl (by exact rfl)) ?_
  refine r_nil ?_
  refine r_cond (by exact rfl) (fun hc2 => ?_) (fun hc2 => ?_)
  ·skip
   refine r_seq ?_
   refine r_region ?_
   refine r_op rfl rfl rfl (run_mv (v := S _) rfl (by exact rfl)) ?_
   refine r_op rfl rfl rfl (run_mv (v := S _) rfl (by exact rfl)) ?_
   refine r_op rfl rfl rfl (run_ixS (0) rfl Try.underlying9 (by exact rfl) (by exact rfl) (by first | exact rfl | omega) (by simp)) ?_
   refine r_opcall rfl rfl rfl (run_callf (vs := [S _, .int _ _]) rfl (by exact rfl) Try.func193 rfl (by kernel_rfl)) sl_ib_calls ?_
   rintro e w3 ⟨rfl, hE3⟩
   refine ⟨_, rfl, ?_⟩
   have hs_w3 := (hE3).size
   replace hV := evo_step0 hV hE3
   refine r_op rfl rfl rfl (run_asg (v := .int _ _) rfl (by exact rfl)) ?_
   refine r_nil ?_
   refine r_ret (res1 (v := .int _ _) rfl (by exact rfl)) ?_
   exact ⟨rfl, hV⟩
  ·skip
   exfalso; simp at hc2

theorem sl_cut_calls {s : Str} {c : UInt8} {w0 : World} (hs : s.length ≤ 140737488355328) :
    Calls Try.prog 121 #[S s, S [c]] w0 fun e w' => e = .returned (.tuple #[S (cutL s c).1, S (cutL s c).2.1, .bool (cutL s c).2.2]) ∧ Evo w0 w' [] := by
 refine calls_enter (n := 23) (args := [S s, S [c]]) Try.func121 rfl Try.ntmps121 rfl ?_
 have hV : Evo w0 w0 [] := Evo.refl _ _
 refine r_seq ?_
 refine r_region ?_
 refine r_op rfl rfl rfl (run_asg (v := S _) rfl (by exact rfl)) ?_
 refine r_op rfl rfl rfl (run_asg (v := S _) rfl (by exact rfl)) ?_
 refine r_op rfl rfl rfl (run_asg (v := .bool _) rfl (by exact rfl)) ?_
 refine r_nil ?_
 refine r_seq ?_
 refine r_seq ?_
 refine r_region ?_
 refine r_op rfl rfl rfl (run_mv (v := S _) rfl (by exact rfl)) ?_
 refine r_op rfl rfl rfl (run_mv (v := S _) rfl (by exact rfl)) ?_
 refine r_opcall rfl rfl rfl (run_callf (vs := [S _, S _]) rfl (by exact rfl) Try.func154 rfl (by kernel_rfl)) sl_ix_calls ?_
 rintro e w1 ⟨rfl, hE1⟩
 refine ⟨_, rfl, ?_⟩
 have hs_w1 := (hE1).size
 replace hV := evo_step0 hV hE1
 refine r_op rfl rfl rfl (run_asg (v := .int _ _) rfl (by exact rfl)) ?_
 refine r_nil ?_
 refine r_seq ?_
 have hix := index_tw s c
 refine r_region ?_
 refine r_op rfl rfl rfl (run_mv (v := .int _ _) rfl (by exact rfl)) ?_
 refine r_op rfl rfl rfl (run_geq rfl (by exact rfl) (by exact rfl)) ?_
 refine r_nil ?_
 refine r_cond (by exact rfl) (fun hc2 => ?_) (fun hc2 => ?_)
 ·skip
  refine r_seq ?_
  refine r_qregion (by kernel_rfl) (by kernel_rfl) ?_
  refine q_op rfl rfl rfl (fun w' hC => run_mv (v := S _) rfl (by exact rfl)) ?_
  refine q_op rfl rfl rfl (fun w' hC => run_mv (v := .int _ _) rfl (by exact rfl)) ?_
  refine q_op rfl rfl rfl (fun w' hC => run_slS (0) ((s.takeWhile (fun x => x != c)).length) rfl Try.underlying9 (by exact rfl) lo0 (at1 (by exact rfl) (by omega)) (by first | omega | (simp; omega)) (by first | omega | (simp; omega))) ?_
  refine q_op rfl rfl rfl (fun w' hC => run_mv (v := S _) rfl (by exact rfl)) ?_
  refine q_op rfl rfl rfl (fun w' hC => run_mv (v := .int _ _) rfl (by exact rfl)) ?_
  refine q_op rfl rfl rfl (fun w' hC => run_mv (v := S _) rfl (by exact rfl)) ?_
  refine q_op rfl rfl rfl (fun w' hC => run_lenS rfl (by exact rfl) Try.underlying9) ?_
  refine q_op rfl rfl rfl (fun w' hC => run_add rfl (by exact rfl) (by exact rfl) (by simp; omega) (by simp; omega)) ?_
  refine q_op rfl rfl rfl (fun w' hC => run_slS ((s.takeWhile (fun x => x != c)).length + 1) (_) rfl Try.underlying9 (by exact rfl) (at1 (by exact rfl) (by simp; omega)) hi0 (by first | omega | (simp; omega)) (by first | omega | (simp; omega))) ?_
  refine q_op rfl rfl rfl (fun w' hC => run_asg (v := S _) rfl (by exact rfl)) ?_
  refine q_op rfl rfl rfl (fun w' hC => run_asg (v := S _) rfl (by exact rfl)) ?_
  refine q_op rfl rfl rfl (fun w' hC => run_asg (v := .bool _) rfl (by exact rfl)) ?_
  refine q_nil (fun w3 hE4 => ?_)
  have hs_w3 := (hE4).size
  replace hV := evo_step0 hV hE4
  refine r_ret (res3 (v := S _) (u := S _) (x := .bool _) rfl (by exact rfl) (by exact rfl) (by exact rfl)) ?_
  exact ⟨by unfold cutL; rw [if_pos (by omega)]; simp; rw [List.take_of_length_le (by simp)], hV⟩
 ·skip
  refine r_skip ?_
  refine r_seq ?_
  refine r_region ?_
  refine r_op rfl rfl rfl (run_mv (v := S _) rfl (by exact rfl)) ?_
  refine r_op rfl rfl rfl (run_asg (v := S _) rfl (by exact rfl)) ?_
  refine r_op rfl rfl rfl (run_asg (v := S _) rfl (by exact rfl)) ?_
  refine r_op rfl rfl rfl (run_asg (v := .bool _) rfl (by exact rfl)) ?_
  refine r_nil ?_
  refine r_ret (res3 (v := S _) (u := S _) (x := .bool _) rfl (by exact rfl) (by exact rfl) (by exact rfl)) ?_
  exact ⟨by unfold cutL; rw [if_neg (by omega)], hV⟩

theorem s_cut_calls {s : Str} {c : UInt8} {w0 : World} (hs : s.length ≤ 140737488355328) :
    Calls Try.prog 83 #[S s, S [c]] w0 fun e w' => e = .returned (.tuple #[S (cutL s c).1, S (cutL s c).2.1, .bool (cutL s c).2.2]) ∧ Evo w0 w' [] := by
 refine calls_enter (n := 13) (args := [S s, S [c]]) Try.func83 rfl Try.ntmps83 rfl ?_
 have hV : Evo w0 w0 [] := Evo.refl _ _
 refine r_seq ?_
 refine r_region ?_
 refine r_op rfl rfl rfl (run_asg (v := S _) rfl (by exact rfl)) ?_
 refine r_op rfl rfl rfl (run_asg (v := S _) rfl (by exact rfl)) ?_
 refine r_op rfl rfl rfl (run_asg (v := .bool _) rfl (by exact rfl)) ?_
 refine r_nil ?_
 refine r_seq ?_
 refine r_region ?_
 refine r_op rfl rfl rfl (run_mv (v := S _) rfl (by exact rfl)) ?_
 refine r_op rfl rfl rfl (run_mv (v := S _) rfl (by exact rfl)) ?_
 refine r_opcall rfl rfl rfl (run_callf (vs := [S _, S _]) rfl (by exact rfl) Try.func121 rfl (by kernel_rfl)) (sl_cut_calls (by omega)) ?_
 rintro e w1 ⟨rfl, hE1⟩
 refine ⟨_, rfl, ?_⟩
 have hs_w1 := (hE1).size
 replace hV := evo_step0 hV hE1
 refine r_op rfl rfl rfl (run_extract (v := S _) rfl (by exact rfl) (by exact rfl)) ?_
 refine r_op rfl rfl rfl (run_extract (v := S _) rfl (by exact rfl) (by exact rfl)) ?_
 refine r_op rfl rfl rfl (run_extract (v := .bool _) rfl (by exact rfl) (by exact rfl)) ?_
 refine r_op rfl rfl rfl (run_asg (v := S _) rfl (by exact rfl)) ?_
 refine r_op rfl rfl rfl (run_asg (v := S _) rfl (by exact rfl)) ?_
 refine r_op rfl rfl rfl (run_asg (v := .bool _) rfl (by exact rfl)) ?_
 refine r_nil ?_
 refine r_ret (res3 (v := S _) (u := S _) (x := .bool _) rfl (by exact rfl) (by exact rfl) (by exact rfl)) ?_
 exact ⟨rfl, hV⟩

theorem name_calls {s : Str} {w0 : World} (hs : s.length ≤ 140737488355328) :
    Calls Try.prog 177 #[S s] w0 fun e w' => e = .returned (S (nameL s)) ∧ Evo w0 w' [] := by
 refine calls_enter (n := 13) (args := [S s]) Try.func177 rfl Try.ntmps177 rfl ?_
 have hV : Evo w0 w0 [] := Evo.refl _ _
 refine r_seq ?_
 refine r_region ?_
 refine r_op rfl rfl rfl (run_asg (v := S _) rfl (by exact rfl)) ?_
 refine r_nil ?_
 refine r_seq ?_
 refine r_region ?_
 refine r_op rfl rfl rfl (run_mv (v := S _) rfl (by exact rfl)) ?_
 refine r_opcall rfl rfl rfl (run_callf (vs := [S _, S _]) rfl (by exact rfl) Try.func83 rfl (by kernel_rfl)) (s_cut_calls (by omega)) ?_
 rintro e w1 ⟨rfl, hE1⟩
 refine ⟨_, rfl, ?_⟩
 have hs_w1 := (hE1).size
 replace hV := evo_step0 hV hE1
 refine r_op rfl rfl rfl (run_mv (v := .tuple _) rfl (by exact rfl)) ?_
 refine r_op rfl rfl rfl (run_extract (v := S _) rfl (by exact rfl) (by exact rfl)) ?_
 refine r_op rfl rfl rfl (run_extract (v := S _) rfl (by exact rfl) (by exact rfl)) ?_
 refine r_op rfl rfl rfl (run_extract (v := .bool _) rfl (by exact rfl) (by exact rfl)) ?_
 refine r_op rfl rfl rfl (run_asg (v := S _) rfl (by exact rfl)) ?_
 refine r_op rfl rfl rfl (run_asg (v := S _) rfl (by exact rfl)) ?_
 refine r_op rfl rfl rfl (run_asg (v := .bool _) rfl (by exact rfl)) ?_
 refine r_nil ?_
 refine r_seq ?_
 refine r_region ?_
 refine r_op rfl rfl rfl (run_mv (v := S _) rfl (by exact rfl)) ?_
 refine r_op rfl rfl rfl (run_asg (v := S _) rfl (by exact rfl)) ?_
 refine r_nil ?_
 refine r_ret (res1 (v := S _) rfl (by exact rfl)) ?_
 exact ⟨by rw [← cut_name], hV⟩

theorem rname_calls {s : Str} {w0 : World} (hs : s.length ≤ 140737488355328) :
    Calls Try.prog 105 #[S s] w0 fun e w' => e = .returned (S (nameL s)) ∧ Evo w0 w' [] := by
 refine calls_enter (n := 18) (args := [S s]) Try.func105 rfl Try.ntmps105 rfl ?_
 have hV : Evo w0 w0 [] := Evo.refl _ _
 refine r_seq ?_
 refine r_region ?_
 refine r_op rfl rfl rfl (run_asg (v := S _) rfl (by exact rfl)) ?_
 refine r_nil ?_
 refine r_seq ?_
 refine r_seq ?_
 refine r_region ?_
 refine r_op rfl rfl rfl (run_asg (v := .int _ _) rfl (by exact rfl)) ?_
 refine r_nil ?_
 refine r_block ?_
 refine r_loop (α := Nat) [2, 3, 4, 5, 6, 7, 8, 9, 10, 11, 12, 13, 14, 15, 16] (fun k g w => g 3 = .int .i64 (k : Nat) ∧ k ≤ s.length ∧ (∀ j, j < k → (s.getD j 0).toNat ≠ 32) ∧ w0.heap.size ≤ w.heap.size ∧ Evo w0 w []) (fun k => s.length - k) 0 ?_ ?_
 ·refine ⟨(by first | exact rfl | exact congrArg (Value.int _) (by omega) | exact congrArg (Value.int _) (by dsimp only; omega) | exact congrArg (Value.int _) (by simp) | exact congrArg S (by simp)), (by first | assumption | omega | (dsimp only; omega) | (simp; done)), (fun j h1 => by omega), (by first | assumption | omega | (dsimp only; omega) | (simp; done)), hV⟩
 ·rintro k g w2 ⟨hj3, hk, hall, hzl1, hV⟩
  have hs_w2hV := hV.size
  refine r_know (i := 3) (v := .int .i64 (k : Nat)) (by exact hj3) ?_
  refine r_seq ?_
  refine r_seq ?_
  refine r_region ?_
  refine r_op rfl rfl rfl (run_mv (v := .int _ _) rfl (by exact rfl)) ?_
  refine r_op rfl rfl rfl (run_mv (v := S _) rfl (by exact rfl)) ?_
  refine r_op rfl rfl rfl (run_lenS rfl (by exact rfl) Try.underlying9) ?_
  refine r_op rfl rfl rfl (run_lss rfl (by exact rfl) (by exact rfl)) ?_
  refine r_nil ?_
  refine r_cond (by exact rfl) (fun hc4 => ?_) (fun hc4 => ?_)
  ·skip
   refine r_skip ?_
   refine r_seq ?_
   refine r_block ?_
   refine r_seq ?_
   refine r_region ?_
   refine r_op rfl rfl rfl (run_mv (v := S _) rfl (by exact rfl)) ?_
   refine r_op rfl rfl rfl (run_mv (v := .int _ _) rfl (by exact rfl)) ?_
   refine r_op rfl rfl rfl (run_ixS (k) rfl Try.underlying9 (by exact rfl) (by exact rfl) (by first | exact rfl | omega) (by omega)) ?_
   refine r_op rfl rfl rfl (run_eql rfl (by exact rfl) (by exact rfl)) ?_
   refine r_nil ?_
   refine r_cond (by exact rfl) (fun hc5 => ?_) (fun hc5 => ?_)
   ·skip
    refine r_seq ?_
    refine r_region ?_
    refine r_op rfl rfl rfl (run_mv (v := S _) rfl (by exact rfl)) ?_
    refine r_op rfl rfl rfl (run_mv (v := .int _ _) rfl (by exact rfl)) ?_
    refine r_op rfl rfl rfl (by exact run_slS (0) (k) rfl Try.underlying9 (by exact rfl) lo0 (at1 (by exact rfl) (by first | exact rfl | omega)) (by first | omega | (simp; omega)) (by first | omega | (simp; omega))) ?_
    refine r_op rfl rfl rfl (run_asg (v := S _) rfl (by exact rfl)) ?_
    refine r_nil ?_
    refine r_ret (res1 (v := S _) rfl (by exact rfl)) ?_
    exact ⟨by rw [nameL_at hall (by omega) (by omega)]; simp, hV⟩
   ·skip
    refine r_skip ?_
    refine r_blk ?_
    refine r_region ?_
    refine r_op rfl rfl rfl (run_mv (v := .int _ _) rfl (by exact rfl)) ?_
    refine r_op rfl rfl rfl (run_add rfl (by exact rfl) (by exact rfl) (by omega) (by omega)) ?_
    refine r_op rfl rfl rfl (run_asg (v := .int _ _) rfl (by exact rfl)) ?_
    refine r_nil ?_
    refine r_again (k + 1) ?_ ?_ ?_
    ·first | omega | (dsimp only; omega)
    ·refine ⟨(by first | exact rfl | exact congrArg (Value.int _) (by omega) | exact congrArg (Value.int _) (by dsimp only; omega) | exact congrArg (Value.int _) (by simp) | exact congrArg S (by simp)), (by first | assumption | omega | (dsimp only; omega) | (simp; done)), (upto0 hall (by omega)), (by first | assumption | omega | (dsimp only; omega) | (simp; done)), hV⟩
    ·repeat (first | (with_reducible exact Agree.merge _ _ _) | (with_reducible exact Agree.refl _ _) | (with_reducible refine Agree.upd ?_ _ _ rfl) | ((with_reducible refine Agree.inner ?_ ?_); (kernel_rfl)))
  ·skip
   refine r_exit rfl ?_
   refine r_seq ?_
   refine r_region ?_
   refine r_op rfl rfl rfl (run_mv (v := S _) rfl (by exact rfl)) ?_
   refine r_op rfl rfl rfl (run_asg (v := S _) rfl (by exact rfl)) ?_
   refine r_nil ?_
   refine r_ret (res1 (v := S _) rfl (by exact rfl)) ?_
   exact ⟨by rw [nameL_all (fun j hj => hall j (by omega))], hV⟩

theorem iscont_calls {s : Str} {w0 : World}  :
    Calls Try.prog 176 #[S s] w0 fun e w' => e = .returned (.bool (isContent s)) ∧ Evo w0 w' [] := by
 refine calls_enter (n := 63) (args := [S s]) Try.func176 rfl Try.ntmps176 rfl ?_
 have hV : Evo w0 w0 [] := Evo.refl _ _
 refine r_seq ?_
 refine r_region ?_
 refine r_op rfl rfl rfl (run_asg (v := .bool _) rfl (by exact rfl)) ?_
 refine r_nil ?_
 refine r_seq ?_
 refine r_seq ?_
 refine r_region ?_
 refine r_op rfl rfl rfl (run_mv (v := S _) rfl (by exact rfl)) ?_
 refine r_op rfl rfl rfl (run_lenS rfl (by exact rfl) Try.underlying9) ?_
 refine r_op rfl rfl rfl (run_gtr rfl (by exact rfl) (by exact rfl)) ?_
 refine r_op rfl rfl rfl (run_mv (v := .bool _) rfl (by exact rfl)) ?_
 refine r_g rfl (wantF (by exact rfl)) rfl (fun hg => run_mv (v := S _) rfl (by exact rfl)) ?_
 refine r_g rfl (wantF (by exact rfl)) rfl (fun hg => run_lenS rfl (glv (by exact rfl) (fun h => h) hg) Try.underlying9) ?_
 refine r_g rfl (wantF (by exact rfl)) rfl (fun hg => run_eql rfl (glv (by exact rfl) (fun h => h) hg) (by exact rfl)) ?_
 refine r_op rfl rfl rfl (run_pick_or rfl (by exact rfl) rfl (fun hq => glv (by exact rfl) (fun h => h) hq)) ?_
 refine r_op rfl rfl rfl (run_mv (v := .bool _) rfl (by exact rfl)) ?_
 refine r_g rfl (wantF (by exact rfl)) rfl (fun hg => run_mv (v := S _) rfl (by exact rfl)) ?_
 refine r_g rfl (wantF (by exact rfl)) rfl (fun hg => run_mv (v := S _) rfl (by exact rfl)) ?_
 refine r_g rfl (wantF (by exact rfl)) rfl (fun hg => run_lenS rfl (glv (by exact rfl) (fun h => h) hg) Try.underlying9) ?_
 refine r_g rfl (wantF (by exact rfl)) rfl (fun hg => run_sub rfl (glv (by exact rfl) (fun h => h) hg) (by exact rfl) (by omega) (by omega)) ?_
 refine r_g rfl (wantF (by exact rfl)) rfl (fun hg => run_ixS ((s.length - 1)) rfl Try.underlying9 (glv (by exact rfl) (fun h => h) hg) (glv (by exact rfl) (fun h => h) hg) (by omega) (by omega)) ?_
 refine r_g rfl (wantF (by exact rfl)) rfl (fun hg => run_eql rfl (glv (by exact rfl) (fun h => h) hg) (by exact rfl)) ?_
 refine r_op rfl rfl rfl (run_pick_or rfl (by exact rfl) rfl (fun hq => glv (by exact rfl) (fun h => h) hq)) ?_
 refine r_nil ?_
 refine r_cond (by exact rfl) (fun hc1 => ?_) (fun hc1 => ?_)
 ·skip
  refine r_seq ?_
  refine r_region ?_
  refine r_op rfl rfl rfl (run_asg (v := .bool _) rfl (by exact rfl)) ?_
  refine r_nil ?_
  refine r_ret (res1 (v := .bool _) rfl (by exact rfl)) ?_
  exact ⟨by rw [isContent_no (by omega)], hV⟩
 ·skip
  refine r_skip ?_
  refine r_seq ?_
  refine r_seq ?_
  refine r_region ?_
  refine r_op rfl rfl rfl (run_asg (v := .int _ _) rfl (by exact rfl)) ?_
  refine r_nil ?_
  refine r_block ?_
  refine r_loop (α := Nat) [2, 3, 23, 24, 25, 26, 27, 28, 29, 30, 31, 32, 33, 34, 35, 36, 37, 38, 39, 40, 41, 42, 43, 44, 45] (fun k g w => g 3 = .int .i64 (k : Nat) ∧ k ≤ s.length ∧ (∀ j, j < k → contB (s.getD j 0) = true) ∧ w0.heap.size ≤ w.heap.size ∧ Evo w0 w []) (fun k => s.length - k) 0 ?_ ?_
  ·refine ⟨(by first | exact rfl | exact congrArg (Value.int _) (by omega) | exact congrArg (Value.int _) (by dsimp only; omega) | exact congrArg (Value.int _) (by simp) | exact congrArg S (by simp)), (by first | assumption | omega | (dsimp only; omega) | (simp; done)), (fun j h1 => by omega), (by first | assumption | omega | (dsimp only; omega) | (simp; done)), hV⟩
  ·rintro k g w3 ⟨hj4, hk, hall, hzl2, hV⟩
   have hs_w3hV := hV.size
   refine r_know (i := 3) (v := .int .i64 (k : Nat)) (by exact hj4) ?_
   refine r_seq ?_
   refine r_seq ?_
   refine r_region ?_
   refine r_op rfl rfl rfl (run_mv (v := .int _ _) rfl (by exact rfl)) ?_
   refine r_op rfl rfl rfl (run_mv (v := S _) rfl (by exact rfl)) ?_
   refine r_op rfl rfl rfl (run_lenS rfl (by exact rfl) Try.underlying9) ?_
   refine r_op rfl rfl rfl (run_lss rfl (by exact rfl) (by exact rfl)) ?_
   refine r_nil ?_
   refine r_cond (by exact rfl) (fun hc5 => ?_) (fun hc5 => ?_)
   ·skip
    refine r_skip ?_
    refine r_seq ?_
    refine r_block ?_
    refine r_seq ?_
    have h4 := ix4 (s.getD k 0)
    refine r_region ?_
    refine r_op rfl rfl rfl (run_mv (v := S _) rfl (by exact rfl)) ?_
    refine r_op rfl rfl rfl (run_mv (v := .int _ _) rfl (by exact rfl)) ?_
    refine r_op rfl rfl rfl (run_ixS (k) rfl Try.underlying9 (by exact rfl) (by exact rfl) (by first | exact rfl | omega) (by omega)) ?_
    refine r_op rfl rfl rfl (run_lss rfl (by exact rfl) (by exact rfl)) ?_
    refine r_op rfl rfl rfl (run_mv (v := .bool _) rfl (by exact rfl)) ?_
    refine r_g rfl (wantF (by exact rfl)) rfl (fun hg => run_mv (v := S _) rfl (by exact rfl)) ?_
    refine r_g rfl (wantF (by exact rfl)) rfl (fun hg => run_mv (v := .int _ _) rfl (by exact rfl)) ?_
    refine r_g rfl (wantF (by exact rfl)) rfl (fun hg => run_ixS (k) rfl Try.underlying9 (glv (by exact rfl) (fun h => h) hg) (glv (by exact rfl) (fun h => h) hg) (by first | exact rfl | omega) (by omega)) ?_
    refine r_g rfl (wantF (by exact rfl)) rfl (fun hg => run_gtr rfl (glv (by exact rfl) (fun h => h) hg) (by exact rfl)) ?_
    refine r_op rfl rfl rfl (run_pick_or rfl (by exact rfl) rfl (fun hq => glv (by exact rfl) (fun h => h) hq)) ?_
    refine r_op rfl rfl rfl (run_mv (v := .bool _) rfl (by exact rfl)) ?_
    refine r_g rfl (wantF (by exact rfl)) rfl (fun hg => run_mv (v := S _) rfl (by exact rfl)) ?_
    refine r_g rfl (wantF (by exact rfl)) rfl (fun hg => run_mv (v := .int _ _) rfl (by exact rfl)) ?_
    refine r_g rfl (wantF (by exact rfl)) rfl (fun hg => run_ixS (k) rfl Try.underlying9 (glv (by exact rfl) (fun h => h) hg) (glv (by exact rfl) (fun h => h) hg) (by first | exact rfl | omega) (by omega)) ?_
    refine r_gcall rfl (wantF (by exact rfl)) rfl (fun hg => run_callf rfl (argcons (v := S _) (by exact rfl) (argcons (v := .int _ _) (glv (by exact rfl) (fun h => h) hg) (rfl))) Try.func203 rfl (by kernel_rfl)) (fun hg => (s_ib_calls ).mono (fun e w' h => ⟨h.1, h.2⟩)) (fun w6 hE7 => ?_)
    have hs_w6 := (hE7).size
    replace hV := evo_step0 hV hE7
    refine r_g rfl (wantF (by exact rfl)) rfl (fun hg => run_geq rfl (glv (by exact rfl) (fun h => h) hg) (by exact rfl)) ?_
    refine r_op rfl rfl rfl (run_pick_or rfl (by exact rfl) rfl (fun hq => glv (by exact rfl) (fun h => h) hq)) ?_
    refine r_nil ?_
    refine r_cond (by exact rfl) (fun hc8 => ?_) (fun hc8 => ?_)
    ·skip
     refine r_seq ?_
     refine r_region ?_
     refine r_op rfl rfl rfl (run_asg (v := .bool _) rfl (by exact rfl)) ?_
     refine r_nil ?_
     refine r_ret (res1 (v := .bool _) rfl (by exact rfl)) ?_
     exact ⟨by rw [isContent_bad k (by omega) (fun h => by have h9 := (contB_iff _).1 h; omega)], hV⟩
    ·skip
     refine r_skip ?_
     refine r_blk ?_
     refine r_region ?_
     refine r_op rfl rfl rfl (run_mv (v := .int _ _) rfl (by exact rfl)) ?_
     refine r_op rfl rfl rfl (run_add rfl (by exact rfl) (by exact rfl) (by omega) (by omega)) ?_
     refine r_op rfl rfl rfl (run_asg (v := .int _ _) rfl (by exact rfl)) ?_
     refine r_nil ?_
     refine r_again (k + 1) ?_ ?_ ?_
     ·first | omega | (dsimp only; omega)
     ·refine ⟨(by first | exact rfl | exact congrArg (Value.int _) (by omega) | exact congrArg (Value.int _) (by dsimp only; omega) | exact congrArg (Value.int _) (by simp) | exact congrArg S (by simp)), (by first | assumption | omega | (dsimp only; omega) | (simp; done)), (upto0 hall ((contB_iff _).2 (by omega))), (by first | assumption | omega | (dsimp only; omega) | (simp; done)), hV⟩
     ·repeat (first | (with_reducible exact Agree.merge _ _ _) | (with_reducible exact Agree.refl _ _) | (with_reducible refine Agree.upd ?_ _ _ rfl) | ((with_reducible refine Agree.inner ?_ ?_); (kernel_rfl)))
   ·skip
    refine r_exit rfl ?_
    refine r_seq ?_
    refine r_region ?_
    refine r_op rfl rfl rfl (run_mv (v := S _) rfl (by exact rfl)) ?_
    refine r_opcall rfl rfl rfl (run_callf (vs := [S _, S _]) rfl (by exact rfl) Try.func83 rfl (by kernel_rfl)) (s_cut_calls (by omega)) ?_
    rintro e w9 ⟨rfl, hE9⟩
    refine ⟨_, rfl, ?_⟩
    have hs_w9 := (hE9).size
    replace hV := evo_step0 hV hE9
    refine r_op rfl rfl rfl (run_mv (v := .tuple _) rfl (by exact rfl)) ?_
    refine r_op rfl rfl rfl (run_extract (v := S _) rfl (by exact rfl) (by exact rfl)) ?_
    refine r_op rfl rfl rfl (run_extract (v := S _) rfl (by exact rfl) (by exact rfl)) ?_
    refine r_op rfl rfl rfl (run_extract (v := .bool _) rfl (by exact rfl) (by exact rfl)) ?_
    refine r_op rfl rfl rfl (run_asg (v := S _) rfl (by exact rfl)) ?_
    refine r_op rfl rfl rfl (run_asg (v := S _) rfl (by exact rfl)) ?_
    refine r_op rfl rfl rfl (run_asg (v := .bool _) rfl (by exact rfl)) ?_
    refine r_nil ?_
    refine r_seq ?_
    refine r_region ?_
    refine r_op rfl rfl rfl (run_mv (v := S _) rfl (by exact rfl)) ?_
    refine r_opcall rfl rfl rfl (run_callf (vs := [S _]) rfl (by exact rfl) Try.func116 rfl (by kernel_rfl)) isname_calls ?_
    rintro e w10 ⟨rfl, hE10⟩
    refine ⟨_, rfl, ?_⟩
    have hs_w10 := (hE10).size
    replace hV := evo_step0 hV hE10
    refine r_op rfl rfl rfl (run_mvb rfl (by exact rfl)) ?_
    refine r_g rfl (wantT (by exact rfl)) rfl (fun hg => run_mvb rfl (by exact rfl)) ?_
    refine r_g rfl (wantT (by exact rfl)) rfl (fun hg => run_not rfl (glv (by exact rfl) (fun h => h) hg)) ?_
    refine r_g rfl (wantT (by exact rfl)) rfl (fun hg => run_mv (v := .bool _) rfl (glv (by exact rfl) (fun h => h) hg)) ?_
    refine r_g rfl (wantFg (by exact rfl)) rfl (fun hg => run_mv (v := S _) rfl (by exact rfl)) ?_
    refine r_g rfl (wantFg (by exact rfl)) rfl (fun hg => run_lenS rfl (glv (by exact rfl) (fun h => h) hg) Try.underlying9) ?_
    refine r_g rfl (wantFg (by exact rfl)) rfl (fun hg => run_gtr rfl (glv (by exact rfl) (fun h => h) hg) (by exact rfl)) ?_
    refine r_g rfl (wantT (by exact rfl)) rfl (fun hg => run_pick_or rfl (glv (by exact rfl) (fun h => h) hg) rfl (fun hq => glv (by exact rfl) (fun h => h) (And.intro hg hq))) ?_
    refine r_op rfl rfl rfl (run_pick_and rfl (by exact rfl) (fun hq => glv (by exact rfl) (fun h => h) hq) rfl) ?_
    refine r_op rfl rfl rfl (run_asg (v := .bool _) rfl (by exact rfl)) ?_
    refine r_nil ?_
    refine r_ret (res1 (v := .bool _) rfl (by exact rfl)) ?_
    exact ⟨ret_bool (content_end (by omega) (by omega) (fun j hj => hall j (by omega))), hV⟩

theorem riscont_calls {s : Str} {w0 : World}  :
    Calls Try.prog 190 #[S s] w0 fun e w' => e = .returned (.bool (isContent s)) ∧ Evo w0 w' [] := by
 refine calls_enter (n := 67) (args := [S s]) Try.func190 rfl Try.ntmps190 rfl ?_
 have hV : Evo w0 w0 [] := Evo.refl _ _
 refine r_seq ?_
 refine r_region ?_
 refine r_op rfl rfl rfl (run_asg (v := .bool _) rfl (by exact rfl)) ?_
 refine r_nil ?_
 refine r_seq ?_
 refine r_seq ?_
 refine r_region ?_
 refine r_op rfl rfl rfl (run_mv (v := S _) rfl (by exact rfl)) ?_
 refine r_op rfl rfl rfl (run_lenS rfl (by exact rfl) Try.underlying9) ?_
 refine r_op rfl rfl rfl (run_gtr rfl (by exact rfl) (by exact rfl)) ?_
 refine r_nil ?_
 refine r_cond (by exact rfl) (fun hc1 => ?_) (fun hc1 => ?_)
 ·skip
  refine r_seq ?_
  refine r_region ?_
  refine r_op rfl rfl rfl (run_asg (v := .bool _) rfl (by exact rfl)) ?_
  refine r_nil ?_
  refine r_ret (res1 (v := .bool _) rfl (by exact rfl)) ?_
  exact ⟨by rw [isContent_no (by omega)], hV⟩
 ·skip
  refine r_skip ?_
  refine r_seq ?_
  refine r_seq ?_
  refine r_region ?_
  refine r_op rfl rfl rfl (run_asg (v := .int _ _) rfl (by exact rfl)) ?_
  refine r_nil ?_
  refine r_block ?_
  refine r_loop (α := Nat) [2, 3, 4, 9, 10, 11, 12, 13, 14, 15, 16, 17, 18, 19, 20, 21, 22, 23, 24, 25, 26, 27, 28, 29, 30, 31, 32, 33, 34, 35, 36, 37, 38, 39] (fun k g w => g 3 = .int .i64 (k : Nat) ∧ k ≤ s.length ∧ (∀ j, j < k → contB (s.getD j 0) = true) ∧ w0.heap.size ≤ w.heap.size ∧ Evo w0 w []) (fun k => s.length - k) 0 ?_ ?_
  ·refine ⟨(by first | exact rfl | exact congrArg (Value.int _) (by omega) | exact congrArg (Value.int _) (by dsimp only; omega) | exact congrArg (Value.int _) (by simp) | exact congrArg S (by simp)), (by first | assumption | omega | (dsimp only; omega) | (simp; done)), (fun j h1 => by omega), (by first | assumption | omega | (dsimp only; omega) | (simp; done)), hV⟩
  ·rintro k g w3 ⟨hj4, hk, hall, hzl2, hV⟩
   have hs_w3hV := hV.size
   refine r_know (i := 3) (v := .int .i64 (k : Nat)) (by exact hj4) ?_
   refine r_seq ?_
   refine r_seq ?_
   refine r_region ?_
   refine r_op rfl rfl rfl (run_mv (v := .int _ _) rfl (by exact rfl)) ?_
   refine r_op rfl rfl rfl (run_mv (v := S _) rfl (by exact rfl)) ?_
   refine r_op rfl rfl rfl (run_lenS rfl (by exact rfl) Try.underlying9) ?_
   refine r_op rfl rfl rfl (run_lss rfl (by exact rfl) (by exact rfl)) ?_
   refine r_nil ?_
   refine r_cond (by exact rfl) (fun hc5 => ?_) (fun hc5 => ?_)
   ·skip
    refine r_skip ?_
    refine r_seq ?_
    refine r_block ?_
    refine r_seq ?_
    refine r_region ?_
    refine r_op rfl rfl rfl (run_mv (v := S _) rfl (by exact rfl)) ?_
    refine r_op rfl rfl rfl (run_mv (v := .int _ _) rfl (by exact rfl)) ?_
    refine r_op rfl rfl rfl (run_ixS (k) rfl Try.underlying9 (by exact rfl) (by exact rfl) (by first | exact rfl | omega) (by omega)) ?_
    refine r_op rfl rfl rfl (run_asg (v := .int _ _) rfl (by exact rfl)) ?_
    refine r_nil ?_
    refine r_seq ?_
    refine r_region ?_
    refine r_op rfl rfl rfl (run_mv (v := .int _ _) rfl (by exact rfl)) ?_
    refine r_op rfl rfl rfl (run_lss rfl (by exact rfl) (by exact rfl)) ?_
    refine r_op rfl rfl rfl (run_mv (v := .bool _) rfl (by exact rfl)) ?_
    refine r_g rfl (wantF (by exact rfl)) rfl (fun hg => run_mv (v := .int _ _) rfl (by exact rfl)) ?_
    refine r_g rfl (wantF (by exact rfl)) rfl (fun hg => run_gtr rfl (glv (by exact rfl) (fun h => h) hg) (by exact rfl)) ?_
    refine r_op rfl rfl rfl (run_pick_or rfl (by exact rfl) rfl (fun hq => glv (by exact rfl) (fun h => h) hq)) ?_
    refine r_op rfl rfl rfl (run_mv (v := .bool _) rfl (by exact rfl)) ?_
    refine r_g rfl (wantF (by exact rfl)) rfl (fun hg => run_mv (v := .int _ _) rfl (by exact rfl)) ?_
    refine r_g rfl (wantF (by exact rfl)) rfl (fun hg => run_eql rfl (glv (by exact rfl) (fun h => h) hg) (by exact rfl)) ?_
    refine r_op rfl rfl rfl (run_pick_or rfl (by exact rfl) rfl (fun hq => glv (by exact rfl) (fun h => h) hq)) ?_
    refine r_op rfl rfl rfl (run_mv (v := .bool _) rfl (by exact rfl)) ?_
    refine r_g rfl (wantF (by exact rfl)) rfl (fun hg => run_mv (v := .int _ _) rfl (by exact rfl)) ?_
    refine r_g rfl (wantF (by exact rfl)) rfl (fun hg => run_eql rfl (glv (by exact rfl) (fun h => h) hg) (by exact rfl)) ?_
    refine r_op rfl rfl rfl (run_pick_or rfl (by exact rfl) rfl (fun hq => glv (by exact rfl) (fun h => h) hq)) ?_
    refine r_op rfl rfl rfl (run_mv (v := .bool _) rfl (by exact rfl)) ?_
    refine r_g rfl (wantF (by exact rfl)) rfl (fun hg => run_mv (v := .int _ _) rfl (by exact rfl)) ?_
    refine r_g rfl (wantF (by exact rfl)) rfl (fun hg => run_eql rfl (glv (by exact rfl) (fun h => h) hg) (by exact rfl)) ?_
    refine r_op rfl rfl rfl (run_pick_or rfl (by exact rfl) rfl (fun hq => glv (by exact rfl) (fun h => h) hq)) ?_
    refine r_op rfl rfl rfl (run_mv (v := .bool _) rfl (by exact rfl)) ?_
    refine r_g rfl (wantF (by exact rfl)) rfl (fun hg => run_mv (v := .int _ _) rfl (by exact rfl)) ?_
    refine r_g rfl (wantF (by exact rfl)) rfl (fun hg => run_eql rfl (glv (by exact rfl) (fun h => h) hg) (by exact rfl)) ?_
    refine r_op rfl rfl rfl (run_pick_or rfl (by exact rfl) rfl (fun hq => glv (by exact rfl) (fun h => h) hq)) ?_
    refine r_nil ?_
    refine r_cond (by exact rfl) (fun hc6 => ?_) (fun hc6 => ?_)
    ·skip
     refine r_seq ?_
     refine r_region ?_
     refine r_op rfl rfl rfl (run_asg (v := .bool _) rfl (by exact rfl)) ?_
     refine r_nil ?_
     refine r_ret (res1 (v := .bool _) rfl (by exact rfl)) ?_
     exact ⟨by rw [isContent_bad k (by omega) (fun h => by have h9 := (contB_iff _).1 h; omega)], hV⟩
    ·skip
     refine r_skip ?_
     refine r_blk ?_
     refine r_region ?_
     refine r_op rfl rfl rfl (run_mv (v := .int _ _) rfl (by exact rfl)) ?_
     refine r_op rfl rfl rfl (run_add rfl (by exact rfl) (by exact rfl) (by omega) (by omega)) ?_
     refine r_op rfl rfl rfl (run_asg (v := .int _ _) rfl (by exact rfl)) ?_
     refine r_nil ?_
     refine r_again (k + 1) ?_ ?_ ?_
     ·first | omega | (dsimp only; omega)
     ·refine ⟨(by first | exact rfl | exact congrArg (Value.int _) (by omega) | exact congrArg (Value.int _) (by dsimp only; omega) | exact congrArg (Value.int _) (by simp) | exact congrArg S (by simp)), (by first | assumption | omega | (dsimp only; omega) | (simp; done)), (upto0 hall ((contB_iff _).2 (by omega))), (by first | assumption | omega | (dsimp only; omega) | (simp; done)), hV⟩
     ·repeat (first | (with_reducible exact Agree.merge _ _ _) | (with_reducible exact Agree.refl _ _) | (with_reducible refine Agree.upd ?_ _ _ rfl) | ((with_reducible refine Agree.inner ?_ ?_); (kernel_rfl)))
   ·skip
    refine r_exit rfl ?_
    refine r_seq ?_
    refine r_region ?_
    refine r_op rfl rfl rfl (run_mv (v := S _) rfl (by exact rfl)) ?_
    refine r_opcall rfl rfl rfl (run_callf (vs := [S _]) rfl (by exact rfl) Try.func105 rfl (by kernel_rfl)) (rname_calls (by omega)) ?_
    rintro e w7 ⟨rfl, hE7⟩
    refine ⟨_, rfl, ?_⟩
    have hs_w7 := (hE7).size
    replace hV := evo_step0 hV hE7
    refine r_op rfl rfl rfl (run_asg (v := S _) rfl (by exact rfl)) ?_
    refine r_nil ?_
    refine r_seq ?_
    have hnl := nameL_len s
    refine r_region ?_
    refine r_op rfl rfl rfl (run_mv (v := S _) rfl (by exact rfl)) ?_
    refine r_opcall rfl rfl rfl (run_callf (vs := [S _]) rfl (by exact rfl) Try.func119 rfl (by kernel_rfl)) risname_calls ?_
    rintro e w8 ⟨rfl, hE8⟩
    refine ⟨_, rfl, ?_⟩
    have hs_w8 := (hE8).size
    replace hV := evo_step0 hV hE8
    refine r_op rfl rfl rfl (run_mvb rfl (by exact rfl)) ?_
    refine r_g rfl (wantT (by exact rfl)) rfl (fun hg => run_mv (v := S _) rfl (by exact rfl)) ?_
    refine r_g rfl (wantT (by exact rfl)) rfl (fun hg => run_lenS rfl (glv (by exact rfl) (fun h => h) hg) Try.underlying9) ?_
    refine r_g rfl (wantT (by exact rfl)) rfl (fun hg => run_mv (v := S _) rfl (by exact rfl)) ?_
    refine r_g rfl (wantT (by exact rfl)) rfl (fun hg => run_lenS rfl (glv (by exact rfl) (fun h => h) hg) Try.underlying9) ?_
    refine r_g rfl (wantT (by exact rfl)) rfl (fun hg => run_eql rfl (glv (by exact rfl) (fun h => h) hg) (glv (by exact rfl) (fun h => h) hg)) ?_
    refine r_g rfl (wantT (by exact rfl)) rfl (fun hg => run_mv (v := .bool _) rfl (glv (by exact rfl) (fun h => h) hg)) ?_
    refine r_g rfl (wantFg (by exact rfl)) rfl (fun hg => run_mv (v := S _) rfl (by exact rfl)) ?_
    refine r_g rfl (wantFg (by exact rfl)) rfl (fun hg => run_lenS rfl (glv (by exact rfl) (fun h => h) hg) Try.underlying9) ?_
    refine r_g rfl (wantFg (by exact rfl)) rfl (fun hg => run_mv (v := S _) rfl (by exact rfl)) ?_
    refine r_g rfl (wantFg (by exact rfl)) rfl (fun hg => run_lenS rfl (glv (by exact rfl) (fun h => h) hg) Try.underlying9) ?_
    refine r_g rfl (wantFg (by exact rfl)) rfl (fun hg => run_add rfl (glv (by exact rfl) (fun h => h) hg) (by exact rfl) (by omega) (by omega)) ?_
    refine r_g rfl (wantFg (by exact rfl)) rfl (fun hg => run_gtr rfl (glv (by exact rfl) (fun h => h) hg) (glv (by exact rfl) (fun h => h) hg)) ?_
    refine r_g rfl (wantT (by exact rfl)) rfl (fun hg => run_pick_or rfl (glv (by exact rfl) (fun h => h) hg) rfl (fun hq => glv (by exact rfl) (fun h => h) (And.intro hg hq))) ?_
    refine r_op rfl rfl rfl (run_pick_and rfl (by exact rfl) (fun hq => glv (by exact rfl) (fun h => h) hq) rfl) ?_
    refine r_op rfl rfl rfl (run_mv (v := .bool _) rfl (by exact rfl)) ?_
    refine r_g rfl (wantT (by exact rfl)) rfl (fun hg => run_mv (v := S _) rfl (by exact rfl)) ?_
    refine r_g rfl (wantT (by exact rfl)) rfl (fun hg => run_mv (v := S _) rfl (by exact rfl)) ?_
    refine r_g rfl (wantT (by exact rfl)) rfl (fun hg => run_lenS rfl (glv (by exact rfl) (fun h => h) hg) Try.underlying9) ?_
    refine r_g rfl (wantT (by exact rfl)) rfl (fun hg => run_sub rfl (glv (by exact rfl) (fun h => h) hg) (by exact rfl) (by omega) (by omega)) ?_
    refine r_g rfl (wantT (by exact rfl)) rfl (fun hg => run_ixS ((s.length - 1)) rfl Try.underlying9 (glv (by exact rfl) (fun h => h) hg) (glv (by exact rfl) (fun h => h) hg) (by have := name_pos hg.1; omega) (by have := name_pos hg.1; omega)) ?_
    refine r_g rfl (wantT (by exact rfl)) rfl (fun hg => run_neq rfl (glv (by exact rfl) (fun h => h) hg) (by exact rfl)) ?_
    refine r_op rfl rfl rfl (run_pick_and rfl (by exact rfl) (fun hq => glv (by exact rfl) (fun h => h) hq) rfl) ?_
    refine r_op rfl rfl rfl (run_asg (v := .bool _) rfl (by exact rfl)) ?_
    refine r_nil ?_
    refine r_ret (res1 (v := .bool _) rfl (by exact rfl)) ?_
    exact ⟨ret_bool (content_end2 (by omega) (fun j hj => hall j (by omega))), hV⟩

end Go.Proofs.Ytomklacppmaljaa
