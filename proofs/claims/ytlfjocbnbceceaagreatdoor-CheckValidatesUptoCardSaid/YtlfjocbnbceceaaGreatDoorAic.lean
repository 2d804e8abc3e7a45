/-
  Library, plain laws and walks that the statements reach (joined by a program out of smaller texts).
-/
import Derived.Test.YtlfjocbnbceceaaGreatDoorAib
import Derived.Test.YtlfjocbnbceceaaGreatDoorAia
import Derived.Scope
import Derived.Lib.Bytealg
import Derived.Shelf.LaysM
import Derived.Shelf.Strings.Search1
import Derived.Shelf.Strings.Search2
import Derived.Shelf.Strings.Search3
import Derived.Shelf.Strings.Count
import Derived.Shelf.Strings.Shaped
import Derived.Shelf.Sort.Plain
import Derived.Shelf.Unicode.DecodeSlow
import Derived.Shelf.Slices.In.SortNone
import Derived.Test.YtlfjocbnbceceaaGreatDoorProg
import Derived.Lib.SlKeysI
set_option linter.unusedVariables false
set_option linter.unusedSimpArgs false
namespace Go.Proofs.YtlfjocbnbceceaaGreatDoor
open Go.RowKit Go.Vc
theorem u8i {c d : UInt8} : ((c.toNat : Nat) : Int) = ((d.toNat : Nat) : Int) ↔ c = d := ⟨fun h => UInt8.toNat_inj.1 (by omega), fun h => by rw [h]⟩
theorem wd_iff {c : UInt8} : wdB c = true ↔ (clsB c = 4 ∨ clsB c = 3) := by unfold wdB; simp
section
variable {inner : UInt8 → Bool} {a b : UInt8} {s : Str} {n : Nat}
theorem jn_twoC (hi : inner (s.getD n 0) = false) (hc : (((((s.getD n 0).toNat : Nat) : Int) = (((([a, b] : Str).getD 0 0).toNat : Nat) : Int) ∨ (((s.getD n 0).toNat : Nat) : Int) = (((([a, b] : Str).getD 1 0).toNat : Nat) : Int)) ∧ (n : Int) + 1 < (s.length : Int)) ∧ inner (s.getD (n + 1) 0) = true) :
    jnL inner a b (s.drop n) = 2 + jnL inner a b (s.drop (n + 2)) :=
  jn_two (by omega) (by show ¬ inner (s.getD n 0) = true; rw [hi]; simp) (hc.1.1.imp u8i.1 u8i.1) hc.2
theorem jn_noC (hn : n < s.length) (hi : inner (s.getD n 0) = false) (hc : ¬ ((((((s.getD n 0).toNat : Nat) : Int) = (((([a, b] : Str).getD 0 0).toNat : Nat) : Int) ∨ (((s.getD n 0).toNat : Nat) : Int) = (((([a, b] : Str).getD 1 0).toNat : Nat) : Int)) ∧ (n : Int) + 1 < (s.length : Int)) ∧ inner (s.getD (n + 1) 0) = true)) :
    jnL inner a b (s.drop n) = 0 := by
  refine jn_no hn (by show ¬ inner (s.getD n 0) = true; rw [hi]; simp) ?_
  by_cases h1 : s.getD n 0 = a ∨ s.getD n 0 = b
  · by_cases h2 : n + 1 < s.length
    · exact .inr (.inr fun h3 => hc ⟨⟨h1.imp u8i.2 u8i.2, by omega⟩, h3⟩)
    · exact .inr (.inl h2)
  · exact .inl h1
end
theorem wordly_calls {c : UInt8} {w0 : World}  :
    Calls Tryz.prog 150 #[.int .u8 ((c.toNat : Nat) : Int)] w0 fun e w' => e = .returned (.bool (wdB c)) ∧ Evo w0 w' [] := by
 refine calls_enter (n := 12) Tryz.func150 rfl Tryz.ntmps150 rfl ?_
 have hV : Evo w0 w0 [] := Evo.refl _ _
 refine Zs ?_
 refine Zn rfl (asB rfl) ?_
 refine Zs ?_
 refine Zo rfl (mvI rfl) ?_
 refine r_opcall rfl rfl rfl (run_callf (vs := [.int _ _]) rfl (by exact rfl) Tryz.func143 rfl (by kernel_rfl)) of_calls ?_
 rintro e w1 ⟨rfl, hE1⟩
 refine ⟨_, rfl, ?_⟩
 have Q1 := hE1.size
 replace hV := Z0 hV hE1
 refine Zn rfl (asI rfl) ?_
 refine Zs ?_
 refine Zo rfl (mvI rfl) ?_
 refine Zo rfl (run_eql rfl rfl rfl) ?_
 refine Zo rfl (mvB rfl) ?_
 refine r_g rfl (wantF rfl) rfl (fun hg => run_mv (v := .int _ _) rfl rfl) ?_
 refine r_g rfl (wantF rfl) rfl (fun hg => run_eql rfl (glv rfl (fun h => h) hg) rfl) ?_
 refine Zo rfl (run_pick_or rfl rfl rfl (fun hq => glv rfl (fun h => h) hq)) ?_
 refine Zn rfl (asB rfl) ?_
 refine r_ret (res1 (v := .bool _) rfl rfl) ?_
 exact ⟨ret_bool (by rw [Bool.eq_iff_iff, decide_eq_true_iff, wd_iff]), hV⟩
theorem digit_calls {c : UInt8} {w0 : World}  :
    Calls Tryz.prog 151 #[.int .u8 ((c.toNat : Nat) : Int)] w0 fun e w' => e = .returned (.bool (dgtB c)) ∧ Evo w0 w' [] := by
 refine calls_enter (n := 6) Tryz.func151 rfl Tryz.ntmps151 rfl ?_
 have hV : Evo w0 w0 [] := Evo.refl _ _
 refine Zs ?_
 refine Zn rfl (asB rfl) ?_
 refine Zs ?_
 refine Zo rfl (mvI rfl) ?_
 refine r_opcall rfl rfl rfl (run_callf (vs := [.int _ _]) rfl (by exact rfl) Tryz.func143 rfl (by kernel_rfl)) of_calls ?_
 rintro e w1 ⟨rfl, hE1⟩
 refine ⟨_, rfl, ?_⟩
 have Q1 := hE1.size
 replace hV := Z0 hV hE1
 refine Zo rfl (run_eql rfl rfl rfl) ?_
 refine Zn rfl (asB rfl) ?_
 refine r_ret (res1 (v := .bool _) rfl rfl) ?_
 exact ⟨rfl, hV⟩
theorem joinedW_calls {s : Str} {w0 : World} (hs : s.length ≤ 140737488355328) (hs1 : 1 ≤ s.length) :
    Calls Tryz.prog 149 #[S s, S [39, 45], .func (.func 150) #[] #[]] w0 fun e w' => e = .returned (.int .i64 ((1 + jnL wdB 39 45 (s.drop 1) : Nat) : Int)) ∧ Evo w0 w' [] := by
 refine calls_enter (n := 54) Tryz.func149 rfl Tryz.ntmps149 rfl ?_
 have hV : Evo w0 w0 [] := Evo.refl _ _
 refine Zs ?_
 refine Zn rfl (asI rfl) ?_
 refine Zs ?_
 refine Zn rfl (asI rfl) ?_
 refine r_seq ?_
 refine r_block ?_
 refine r_loop (α := Nat) [6, 7, 8, 9, 10, 11, 12, 13, 14, 15, 16, 17, 18, 19, 20, 21, 22, 23, 24, 25, 26, 27, 28, 29, 30, 31, 32, 33, 34, 35, 36, 37, 38, 39, 40, 41, 42, 43, 44, 45, 46, 47, 48, 49, 50, 51, 52] (fun n g w => g 7 = .int .i64 (n : Nat) ∧ (1 ≤ n ∧ n ≤ s.length) ∧ n + jnL wdB 39 45 (s.drop n) = 1 + jnL wdB 39 45 (s.drop 1) ∧ w0.heap.size ≤ w.heap.size ∧ Evo w0 w []) (fun n => s.length - n) 1 ?_ ?_
 ·refine ⟨rfl, (by first | assumption | omega | (dsimp only; omega) | (simp; done)), (by first | assumption | omega | (dsimp only; omega) | (simp; done)), (by first | assumption | omega | (dsimp only; omega) | (simp; done)), hV⟩
 rintro n g w2 ⟨hj3, hn1, hj, hzl1, hV⟩
 have hs_w2hV := hV.size
 refine Zk 7 (v := .int .i64 (n : Nat)) (by exact hj3) ?_
 refine r_seq ?_
 refine Zs ?_
 refine Zo rfl (mvI rfl) ?_
 refine Zo rfl (mvT rfl) ?_
 refine Zo rfl (run_lenS rfl rfl Tryz.underlying9) ?_
 refine Zn rfl (run_lss rfl rfl rfl) ?_
 refine r_cond rfl (fun hc4 => ?_) (fun hc4 => ?_)
 ·skip
  refine r_skip ?_
  refine r_block ?_
  refine r_block ?_
  refine Zs ?_
  refine Zo rfl (run_mv (v := .func _ _ _) rfl rfl) ?_
  refine Zo rfl (mvT rfl) ?_
  refine Zo rfl (mvI rfl) ?_
  refine Zo rfl (run_ixS (n) rfl Tryz.underlying9 rfl rfl (by first | exact rfl | omega) (by omega)) ?_
  refine r_opcall rfl rfl rfl (run_callfn (vs := [.int _ _]) (cs := []) rfl (by exact rfl) rfl Tryz.func150 rfl (by kernel_rfl)) wordly_calls ?_
  rintro e w5 ⟨rfl, hE5⟩
  refine ⟨_, rfl, ?_⟩
  have Q5 := hE5.size
  replace hV := Z0 hV hE5
  refine Zn rfl (asB rfl) ?_
  refine r_condb rfl (fun hc6 => ?_) (fun hc6 => ?_)
  ·skip
   refine r_region ?_
   refine Zo rfl (mvI rfl) ?_
   refine Zo rfl (run_add rfl rfl rfl (by omega) (by omega)) ?_
   refine r_knowL (i := 20) (v := .int .i64 ((n + 1 : Nat) : Int)) (congrArg (Value.int _) (by omega)) ?_
   refine Zn rfl (asI rfl) ?_
   refine r_blk ?_
   refine r_blk ?_
   refine r_again (n + 1) ?_ ?_ ?_
   ·first | omega | (dsimp only; omega)
   ·refine ⟨rfl, (by first | assumption | omega | (dsimp only; omega) | (simp; done)), (by first | (have h8 := jn_in (a := 39) (b := 45) (s := s) (n := n) (by omega) hc6; omega) | (have h8 := jn_twoC (a := 39) (b := 45) (inner := wdB) (s := s) (n := n) (by assumption) hc6; omega)), (by first | assumption | omega | (dsimp only; omega) | (simp; done)), hV⟩
   repeat (first | (with_reducible exact Agree.merge _ _ _) | (with_reducible exact Agree.refl _ _) | (with_reducible refine Agree.upd ?_ _ _ rfl) | ((with_reducible refine Agree.inner ?_ ?_); (kernel_rfl)))
  refine r_seq ?_
  refine r_qregion (by kernel_rfl) (by kernel_rfl) ?_
  refine Zq rfl (fun _ _ => mvT rfl) ?_
  refine Zq rfl (fun _ _ => mvI rfl) ?_
  refine q_op rfl rfl rfl (fun w' hC => run_ixS (n) rfl Tryz.underlying9 rfl rfl (by first | exact rfl | omega) (by omega)) ?_
  refine Zq rfl (fun _ _ => mvT rfl) ?_
  refine q_op rfl rfl rfl (fun w' hC => run_ixS (0) rfl Tryz.underlying9 rfl rfl (by first | exact rfl | omega) (by decide)) ?_
  refine q_op rfl rfl rfl (fun w' hC => run_eql rfl rfl rfl) ?_
  refine Zq rfl (fun _ _ => mvB rfl) ?_
  refine q_g rfl (wantF rfl) rfl (fun hg w' hC => run_mv (v := S _) rfl rfl) ?_
  refine q_g rfl (wantF rfl) rfl (fun hg w' hC => run_mv (v := .int _ _) rfl rfl) ?_
  refine q_g rfl (wantF rfl) rfl (fun hg w' hC => run_ixS (n) rfl Tryz.underlying9 (glv rfl (fun h => h) hg) (glv rfl (fun h => h) hg) (by first | exact rfl | omega) (by omega)) ?_
  refine q_g rfl (wantF rfl) rfl (fun hg w' hC => run_mv (v := S _) rfl rfl) ?_
  refine q_g rfl (wantF rfl) rfl (fun hg w' hC => run_ixS (1) rfl Tryz.underlying9 (glv rfl (fun h => h) hg) rfl (by first | exact rfl | omega) (by decide)) ?_
  refine q_g rfl (wantF rfl) rfl (fun hg w' hC => run_eql rfl (glv rfl (fun h => h) hg) (glv rfl (fun h => h) hg)) ?_
  refine q_op rfl rfl rfl (fun w' hC => run_pick_or rfl rfl rfl (fun hq => glv rfl (fun h => h) hq)) ?_
  refine Zq rfl (fun _ _ => mvB rfl) ?_
  refine q_g rfl (wantT rfl) rfl (fun hg w' hC => run_mv (v := .int _ _) rfl rfl) ?_
  refine q_g rfl (wantT rfl) rfl (fun hg w' hC => run_add rfl (glv rfl (fun h => h) hg) rfl (by omega) (by omega)) ?_
  refine q_g rfl (wantT rfl) rfl (fun hg w' hC => run_mv (v := S _) rfl rfl) ?_
  refine q_g rfl (wantT rfl) rfl (fun hg w' hC => run_lenS rfl (glv rfl (fun h => h) hg) Tryz.underlying9) ?_
  refine q_g rfl (wantT rfl) rfl (fun hg w' hC => run_lss rfl (glv rfl (fun h => h) hg) (glv rfl (fun h => h) hg)) ?_
  refine q_op rfl rfl rfl (fun w' hC => run_pick_and rfl rfl (fun hq => glv rfl (fun h => h) hq) rfl) ?_
  refine Zq rfl (fun _ _ => mvB rfl) ?_
  refine q_g rfl (wantT rfl) rfl (fun hg w' hC => run_mv (v := .func _ _ _) rfl rfl) ?_
  refine q_g rfl (wantT rfl) rfl (fun hg w' hC => run_mv (v := S _) rfl rfl) ?_
  refine q_g rfl (wantT rfl) rfl (fun hg w' hC => run_mv (v := .int _ _) rfl rfl) ?_
  refine q_g rfl (wantT rfl) rfl (fun hg w' hC => run_add rfl (glv rfl (fun h => h) hg) rfl (by omega) (by omega)) ?_
  refine q_g rfl (wantT rfl) rfl (fun hg w' hC => run_ixS ((n + 1)) rfl Tryz.underlying9 (glv rfl (fun h => h) hg) (glv rfl (fun h => h) hg) (by omega) (by omega)) ?_
  refine q_gcall rfl (wantT rfl) rfl (fun hg w' hC => run_callfn (cs := []) rfl (glv rfl (fun h => h) hg) (argcons (v := .int _ _) (glv rfl (fun h => h) hg) (rfl)) Tryz.func150 rfl (by kernel_rfl)) (fun hg w' hC => (wordly_calls ).mono (fun e w'' h => ⟨h.1, evo_step0 hC h.2⟩)) ?_
  refine q_op rfl rfl rfl (fun w' hC => run_pick_andB rfl rfl (fun hq => glv rfl (fun h => h) hq) rfl) ?_
  refine Zq rfl (fun _ _ => asB rfl) ?_
  refine q_nil (fun w7 hE8 => ?_)
  have Q7 := hE8.size
  replace hV := Z0 hV hE8
  refine r_cond rfl (fun hc9 => ?_) (fun hc9 => ?_)
  ·skip
   refine r_region ?_
   refine Zo rfl (mvI rfl) ?_
   refine Zo rfl (run_add rfl rfl rfl (by omega) (by omega)) ?_
   refine r_knowL (i := 52) (v := .int .i64 ((n + 2 : Nat) : Int)) (congrArg (Value.int _) (by omega)) ?_
   refine Zn rfl (asI rfl) ?_
   refine r_blk ?_
   refine r_blk ?_
   refine r_again (n + 2) ?_ ?_ ?_
   ·first | omega | (dsimp only; omega)
   ·refine ⟨rfl, (by first | assumption | omega | (dsimp only; omega) | (simp; done)), (by first | (have h8 := jn_in (a := 39) (b := 45) (s := s) (n := n) (by omega) hc9; omega) | (have h8 := jn_twoC (a := 39) (b := 45) (inner := wdB) (s := s) (n := n) (by assumption) hc9; omega)), (by first | assumption | omega | (dsimp only; omega) | (simp; done)), hV⟩
   repeat (first | (with_reducible exact Agree.merge _ _ _) | (with_reducible exact Agree.refl _ _) | (with_reducible refine Agree.upd ?_ _ _ rfl) | ((with_reducible refine Agree.inner ?_ ?_); (kernel_rfl)))
  refine Zs ?_
  refine Zo rfl (mvI rfl) ?_
  refine Zn rfl (asI rfl) ?_
  refine r_ret (res1 (v := .int _ _) rfl rfl) ?_
  exact ⟨ret_int (by have h8 := jn_noC (a := 39) (b := 45) (inner := wdB) (s := s) (n := n) (by omega) (by assumption) hc9; omega), hV⟩
 refine r_exit rfl ?_
 refine Zs ?_
 refine Zo rfl (mvI rfl) ?_
 refine Zn rfl (asI rfl) ?_
 refine r_ret (res1 (v := .int _ _) rfl rfl) ?_
 exact ⟨ret_int (by have h8 := jn_end (a := 39) (b := 45) (inner := wdB) (s := s) (n := n) (by omega); omega), hV⟩
theorem joinedD_calls {s : Str} {w0 : World} (hs : s.length ≤ 140737488355328) (hs1 : 1 ≤ s.length) :
    Calls Tryz.prog 149 #[S s, S [46, 44], .func (.func 151) #[] #[]] w0 fun e w' => e = .returned (.int .i64 ((1 + jnL dgtB 46 44 (s.drop 1) : Nat) : Int)) ∧ Evo w0 w' [] := by
 refine calls_enter (n := 54) Tryz.func149 rfl Tryz.ntmps149 rfl ?_
 have hV : Evo w0 w0 [] := Evo.refl _ _
 refine Zs ?_
 refine Zn rfl (asI rfl) ?_
 refine Zs ?_
 refine Zn rfl (asI rfl) ?_
 refine r_seq ?_
 refine r_block ?_
 refine r_loop (α := Nat) [6, 7, 8, 9, 10, 11, 12, 13, 14, 15, 16, 17, 18, 19, 20, 21, 22, 23, 24, 25, 26, 27, 28, 29, 30, 31, 32, 33, 34, 35, 36, 37, 38, 39, 40, 41, 42, 43, 44, 45, 46, 47, 48, 49, 50, 51, 52] (fun n g w => g 7 = .int .i64 (n : Nat) ∧ (1 ≤ n ∧ n ≤ s.length) ∧ n + jnL dgtB 46 44 (s.drop n) = 1 + jnL dgtB 46 44 (s.drop 1) ∧ w0.heap.size ≤ w.heap.size ∧ Evo w0 w []) (fun n => s.length - n) 1 ?_ ?_
 ·refine ⟨rfl, (by first | assumption | omega | (dsimp only; omega) | (simp; done)), (by first | assumption | omega | (dsimp only; omega) | (simp; done)), (by first | assumption | omega | (dsimp only; omega) | (simp; done)), hV⟩
 rintro n g w2 ⟨hj3, hn1, hj, hzl1, hV⟩
 have hs_w2hV := hV.size
 refine Zk 7 (v := .int .i64 (n : Nat)) (by exact hj3) ?_
 refine r_seq ?_
 refine Zs ?_
 refine Zo rfl (mvI rfl) ?_
 refine Zo rfl (mvT rfl) ?_
 refine Zo rfl (run_lenS rfl rfl Tryz.underlying9) ?_
 refine Zn rfl (run_lss rfl rfl rfl) ?_
 refine r_cond rfl (fun hc4 => ?_) (fun hc4 => ?_)
 ·skip
  refine r_skip ?_
  refine r_block ?_
  refine r_block ?_
  refine Zs ?_
  refine Zo rfl (run_mv (v := .func _ _ _) rfl rfl) ?_
  refine Zo rfl (mvT rfl) ?_
  refine Zo rfl (mvI rfl) ?_
  refine Zo rfl (run_ixS (n) rfl Tryz.underlying9 rfl rfl (by first | exact rfl | omega) (by omega)) ?_
  refine r_opcall rfl rfl rfl (run_callfn (vs := [.int _ _]) (cs := []) rfl (by exact rfl) rfl Tryz.func151 rfl (by kernel_rfl)) digit_calls ?_
  rintro e w5 ⟨rfl, hE5⟩
  refine ⟨_, rfl, ?_⟩
  have Q5 := hE5.size
  replace hV := Z0 hV hE5
  refine Zn rfl (asB rfl) ?_
  refine r_condb rfl (fun hc6 => ?_) (fun hc6 => ?_)
  ·skip
   refine r_region ?_
   refine Zo rfl (mvI rfl) ?_
   refine Zo rfl (run_add rfl rfl rfl (by omega) (by omega)) ?_
   refine r_knowL (i := 20) (v := .int .i64 ((n + 1 : Nat) : Int)) (congrArg (Value.int _) (by omega)) ?_
   refine Zn rfl (asI rfl) ?_
   refine r_blk ?_
   refine r_blk ?_
   refine r_again (n + 1) ?_ ?_ ?_
   ·first | omega | (dsimp only; omega)
   ·refine ⟨rfl, (by first | assumption | omega | (dsimp only; omega) | (simp; done)), (by first | (have h8 := jn_in (a := 46) (b := 44) (s := s) (n := n) (by omega) hc6; omega) | (have h8 := jn_twoC (a := 46) (b := 44) (inner := dgtB) (s := s) (n := n) (by assumption) hc6; omega)), (by first | assumption | omega | (dsimp only; omega) | (simp; done)), hV⟩
   repeat (first | (with_reducible exact Agree.merge _ _ _) | (with_reducible exact Agree.refl _ _) | (with_reducible refine Agree.upd ?_ _ _ rfl) | ((with_reducible refine Agree.inner ?_ ?_); (kernel_rfl)))
  refine r_seq ?_
  refine r_qregion (by kernel_rfl) (by kernel_rfl) ?_
  refine Zq rfl (fun _ _ => mvT rfl) ?_
  refine Zq rfl (fun _ _ => mvI rfl) ?_
  refine q_op rfl rfl rfl (fun w' hC => run_ixS (n) rfl Tryz.underlying9 rfl rfl (by first | exact rfl | omega) (by omega)) ?_
  refine Zq rfl (fun _ _ => mvT rfl) ?_
  refine q_op rfl rfl rfl (fun w' hC => run_ixS (0) rfl Tryz.underlying9 rfl rfl (by first | exact rfl | omega) (by decide)) ?_
  refine q_op rfl rfl rfl (fun w' hC => run_eql rfl rfl rfl) ?_
  refine Zq rfl (fun _ _ => mvB rfl) ?_
  refine q_g rfl (wantF rfl) rfl (fun hg w' hC => run_mv (v := S _) rfl rfl) ?_
  refine q_g rfl (wantF rfl) rfl (fun hg w' hC => run_mv (v := .int _ _) rfl rfl) ?_
  refine q_g rfl (wantF rfl) rfl (fun hg w' hC => run_ixS (n) rfl Tryz.underlying9 (glv rfl (fun h => h) hg) (glv rfl (fun h => h) hg) (by first | exact rfl | omega) (by omega)) ?_
  refine q_g rfl (wantF rfl) rfl (fun hg w' hC => run_mv (v := S _) rfl rfl) ?_
  refine q_g rfl (wantF rfl) rfl (fun hg w' hC => run_ixS (1) rfl Tryz.underlying9 (glv rfl (fun h => h) hg) rfl (by first | exact rfl | omega) (by decide)) ?_
  refine q_g rfl (wantF rfl) rfl (fun hg w' hC => run_eql rfl (glv rfl (fun h => h) hg) (glv rfl (fun h => h) hg)) ?_
  refine q_op rfl rfl rfl (fun w' hC => run_pick_or rfl rfl rfl (fun hq => glv rfl (fun h => h) hq)) ?_
  refine Zq rfl (fun _ _ => mvB rfl) ?_
  refine q_g rfl (wantT rfl) rfl (fun hg w' hC => run_mv (v := .int _ _) rfl rfl) ?_
  refine q_g rfl (wantT rfl) rfl (fun hg w' hC => run_add rfl (glv rfl (fun h => h) hg) rfl (by omega) (by omega)) ?_
  refine q_g rfl (wantT rfl) rfl (fun hg w' hC => run_mv (v := S _) rfl rfl) ?_
  refine q_g rfl (wantT rfl) rfl (fun hg w' hC => run_lenS rfl (glv rfl (fun h => h) hg) Tryz.underlying9) ?_
  refine q_g rfl (wantT rfl) rfl (fun hg w' hC => run_lss rfl (glv rfl (fun h => h) hg) (glv rfl (fun h => h) hg)) ?_
  refine q_op rfl rfl rfl (fun w' hC => run_pick_and rfl rfl (fun hq => glv rfl (fun h => h) hq) rfl) ?_
  refine Zq rfl (fun _ _ => mvB rfl) ?_
  refine q_g rfl (wantT rfl) rfl (fun hg w' hC => run_mv (v := .func _ _ _) rfl rfl) ?_
  refine q_g rfl (wantT rfl) rfl (fun hg w' hC => run_mv (v := S _) rfl rfl) ?_
  refine q_g rfl (wantT rfl) rfl (fun hg w' hC => run_mv (v := .int _ _) rfl rfl) ?_
  refine q_g rfl (wantT rfl) rfl (fun hg w' hC => run_add rfl (glv rfl (fun h => h) hg) rfl (by omega) (by omega)) ?_
  refine q_g rfl (wantT rfl) rfl (fun hg w' hC => run_ixS ((n + 1)) rfl Tryz.underlying9 (glv rfl (fun h => h) hg) (glv rfl (fun h => h) hg) (by omega) (by omega)) ?_
  refine q_gcall rfl (wantT rfl) rfl (fun hg w' hC => run_callfn (cs := []) rfl (glv rfl (fun h => h) hg) (argcons (v := .int _ _) (glv rfl (fun h => h) hg) (rfl)) Tryz.func151 rfl (by kernel_rfl)) (fun hg w' hC => (digit_calls ).mono (fun e w'' h => ⟨h.1, evo_step0 hC h.2⟩)) ?_
  refine q_op rfl rfl rfl (fun w' hC => run_pick_andB rfl rfl (fun hq => glv rfl (fun h => h) hq) rfl) ?_
  refine Zq rfl (fun _ _ => asB rfl) ?_
  refine q_nil (fun w7 hE8 => ?_)
  have Q7 := hE8.size
  replace hV := Z0 hV hE8
  refine r_cond rfl (fun hc9 => ?_) (fun hc9 => ?_)
  ·skip
   refine r_region ?_
   refine Zo rfl (mvI rfl) ?_
   refine Zo rfl (run_add rfl rfl rfl (by omega) (by omega)) ?_
   refine r_knowL (i := 52) (v := .int .i64 ((n + 2 : Nat) : Int)) (congrArg (Value.int _) (by omega)) ?_
   refine Zn rfl (asI rfl) ?_
   refine r_blk ?_
   refine r_blk ?_
   refine r_again (n + 2) ?_ ?_ ?_
   ·first | omega | (dsimp only; omega)
   ·refine ⟨rfl, (by first | assumption | omega | (dsimp only; omega) | (simp; done)), (by first | (have h8 := jn_in (a := 46) (b := 44) (s := s) (n := n) (by omega) hc9; omega) | (have h8 := jn_twoC (a := 46) (b := 44) (inner := dgtB) (s := s) (n := n) (by assumption) hc9; omega)), (by first | assumption | omega | (dsimp only; omega) | (simp; done)), hV⟩
   repeat (first | (with_reducible exact Agree.merge _ _ _) | (with_reducible exact Agree.refl _ _) | (with_reducible refine Agree.upd ?_ _ _ rfl) | ((with_reducible refine Agree.inner ?_ ?_); (kernel_rfl)))
  refine Zs ?_
  refine Zo rfl (mvI rfl) ?_
  refine Zn rfl (asI rfl) ?_
  refine r_ret (res1 (v := .int _ _) rfl rfl) ?_
  exact ⟨ret_int (by have h8 := jn_noC (a := 46) (b := 44) (inner := dgtB) (s := s) (n := n) (by omega) (by assumption) hc9; omega), hV⟩
 refine r_exit rfl ?_
 refine Zs ?_
 refine Zo rfl (mvI rfl) ?_
 refine Zn rfl (asI rfl) ?_
 refine r_ret (res1 (v := .int _ _) rfl rfl) ?_
 exact ⟨ret_int (by have h8 := jn_end (a := 46) (b := 44) (inner := dgtB) (s := s) (n := n) (by omega); omega), hV⟩
theorem tokN_word {s : Str} (h : clsB (s.getD 0 default) = 4) : tokN s = (6, 1 + jnL wdB 39 45 (s.drop 1)) := by unfold tokN; rw [if_pos h]
theorem tokN_num {s : Str} (h : ¬ clsB (s.getD 0 default) = 4) (h2 : clsB (s.getD 0 default) = 3) : tokN s = (7, 1 + jnL dgtB 46 44 (s.drop 1)) := by unfold tokN; rw [if_neg h, if_pos h2]
theorem tokN_blank {s : Str} (h : ¬ clsB (s.getD 0 default) = 4) (h2 : ¬ clsB (s.getD 0 default) = 3) (h3 : clsB (s.getD 0 default) = 2) : tokN s = (8, 1 + blL (s.drop 1)) := by unfold tokN; rw [if_neg h, if_neg h2, if_pos h3]
theorem tokN_sign {s : Str} (h : ¬ clsB (s.getD 0 default) = 4) (h2 : ¬ clsB (s.getD 0 default) = 3) (h3 : ¬ clsB (s.getD 0 default) = 2) : tokN s = (9, 1) := by unfold tokN; rw [if_neg h, if_neg h2, if_neg h3]
theorem bl_noC {s : Str} {k : Nat} (hk : k ≤ s.length) (h : ¬ ((k : Int) < (s.length : Int) ∧ clsB (s.getD k 0) = 2)) : blL (s.drop k) = 0 := by
  by_cases h1 : k < s.length
  · exact bl_no h1 (fun h2 => h ⟨by omega, h2⟩)
  · exact bl_end (by omega)
theorem ret_tok {p : Int × Nat} {a : Int} {b : Nat} (h : p = (a, b)) : Ending.returned (.tuple #[.int .i64 a, .int .i64 ((b : Nat) : Int)]) = .returned (.tuple #[.int .i64 p.1, .int .i64 ((p.2 : Nat) : Int)]) := by rw [h]
theorem tnext_calls {s : Str} {w0 : World} (hs : s.length ≤ 140737488355328) (hs1 : 1 ≤ s.length) :
    Calls Tryz.prog 102 #[S s] w0 fun e w' => e = .returned (.tuple #[.int .i64 (tokN s).1, .int .i64 (((tokN s).2 : Nat) : Int)]) ∧ Evo w0 w' [] := by
 refine calls_enter (n := 32) Tryz.func102 rfl Tryz.ntmps102 rfl ?_
 have hV : Evo w0 w0 [] := Evo.refl _ _
 refine Zs ?_
 refine Zo rfl (asI rfl) ?_
 refine Zn rfl (asI rfl) ?_
 refine r_seq ?_
 refine Zs ?_
 refine Zo rfl (mvT rfl) ?_
 refine Zo rfl (run_ixS (0) rfl Tryz.underlying9 rfl rfl (by first | exact rfl | omega) (by omega)) ?_
 refine r_opcall rfl rfl rfl (run_callf (vs := [.int _ _]) rfl (by exact rfl) Tryz.func143 rfl (by kernel_rfl)) of_calls ?_
 rintro e w1 ⟨rfl, hE1⟩
 refine ⟨_, rfl, ?_⟩
 have Q1 := hE1.size
 replace hV := Z0 hV hE1
 refine r_nil ?_
 refine r_block ?_
 refine Zs ?_
 refine Zo rfl (run_eql rfl rfl rfl) ?_
 refine Zn rfl (asB rfl) ?_
 refine r_cond rfl (fun hc2 => ?_) (fun hc2 => ?_)
 ·skip
  refine Zs ?_
  refine Zo rfl (mvT rfl) ?_
  refine r_opcall rfl rfl rfl (run_callf (vs := [S _, S _, .func _ _ _]) rfl (by exact rfl) Tryz.func149 rfl (by kernel_rfl)) (id (joinedW_calls (s := s) (by omega) (by omega))) ?_
  rintro e w3 ⟨rfl, hE3⟩
  refine ⟨_, rfl, ?_⟩
  have Q3 := hE3.size
  replace hV := Z0 hV hE3
  refine Zo rfl (asI rfl) ?_
  refine Zn rfl (asI rfl) ?_
  refine r_ret (res2 (v := .int _ _) (u := .int _ _) rfl rfl rfl) ?_
  exact ⟨ret_tok (tokN_word hc2), hV⟩
 refine Zs ?_
 refine Zo rfl (run_eql rfl rfl rfl) ?_
 refine Zn rfl (asB rfl) ?_
 refine r_cond rfl (fun hc4 => ?_) (fun hc4 => ?_)
 ·skip
  refine Zs ?_
  refine Zo rfl (mvT rfl) ?_
  refine r_opcall rfl rfl rfl (run_callf (vs := [S _, S _, .func _ _ _]) rfl (by exact rfl) Tryz.func149 rfl (by kernel_rfl)) (id (joinedD_calls (s := s) (by omega) (by omega))) ?_
  rintro e w5 ⟨rfl, hE5⟩
  refine ⟨_, rfl, ?_⟩
  have Q5 := hE5.size
  replace hV := Z0 hV hE5
  refine Zo rfl (asI rfl) ?_
  refine Zn rfl (asI rfl) ?_
  refine r_ret (res2 (v := .int _ _) (u := .int _ _) rfl rfl rfl) ?_
  exact ⟨ret_tok (tokN_num (by assumption) hc4), hV⟩
 refine Zs ?_
 refine Zo rfl (run_eql rfl rfl rfl) ?_
 refine Zn rfl (asB rfl) ?_
 refine r_cond rfl (fun hc6 => ?_) (fun hc6 => ?_)
 ·skip
  refine Zs ?_
  refine Zn rfl (asI rfl) ?_
  refine r_seq ?_
  refine r_block ?_
  refine r_loop (α := Nat) [4, 18, 19, 20, 21, 22, 23, 24, 25, 26, 27, 28, 29, 30] (fun k g w => g 4 = .int .i64 (k : Nat) ∧ (1 ≤ k ∧ k ≤ s.length) ∧ k + blL (s.drop k) = 1 + blL (s.drop 1) ∧ w1.heap.size ≤ w.heap.size ∧ Evo w0 w []) (fun k => s.length - k) 1 ?_ ?_
  ·refine ⟨rfl, (by first | assumption | omega | (dsimp only; omega) | (simp; done)), (by first | assumption | omega | (dsimp only; omega) | (simp; done)), (by first | assumption | omega | (dsimp only; omega) | (simp; done)), hV⟩
  rintro k g w8 ⟨hj9, hk1, hb, hzl7, hV⟩
  have hs_w8hV := hV.size
  refine Zk 4 (v := .int .i64 (k : Nat)) (by exact hj9) ?_
  refine r_seq ?_
  refine Zs ?_
  refine Zo rfl (mvI rfl) ?_
  refine Zo rfl (mvT rfl) ?_
  refine Zo rfl (run_lenS rfl rfl Tryz.underlying9) ?_
  refine Zo rfl (run_lss rfl rfl rfl) ?_
  refine Zo rfl (mvB rfl) ?_
  refine r_g rfl (wantT rfl) rfl (fun hg => run_mv (v := S _) rfl rfl) ?_
  refine r_g rfl (wantT rfl) rfl (fun hg => run_mv (v := .int _ _) rfl rfl) ?_
  refine r_g rfl (wantT rfl) rfl (fun hg => run_ixS (k) rfl Tryz.underlying9 (glv rfl (fun h => h) hg) (glv rfl (fun h => h) hg) (by first | exact rfl | omega) (by omega)) ?_
  refine r_gcall rfl (wantT rfl) rfl (fun hg => run_callf rfl (argcons (v := .int _ _) (glv rfl (fun h => h) hg) (rfl)) Tryz.func143 rfl (by kernel_rfl)) (fun hg => (of_calls ).mono (fun e w' h => ⟨h.1, h.2⟩)) (fun w10 hE11 => ?_)
  have Q10 := hE11.size
  replace hV := Z0 hV hE11
  refine r_g rfl (wantT rfl) rfl (fun hg => run_eql rfl (glv rfl (fun h => h) hg) rfl) ?_
  refine Zn rfl (run_pick_and rfl rfl (fun hq => glv rfl (fun h => h) hq) rfl) ?_
  refine r_cond rfl (fun hc12 => ?_) (fun hc12 => ?_)
  ·skip
   refine r_skip ?_
   refine r_block ?_
   refine r_region ?_
   refine Zo rfl (mvI rfl) ?_
   refine Zo rfl (run_add rfl rfl rfl (by omega) (by omega)) ?_
   refine Zn rfl (asI rfl) ?_
   refine r_blk ?_
   refine r_again (k + 1) ?_ ?_ ?_
   ·first | omega | (dsimp only; omega)
   ·refine ⟨(by first | exact rfl | exact congrArg (Value.int _) (by omega) | exact congrArg (Value.int _) (by dsimp only; omega) | exact congrArg (Value.int _) (by simp) | exact congrArg S (by simp)), (by first | assumption | omega | (dsimp only; omega) | (simp; done)), (by have h8 := bl_yes (s := s) (n := k) (by omega) hc12.2; omega), (by first | assumption | omega | (dsimp only; omega) | (simp; done)), hV⟩
   repeat (first | (with_reducible exact Agree.merge _ _ _) | (with_reducible exact Agree.refl _ _) | (with_reducible refine Agree.upd ?_ _ _ rfl) | ((with_reducible refine Agree.inner ?_ ?_); (kernel_rfl)))
  refine r_exit rfl ?_
  refine Zs ?_
  refine Zo rfl (mvI rfl) ?_
  refine Zo rfl (asI rfl) ?_
  refine Zn rfl (asI rfl) ?_
  refine r_ret (res2 (v := .int _ _) (u := .int _ _) rfl rfl rfl) ?_
  exact ⟨ret_tok (by rw [tokN_blank (by assumption) (by assumption) (by assumption)]; have h8 := bl_noC (s := s) (k := k) (by omega) hc12; congr 1; omega), hV⟩
 refine r_skip ?_
 refine r_blk ?_
 refine Zs ?_
 refine Zo rfl (asI rfl) ?_
 refine Zn rfl (asI rfl) ?_
 refine r_ret (res2 (v := .int _ _) (u := .int _ _) rfl rfl rfl) ?_
 exact ⟨ret_tok (tokN_sign (by assumption) (by assumption) (by assumption)), hV⟩
theorem ag_32 : aggP Tryz.prog 32 = some true := by kernel_rfl
theorem fo_32_0 : fieldP Tryz.prog 32 0 = some 0 := by kernel_rfl
theorem fo_32_1 : fieldP Tryz.prog 32 1 = some 1 := by kernel_rfl
theorem fo_32_2 : fieldP Tryz.prog 32 2 = some 2 := by kernel_rfl
theorem pl_96 : placesP Tryz.prog 96 = some [(0, 1), (1, 1), (2, 1)] := by kernel_rfl
theorem ty_32 : tyP Tryz.prog 32 = some (3, 32, some (.agg #[(.int .i64 0), (.string ⟨#[]⟩), (.int .i64 0)])) := by kernel_rfl
theorem ty_96 : tyP Tryz.prog 96 = some (3, 32, some (.agg #[(.int .i64 0), (.string ⟨#[]⟩), (.int .i64 0)])) := by kernel_rfl
theorem cut_step {r : Str} {l L : List Vc.Item} {p : Int × Nat} (hp : tokN r = p) (hacc : l ++ cutT r = L) (hr : ¬ r = []) : (l ++ [⟨p.1, r.take p.2, 0⟩]) ++ cutT (r.drop p.2) = L := by
  rw [cutT_cons hr, hp] at hacc
  rw [List.append_assoc]; exact hacc
theorem fLen_at : ∀ (f : List Vc.Item) (k : Nat), (f.getD k default).text.length ≤ fLen f
  | [], k => by show ([] : Str).length ≤ _; exact Nat.zero_le _
  | x :: f, 0 => by simp [fLen]
  | x :: f, k + 1 => by
    have := fLen_at f k
    simp only [fLen, List.map_cons, List.sum_cons, List.getD_cons_succ] at *
    omega
theorem fLen_take : ∀ (f : List Vc.Item) (k : Nat), fLen (f.take k) ≤ fLen f
  | [], k => by simp
  | x :: f, 0 => by simp [fLen]
  | x :: f, k + 1 => by
    have := fLen_take f k
    simp only [fLen, List.take_succ_cons, List.map_cons, List.sum_cons] at *
    omega
theorem fLen_snoc (f : List Vc.Item) (k : Nat) (h : k < f.length) : fLen (f.take k) + (f.getD k default).text.length ≤ fLen f := by
  have h1 := fLen_take f (k + 1)
  rw [take_succD f k h] at h1
  simpa [fLen] using h1
theorem tokI_text {x : Vc.Item} (h : x.kind = 1) : tokI x = cutT x.text := if_pos h
theorem tokI_tag {x : Vc.Item} (h : x.kind = 2 ∨ x.kind = 3 ∨ x.kind = 4 ∨ x.kind = 5) : tokI x = [x] := by unfold tokI; rw [if_neg (by omega), if_pos (by omega)]
theorem tokI_none {x : Vc.Item} (h : ¬ x.kind = 1) (h2 : ¬ x.kind = 2) (h3 : ¬ x.kind = 3) (h4 : ¬ x.kind = 4) (h5 : ¬ x.kind = 5) : tokI x = [] := by unfold tokI; rw [if_neg h, if_neg (by omega)]
theorem cut_bd (s : Str) : (cutT s).length ≤ s.length := cutT_len _ s rfl
theorem len_pos {r : Str} (h : ¬ r = []) : 0 < r.length := List.length_pos_iff.2 h
theorem tokens_calls {ao : Option Addr} {b off cap : Nat} {f : List Vc.Item} {w0 : World} (hf : RowE w0 ao b off cap f) (hz : fLen f + f.length ≤ 1000000000) :
    Calls Tryz.prog 59 #[.slice ao f.length cap] w0 fun e w' => ∃ v, e = .returned v ∧ Evo w0 w' [] ∧ OwnE w' w0.heap.size 96 v (toks f) := by
 refine calls_enter (n := 50) Tryz.func59 rfl Tryz.ntmps59 rfl ?_
 have hV : Evo w0 w0 [] := Evo.refl _ _
 have hf0 := keepE hf
 have hbd_hf := hf.bd
 refine Zs ?_
 refine Zn rfl (asS rfl) ?_
 refine Zs ?_
 refine Zn rfl (asS rfl) ?_
 refine r_seq ?_
 refine Zs ?_
 refine Zo rfl (mvS rfl) ?_
 refine Zo rfl (run_lenSl rfl rfl Tryz.underlying33) ?_
 refine Zn rfl (mvI rfl) ?_
 refine r_block ?_
 refine r_loop (α := Nat) [3, 5, 6, 7, 8, 11, 12, 13, 14, 15, 16, 17, 18, 19, 20, 21, 22, 23, 24, 25, 26, 27, 28, 29, 30, 31, 32, 33, 34, 35, 36, 37, 38, 39, 40, 41, 42, 43, 44, 45, 46, 47, 48] (fun k g w => ∃ vo : Value, g 11 = .int .i64 (k : Nat) ∧ g 3 = vo ∧ k ≤ f.length ∧ OwnE w w0.heap.size 96 vo (toks (f.take k)) ∧ w0.heap.size ≤ w.heap.size ∧ Evo w0 w []) (fun k => f.length - k) 0 ?_ ?_
 ·refine ⟨_, (by first | exact rfl | exact congrArg (Value.int _) (by omega) | exact congrArg (Value.int _) (by dsimp only; omega) | exact congrArg (Value.int _) (by simp) | exact congrArg S (by simp)), rfl, (by first | assumption | omega | (dsimp only; omega) | (simp; done)), (OwnE.nil _ _ _), (by first | assumption | omega | (dsimp only; omega) | (simp; done)), hV⟩
 rintro k g w2 ⟨vo, hj3, hj4, hk_k, hoo, hzl1, hV⟩
 have hs_w2hV := hV.size
 replace hf := hf0 _ hV
 refine Zk 11 (v := .int .i64 (k : Nat)) (by exact hj3) ?_
 refine Zk 3 (v := vo) (by exact hj4) ?_
 have htl := toks_len (f.take k); have hfl := fLen_take f k
 have hfa := fLen_at f k
 have hft : (f.take k).length ≤ k := List.length_take_le _ _
 have hcb := cut_bd (f.getD k default).text
 have hfs := fun h => fLen_snoc f k h
 refine Zs ?_
 refine Zn rfl (run_lss rfl rfl rfl) ?_
 refine r_seq ?_
 refine r_cond rfl (fun hc5 => ?_) (fun hc5 => ?_)
 ·skip
  refine r_skip ?_
  refine r_seq ?_
  refine r_block ?_
  refine Zs ?_
  refine Zo rfl (run_ix (k) rfl Tryz.underlying33 ty_32 rfl rfl (by first | exact rfl | omega) (by omega) (hf.addr (i := k) (by omega))) ?_
  have hA60 := fun (w' : World) (h : Evo w0 w' []) => (hf0 w' h).atD (k) (by omega)
  have hA6 := hA60 _ hV
  refine Zo rfl (run_ldN rfl ag_32 ty_32 rfl rfl hA6) ?_
  have hob7 := fun g hg => (hoo.block (g := g) hg).2
  refine r_var (zs := [_, _, _]) (vs := [_, _, _]) ty_32 rfl rfl rfl (fun _ => rfl) rfl rfl rfl rfl ?_
  intro b8 w9 J8 E9 B8 Y8
  have Q9 := E9.size
  replace hV := Z0 hV E9
  replace hf := hf0 _ hV
  replace hoo := hoo.evo0 E9
  refine r_nil ?_
  refine Zs ?_
  refine Zo rfl (run_fa rfl rfl fo_32_0) ?_
  refine Zn rfl (run_ld1 rfl ag_3 rfl (B8.at.cell 0 rfl)) ?_
  refine r_block ?_
  refine r_seq ?_
  refine Zs ?_
  refine Zo rfl (run_eql rfl rfl rfl) ?_
  refine Zn rfl (asB rfl) ?_
  refine r_cond rfl (fun hc10 => ?_) (fun hc10 => ?_)
  ·skip
   refine r_skip ?_
   refine r_condT rfl hc10 ?_
   refine r_region ?_
   refine Zo rfl (run_mv (v := vo) rfl rfl) ?_
   refine Zo rfl (run_ldN rfl ag_32 ty_32 rfl rfl B8.at) ?_
   refine r_append1E (u := .agg _) (y := (f.getD k default : Vc.Item)) rfl rfl Tryz.underlying94 ty_96 rfl hoo (fun _ => rfl) rfl (by first | exact rfl | (show _ = List.toArray [_, _, _]; first | (dsimp only; done) | exact rfl | (dsimp only; exact rfl))) ((by first | omega | (simp; omega))) ((by first | omega | (simp; omega))) (by omega) ?_
   intro q_v11 v11 w12 E12 hov11 hlv11
   have Q12 := E12.size
   replace hV := evo_stepo hV E12 (fun g hg => .inl (by first | exact (hoo.block hg).1 | (have := hoo.block hg; omega)))
   replace hf := hf0 _ hV
   refine Zn rfl (run_asg (v := v11) rfl rfl) ?_
   refine r_blk ?_
   refine r_blk ?_
   refine r_region ?_
   refine Zo rfl (run_add rfl rfl rfl (by omega) (by omega)) ?_
   refine Zn rfl (mvI rfl) ?_
   refine r_again (k + 1) ?_ ?_ ?_
   ·first | omega | (dsimp only; omega)
   ·refine ⟨_, (by first | exact rfl | exact congrArg (Value.int _) (by omega) | exact congrArg (Value.int _) (by dsimp only; omega) | exact congrArg (Value.int _) (by simp) | exact congrArg S (by simp)), rfl, (by first | assumption | omega | (dsimp only; omega) | (simp; done)), (by rw [toks_succ (by omega)]; first | (rw [tokI_text (by assumption)]; have h8 : r = [] := Classical.not_not.1 (by assumption); rw [h8, cutT_nil, List.append_nil] at hacc; rw [← hacc]; exact ho2) | (rw [tokI_text (by assumption)]; exact hov11) | (rw [tokI_tag (by first | exact .inl (by assumption) | exact .inr (.inl (by assumption)) | exact .inr (.inr (.inl (by assumption))) | exact .inr (.inr (.inr (by assumption))))]; exact hov11) | (rw [tokI_none (by assumption) (by assumption) (by assumption) (by assumption) (by assumption), List.append_nil]; exact hov11)), (by first | assumption | omega | (dsimp only; omega) | (simp; done)), hV⟩
   repeat (first | (with_reducible exact Agree.merge _ _ _) | (with_reducible exact Agree.refl _ _) | (with_reducible refine Agree.upd ?_ _ _ rfl) | ((with_reducible refine Agree.inner ?_ ?_); (kernel_rfl)))
  refine Zs ?_
  refine Zo rfl (run_eql rfl rfl rfl) ?_
  refine Zn rfl (asB rfl) ?_
  refine r_cond rfl (fun hc13 => ?_) (fun hc13 => ?_)
  ·skip
   refine r_skip ?_
   refine r_condT rfl hc13 ?_
   refine r_region ?_
   refine Zo rfl (run_mv (v := vo) rfl rfl) ?_
   refine Zo rfl (run_ldN rfl ag_32 ty_32 rfl rfl B8.at) ?_
   refine r_append1E (u := .agg _) (y := (f.getD k default : Vc.Item)) rfl rfl Tryz.underlying94 ty_96 rfl hoo (fun _ => rfl) rfl (by first | exact rfl | (show _ = List.toArray [_, _, _]; first | (dsimp only; done) | exact rfl | (dsimp only; exact rfl))) ((by first | omega | (simp; omega))) ((by first | omega | (simp; omega))) (by omega) ?_
   intro q_v14 v14 w15 E15 hov14 hlv14
   have Q15 := E15.size
   replace hV := evo_stepo hV E15 (fun g hg => .inl (by first | exact (hoo.block hg).1 | (have := hoo.block hg; omega)))
   replace hf := hf0 _ hV
   refine Zn rfl (run_asg (v := v14) rfl rfl) ?_
   refine r_blk ?_
   refine r_blk ?_
   refine r_region ?_
   refine Zo rfl (run_add rfl rfl rfl (by omega) (by omega)) ?_
   refine Zn rfl (mvI rfl) ?_
   refine r_again (k + 1) ?_ ?_ ?_
   ·first | omega | (dsimp only; omega)
   ·refine ⟨_, (by first | exact rfl | exact congrArg (Value.int _) (by omega) | exact congrArg (Value.int _) (by dsimp only; omega) | exact congrArg (Value.int _) (by simp) | exact congrArg S (by simp)), rfl, (by first | assumption | omega | (dsimp only; omega) | (simp; done)), (by rw [toks_succ (by omega)]; first | (rw [tokI_text (by assumption)]; have h8 : r = [] := Classical.not_not.1 (by assumption); rw [h8, cutT_nil, List.append_nil] at hacc; rw [← hacc]; exact ho2) | (rw [tokI_text (by assumption)]; exact hov14) | (rw [tokI_tag (by first | exact .inl (by assumption) | exact .inr (.inl (by assumption)) | exact .inr (.inr (.inl (by assumption))) | exact .inr (.inr (.inr (by assumption))))]; exact hov14) | (rw [tokI_none (by assumption) (by assumption) (by assumption) (by assumption) (by assumption), List.append_nil]; exact hov14)), (by first | assumption | omega | (dsimp only; omega) | (simp; done)), hV⟩
   repeat (first | (with_reducible exact Agree.merge _ _ _) | (with_reducible exact Agree.refl _ _) | (with_reducible refine Agree.upd ?_ _ _ rfl) | ((with_reducible refine Agree.inner ?_ ?_); (kernel_rfl)))
  refine Zs ?_
  refine Zo rfl (run_eql rfl rfl rfl) ?_
  refine Zn rfl (asB rfl) ?_
  refine r_cond rfl (fun hc16 => ?_) (fun hc16 => ?_)
  ·skip
   refine r_skip ?_
   refine r_condT rfl hc16 ?_
   refine r_region ?_
   refine Zo rfl (run_mv (v := vo) rfl rfl) ?_
   refine Zo rfl (run_ldN rfl ag_32 ty_32 rfl rfl B8.at) ?_
   refine r_append1E (u := .agg _) (y := (f.getD k default : Vc.Item)) rfl rfl Tryz.underlying94 ty_96 rfl hoo (fun _ => rfl) rfl (by first | exact rfl | (show _ = List.toArray [_, _, _]; first | (dsimp only; done) | exact rfl | (dsimp only; exact rfl))) ((by first | omega | (simp; omega))) ((by first | omega | (simp; omega))) (by omega) ?_
   intro q_v17 v17 w18 E18 hov17 hlv17
   have Q18 := E18.size
   replace hV := evo_stepo hV E18 (fun g hg => .inl (by first | exact (hoo.block hg).1 | (have := hoo.block hg; omega)))
   replace hf := hf0 _ hV
   refine Zn rfl (run_asg (v := v17) rfl rfl) ?_
   refine r_blk ?_
   refine r_blk ?_
   refine r_region ?_
   refine Zo rfl (run_add rfl rfl rfl (by omega) (by omega)) ?_
   refine Zn rfl (mvI rfl) ?_
   refine r_again (k + 1) ?_ ?_ ?_
   ·first | omega | (dsimp only; omega)
   ·refine ⟨_, (by first | exact rfl | exact congrArg (Value.int _) (by omega) | exact congrArg (Value.int _) (by dsimp only; omega) | exact congrArg (Value.int _) (by simp) | exact congrArg S (by simp)), rfl, (by first | assumption | omega | (dsimp only; omega) | (simp; done)), (by rw [toks_succ (by omega)]; first | (rw [tokI_text (by assumption)]; have h8 : r = [] := Classical.not_not.1 (by assumption); rw [h8, cutT_nil, List.append_nil] at hacc; rw [← hacc]; exact ho2) | (rw [tokI_text (by assumption)]; exact hov17) | (rw [tokI_tag (by first | exact .inl (by assumption) | exact .inr (.inl (by assumption)) | exact .inr (.inr (.inl (by assumption))) | exact .inr (.inr (.inr (by assumption))))]; exact hov17) | (rw [tokI_none (by assumption) (by assumption) (by assumption) (by assumption) (by assumption), List.append_nil]; exact hov17)), (by first | assumption | omega | (dsimp only; omega) | (simp; done)), hV⟩
   repeat (first | (with_reducible exact Agree.merge _ _ _) | (with_reducible exact Agree.refl _ _) | (with_reducible refine Agree.upd ?_ _ _ rfl) | ((with_reducible refine Agree.inner ?_ ?_); (kernel_rfl)))
  refine r_region ?_
  refine Zo rfl (run_eql rfl rfl rfl) ?_
  refine Zn rfl (asB rfl) ?_
  refine r_cond rfl (fun hc19 => ?_) (fun hc19 => ?_)
  ·skip
   refine r_region ?_
   refine Zo rfl (run_mv (v := vo) rfl rfl) ?_
   refine Zo rfl (run_ldN rfl ag_32 ty_32 rfl rfl B8.at) ?_
   refine r_append1E (u := .agg _) (y := (f.getD k default : Vc.Item)) rfl rfl Tryz.underlying94 ty_96 rfl hoo (fun _ => rfl) rfl (by first | exact rfl | (show _ = List.toArray [_, _, _]; first | (dsimp only; done) | exact rfl | (dsimp only; exact rfl))) ((by first | omega | (simp; omega))) ((by first | omega | (simp; omega))) (by omega) ?_
   intro q_v20 v20 w21 E21 hov20 hlv20
   have Q21 := E21.size
   replace hV := evo_stepo hV E21 (fun g hg => .inl (by first | exact (hoo.block hg).1 | (have := hoo.block hg; omega)))
   replace hf := hf0 _ hV
   refine Zn rfl (run_asg (v := v20) rfl rfl) ?_
   refine r_blk ?_
   refine r_blk ?_
   refine r_region ?_
   refine Zo rfl (run_add rfl rfl rfl (by omega) (by omega)) ?_
   refine Zn rfl (mvI rfl) ?_
   refine r_again (k + 1) ?_ ?_ ?_
   ·first | omega | (dsimp only; omega)
   ·refine ⟨_, (by first | exact rfl | exact congrArg (Value.int _) (by omega) | exact congrArg (Value.int _) (by dsimp only; omega) | exact congrArg (Value.int _) (by simp) | exact congrArg S (by simp)), rfl, (by first | assumption | omega | (dsimp only; omega) | (simp; done)), (by rw [toks_succ (by omega)]; first | (rw [tokI_text (by assumption)]; have h8 : r = [] := Classical.not_not.1 (by assumption); rw [h8, cutT_nil, List.append_nil] at hacc; rw [← hacc]; exact ho2) | (rw [tokI_text (by assumption)]; exact hov20) | (rw [tokI_tag (by first | exact .inl (by assumption) | exact .inr (.inl (by assumption)) | exact .inr (.inr (.inl (by assumption))) | exact .inr (.inr (.inr (by assumption))))]; exact hov20) | (rw [tokI_none (by assumption) (by assumption) (by assumption) (by assumption) (by assumption), List.append_nil]; exact hov20)), (by first | assumption | omega | (dsimp only; omega) | (simp; done)), hV⟩
   repeat (first | (with_reducible exact Agree.merge _ _ _) | (with_reducible exact Agree.refl _ _) | (with_reducible refine Agree.upd ?_ _ _ rfl) | ((with_reducible refine Agree.inner ?_ ?_); (kernel_rfl)))
  refine Zs ?_
  refine Zo rfl (run_eql rfl rfl rfl) ?_
  refine Zn rfl (asB rfl) ?_
  refine r_cond rfl (fun hc22 => ?_) (fun hc22 => ?_)
  ·skip
   refine Zs ?_
   refine Zo rfl (run_fa rfl rfl fo_32_1) ?_
   refine Zo rfl (run_ld1 rfl ag_9 rfl (B8.at.cell 1 rfl)) ?_
   refine Zn rfl (asT rfl) ?_
   refine r_block ?_
   refine r_loop (α := Str) [3, 6, 7, 8, 30, 31, 32, 33, 34, 35, 36, 37, 38, 39, 40, 41, 42, 43, 44, 45, 46, 47] (fun r g w => ∃ vo2 : Value, ∃ l : List Vc.Item, g 6 = S r ∧ g 3 = vo2 ∧ OwnE w w0.heap.size 96 vo2 l ∧ l ++ cutT r = toks (f.take k) ++ cutT (f.getD k default).text ∧ r.length ≤ (f.getD k default).text.length ∧ w9.heap.size ≤ w.heap.size ∧ Evo w0 w []) (fun r => r.length) (f.getD k default).text ?_ ?_
   ·refine ⟨_, _, rfl, rfl, hoo, rfl, (Nat.le_refl _), (by first | assumption | omega | (dsimp only; omega) | (simp; done)), hV⟩
   rintro r g w24 ⟨vo2, l, hj25, hj26, ho2, hacc, hrl, hzl23, hV⟩
   have hs_w24hV := hV.size
   replace hf := hf0 _ hV
   replace hA6 := hA60 _ hV
   refine Zk 6 (v := S r) (by exact hj25) ?_
   refine Zk 3 (v := vo2) (by exact hj26) ?_
   have hla := congrArg List.length hacc
   rw [List.length_append, List.length_append] at hla
   refine r_seq ?_
   refine Zs ?_
   refine Zo rfl (mvT rfl) ?_
   refine Zn rfl (run_sneq rfl rfl rfl) ?_
   refine r_cond rfl (fun hc27 => ?_) (fun hc27 => ?_)
   ·skip
    refine r_skip ?_
    refine r_block ?_
    refine r_seq ?_
    have hne : ¬ r = [] := hc27; have htl0 := tokN_len hne; have htp := tokN_pos r; have hr0 := len_pos hne
    refine r_region ?_
    refine Zo rfl (mvT rfl) ?_
    refine r_opcall rfl rfl rfl (run_callf (vs := [S _]) rfl (by exact rfl) Tryz.func102 rfl (by kernel_rfl)) (tnext_calls (by omega) (by omega)) ?_
    rintro e w28 ⟨rfl, hE28⟩
    refine ⟨_, rfl, ?_⟩
    have Q28 := hE28.size
    replace hV := Z0 hV hE28
    replace ho2 := ho2.evo0 hE28
    refine Zo rfl (mvU rfl) ?_
    refine Zo rfl (run_extract (v := .int _ _) rfl rfl rfl) ?_
    refine Zo rfl (run_extract (v := .int _ _) rfl rfl rfl) ?_
    refine Zo rfl (asI rfl) ?_
    refine Zn rfl (asI rfl) ?_
    refine Zs ?_
    refine Zo rfl (run_mv (v := vo2) rfl rfl) ?_
    refine Zo rfl (mvI rfl) ?_
    refine Zo rfl (mvT rfl) ?_
    refine Zo rfl (mvI rfl) ?_
    refine Zo rfl (by exact run_slS (0) ((tokN r).2) rfl Tryz.underlying9 rfl lo0 (at1 rfl (by omega)) (by first | omega | (simp; omega)) (by first | omega | (simp; omega))) ?_
    refine Zo rfl (run_bld (pv := [(0, .int _ _), (1, S _)]) (zs := [_, _, _]) (cells := [_, _, _]) rfl ty_96 rfl pl_96 rfl rfl) ?_
    refine r_append1E (u := .agg _) (y := (⟨(tokN r).1, r.take (tokN r).2, 0⟩ : Vc.Item)) rfl rfl Tryz.underlying94 ty_96 rfl ho2 (fun _ => rfl) rfl (by first | exact rfl | (show _ = List.toArray [_, _, _]; first | (dsimp only; done) | exact rfl | (dsimp only; exact rfl))) ((by first | omega | (simp; omega))) ((by first | omega | (simp; omega))) (by omega) ?_
    intro q_v29 v29 w30 E30 hov29 hlv29
    have Q30 := E30.size
    replace hV := evo_stepo hV E30 (fun g hg => .inl (by first | exact (ho2.block hg).1 | (have := ho2.block hg; omega)))
    replace hf := hf0 _ hV
    refine Zn rfl (run_asg (v := v29) rfl rfl) ?_
    refine r_region ?_
    refine Zo rfl (mvT rfl) ?_
    refine Zo rfl (mvI rfl) ?_
    refine Zo rfl (by exact run_slS ((tokN r).2) (_) rfl Tryz.underlying9 rfl (at1 rfl (by omega)) hi0 (by first | omega | (simp; omega)) (by first | omega | (simp; omega))) ?_
    refine Zn rfl (asT rfl) ?_
    refine r_blk ?_
    refine r_again (r.drop (tokN r).2) ?_ ?_ ?_
    ·rw [List.length_drop]; have := len_pos hne; omega
    ·refine ⟨_, _, (congrArg S (List.take_of_length_le (by rw [List.length_drop]; exact Nat.le_refl _))), rfl, hov29, (cut_step (p := ((tokN r).1, (tokN r).2)) rfl hacc hne), (by rw [List.length_drop]; omega), (by first | assumption | omega | (dsimp only; omega) | (simp; done)), hV⟩
    repeat (first | (with_reducible exact Agree.merge _ _ _) | (with_reducible exact Agree.refl _ _) | (with_reducible refine Agree.upd ?_ _ _ rfl) | ((with_reducible refine Agree.inner ?_ ?_); (kernel_rfl)))
   refine r_exit rfl ?_
   refine r_blk ?_
   refine r_blk ?_
   refine r_region ?_
   refine Zo rfl (run_add rfl rfl rfl (by omega) (by omega)) ?_
   refine Zn rfl (mvI rfl) ?_
   refine r_again (k + 1) ?_ ?_ ?_
   ·first | omega | (dsimp only; omega)
   ·refine ⟨_, (by first | exact rfl | exact congrArg (Value.int _) (by omega) | exact congrArg (Value.int _) (by dsimp only; omega) | exact congrArg (Value.int _) (by simp) | exact congrArg S (by simp)), rfl, (by first | assumption | omega | (dsimp only; omega) | (simp; done)), (by rw [toks_succ (by omega)]; first | (rw [tokI_text (by assumption)]; have h8 : r = [] := Classical.not_not.1 (by assumption); rw [h8, cutT_nil, List.append_nil] at hacc; rw [← hacc]; exact ho2) | (rw [tokI_text (by assumption)]; exact ho2) | (rw [tokI_tag (by first | exact .inl (by assumption) | exact .inr (.inl (by assumption)) | exact .inr (.inr (.inl (by assumption))) | exact .inr (.inr (.inr (by assumption))))]; exact ho2) | (rw [tokI_none (by assumption) (by assumption) (by assumption) (by assumption) (by assumption), List.append_nil]; exact ho2)), (by first | assumption | omega | (dsimp only; omega) | (simp; done)), hV⟩
   repeat (first | (with_reducible exact Agree.merge _ _ _) | (with_reducible exact Agree.refl _ _) | (with_reducible refine Agree.upd ?_ _ _ rfl) | ((with_reducible refine Agree.inner ?_ ?_); (kernel_rfl)))
  refine r_skip ?_
  refine r_blk ?_
  refine r_blk ?_
  refine r_region ?_
  refine Zo rfl (run_add rfl rfl rfl (by omega) (by omega)) ?_
  refine Zn rfl (mvI rfl) ?_
  refine r_again (k + 1) ?_ ?_ ?_
  ·first | omega | (dsimp only; omega)
  ·refine ⟨_, (by first | exact rfl | exact congrArg (Value.int _) (by omega) | exact congrArg (Value.int _) (by dsimp only; omega) | exact congrArg (Value.int _) (by simp) | exact congrArg S (by simp)), rfl, (by first | assumption | omega | (dsimp only; omega) | (simp; done)), (by rw [toks_succ (by omega)]; first | (rw [tokI_text (by assumption)]; have h8 : r = [] := Classical.not_not.1 (by assumption); rw [h8, cutT_nil, List.append_nil] at hacc; rw [← hacc]; exact ho2) | (rw [tokI_text (by assumption)]; exact hoo) | (rw [tokI_tag (by first | exact .inl (by assumption) | exact .inr (.inl (by assumption)) | exact .inr (.inr (.inl (by assumption))) | exact .inr (.inr (.inr (by assumption))))]; exact hoo) | (rw [tokI_none (by assumption) (by assumption) (by assumption) (by assumption) (by assumption), List.append_nil]; exact hoo)), (by first | assumption | omega | (dsimp only; omega) | (simp; done)), hV⟩
  repeat (first | (with_reducible exact Agree.merge _ _ _) | (with_reducible exact Agree.refl _ _) | (with_reducible refine Agree.upd ?_ _ _ rfl) | ((with_reducible refine Agree.inner ?_ ?_); (kernel_rfl)))
 refine r_exit rfl ?_
 refine Zs ?_
 refine Zo rfl (run_mv (v := vo) rfl rfl) ?_
 refine Zn rfl (run_asg (v := vo) rfl rfl) ?_
 refine r_ret (res1 (v := vo) rfl rfl) ?_
 exact ⟨_, rfl, hV, by rw [List.take_of_length_le (by omega)] at hoo; exact hoo⟩
theorem istag_calls {x : Vc.Item} {w0 : World}  :
    Calls Tryz.prog 90 #[.agg (Enc.enc x).toArray] w0 fun e w' => e = .returned (.bool (isTag x)) ∧ Evo w0 w' [] := by
 refine calls_enter (n := 16) Tryz.func90 rfl Tryz.ntmps90 rfl ?_
 have hV : Evo w0 w0 [] := Evo.refl _ _
 refine Zs ?_
 refine r_box (vs := [_, _, _]) rfl rfl rfl ?_
 intro b1 w2 J1 E2 B1 Y1
 have Q2 := E2.size
 replace hV := Z0 hV E2
 refine Zn rfl (asB rfl) ?_
 refine Zs ?_
 refine Zo rfl (run_fa rfl rfl fo_32_0) ?_
 refine Zo rfl (run_ld1 rfl ag_3 rfl (B1.at.cell 0 rfl)) ?_
 refine Zo rfl (run_eql rfl rfl rfl) ?_
 refine Zo rfl (mvB rfl) ?_
 refine r_g rfl (wantF rfl) rfl (fun hg => run_fa rfl rfl fo_32_0) ?_
 refine r_g rfl (wantF rfl) rfl (fun hg => run_ld1 rfl ag_3 (glv rfl (fun h => h) hg) (B1.at.cell 0 rfl)) ?_
 refine r_g rfl (wantF rfl) rfl (fun hg => run_eql rfl (glv rfl (fun h => h) hg) rfl) ?_
 refine Zo rfl (run_pick_or rfl rfl rfl (fun hq => glv rfl (fun h => h) hq)) ?_
 refine Zo rfl (mvB rfl) ?_
 refine r_g rfl (wantF rfl) rfl (fun hg => run_fa rfl rfl fo_32_0) ?_
 refine r_g rfl (wantF rfl) rfl (fun hg => run_ld1 rfl ag_3 (glv rfl (fun h => h) hg) (B1.at.cell 0 rfl)) ?_
 refine r_g rfl (wantF rfl) rfl (fun hg => run_eql rfl (glv rfl (fun h => h) hg) rfl) ?_
 refine Zo rfl (run_pick_or rfl rfl rfl (fun hq => glv rfl (fun h => h) hq)) ?_
 refine Zn rfl (asB rfl) ?_
 refine r_ret (res1 (v := .bool _) rfl rfl) ?_
 exact ⟨ret_bool (by rw [Bool.eq_iff_iff, decide_eq_true_iff, isTag_iff]), hV⟩
theorem ei_32 : ∀ (w : World) (x y : Vc.Item), (Op.equalIn 10000 32 (.agg (Enc.enc x).toArray) (.agg (Enc.enc y).toArray)).run Tryz.prog w = .ok (decide (x = y)) w := fun w x y => equalIn_item 9998 Tryz.underlying32 Tryz.stoodInHeld32 (by decide) (by decide) (by decide) rfl rfl rfl Tryz.underlying3 Tryz.underlying9 Tryz.underlying3 ag_3 ag_9 ag_3 x y
theorem itake_bothI {α : Type} [Inhabited α] {a b : List α} {k : Nat} (hp : a.take k = b.take k) (ha : k < a.length) (hb : k < b.length) (h : a.getD k default = b.getD k default) : a.take (k + 1) = b.take (k + 1) := by
  rw [take_succD a k ha, take_succD b k hb, hp, h]
def KF : List Vc.Item := [⟨2, [98], 1⟩, ⟨1, [97, 98], 0⟩, ⟨3, [98], 1⟩]
theorem pl_32 : placesP Tryz.prog 32 = some [(0, 1), (1, 1), (2, 1)] := by kernel_rfl
theorem plain_calls {ao : Option Addr} {b off cap : Nat} {f : List Vc.Item} {w0 : World} (hf : RowE w0 ao b off cap f) (hsm : Small f) :
    Calls Tryz.prog 66 #[.slice ao f.length cap] w0 fun e w' => e = .returned (S (plainL f)) ∧ Evo w0 w' [] := by
 have hs1 := hsm.1; have hs2 := hsm.2
 refine calls_enter (n := 28) Tryz.func66 rfl Tryz.ntmps66 rfl ?_
 have hV : Evo w0 w0 [] := Evo.refl _ _
 have hf0 := keepE hf
 have hbd_hf := hf.bd
 refine Zs ?_
 refine Zn rfl (asT rfl) ?_
 refine Zs ?_
 refine Zn rfl (asS rfl) ?_
 refine r_seq ?_
 refine Zs ?_
 refine Zo rfl (mvS rfl) ?_
 refine Zo rfl (run_lenSl rfl rfl Tryz.underlying33) ?_
 refine Zn rfl (mvI rfl) ?_
 refine r_block ?_
 refine r_loop (α := Nat) [3, 5, 8, 9, 10, 11, 12, 13, 14, 15, 16, 17, 18, 19, 20, 21, 22, 23, 24, 25] (fun k g w => ∃ vo : Value, g 8 = .int .i64 (k : Nat) ∧ g 3 = vo ∧ k ≤ f.length ∧ OwnE w w0.heap.size 5 vo (plainL (f.take k)) ∧ w0.heap.size ≤ w.heap.size ∧ Evo w0 w []) (fun k => f.length - k) 0 ?_ ?_
 ·refine ⟨_, (by first | exact rfl | exact congrArg (Value.int _) (by omega) | exact congrArg (Value.int _) (by dsimp only; omega) | exact congrArg (Value.int _) (by simp) | exact congrArg S (by simp)), rfl, (by first | assumption | omega | (dsimp only; omega) | (simp; done)), (OwnE.nil _ _ _), (by first | assumption | omega | (dsimp only; omega) | (simp; done)), hV⟩
 rintro k g w2 ⟨vo, hj3, hj4, hk_k, hoo, hzl1, hV⟩
 have hs_w2hV := hV.size
 replace hf := hf0 _ hV
 refine Zk 8 (v := .int .i64 (k : Nat)) (by exact hj3) ?_
 refine Zk 3 (v := vo) (by exact hj4) ?_
 refine Zs ?_
 refine Zn rfl (run_lss rfl rfl rfl) ?_
 refine r_seq ?_
 refine r_cond rfl (fun hc5 => ?_) (fun hc5 => ?_)
 ·skip
  refine r_skip ?_
  refine r_seq ?_
  refine r_block ?_
  refine r_seq ?_
  have hobO := fun g hg => (hoo.block (g := g) hg).2
  refine r_region ?_
  refine Zo rfl (run_ix (k) rfl Tryz.underlying33 ty_32 rfl rfl (by first | exact rfl | omega) (by omega) (hf.addr (i := k) (by omega))) ?_
  have hA60 := fun (w' : World) (h : Evo w0 w' []) => (hf0 w' h).atD (k) (by omega)
  have hA6 := hA60 _ hV
  refine Zo rfl (run_ldN rfl ag_32 ty_32 rfl rfl hA6) ?_
  have hob7 := fun g hg => (hoo.block (g := g) hg).2
  refine r_var (zs := [_, _, _]) (vs := [_, _, _]) ty_32 rfl rfl rfl (fun _ => rfl) rfl rfl rfl rfl ?_
  intro b8 w9 J8 E9 B8 Y8
  have Q9 := E9.size
  replace hV := Z0 hV E9
  replace hf := hf0 _ hV
  replace hoo := hoo.evo0 E9
  refine r_nil ?_
  refine r_seq ?_
  have hneO : ∀ g, vo.ownBlock = some g → g ≠ b8 := fun g hg h => by have := hobO g hg; omega
  have hp1 := plainL_len (f.take k); have hp2 := sizeL_take f k; have hp3 := sizeL_at f k; have hp5 : (f.take k).length ≤ k := List.length_take_le _ _
  refine r_region ?_
  refine Zo rfl (run_fa rfl rfl fo_32_0) ?_
  refine Zn rfl (run_ld1 rfl ag_3 rfl (B8.at.cell 0 rfl)) ?_
  refine r_block ?_
  refine Zs ?_
  refine Zo rfl (run_eql rfl rfl rfl) ?_
  refine Zn rfl (asB rfl) ?_
  refine r_cond rfl (fun hc10 => ?_) (fun hc10 => ?_)
  ·skip
   refine r_region ?_
   refine Zo rfl (run_mv (v := vo) rfl rfl) ?_
   refine Zo rfl (run_fa rfl rfl fo_32_1) ?_
   refine Zo rfl (run_ld1 rfl ag_9 rfl (B8.at.cell 1 rfl)) ?_
   refine r_appendS rfl Tryz.underlying123 Tryz.underlying9 ty_5 rfl hoo rfl rfl (by first | omega | (simp; omega)) (by omega) ?_
   intro v11 w12 E12 hov11
   have Q12 := E12.size
   replace hV := evo_stepo hV E12 (fun g hg => .inl (by first | exact (hoo.block hg).1 | (have := hoo.block hg; omega)))
   replace hf := hf0 _ hV
   refine Zn rfl (run_asg (v := v11) rfl rfl) ?_
   refine r_blk ?_
   refine r_blk ?_
   refine r_region ?_
   refine Zo rfl (run_add rfl rfl rfl (by omega) (by omega)) ?_
   refine Zn rfl (mvI rfl) ?_
   refine r_again (k + 1) ?_ ?_ ?_
   ·first | omega | (dsimp only; omega)
   ·refine ⟨_, (by first | exact rfl | exact congrArg (Value.int _) (by omega) | exact congrArg (Value.int _) (by dsimp only; omega) | exact congrArg (Value.int _) (by simp) | exact congrArg S (by simp)), rfl, (by first | assumption | omega | (dsimp only; omega) | (simp; done)), (by first | (rw [plainL_succ f k (by omega), plainI_text (by assumption)]; exact hov11) | (rw [plainL_succ f k (by omega), plainI_slot (by assumption)]; exact hov11) | (rw [plainL_succ f k (by omega), plainI_other (by assumption) (by assumption), List.append_nil]; exact hov11)), (by first | assumption | omega | (dsimp only; omega) | (simp; done)), hV⟩
   repeat (first | (with_reducible exact Agree.merge _ _ _) | (with_reducible exact Agree.refl _ _) | (with_reducible refine Agree.upd ?_ _ _ rfl) | ((with_reducible refine Agree.inner ?_ ?_); (kernel_rfl)))
  refine Zs ?_
  refine Zo rfl (run_eql rfl rfl rfl) ?_
  refine Zn rfl (asB rfl) ?_
  refine r_cond rfl (fun hc13 => ?_) (fun hc13 => ?_)
  ·skip
   refine r_region ?_
   refine Zo rfl (run_mv (v := vo) rfl rfl) ?_
   refine r_append1E (u := .int _ _) (y := (255 : UInt8)) rfl rfl Tryz.underlying123 ty_5 rfl hoo (fun _ => rfl) rfl (by first | exact rfl | (show _ = List.toArray [_]; first | (dsimp only; done) | exact rfl | (dsimp only; exact rfl))) ((by first | omega | (simp; omega))) ((by first | omega | (simp; omega))) (by omega) ?_
   intro q_v14 v14 w15 E15 hov14 hlv14
   have Q15 := E15.size
   replace hV := evo_stepo hV E15 (fun g hg => .inl (by first | exact (hoo.block hg).1 | (have := hoo.block hg; omega)))
   replace hf := hf0 _ hV
   refine Zn rfl (run_asg (v := v14) rfl rfl) ?_
   refine r_blk ?_
   refine r_blk ?_
   refine r_region ?_
   refine Zo rfl (run_add rfl rfl rfl (by omega) (by omega)) ?_
   refine Zn rfl (mvI rfl) ?_
   refine r_again (k + 1) ?_ ?_ ?_
   ·first | omega | (dsimp only; omega)
   ·refine ⟨_, (by first | exact rfl | exact congrArg (Value.int _) (by omega) | exact congrArg (Value.int _) (by dsimp only; omega) | exact congrArg (Value.int _) (by simp) | exact congrArg S (by simp)), rfl, (by first | assumption | omega | (dsimp only; omega) | (simp; done)), (by first | (rw [plainL_succ f k (by omega), plainI_text (by assumption)]; exact hov14) | (rw [plainL_succ f k (by omega), plainI_slot (by assumption)]; exact hov14) | (rw [plainL_succ f k (by omega), plainI_other (by assumption) (by assumption), List.append_nil]; exact hov14)), (by first | assumption | omega | (dsimp only; omega) | (simp; done)), hV⟩
   repeat (first | (with_reducible exact Agree.merge _ _ _) | (with_reducible exact Agree.refl _ _) | (with_reducible refine Agree.upd ?_ _ _ rfl) | ((with_reducible refine Agree.inner ?_ ?_); (kernel_rfl)))
  refine r_skip ?_
  refine r_blk ?_
  refine r_blk ?_
  refine r_region ?_
  refine Zo rfl (run_add rfl rfl rfl (by omega) (by omega)) ?_
  refine Zn rfl (mvI rfl) ?_
  refine r_again (k + 1) ?_ ?_ ?_
  ·first | omega | (dsimp only; omega)
  ·refine ⟨_, (by first | exact rfl | exact congrArg (Value.int _) (by omega) | exact congrArg (Value.int _) (by dsimp only; omega) | exact congrArg (Value.int _) (by simp) | exact congrArg S (by simp)), rfl, (by first | assumption | omega | (dsimp only; omega) | (simp; done)), (by first | (rw [plainL_succ f k (by omega), plainI_text (by assumption)]; exact hoo) | (rw [plainL_succ f k (by omega), plainI_slot (by assumption)]; exact hoo) | (rw [plainL_succ f k (by omega), plainI_other (by assumption) (by assumption), List.append_nil]; exact hoo)), (by first | assumption | omega | (dsimp only; omega) | (simp; done)), hV⟩
  repeat (first | (with_reducible exact Agree.merge _ _ _) | (with_reducible exact Agree.refl _ _) | (with_reducible refine Agree.upd ?_ _ _ rfl) | ((with_reducible refine Agree.inner ?_ ?_); (kernel_rfl)))
 refine r_exit rfl ?_
 refine r_seq ?_
 obtain ⟨ao16, g16, cp16, hv16, hr16, hg16⟩ := hoo.rowOf
 subst hv16
 refine r_region ?_
 refine Zo rfl (mvS rfl) ?_
 refine Zo rfl (run_cvBS rfl Tryz.underlying123 Tryz.underlying5 Tryz.underlying9 rfl (by first | rfl | simp) hr16) ?_
 refine Zn rfl (asT rfl) ?_
 refine r_ret (res1 (v := S _) rfl rfl) ?_
 exact ⟨by rw [List.take_of_length_le (by omega)], hV⟩
def isW (x : Vc.Item) : Prop := x.kind = 6 ∨ x.kind = 7
instance (x : Vc.Item) : Decidable (isW x) := by unfold isW; infer_instance
def gapW (x : Vc.Item) : Prop := x.kind = 8 ∨ x.kind = 2 ∨ x.kind = 3 ∨ x.kind = 4
instance (x : Vc.Item) : Decidable (gapW x) := by unfold gapW; infer_instance
def nextR : List Vc.Item → Nat → Int
  | [], _ => -1
  | x :: r, k => if isW x then (k : Int) else if gapW x then nextR r (k + 1) else -1
def nextT (l : List Vc.Item) (i : Nat) : Int := nextR (l.drop (i + 1)) (i + 1)
theorem drop_consT {l : List Vc.Item} {k : Nat} (h : k < l.length) : l.drop k = l.getD k default :: l.drop (k + 1) := by
  have e : l.getD k default = l[k] := by simp [List.getD, h]
  rw [e]; exact (List.drop_eq_getElem_cons h)
theorem next_hit {l : List Vc.Item} {k : Nat} (h : k < l.length) (h2 : isW (l.getD k default)) : nextR (l.drop k) k = (k : Int) := by rw [drop_consT h]; exact if_pos h2
theorem next_gap {l : List Vc.Item} {k : Nat} (h : k < l.length) (h2 : ¬ isW (l.getD k default)) (h3 : gapW (l.getD k default)) : nextR (l.drop k) k = nextR (l.drop (k + 1)) (k + 1) := by
  rw [drop_consT h]
  conv => lhs; unfold nextR
  rw [if_neg h2, if_pos h3]
theorem next_stop {l : List Vc.Item} {k : Nat} (h : k < l.length) (h2 : ¬ isW (l.getD k default)) (h3 : ¬ gapW (l.getD k default)) : nextR (l.drop k) k = -1 := by
  rw [drop_consT h]; unfold nextR; rw [if_neg h2, if_neg h3]
theorem next_end {l : List Vc.Item} {k : Nat} (h : l.length ≤ k) : nextR (l.drop k) k = -1 := by rw [List.drop_of_length_le h]; rfl
theorem nextR_bd (l : List Vc.Item) : ∀ (n k : Nat), l.length - k = n → k ≤ l.length → nextR (l.drop k) k = -1 ∨ ((k : Int) ≤ nextR (l.drop k) k ∧ nextR (l.drop k) k < (l.length : Int) ∧ isW (l.getD (nextR (l.drop k) k).toNat default))
  | 0, k, h, _ => .inl (next_end (by omega))
  | n + 1, k, h, _ => by
    have hk : k < l.length := by omega
    by_cases h2 : isW (l.getD k default)
    · rw [next_hit hk h2]; exact .inr ⟨by omega, by omega, by simpa using h2⟩
    · by_cases h3 : gapW (l.getD k default)
      · rw [next_gap hk h2 h3]
        rcases nextR_bd l n (k + 1) (by omega) (by omega) with h4 | ⟨h4, h5, h6⟩
        · exact .inl h4
        · exact .inr ⟨by omega, h5, h6⟩
      · exact .inl (next_stop hk h2 h3)
theorem nextT_bd {l : List Vc.Item} {i : Nat} (h : i < l.length) : nextT l i = -1 ∨ ((i : Int) + 1 ≤ nextT l i ∧ nextT l i < (l.length : Int) ∧ isW (l.getD (nextT l i).toNat default)) := by
  rcases nextR_bd l _ (i + 1) rfl (by omega) with h1 | ⟨h1, h2, h3⟩
  · exact .inl h1
  · exact .inr ⟨by have : ((i + 1 : Nat) : Int) ≤ nextT l i := h1
                   omega, h2, h3⟩
def chainF (l : List Vc.Item) : Int → Int → List (List Str) → Int
  | _, e, [] => e
  | i, _, s :: r => if i < 0 then -1 else if lowS (l.getD i.toNat default).text ∈ s then chainF l (nextT l i.toNat) (i + 1) r else -1
theorem chain_neg {l : List Vc.Item} {i e : Int} {s : List Str} {r : List (List Str)} (h : i < 0) : chainF l i e (s :: r) = -1 := if_pos h
theorem chain_no {l : List Vc.Item} {i e : Int} {s : List Str} {r : List (List Str)} (h : ¬ i < 0) (h2 : ¬ lowS (l.getD i.toNat default).text ∈ s) : chainF l i e (s :: r) = -1 := by unfold chainF; rw [if_neg h, if_neg h2]
theorem chain_go {l : List Vc.Item} {i e : Int} {s : List Str} {r : List (List Str)} (h : ¬ i < 0) (h2 : lowS (l.getD i.toNat default).text ∈ s) : chainF l i e (s :: r) = chainF l (nextT l i.toNat) (i + 1) r := by
  conv => lhs; unfold chainF
  rw [if_neg h, if_pos h2]
end Go.Proofs.YtlfjocbnbceceaaGreatDoor
namespace Go.Vc
open Go Go.RowKit Go.IntWalk Go.Deep
structure TermL where
  words : List Ende
  req : List Str
  forb : List Str
deriving Inhabited
instance : Rep TermL where
  n := 3
  rep w cs x := (∃ ao b off cap ao1 b1 off1 cap1 ao2 b2 off2 cap2, cs = [.slice ao x.words.length cap, .slice ao1 x.req.length cap1, .slice ao2 x.forb.length cap2] ∧ RowE w ao b off cap x.words ∧ RowE w ao1 b1 off1 cap1 x.req ∧ RowE w ao2 b2 off2 cap2 x.forb) ∧ (x.words.length ≤ 4398046510976 ∧ ∀ y ∈ x.words, BdE y)
  len := fun ⟨⟨_, _, _, _, _, _, _, _, _, _, _, _, h, _⟩, _⟩ => by rw [h]; rfl
  evo0 := fun ⟨⟨ao, b, off, cap, ao1, b1, off1, cap1, ao2, b2, off2, cap2, h, h1, h2, h3⟩, hb⟩ he => ⟨⟨ao, b, off, cap, ao1, b1, off1, cap1, ao2, b2, off2, cap2, h, h1.evo0 he, h2.evo0 he, h3.evo0 he⟩, hb⟩
  pos := by decide
theorem term_at {w : World} {ao : Option Addr} {b off cap : Nat} {l : List TermL} (h : RowR w ao b off cap l) (k : Nat) (hk : k < l.length) :
    ∃ aoW bW offW capW aoQ bQ offQ capQ aoF bF offF capF, At w b (off + k * 3) [.slice aoW (l.getD k default).words.length capW, .slice aoQ (l.getD k default).req.length capQ, .slice aoF (l.getD k default).forb.length capF] ∧ RowE w aoW bW offW capW (l.getD k default).words ∧ RowE w aoQ bQ offQ capQ (l.getD k default).req ∧ RowE w aoF bF offF capF (l.getD k default).forb := by
  obtain ⟨cs, h1, ⟨ao, b, off, cap, ao1, b1, off1, cap1, ao2, b2, off2, cap2, h2, h3, h4, h5⟩, _⟩ := h.atD k hk
  exact ⟨_, _, _, _, _, _, _, _, _, _, _, _, h2 ▸ h1, h3, h4, h5⟩
theorem term_atK {w : World} {E : List Nat} {ao : Option Addr} {b off cap : Nat} {l : List TermL} (h : RowRK w E ao b off cap l) (k : Nat) (hk : k < l.length) :
    ∃ aoW bW offW capW aoQ bQ offQ capQ aoF bF offF capF, ∀ w', Evo w w' E → At w' b (off + k * 3) [.slice aoW (l.getD k default).words.length capW, .slice aoQ (l.getD k default).req.length capQ, .slice aoF (l.getD k default).forb.length capF] ∧ RowE w' aoW bW offW capW (l.getD k default).words ∧ RowE w' aoQ bQ offQ capQ (l.getD k default).req ∧ RowE w' aoF bF offF capF (l.getD k default).forb := by
  obtain ⟨cs, h1⟩ := h.atD k hk
  obtain ⟨ao, b, off, cap, ao1, b1, off1, cap1, ao2, b2, off2, cap2, h2, h3, h4, h5⟩ := (h1 w (Evo.refl _ _)).2.1
  refine ⟨ao, b, off, cap, ao1, b1, off1, cap1, ao2, b2, off2, cap2, fun w' he => ⟨h2 ▸ (h1 w' he).1, ?_⟩⟩
  obtain ⟨ao', b', off', cap', ao1', b1', off1', cap1', ao2', b2', off2', cap2', h2', h3', h4', h5'⟩ := (h1 w' he).2.1
  rw [h2] at h2'
  simp only [List.cons.injEq, Value.slice.injEq, and_true, true_and] at h2'
  obtain ⟨⟨rfl, rfl⟩, ⟨rfl, rfl⟩, rfl, rfl⟩ := h2'
  exact ⟨rowE_same h3' h3, rowE_same h4' h4, rowE_same h5' h5⟩
theorem term_bd {w : World} {ao : Option Addr} {b off cap : Nat} {l : List TermL} (h : RowR w ao b off cap l) : ∀ x ∈ l, x.words.length ≤ 4398046510976 ∧ ∀ y ∈ x.words, BdE y := fun x hx => by
  obtain ⟨css, _, hl, hr⟩ := h
  obtain ⟨i, hi⟩ := List.getElem?_of_mem hx
  have hi2 : i < l.length := (List.getElem?_eq_some_iff.1 hi).1
  exact (hr i (css[i]'(by omega)) x (by simp [hl, hi2]) hi).2
structure SetS where
  ks : List Str
deriving Inhabited
def eU : Unit → Value := fun _ => Value.agg #[]
def SetIs (w : World) (b : Nat) (ks : List Str) : Prop := ∃ m : List (Str × Unit), MapIs w b S eU m ∧ ∀ s, (getM m s).isSome = true ↔ s ∈ ks
theorem SetIs.evo {w w' : World} {b : Nat} {ks : List Str} {E : List Nat} (h : SetIs w b ks) (he : Evo w w' E) (hn : b ∉ E) : SetIs w' b ks := by
  obtain ⟨m, h1, h2⟩ := h; exact ⟨m, h1.evo he hn, h2⟩
theorem SetIs.evo0 {w w' : World} {b : Nat} {ks : List Str} (h : SetIs w b ks) (he : Evo w w' []) : SetIs w' b ks := h.evo he (by simp)
theorem SetIs.lt {w : World} {b : Nat} {ks : List Str} (h : SetIs w b ks) : b < w.heap.size := by obtain ⟨m, h1, _⟩ := h; exact h1.lt
theorem SetIs.bd {w : World} {b : Nat} {ks : List Str} (_ : SetIs w b ks) : True := trivial
instance : Rep SetS where
  n := 1
  rep w cs x := ∃ b, cs = [.map (some b)] ∧ SetIs w b x.ks
  len := fun ⟨_, h, _⟩ => by rw [h]; rfl
  evo0 := fun ⟨b, h, hm⟩ he => ⟨b, h, hm.evo0 he⟩
  pos := by decide
theorem set_atK {w : World} {E : List Nat} {ao : Option Addr} {b off cap : Nat} {l : List SetS} (h : RowRK w E ao b off cap l) (k : Nat) (hk : k < l.length) :
    ∃ bM, ∀ w', Evo w w' E → At w' b (off + k * 1) [.map (some bM)] ∧ SetIs w' bM (l.getD k default).ks := by
  obtain ⟨cs, h1⟩ := h.atD k hk
  obtain ⟨bM, h2, _⟩ := (h1 w (Evo.refl _ _)).2
  refine ⟨bM, fun w' he => ⟨h2 ▸ (h1 w' he).1, ?_⟩⟩
  obtain ⟨b', h4, h5⟩ := (h1 w' he).2
  rw [h2] at h4
  simp only [List.cons.injEq, Value.map.injEq, Option.some.injEq, and_true] at h4
  rw [h4]; exact h5
end Go.Vc
namespace Go.Proofs.YtlfjocbnbceceaaGreatDoor
open Go.RowKit Go.Vc
theorem ag_96 : aggP Tryz.prog 96 = some true := by kernel_rfl
theorem fo_96_0 : fieldP Tryz.prog 96 0 = some 0 := by kernel_rfl
theorem tisword_calls {x : Vc.Item} {w0 : World}  :
    Calls Tryz.prog 191 #[.agg (Enc.enc x).toArray] w0 fun e w' => e = .returned (.bool (decide (isW x))) ∧ Evo w0 w' [] := by
 refine calls_enter (n := 11) Tryz.func191 rfl Tryz.ntmps191 rfl ?_
 have hV : Evo w0 w0 [] := Evo.refl _ _
 refine Zs ?_
 refine r_box (vs := [_, _, _]) rfl rfl rfl ?_
 intro b1 w2 J1 E2 B1 Y1
 have Q2 := E2.size
 replace hV := Z0 hV E2
 refine Zn rfl (asB rfl) ?_
 refine Zs ?_
 refine Zo rfl (run_fa rfl rfl fo_96_0) ?_
 refine Zo rfl (run_ld1 rfl ag_3 rfl (B1.at.cell 0 rfl)) ?_
 refine Zo rfl (run_eql rfl rfl rfl) ?_
 refine Zo rfl (mvB rfl) ?_
 refine r_g rfl (wantF rfl) rfl (fun hg => run_fa rfl rfl fo_96_0) ?_
 refine r_g rfl (wantF rfl) rfl (fun hg => run_ld1 rfl ag_3 (glv rfl (fun h => h) hg) (B1.at.cell 0 rfl)) ?_
 refine r_g rfl (wantF rfl) rfl (fun hg => run_eql rfl (glv rfl (fun h => h) hg) rfl) ?_
 refine Zo rfl (run_pick_or rfl rfl rfl (fun hq => glv rfl (fun h => h) hq)) ?_
 refine Zn rfl (asB rfl) ?_
 refine r_ret (res1 (v := .bool _) rfl rfl) ?_
 exact ⟨ret_bool (decide_eq_decide.2 (by unfold isW; omega)), hV⟩
theorem ttnext_calls {ao : Option Addr} {b off cap : Nat} {l : List Vc.Item} {i : Int} {w0 : World} (hl : RowE w0 ao b off cap l) (h0 : 0 ≤ i) (h1 : i < l.length) :
    Calls Tryz.prog 212 #[.slice ao l.length cap, .int .i64 i] w0 fun e w' => e = .returned (.int .i64 (nextT l i.toNat)) ∧ Evo w0 w' [] := by
 refine calls_enter (n := 28) Tryz.func212 rfl Tryz.ntmps212 rfl ?_
 have hV : Evo w0 w0 [] := Evo.refl _ _
 have hl0 := keepE hl
 have hbd_hl := hl.bd
 refine Zs ?_
 refine Zn rfl (asI rfl) ?_
 refine r_seq ?_
 refine Zs ?_
 refine Zo rfl (mvI rfl) ?_
 refine Zo rfl (run_add rfl rfl rfl (by omega) (by omega)) ?_
 refine Zn rfl (asI rfl) ?_
 refine r_block ?_
 refine r_loop (α := Nat) [4, 5, 8, 9, 10, 11, 12, 13, 14, 15, 16, 17, 18, 19, 20, 21, 22, 23, 24, 25, 26, 27] (fun k g w => g 5 = .int .i64 (k : Nat) ∧ k ≤ l.length ∧ nextR (l.drop k) k = nextT l i.toNat ∧ w0.heap.size ≤ w.heap.size ∧ Evo w0 w []) (fun k => l.length - k) (i.toNat + 1) ?_ ?_
 ·refine ⟨(congrArg (Value.int _) (by omega)), (by first | assumption | omega | (dsimp only; omega) | (simp; done)), rfl, (by first | assumption | omega | (dsimp only; omega) | (simp; done)), hV⟩
 rintro k g w2 ⟨hj3, hk, hnx, hzl1, hV⟩
 have hs_w2hV := hV.size
 replace hl := hl0 _ hV
 refine Zk 5 (v := .int .i64 (k : Nat)) (by exact hj3) ?_
 refine r_seq ?_
 refine Zs ?_
 refine Zo rfl (mvI rfl) ?_
 refine Zo rfl (mvS rfl) ?_
 refine Zo rfl (run_lenSl rfl rfl Tryz.underlying94) ?_
 refine Zn rfl (run_lss rfl rfl rfl) ?_
 refine r_cond rfl (fun hc4 => ?_) (fun hc4 => ?_)
 ·skip
  refine r_skip ?_
  refine r_seq ?_
  refine r_block ?_
  refine Zs ?_
  refine Zo rfl (mvS rfl) ?_
  refine Zo rfl (mvI rfl) ?_
  refine Zo rfl (run_ix (k) rfl Tryz.underlying94 ty_96 rfl rfl (by first | exact rfl | omega) (by omega) (hl.addr (i := k) (by omega))) ?_
  have hA50 := fun (w' : World) (h : Evo w0 w' []) => (hl0 w' h).atD (k) (by omega)
  have hA5 := hA50 _ hV
  refine Zo rfl (run_fa rfl rfl fo_96_0) ?_
  refine Zn rfl (run_ld1 rfl ag_3 rfl (hA5.cell 0 rfl)) ?_
  refine r_block ?_
  refine r_seq ?_
  refine Zs ?_
  refine Zo rfl (run_eql rfl rfl rfl) ?_
  refine Zn rfl (asB rfl) ?_
  refine r_cond rfl (fun hc6 => ?_) (fun hc6 => ?_)
  ·skip
   refine r_skip ?_
   refine r_condT rfl hc6 ?_
   refine Zs ?_
   refine Zo rfl (mvI rfl) ?_
   refine Zn rfl (asI rfl) ?_
   refine r_ret (res1 (v := .int _ _) rfl rfl) ?_
   first | exact ⟨ret_int (by rw [← hnx, next_hit (l := l) (k := k) (by omega) (by first | assumption | (unfold isW; omega))]), hV⟩ | exact ⟨ret_int (by rw [← hnx, next_stop (l := l) (k := k) (by omega) (by first | assumption | (unfold isW; omega)) (by unfold gapW; omega)]), hV⟩ | exact ⟨ret_int (by rw [← hnx, next_end (l := l) (k := k) (by omega)]), hV⟩
  refine r_region ?_
  refine Zo rfl (run_eql rfl rfl rfl) ?_
  refine Zn rfl (asB rfl) ?_
  refine r_cond rfl (fun hc7 => ?_) (fun hc7 => ?_)
  ·skip
   refine Zs ?_
   refine Zo rfl (mvI rfl) ?_
   refine Zn rfl (asI rfl) ?_
   refine r_ret (res1 (v := .int _ _) rfl rfl) ?_
   first | exact ⟨ret_int (by rw [← hnx, next_hit (l := l) (k := k) (by omega) (by first | assumption | (unfold isW; omega))]), hV⟩ | exact ⟨ret_int (by rw [← hnx, next_stop (l := l) (k := k) (by omega) (by first | assumption | (unfold isW; omega)) (by unfold gapW; omega)]), hV⟩ | exact ⟨ret_int (by rw [← hnx, next_end (l := l) (k := k) (by omega)]), hV⟩
  refine r_seq ?_
  refine Zs ?_
  refine Zo rfl (run_eql rfl rfl rfl) ?_
  refine Zn rfl (asB rfl) ?_
  refine r_cond rfl (fun hc8 => ?_) (fun hc8 => ?_)
  ·skip
   refine r_skip ?_
   refine r_condT rfl hc8 ?_
   refine r_skip ?_
   refine r_blk ?_
   refine r_blk ?_
   refine r_region ?_
   refine Zo rfl (mvI rfl) ?_
   refine Zo rfl (run_add rfl rfl rfl (by omega) (by omega)) ?_
   refine Zn rfl (asI rfl) ?_
   refine r_again (k + 1) ?_ ?_ ?_
   ·first | omega | (dsimp only; omega)
   ·refine ⟨(congrArg (Value.int _) (by omega)), (by first | assumption | omega | (dsimp only; omega) | (simp; done)), (by rw [← hnx, next_gap (l := l) (k := k) (by omega) (by first | assumption | (unfold isW; omega)) (by unfold gapW; omega)]), (by first | assumption | omega | (dsimp only; omega) | (simp; done)), hV⟩
   repeat (first | (with_reducible exact Agree.merge _ _ _) | (with_reducible exact Agree.refl _ _) | (with_reducible refine Agree.upd ?_ _ _ rfl) | ((with_reducible refine Agree.inner ?_ ?_); (kernel_rfl)))
  refine Zs ?_
  refine Zo rfl (run_eql rfl rfl rfl) ?_
  refine Zn rfl (asB rfl) ?_
  refine r_cond rfl (fun hc9 => ?_) (fun hc9 => ?_)
  ·skip
   refine r_skip ?_
   refine r_condT rfl hc9 ?_
   refine r_skip ?_
   refine r_blk ?_
   refine r_blk ?_
   refine r_region ?_
   refine Zo rfl (mvI rfl) ?_
   refine Zo rfl (run_add rfl rfl rfl (by omega) (by omega)) ?_
   refine Zn rfl (asI rfl) ?_
   refine r_again (k + 1) ?_ ?_ ?_
   ·first | omega | (dsimp only; omega)
   ·refine ⟨(congrArg (Value.int _) (by omega)), (by first | assumption | omega | (dsimp only; omega) | (simp; done)), (by rw [← hnx, next_gap (l := l) (k := k) (by omega) (by first | assumption | (unfold isW; omega)) (by unfold gapW; omega)]), (by first | assumption | omega | (dsimp only; omega) | (simp; done)), hV⟩
   repeat (first | (with_reducible exact Agree.merge _ _ _) | (with_reducible exact Agree.refl _ _) | (with_reducible refine Agree.upd ?_ _ _ rfl) | ((with_reducible refine Agree.inner ?_ ?_); (kernel_rfl)))
  refine Zs ?_
  refine Zo rfl (run_eql rfl rfl rfl) ?_
  refine Zn rfl (asB rfl) ?_
  refine r_cond rfl (fun hc10 => ?_) (fun hc10 => ?_)
  ·skip
   refine r_skip ?_
   refine r_condT rfl hc10 ?_
   refine r_skip ?_
   refine r_blk ?_
   refine r_blk ?_
   refine r_region ?_
   refine Zo rfl (mvI rfl) ?_
   refine Zo rfl (run_add rfl rfl rfl (by omega) (by omega)) ?_
   refine Zn rfl (asI rfl) ?_
   refine r_again (k + 1) ?_ ?_ ?_
   ·first | omega | (dsimp only; omega)
   ·refine ⟨(congrArg (Value.int _) (by omega)), (by first | assumption | omega | (dsimp only; omega) | (simp; done)), (by rw [← hnx, next_gap (l := l) (k := k) (by omega) (by first | assumption | (unfold isW; omega)) (by unfold gapW; omega)]), (by first | assumption | omega | (dsimp only; omega) | (simp; done)), hV⟩
   repeat (first | (with_reducible exact Agree.merge _ _ _) | (with_reducible exact Agree.refl _ _) | (with_reducible refine Agree.upd ?_ _ _ rfl) | ((with_reducible refine Agree.inner ?_ ?_); (kernel_rfl)))
  refine r_region ?_
  refine Zo rfl (run_eql rfl rfl rfl) ?_
  refine Zn rfl (asB rfl) ?_
  refine r_cond rfl (fun hc11 => ?_) (fun hc11 => ?_)
  ·skip
   refine r_skip ?_
   refine r_blk ?_
   refine r_blk ?_
   refine r_region ?_
   refine Zo rfl (mvI rfl) ?_
   refine Zo rfl (run_add rfl rfl rfl (by omega) (by omega)) ?_
   refine Zn rfl (asI rfl) ?_
   refine r_again (k + 1) ?_ ?_ ?_
   ·first | omega | (dsimp only; omega)
   ·refine ⟨(congrArg (Value.int _) (by omega)), (by first | assumption | omega | (dsimp only; omega) | (simp; done)), (by rw [← hnx, next_gap (l := l) (k := k) (by omega) (by first | assumption | (unfold isW; omega)) (by unfold gapW; omega)]), (by first | assumption | omega | (dsimp only; omega) | (simp; done)), hV⟩
   repeat (first | (with_reducible exact Agree.merge _ _ _) | (with_reducible exact Agree.refl _ _) | (with_reducible refine Agree.upd ?_ _ _ rfl) | ((with_reducible refine Agree.inner ?_ ?_); (kernel_rfl)))
  refine Zs ?_
  refine Zn rfl (asI rfl) ?_
  refine r_ret (res1 (v := .int _ _) rfl rfl) ?_
  first | exact ⟨ret_int (by rw [← hnx, next_hit (l := l) (k := k) (by omega) (by first | assumption | (unfold isW; omega))]), hV⟩ | exact ⟨ret_int (by rw [← hnx, next_stop (l := l) (k := k) (by omega) (by first | assumption | (unfold isW; omega)) (by unfold gapW; omega)]), hV⟩ | exact ⟨ret_int (by rw [← hnx, next_end (l := l) (k := k) (by omega)]), hV⟩
 refine r_exit rfl ?_
 refine Zs ?_
 refine Zn rfl (asI rfl) ?_
 refine r_ret (res1 (v := .int _ _) rfl rfl) ?_
 first | exact ⟨ret_int (by rw [← hnx, next_hit (l := l) (k := k) (by omega) (by first | assumption | (unfold isW; omega))]), hV⟩ | exact ⟨ret_int (by rw [← hnx, next_stop (l := l) (k := k) (by omega) (by first | assumption | (unfold isW; omega)) (by unfold gapW; omega)]), hV⟩ | exact ⟨ret_int (by rw [← hnx, next_end (l := l) (k := k) (by omega)]), hV⟩
theorem ag_171 : aggP Tryz.prog 171 = some false := by kernel_rfl
theorem ag_77 : aggP Tryz.prog 77 = some false := by kernel_rfl
theorem fo_96_1 : fieldP Tryz.prog 96 1 = some 1 := by kernel_rfl
theorem ty_171 : tyP Tryz.prog 171 = some (1, 8, some (.map none)) := by kernel_rfl
theorem ty_77 : tyP Tryz.prog 77 = some (1, 24, some (.slice none 0 0)) := by kernel_rfl
theorem getM_isSome_mem {m : List (Str × Unit)} {x : Str} : (getM m x).isSome = true ↔ x ∈ m.map (·.1) := by
  unfold getM
  rw [Option.isSome_map, List.find?_isSome]
  simp only [decide_eq_true_eq, List.mem_map]
theorem KeyIs.some {m : List (Str × Unit)} {l : List Str} (h : KeyIs m l) (s : Str) : (getM m s).isSome = true ↔ s ∈ l := by
  rw [getM_isSome_mem]; exact h.2 s
def nth (ss : List SetS) : List (List Str) := ss.map (·.ks)
theorem nth_drop {ss : List SetS} {k : Nat} (h : k < ss.length) : nth (ss.drop k) = (ss.getD k default).ks :: nth (ss.drop (k + 1)) := by
  have e : ss.getD k default = ss[k] := by simp [List.getD, h]
  rw [e, List.drop_eq_getElem_cons h]; rfl
def atOk (l : List Vc.Item) (i : Int) : Prop := i = -1 ∨ (0 ≤ i ∧ i < (l.length : Int))
theorem atOk_next {l : List Vc.Item} {i : Int} (h : 0 ≤ i) (h2 : i < (l.length : Int)) : atOk l (nextT l i.toNat) := by
  rcases nextT_bd (l := l) (i := i.toNat) (by omega) with h3 | ⟨h3, h4, _⟩
  · exact .inl h3
  · exact .inr ⟨by omega, h4⟩
theorem tchain_calls {ao : Option Addr} {b off cap : Nat} {l : List Vc.Item} {i : Int} {aos : Option Addr} {bs offs caps : Nat} {ss : List SetS} {w0 : World} (hl : RowE w0 ao b off cap l) (hs : RowR w0 aos bs offs caps ss) (hq : ∀ x ∈ l, x.text.length ≤ 140737488355328) (h0 : 0 ≤ i) (h1 : i < l.length) :
    Calls Tryz.prog 192 #[.slice ao l.length cap, .int .i64 i, .slice aos ss.length caps] w0 fun e w' => e = .returned (.int .i64 (chainF l i (-1) (nth ss))) ∧ Evo w0 w' [] := by
 refine calls_enter (n := 40) Tryz.func192 rfl Tryz.ntmps192 rfl ?_
 have hV : Evo w0 w0 [] := Evo.refl _ _
 have hl0 := keepE hl
 have hbd_hl := hl.bd
 have hs0 := hs.keep
 have hbd_hs := hs.bd
 refine Zs ?_
 refine Zn rfl (asI rfl) ?_
 refine Zs ?_
 refine Zn rfl (asI rfl) ?_
 refine r_seq ?_
 refine Zs ?_
 refine Zo rfl (mvS rfl) ?_
 refine Zo rfl (run_lenSl rfl rfl Tryz.underlying200) ?_
 refine Zn rfl (mvI rfl) ?_
 refine r_block ?_
 refine r_loop (α := Nat) [1, 6, 7, 9, 10, 11, 14, 15, 16, 17, 18, 19, 20, 21, 22, 23, 24, 25, 26, 27, 28, 29, 30, 31, 32, 33, 34, 35, 36, 37, 38] (fun k g w => ∃ at1 : Int, ∃ en : Int, g 14 = .int .i64 (k : Nat) ∧ g 1 = .int .i64 at1 ∧ g 7 = .int .i64 en ∧ k ≤ ss.length ∧ atOk l at1 ∧ chainF l at1 en (nth (ss.drop k)) = chainF l i (-1) (nth ss) ∧ w0.heap.size ≤ w.heap.size ∧ Evo w0 w []) (fun k => ss.length - k) 0 ?_ ?_
 ·refine ⟨i, (-1), (by first | exact rfl | exact congrArg (Value.int _) (by omega) | exact congrArg (Value.int _) (by dsimp only; omega) | exact congrArg (Value.int _) (by simp) | exact congrArg S (by simp)), rfl, rfl, (by first | assumption | omega | (dsimp only; omega) | (simp; done)), (.inr ⟨h0, h1⟩), rfl, (by first | assumption | omega | (dsimp only; omega) | (simp; done)), hV⟩
 rintro k g w2 ⟨at1, en, hj3, hj4, hj5, hk_k, hat, hch, hzl1, hV⟩
 have hs_w2hV := hV.size
 replace hl := hl0 _ hV
 replace hs := hs0.now hV
 refine Zk 14 (v := .int .i64 (k : Nat)) (by exact hj3) ?_
 refine Zk 1 (v := .int .i64 at1) (by exact hj4) ?_
 refine Zk 7 (v := .int .i64 en) (by exact hj5) ?_
 refine Zs ?_
 refine Zn rfl (run_lss rfl rfl rfl) ?_
 refine r_seq ?_
 refine r_cond rfl (fun hc6 => ?_) (fun hc6 => ?_)
 ·skip
  refine r_skip ?_
  refine r_seq ?_
  refine r_block ?_
  refine Zs ?_
  refine Zo rfl (run_ix (k) rfl Tryz.underlying200 ty_171 rfl rfl (by first | exact rfl | omega) (by omega) (hs.addr (i := k) (by omega))) ?_
  obtain ⟨bM7, hX⟩ := set_atK hs0 (k) (by omega)
  have hA70 := fun (w' : World) (h : Evo w0 w' []) => (hX w' h).1
  have hA7 := hA70 _ hV
  have hM70 := fun (w' : World) (h : Evo w0 w' []) => (hX w' h).2
  have hM7 := hM70 _ hV
  clear hX
  refine Zo rfl (run_ld1 rfl ag_171 rfl (hA7.cell 0 rfl)) ?_
  refine Zn rfl (asM rfl) ?_
  refine r_seq ?_
  refine Zs ?_
  refine Zo rfl (mvI rfl) ?_
  refine Zn rfl (run_lss rfl rfl rfl) ?_
  refine r_cond rfl (fun hc8 => ?_) (fun hc8 => ?_)
  ·skip
   refine Zs ?_
   refine Zn rfl (asI rfl) ?_
   refine r_ret (res1 (v := .int _ _) rfl rfl) ?_
   first | exact ⟨ret_int (by rw [← hch, nth_drop (ss := ss) (k := k) (by omega), chain_neg (by omega)]), hV⟩ | exact ⟨ret_int (by rw [← hch, nth_drop (ss := ss) (k := k) (by omega), chain_no (by omega) (fun q => by have h9 := (hKS _).2 q; simp_all)]), hV⟩ | exact ⟨ret_int (by rw [← hch, List.drop_of_length_le (by omega)]; rfl), hV⟩
  refine r_skip ?_
  refine r_seq ?_
  refine r_seq ?_
  have hai : 0 ≤ at1 ∧ at1 < l.length := by rcases hat with h9 | h9 <;> omega
  have hqi := hq _ (getD_in (show at1.toNat < l.length by omega))
  refine r_region ?_
  refine Zo rfl (mvM rfl) ?_
  refine Zo rfl (mvS rfl) ?_
  refine Zo rfl (mvI rfl) ?_
  refine Zo rfl (run_ix (at1.toNat) rfl Tryz.underlying94 ty_96 rfl rfl (by omega) (by omega) (hl.addr (i := at1.toNat) (by omega))) ?_
  have hA90 := fun (w' : World) (h : Evo w0 w' []) => (hl0 w' h).atD (at1.toNat) (by omega)
  have hA9 := hA90 _ hV
  refine Zo rfl (run_fa rfl rfl fo_96_1) ?_
  refine Zo rfl (run_ld1 rfl ag_9 rfl (hA9.cell 1 rfl)) ?_
  refine r_opcall rfl rfl rfl (run_callf (vs := [S _]) rfl (by exact rfl) Tryz.func183 rfl (by kernel_rfl)) (lower_calls (by first | omega | (simp; omega))) ?_
  rintro e w10 ⟨rfl, hE10⟩
  refine ⟨_, rfl, ?_⟩
  have Q10 := hE10.size
  replace hV := Z0 hV hE10
  replace hM7 := hM70 _ hV
  obtain ⟨mS, hMS, hKS⟩ := hM7
  refine Zo rfl (run_lookup2 (a := (lowS (l.getD at1.toNat default).text)) (z := ()) (v := .agg _) (key_str Tryz.underlying9) rfl Tryz.underlying171 ty_172 (by exact rfl) (by exact rfl) hMS rfl) ?_
  refine Zo rfl (mvU rfl) ?_
  refine Zo rfl (run_extract (v := .agg _) rfl rfl rfl) ?_
  refine Zo rfl (run_extract (v := .bool _) rfl rfl rfl) ?_
  refine r_var (zs := []) (vs := []) ty_172 rfl rfl rfl (fun _ => rfl) rfl rfl rfl rfl ?_
  intro b11 w12 J11 E12 B11 Y11
  have Q12 := E12.size
  replace hV := Z0 hV E12
  replace hl := hl0 _ hV
  replace hs := hs0.now hV
  replace hMS := hMS.evo0 E12
  refine Zn rfl (asB rfl) ?_
  refine Zs ?_
  refine Zo rfl (run_mvb rfl rfl) ?_
  refine Zn rfl (run_not rfl rfl) ?_
  refine r_cond rfl (fun hc13 => ?_) (fun hc13 => ?_)
  ·skip
   refine Zs ?_
   refine Zn rfl (asI rfl) ?_
   refine r_ret (res1 (v := .int _ _) rfl rfl) ?_
   first | exact ⟨ret_int (by rw [← hch, nth_drop (ss := ss) (k := k) (by omega), chain_neg (by omega)]), hV⟩ | exact ⟨ret_int (by rw [← hch, nth_drop (ss := ss) (k := k) (by omega), chain_no (by omega) (fun q => by have h9 := (hKS _).2 q; simp_all)]), hV⟩ | exact ⟨ret_int (by rw [← hch, List.drop_of_length_le (by omega)]; rfl), hV⟩
  refine r_skip ?_
  refine Zs ?_
  refine Zo rfl (mvI rfl) ?_
  refine Zo rfl (run_add rfl rfl rfl (by omega) (by omega)) ?_
  refine Zn rfl (asI rfl) ?_
  refine r_region ?_
  refine Zo rfl (mvS rfl) ?_
  refine Zo rfl (mvI rfl) ?_
  refine r_opcall rfl rfl rfl (run_callf (vs := [.slice _ _ _, .int _ _]) rfl (by exact rfl) Tryz.func212 rfl (by kernel_rfl)) (ttnext_calls hl (i := at1) (by omega) (by omega)) ?_
  rintro e w14 ⟨rfl, hE14⟩
  refine ⟨_, rfl, ?_⟩
  have Q14 := hE14.size
  replace hV := Z0 hV hE14
  replace hl := hl0 _ hV
  replace hs := hs0.now hV
  replace hMS := hMS.evo0 hE14
  refine Zn rfl (asI rfl) ?_
  refine r_blk ?_
  refine r_region ?_
  refine Zo rfl (run_add rfl rfl rfl (by omega) (by omega)) ?_
  refine Zn rfl (mvI rfl) ?_
  refine r_again (k + 1) ?_ ?_ ?_
  ·first | omega | (dsimp only; omega)
  ·refine ⟨_, _, (by first | exact rfl | exact congrArg (Value.int _) (by omega) | exact congrArg (Value.int _) (by dsimp only; omega) | exact congrArg (Value.int _) (by simp) | exact congrArg S (by simp)), rfl, rfl, (by first | assumption | omega | (dsimp only; omega) | (simp; done)), (atOk_next (by omega) (by rcases hat with h9 | h9 <;> omega)), (by rw [← hch, nth_drop (ss := ss) (k := k) (by omega), chain_go (by omega) ((hKS _).1 (by first | exact hc13 | exact Classical.not_not.1 hc13 | simpa [Option.isSome_iff_ne_none] using hc13))]), (by first | assumption | omega | (dsimp only; omega) | (simp; done)), hV⟩
  repeat (first | (with_reducible exact Agree.merge _ _ _) | (with_reducible exact Agree.refl _ _) | (with_reducible refine Agree.upd ?_ _ _ rfl) | ((with_reducible refine Agree.inner ?_ ?_); (kernel_rfl)))
 refine r_exit rfl ?_
 refine Zs ?_
 refine Zo rfl (mvI rfl) ?_
 refine Zn rfl (asI rfl) ?_
 refine r_ret (res1 (v := .int _ _) rfl rfl) ?_
 first | exact ⟨ret_int (by rw [← hch, nth_drop (ss := ss) (k := k) (by omega), chain_neg (by omega)]), hV⟩ | exact ⟨ret_int (by rw [← hch, nth_drop (ss := ss) (k := k) (by omega), chain_no (by omega) (fun q => by have h9 := (hKS _).2 q; simp_all)]), hV⟩ | exact ⟨ret_int (by rw [← hch, List.drop_of_length_le (by omega)]; rfl), hV⟩
def chainG (l : List Vc.Item) : Int → Int → List (List Str) → Int
  | _, e, [] => e
  | i, _, s :: r => if (i < 0 ∨ ¬ isW (l.getD i.toNat default)) ∨ ¬ lowS (l.getD i.toNat default).text ∈ s then -1 else chainG l (nextT l i.toNat) (i + 1) r
theorem chainG_no {l : List Vc.Item} {i e : Int} {s : List Str} {r : List (List Str)} (h : (i < 0 ∨ ¬ isW (l.getD i.toNat default)) ∨ ¬ lowS (l.getD i.toNat default).text ∈ s) : chainG l i e (s :: r) = -1 := if_pos h
theorem chainG_go {l : List Vc.Item} {i e : Int} {s : List Str} {r : List (List Str)} (h : ¬ ((i < 0 ∨ ¬ isW (l.getD i.toNat default)) ∨ ¬ lowS (l.getD i.toNat default).text ∈ s)) : chainG l i e (s :: r) = chainG l (nextT l i.toNat) (i + 1) r := by
  conv => lhs; unfold chainG
  rw [if_neg h]
end Go.Proofs.YtlfjocbnbceceaaGreatDoor
namespace Go.Vc
open Go Go.RowKit Go.IntWalk
theorem ownE_lit {α : Type} [Enc α] {w : World} {b base : Nat} {E : TypeId} {cs : List Value} (L : List α) (h : Blk w b E cs) (hc : cs = (L.map Enc.enc).flatten) (hb : base ≤ b) (hl : L.length ≤ 10000) : OwnE w base E (.slice (some ⟨b, 0, none⟩) L.length L.length) L := by
  subst hc
  have hall : ∀ cs ∈ L.map (Enc.enc : α → List Value), cs.length = Enc.n α := fun cs hcs => by
    obtain ⟨x, _, rfl⟩ := List.mem_map.1 hcs; exact Enc.len x
  have hfl := flatten_length _ _ hall
  refine ⟨⟨hfl, .inr ⟨b, L.length, _, by rw [List.length_map], hb, h, by simp, by unfold maxLen; omega, ?_, ?_⟩⟩, hall, by rw [List.length_map]; omega⟩
  · rw [List.length_map] at hfl; simpa using hfl
  · show List.take _ ((L.map Enc.enc).flatten.toArray).toList = _
    rw [← hfl]; exact List.take_length
end Go.Vc
namespace Go.Proofs.YtlfjocbnbceceaaGreatDoor
open Go.RowKit Go.Vc
theorem oforms_calls {ao : Option Addr} {b off cap : Nat} {c : List Clas} {p q : Str} {w0 : World} (hc : RowR w0 ao b off cap c) (hen : (endsL c q).length ≤ 4398046510976) (hbe : ∀ k, BdE ((endsL c q).getD k default)) (hp : p.length ≤ 140737488355328) (hq : q.length ≤ 140737488355328) :
    Calls Tryz.prog 208 #[.slice ao c.length cap, (.agg #[S p, S q])] w0 fun e w' => ∃ v, e = .returned v ∧ Evo w0 w' [] ∧ OwnE w' w0.heap.size 9 v (formsC c p q) := by
 refine calls_enter (n := 53) Tryz.func208 rfl Tryz.ntmps208 rfl ?_
 have hV : Evo w0 w0 [] := Evo.refl _ _
 have hc0 := hc.keep
 have hbd_hc := hc.bd
 refine Zs ?_
 refine r_box (vs := [_, _]) rfl rfl rfl ?_
 intro b1 w2 J1 E2 B1 Y1
 have Q2 := E2.size
 replace hV := Z0 hV E2
 refine Zn rfl (asS rfl) ?_
 refine Zs ?_
 refine Zo rfl (run_fa rfl rfl fo_88_0) ?_
 refine Zo rfl (run_ld1 rfl ag_9 rfl (B1.at.cell 0 rfl)) ?_
 refine r_opcall rfl rfl rfl (run_callf (vs := [S _]) rfl (by exact rfl) Tryz.func183 rfl (by kernel_rfl)) (lower_calls (by first | omega | (simp; omega))) ?_
 rintro e w3 ⟨rfl, hE3⟩
 refine ⟨_, rfl, ?_⟩
 have Q3 := hE3.size
 replace hV := Z0 hV hE3
 replace B1 := B1.evo0 hE3
 refine Zn rfl (asT rfl) ?_
 refine r_seq ?_
 refine Zs ?_
 refine Zo rfl (mvT rfl) ?_
 refine Zn rfl (run_seql rfl rfl rfl) ?_
 refine r_cond rfl (fun hc4 => ?_) (fun hc4 => ?_)
 ·skip
  refine Zs ?_
  refine Zn rfl (asS rfl) ?_
  refine r_ret (res1 (v := .slice _ _ _) rfl rfl) ?_
  exact ⟨_, rfl, hV, by rw [forms_nil hc4]; exact OwnE.nil _ _ _⟩
 refine r_skip ?_
 refine Zs ?_
 refine r_makeMap (α := Str) (β := Unit) S (fun _ : Unit => Value.agg #[]) rfl ?_
 intro b5 w6 J5 E6 hmb5 Y5
 have Q6 := E6.size
 replace hV := Z0 hV E6
 replace B1 := B1.evo0 E6
 refine Zo rfl (mvT rfl) ?_
 refine Zo rfl (run_bld (pv := []) (zs := []) (cells := []) rfl ty_172 rfl pl_172 rfl rfl) ?_
 refine r_mapins (a := _) (v := ()) (key_str Tryz.underlying9) Tryz.underlying171 (by exact rfl) (by exact rfl) (by exact rfl) hmb5 ?_
 intro w7 E7 V7 hm_new
 have Q7 := E7.size
 replace hV := Z1 hV E7 (by first | exact .inl (by omega) | exact .inr (by simp))
 replace B1 := B1.evo E7 (by simp; omega)
 replace hmb5 := hm_new
 clear hm_new
 refine Zo rfl (mvM rfl) ?_
 refine Zn rfl (asM rfl) ?_
 refine r_seq ?_
 refine Zs ?_
 refine Zo rfl (mvS rfl) ?_
 refine Zo rfl (run_fa rfl rfl fo_88_1) ?_
 refine Zo rfl (run_ld1 rfl ag_9 rfl (B1.at.cell 1 rfl)) ?_
 refine r_opcall rfl rfl rfl (run_callf (vs := [.slice _ _ _, S _]) rfl (by exact rfl) Tryz.func225 rfl (by kernel_rfl)) (ends_calls hc0 hV) ?_
 rintro e w8 ⟨ao8, b8, off8, cap8, rfl, hE8, hr80⟩
 refine ⟨_, rfl, ?_⟩
 have Q8 := hE8.size
 replace hV := Z0 hV hE8
 replace hc := hc0.now hV
 replace hmb5 := hmb5.evo0 hE8
 have hr8 := hr80 _ hV
 have hbd_hr8 := hr8.bd
 refine Zo rfl (run_lenSl rfl rfl Tryz.underlying108) ?_
 refine Zn rfl (mvI rfl) ?_
 refine r_block ?_
 refine r_loop (α := Nat) [8, 9, 10, 25, 26, 27, 28, 29, 30, 31, 32, 33, 34, 35, 36, 37, 38, 39, 40, 41, 42, 43, 44, 45, 46, 47, 48, 49, 50] (fun k g w => ∃ m : List (Str × Unit), g 25 = .int .i64 (k : Nat) ∧ k ≤ (if q = [] then ([] : List Ende) else endsL c q).length ∧ MapIs w b5 S (fun _ : Unit => Value.agg #[]) m ∧ KeyIs m (foldF (fun _ => true) (lowS p) fwd ((if q = [] then ([] : List Ende) else endsL c q).take k)) ∧ w8.heap.size ≤ w.heap.size ∧ Evo w0 w []) (fun k => (if q = [] then ([] : List Ende) else endsL c q).length - k) 0 ?_ ?_
 ·refine ⟨_, (by first | exact rfl | exact congrArg (Value.int _) (by omega) | exact congrArg (Value.int _) (by dsimp only; omega) | exact congrArg (Value.int _) (by simp) | exact congrArg S (by simp)), (by first | assumption | omega | (dsimp only; omega) | (simp; done)), hmb5, (KeyIs.one _), (by first | assumption | omega | (dsimp only; omega) | (simp; done)), hV⟩
 rintro k g w10 ⟨m, hj11, hk_k, hmb5, hks, hzl9, hV⟩
 have hs_w10hV := hV.size
 have hlt12 := hmb5.lt
 replace hr8 := hr80 _ hV
 refine Zk 25 (v := .int .i64 (k : Nat)) (by exact hj11) ?_
 have hbk := ends_ifbd hbe k
 have hb1 := hbk.1
 have hb2 := hbk.2
 refine Zs ?_
 refine Zn rfl (run_lss rfl rfl rfl) ?_
 refine r_seq ?_
 refine r_cond rfl (fun hc13 => ?_) (fun hc13 => ?_)
 ·skip
  refine r_skip ?_
  refine r_seq ?_
  refine r_block ?_
  refine Zs ?_
  refine Zo rfl (run_ix (k) rfl Tryz.underlying108 ty_112 rfl rfl (by first | exact rfl | omega) (by omega) (hr8.addr (i := k) (by omega))) ?_
  have hA140 := fun (w' : World) (h : Evo w0 w' []) => (hr80 w' h).atD (k) (by omega)
  have hA14 := hA140 _ hV
  refine Zo rfl (run_ldN rfl ag_112 ty_112 rfl rfl hA14) ?_
  refine r_var (zs := [_, _]) (vs := [_, _]) ty_112 rfl rfl rfl (fun _ => rfl) rfl rfl rfl rfl ?_
  intro b15 w16 J15 E16 B15 Y15
  have Q16 := E16.size
  replace hV := Z0 hV E16
  replace hmb5 := hmb5.evo0 E16
  refine r_nil ?_
  refine Zs ?_
  refine Zo rfl (mvT rfl) ?_
  refine Zo rfl (run_fa rfl rfl fo_112_0) ?_
  refine Zo rfl (run_ld1 rfl ag_9 rfl (B15.at.cell 0 rfl)) ?_
  refine r_opcall rfl rfl rfl (run_callf (vs := [S _, S _]) rfl (by exact rfl) Tryz.func226 rfl (by kernel_rfl)) (s_cs_calls (by first | omega | (simp; omega)) (by first | omega | (simp; omega))) ?_
  rintro e w17 ⟨rfl, hE17⟩
  refine ⟨_, rfl, ?_⟩
  have Q17 := hE17.size
  replace hV := Z0 hV hE17
  replace hc := hc0.now hV
  replace hmb5 := hmb5.evo0 hE17
  replace B15 := B15.evo0 hE17
  refine Zo rfl (mvU rfl) ?_
  refine Zo rfl (run_extract (v := S _) rfl rfl rfl) ?_
  refine Zo rfl (run_extract (v := .bool _) rfl rfl rfl) ?_
  refine Zo rfl (asT rfl) ?_
  refine Zn rfl (asB rfl) ?_
  refine r_seq ?_
  have hcl := cut_len (lowS p) ((if q = [] then ([] : List Ende) else endsL c q).getD k default).strip; have hlw := lowS_len p
  refine r_region ?_
  refine Zo rfl (run_mvb rfl rfl) ?_
  refine Zo rfl (mvB rfl) ?_
  refine r_g rfl (wantT rfl) rfl (fun hg => run_mv (v := S _) rfl rfl) ?_
  refine r_g rfl (wantT rfl) rfl (fun hg => run_fa rfl rfl fo_112_1) ?_
  refine r_g rfl (wantT rfl) rfl (fun hg => run_ld1 rfl ag_9 (glv rfl (fun h => h) hg) (B15.at.cell 1 rfl)) ?_
  refine r_g rfl (wantT rfl) rfl (fun hg => run_sadd rfl (glv rfl (fun h => h) hg) (glv rfl (fun h => h) hg) (by first | omega | (simp; done) | (simp; omega))) ?_
  refine r_g rfl (wantT rfl) rfl (fun hg => run_sneq rfl (glv rfl (fun h => h) hg) rfl) ?_
  refine Zn rfl (run_pick_and rfl rfl (fun hq => glv rfl (fun h => h) hq) rfl) ?_
  refine r_cond rfl (fun hc18 => ?_) (fun hc18 => ?_)
  ·skip
   refine r_region ?_
   refine Zo rfl (mvM rfl) ?_
   refine Zo rfl (mvT rfl) ?_
   refine Zo rfl (run_fa rfl rfl fo_112_1) ?_
   refine Zo rfl (run_ld1 rfl ag_9 rfl (B15.at.cell 1 rfl)) ?_
   refine Zo rfl (run_sadd rfl rfl rfl (by first | omega | (simp; done) | (simp; omega))) ?_
   refine Zo rfl (run_bld (pv := []) (zs := []) (cells := []) rfl ty_172 rfl pl_172 rfl rfl) ?_
   refine r_mapset (a := _) (v := ()) (key_str Tryz.underlying9) Tryz.underlying171 (by exact rfl) (by exact rfl) (by exact rfl) hmb5 ?_
   intro w19 E19 V19 hm_new
   have Q19 := E19.size
   replace hV := Z1 hV E19 (by first | exact .inl (by omega) | exact .inr (by simp))
   replace hc := hc0.now hV
   replace hmb5 := hm_new
   clear hm_new
   refine r_nil ?_
   refine r_blk ?_
   refine r_region ?_
   refine Zo rfl (run_add rfl rfl rfl (by omega) (by omega)) ?_
   refine Zn rfl (mvI rfl) ?_
   refine r_again (k + 1) ?_ ?_ ?_
   ·first | omega | (dsimp only; omega)
   ·refine ⟨_, (by first | exact rfl | exact congrArg (Value.int _) (by omega) | exact congrArg (Value.int _) (by dsimp only; omega) | exact congrArg (Value.int _) (by simp) | exact congrArg S (by simp)), (by first | assumption | omega | (dsimp only; omega) | (simp; done)), hmb5, (by first | exact cut_yes hks (by omega) hc18 | exact cut_no hks (by omega) hc18), (by first | assumption | omega | (dsimp only; omega) | (simp; done)), hV⟩
   repeat (first | (with_reducible exact Agree.merge _ _ _) | (with_reducible exact Agree.refl _ _) | (with_reducible refine Agree.upd ?_ _ _ rfl) | ((with_reducible refine Agree.inner ?_ ?_); (kernel_rfl)))
  refine r_skip ?_
  refine r_blk ?_
  refine r_region ?_
  refine Zo rfl (run_add rfl rfl rfl (by omega) (by omega)) ?_
  refine Zn rfl (mvI rfl) ?_
  refine r_again (k + 1) ?_ ?_ ?_
  ·first | omega | (dsimp only; omega)
  ·refine ⟨_, (by first | exact rfl | exact congrArg (Value.int _) (by omega) | exact congrArg (Value.int _) (by dsimp only; omega) | exact congrArg (Value.int _) (by simp) | exact congrArg S (by simp)), (by first | assumption | omega | (dsimp only; omega) | (simp; done)), hmb5, (by first | exact cut_yes hks (by omega) hc18 | exact cut_no hks (by omega) hc18), (by first | assumption | omega | (dsimp only; omega) | (simp; done)), hV⟩
  repeat (first | (with_reducible exact Agree.merge _ _ _) | (with_reducible exact Agree.refl _ _) | (with_reducible refine Agree.upd ?_ _ _ rfl) | ((with_reducible refine Agree.inner ?_ ?_); (kernel_rfl)))
 refine r_exit rfl ?_
 refine Zs ?_
 refine Zo rfl (mvM rfl) ?_
 refine r_opcall rfl rfl rfl (run_callf (vs := [.map _]) rfl (by exact rfl) Tryz.func227 rfl (by kernel_rfl)) (sorted_calls hmb5 (key_len hks (fun k => ends_ifbd hbe k) (by rw [lowS_len]; omega)) (by have h9 := key_cnt hks (foldF_sorted _ _ _ _); have h8 := foldF_len (fun _ => true) (lowS p) fwd ((if q = [] then ([] : List Ende) else endsL c q).take k); have h7 : ((if q = [] then ([] : List Ende) else endsL c q).take k).length ≤ (if q = [] then ([] : List Ende) else endsL c q).length := List.length_take_le' _ _; have h6 := ends_iflen hen; omega)) ?_
 rintro e w20 ⟨vs20, rfl, hE20, hsr20⟩
 refine ⟨_, rfl, ?_⟩
 have Q20 := hE20.size
 replace hV := Z0 hV hE20
 replace hc := hc0.now hV
 replace hmb5 := hmb5.evo0 hE20
 refine Zn rfl (run_asg (v := vs20) rfl rfl) ?_
 refine r_ret (res1 (v := vs20) rfl rfl) ?_
 have e9 : sortS (m.map (·.1)) = formsC c p q := by rw [hks.sorted (foldF_sorted _ _ _ _), forms_if (by assumption), List.take_of_length_le (by omega)]
 exact ⟨_, rfl, hV, by have h9 := hsr20; rw [e9] at h9; exact h9.base_le (by omega)⟩
theorem set_step {m : List (Str × Unit)} {l : List Str} {k : Nat} (hk : k < l.length) (h : ∀ s, (getM m s).isSome = true ↔ s ∈ l.take k) (s : Str) : (getM (setM m (l.getD k default) ()) s).isSome = true ↔ s ∈ l.take (k + 1) := by
  rw [take_succD l k hk, List.mem_append, List.mem_singleton, getM_setM]
  by_cases e : s = l.getD k default
  · simp [e]
  · rw [if_neg (by first | exact e | exact fun q => e q.symm), h s]
    exact ⟨.inl, fun q => q.elim id (fun q => absurd q e)⟩
theorem set_calls {ao : Option Addr} {b off cap : Nat} {l : List Str} {w0 : World} (hl : RowE w0 ao b off cap l) :
    Calls Tryz.prog 190 #[.slice ao l.length cap] w0 fun e w' => ∃ bm, e = .returned (.map (some bm)) ∧ Evo w0 w' [] ∧ SetIs w' bm l ∧ w0.heap.size ≤ bm := by
 refine calls_enter (n := 18) Tryz.func190 rfl Tryz.ntmps190 rfl ?_
 have hV : Evo w0 w0 [] := Evo.refl _ _
 have hl0 := keepE hl
 have hbd_hl := hl.bd
 refine Zs ?_
 refine Zn rfl (asM rfl) ?_
 refine Zs ?_
 refine r_makeMap (α := Str) (β := Unit) S eU rfl ?_
 intro b1 w2 J1 E2 hmb1 Y1
 have Q2 := E2.size
 replace hV := Z0 hV E2
 replace hl := hl0 _ hV
 refine Zn rfl (asM rfl) ?_
 refine r_seq ?_
 refine Zs ?_
 refine Zo rfl (mvS rfl) ?_
 refine Zo rfl (run_lenSl rfl rfl Tryz.underlying77) ?_
 refine Zn rfl (mvI rfl) ?_
 refine r_block ?_
 refine r_loop (α := Nat) [5, 9, 10, 11, 12, 13, 14, 15, 16] (fun k g w => ∃ m : List (Str × Unit), g 9 = .int .i64 (k : Nat) ∧ k ≤ l.length ∧ MapIs w b1 S eU m ∧ (∀ s, (getM m s).isSome = true ↔ s ∈ l.take k) ∧ w2.heap.size ≤ w.heap.size ∧ Evo w0 w []) (fun k => l.length - k) 0 ?_ ?_
 ·refine ⟨_, (by first | exact rfl | exact congrArg (Value.int _) (by omega) | exact congrArg (Value.int _) (by dsimp only; omega) | exact congrArg (Value.int _) (by simp) | exact congrArg S (by simp)), (by first | assumption | omega | (dsimp only; omega) | (simp; done)), hmb1, (fun s => by simp [getM]), (by first | assumption | omega | (dsimp only; omega) | (simp; done)), hV⟩
 rintro k g w4 ⟨m, hj5, hk_k, hmb1, hms, hzl3, hV⟩
 have hs_w4hV := hV.size
 have hlt6 := hmb1.lt
 replace hl := hl0 _ hV
 refine Zk 9 (v := .int .i64 (k : Nat)) (by exact hj5) ?_
 refine Zs ?_
 refine Zn rfl (run_lss rfl rfl rfl) ?_
 refine r_seq ?_
 refine r_cond rfl (fun hc7 => ?_) (fun hc7 => ?_)
 ·skip
  refine r_skip ?_
  refine r_seq ?_
  refine r_block ?_
  refine Zs ?_
  refine Zo rfl (run_ix (k) rfl Tryz.underlying77 ty_9 rfl rfl (by first | exact rfl | omega) (by omega) (hl.addr (i := k) (by omega))) ?_
  have hA80 := fun (w' : World) (h : Evo w0 w' []) => (hl0 w' h).atD (k) (by omega)
  have hA8 := hA80 _ hV
  refine Zo rfl (run_ld1 rfl ag_9 rfl (hA8.cell 0 rfl)) ?_
  refine Zn rfl (asT rfl) ?_
  refine r_region ?_
  refine Zo rfl (mvM rfl) ?_
  refine Zo rfl (mvT rfl) ?_
  refine Zo rfl (run_bld (pv := []) (zs := []) (cells := []) rfl ty_172 rfl pl_172 rfl rfl) ?_
  refine r_mapset (a := _) (v := ()) (key_str Tryz.underlying9) Tryz.underlying171 (by exact rfl) (by exact rfl) (by exact rfl) hmb1 ?_
  intro w9 E9 V9 hm_new
  have Q9 := E9.size
  replace hV := Z1 hV E9 (by first | exact .inl (by omega) | exact .inr (by simp))
  replace hl := hl0 _ hV
  replace hmb1 := hm_new
  clear hm_new
  refine r_nil ?_
  refine r_blk ?_
  refine r_region ?_
  refine Zo rfl (run_add rfl rfl rfl (by omega) (by omega)) ?_
  refine Zn rfl (mvI rfl) ?_
  refine r_again (k + 1) ?_ ?_ ?_
  ·first | omega | (dsimp only; omega)
  ·refine ⟨_, (by first | exact rfl | exact congrArg (Value.int _) (by omega) | exact congrArg (Value.int _) (by dsimp only; omega) | exact congrArg (Value.int _) (by simp) | exact congrArg S (by simp)), (by first | assumption | omega | (dsimp only; omega) | (simp; done)), hmb1, (set_step (by omega) hms), (by first | assumption | omega | (dsimp only; omega) | (simp; done)), hV⟩
  repeat (first | (with_reducible exact Agree.merge _ _ _) | (with_reducible exact Agree.refl _ _) | (with_reducible refine Agree.upd ?_ _ _ rfl) | ((with_reducible refine Agree.inner ?_ ?_); (kernel_rfl)))
 refine r_exit rfl ?_
 refine Zs ?_
 refine Zo rfl (mvM rfl) ?_
 refine Zn rfl (asM rfl) ?_
 refine r_ret (res1 (v := .map _) rfl rfl) ?_
 exact ⟨_, rfl, hV, ⟨m, hmb1, fun s => by rw [hms s, List.take_of_length_le (by omega)]⟩, by omega⟩
theorem ag_83 : aggP Tryz.prog 83 = some false := by kernel_rfl
theorem ag_88 : aggP Tryz.prog 88 = some true := by kernel_rfl
theorem fo_85_0 : fieldP Tryz.prog 85 0 = some 0 := by kernel_rfl
theorem ty_88 : tyP Tryz.prog 88 = some (2, 32, some (.agg #[(.string ⟨#[]⟩), (.string ⟨#[]⟩)])) := by kernel_rfl
def formsT (c : List Clas) (ws : List Ende) : List (List Str) := ws.map (fun y => formsC c y.strip y.add)
theorem formsT_succ {c : List Clas} {ws : List Ende} {k : Nat} (hk : k < ws.length) : formsT c (ws.take (k + 1)) = formsT c (ws.take k) ++ [formsC c (ws.getD k default).strip (ws.getD k default).add] := by
  unfold formsT; rw [take_succD ws k hk, List.map_append]; rfl
theorem formsT_len (c : List Clas) (ws : List Ende) : (formsT c ws).length = ws.length := by unfold formsT; rw [List.length_map]
theorem ende_getD {ws : List Ende} (h : ∀ y ∈ ws, BdE y) (k : Nat) : BdE (ws.getD k default) := by
  rcases Nat.lt_or_ge k ws.length with h1 | h1
  · exact h _ (getD_in h1)
  · rw [List.getD_eq_getElem?_getD, List.getElem?_eq_none h1]; exact ⟨Nat.zero_le _, Nat.zero_le _⟩
end Go.Proofs.YtlfjocbnbceceaaGreatDoor
namespace Go.Proofs.YtlfjocbnbceceaaGreatDoor
open Go Go.RowKit Go.Vc
structure Spt where
  t : Int
  fr : Int
  to : Int
deriving DecidableEq, Inhabited
instance : Enc Spt := ⟨3, fun x => [.int .i64 x.t, .int .i64 x.fr, .int .i64 x.to], fun _ => rfl, fun _ => rfl, by decide⟩
section
variable (l : List Vc.Item)
theorem chainFG : ∀ (ss : List (List Str)) (i e : Int), i < l.length → (i < 0 ∨ isW (l.getD i.toNat default)) → chainF l i e ss = chainG l i e ss
  | [], _, _, _, _ => rfl
  | s :: r, i, e, hl, h => by
    by_cases h0 : i < 0
    · rw [chain_neg h0, chainG_no (.inl (.inl h0))]
    · have hw : isW (l.getD i.toNat default) := h.resolve_left h0
      by_cases h2 : lowS (l.getD i.toNat default).text ∈ s
      · rw [chain_go h0 h2, chainG_go (by rintro ((q | q) | q); exact h0 q; exact q hw; exact q h2)]
        rcases nextT_bd (l := l) (i := i.toNat) (by omega) with h3 | ⟨h3, h4, h5⟩
        · exact chainFG r _ _ (by omega) (.inl (by omega))
        · exact chainFG r _ _ h4 (.inr h5)
      · rw [chain_no h0 h2, chainG_no (.inr h2)]
theorem chainG_bd : ∀ (ss : List (List Str)) (i e : Int), i < l.length → chainG l i e ss = -1 ∨ chainG l i e ss = e ∨ (i + 1 ≤ chainG l i e ss ∧ chainG l i e ss ≤ l.length)
  | [], _, _, _ => .inr (.inl rfl)
  | s :: r, i, e, hl => by
    by_cases h : (i < 0 ∨ ¬ isW (l.getD i.toNat default)) ∨ ¬ lowS (l.getD i.toNat default).text ∈ s
    · exact .inl (chainG_no h)
    · rw [chainG_go h]
      have h0 : ¬ i < 0 := fun q => h (.inl (.inl q))
      rcases nextT_bd (l := l) (i := i.toNat) (by omega) with h3 | ⟨h3, h4, h5⟩
      · rcases chainG_bd r (nextT l i.toNat) (i + 1) (by omega) with h6 | h6 | ⟨h6, h7⟩
        · exact .inl h6
        · exact .inr (.inr ⟨by omega, by omega⟩)
        · cases r with
          | nil => exact .inr (.inr ⟨by show i + 1 ≤ i + 1; omega, by show i + 1 ≤ _; omega⟩)
          | cons s2 r2 => exact .inl (chainG_no (.inl (.inl (by omega))))
      · rcases chainG_bd r (nextT l i.toNat) (i + 1) h4 with h6 | h6 | ⟨h6, h7⟩
        · exact .inl h6
        · exact .inr (.inr ⟨by omega, by omega⟩)
        · exact .inr (.inr ⟨by omega, h7⟩)
def cT (i : Nat) (ss : List (List Str)) : Int := chainG l i (-1) ss
theorem cT_no {i : Nat} (h : ¬ isW (l.getD i default)) (ss : List (List Str)) : cT l i ss = -1 := by
  unfold cT
  cases ss with
  | nil => rfl
  | cons s r => exact chainG_no (.inl (.inr (by simpa using h)))
theorem cT_bd {i : Nat} (hi : i < l.length) (ss : List (List Str)) : cT l i ss = -1 ∨ ((i : Int) + 1 ≤ cT l i ss ∧ cT l i ss ≤ l.length) := by
  rcases chainG_bd l ss i (-1) (by omega) with h | h | h
  · exact .inl h
  · exact .inl h
  · exact .inr h
variable (fs : List (List (List Str)))
def longer (o : Option (Nat × Int)) (k : Nat) : Bool := o.all fun q => decide ((fs.getD q.1 default).length < (fs.getD k default).length)
def bestK (i : Nat) : Nat → Option (Nat × Int)
  | 0 => none
  | k + 1 => if 0 ≤ cT l i (fs.getD k default) ∧ longer fs (bestK i k) k = true then some (k, cT l i (fs.getD k default)) else bestK i k
theorem best_yes {i k : Nat} (h : 0 ≤ cT l i (fs.getD k default) ∧ longer fs (bestK l fs i k) k = true) : bestK l fs i (k + 1) = some (k, cT l i (fs.getD k default)) := if_pos h
theorem best_no {i k : Nat} (h : ¬ (0 ≤ cT l i (fs.getD k default) ∧ longer fs (bestK l fs i k) k = true)) : bestK l fs i (k + 1) = bestK l fs i k := if_neg h
theorem best_none {i : Nat} (h : ¬ isW (l.getD i default)) : ∀ k, bestK l fs i k = none
  | 0 => rfl
  | k + 1 => by rw [best_no l fs (by rw [cT_no l h]; omega)]; exact best_none h k
theorem best_bd {i : Nat} (hi : i < l.length) : ∀ (k : Nat) (q : Nat × Int), bestK l fs i k = some q → q.1 < k ∧ (i : Int) + 1 ≤ q.2 ∧ q.2 ≤ l.length ∧ q.2 = cT l i (fs.getD q.1 default)
  | 0, q, h => by cases h
  | k + 1, q, h => by
    by_cases h1 : 0 ≤ cT l i (fs.getD k default) ∧ longer fs (bestK l fs i k) k = true
    · rw [best_yes l fs h1] at h
      cases h
      rcases cT_bd l hi (fs.getD k default) with h2 | h2
      · omega
      · exact ⟨Nat.lt_succ_self _, h2.1, h2.2, rfl⟩
    · rw [best_no l fs h1] at h
      have := best_bd hi k q h
      exact ⟨by omega, this.2⟩
def bestI (o : Option (Nat × Int)) : Int × Int := match o with | none => (-1, -1) | some q => ((q.1 : Int), q.2)
def bestF (i : Nat) (o : Option (Nat × Int)) : Int := match o with | none => 0 | some _ => (i : Int)
def bestE (o : Option (Nat × Int)) : Int := match o with | none => 0 | some q => q.2
theorem longer_iff (o : Option (Nat × Int)) (k : Nat) : longer fs o k = true ↔ ((bestI o).1 < 0 ∨ (fs.getD (bestI o).1.toNat default).length < (fs.getD k default).length) := by
  cases o with
  | none => simp [longer, bestI]
  | some q =>
    have h : ¬ ((q.1 : Nat) : Int) < 0 := by omega
    simp only [longer, bestI, Option.all_some, decide_eq_true_eq, h, false_or, Int.toNat_natCast]
def spotsG : Nat → Nat → List Spt
  | 0, _ => []
  | n + 1, i => match bestK l fs i fs.length with
    | none => spotsG n (i + 1)
    | some q => ⟨(q.1 : Int), i, q.2⟩ :: spotsG n q.2.toNat
def spotsF (i : Nat) : List Spt := spotsG l fs (l.length - i) i
theorem spotsG_out : ∀ (n i : Nat), l.length ≤ i → spotsG l fs n i = []
  | 0, _, _ => rfl
  | n + 1, i, h => by
    have hb := best_none l fs (i := i) (by rw [List.getD_eq_getElem?_getD, List.getElem?_eq_none h]; decide) fs.length
    unfold spotsG
    rw [hb]
    exact spotsG_out n (i + 1) (by omega)
theorem spotsG_more : ∀ (n m i : Nat), l.length - i ≤ n → l.length - i ≤ m → spotsG l fs n i = spotsG l fs m i
  | 0, m, i, h1, h2 => by rw [spotsG_out l fs 0 i (by omega), spotsG_out l fs m i (by omega)]
  | n + 1, 0, i, h1, h2 => by rw [spotsG_out l fs _ i (by omega), spotsG_out l fs _ i (by omega)]
  | n + 1, m + 1, i, h1, h2 => by
    rcases Nat.lt_or_ge i l.length with hi | hi
    · unfold spotsG
      cases hb : bestK l fs i fs.length with
      | none => exact spotsG_more n m (i + 1) (by omega) (by omega)
      | some q =>
        have h3 := best_bd l fs hi _ _ hb
        exact congrArg _ (spotsG_more n m q.2.toNat (by omega) (by omega))
    · rw [spotsG_out l fs _ i hi, spotsG_out l fs _ i hi]
theorem spots_none {i : Nat} (hi : i < l.length) (h : bestK l fs i fs.length = none) : spotsF l fs i = spotsF l fs (i + 1) := by
  unfold spotsF
  obtain ⟨n, hn⟩ : ∃ n, l.length - i = n + 1 := ⟨l.length - i - 1, by omega⟩
  rw [hn]
  conv => lhs; unfold spotsG
  rw [h]
  exact spotsG_more l fs _ _ _ (by omega) (by omega)
theorem spots_some {i : Nat} (hi : i < l.length) {q : Nat × Int} (h : bestK l fs i fs.length = some q) : spotsF l fs i = ⟨(q.1 : Int), i, q.2⟩ :: spotsF l fs q.2.toNat := by
  have h3 := best_bd l fs hi _ _ h
  unfold spotsF
  obtain ⟨n, hn⟩ : ∃ n, l.length - i = n + 1 := ⟨l.length - i - 1, by omega⟩
  rw [hn]
  conv => lhs; unfold spotsG
  rw [h]
  exact congrArg _ (spotsG_more l fs _ _ _ (by omega) (by omega))
theorem spots_end {i : Nat} (h : l.length ≤ i) : spotsF l fs i = [] := spotsG_out l fs _ i h
end
theorem bestI_none {o : Option (Nat × Int)} (h : (bestI o).1 < 0) : o = none := by
  cases o with
  | none => rfl
  | some q => exact absurd h (by show ¬ ((q.1 : Nat) : Int) < 0; omega)
theorem ag_85 : aggP Tryz.prog 85 = some true := by kernel_rfl
theorem pl_187 : placesP Tryz.prog 187 = some [(0, 1), (1, 1), (2, 1)] := by kernel_rfl
theorem ty_187 : tyP Tryz.prog 187 = some (3, 24, some (.agg #[(.int .i64 0), (.int .i64 0), (.int .i64 0)])) := by kernel_rfl
theorem ty_85 : tyP Tryz.prog 85 = some (3, 72, some (.agg #[(.slice none 0 0), (.slice none 0 0), (.slice none 0 0)])) := by kernel_rfl
def fsT (c : List Clas) (ts : List TermL) : List (List (List Str)) := ts.map (fun t => formsT c t.words)
theorem fsT_len (c : List Clas) (ts : List TermL) : (fsT c ts).length = ts.length := by unfold fsT; rw [List.length_map]
theorem fsT_get {c : List Clas} {ts : List TermL} {k : Nat} (h : k < ts.length) : (fsT c ts).getD k default = formsT c (ts.getD k default).words := by
  unfold fsT; simp [List.getD, h]
theorem fsT_glen {c : List Clas} {ts : List TermL} {k : Nat} (h : k < ts.length) : ((fsT c ts).getD k default).length = (ts.getD k default).words.length := by rw [fsT_get h, formsT_len]
theorem termD_bd {ts : List TermL} (h : ∀ x ∈ ts, x.words.length ≤ 4398046510976 ∧ ∀ y ∈ x.words, BdE y) (k : Nat) : (ts.getD k default).words.length ≤ 4398046510976 ∧ ∀ y ∈ (ts.getD k default).words, BdE y := by
  rcases Nat.lt_or_ge k ts.length with h1 | h1
  · exact h _ (getD_in h1)
  · rw [List.getD_eq_getElem?_getD, List.getElem?_eq_none h1]; exact ⟨Nat.zero_le _, fun y hy => by cases hy⟩
theorem bestI_lt {l : List Vc.Item} {fs : List (List (List Str))} {i k n : Nat} (hi : i < l.length) (hk : k ≤ n) (hn : 0 < n) : (bestI (bestK l fs i k)).1.toNat < n := by
  cases h : bestK l fs i k with
  | none => exact hn
  | some q => have := (best_bd l fs hi k q h).1; show ((q.1 : Nat) : Int).toNat < n; omega
theorem bestI_bd {l : List Vc.Item} {fs : List (List (List Str))} {i k : Nat} (hi : i < l.length) : -1 ≤ (bestI (bestK l fs i k)).1 ∧ (bestI (bestK l fs i k)).1 < (k : Int) + 0 ∨ (bestI (bestK l fs i k)).1 = -1 := by
  cases h : bestK l fs i k with
  | none => exact .inr rfl
  | some q => have := (best_bd l fs hi k q h).1; exact .inl ⟨by show -1 ≤ ((q.1 : Nat) : Int); omega, by show ((q.1 : Nat) : Int) < _; omega⟩
end Go.Proofs.YtlfjocbnbceceaaGreatDoor
namespace Go.Vc
open Go Go.RowKit Go.IntWalk
def FRow (w : World) (bt : Nat) (v : Value) (l : List (List Str)) : Prop := ∀ w', Evo w w' [bt] → ∃ ao b off cap, v = .slice ao (l.map SetS.mk).length cap ∧ RowR w' ao b off cap (l.map SetS.mk)
theorem FRow.evo {w w' : World} {bt : Nat} {v : Value} {l : List (List Str)} (h : FRow w bt v l) (he : Evo w w' [bt]) : FRow w' bt v l := fun w2 h2 => h w2 (Evo.trans he h2 (fun x hx _ => hx))
theorem FRow.of {w : World} {base E bt : Nat} {v : Value} {l : List (List Str)} (h : OwnR w base E [bt] v (l.map SetS.mk)) (hb : bt < base) : FRow w bt v l := fun w' he => by
  obtain ⟨ao, g, cap, hv, hr⟩ := (h.evoY he (fun y hy => by have e : y = bt := (by simpa using hy); omega)).rowOf
  exact ⟨ao, g, 0, cap, hv, hr⟩
theorem nth_mk (l : List (List Str)) : (l.map SetS.mk).map (·.ks) = l := by rw [List.map_map]; exact List.map_id' l
section
variable {P : Program} {n : Nat} {f : Fr} {w : World}
theorem Kx_goto {B : Exit → Act → World → Prop} (hB : ∀ i a w, ¬ B (.goto i) a w) {i : Nat} {a : Act} {w : World} : ∀ k : List Kont, ¬ Kx P B k (.goto i) a w
  | [], h => hB i a w h
  | .code _ :: k, h => Kx_goto hB k h
  | .blk _ :: k, h => Kx_goto hB k h
  | .stop _ :: k, h => Kx_goto hB k h
theorem r_scope {fn : Func} {R : Ending → World → Prop} {c : Code} {k : List Kont} (h : KF P (bodyPost P fn R) n (.code c :: k) f w) : KF P (bodyPost P fn R) n (.code (.scope c) :: k) f w := by
  intro a ha
  show (Code.scope c).wp P (Kx P (bodyPost P fn R) k) a w
  refine wp_scope_straight (wp_mono (h a ha) fun e a w hq => ?_)
  cases e with
  | goto i => exact (Kx_goto (P := P) (fun _ _ _ h => h) k hq).elim
  | normal => exact hq
  | exit i => exact hq
  | ret => exact hq
  | panic c => exact hq
  | outgrown => exact hq
theorem r_label {B : Exit → Act → World → Prop} {l : Nat} {k : List Kont} (h : KF P B n k f w) : KF P B n (.code (.label l) :: k) f w := fun a ha => wp_label (h a ha)
end
theorem rowLitRK {α : Type} [Rep α] {w : World} {b : Nat} {T : TypeId} {cs : List Value} {x : α} (E : List Nat) (h : Blk w b T cs) (hb : b ∉ E) (hr : ∀ w', Evo w w' E → Rep.rep w' cs x) : RowRK w E (some ⟨b, 0, none⟩) b 0 1 [x] := by
  refine ⟨[cs], fun w' he => ⟨⟨by simp, fun _ => rfl, fun i c hi => ?_⟩, RepL.one (hr w' he)⟩⟩
  cases i with
  | zero =>
    simp at hi; subst hi
    refine ⟨Rep.len (hr w' he), ?_⟩
    have := (h.evo he hb).at
    simpa using this
  | succ i => simp at hi
section
variable {P : Program} {B : Exit → Act → World → Prop} {n : Nat} {k : List Kont} {f : Fr} {w : World} {ops : Array Oper} {rest : List Oper}
theorem r_makeB {T E d m bb len : Nat} {t : TypeId} {pos : String} {aft : Array Edge} {x y : Operand} {z : Value} {zs : List Value} {κ κ' : IntKind} {i j : Int}
    (hu : P.underlying T = some (.slice E)) (ht : tyP P E = some (m, bb, some z)) (hz : z.cells = zs.toArray) (hm : (Nat.beq zs.length m && Nat.ble 1 m) = true) (hd : Nat.blt d n = true)
    (hx : opv f x = .int κ i) (hy : opv f y = .int κ' j) (hi : i = (len : Int)) (hj : j = (len : Int)) (hlen : len ≤ 140737488355328) (hb : bb * len ≤ 281474976710656)
    (h : ∀ b w', b = w.heap.size → Evo w w' [] → FB w' b E m len (fun _ => zs) → w'.heap.size = b + 1 → KL P B n ops k rest (upd f d (.slice (some ⟨b, 0, none⟩) len len)) w') :
    KL P B n ops k (⟨some d, .makeSlice T x y, t, pos, aft, none⟩ :: rest) f w := by
  simp only [Bool.and_eq_true, Nat.ble_eq] at hm
  have hzl := Nat.eq_of_beq_eq_true hm.1
  obtain ⟨it, hit, h1, h2, h3⟩ := info_of ht
  have hll : len ≤ len * m := Nat.le_mul_of_pos_right len (by omega)
  have hbb : (bb : Int) * (len : Int) = ((bb * len : Nat) : Int) := by simp
  have hrun := run_make (P := P) w T E it z hu hit h3 κ κ' (len : Int) (len : Int) (by omega) (Int.le_refl _) (by rw [h2, hbb]; omega) (by omega)
  simp only [Int.toNat_natCast, h1] at hrun
  rw [madeCells_flat hz hzl (by omega) len] at hrun
  refine r_op (v := .slice (some ⟨w.heap.size, 0, none⟩) len len) (w' := w.alloc (.cells (flat len (fun _ => zs)).toArray E)) rfl rfl hd ?_ (h _ _ rfl (Evo.alloc _ _ _) ⟨heap_alloc_new w _, fun _ => hzl⟩ (by simp))
  subst hi
  subst hj
  simp [execOp, hx, hy, hrun]
end
end Go.Vc
namespace Go.Proofs.YtlfjocbnbceceaaGreatDoor
open Go.RowKit Go.Vc
theorem ag_187 : aggP Tryz.prog 187 = some true := by kernel_rfl
theorem ag_200 : aggP Tryz.prog 200 = some false := by kernel_rfl
theorem fo_187_0 : fieldP Tryz.prog 187 0 = some 0 := by kernel_rfl
theorem fo_187_2 : fieldP Tryz.prog 187 2 = some 2 := by kernel_rfl
theorem ty_200 : tyP Tryz.prog 200 = some (1, 24, some (.slice none 0 0)) := by kernel_rfl
theorem ps_cond {l : List Vc.Item} {c : List Clas} {ts : List TermL} {i k : Nat} (hi : i < l.length) (hk : k < ts.length) {e : Int} (he : e = cT l i ((fsT c ts).getD k default)) : (0 ≤ e ∧ ((bestI (bestK l (fsT c ts) i k)).1 < 0 ∨ (((ts.getD (bestI (bestK l (fsT c ts) i k)).1.toNat default).words.length : Nat) : Int) < ((((formsT c (ts.getD k default).words).map SetS.mk).length : Nat) : Int))) ↔ (0 ≤ cT l i ((fsT c ts).getD k default) ∧ longer (fsT c ts) (bestK l (fsT c ts) i k) k = true) := by
  have hb := bestI_lt (l := l) (fs := fsT c ts) (i := i) (k := k) (n := ts.length) hi (by omega) (by omega)
  rw [longer_iff, fsT_glen hb, fsT_glen hk, List.length_map, formsT_len, he]
  omega
theorem set_one (w : World) (cs : List Value) (x : SetS) (h : Rep.rep w cs x) : oneCells cs = true := by obtain ⟨b, rfl, _⟩ := h; rfl
section
variable {l : List Vc.Item} {fs : List (List (List Str))} {i to9 : Nat}
theorem spots_skip (hi : i < l.length) (h : (i : Int) < (to9 : Int) ∨ ¬ isW (l.getD i default)) : spotsF l fs (max i to9) = spotsF l fs (max (i + 1) to9) := by
  by_cases h1 : i < to9
  · rw [show max i to9 = max (i + 1) to9 by omega]
  · have h2 : ¬ isW (l.getD i default) := h.resolve_left (by omega)
    rw [show max i to9 = i by omega, show max (i + 1) to9 = i + 1 by omega]
    exact spots_none l fs hi (best_none l fs h2 _)
theorem spots_nob (hi : i < l.length) (h : ¬ ((i : Int) < (to9 : Int) ∨ ¬ isW (l.getD i default))) (hb : bestK l fs i fs.length = none) : spotsF l fs (max i to9) = spotsF l fs (max (i + 1) to9) := by
  have h1 : ¬ (i : Int) < (to9 : Int) := fun q => h (.inl q)
  rw [show max i to9 = i by omega, show max (i + 1) to9 = i + 1 by omega]
  exact spots_none l fs hi hb
theorem spots_yes (hi : i < l.length) (h : ¬ ((i : Int) < (to9 : Int) ∨ ¬ isW (l.getD i default))) {q : Nat × Int} (hb : bestK l fs i fs.length = some q) : spotsF l fs (max i to9) = ⟨(q.1 : Int), (i : Int), q.2⟩ :: spotsF l fs (max (i + 1) q.2.toNat) := by
  have h1 : ¬ (i : Int) < (to9 : Int) := fun q => h (.inl q)
  have h3 := best_bd l fs hi _ _ hb
  rw [show max i to9 = i by omega, show max (i + 1) q.2.toNat = q.2.toNat by omega]
  exact spots_some l fs hi hb
theorem bestC_some {o : Option (Nat × Int)} (h : ¬ (bestI o).1 < 0) : ∃ q, o = some q ∧ (bestI o).1 = (q.1 : Int) ∧ bestF i o = (i : Int) ∧ bestE o = q.2 := by
  cases o with
  | none => exact absurd (show (-1 : Int) < 0 by decide) h
  | some q => exact ⟨q, rfl, rfl, rfl, rfl⟩
end
set_option maxHeartbeats 1000000 in
theorem spots_calls {aot : Option Addr} {btt offt capt : Nat} {ts : List TermL} {ao : Option Addr} {b off cap : Nat} {c : List Clas} {aol : Option Addr} {bl offl capl : Nat} {l : List Vc.Item} {w0 : World} (ht : RowR w0 aot btt offt capt ts) (hc : RowR w0 ao b off cap c) (hl : RowE w0 aol bl offl capl l) (hq : ∀ x ∈ l, x.text.length ≤ 140737488355328) (hzl : l.length ≤ 4398046510976) (hzt : ts.length ≤ 1954687338760) :
    Calls Tryz.prog 187 #[.slice aot ts.length capt, .slice ao c.length cap, .slice aol l.length capl] w0 fun e w' => ∃ v, e = .returned v ∧ Evo w0 w' [] ∧ OwnE w' w0.heap.size 187 v (spotsF l (fsT c ts) 0) := by
 have hcb := clas_bd hc; have htb := term_bd ht
 refine calls_enter (n := 114) Tryz.func187 rfl Tryz.ntmps187 rfl ?_
 have hV : Evo w0 w0 [] := Evo.refl _ _
 have ht0 := ht.keep
 have hbd_ht := ht.bd
 have hc0 := hc.keep
 have hbd_hc := hc.bd
 have hl0 := keepE hl
 have hbd_hl := hl.bd
 refine Zs ?_
 refine Zn rfl (asS rfl) ?_
 refine r_scope ?_
 refine Zs ?_
 refine Zo rfl (mvS rfl) ?_
 refine Zo rfl (run_lenSl rfl rfl Tryz.underlying25) ?_
 refine r_makeB (len := ts.length) (zs := [_]) Tryz.underlying213 ty_200 rfl rfl rfl rfl rfl (by omega) (by omega) (by omega) (by omega) ?_
 intro bt w1 hebt E1 hout hzbt
 have Q1 := E1.size
 replace hV := Z0 hV E1
 replace ht := ht0.now hV
 replace hc := hc0.now hV
 replace hl := hl0 _ hV
 refine Zn rfl (run_asg (v := .slice (some ⟨bt, 0, none⟩) _ _) rfl rfl) ?_
 refine r_seq ?_
 refine Zs ?_
 refine Zo rfl (mvS rfl) ?_
 refine Zo rfl (run_lenSl rfl rfl Tryz.underlying25) ?_
 refine Zn rfl (mvI rfl) ?_
 refine r_block ?_
 refine r_loop (α := Nat) [8, 9, 11, 24, 25, 26, 27, 28, 29, 30, 31, 32, 33, 34, 35, 36, 37, 38, 39, 40, 41, 42, 43, 44, 45, 46, 47, 48, 49, 50] (fun k g w => ∃ vs : Nat → Value, g 24 = .int .i64 (k : Nat) ∧ k ≤ ts.length ∧ FB w bt 200 1 ts.length (fun x => [vs x]) ∧ (∀ x, x < k → FRow w bt (vs x) (formsT c (ts.getD x default).words)) ∧ (∀ x, k ≤ x → vs x = .slice none 0 0) ∧ w1.heap.size ≤ w.heap.size ∧ Evo w0 w []) (fun k => ts.length - k) 0 ?_ ?_
 ·refine ⟨(fun _ => .slice none 0 0), (by first | exact rfl | exact congrArg (Value.int _) (by omega) | exact congrArg (Value.int _) (by dsimp only; omega) | exact congrArg (Value.int _) (by simp) | exact congrArg S (by simp)), (by first | assumption | omega | (dsimp only; omega) | (simp; done)), hout, (fun x hx => absurd hx (by omega)), (fun x hx => rfl), (by first | assumption | omega | (dsimp only; omega) | (simp; done)), hV⟩
 rintro k g w3 ⟨vs, hj4, hk_k, hfb, hrw, hnl, hzl2, hV⟩
 have hs_w3hV := hV.size
 have hlt5 := hfb.lt
 replace ht := ht0.now hV
 replace hc := hc0.now hV
 replace hl := hl0 _ hV
 refine Zk 24 (v := .int .i64 (k : Nat)) (by exact hj4) ?_
 refine Zs ?_
 refine Zn rfl (run_lss rfl rfl rfl) ?_
 refine r_seq ?_
 refine r_cond rfl (fun hc6 => ?_) (fun hc6 => ?_)
 ·skip
  refine r_skip ?_
  refine r_seq ?_
  refine r_block ?_
  refine r_seq ?_
  have hB : Evo w3 w3 [bt] := Evo.refl _ _
  refine r_region ?_
  refine Zo rfl (mvI rfl) ?_
  refine Zo rfl (run_ix (k) rfl Tryz.underlying25 ty_85 rfl rfl (by first | exact rfl | omega) (by omega) (ht.addr (i := k) (by omega))) ?_
  obtain ⟨aoW7, bW7, offW7, capW7, aoQ7, bQ7, offQ7, capQ7, aoF7, bF7, offF7, capF7, hX⟩ := term_atK ht0 (k) (by omega)
  have hA70 := fun (w' : World) (h : Evo w0 w' []) => (hX w' h).1
  have hA7 := hA70 _ hV
  have hW70 := fun (w' : World) (h : Evo w0 w' []) => (hX w' h).2.1
  have hW7 := hW70 _ hV
  have hQ70 := fun (w' : World) (h : Evo w0 w' []) => (hX w' h).2.2.1
  have hQ7 := hQ70 _ hV
  have hF70 := fun (w' : World) (h : Evo w0 w' []) => (hX w' h).2.2.2
  have hF7 := hF70 _ hV
  clear hX
  have hbd_hW7 := hW7.bd
  have hbd_hQ7 := hQ7.bd
  have hbd_hF7 := hF7.bd
  refine Zo rfl (run_ldN rfl ag_85 ty_85 rfl rfl hA7) ?_
  refine r_alloc (zs := [_, _, _]) ty_85 rfl rfl ?_
  intro b8 w9 J8 E9 B8 Y8
  have Q9 := E9.size
  replace hV := Z0 hV E9
  replace hB := Z0 hB E9
  replace hfb := hfb.evo0 E9
  replace hA7 := hA70 _ hV
  refine Zo rfl (asI rfl) ?_
  refine r_store (v := .agg _) (vs := [_, _, _]) (cs' := [_, _, _]) rfl rfl B8 ty_85 rfl rfl rfl rfl rfl ?_
  intro w10 E10 V10 hb_new
  have Q10 := E10.size
  replace hV := Z1 hV E10 (by first | exact .inl (by omega) | exact .inr (by simp))
  replace hB := Z1 hB E10 (by first | exact .inl (by omega) | exact .inr (by simp))
  replace ht := ht0.now hV
  replace hc := hc0.now hV
  replace hl := hl0 _ hV
  replace hfb := hfb.evo E10 (by simp; omega)
  replace hW7 := hW70 _ hV
  replace hQ7 := hQ70 _ hV
  replace hF7 := hF70 _ hV
  replace B8 := hb_new
  clear hb_new
  refine r_nil ?_
  refine r_seq ?_
  have htk := termD_bd htb k
  refine r_region ?_
  refine Zo rfl (run_fa rfl rfl fo_85_0) ?_
  refine Zo rfl (run_ld1 rfl ag_83 rfl (B8.at.cell 0 rfl)) ?_
  refine Zo rfl (run_lenSl rfl rfl Tryz.underlying83) ?_
  refine Zn rfl (mvI rfl) ?_
  refine r_block ?_
  refine r_loop (α := Nat) [11, 32, 33, 34, 35, 36, 37, 38, 39, 40, 41, 42, 43, 44, 45, 46, 47, 48, 49] (fun j g w => ∃ vc : Value, g 32 = .int .i64 (j : Nat) ∧ j ≤ (ts.getD k default).words.length ∧ OwnR w w10.heap.size 171 [bt] vc ((formsT c ((ts.getD k default).words.take j)).map SetS.mk) ∧ FB w bt 200 1 ts.length (fun x => if x = k then [vc] else [vs x]) ∧ w10.heap.size ≤ w.heap.size ∧ Evo w0 w [] ∧ Evo w3 w [bt]) (fun j => (ts.getD k default).words.length - j) 0 ?_ ?_
  ·refine ⟨(.slice none 0 0), (by first | exact rfl | exact congrArg (Value.int _) (by omega) | exact congrArg (Value.int _) (by dsimp only; omega) | exact congrArg (Value.int _) (by simp) | exact congrArg S (by simp)), (by first | assumption | omega | (dsimp only; omega) | (simp; done)), (OwnR.nil _ _ _ _), (hfb.congr (fun x => by by_cases e9 : x = k; (subst e9; rw [if_pos rfl, hnl x (Nat.le_refl _)]); rw [if_neg e9])), (by first | assumption | omega | (dsimp only; omega) | (simp; done)), hV, hB⟩
  rintro j g w12 ⟨vc, hj13, hk_j, hoC, hfb, hzl11, hV, hB⟩
  have hs_w12hV := hV.size
  have hs_w12hB := hB.size
  have hlt14 := hfb.lt
  replace ht := ht0.now hV
  replace hc := hc0.now hV
  replace hl := hl0 _ hV
  replace hA7 := hA70 _ hV
  replace hW7 := hW70 _ hV
  replace hQ7 := hQ70 _ hV
  replace hF7 := hF70 _ hV
  refine Zk 32 (v := .int .i64 (j : Nat)) (by exact hj13) ?_
  refine Zs ?_
  refine Zn rfl (run_lss rfl rfl rfl) ?_
  refine r_seq ?_
  refine r_cond rfl (fun hc15 => ?_) (fun hc15 => ?_)
  ·skip
   refine r_skip ?_
   refine r_seq ?_
   refine r_block ?_
   refine r_seq ?_
   have hoC_own := fun {g : Nat} (hg : vc.ownBlock = some g) => hoC.block (g := g) hg
   refine r_region ?_
   refine Zo rfl (run_ix (j) rfl Tryz.underlying83 ty_88 rfl rfl (by first | exact rfl | omega) (by omega) (hW7.addr (i := j) (by omega))) ?_
   have hA160 := fun (w' : World) (h : Evo w0 w' []) => (hW70 w' h).atD (j) (by omega)
   have hA16 := hA160 _ hV
   refine Zo rfl (run_ldN rfl ag_88 ty_88 rfl rfl hA16) ?_
   have hob17 := fun g hg => (hoC.block (g := g) hg).2
   refine r_var (zs := [_, _]) (vs := [_, _]) ty_88 rfl rfl rfl (fun _ => rfl) rfl rfl rfl rfl ?_
   intro b18 w19 J18 E19 B18 Y18
   have Q19 := E19.size
   replace hV := Z0 hV E19
   replace hB := Z0 hB E19
   replace hoC := hoC.evo0 E19
   replace hfb := hfb.evo0 E19
   refine r_nil ?_
   have hobC := fun g hg => (hoC.block (g := g) hg); have hbk := ende_getD htk.2 j; have hfl := formsT_len c ((ts.getD k default).words.take j); have hft := List.length_take_le j (ts.getD k default).words
   have hbtl := hfb.lt
   have hnb : bt ∉ vc.ownBlock.toList := fun hm => by have h9 := hobC _ (Option.mem_toList.1 hm); omega
   have hfb_q := hfb
   have hbb18_q := B18
   have hAb18_q := B18.at
   have hV_q := hV
   have hB_q := hB
   refine h_region (vc.ownBlock.toList) (by kernel_rfl) ?_
   intro w20 hE21 hC8x
   have Q20 := hE21.size
   replace hV := Z0 hV hE21
   replace hB := Z0 hB hE21
   replace hc := hc0.now hV
   replace hoC := hoC.evo0 hE21
   replace hfb := hfb.evo0 hE21
   replace B18 := B18.evo0 hE21
   refine h_take (i := 0) rfl rfl rfl rfl (by kernel_rfl) (fun w' hC => run_mv (v := .slice (some ⟨bt, 0, none⟩) _ _) rfl rfl) hC8x ?_
   refine h_take (i := 1) rfl rfl rfl rfl (by kernel_rfl) (fun w' hC => run_mv (v := .int _ _) rfl rfl) hC8x ?_
   refine h_take (i := 2) rfl rfl rfl rfl (by kernel_rfl) (fun w' hC => run_mv (v := .slice (some ⟨bt, 0, none⟩) _ _) rfl rfl) hC8x ?_
   refine h_take (i := 3) rfl rfl rfl rfl (by kernel_rfl) (fun w' hC => run_mv (v := .int _ _) rfl rfl) hC8x ?_
   refine h_take (i := 4) rfl rfl rfl rfl (by kernel_rfl) (fun w' hC => run_ix (k) rfl Tryz.underlying213 ty_200 rfl rfl (by first | exact rfl | omega) (by omega) rfl) hC8x ?_
   refine h_take (i := 5) rfl rfl rfl rfl (by kernel_rfl) (fun w' hC => run_ld1 rfl ag_200 rfl ((hfb_q.evo hC hnb).cell0 (x := k) (by omega) (v := vc) (r := []) (if_pos rfl))) hC8x ?_
   refine h_take (i := 6) rfl rfl rfl rfl (by kernel_rfl) (fun w' hC => run_mv (v := .slice _ _ _) rfl rfl) hC8x ?_
   refine h_take (i := 7) rfl rfl rfl rfl (by kernel_rfl) (fun w' hC => run_ldN rfl ag_88 ty_88 rfl rfl (hAb18_q.evo hC (fun hg => by have h8 := hoC_own (Option.mem_toList.1 hg); omega))) hC8x ?_
   refine h_one (i := 8) (by kernel_rfl) ?_
   refine h_do rfl ?_
   refine r_opcall rfl rfl rfl (run_callf (vs := [.slice _ _ _, .agg _]) rfl (by exact rfl) Tryz.func208 rfl (by kernel_rfl)) (oforms_calls hc (p := ((ts.getD k default).words.getD j default).strip) (q := ((ts.getD k default).words.getD j default).add) (ends_len hcb _) (ends_bd hcb _) (by have := hbk.1; omega) (by have := hbk.2; omega)) ?_
   rintro e w22 ⟨vf22, rfl, hE22, hof22⟩
   refine ⟨_, rfl, ?_⟩
   have Q22 := hE22.size
   replace hV := Z0 hV hE22
   replace hB := Z0 hB hE22
   replace hC8x := Z0 hC8x hE22
   replace hoC := hoC.evo0 hE22
   replace hfb := hfb.evo0 hE22
   refine h_next hC8x ?_
   refine h_one (i := 9) (by kernel_rfl) ?_
   refine h_do rfl ?_
   obtain ⟨ao23, g23, cp23, hv23, hr23, hg23⟩ := hof22.rowOf
   subst hv23
   refine r_opcall rfl rfl rfl (run_callf (vs := [.slice _ _ _]) rfl (by exact rfl) Tryz.func190 rfl (by kernel_rfl)) (set_calls hr23) ?_
   rintro e w24 ⟨bm24, rfl, hE24, hsm24, hsb24⟩
   refine ⟨_, rfl, ?_⟩
   have Q24 := hE24.size
   replace hV := Z0 hV hE24
   replace hB := Z0 hB hE24
   replace hC8x := Z0 hC8x hE24
   replace hoC := hoC.evo0 hE24
   replace hfb := hfb.evo0 hE24
   replace hof22 := hof22.evo0 hE24
   replace hr23 := hr23.evo0 hE24
   refine h_next hC8x ?_
   refine h_one (i := 10) (by kernel_rfl) ?_
   refine h_do rfl ?_
   refine r_bslice (pv := [(0, .map (some bm24))]) (zs := [_]) (cs := [_]) Tryz.underlying200 ty_171 rfl rfl rfl rfl rfl ?_
   intro b25 w26 J25 E26 B25 Y25
   have Q26 := E26.size
   replace hV := Z0 hV E26
   replace hB := Z0 hB E26
   replace hC8x := Z0 hC8x E26
   replace hoC := hoC.evo0 E26
   replace hfb := hfb.evo0 E26
   replace hof22 := hof22.evo0 E26
   replace hr23 := hr23.evo0 E26
   replace hsm24 := hsm24.evo0 E26
   have hKb25 : Evo w26 w26 ([bt] ++ vc.ownBlock.toList) := Evo.refl _ _
   have hrb250 := rowLitRK ([bt] ++ vc.ownBlock.toList) B25 (by intro hm; simp only [List.singleton_append, List.mem_cons] at hm; rcases hm with hm | hm; omega; have h8 := hobC _ (Option.mem_toList.1 hm); omega) (fun w9 h9 => ⟨bm24, rfl, hsm24.evo h9 (by intro hm; simp only [List.singleton_append, List.mem_cons] at hm; rcases hm with hm | hm; omega; have h8 := hobC _ (Option.mem_toList.1 hm); omega)⟩) (x := (⟨formsC c ((ts.getD k default).words.getD j default).strip ((ts.getD k default).words.getD j default).add⟩ : SetS))
   have hrb25 := hrb250.now hKb25
   have hbd_hrb25 := hrb25.bd
   refine h_next hC8x ?_
   refine h_one (i := 11) (by kernel_rfl) ?_
   refine h_do rfl ?_
   refine r_appendR (w1 := w26) (E' := [bt] ++ vc.ownBlock.toList) rfl Tryz.underlying200 ty_171 rfl set_one hoC rfl rfl hrb250 ((fun w9 h9 => Evo.trans hKb25 h9 (fun x hx _ => hx))) rfl ((by simp only [List.length_map, List.length_cons, List.length_nil]; omega)) ((by simp only [List.length_map, List.length_cons, List.length_nil]; omega)) (by omega) ?_
   intro v27 w28 E28 hov27 hlv27
   have Q28 := E28.size
   replace hV := evo_stepo hV E28 (fun g hg => .inl (by first | exact (hoC.block hg).1 | (have := hoC.block hg; omega)))
   replace hB := evo_stepo hB E28 (fun g hg => .inl (by first | exact (hoC.block hg).1 | (have := hoC.block hg; omega)))
   replace hC8x := evo_stepo hC8x E28 (fun g hg => .inr (Option.mem_toList.2 hg))
   replace hKb25 := evo_stepo hKb25 E28 (fun g hg => .inr (List.mem_append.2 (.inr (Option.mem_toList.2 hg))))
   replace hfb := hfb.evo E28 (by intro hm; have hm2 := Option.mem_toList.1 hm; first | (have := hoC.block hm2; omega) | (simp [Value.ownBlock] at hm2; omega))
   obtain ⟨aoZ, cpZ, hvZ⟩ := hov27.shape
   subst hvZ
   refine h_next hC8x ?_
   refine h_take (i := 12) rfl rfl rfl rfl (by kernel_rfl) (fun w' hC => run_ix (k) rfl Tryz.underlying213 ty_200 rfl rfl (by first | exact rfl | omega) (by omega) rfl) hC8x ?_
   refine h_one (i := 13) (by kernel_rfl) ?_
   refine h_do rfl ?_
   refine r_storeF (v := (.slice aoZ _ cpZ)) (vs := [_]) (k) rfl rfl rfl hfb (by omega) ty_200 rfl rfl rfl ?_
   intro w29 E29 V29 hb_new
   have Q29 := E29.size
   replace hV := Z1 hV E29 (by first | exact .inl (by omega) | exact .inr (by simp))
   replace hB := Z1 hB E29 (by first | exact .inl (by omega) | exact .inr (by simp))
   replace hKb25 := Z1 hKb25 E29 (by first | exact .inl (by omega) | exact .inr (by simp))
   replace ht := ht0.now hV
   replace hc := hc0.now hV
   replace hl := hl0 _ hV
   replace hrb25 := hrb250.now hKb25
   replace hov27 := hov27.evo E29 (by simp) (by intro g hg hm; simp at hm; subst hm; have := hov27.block hg; omega)
   replace hfb := hb_new
   clear hb_new
   refine h_last (by kernel_rfl) ?_
   refine h_done (by kernel_rfl) ?_
   refine r_blk ?_
   refine r_region ?_
   refine Zo rfl (run_add rfl rfl rfl (by omega) (by omega)) ?_
   refine Zn rfl (mvI rfl) ?_
   refine r_again (j + 1) ?_ ?_ ?_
   ·first | omega | (dsimp only; omega)
   ·refine ⟨_, (by first | exact rfl | exact congrArg (Value.int _) (by omega) | exact congrArg (Value.int _) (by dsimp only; omega) | exact congrArg (Value.int _) (by simp) | exact congrArg S (by simp)), (by first | assumption | omega | (dsimp only; omega) | (simp; done)), (by rw [formsT_succ (by omega), List.map_append]; exact hov27), (hfb.congr (fun x => by by_cases e9 : x = k <;> simp [e9])), (by first | assumption | omega | (dsimp only; omega) | (simp; done)), hV, hB⟩
   repeat (first | (with_reducible exact Agree.merge _ _ _) | (with_reducible exact Agree.refl _ _) | (with_reducible refine Agree.upd ?_ _ _ rfl) | ((with_reducible refine Agree.inner ?_ ?_); (kernel_rfl)))
  refine r_exit rfl ?_
  refine r_blk ?_
  refine r_region ?_
  refine Zo rfl (run_add rfl rfl rfl (by omega) (by omega)) ?_
  refine Zn rfl (mvI rfl) ?_
  refine r_again (k + 1) ?_ ?_ ?_
  ·first | omega | (dsimp only; omega)
  ·refine ⟨(fun x => if x = k then vc else vs x), (by first | exact rfl | exact congrArg (Value.int _) (by omega) | exact congrArg (Value.int _) (by dsimp only; omega) | exact congrArg (Value.int _) (by simp) | exact congrArg S (by simp)), (by first | assumption | omega | (dsimp only; omega) | (simp; done)), (hfb.congr (fun x => by by_cases e9 : x = k <;> simp [e9])), (fun x hx => by show FRow _ _ (if x = k then vc else vs x) _; by_cases e9 : x = k; (rw [if_pos e9, e9]; exact FRow.of (by have h8 := hoC; rw [List.take_of_length_le (by omega)] at h8; exact h8) (by omega)); (rw [if_neg e9]; exact (hrw x (by omega)).evo hB)), (fun x hx => by show (if x = k then vc else vs x) = _; rw [if_neg (by omega)]; exact hnl x (by omega)), (by first | assumption | omega | (dsimp only; omega) | (simp; done)), hV⟩
  repeat (first | (with_reducible exact Agree.merge _ _ _) | (with_reducible exact Agree.refl _ _) | (with_reducible refine Agree.upd ?_ _ _ rfl) | ((with_reducible refine Agree.inner ?_ ?_); (kernel_rfl)))
 refine r_exit rfl ?_
 refine r_seq ?_
 have hB2 : Evo w3 w3 [bt] := Evo.refl _ _
 have hrw2 : ∀ x, x < ts.length → FRow w3 bt (vs x) (formsT c (ts.getD x default).words) := fun x hx => hrw x (by omega)
 have hbtl := hfb.lt
 refine r_region ?_
 refine Zn rfl (asS rfl) ?_
 refine Zs ?_
 refine Zn rfl (asI rfl) ?_
 refine r_seq ?_
 refine r_label ?_
 refine r_seq ?_
 refine Zs ?_
 refine Zo rfl (mvS rfl) ?_
 refine Zo rfl (run_lenSl rfl rfl Tryz.underlying94) ?_
 refine Zn rfl (mvI rfl) ?_
 refine r_block ?_
 refine r_loop (α := Nat) [12, 13, 14, 15, 16, 17, 18, 53, 54, 55, 56, 57, 58, 59, 60, 61, 62, 63, 64, 65, 66, 67, 68, 69, 70, 71, 72, 73, 74, 75, 76, 77, 78, 79, 80, 81, 82, 83, 84, 85, 86, 87, 88, 89, 90, 91, 92, 93, 94, 95, 96, 97, 98, 99, 100, 101, 102, 103, 104, 105, 106, 107, 108, 109, 110, 111, 112] (fun i g w => ∃ to9 : Nat, ∃ vo : Value, ∃ sp : List Spt, g 53 = .int .i64 (i : Nat) ∧ g 13 = .int .i64 (to9 : Nat) ∧ g 12 = vo ∧ i ≤ l.length ∧ FB w bt 200 1 ts.length (fun x => [vs x]) ∧ OwnE w w3.heap.size 187 vo sp ∧ to9 ≤ l.length ∧ sp ++ spotsF l (fsT c ts) (max i to9) = spotsF l (fsT c ts) 0 ∧ sp.length ≤ i ∧ w3.heap.size ≤ w.heap.size ∧ Evo w0 w [] ∧ Evo w3 w [bt]) (fun i => l.length - i) 0 ?_ ?_
 ·refine ⟨0, _, [], (by first | exact rfl | exact congrArg (Value.int _) (by omega) | exact congrArg (Value.int _) (by dsimp only; omega) | exact congrArg (Value.int _) (by simp) | exact congrArg S (by simp)), rfl, rfl, (by first | assumption | omega | (dsimp only; omega) | (simp; done)), hfb, (OwnE.nil _ _ _), (by first | assumption | omega | (dsimp only; omega) | (simp; done)), rfl, (by first | assumption | omega | (dsimp only; omega) | (simp; done)), (by first | assumption | omega | (dsimp only; omega) | (simp; done)), hV, hB2⟩
 rintro i g w31 ⟨to9, vo, sp, hj32, hj33, hj34, hk_i, hfb, hoo, hto, hsp, hsl, hzl30, hV, hB2⟩
 have hs_w31hV := hV.size
 have hs_w31hB2 := hB2.size
 have hlt35 := hfb.lt
 replace hl := hl0 _ hV
 refine Zk 53 (v := .int .i64 (i : Nat)) (by exact hj32) ?_
 refine Zk 13 (v := .int .i64 (to9 : Nat)) (by exact hj33) ?_
 refine Zk 12 (v := vo) (by exact hj34) ?_
 refine Zs ?_
 refine Zn rfl (run_lss rfl rfl rfl) ?_
 refine r_seq ?_
 refine r_cond rfl (fun hc36 => ?_) (fun hc36 => ?_)
 ·skip
  refine r_skip ?_
  refine r_seq ?_
  refine r_block ?_
  refine Zs ?_
  refine Zo rfl (mvI rfl) ?_
  refine Zn rfl (asI rfl) ?_
  refine r_seq ?_
  refine r_seq ?_
  have hobO := fun g hg => (hoo.block (g := g) hg).2
  refine r_region ?_
  refine Zo rfl (mvI rfl) ?_
  refine Zo rfl (mvI rfl) ?_
  refine Zo rfl (run_lss rfl rfl rfl) ?_
  refine Zo rfl (mvB rfl) ?_
  refine r_g rfl (wantF rfl) rfl (fun hg => run_mv (v := .slice _ _ _) rfl rfl) ?_
  refine r_g rfl (wantF rfl) rfl (fun hg => run_mv (v := .int _ _) rfl rfl) ?_
  refine r_g rfl (wantF rfl) rfl (fun hg => run_ix (i) rfl Tryz.underlying94 ty_96 (glv rfl (fun h => h) hg) (glv rfl (fun h => h) hg) (by first | exact rfl | omega) (by omega) (hl.addr (i := i) (by omega))) ?_
  refine r_g rfl (wantF rfl) rfl (fun hg => run_ldN rfl ag_96 ty_96 (glv rfl (fun h => h) hg) rfl (hl.atD (i) (by omega))) ?_
  refine r_gcall rfl (wantF rfl) rfl (fun hg => run_callf rfl (argcons (v := .agg _) (glv rfl (fun h => h) hg) (rfl)) Tryz.func191 rfl (by kernel_rfl)) (fun hg => (tisword_calls (x := (l.getD i default))).mono (fun e w' h => ⟨h.1, h.2⟩)) (fun w37 hE38 => ?_)
  have Q37 := hE38.size
  replace hV := Z0 hV hE38
  replace hB2 := Z0 hB2 hE38
  replace ht := ht0.now hV
  replace hc := hc0.now hV
  replace hl := hl0 _ hV
  replace hfb := hfb.evo0 hE38
  replace hoo := hoo.evo0 hE38
  refine r_g rfl (wantF rfl) rfl (fun hg => run_not rfl (glv rfl (fun h => h) hg)) ?_
  refine Zn rfl (run_pick_or rfl rfl rfl (fun hq => glv rfl (fun h => h) hq)) ?_
  refine r_cond rfl (fun hc39 => ?_) (fun hc39 => ?_)
  ·skip
   obtain ⟨nto, hnto⟩ : ∃ z, z = to9 := ⟨_, rfl⟩
   have hnsp : spotsF l (fsT c ts) (max i to9) = spotsF l (fsT c ts) (max (i + 1) nto) := by rw [hnto]; exact spots_skip (by omega) hc39
   refine r_exit rfl ?_
   refine r_region ?_
   refine Zo rfl (run_add rfl rfl rfl (by omega) (by omega)) ?_
   refine Zn rfl (mvI rfl) ?_
   refine r_again (i + 1) ?_ ?_ ?_
   ·first | omega | (dsimp only; omega)
   ·refine ⟨nto, _, _, (by first | exact rfl | exact congrArg (Value.int _) (by omega) | exact congrArg (Value.int _) (by dsimp only; omega) | exact congrArg (Value.int _) (by simp) | exact congrArg S (by simp)), (congrArg (Value.int _) (by omega)), rfl, (by first | assumption | omega | (dsimp only; omega) | (simp; done)), hfb, hoo, (by first | assumption | omega | (dsimp only; omega) | (simp; done)), (by first | (rw [← hsp, hnsp]; done) | (rw [← hsp, hnsp, List.append_assoc]; rfl)), (by first | omega | (simp; omega)), (by first | assumption | omega | (dsimp only; omega) | (simp; done)), hV, hB2⟩
   repeat (first | (with_reducible exact Agree.merge _ _ _) | (with_reducible exact Agree.refl _ _) | (with_reducible refine Agree.upd ?_ _ _ rfl) | ((with_reducible refine Agree.inner ?_ ?_); (kernel_rfl)))
  have hc66 := hc39
  have hisw : isW (l.getD i default) := Classical.not_not.1 (fun q => hc39 (.inr q))
  refine r_skip ?_
  refine Zs ?_
  refine Zo rfl (run_bld (pv := [(0, .int _ _)]) (zs := [_, _, _]) (cells := [_, _, _]) rfl ty_187 rfl pl_187 rfl rfl) ?_
  have hob40 := fun g hg => (hoo.block (g := g) hg).2
  refine r_var (zs := [_, _, _]) (vs := [_, _, _]) ty_187 rfl rfl rfl (fun _ => rfl) rfl rfl rfl rfl ?_
  intro b41 w42 J41 E42 B41 Y41
  have Q42 := E42.size
  replace hV := Z0 hV E42
  replace hB2 := Z0 hB2 E42
  replace ht := ht0.now hV
  replace hc := hc0.now hV
  replace hl := hl0 _ hV
  replace hfb := hfb.evo0 E42
  replace hoo := hoo.evo0 E42
  have hAb41 := B41.at
  refine r_nil ?_
  refine r_seq ?_
  refine Zs ?_
  refine Zo rfl (run_mv (v := .slice (some ⟨bt, 0, none⟩) _ _) rfl rfl) ?_
  refine Zo rfl (run_lenSl rfl rfl Tryz.underlying213) ?_
  refine Zn rfl (mvI rfl) ?_
  refine r_block ?_
  refine r_loop (α := Nat) [16, 17, 18, 70, 71, 72, 73, 74, 75, 76, 77, 78, 79, 80, 81, 82, 83, 84, 85, 86, 87, 88, 89, 90, 91, 92, 93, 94, 95, 96, 97, 98, 99, 100, 101, 102] (fun m9 g w => g 70 = .int .i64 (m9 : Nat) ∧ m9 ≤ ts.length ∧ FB w bt 200 1 ts.length (fun x => [vs x]) ∧ OwnE w w3.heap.size 187 vo sp ∧ Blk w b41 187 [.int .i64 (bestI (bestK l (fsT c ts) i m9)).1, .int .i64 (bestF i (bestK l (fsT c ts) i m9)), .int .i64 (bestE (bestK l (fsT c ts) i m9))] ∧ At w b41 0 [.int .i64 (bestI (bestK l (fsT c ts) i m9)).1, .int .i64 (bestF i (bestK l (fsT c ts) i m9)), .int .i64 (bestE (bestK l (fsT c ts) i m9))] ∧ w42.heap.size ≤ w.heap.size ∧ Evo w0 w [] ∧ Evo w3 w [bt]) (fun m9 => ts.length - m9) 0 ?_ ?_
  ·refine ⟨(by first | exact rfl | exact congrArg (Value.int _) (by omega) | exact congrArg (Value.int _) (by dsimp only; omega) | exact congrArg (Value.int _) (by simp) | exact congrArg S (by simp)), (by first | assumption | omega | (dsimp only; omega) | (simp; done)), hfb, hoo, B41, B41.at, (by first | assumption | omega | (dsimp only; omega) | (simp; done)), hV, hB2⟩
  rintro m9 g w44 ⟨hj45, hk_m9, hfb, hoo, B41, hAb41, hzl43, hV, hB2⟩
  have hs_w44hV := hV.size
  have hs_w44hB2 := hB2.size
  have hlt46 := hfb.lt
  have hlt47 := B41.lt
  replace ht := ht0.now hV
  replace hc := hc0.now hV
  replace hl := hl0 _ hV
  refine Zk 70 (v := .int .i64 (m9 : Nat)) (by exact hj45) ?_
  refine Zs ?_
  refine Zn rfl (run_lss rfl rfl rfl) ?_
  refine r_seq ?_
  refine r_cond rfl (fun hc48 => ?_) (fun hc48 => ?_)
  ·skip
   refine r_skip ?_
   refine r_seq ?_
   refine r_block ?_
   refine r_seq ?_
   obtain ⟨aoF, bF, offF, capF, hvF, hrF⟩ := hrw2 m9 (by omega) _ hB2
   have hbd_hrF := hrF.bd
   have hbl := bestI_lt (l := l) (fs := (fsT c ts)) (i := i) (k := m9) (n := ts.length) (by omega) (by omega) (by omega); have hbI := bestI_bd (l := l) (fs := (fsT c ts)) (i := i) (k := m9) (by omega)
   refine r_region ?_
   refine Zo rfl (mvI rfl) ?_
   refine Zo rfl (run_ix (m9) rfl Tryz.underlying213 ty_200 rfl rfl (by first | exact rfl | omega) (by omega) rfl) ?_
   refine Zo rfl (run_ld1 rfl ag_200 rfl (by have h9 := hfb.cell0 (x := m9) (by omega) (v := vs m9) (r := []) rfl; rw [hvF] at h9; exact h9)) ?_
   refine Zo rfl (asI rfl) ?_
   refine Zn rfl (asS rfl) ?_
   refine Zs ?_
   refine Zo rfl (mvS rfl) ?_
   refine Zo rfl (mvI rfl) ?_
   refine Zo rfl (mvS rfl) ?_
   refine r_opcall rfl rfl rfl (run_callf (vs := [.slice _ _ _, .int _ _, .slice _ _ _]) rfl (by exact rfl) Tryz.func192 rfl (by kernel_rfl)) (tchain_calls hl hrF (i := (i : Int)) hq (by omega) (by omega)) ?_
   rintro e w49 ⟨rfl, hE49⟩
   refine ⟨_, rfl, ?_⟩
   have Q49 := hE49.size
   replace hV := Z0 hV hE49
   replace hB2 := Z0 hB2 hE49
   replace ht := ht0.now hV
   replace hc := hc0.now hV
   replace hl := hl0 _ hV
   replace hfb := hfb.evo0 hE49
   replace hoo := hoo.evo0 hE49
   replace B41 := B41.evo0 hE49
   replace hAb41 := hAb41.evo0 hE49
   replace hrF := hrF.evo0 hE49
   have hcte : chainF l (i : Int) (-1) (nth ((formsT c (ts.getD m9 default).words).map SetS.mk)) = cT l i ((fsT c ts).getD m9 default) := by rw [show nth ((formsT c (ts.getD m9 default).words).map SetS.mk) = formsT c (ts.getD m9 default).words from nth_mk _, fsT_get (by omega), chainFG l _ _ _ (by omega) (.inr (by simpa using hisw))]; rfl
   refine Zn rfl (asI rfl) ?_
   refine r_seq ?_
   obtain ⟨z09, z19, z29, z39, z49, z59, z69, z79, z89, z99, z109, z119, hAB, _, _, _⟩ := term_at ht (bestI (bestK l (fsT c ts) i m9)).1.toNat hbl
   refine r_region ?_
   refine Zo rfl (mvI rfl) ?_
   refine Zo rfl (run_geq rfl rfl rfl) ?_
   refine Zo rfl (mvB rfl) ?_
   refine r_g rfl (wantT rfl) rfl (fun hg => run_fa rfl rfl fo_187_0) ?_
   refine r_g rfl (wantT rfl) rfl (fun hg => run_ld1 rfl ag_3 (glv rfl (fun h => h) hg) (hAb41.cell 0 rfl)) ?_
   refine r_g rfl (wantT rfl) rfl (fun hg => run_lss rfl (glv rfl (fun h => h) hg) rfl) ?_
   refine r_g rfl (wantT rfl) rfl (fun hg => run_mv (v := .bool _) rfl (glv rfl (fun h => h) hg)) ?_
   refine r_g rfl (wantFg rfl) rfl (fun hg => run_mv (v := .slice _ _ _) rfl rfl) ?_
   refine r_g rfl (wantFg rfl) rfl (fun hg => run_lenSl rfl (glv rfl (fun h => h) hg) Tryz.underlying200) ?_
   refine r_g rfl (wantFg rfl) rfl (fun hg => run_mv (v := .slice _ _ _) rfl rfl) ?_
   refine r_g rfl (wantFg rfl) rfl (fun hg => run_fa rfl rfl fo_187_0) ?_
   refine r_g rfl (wantFg rfl) rfl (fun hg => run_ld1 rfl ag_3 (glv rfl (fun h => h) hg) (hAb41.cell 0 rfl)) ?_
   refine r_g rfl (wantFg rfl) rfl (fun hg => run_ix ((bestI (bestK l (fsT c ts) i m9)).1.toNat) rfl Tryz.underlying25 ty_85 (glv rfl (fun h => h) hg) (glv rfl (fun h => h) hg) (by omega) (by omega) (ht.addr (i := (bestI (bestK l (fsT c ts) i m9)).1.toNat) (by omega))) ?_
   refine r_g rfl (wantFg rfl) rfl (fun hg => run_fa rfl (glv rfl (fun h => h) hg) fo_85_0) ?_
   refine r_g rfl (wantFg rfl) rfl (fun hg => run_ld1 rfl ag_83 (glv rfl (fun h => h) hg) (hAB.cell 0 rfl)) ?_
   refine r_g rfl (wantFg rfl) rfl (fun hg => run_lenSl rfl (glv rfl (fun h => h) hg) Tryz.underlying83) ?_
   refine r_g rfl (wantFg rfl) rfl (fun hg => run_gtr rfl (glv rfl (fun h => h) hg) (glv rfl (fun h => h) hg)) ?_
   refine r_g rfl (wantT rfl) rfl (fun hg => run_pick_or rfl (glv rfl (fun h => h) hg) rfl (fun hq => glv rfl (fun h => h) (And.intro hg hq))) ?_
   refine Zn rfl (run_pick_and rfl rfl (fun hq => glv rfl (fun h => h) hq) rfl) ?_
   refine r_cond rfl (fun hc50 => ?_) (fun hc50 => ?_)
   ·skip
    refine r_region ?_
    refine Zo rfl (mvI rfl) ?_
    refine Zo rfl (mvI rfl) ?_
    refine Zo rfl (mvI rfl) ?_
    refine Zo rfl (run_bld (pv := [(0, .int _ _), (1, .int _ _), (2, .int _ _)]) (zs := [_, _, _]) (cells := [_, _, _]) rfl ty_187 rfl pl_187 rfl rfl) ?_
    refine r_store (v := .agg _) (vs := [_, _, _]) (cs' := [_, _, _]) rfl rfl B41 ty_187 rfl rfl rfl rfl rfl ?_
    intro w51 E51 V51 hb_new
    have Q51 := E51.size
    replace hV := Z1 hV E51 (by first | exact .inl (by omega) | exact .inr (by simp))
    replace hB2 := Z1 hB2 E51 (by first | exact .inl (by omega) | exact .inr (by simp))
    replace ht := ht0.now hV
    replace hc := hc0.now hV
    replace hl := hl0 _ hV
    replace hfb := hfb.evo E51 (by simp; omega)
    replace hoo := hoo.evo E51 (by intro g hg hm; simp at hm; subst hm; have h7 := hobO g hg; omega)
    replace B41 := hb_new
    have hAb41 := B41.at
    clear hb_new
    refine r_nil ?_
    refine r_blk ?_
    refine r_region ?_
    refine Zo rfl (run_add rfl rfl rfl (by omega) (by omega)) ?_
    refine Zn rfl (mvI rfl) ?_
    refine r_again (m9 + 1) ?_ ?_ ?_
    ·first | omega | (dsimp only; omega)
    ·refine ⟨(by first | exact rfl | exact congrArg (Value.int _) (by omega) | exact congrArg (Value.int _) (by dsimp only; omega) | exact congrArg (Value.int _) (by simp) | exact congrArg S (by simp)), (by first | assumption | omega | (dsimp only; omega) | (simp; done)), hfb, hoo, (by first | (rw [best_yes l _ ((ps_cond (by omega) (by omega) hcte).1 hc50)]; have h9 := B41; rw [hcte] at h9; exact h9) | (rw [best_no l _ (fun q9 => hc50 ((ps_cond (by omega) (by omega) hcte).2 q9))]; exact B41)), (by first | (rw [best_yes l _ ((ps_cond (by omega) (by omega) hcte).1 hc50)]; have h9 := B41; rw [hcte] at h9; exact h9.at) | (rw [best_no l _ (fun q9 => hc50 ((ps_cond (by omega) (by omega) hcte).2 q9))]; exact B41.at)), (by first | assumption | omega | (dsimp only; omega) | (simp; done)), hV, hB2⟩
    repeat (first | (with_reducible exact Agree.merge _ _ _) | (with_reducible exact Agree.refl _ _) | (with_reducible refine Agree.upd ?_ _ _ rfl) | ((with_reducible refine Agree.inner ?_ ?_); (kernel_rfl)))
   refine r_skip ?_
   refine r_blk ?_
   refine r_region ?_
   refine Zo rfl (run_add rfl rfl rfl (by omega) (by omega)) ?_
   refine Zn rfl (mvI rfl) ?_
   refine r_again (m9 + 1) ?_ ?_ ?_
   ·first | omega | (dsimp only; omega)
   ·refine ⟨(by first | exact rfl | exact congrArg (Value.int _) (by omega) | exact congrArg (Value.int _) (by dsimp only; omega) | exact congrArg (Value.int _) (by simp) | exact congrArg S (by simp)), (by first | assumption | omega | (dsimp only; omega) | (simp; done)), hfb, hoo, (by first | (rw [best_yes l _ ((ps_cond (by omega) (by omega) hcte).1 hc50)]; have h9 := B41; rw [hcte] at h9; exact h9) | (rw [best_no l _ (fun q9 => hc50 ((ps_cond (by omega) (by omega) hcte).2 q9))]; exact B41)), (by first | (rw [best_yes l _ ((ps_cond (by omega) (by omega) hcte).1 hc50)]; have h9 := B41; rw [hcte] at h9; exact h9.at) | (rw [best_no l _ (fun q9 => hc50 ((ps_cond (by omega) (by omega) hcte).2 q9))]; exact B41.at)), (by first | assumption | omega | (dsimp only; omega) | (simp; done)), hV, hB2⟩
   repeat (first | (with_reducible exact Agree.merge _ _ _) | (with_reducible exact Agree.refl _ _) | (with_reducible refine Agree.upd ?_ _ _ rfl) | ((with_reducible refine Agree.inner ?_ ?_); (kernel_rfl)))
  refine r_exit rfl ?_
  refine Zs ?_
  refine Zo rfl (run_fa rfl rfl fo_187_0) ?_
  refine Zo rfl (run_ld1 rfl ag_3 rfl (hAb41.cell 0 rfl)) ?_
  refine Zn rfl (run_geq rfl rfl rfl) ?_
  refine r_cond rfl (fun hc52 => ?_) (fun hc52 => ?_)
  ·skip
   have hm9 : m9 = ts.length := by omega
   subst hm9
   obtain ⟨q9, hq9, hq1, hq2, hq3⟩ := bestC_some (i := i) (show ¬ (bestI (bestK l (fsT c ts) i ts.length)).1 < 0 by omega)
   have hqb := best_bd l (fsT c ts) (by omega) _ _ hq9
   obtain ⟨nto, hnto⟩ : ∃ z, z = q9.2.toNat := ⟨_, rfl⟩
   have hnsp : spotsF l (fsT c ts) (max i to9) = ⟨(bestI (bestK l (fsT c ts) i ts.length)).1, bestF i (bestK l (fsT c ts) i ts.length), bestE (bestK l (fsT c ts) i ts.length)⟩ :: spotsF l (fsT c ts) (max (i + 1) nto) := by rw [hnto, hq1, hq2, hq3]; exact spots_yes (by omega) hc66 (by rw [fsT_len]; exact hq9)
   refine Zs ?_
   refine Zo rfl (run_mv (v := vo) rfl rfl) ?_
   refine Zo rfl (run_ldN rfl ag_187 ty_187 rfl rfl hAb41) ?_
   refine r_append1E (u := .agg _) (y := ⟨_, _, _⟩) rfl rfl Tryz.underlying158 ty_187 rfl hoo (fun _ => rfl) rfl (by first | exact rfl | (show _ = List.toArray [_, _, _]; first | (dsimp only; done) | exact rfl | (dsimp only; exact rfl))) ((by first | omega | (simp; omega))) ((by first | omega | (simp; omega))) (by omega) ?_
   intro q_v53 v53 w54 E54 hov53 hlv53
   have Q54 := E54.size
   replace hV := evo_stepo hV E54 (fun g hg => .inl (by first | exact (hoo.block hg).1 | (have := hoo.block hg; omega)))
   replace hB2 := evo_stepo hB2 E54 (fun g hg => .inl (by first | exact (hoo.block hg).1 | (have := hoo.block hg; omega)))
   replace ht := ht0.now hV
   replace hc := hc0.now hV
   replace hl := hl0 _ hV
   replace hfb := hfb.evo E54 (by intro hm; have hm2 := Option.mem_toList.1 hm; first | (have := hoo.block hm2; omega) | (simp [Value.ownBlock] at hm2; omega))
   replace B41 := B41.evo E54 (by intro hm; have h7 := hobO _ (Option.mem_toList.1 hm); omega)
   replace hAb41 := hAb41.evo E54 (by intro hm; have h7 := hobO _ (Option.mem_toList.1 hm); omega)
   refine Zn rfl (run_asg (v := v53) rfl rfl) ?_
   refine r_region ?_
   refine Zo rfl (run_fa rfl rfl fo_187_2) ?_
   refine Zo rfl (run_ld1 rfl ag_3 rfl (hAb41.cell 2 rfl)) ?_
   refine Zn rfl (asI rfl) ?_
   refine r_blk ?_
   refine r_region ?_
   refine Zo rfl (run_add rfl rfl rfl (by omega) (by omega)) ?_
   refine Zn rfl (mvI rfl) ?_
   refine r_again (i + 1) ?_ ?_ ?_
   ·first | omega | (dsimp only; omega)
   ·refine ⟨nto, _, _, (by first | exact rfl | exact congrArg (Value.int _) (by omega) | exact congrArg (Value.int _) (by dsimp only; omega) | exact congrArg (Value.int _) (by simp) | exact congrArg S (by simp)), (congrArg (Value.int _) (by omega)), rfl, (by first | assumption | omega | (dsimp only; omega) | (simp; done)), hfb, hov53, (by first | assumption | omega | (dsimp only; omega) | (simp; done)), (by first | (rw [← hsp, hnsp]; done) | (rw [← hsp, hnsp, List.append_assoc]; rfl)), (by first | omega | (simp; omega)), (by first | assumption | omega | (dsimp only; omega) | (simp; done)), hV, hB2⟩
   repeat (first | (with_reducible exact Agree.merge _ _ _) | (with_reducible exact Agree.refl _ _) | (with_reducible refine Agree.upd ?_ _ _ rfl) | ((with_reducible refine Agree.inner ?_ ?_); (kernel_rfl)))
  have hm9 : m9 = ts.length := by omega
  subst hm9
  obtain ⟨nto, hnto⟩ : ∃ z, z = to9 := ⟨_, rfl⟩
  have hnsp : spotsF l (fsT c ts) (max i to9) = spotsF l (fsT c ts) (max (i + 1) nto) := by rw [hnto]; exact spots_nob (by omega) hc66 (by rw [fsT_len]; exact bestI_none (by omega))
  refine r_skip ?_
  refine r_blk ?_
  refine r_region ?_
  refine Zo rfl (run_add rfl rfl rfl (by omega) (by omega)) ?_
  refine Zn rfl (mvI rfl) ?_
  refine r_again (i + 1) ?_ ?_ ?_
  ·first | omega | (dsimp only; omega)
  ·refine ⟨nto, _, _, (by first | exact rfl | exact congrArg (Value.int _) (by omega) | exact congrArg (Value.int _) (by dsimp only; omega) | exact congrArg (Value.int _) (by simp) | exact congrArg S (by simp)), (congrArg (Value.int _) (by omega)), rfl, (by first | assumption | omega | (dsimp only; omega) | (simp; done)), hfb, hoo, (by first | assumption | omega | (dsimp only; omega) | (simp; done)), (by first | (rw [← hsp, hnsp]; done) | (rw [← hsp, hnsp, List.append_assoc]; rfl)), (by first | omega | (simp; omega)), (by first | assumption | omega | (dsimp only; omega) | (simp; done)), hV, hB2⟩
  repeat (first | (with_reducible exact Agree.merge _ _ _) | (with_reducible exact Agree.refl _ _) | (with_reducible refine Agree.upd ?_ _ _ rfl) | ((with_reducible refine Agree.inner ?_ ?_); (kernel_rfl)))
 refine r_exit rfl ?_
 refine Zs ?_
 refine Zo rfl (run_mv (v := vo) rfl rfl) ?_
 refine Zn rfl (run_asg (v := vo) rfl rfl) ?_
 refine r_ret (res1 (v := vo) rfl rfl) ?_
 exact ⟨_, rfl, hV, by rw [spots_end l _ (by omega), List.append_nil] at hsp; rw [← hsp]; exact hoo.base_le (by omega)⟩
end Go.Proofs.YtlfjocbnbceceaaGreatDoor
namespace Go.Proofs.YtlfjocbnbceceaaGreatDoor
open Go Go.RowKit Go.Vc
def splitS : Str → List Str
  | [] => [[]]
  | c :: r => if c = 32 then [] :: splitS r else match splitS r with | [] => [[c]] | w :: ws => (c :: w) :: ws
theorem splitS_ne : ∀ s, splitS s ≠ []
  | [] => by simp [splitS]
  | c :: r => by
    unfold splitS
    split
    · simp
    · split <;> simp
theorem idx_split : ∀ s : Str, (Lib.indexByte s 32 = -1 ∧ splitS s = [s] ∧ s.count 32 = 0) ∨ (∃ m : Nat, Lib.indexByte s 32 = (m : Int) ∧ m < s.length ∧ splitS s = s.take m :: splitS (s.drop (m + 1)) ∧ s.count 32 = 1 + (s.drop (m + 1)).count 32)
  | [] => .inl ⟨rfl, rfl, rfl⟩
  | c :: r => by
    by_cases hc : c = 32
    · subst hc
      refine .inr ⟨0, rfl, by simp, rfl, ?_⟩
      rw [List.count_cons_self]; simp; omega
    · have hb : (c == 32) = false := by simpa using hc
      have hct : (c :: r).count 32 = r.count 32 := by rw [List.count_cons, hb]; rfl
      rcases idx_split r with ⟨h1, h2, h3⟩ | ⟨m, h1, h2, h3, h4⟩
      · refine .inl ⟨?_, ?_, by rw [hct, h3]⟩
        · unfold Lib.indexByte; rw [hb, h1]; rfl
        · unfold splitS; rw [if_neg hc, h2]
      · refine .inr ⟨m + 1, ?_, by simp; omega, ?_, by rw [hct, h4]; rfl⟩
        · unfold Lib.indexByte
          rw [hb, h1]
          have h5 : (((m : Nat) : Int) == -1) = false := by simp
          rw [h5]; simp
        · conv => lhs; unfold splitS
          rw [if_neg hc, h3]; rfl
theorem split_len : ∀ s : Str, (splitS s).length = s.count 32 + 1
  | [] => rfl
  | c :: r => by
    have ih := split_len r
    by_cases hc : c = 32
    · subst hc
      unfold splitS
      rw [if_pos rfl, List.length_cons, ih, List.count_cons_self]
    · have hb : (c == 32) = false := by simpa using hc
      unfold splitS
      rw [if_neg hc, List.count_cons, hb]
      cases h : splitS r with
      | nil => exact absurd h (splitS_ne r)
      | cons w ws => rw [h] at ih; simpa using ih
theorem split_at : ∀ (s : Str) (j : Nat), j ≤ s.length → (∀ k, k < j → s.getD k default ≠ 32) → (j = s.length ∧ splitS s = [s]) ∨ (j < s.length ∧ (s.getD j default = 32 → splitS s = s.take j :: splitS (s.drop (j + 1))))
  | [], 0, _, _ => .inl ⟨rfl, rfl⟩
  | c :: r, 0, _, _ => by
    refine .inr ⟨by simp, fun h => ?_⟩
    have h' : c = 32 := h
    subst h'; rfl
  | c :: r, j + 1, hj, h => by
    have hc : ¬ c = 32 := h 0 (by omega)
    rcases split_at r j (by simpa using hj) (fun k hk => h (k + 1) (by omega)) with ⟨h1, h2⟩ | ⟨h1, h2⟩
    · refine .inl ⟨by simp [h1], ?_⟩
      unfold splitS; rw [if_neg hc, h2]
    · refine .inr ⟨by simpa using h1, fun h3 => ?_⟩
      conv => lhs; unfold splitS
      rw [if_neg hc, h2 h3]; rfl
theorem split_total : ∀ s : Str, ((splitS s).map (·.length)).sum + (splitS s).length = s.length + 1
  | [] => rfl
  | c :: r => by
    have ih := split_total r
    by_cases hc : c = 32
    · unfold splitS
      rw [if_pos hc]; simp; omega
    · unfold splitS
      rw [if_neg hc]
      cases hs : splitS r with
      | nil => exact absurd hs (splitS_ne r)
      | cons v vs => rw [hs] at ih; simp at ih ⊢; omega
def plainP (s : Str) : Prop := (s ≠ [] ∧ s.length ≤ 64) ∧ (∀ j, j < s.length → clsB (s.getD j default) = clsB (s.getD 0 default)) ∧ (clsB (s.getD 0 default) = 4 ∨ clsB (s.getD 0 default) = 3)
instance (s : Str) : Decidable (plainP s) := by unfold plainP; infer_instance
def phraseOk (s : Str) : Prop := (∀ w ∈ splitS s, plainP w) ∧ (splitS s).length ≤ 8
instance (s : Str) : Decidable (phraseOk s) := by unfold phraseOk; infer_instance
def wordsP (s : Str) : List Str := if phraseOk s then splitS s else []
theorem plain_sum : ∀ l : List Str, (∀ w ∈ l, plainP w) → (l.map (·.length)).sum ≤ 64 * l.length
  | [], _ => by simp
  | w :: l, h => by
    have h1 := (h w (by simp)).1.2
    have h2 := plain_sum l (fun x hx => h x (by simp [hx]))
    simp; omega
theorem ok_len {s : Str} (h : phraseOk s) : s.length ≤ 520 := by
  have h1 := split_total s
  have h2 := plain_sum _ h.1
  have h3 := h.2
  omega
theorem words_ok {s : Str} (h : phraseOk s) : wordsP s = splitS s := if_pos h
theorem words_no {s : Str} (h : ¬ phraseOk s) : wordsP s = [] := if_neg h
end Go.Proofs.YtlfjocbnbceceaaGreatDoor
namespace Go.Proofs
open Go.Shelf
def Tryz.lays143_ren : Go.Shelf.Ren := ⟨fun | 143 => 206 | 219 => 220 | 217 => 231 | 225 => 232 | 224 => 233 | 267 => 234 | 266 => 249 | 314 => 250 | n => n, fun | 9 => 9 | 3 => 3 | 4 => 4 | 5 => 5 | 46 => 105 | 146 => 245 | 51 => 151 | n => n, fun | 1 => 0 | n => n⟩
theorem Tryz.lays143 : Go.Proofs.Lays.n143 Tryz.prog Tryz.lays143_ren := {
  mixed := by kernel_rfl
  f143 := Tryz.func206.trans (congrArg some (by kernel_rfl))
  f217 := Tryz.func231.trans (congrArg some (by kernel_rfl))
  f219 := Tryz.func220.trans (congrArg some (by kernel_rfl))
  f224 := Tryz.func233.trans (congrArg some (by kernel_rfl))
  f225 := Tryz.func232.trans (congrArg some (by kernel_rfl))
  f266 := Tryz.func249.trans (congrArg some (by kernel_rfl))
  f267 := Tryz.func234.trans (congrArg some (by kernel_rfl))
  f314 := Tryz.func250.trans (congrArg some (by kernel_rfl))
  t3 := Tryz.underlying3
  a3 := Tryz.isAgg3
  z3 := Tryz.sizeOf3
  v3 := Tryz.zeroValue3
  t4 := Tryz.underlying4
  a4 := Tryz.isAgg4
  z4 := Tryz.sizeOf4
  v4 := Tryz.zeroValue4
  t5 := Tryz.underlying5
  a5 := Tryz.isAgg5
  z5 := Tryz.sizeOf5
  v5 := Tryz.zeroValue5
  t9 := Tryz.underlying9
  a9 := Tryz.isAgg9
  z9 := Tryz.sizeOf9
  v9 := Tryz.zeroValue9
  t46 := Tryz.underlying105
  a46 := Tryz.isAgg105
  z46 := Tryz.sizeOf105
  v46 := Tryz.zeroValue105
  t51 := Tryz.underlying151
  a51 := Tryz.isAgg151
  z51 := Tryz.sizeOf151
  v51 := Tryz.zeroValue151
  t146 := Tryz.underlying245
  a146 := Tryz.isAgg245
  z146 := Tryz.sizeOf245
  v146 := Tryz.zeroValue245
  g1 := by kernel_rfl }
open Go.RowKit Go.Lib in
theorem Tryz.strings_Index_one (s : ByteArray) (c : UInt8) (w : World) :
    Calls Tryz.prog 206 #[.string s, .string ⟨#[c]⟩] w fun e w' => e = .returned (.int .i64 (Lib.indexByte s.data.toList c)) ∧ w' = w := Any.strings_Index_one Tryz.lays143 s c w
def Tryz.lays138_ren : Go.Shelf.Ren := ⟨fun | 138 => 205 | 195 => 217 | 218 => 219 | 143 => 206 | 219 => 220 | 217 => 231 | 225 => 232 | 224 => 233 | 267 => 234 | 266 => 249 | 314 => 250 | n => n, fun | 9 => 9 | 3 => 3 | 4 => 4 | 5 => 5 | 0 => 0 | 46 => 105 | 146 => 245 | 51 => 151 | n => n, fun | 1 => 0 | n => n⟩
theorem Tryz.lays138 : Go.Proofs.Lays.n138 Tryz.prog Tryz.lays138_ren := {
  mixed := by kernel_rfl
  f138 := Tryz.func205.trans (congrArg some (by kernel_rfl))
  f143 := Tryz.func206.trans (congrArg some (by kernel_rfl))
  f195 := Tryz.func217.trans (congrArg some (by kernel_rfl))
  f217 := Tryz.func231.trans (congrArg some (by kernel_rfl))
  f218 := Tryz.func219.trans (congrArg some (by kernel_rfl))
  f219 := Tryz.func220.trans (congrArg some (by kernel_rfl))
  f224 := Tryz.func233.trans (congrArg some (by kernel_rfl))
  f225 := Tryz.func232.trans (congrArg some (by kernel_rfl))
  f266 := Tryz.func249.trans (congrArg some (by kernel_rfl))
  f267 := Tryz.func234.trans (congrArg some (by kernel_rfl))
  f314 := Tryz.func250.trans (congrArg some (by kernel_rfl))
  t0 := Tryz.underlying0
  a0 := Tryz.isAgg0
  z0 := Tryz.sizeOf0
  v0 := Tryz.zeroValue0
  t3 := Tryz.underlying3
  a3 := Tryz.isAgg3
  z3 := Tryz.sizeOf3
  v3 := Tryz.zeroValue3
  t4 := Tryz.underlying4
  a4 := Tryz.isAgg4
  z4 := Tryz.sizeOf4
  v4 := Tryz.zeroValue4
  t5 := Tryz.underlying5
  a5 := Tryz.isAgg5
  z5 := Tryz.sizeOf5
  v5 := Tryz.zeroValue5
  t9 := Tryz.underlying9
  a9 := Tryz.isAgg9
  z9 := Tryz.sizeOf9
  v9 := Tryz.zeroValue9
  t46 := Tryz.underlying105
  a46 := Tryz.isAgg105
  z46 := Tryz.sizeOf105
  v46 := Tryz.zeroValue105
  t51 := Tryz.underlying151
  a51 := Tryz.isAgg151
  z51 := Tryz.sizeOf151
  v51 := Tryz.zeroValue151
  t146 := Tryz.underlying245
  a146 := Tryz.isAgg245
  z146 := Tryz.sizeOf245
  v146 := Tryz.zeroValue245
  g1 := by kernel_rfl }
open Go.RowKit Go.Lib in
theorem Tryz.strings_Count_one (s : ByteArray) (c : UInt8) (w : World) :
    Calls Tryz.prog 205 #[.string s, .string ⟨#[c]⟩] w fun e w' => e = .returned (.int .i64 (Lib.countByte s.data.toList c)) ∧ w' = w := Any.strings_Count_one Tryz.lays138 s c w
def Tryz.lays189_ren : Go.Shelf.Ren := ⟨fun | 189 => 210 | 125 => 69 | 257 => 229 | 128 => 122 | 129 => 123 | 294 => 240 | 295 => 241 | 296 => 242 | 297 => 243 | 298 => 244 | 299 => 245 | 216 => 246 | 300 => 247 | 301 => 248 | 328 => 254 | 329 => 162 | 330 => 163 | 331 => 255 | 332 => 256 | 215 => 70 | 343 => 257 | n => n, fun | 28 => 22 | 3 => 3 | 46 => 105 | 0 => 0 | 51 => 151 | 53 => 153 | 4 => 4 | 183 => 144 | 182 => 143 | 131 => 148 | 5 => 5 | 9 => 9 | 218 => 177 | 222 => 181 | 228 => 204 | 229 => 131 | n => n, fun | n => n⟩
theorem Tryz.lays189 : Go.Proofs.Lays.n189 Tryz.prog Tryz.lays189_ren := {
  mixed := by kernel_rfl
  f125 := Tryz.func69.trans (congrArg some (by kernel_rfl))
  f128 := Tryz.func122.trans (congrArg some (by kernel_rfl))
  f129 := Tryz.func123.trans (congrArg some (by kernel_rfl))
  f189 := Tryz.func210.trans (congrArg some (by kernel_rfl))
  f215 := Tryz.func70.trans (congrArg some (by kernel_rfl))
  f216 := Tryz.func246.trans (congrArg some (by kernel_rfl))
  f257 := Tryz.func229.trans (congrArg some (by kernel_rfl))
  f294 := Tryz.func240.trans (congrArg some (by kernel_rfl))
  f295 := Tryz.func241.trans (congrArg some (by kernel_rfl))
  f296 := Tryz.func242.trans (congrArg some (by kernel_rfl))
  f297 := Tryz.func243.trans (congrArg some (by kernel_rfl))
  f298 := Tryz.func244.trans (congrArg some (by kernel_rfl))
  f299 := Tryz.func245.trans (congrArg some (by kernel_rfl))
  f300 := Tryz.func247.trans (congrArg some (by kernel_rfl))
  f301 := Tryz.func248.trans (congrArg some (by kernel_rfl))
  f328 := Tryz.func254.trans (congrArg some (by kernel_rfl))
  f329 := Tryz.func162.trans (congrArg some (by kernel_rfl))
  f330 := Tryz.func163.trans (congrArg some (by kernel_rfl))
  f331 := Tryz.func255.trans (congrArg some (by kernel_rfl))
  f332 := Tryz.func256.trans (congrArg some (by kernel_rfl))
  f343 := Tryz.func257.trans (congrArg some (by kernel_rfl))
  t0 := Tryz.underlying0
  a0 := Tryz.isAgg0
  z0 := Tryz.sizeOf0
  v0 := Tryz.zeroValue0
  t3 := Tryz.underlying3
  a3 := Tryz.isAgg3
  z3 := Tryz.sizeOf3
  v3 := Tryz.zeroValue3
  t4 := Tryz.underlying4
  a4 := Tryz.isAgg4
  z4 := Tryz.sizeOf4
  v4 := Tryz.zeroValue4
  t5 := Tryz.underlying5
  a5 := Tryz.isAgg5
  z5 := Tryz.sizeOf5
  v5 := Tryz.zeroValue5
  t9 := Tryz.underlying9
  a9 := Tryz.isAgg9
  z9 := Tryz.sizeOf9
  v9 := Tryz.zeroValue9
  t28 := Tryz.underlying22
  a28 := Tryz.isAgg22
  z28 := Tryz.sizeOf22
  v28 := Tryz.zeroValue22
  t46 := Tryz.underlying105
  a46 := Tryz.isAgg105
  z46 := Tryz.sizeOf105
  v46 := Tryz.zeroValue105
  t51 := Tryz.underlying151
  a51 := Tryz.isAgg151
  z51 := Tryz.sizeOf151
  v51 := Tryz.zeroValue151
  t53 := Tryz.underlying153
  a53 := Tryz.isAgg153
  z53 := Tryz.sizeOf153
  v53 := Tryz.zeroValue153
  t131 := Tryz.underlying148
  a131 := Tryz.isAgg148
  z131 := Tryz.sizeOf148
  v131 := Tryz.zeroValue148
  t182 := Tryz.underlying143
  a182 := Tryz.isAgg143
  z182 := Tryz.sizeOf143
  v182 := Tryz.zeroValue143
  t183 := Tryz.underlying144
  a183 := Tryz.isAgg144
  z183 := Tryz.sizeOf144
  v183 := Tryz.zeroValue144
  t218 := Tryz.underlying177
  a218 := Tryz.isAgg177
  z218 := Tryz.sizeOf177
  v218 := Tryz.zeroValue177
  t222 := Tryz.underlying181
  a222 := Tryz.isAgg181
  z222 := Tryz.sizeOf181
  v222 := Tryz.zeroValue181
  t228 := Tryz.underlying204
  a228 := Tryz.isAgg204
  z228 := Tryz.sizeOf204
  v228 := Tryz.zeroValue204
  t229 := Tryz.underlying131
  a229 := Tryz.isAgg131
  z229 := Tryz.sizeOf131
  v229 := Tryz.zeroValue131 }
open Go.Sort Go.RowKit in
theorem Tryz.slices_Sort_int (blk off cap : Nat) (zs : List Int) (w : World) (hH : Holds (Value.int .i64) w blk off zs.toArray) (hblk : blk < w.heap.size) (hsz : zs.length < 4611686018427387904) :
    Calls Tryz.prog 210 #[.slice (some ⟨blk, off, none⟩) zs.length cap] w fun e w' =>
      e = .returned (.tuple #[]) ∧ ∃ n os, w' = grow (putRow (Value.int .i64) (Sort.ahead w n) blk off (zs.mergeSort fun x y => decide (x ≤ y)).toArray) os := Any.slices_Sort_int Tryz.lays189 blk off cap zs w hH hblk hsz
def Tryz.lays190_ren : Go.Shelf.Ren := ⟨fun | 190 => 91 | 125 => 69 | 258 => 139 | 128 => 122 | 129 => 123 | 302 => 174 | 303 => 175 | 304 => 176 | 305 => 177 | 306 => 178 | 307 => 179 | 308 => 180 | 309 => 181 | 310 => 182 | 333 => 201 | 329 => 162 | 330 => 163 | 334 => 202 | 335 => 203 | 336 => 71 | 344 => 216 | n => n, fun | 31 => 77 | 9 => 9 | 3 => 3 | 46 => 105 | 0 => 0 | 51 => 151 | 53 => 153 | 4 => 4 | 183 => 144 | 182 => 143 | 131 => 148 | 5 => 5 | 218 => 177 | 222 => 181 | 228 => 204 | 229 => 131 | n => n, fun | n => n⟩
theorem Tryz.lays190 : Go.Proofs.Lays.n190 Tryz.prog Tryz.lays190_ren := {
  mixed := by kernel_rfl
  f125 := Tryz.func69.trans (congrArg some (by kernel_rfl))
  f128 := Tryz.func122.trans (congrArg some (by kernel_rfl))
  f129 := Tryz.func123.trans (congrArg some (by kernel_rfl))
  f190 := Tryz.func91.trans (congrArg some (by kernel_rfl))
  f258 := Tryz.func139.trans (congrArg some (by kernel_rfl))
  f302 := Tryz.func174.trans (congrArg some (by kernel_rfl))
  f303 := Tryz.func175.trans (congrArg some (by kernel_rfl))
  f304 := Tryz.func176.trans (congrArg some (by kernel_rfl))
  f305 := Tryz.func177.trans (congrArg some (by kernel_rfl))
  f306 := Tryz.func178.trans (congrArg some (by kernel_rfl))
  f307 := Tryz.func179.trans (congrArg some (by kernel_rfl))
  f308 := Tryz.func180.trans (congrArg some (by kernel_rfl))
  f309 := Tryz.func181.trans (congrArg some (by kernel_rfl))
  f310 := Tryz.func182.trans (congrArg some (by kernel_rfl))
  f329 := Tryz.func162.trans (congrArg some (by kernel_rfl))
  f330 := Tryz.func163.trans (congrArg some (by kernel_rfl))
  f333 := Tryz.func201.trans (congrArg some (by kernel_rfl))
  f334 := Tryz.func202.trans (congrArg some (by kernel_rfl))
  f335 := Tryz.func203.trans (congrArg some (by kernel_rfl))
  f336 := Tryz.func71.trans (congrArg some (by kernel_rfl))
  f344 := Tryz.func216.trans (congrArg some (by kernel_rfl))
  t0 := Tryz.underlying0
  a0 := Tryz.isAgg0
  z0 := Tryz.sizeOf0
  v0 := Tryz.zeroValue0
  t3 := Tryz.underlying3
  a3 := Tryz.isAgg3
  z3 := Tryz.sizeOf3
  v3 := Tryz.zeroValue3
  t4 := Tryz.underlying4
  a4 := Tryz.isAgg4
  z4 := Tryz.sizeOf4
  v4 := Tryz.zeroValue4
  t5 := Tryz.underlying5
  a5 := Tryz.isAgg5
  z5 := Tryz.sizeOf5
  v5 := Tryz.zeroValue5
  t9 := Tryz.underlying9
  a9 := Tryz.isAgg9
  z9 := Tryz.sizeOf9
  v9 := Tryz.zeroValue9
  t31 := Tryz.underlying77
  a31 := Tryz.isAgg77
  z31 := Tryz.sizeOf77
  v31 := Tryz.zeroValue77
  t46 := Tryz.underlying105
  a46 := Tryz.isAgg105
  z46 := Tryz.sizeOf105
  v46 := Tryz.zeroValue105
  t51 := Tryz.underlying151
  a51 := Tryz.isAgg151
  z51 := Tryz.sizeOf151
  v51 := Tryz.zeroValue151
  t53 := Tryz.underlying153
  a53 := Tryz.isAgg153
  z53 := Tryz.sizeOf153
  v53 := Tryz.zeroValue153
  t131 := Tryz.underlying148
  a131 := Tryz.isAgg148
  z131 := Tryz.sizeOf148
  v131 := Tryz.zeroValue148
  t182 := Tryz.underlying143
  a182 := Tryz.isAgg143
  z182 := Tryz.sizeOf143
  v182 := Tryz.zeroValue143
  t183 := Tryz.underlying144
  a183 := Tryz.isAgg144
  z183 := Tryz.sizeOf144
  v183 := Tryz.zeroValue144
  t218 := Tryz.underlying177
  a218 := Tryz.isAgg177
  z218 := Tryz.sizeOf177
  v218 := Tryz.zeroValue177
  t222 := Tryz.underlying181
  a222 := Tryz.isAgg181
  z222 := Tryz.sizeOf181
  v222 := Tryz.zeroValue181
  t228 := Tryz.underlying204
  a228 := Tryz.isAgg204
  z228 := Tryz.sizeOf204
  v228 := Tryz.zeroValue204
  t229 := Tryz.underlying131
  a229 := Tryz.isAgg131
  z229 := Tryz.sizeOf131
  v229 := Tryz.zeroValue131 }
open Go.Sort Go.RowKit in
theorem Tryz.slices_Sort_string (blk off cap : Nat) (ss : List (List UInt8)) (w : World) (hH : Holds encStr w blk off ss.toArray) (hblk : blk < w.heap.size) (hsz : ss.length < 4611686018427387904) :
    Calls Tryz.prog 91 #[.slice (some ⟨blk, off, none⟩) ss.length cap] w fun e w' =>
      e = .returned (.tuple #[]) ∧ ∃ n os, w' = grow (putRow encStr (Sort.ahead w n) blk off (ss.mergeSort fun x y => decide (x ≤ y)).toArray) os := Any.slices_Sort_string Tryz.lays190 blk off cap ss w hH hblk hsz
open Go.RowKit Go.Sort in
theorem Tryz.slices_Sort_string_none (p : Option Addr) (cap : Nat) (w : World) :
    Calls Tryz.prog 91 #[.slice p 0 cap] w fun e w' => e = .returned (.tuple #[]) ∧ w' = w := Any.slices_Sort_string_none Tryz.lays190 p cap w
open Go.RowKit Go.Sort in
theorem Tryz.slices_Sort_int_none (p : Option Addr) (cap : Nat) (w : World) :
    Calls Tryz.prog 210 #[.slice p 0 cap] w fun e w' => e = .returned (.tuple #[]) ∧ w' = w := Any.slices_Sort_int_none Tryz.lays189 p cap w
end Go.Proofs
namespace Go.Proofs.YtlfjocbnbceceaaGreatDoor
open Go.RowKit Go.Vc
theorem count1_calls {s : Str} {w : World} : Calls Tryz.prog 205 #[S s, S [32]] w fun e w' => e = .returned (.int .i64 ((s.count 32 : Nat) : Int)) ∧ w = w' :=
  (Tryz.strings_Count_one ⟨s.toArray⟩ 32 w).mono fun e w' ⟨h1, h2⟩ => ⟨by rw [h1]; rfl, h2.symm⟩
theorem index1_calls {s : Str} {w : World} : Calls Tryz.prog 206 #[S s, S [32]] w fun e w' => e = .returned (.int .i64 (Lib.indexByte s 32)) ∧ w = w' :=
  (Tryz.strings_Index_one ⟨s.toArray⟩ 32 w).mono fun e w' ⟨h1, h2⟩ => ⟨by rw [h1], h2.symm⟩
theorem fb_rowS {w : World} {b E n : Nat} {l : List Str} (h : FB w b E 1 n (fun x => [S (l.getD x default)])) (hl : l.length = n) (hn : n ≤ 140737488355328) : RowE w (some ⟨b, 0, none⟩) b 0 n l := by
  refine ⟨⟨by simp; omega, by simp; omega⟩, fun _ => rfl, fun i cs hi => ?_⟩
  have hil : i < l.length := by
    rcases Nat.lt_or_ge i l.length with h1 | h1
    · exact h1
    · rw [List.getElem?_eq_none (by simpa using h1)] at hi; cases hi
  simp [hil] at hi
  subst hi
  refine ⟨rfl, ?_⟩
  have h2 := h.at (x := i) (by omega)
  have e : l.getD i default = l[i] := by simp [List.getD, hil]
  simp only [e] at h2
  exact h2
theorem getD_snocS {d : List Str} {x : Str} {i : Nat} (h : d.length = i) (y : Nat) : (if y = i then [S x] else [S (d.getD y default)]) = [S ((d ++ [x]).getD y default)] := by
  subst h
  by_cases e : y = d.length
  · subst e; rw [if_pos rfl]; simp [List.getD]
  · rw [if_neg e]
    rcases Nat.lt_or_ge y d.length with h1 | h1
    · simp [List.getD, h1, List.getElem?_append_left]
    · simp [List.getD, List.getElem?_eq_none h1, List.getElem?_append_right h1, List.getElem?_eq_none (show [x].length ≤ y - d.length by simp; omega)]
theorem gensplit_calls {s : Str} {w0 : World} (hs : s.length ≤ 1000) :
    Calls Tryz.prog 185 #[S s, S [32], .int .i64 0, .int .i64 (-1)] w0 fun e w' => ∃ ao b off cap, e = .returned (.slice ao (splitS s).length cap) ∧ Evo w0 w' [] ∧ RowE w' ao b off cap (splitS s) := by
 have hcl := List.count_le_length (a := (32 : UInt8)) (l := s); have h32 : List.length ([32] : List UInt8) = 1 := rfl
 refine calls_enter (n := 66) Tryz.func185 rfl Tryz.ntmps185 rfl ?_
 have hV : Evo w0 w0 [] := Evo.refl _ _
 refine Zs ?_
 refine Zn rfl (asS rfl) ?_
 refine r_seq ?_
 refine Zs ?_
 refine Zo rfl (mvI rfl) ?_
 refine Zn rfl (run_eql rfl rfl rfl) ?_
 refine r_cond_no rfl ?_
 refine r_skip ?_
 refine r_seq ?_
 refine Zs ?_
 refine Zo rfl (mvT rfl) ?_
 refine Zn rfl (run_seql rfl rfl rfl) ?_
 refine r_cond_no rfl ?_
 refine r_skip ?_
 refine r_seq ?_
 refine Zs ?_
 refine Zo rfl (mvI rfl) ?_
 refine Zn rfl (run_lss rfl rfl rfl) ?_
 refine r_cond_yes rfl ?_
 refine r_region ?_
 refine Zo rfl (mvT rfl) ?_
 refine Zo rfl (mvT rfl) ?_
 refine r_opcall rfl rfl rfl (run_callf (vs := [S _, S _]) rfl (by exact rfl) Tryz.func205 rfl (by kernel_rfl)) count1_calls ?_
 rintro e w1 ⟨rfl, rfl⟩
 refine ⟨_, rfl, ?_⟩
 refine Zo rfl (run_add rfl rfl rfl (by omega) (by omega)) ?_
 refine Zn rfl (asI rfl) ?_
 refine Zs ?_
 refine Zo rfl (mvI rfl) ?_
 refine Zo rfl (mvT rfl) ?_
 refine Zo rfl (run_lenS rfl rfl Tryz.underlying9) ?_
 refine Zo rfl (run_add rfl rfl rfl (by omega) (by omega)) ?_
 refine Zo rfl (run_min rfl rfl rfl) ?_
 refine Zn rfl (asI rfl) ?_
 refine Zs ?_
 refine Zo rfl (mvI rfl) ?_
 refine r_make (len := (s.count 32 + 1)) (zs := [_]) Tryz.underlying77 ty_9 rfl rfl rfl rfl rfl (by omega) (by omega) (by omega) (by omega) ?_
 intro ba w2 heba E2 hout hzba
 have Q2 := E2.size
 replace hV := Z0 hV E2
 refine Zn rfl (run_asg (v := .slice (some ⟨ba, 0, none⟩) _ _) rfl rfl) ?_
 refine Zs ?_
 refine Zo rfl (mvI rfl) ?_
 refine Zo rfl (run_sub rfl rfl rfl (by omega) (by omega)) ?_
 refine Zn rfl (asI rfl) ?_
 refine Zs ?_
 refine Zn rfl (asI rfl) ?_
 refine r_seq ?_
 refine r_block ?_
 refine r_loop (α := Nat) [0, 10, 11, 34, 35, 36, 37, 38, 39, 40, 41, 42, 43, 44, 45, 46, 47, 48, 49, 50, 51, 52, 53, 54, 55, 56, 57] (fun i g w => ∃ r : Str, ∃ d : List Str, g 10 = .int .i64 (i : Nat) ∧ g 0 = S r ∧ FB w ba 9 1 (s.count 32 + 1) (fun x => [S (d.getD x default)]) ∧ splitS s = d ++ splitS r ∧ s.count 32 = i + r.count 32 ∧ d.length = i ∧ r.length ≤ s.length ∧ w2.heap.size ≤ w.heap.size ∧ Evo w0 w []) (fun i => (s.count 32 + 1) - i) 0 ?_ ?_
 ·refine ⟨s, [], rfl, rfl, hout, (List.nil_append _).symm, (by omega), rfl, (by first | assumption | omega | (dsimp only; omega) | (simp; done)), (by first | assumption | omega | (dsimp only; omega) | (simp; done)), hV⟩
 rintro i g w4 ⟨r, d, hj5, hj6, hfb, hsp, hcn, hdl, hrl, hzl3, hV⟩
 have hs_w4hV := hV.size
 have hlt7 := hfb.lt
 refine Zk 10 (v := .int .i64 (i : Nat)) (by exact hj5) ?_
 refine Zk 0 (v := S r) (by exact hj6) ?_
 refine r_seq ?_
 refine Zs ?_
 refine Zo rfl (mvI rfl) ?_
 refine Zo rfl (mvI rfl) ?_
 refine Zn rfl (run_lss rfl rfl rfl) ?_
 refine r_cond rfl (fun hc8 => ?_) (fun hc8 => ?_)
 ·skip
  refine r_skip ?_
  refine r_block ?_
  refine r_seq ?_
  have hix := idx_split r
  refine r_region ?_
  refine Zo rfl (mvT rfl) ?_
  refine Zo rfl (mvT rfl) ?_
  refine r_opcall rfl rfl rfl (run_callf (vs := [S _, S _]) rfl (by exact rfl) Tryz.func206 rfl (by kernel_rfl)) index1_calls ?_
  rintro e w9 ⟨rfl, rfl⟩
  refine ⟨_, rfl, ?_⟩
  refine Zn rfl (asI rfl) ?_
  refine r_seq ?_
  refine Zs ?_
  refine Zo rfl (mvI rfl) ?_
  refine Zn rfl (run_lss rfl rfl rfl) ?_
  refine r_cond rfl (fun hc10 => ?_) (fun hc10 => ?_)
  ·skip
   have hend : splitS r = [r] ∧ r.count 32 = 0 := by rcases hix with ⟨_, h1, h2⟩ | ⟨m9, h1, _⟩; exact ⟨h1, h2⟩; omega
   clear hix
   refine r_exit rfl ?_
   refine Zs ?_
   refine Zo rfl (run_mv (v := .slice (some ⟨ba, 0, none⟩) _ _) rfl rfl) ?_
   refine Zo rfl (mvI rfl) ?_
   refine Zo rfl (mvT rfl) ?_
   refine Zo rfl (run_ix (i) rfl Tryz.underlying77 ty_9 rfl rfl (by first | exact rfl | omega) (by omega) rfl) ?_
   refine r_storeF (v := S _) (vs := [_]) (i) rfl rfl rfl hfb (by omega) ty_9 rfl rfl rfl ?_
   intro w11 E11 V11 hb_new
   have Q11 := E11.size
   replace hV := Z1 hV E11 (by first | exact .inl (by omega) | exact .inr (by simp))
   replace hfb := hb_new
   clear hb_new
   refine r_nil ?_
   refine r_seq ?_
   have hrS : RowE w11 (some ⟨ba, 0, none⟩) ba 0 (s.count 32 + 1) (splitS s) := by rw [hsp, hend.1]; exact fb_rowS (hfb.congr (fun y => by rw [← getD_snocS hdl y])) (by rw [List.length_append]; simp; omega) (by omega)
   have hsl := split_len s
   have hbd_hrS := hrS.bd
   refine Zk 9 (v := .slice (some ⟨ba, 0, none⟩) (splitS s).length (s.count 32 + 1)) (by rw [hsl]; exact rfl) ?_
   refine r_region ?_
   refine Zo rfl (run_mv (v := .slice (some ⟨ba, 0, none⟩) _ _) rfl rfl) ?_
   refine Zo rfl (mvI rfl) ?_
   refine Zo rfl (run_add rfl rfl rfl (by omega) (by omega)) ?_
   refine Zo rfl (by exact run_slE (0) ((i + 1)) rfl Tryz.underlying77 ty_9 rfl hrS lo0 (at1 rfl (by omega)) (by first | omega | (simp; omega)) (by first | omega | (simp; omega)) List.drop_zero) ?_
   have hS12 := (by have h9 := (hrS.take ((i + 1))).drop (0); rw [List.drop_zero] at h9; exact h9)
   have hbd_hS12 := hS12.bd
   refine Zn rfl (asS rfl) ?_
   refine r_ret (res1 (v := .slice _ _ _) rfl rfl) ?_
   have e9 : (splitS s).take (i + 1) = splitS s := List.take_of_length_le (by omega)
   exact ⟨_, _, _, _, by rw [e9], hV, by have h9 := hS12; rw [e9] at h9; exact h9⟩
  rcases hix with hix | ⟨m9, hm1, hm2, hm3, hm4⟩
  ·exact absurd (show Lib.indexByte r 32 < 0 by rw [hix.1]; decide) hc10
  have hrd := List.length_drop (i := m9 + 1) (l := r)
  refine r_skip ?_
  refine Zs ?_
  refine Zo rfl (run_mv (v := .slice (some ⟨ba, 0, none⟩) _ _) rfl rfl) ?_
  refine Zo rfl (mvI rfl) ?_
  refine Zo rfl (mvT rfl) ?_
  refine Zo rfl (mvI rfl) ?_
  refine Zo rfl (mvI rfl) ?_
  refine Zo rfl (run_add rfl rfl rfl (by omega) (by omega)) ?_
  refine Zo rfl (by exact run_slS (0) (m9) rfl Tryz.underlying9 rfl lo0 (at1 rfl (by omega)) (by first | omega | (simp; omega)) (by first | omega | (simp; omega))) ?_
  refine Zo rfl (run_ix (i) rfl Tryz.underlying77 ty_9 rfl rfl (by first | exact rfl | omega) (by omega) rfl) ?_
  refine r_storeF (v := S _) (vs := [_]) (i) rfl rfl rfl hfb (by omega) ty_9 rfl rfl rfl ?_
  intro w13 E13 V13 hb_new
  have Q13 := E13.size
  replace hV := Z1 hV E13 (by first | exact .inl (by omega) | exact .inr (by simp))
  replace hfb := hb_new
  clear hb_new
  refine r_nil ?_
  refine Zs ?_
  refine Zo rfl (mvT rfl) ?_
  refine Zo rfl (mvI rfl) ?_
  refine Zo rfl (mvT rfl) ?_
  refine Zo rfl (run_lenS rfl rfl Tryz.underlying9) ?_
  refine Zo rfl (run_add rfl rfl rfl (by omega) (by omega)) ?_
  refine Zo rfl (by exact run_slS ((m9 + 1)) (_) rfl Tryz.underlying9 rfl (at1 rfl (by omega)) hi0 (by first | omega | (simp; omega)) (by first | omega | (simp; omega))) ?_
  refine Zn rfl (asT rfl) ?_
  refine r_region ?_
  refine Zo rfl (mvI rfl) ?_
  refine Zo rfl (run_add rfl rfl rfl (by omega) (by omega)) ?_
  refine Zn rfl (asI rfl) ?_
  refine r_blk ?_
  refine r_again (i + 1) ?_ ?_ ?_
  ·first | omega | (dsimp only; omega)
  ·refine ⟨(r.drop (m9 + 1)), (d ++ [r.take m9]), (congrArg (Value.int _) (by omega)), (congrArg S (List.take_of_length_le (by rw [List.length_drop]; exact Nat.le_refl _))), (hfb.congr (fun y => by rw [← getD_snocS hdl y]; rfl)), (by rw [hsp, hm3, List.append_assoc]; rfl), (by omega), (by rw [List.length_append]; simp; omega), (by rw [List.length_drop]; omega), (by first | assumption | omega | (dsimp only; omega) | (simp; done)), hV⟩
  repeat (first | (with_reducible exact Agree.merge _ _ _) | (with_reducible exact Agree.refl _ _) | (with_reducible refine Agree.upd ?_ _ _ rfl) | ((with_reducible refine Agree.inner ?_ ?_); (kernel_rfl)))
 have hend : splitS r = [r] ∧ r.count 32 = 0 := by rcases idx_split r with ⟨_, h1, h2⟩ | ⟨m9, h1, _, _, h2⟩; exact ⟨h1, h2⟩; omega
 refine r_exit rfl ?_
 refine Zs ?_
 refine Zo rfl (run_mv (v := .slice (some ⟨ba, 0, none⟩) _ _) rfl rfl) ?_
 refine Zo rfl (mvI rfl) ?_
 refine Zo rfl (mvT rfl) ?_
 refine Zo rfl (run_ix (i) rfl Tryz.underlying77 ty_9 rfl rfl (by first | exact rfl | omega) (by omega) rfl) ?_
 refine r_storeF (v := S _) (vs := [_]) (i) rfl rfl rfl hfb (by omega) ty_9 rfl rfl rfl ?_
 intro w14 E14 V14 hb_new
 have Q14 := E14.size
 replace hV := Z1 hV E14 (by first | exact .inl (by omega) | exact .inr (by simp))
 replace hfb := hb_new
 clear hb_new
 refine r_nil ?_
 refine r_seq ?_
 have hrS : RowE w14 (some ⟨ba, 0, none⟩) ba 0 (s.count 32 + 1) (splitS s) := by rw [hsp, hend.1]; exact fb_rowS (hfb.congr (fun y => by rw [← getD_snocS hdl y])) (by rw [List.length_append]; simp; omega) (by omega)
 have hsl := split_len s
 have hbd_hrS := hrS.bd
 refine Zk 9 (v := .slice (some ⟨ba, 0, none⟩) (splitS s).length (s.count 32 + 1)) (by rw [hsl]; exact rfl) ?_
 refine r_region ?_
 refine Zo rfl (run_mv (v := .slice (some ⟨ba, 0, none⟩) _ _) rfl rfl) ?_
 refine Zo rfl (mvI rfl) ?_
 refine Zo rfl (run_add rfl rfl rfl (by omega) (by omega)) ?_
 refine Zo rfl (by exact run_slE (0) ((i + 1)) rfl Tryz.underlying77 ty_9 rfl hrS lo0 (at1 rfl (by omega)) (by first | omega | (simp; omega)) (by first | omega | (simp; omega)) List.drop_zero) ?_
 have hS15 := (by have h9 := (hrS.take ((i + 1))).drop (0); rw [List.drop_zero] at h9; exact h9)
 have hbd_hS15 := hS15.bd
 refine Zn rfl (asS rfl) ?_
 refine r_ret (res1 (v := .slice _ _ _) rfl rfl) ?_
 have e9 : (splitS s).take (i + 1) = splitS s := List.take_of_length_le (by omega)
 exact ⟨_, _, _, _, by rw [e9], hV, by have h9 := hS15; rw [e9] at h9; exact h9⟩
theorem split_calls {s : Str} {w0 : World} (hs : s.length ≤ 1000) :
    Calls Tryz.prog 146 #[S s, S [32]] w0 fun e w' => ∃ ao b off cap, e = .returned (.slice ao (splitS s).length cap) ∧ Evo w0 w' [] ∧ RowE w' ao b off cap (splitS s) := by
 refine calls_enter (n := 8) Tryz.func146 rfl Tryz.ntmps146 rfl ?_
 have hV : Evo w0 w0 [] := Evo.refl _ _
 refine Zs ?_
 refine Zn rfl (asS rfl) ?_
 refine Zs ?_
 refine Zo rfl (mvT rfl) ?_
 refine Zo rfl (mvT rfl) ?_
 refine r_opcall rfl rfl rfl (run_callf (vs := [S _, S _, .int _ _, .int _ _]) rfl (by exact rfl) Tryz.func185 rfl (by kernel_rfl)) (gensplit_calls (s := s) hs) ?_
 rintro e w1 ⟨ao1, bs1, off1, cap1, rfl, hE1, hr1⟩
 refine ⟨_, rfl, ?_⟩
 have Q1 := hE1.size
 replace hV := Z0 hV hE1
 refine Zn rfl (asS rfl) ?_
 refine r_ret (res1 (v := .slice _ _ _) rfl rfl) ?_
 exact ⟨_, _, _, _, rfl, hV, hr1⟩
theorem plain_no1 {s : Str} (h : s = [] ∨ (64 : Int) < (s.length : Int)) : ¬ plainP s := fun q => by
  rcases h with h | h
  · exact q.1.1 h
  · have := q.1.2; omega
theorem plain_no2 {s : Str} {k : Nat} (hk : k < s.length) (h : ¬ clsB (s.getD k default) = clsB (s.getD 0 default)) : ¬ plainP s := fun q => h (q.2.1 k hk)
theorem plain_iff {s : Str} (h : ¬ (s = [] ∨ (64 : Int) < (s.length : Int))) (hall : ∀ j, j < s.length → clsB (s.getD j default) = clsB (s.getD 0 default)) : (clsB (s.getD 0 default) = 4 ∨ clsB (s.getD 0 default) = 3) ↔ plainP s :=
  ⟨fun q => ⟨⟨fun e => h (.inl e), Int.ofNat_le.1 (Int.not_lt.1 (fun e => h (.inr e)))⟩, hall, q⟩, fun q => q.2.2⟩
theorem tplain_calls {s : Str} {w0 : World}  :
    Calls Tryz.prog 96 #[S s] w0 fun e w' => e = .returned (.bool (decide (plainP s))) ∧ Evo w0 w' [] := by
 refine calls_enter (n := 33) Tryz.func96 rfl Tryz.ntmps96 rfl ?_
 have hV : Evo w0 w0 [] := Evo.refl _ _
 refine Zs ?_
 refine Zn rfl (asB rfl) ?_
 refine r_seq ?_
 refine Zs ?_
 refine Zo rfl (mvT rfl) ?_
 refine Zo rfl (run_seql rfl rfl rfl) ?_
 refine Zo rfl (mvB rfl) ?_
 refine r_g rfl (wantF rfl) rfl (fun hg => run_mv (v := S _) rfl rfl) ?_
 refine r_g rfl (wantF rfl) rfl (fun hg => run_lenS rfl (glv rfl (fun h => h) hg) Tryz.underlying9) ?_
 refine r_g rfl (wantF rfl) rfl (fun hg => run_gtr rfl (glv rfl (fun h => h) hg) rfl) ?_
 refine Zn rfl (run_pick_or rfl rfl rfl (fun hq => glv rfl (fun h => h) hq)) ?_
 refine r_cond rfl (fun hc1 => ?_) (fun hc1 => ?_)
 ·skip
  refine Zs ?_
  refine Zn rfl (asB rfl) ?_
  refine r_ret (res1 (v := .bool _) rfl rfl) ?_
  first | exact ⟨ret_bool (decide_eq_false (plain_no1 hc1)).symm, hV⟩ | exact ⟨ret_bool (decide_eq_false (plain_no2 (by omega) hc1)).symm, hV⟩ | exact ⟨ret_bool (decide_eq_decide.2 (plain_iff hne (fun j hj => hall j (by omega)))), hV⟩
 refine r_skip ?_
 refine r_seq ?_
 have hne := hc1
 have hl0 : 0 < s.length := List.length_pos_iff.2 (fun e => hne (.inl e))
 refine r_region ?_
 refine Zo rfl (mvT rfl) ?_
 refine Zo rfl (run_ixS (0) rfl Tryz.underlying9 rfl rfl (by first | exact rfl | omega) (by omega)) ?_
 refine r_opcall rfl rfl rfl (run_callf (vs := [.int _ _]) rfl (by exact rfl) Tryz.func143 rfl (by kernel_rfl)) of_calls ?_
 rintro e w2 ⟨rfl, hE2⟩
 refine ⟨_, rfl, ?_⟩
 have Q2 := hE2.size
 replace hV := Z0 hV hE2
 refine Zn rfl (asI rfl) ?_
 refine r_seq ?_
 refine Zs ?_
 refine Zo rfl (mvT rfl) ?_
 refine Zo rfl (run_lenS rfl rfl Tryz.underlying9) ?_
 refine Zn rfl (mvI rfl) ?_
 refine r_block ?_
 refine r_loop (α := Nat) [2, 4, 17, 18, 19, 20, 21, 22, 23, 24, 25, 26] (fun k g w => g 17 = .int .i64 (k : Nat) ∧ k ≤ s.length ∧ (∀ j, j < k → clsB (s.getD j default) = clsB (s.getD 0 default)) ∧ w2.heap.size ≤ w.heap.size ∧ Evo w0 w []) (fun k => s.length - k) 0 ?_ ?_
 ·refine ⟨(by first | exact rfl | exact congrArg (Value.int _) (by omega) | exact congrArg (Value.int _) (by dsimp only; omega) | exact congrArg (Value.int _) (by simp) | exact congrArg S (by simp)), (by first | assumption | omega | (dsimp only; omega) | (simp; done)), (fun j h => by omega), (by first | assumption | omega | (dsimp only; omega) | (simp; done)), hV⟩
 rintro k g w4 ⟨hj5, hk_k, hall, hzl3, hV⟩
 have hs_w4hV := hV.size
 refine Zk 17 (v := .int .i64 (k : Nat)) (by exact hj5) ?_
 refine Zs ?_
 refine Zn rfl (run_lss rfl rfl rfl) ?_
 refine r_seq ?_
 refine r_cond rfl (fun hc6 => ?_) (fun hc6 => ?_)
 ·skip
  refine r_skip ?_
  refine r_seq ?_
  refine r_block ?_
  refine Zs ?_
  refine Zo rfl (mvI rfl) ?_
  refine Zn rfl (asI rfl) ?_
  refine Zs ?_
  refine Zo rfl (mvT rfl) ?_
  refine Zo rfl (mvI rfl) ?_
  refine Zo rfl (run_ixS (k) rfl Tryz.underlying9 rfl rfl (by first | exact rfl | omega) (by omega)) ?_
  refine r_opcall rfl rfl rfl (run_callf (vs := [.int _ _]) rfl (by exact rfl) Tryz.func143 rfl (by kernel_rfl)) of_calls ?_
  rintro e w7 ⟨rfl, hE7⟩
  refine ⟨_, rfl, ?_⟩
  have Q7 := hE7.size
  replace hV := Z0 hV hE7
  refine Zo rfl (mvI rfl) ?_
  refine Zn rfl (run_neq rfl rfl rfl) ?_
  refine r_cond rfl (fun hc8 => ?_) (fun hc8 => ?_)
  ·skip
   refine Zs ?_
   refine Zn rfl (asB rfl) ?_
   refine r_ret (res1 (v := .bool _) rfl rfl) ?_
   first | exact ⟨ret_bool (decide_eq_false (plain_no1 hc8)).symm, hV⟩ | exact ⟨ret_bool (decide_eq_false (plain_no2 (by omega) hc8)).symm, hV⟩ | exact ⟨ret_bool (decide_eq_decide.2 (plain_iff hne (fun j hj => hall j (by omega)))), hV⟩
  refine r_skip ?_
  refine r_blk ?_
  refine r_region ?_
  refine Zo rfl (run_add rfl rfl rfl (by omega) (by omega)) ?_
  refine Zn rfl (mvI rfl) ?_
  refine r_again (k + 1) ?_ ?_ ?_
  ·first | omega | (dsimp only; omega)
  ·refine ⟨(by first | exact rfl | exact congrArg (Value.int _) (by omega) | exact congrArg (Value.int _) (by dsimp only; omega) | exact congrArg (Value.int _) (by simp) | exact congrArg S (by simp)), (by first | assumption | omega | (dsimp only; omega) | (simp; done)), (upto0 hall (by first | exact Classical.not_not.1 hc8 | simpa using hc8)), (by first | assumption | omega | (dsimp only; omega) | (simp; done)), hV⟩
  repeat (first | (with_reducible exact Agree.merge _ _ _) | (with_reducible exact Agree.refl _ _) | (with_reducible refine Agree.upd ?_ _ _ rfl) | ((with_reducible refine Agree.inner ?_ ?_); (kernel_rfl)))
 refine r_exit rfl ?_
 refine Zs ?_
 refine Zo rfl (mvI rfl) ?_
 refine Zo rfl (run_eql rfl rfl rfl) ?_
 refine Zo rfl (mvB rfl) ?_
 refine r_g rfl (wantF rfl) rfl (fun hg => run_mv (v := .int _ _) rfl rfl) ?_
 refine r_g rfl (wantF rfl) rfl (fun hg => run_eql rfl (glv rfl (fun h => h) hg) rfl) ?_
 refine Zo rfl (run_pick_or rfl rfl rfl (fun hq => glv rfl (fun h => h) hq)) ?_
 refine Zn rfl (asB rfl) ?_
 refine r_ret (res1 (v := .bool _) rfl rfl) ?_
 first | exact ⟨ret_bool (decide_eq_false (plain_no1 hc6)).symm, hV⟩ | exact ⟨ret_bool (decide_eq_false (plain_no2 (by omega) hc6)).symm, hV⟩ | exact ⟨ret_bool (decide_eq_decide.2 (plain_iff hne (fun j hj => hall j (by omega)))), hV⟩
theorem rplain_calls {s : Str} {w0 : World}  :
    Calls Tryz.prog 56 #[S s] w0 fun e w' => e = .returned (.bool (decide (plainP s))) ∧ Evo w0 w' [] := by
 refine calls_enter (n := 33) Tryz.func56 rfl Tryz.ntmps56 rfl ?_
 have hV : Evo w0 w0 [] := Evo.refl _ _
 refine Zs ?_
 refine Zn rfl (asB rfl) ?_
 refine r_seq ?_
 refine Zs ?_
 refine Zo rfl (mvT rfl) ?_
 refine Zo rfl (run_seql rfl rfl rfl) ?_
 refine Zo rfl (mvB rfl) ?_
 refine r_g rfl (wantF rfl) rfl (fun hg => run_mv (v := S _) rfl rfl) ?_
 refine r_g rfl (wantF rfl) rfl (fun hg => run_lenS rfl (glv rfl (fun h => h) hg) Tryz.underlying9) ?_
 refine r_g rfl (wantF rfl) rfl (fun hg => run_gtr rfl (glv rfl (fun h => h) hg) rfl) ?_
 refine Zn rfl (run_pick_or rfl rfl rfl (fun hq => glv rfl (fun h => h) hq)) ?_
 refine r_cond rfl (fun hc1 => ?_) (fun hc1 => ?_)
 ·skip
  refine Zs ?_
  refine Zn rfl (asB rfl) ?_
  refine r_ret (res1 (v := .bool _) rfl rfl) ?_
  first | exact ⟨ret_bool (decide_eq_false (plain_no1 hc1)).symm, hV⟩ | exact ⟨ret_bool (decide_eq_false (plain_no2 (by omega) hc1)).symm, hV⟩ | exact ⟨ret_bool (decide_eq_decide.2 (plain_iff hne (fun j hj => hall j (by omega)))), hV⟩
 refine r_skip ?_
 refine r_seq ?_
 have hne := hc1
 have hl0 : 0 < s.length := List.length_pos_iff.2 (fun e => hne (.inl e))
 refine r_region ?_
 refine Zo rfl (mvT rfl) ?_
 refine Zo rfl (run_ixS (0) rfl Tryz.underlying9 rfl rfl (by first | exact rfl | omega) (by omega)) ?_
 refine r_opcall rfl rfl rfl (run_callf (vs := [.int _ _]) rfl (by exact rfl) Tryz.func101 rfl (by kernel_rfl)) rclass_calls ?_
 rintro e w2 ⟨rfl, hE2⟩
 refine ⟨_, rfl, ?_⟩
 have Q2 := hE2.size
 replace hV := Z0 hV hE2
 refine Zn rfl (asI rfl) ?_
 refine r_seq ?_
 refine Zs ?_
 refine Zn rfl (asI rfl) ?_
 refine r_block ?_
 refine r_loop (α := Nat) [2, 4, 15, 16, 17, 18, 19, 20, 21, 22, 23, 24, 25, 26] (fun k g w => g 4 = .int .i64 (k : Nat) ∧ k ≤ s.length ∧ (∀ j, j < k → clsB (s.getD j default) = clsB (s.getD 0 default)) ∧ w2.heap.size ≤ w.heap.size ∧ Evo w0 w []) (fun k => s.length - k) 0 ?_ ?_
 ·refine ⟨rfl, (by first | assumption | omega | (dsimp only; omega) | (simp; done)), (fun j h => by omega), (by first | assumption | omega | (dsimp only; omega) | (simp; done)), hV⟩
 rintro k g w4 ⟨hj5, hk, hall, hzl3, hV⟩
 have hs_w4hV := hV.size
 refine Zk 4 (v := .int .i64 (k : Nat)) (by exact hj5) ?_
 refine r_seq ?_
 refine Zs ?_
 refine Zo rfl (mvI rfl) ?_
 refine Zo rfl (mvT rfl) ?_
 refine Zo rfl (run_lenS rfl rfl Tryz.underlying9) ?_
 refine Zn rfl (run_lss rfl rfl rfl) ?_
 refine r_cond rfl (fun hc6 => ?_) (fun hc6 => ?_)
 ·skip
  refine r_skip ?_
  refine r_seq ?_
  refine r_block ?_
  refine Zs ?_
  refine Zo rfl (mvT rfl) ?_
  refine Zo rfl (mvI rfl) ?_
  refine Zo rfl (run_ixS (k) rfl Tryz.underlying9 rfl rfl (by first | exact rfl | omega) (by omega)) ?_
  refine r_opcall rfl rfl rfl (run_callf (vs := [.int _ _]) rfl (by exact rfl) Tryz.func101 rfl (by kernel_rfl)) rclass_calls ?_
  rintro e w7 ⟨rfl, hE7⟩
  refine ⟨_, rfl, ?_⟩
  have Q7 := hE7.size
  replace hV := Z0 hV hE7
  refine Zo rfl (mvI rfl) ?_
  refine Zn rfl (run_neq rfl rfl rfl) ?_
  refine r_cond rfl (fun hc8 => ?_) (fun hc8 => ?_)
  ·skip
   refine Zs ?_
   refine Zn rfl (asB rfl) ?_
   refine r_ret (res1 (v := .bool _) rfl rfl) ?_
   first | exact ⟨ret_bool (decide_eq_false (plain_no1 hc8)).symm, hV⟩ | exact ⟨ret_bool (decide_eq_false (plain_no2 (by omega) hc8)).symm, hV⟩ | exact ⟨ret_bool (decide_eq_decide.2 (plain_iff hne (fun j hj => hall j (by omega)))), hV⟩
  refine r_skip ?_
  refine r_blk ?_
  refine r_region ?_
  refine Zo rfl (mvI rfl) ?_
  refine Zo rfl (run_add rfl rfl rfl (by omega) (by omega)) ?_
  refine Zn rfl (asI rfl) ?_
  refine r_again (k + 1) ?_ ?_ ?_
  ·first | omega | (dsimp only; omega)
  ·refine ⟨(congrArg (Value.int _) (by omega)), (by first | assumption | omega | (dsimp only; omega) | (simp; done)), (upto0 hall (by first | exact Classical.not_not.1 hc8 | simpa using hc8)), (by first | assumption | omega | (dsimp only; omega) | (simp; done)), hV⟩
  repeat (first | (with_reducible exact Agree.merge _ _ _) | (with_reducible exact Agree.refl _ _) | (with_reducible refine Agree.upd ?_ _ _ rfl) | ((with_reducible refine Agree.inner ?_ ?_); (kernel_rfl)))
 refine r_exit rfl ?_
 refine Zs ?_
 refine Zo rfl (mvI rfl) ?_
 refine Zo rfl (run_eql rfl rfl rfl) ?_
 refine Zo rfl (mvB rfl) ?_
 refine r_g rfl (wantF rfl) rfl (fun hg => run_mv (v := .int _ _) rfl rfl) ?_
 refine r_g rfl (wantF rfl) rfl (fun hg => run_eql rfl (glv rfl (fun h => h) hg) rfl) ?_
 refine Zo rfl (run_pick_or rfl rfl rfl (fun hq => glv rfl (fun h => h) hq)) ?_
 refine Zn rfl (asB rfl) ?_
 refine r_ret (res1 (v := .bool _) rfl rfl) ?_
 first | exact ⟨ret_bool (decide_eq_false (plain_no1 hc6)).symm, hV⟩ | exact ⟨ret_bool (decide_eq_false (plain_no2 (by omega) hc6)).symm, hV⟩ | exact ⟨ret_bool (decide_eq_decide.2 (plain_iff hne (fun j hj => hall j (by omega)))), hV⟩
end Go.Proofs.YtlfjocbnbceceaaGreatDoor
namespace Go.Proofs.YtlfjocbnbceceaaGreatDoor
open Go Go.RowKit Go.Vc
theorem allD {l : List Str} {Q : Str → Prop} (h : ∀ j, j < l.length → Q (l.getD j default)) : ∀ w ∈ l, Q w := fun w hw => by
  obtain ⟨j, hj, e⟩ := List.getElem_of_mem hw
  have h2 := h j hj
  rwa [show l.getD j default = w by simp [List.getD, hj, e]] at h2
theorem u8_32 {c : UInt8} : ((c.toNat : Nat) : Int) = 32 ↔ c = 32 := by
  constructor
  · intro h
    have h2 : c.toNat = 32 := by omega
    exact UInt8.toNat_inj.1 h2
  · rintro rfl; rfl
def PhSt (s : Str) (i fr : Nat) (d : List Str) : Prop := (∀ w ∈ d, plainP w) ∧ ((fr ≤ i ∧ i ≤ s.length ∧ splitS s = d ++ splitS (s.drop fr) ∧ ∀ j, fr ≤ j → j < i → s.getD j default ≠ 32) ∨ (i = s.length + 1 ∧ fr = s.length + 1 ∧ splitS s = d))
def piece (s : Str) (fr i : Nat) : Str := (s.drop fr).take (i - fr)
theorem PhSt.start (s : Str) : PhSt s 0 0 [] := ⟨by simp, .inl ⟨Nat.le_refl _, Nat.zero_le _, rfl, fun j h1 h2 => by omega⟩⟩
theorem PhSt.fr {s : Str} {i fr : Nat} {d : List Str} (h : PhSt s i fr d) (hi : i ≤ s.length) : fr ≤ i ∧ splitS s = d ++ splitS (s.drop fr) ∧ ∀ j, fr ≤ j → j < i → s.getD j default ≠ 32 := by
  rcases h.2 with ⟨h1, h2, h3, h4⟩ | ⟨h1, _⟩
  · exact ⟨h1, h3, h4⟩
  · omega
theorem PhSt.go {s : Str} {i fr : Nat} {d : List Str} (h : PhSt s i fr d) (hi : i ≤ s.length) (hn : ¬ (i = s.length ∨ s.getD i default = 32)) : PhSt s (i + 1) fr d := by
  obtain ⟨h1, h2, h3⟩ := h.fr hi
  have h4 : ¬ i = s.length := fun q => hn (.inl q)
  refine ⟨h.1, .inl ⟨by omega, by omega, h2, fun j h5 h6 => ?_⟩⟩
  by_cases e : j = i
  · subst e; exact fun q => hn (.inr q)
  · exact h3 j h5 (by omega)
theorem getD_dropS {s : Str} {fr k : Nat} : (s.drop fr).getD k default = s.getD (fr + k) default := by simp [List.getD, List.getElem?_drop]
theorem piece_split {s : Str} {i fr : Nat} {d : List Str} (h : PhSt s i fr d) (hi : i ≤ s.length) (hb : i = s.length ∨ s.getD i default = 32) : (i = s.length ∧ splitS s = d ++ [piece s fr i]) ∨ (i < s.length ∧ splitS s = d ++ [piece s fr i] ++ splitS (s.drop (i + 1))) := by
  obtain ⟨h1, h2, h3⟩ := h.fr hi
  have hl : (s.drop fr).length = s.length - fr := List.length_drop
  rcases split_at (s.drop fr) (i - fr) (by omega) (fun k hk => by rw [getD_dropS]; exact h3 _ (by omega) (by omega)) with ⟨h4, h5⟩ | ⟨h4, h5⟩
  · refine .inl ⟨by omega, ?_⟩
    rw [h2, h5]; unfold piece; rw [List.take_of_length_le (by omega)]
  · have hlt : i < s.length := by omega
    refine .inr ⟨hlt, ?_⟩
    have h6 : s.getD i default = 32 := hb.resolve_left (by omega)
    rw [h2, h5 (by rw [getD_dropS, show fr + (i - fr) = i by omega]; exact h6), List.drop_drop, show fr + (i - fr + 1) = i + 1 by omega, List.append_assoc]; rfl
theorem PhSt.cut {s : Str} {i fr : Nat} {d : List Str} (h : PhSt s i fr d) (hi : i ≤ s.length) (hb : i = s.length ∨ s.getD i default = 32) (hp : plainP (piece s fr i)) : PhSt s (i + 1) (i + 1) (d ++ [piece s fr i]) := by
  refine ⟨fun w hw => (List.mem_append.1 hw).elim (h.1 w) (fun q => by rw [List.mem_singleton] at q; rw [q]; exact hp), ?_⟩
  rcases piece_split h hi hb with ⟨h1, h2⟩ | ⟨h1, h2⟩
  · exact .inr ⟨by omega, by omega, h2⟩
  · exact .inl ⟨Nat.le_refl _, by omega, h2, fun j h3 h4 => by omega⟩
theorem PhSt.bad {s : Str} {i fr : Nat} {d : List Str} (h : PhSt s i fr d) (hi : i ≤ s.length) (hb : i = s.length ∨ s.getD i default = 32) (hp : ¬ plainP (piece s fr i)) : ¬ phraseOk s := fun q => hp (q.1 _ (by
  rcases piece_split h hi hb with ⟨_, h2⟩ | ⟨_, h2⟩ <;> rw [h2] <;> simp))
theorem PhSt.fin {s : Str} {i fr : Nat} {d : List Str} (h : PhSt s i fr d) (hi : s.length < i) : splitS s = d ∧ ∀ w ∈ d, plainP w := by
  rcases h.2 with ⟨_, h2, _⟩ | ⟨_, _, h2⟩
  · omega
  · exact ⟨h2, h.1⟩
def oneS (ws : List Str) : List (List Str) := ws.map (fun w => [lowS w])
def hasB (s : Str) (l : List Vc.Item) : Bool := (List.range l.length).any (fun i => decide (0 ≤ cT l i (oneS (wordsP s))))
theorem has_yes {s : Str} {l : List Vc.Item} {i : Nat} (hi : i < l.length) (h : 0 ≤ cT l i (oneS (wordsP s))) : hasB s l = true := by
  unfold hasB; rw [List.any_eq_true]; exact ⟨i, List.mem_range.2 hi, decide_eq_true h⟩
theorem has_no {s : Str} {l : List Vc.Item} (h : ∀ i, i < l.length → ¬ 0 ≤ cT l i (oneS (wordsP s))) : hasB s l = false := by
  unfold hasB; rw [List.any_eq_false]; intro i hi; simpa using h i (List.mem_range.1 hi)
theorem twords_calls {s : Str} {w0 : World}  :
    Calls Tryz.prog 98 #[S s] w0 fun e w' => ∃ ao b off cap, e = .returned (.slice ao (wordsP s).length cap) ∧ Evo w0 w' [] ∧ RowE w' ao b off cap (wordsP s) := by
 refine calls_enter (n := 25) Tryz.func98 rfl Tryz.ntmps98 rfl ?_
 have hV : Evo w0 w0 [] := Evo.refl _ _
 refine Zs ?_
 refine Zn rfl (asS rfl) ?_
 refine r_seq ?_
 refine Zs ?_
 refine Zo rfl (mvT rfl) ?_
 refine Zo rfl (run_lenS rfl rfl Tryz.underlying9) ?_
 refine Zn rfl (run_gtr rfl rfl rfl) ?_
 refine r_cond rfl (fun hc1 => ?_) (fun hc1 => ?_)
 ·skip
  refine Zs ?_
  refine Zn rfl (asS rfl) ?_
  refine r_ret (res1 (v := .slice _ _ _) rfl rfl) ?_
  exact ⟨none, 0, 0, 0, by rw [words_no (fun q => by have := ok_len q; omega)]; rfl, hV, by rw [words_no (fun q => by have := ok_len q; omega)]; exact RowE.nil _ _ _ _ _⟩
 refine r_skip ?_
 refine Zs ?_
 refine Zo rfl (mvT rfl) ?_
 refine r_opcall rfl rfl rfl (run_callf (vs := [S _, S _]) rfl (by exact rfl) Tryz.func146 rfl (by kernel_rfl)) (split_calls (s := s) (by omega)) ?_
 rintro e w2 ⟨ao2, bs2, off2, cap2, rfl, hE2, hr2⟩
 refine ⟨_, rfl, ?_⟩
 have Q2 := hE2.size
 replace hV := Z0 hV hE2
 refine Zn rfl (asS rfl) ?_
 refine r_seq ?_
 refine r_seq ?_
 have hI3 : Evo w2 w2 [] := Evo.refl _ _
 have hr20 := keepE hr2
 have hst9 := split_total s
 refine r_region ?_
 refine Zo rfl (mvS rfl) ?_
 refine Zo rfl (run_lenSl rfl rfl Tryz.underlying77) ?_
 refine Zn rfl (mvI rfl) ?_
 refine r_block ?_
 refine r_loop (α := Nat) [2, 5, 13, 14, 15, 16, 17, 18, 19, 20] (fun k g w => g 13 = .int .i64 (k : Nat) ∧ k ≤ (splitS s).length ∧ (∀ j, j < k → plainP ((splitS s).getD j default)) ∧ w2.heap.size ≤ w.heap.size ∧ Evo w0 w [] ∧ Evo w2 w []) (fun k => (splitS s).length - k) 0 ?_ ?_
 ·refine ⟨(by first | exact rfl | exact congrArg (Value.int _) (by omega) | exact congrArg (Value.int _) (by dsimp only; omega) | exact congrArg (Value.int _) (by simp) | exact congrArg S (by simp)), (by first | assumption | omega | (dsimp only; omega) | (simp; done)), (fun j h => by omega), (by first | assumption | omega | (dsimp only; omega) | (simp; done)), hV, hI3⟩
 rintro k g w5 ⟨hj6, hk_k, hall, hzl4, hV, hI3⟩
 have hs_w5hV := hV.size
 have hs_w5hI3 := hI3.size
 replace hr2 := hr20 _ hI3
 refine Zk 13 (v := .int .i64 (k : Nat)) (by exact hj6) ?_
 refine Zs ?_
 refine Zn rfl (run_lss rfl rfl rfl) ?_
 refine r_seq ?_
 refine r_cond rfl (fun hc7 => ?_) (fun hc7 => ?_)
 ·skip
  refine r_skip ?_
  refine r_seq ?_
  refine r_block ?_
  refine Zs ?_
  refine Zo rfl (run_ix (k) rfl Tryz.underlying77 ty_9 rfl rfl (by first | exact rfl | omega) (by omega) (hr2.addr (i := k) (by omega))) ?_
  have hA80 := fun (w' : World) (h : Evo w2 w' []) => (hr20 w' h).atD (k) (by omega)
  have hA8 := hA80 _ hI3
  refine Zo rfl (run_ld1 rfl ag_9 rfl (hA8.cell 0 rfl)) ?_
  refine Zn rfl (asT rfl) ?_
  refine Zs ?_
  refine Zo rfl (mvT rfl) ?_
  refine r_opcall rfl rfl rfl (run_callf (vs := [S _]) rfl (by exact rfl) Tryz.func96 rfl (by kernel_rfl)) (tplain_calls (s := ((splitS s).getD k default))) ?_
  rintro e w9 ⟨rfl, hE9⟩
  refine ⟨_, rfl, ?_⟩
  have Q9 := hE9.size
  replace hV := Z0 hV hE9
  replace hI3 := Z0 hI3 hE9
  replace hr2 := hr20 _ hI3
  refine Zn rfl (run_not rfl rfl) ?_
  refine r_cond rfl (fun hc10 => ?_) (fun hc10 => ?_)
  ·skip
   refine Zs ?_
   refine Zn rfl (asS rfl) ?_
   refine r_ret (res1 (v := .slice _ _ _) rfl rfl) ?_
   exact ⟨none, 0, 0, 0, by rw [words_no (fun q => hc10 (q.1 _ (getD_in (by omega))))]; rfl, hV, by rw [words_no (fun q => hc10 (q.1 _ (getD_in (by omega))))]; exact RowE.nil _ _ _ _ _⟩
  refine r_skip ?_
  refine r_blk ?_
  refine r_region ?_
  refine Zo rfl (run_add rfl rfl rfl (by omega) (by omega)) ?_
  refine Zn rfl (mvI rfl) ?_
  refine r_again (k + 1) ?_ ?_ ?_
  ·first | omega | (dsimp only; omega)
  ·refine ⟨(by first | exact rfl | exact congrArg (Value.int _) (by omega) | exact congrArg (Value.int _) (by dsimp only; omega) | exact congrArg (Value.int _) (by simp) | exact congrArg S (by simp)), (by first | assumption | omega | (dsimp only; omega) | (simp; done)), (upto0 hall (by first | exact Classical.not_not.1 hc10 | exact hc10)), (by first | assumption | omega | (dsimp only; omega) | (simp; done)), hV, hI3⟩
  repeat (first | (with_reducible exact Agree.merge _ _ _) | (with_reducible exact Agree.refl _ _) | (with_reducible refine Agree.upd ?_ _ _ rfl) | ((with_reducible refine Agree.inner ?_ ?_); (kernel_rfl)))
 refine r_exit rfl ?_
 refine r_seq ?_
 refine Zs ?_
 refine Zo rfl (mvS rfl) ?_
 refine Zo rfl (run_lenSl rfl rfl Tryz.underlying77) ?_
 refine Zn rfl (run_gtr rfl rfl rfl) ?_
 refine r_cond rfl (fun hc11 => ?_) (fun hc11 => ?_)
 ·skip
  refine Zs ?_
  refine Zn rfl (asS rfl) ?_
  refine r_ret (res1 (v := .slice _ _ _) rfl rfl) ?_
  exact ⟨none, 0, 0, 0, by rw [words_no (fun q => by have := q.2; omega)]; rfl, hV, by rw [words_no (fun q => by have := q.2; omega)]; exact RowE.nil _ _ _ _ _⟩
 refine r_skip ?_
 refine Zs ?_
 refine Zo rfl (mvS rfl) ?_
 refine Zn rfl (asS rfl) ?_
 refine r_ret (res1 (v := .slice _ _ _) rfl rfl) ?_
 exact ⟨_, _, _, _, by rw [words_ok ⟨allD (fun j hj => hall j (by omega)), by omega⟩], hV, by rw [words_ok ⟨allD (fun j hj => hall j (by omega)), by omega⟩]; exact hr2⟩
theorem bnd_iff {s : Str} {i : Nat} : ((i : Int) = (s.length : Int) ∨ (((s.getD i default).toNat : Nat) : Int) = 32) ↔ (i = s.length ∨ s.getD i default = 32) := by
  rw [u8_32]; exact or_congr_left (by omega)
theorem ret_vb {v : Value} {p q : Bool} (h : p = q) : Ending.returned (.tuple #[v, .bool p]) = .returned (.tuple #[v, .bool q]) := by rw [h]
set_option maxHeartbeats 1000000 in
theorem rphrase_calls {s : Str} {w0 : World} (hs : s.length ≤ 1000000000) :
    Calls Tryz.prog 58 #[S s] w0 fun e w' => ∃ v l9, e = .returned (.tuple #[v, .bool (decide (phraseOk s))]) ∧ Evo w0 w' [] ∧ OwnE w' w0.heap.size 9 v l9 ∧ (phraseOk s → l9 = splitS s) := by
 refine calls_enter (n := 42) Tryz.func58 rfl Tryz.ntmps58 rfl ?_
 have hV : Evo w0 w0 [] := Evo.refl _ _
 refine Zs ?_
 refine Zo rfl (asS rfl) ?_
 refine Zn rfl (asB rfl) ?_
 refine Zs ?_
 refine Zn rfl (asS rfl) ?_
 refine Zs ?_
 refine Zn rfl (asI rfl) ?_
 refine r_seq ?_
 refine Zs ?_
 refine Zn rfl (asI rfl) ?_
 refine r_block ?_
 refine r_loop (α := Nat) [2, 3, 4, 5, 6, 7, 8, 9, 10, 11, 12, 13, 14, 15, 16, 17, 18, 19, 20, 21, 22, 23, 24, 25, 26, 27, 28, 29, 30, 31, 32, 33, 34, 35, 36, 37] (fun i g w => ∃ fr : Nat, ∃ vo : Value, ∃ d : List Str, g 6 = .int .i64 (i : Nat) ∧ g 5 = .int .i64 (fr : Nat) ∧ g 4 = vo ∧ i ≤ s.length + 1 ∧ OwnE w w0.heap.size 9 vo d ∧ PhSt s i fr d ∧ d.length ≤ i ∧ w0.heap.size ≤ w.heap.size ∧ Evo w0 w []) (fun i => s.length + 1 - i) 0 ?_ ?_
 ·refine ⟨0, _, [], rfl, rfl, rfl, (by first | assumption | omega | (dsimp only; omega) | (simp; done)), (OwnE.nil _ _ _), (PhSt.start s), (Nat.le_refl _), (by first | assumption | omega | (dsimp only; omega) | (simp; done)), hV⟩
 rintro i g w2 ⟨fr, vo, d, hj3, hj4, hj5, hi1, hoo, hst, hdl, hzl1, hV⟩
 have hs_w2hV := hV.size
 refine Zk 6 (v := .int .i64 (i : Nat)) (by exact hj3) ?_
 refine Zk 5 (v := .int .i64 (fr : Nat)) (by exact hj4) ?_
 refine Zk 4 (v := vo) (by exact hj5) ?_
 refine r_seq ?_
 refine Zs ?_
 refine Zo rfl (mvI rfl) ?_
 refine Zo rfl (mvT rfl) ?_
 refine Zo rfl (run_lenS rfl rfl Tryz.underlying9) ?_
 refine Zn rfl (run_leq rfl rfl rfl) ?_
 refine r_cond rfl (fun hc6 => ?_) (fun hc6 => ?_)
 ·skip
  refine r_skip ?_
  refine r_seq ?_
  refine r_block ?_
  refine Zs ?_
  refine Zo rfl (mvI rfl) ?_
  refine Zo rfl (mvT rfl) ?_
  refine Zo rfl (run_lenS rfl rfl Tryz.underlying9) ?_
  refine Zo rfl (run_eql rfl rfl rfl) ?_
  refine Zo rfl (mvB rfl) ?_
  refine r_g rfl (wantF rfl) rfl (fun hg => run_mv (v := S _) rfl rfl) ?_
  refine r_g rfl (wantF rfl) rfl (fun hg => run_mv (v := .int _ _) rfl rfl) ?_
  refine r_g rfl (wantF rfl) rfl (fun hg => run_ixS (i) rfl Tryz.underlying9 (glv rfl (fun h => h) hg) (glv rfl (fun h => h) hg) (by first | exact rfl | omega) (by omega)) ?_
  refine r_g rfl (wantF rfl) rfl (fun hg => run_eql rfl (glv rfl (fun h => h) hg) rfl) ?_
  refine Zn rfl (run_pick_or rfl rfl rfl (fun hq => glv rfl (fun h => h) hq)) ?_
  refine r_cond rfl (fun hc7 => ?_) (fun hc7 => ?_)
  ·skip
   refine r_seq ?_
   refine r_seq ?_
   have hbd9 := bnd_iff.1 hc7
   have hfr := (hst.fr (by omega)).1
   refine r_region ?_
   refine Zo rfl (mvT rfl) ?_
   refine Zo rfl (mvI rfl) ?_
   refine Zo rfl (mvI rfl) ?_
   refine Zo rfl (by exact run_slS (fr) (i) rfl Tryz.underlying9 rfl (at1 rfl (by omega)) (at1 rfl (by omega)) (by first | omega | (simp; omega)) (by first | omega | (simp; omega))) ?_
   refine r_opcall rfl rfl rfl (run_callf (vs := [S _]) rfl (by exact rfl) Tryz.func56 rfl (by kernel_rfl)) (rplain_calls (s := (piece s fr i))) ?_
   rintro e w8 ⟨rfl, hE8⟩
   refine ⟨_, rfl, ?_⟩
   have Q8 := hE8.size
   replace hV := Z0 hV hE8
   replace hoo := hoo.evo0 hE8
   refine Zn rfl (run_not rfl rfl) ?_
   refine r_cond rfl (fun hc9 => ?_) (fun hc9 => ?_)
   ·skip
    refine Zs ?_
    refine Zo rfl (asS rfl) ?_
    refine Zn rfl (asB rfl) ?_
    refine r_ret (res2 (v := .slice _ _ _) (u := .bool _) rfl rfl rfl) ?_
    exact ⟨_, [], ret_vb (decide_eq_false (hst.bad (by omega) hbd9 hc9)).symm, hV, OwnE.nil _ _ _, fun q => absurd q (hst.bad (by omega) hbd9 hc9)⟩
   refine r_skip ?_
   refine r_seq ?_
   obtain ⟨nfr, hnfr⟩ : ∃ z, z = i + 1 := ⟨_, rfl⟩
   refine r_region ?_
   refine Zo rfl (run_mv (v := vo) rfl rfl) ?_
   refine Zo rfl (mvT rfl) ?_
   refine Zo rfl (mvI rfl) ?_
   refine Zo rfl (mvI rfl) ?_
   refine Zo rfl (by exact run_slS (fr) (i) rfl Tryz.underlying9 rfl (at1 rfl (by omega)) (at1 rfl (by omega)) (by first | omega | (simp; omega)) (by first | omega | (simp; omega))) ?_
   refine r_append1E (u := S _) (y := (piece s fr i)) rfl rfl Tryz.underlying77 ty_9 rfl hoo (fun _ => rfl) rfl (by first | exact rfl | (show _ = List.toArray [_]; first | (dsimp only; done) | exact rfl | (dsimp only; exact rfl))) ((by omega)) ((by omega)) (by omega) ?_
   intro q_v10 v10 w11 E11 hov10 hlv10
   have Q11 := E11.size
   replace hV := evo_stepo hV E11 (fun g hg => .inl (by first | exact (hoo.block hg).1 | (have := hoo.block hg; omega)))
   refine Zn rfl (run_asg (v := v10) rfl rfl) ?_
   refine r_region ?_
   refine Zo rfl (mvI rfl) ?_
   refine Zo rfl (run_add rfl rfl rfl (by omega) (by omega)) ?_
   refine Zn rfl (asI rfl) ?_
   refine r_blk ?_
   refine r_region ?_
   refine Zo rfl (mvI rfl) ?_
   refine Zo rfl (run_add rfl rfl rfl (by omega) (by omega)) ?_
   refine Zn rfl (asI rfl) ?_
   refine r_again (i + 1) ?_ ?_ ?_
   ·first | omega | (dsimp only; omega)
   ·refine ⟨nfr, _, _, (congrArg (Value.int _) (by omega)), (congrArg (Value.int _) (by omega)), rfl, (by first | assumption | omega | (dsimp only; omega) | (simp; done)), hov10, (by first | (rw [hnfr]; exact hst.go (by omega) (fun q => hc9 (bnd_iff.2 q))) | (rw [hnfr]; exact hst.cut (by omega) hbd9 (Classical.not_not.1 hc9))), (by first | omega | (simp; omega)), (by first | assumption | omega | (dsimp only; omega) | (simp; done)), hV⟩
   repeat (first | (with_reducible exact Agree.merge _ _ _) | (with_reducible exact Agree.refl _ _) | (with_reducible refine Agree.upd ?_ _ _ rfl) | ((with_reducible refine Agree.inner ?_ ?_); (kernel_rfl)))
  obtain ⟨nfr, hnfr⟩ : ∃ z, z = fr := ⟨_, rfl⟩
  refine r_skip ?_
  refine r_blk ?_
  refine r_region ?_
  refine Zo rfl (mvI rfl) ?_
  refine Zo rfl (run_add rfl rfl rfl (by omega) (by omega)) ?_
  refine Zn rfl (asI rfl) ?_
  refine r_again (i + 1) ?_ ?_ ?_
  ·first | omega | (dsimp only; omega)
  ·refine ⟨nfr, _, _, (congrArg (Value.int _) (by omega)), (congrArg (Value.int _) (by omega)), rfl, (by first | assumption | omega | (dsimp only; omega) | (simp; done)), hoo, (by first | (rw [hnfr]; exact hst.go (by omega) (fun q => hc7 (bnd_iff.2 q))) | (rw [hnfr]; exact hst.cut (by omega) hbd9 (Classical.not_not.1 hc7))), (by first | omega | (simp; omega)), (by first | assumption | omega | (dsimp only; omega) | (simp; done)), hV⟩
  repeat (first | (with_reducible exact Agree.merge _ _ _) | (with_reducible exact Agree.refl _ _) | (with_reducible refine Agree.upd ?_ _ _ rfl) | ((with_reducible refine Agree.inner ?_ ?_); (kernel_rfl)))
 refine r_exit rfl ?_
 refine Zs ?_
 refine Zo rfl (run_mv (v := vo) rfl rfl) ?_
 refine Zo rfl (run_mv (v := vo) rfl rfl) ?_
 refine Zo rfl (run_lenOE rfl rfl Tryz.underlying77 hoo) ?_
 refine Zo rfl (run_leq rfl rfl rfl) ?_
 refine Zo rfl (run_asg (v := vo) rfl rfl) ?_
 refine Zn rfl (asB rfl) ?_
 refine r_ret (res2 (v := vo) (u := .bool _) rfl rfl rfl) ?_
 have hfi := hst.fin (show s.length < i by omega)
 exact ⟨_, d, ret_vb (decide_eq_decide.2 ⟨fun q => ⟨by rw [hfi.1]; exact hfi.2, by rw [hfi.1]; omega⟩, fun q => by have h9 := q.2; rw [hfi.1] at h9; omega⟩), hV, hoo, fun _ => hfi.1.symm⟩
theorem wordsP_len {s : Str} (k : Nat) : ((wordsP s).getD k default).length ≤ 64 := by
  rcases Nat.lt_or_ge k (wordsP s).length with h | h
  · have h1 := getD_in h
    by_cases ho : phraseOk s
    · rw [words_ok ho] at h1 ⊢; exact (ho.1 _ h1).1.2
    · rw [words_no ho] at h; simp at h
  · rw [List.getD_eq_getElem?_getD, List.getElem?_eq_none h]; exact Nat.zero_le _
theorem wordsP_cnt (s : Str) : (wordsP s).length ≤ 8 := by
  unfold wordsP
  split
  · rename_i h; exact h.2
  · exact Nat.zero_le _
theorem oneS_succ {ws : List Str} {k : Nat} (hk : k < ws.length) : oneS (ws.take (k + 1)) = oneS (ws.take k) ++ [[lowS (ws.getD k default)]] := by unfold oneS; rw [take_succD ws k hk, List.map_append]; rfl
theorem oneS_len (ws : List Str) : (oneS ws).length = ws.length := by unfold oneS; rw [List.length_map]
theorem has_iff {l : List Vc.Item} {i : Nat} {ss : List (List Str)} (hi : i < l.length) : (isW (l.getD i default) ∧ 0 ≤ chainF l (i : Int) (-1) (nth (ss.map SetS.mk))) ↔ 0 ≤ cT l i ss := by
  rw [show nth (ss.map SetS.mk) = ss from nth_mk _]
  constructor
  · rintro ⟨h1, h2⟩
    rw [chainFG l _ _ _ (by omega) (.inr (by simpa using h1))] at h2; exact h2
  · intro h
    have h1 : isW (l.getD i default) := Classical.byContradiction fun q => by rw [cT_no l q] at h; omega
    refine ⟨h1, ?_⟩
    rw [chainFG l _ _ _ (by omega) (.inr (by simpa using h1))]; exact h
set_option maxHeartbeats 1000000 in
theorem has_calls {s : Str} {ao : Option Addr} {b off cap : Nat} {l : List Vc.Item} {w0 : World} (hl : RowE w0 ao b off cap l) (hq : ∀ x ∈ l, x.text.length ≤ 140737488355328) (hzl : l.length ≤ 4398046510976) :
    Calls Tryz.prog 157 #[S s, .slice ao l.length cap] w0 fun e w' => e = .returned (.bool (hasB s l)) ∧ Evo w0 w' [] := by
 refine calls_enter (n := 42) Tryz.func157 rfl Tryz.ntmps157 rfl ?_
 have hV : Evo w0 w0 [] := Evo.refl _ _
 have hl0 := keepE hl
 have hbd_hl := hl.bd
 refine Zs ?_
 refine Zn rfl (asB rfl) ?_
 refine Zs ?_
 refine Zn rfl (asS rfl) ?_
 refine r_seq ?_
 refine Zs ?_
 refine Zo rfl (mvT rfl) ?_
 refine r_opcall rfl rfl rfl (run_callf (vs := [S _]) rfl (by exact rfl) Tryz.func98 rfl (by kernel_rfl)) twords_calls ?_
 rintro e w1 ⟨ao1, bs1, off1, cap1, rfl, hE1, hr1⟩
 refine ⟨_, rfl, ?_⟩
 have Q1 := hE1.size
 replace hV := Z0 hV hE1
 replace hl := hl0 _ hV
 refine Zo rfl (run_lenSl rfl rfl Tryz.underlying77) ?_
 refine Zn rfl (mvI rfl) ?_
 refine r_block ?_
 have hI2 : Evo w1 w1 [] := Evo.refl _ _
 have hr10 := keepE hr1
 refine r_loop (α := Nat) [5, 7, 12, 13, 14, 15, 16, 17, 18, 19, 20, 21, 22, 23] (fun k g w => ∃ vo : Value, g 12 = .int .i64 (k : Nat) ∧ g 5 = vo ∧ k ≤ (wordsP s).length ∧ OwnR w w1.heap.size 171 [] vo ((oneS ((wordsP s).take k)).map SetS.mk) ∧ w1.heap.size ≤ w.heap.size ∧ Evo w0 w [] ∧ Evo w1 w []) (fun k => (wordsP s).length - k) 0 ?_ ?_
 ·refine ⟨_, (by first | exact rfl | exact congrArg (Value.int _) (by omega) | exact congrArg (Value.int _) (by dsimp only; omega) | exact congrArg (Value.int _) (by simp) | exact congrArg S (by simp)), rfl, (by first | assumption | omega | (dsimp only; omega) | (simp; done)), (OwnR.nil _ _ _ _), (by first | assumption | omega | (dsimp only; omega) | (simp; done)), hV, hI2⟩
 rintro k g w4 ⟨vo, hj5, hj6, hk_k, hoR, hzl3, hV, hI2⟩
 have hs_w4hV := hV.size
 have hs_w4hI2 := hI2.size
 replace hl := hl0 _ hV
 replace hr1 := hr10 _ hI2
 refine Zk 12 (v := .int .i64 (k : Nat)) (by exact hj5) ?_
 refine Zk 5 (v := vo) (by exact hj6) ?_
 refine Zs ?_
 refine Zn rfl (run_lss rfl rfl rfl) ?_
 refine r_seq ?_
 refine r_cond rfl (fun hc7 => ?_) (fun hc7 => ?_)
 ·skip
  refine r_skip ?_
  refine r_seq ?_
  refine r_block ?_
  refine Zs ?_
  refine Zo rfl (run_ix (k) rfl Tryz.underlying77 ty_9 rfl rfl (by first | exact rfl | omega) (by omega) (hr1.addr (i := k) (by omega))) ?_
  have hA80 := fun (w' : World) (h : Evo w1 w' []) => (hr10 w' h).atD (k) (by omega)
  have hA8 := hA80 _ hI2
  refine Zo rfl (run_ld1 rfl ag_9 rfl (hA8.cell 0 rfl)) ?_
  refine Zn rfl (asT rfl) ?_
  have hobR : ∀ g, vo.ownBlock = some g → g < w4.heap.size := fun g hg => (hoR.block hg).2; have hwl := wordsP_len (s := s) k; have hol := oneS_len ((wordsP s).take k); have hot := List.length_take_le k (wordsP s); have hwc := wordsP_cnt s
  refine r_region ?_
  refine Zo rfl (run_mv (v := vo) rfl rfl) ?_
  refine Zo rfl (mvT rfl) ?_
  refine r_opcall rfl rfl rfl (run_callf (vs := [S _]) rfl (by exact rfl) Tryz.func183 rfl (by kernel_rfl)) (lower_calls (by first | omega | (simp; omega))) ?_
  rintro e w9 ⟨rfl, hE9⟩
  refine ⟨_, rfl, ?_⟩
  have Q9 := hE9.size
  replace hV := Z0 hV hE9
  replace hI2 := Z0 hI2 hE9
  replace hoR := hoR.evo0 hE9
  refine r_bslice (pv := [(0, S _)]) (zs := [_]) (cs := [_]) Tryz.underlying77 ty_9 rfl rfl rfl rfl rfl ?_
  intro b10 w11 J10 E11 B10 Y10
  have Q11 := E11.size
  replace hV := Z0 hV E11
  replace hI2 := Z0 hI2 E11
  replace hoR := hoR.evo0 E11
  have hrb10 : RowE w11 (some ⟨b10, 0, none⟩) b10 0 1 ([lowS ((wordsP s).getD k default)] : List Str) := rowLit ([lowS ((wordsP s).getD k default)] : List Str) B10 rfl rfl
  refine r_opcall rfl rfl rfl (run_callf (vs := [.slice (some ⟨b10, 0, none⟩) _ _]) rfl (by exact rfl) Tryz.func190 rfl (by kernel_rfl)) (set_calls hrb10) ?_
  rintro e w12 ⟨bm12, rfl, hE12, hsm12, hsb12⟩
  refine ⟨_, rfl, ?_⟩
  have Q12 := hE12.size
  replace hV := Z0 hV hE12
  replace hI2 := Z0 hI2 hE12
  replace hoR := hoR.evo0 hE12
  replace hrb10 := hrb10.evo0 hE12
  refine r_append1R (u := .map (some bm12)) (us := [_]) rfl rfl Tryz.underlying200 ty_171 rfl rfl rfl hoR (fun _ => rfl) rfl rfl rfl rfl (fun w9 h9 => ⟨bm12, rfl, hsm12.evo h9 (by intro hm; have h8 := hobR bm12 (Option.mem_toList.1 (by simpa using hm)); omega)⟩) ((by simp only [List.length_map]; omega)) ((by simp only [List.length_map]; omega)) (by omega) ?_
  intro q_v13 v13 w14 E14 hov13 hlv13
  have Q14 := E14.size
  replace hV := evo_stepo hV E14 (fun g hg => .inl (by first | exact (hoR.block hg).1 | (have := hoR.block hg; omega)))
  replace hI2 := evo_stepo hI2 E14 (fun g hg => .inl (by first | exact (hoR.block hg).1 | (have := hoR.block hg; omega)))
  replace hl := hl0 _ hV
  replace hr1 := hr10 _ hI2
  refine Zn rfl (run_asg (v := v13) rfl rfl) ?_
  refine r_blk ?_
  refine r_region ?_
  refine Zo rfl (run_add rfl rfl rfl (by omega) (by omega)) ?_
  refine Zn rfl (mvI rfl) ?_
  refine r_again (k + 1) ?_ ?_ ?_
  ·first | omega | (dsimp only; omega)
  ·refine ⟨_, (by first | exact rfl | exact congrArg (Value.int _) (by omega) | exact congrArg (Value.int _) (by dsimp only; omega) | exact congrArg (Value.int _) (by simp) | exact congrArg S (by simp)), rfl, (by first | assumption | omega | (dsimp only; omega) | (simp; done)), (by rw [oneS_succ (by omega), List.map_append]; exact hov13), (by first | assumption | omega | (dsimp only; omega) | (simp; done)), hV, hI2⟩
  repeat (first | (with_reducible exact Agree.merge _ _ _) | (with_reducible exact Agree.refl _ _) | (with_reducible refine Agree.upd ?_ _ _ rfl) | ((with_reducible refine Agree.inner ?_ ?_); (kernel_rfl)))
 refine r_exit rfl ?_
 refine r_seq ?_
 refine r_seq ?_
 rw [List.take_of_length_le (by omega)] at hoR
 obtain ⟨ao15, g15, cp15, hv15, hr15⟩ := hoR.rowOf
 subst hv15
 have hbd_hr15 := hr15.bd
 have hI16 : Evo w4 w4 [] := Evo.refl _ _
 have hr150 := hr15.keep
 have hbd_hr15 := hr15.bd
 refine r_region ?_
 refine Zo rfl (mvS rfl) ?_
 refine Zo rfl (run_lenSl rfl rfl Tryz.underlying94) ?_
 refine Zn rfl (mvI rfl) ?_
 refine r_block ?_
 refine r_loop (α := Nat) [4, 8, 26, 27, 28, 29, 30, 31, 32, 33, 34, 35, 36, 37, 38, 39, 40, 41] (fun i g w => g 26 = .int .i64 (i : Nat) ∧ i ≤ l.length ∧ (∀ j, j < i → ¬ 0 ≤ cT l j (oneS (wordsP s))) ∧ w4.heap.size ≤ w.heap.size ∧ Evo w0 w [] ∧ Evo w1 w [] ∧ Evo w4 w []) (fun i => l.length - i) 0 ?_ ?_
 ·refine ⟨(by first | exact rfl | exact congrArg (Value.int _) (by omega) | exact congrArg (Value.int _) (by dsimp only; omega) | exact congrArg (Value.int _) (by simp) | exact congrArg S (by simp)), (by first | assumption | omega | (dsimp only; omega) | (simp; done)), (fun j h => by omega), (by first | assumption | omega | (dsimp only; omega) | (simp; done)), hV, hI2, hI16⟩
 rintro i g w18 ⟨hj19, hk_i, hno, hzl17, hV, hI2, hI16⟩
 have hs_w18hV := hV.size
 have hs_w18hI2 := hI2.size
 have hs_w18hI16 := hI16.size
 replace hl := hl0 _ hV
 refine Zk 26 (v := .int .i64 (i : Nat)) (by exact hj19) ?_
 refine Zs ?_
 refine Zn rfl (run_lss rfl rfl rfl) ?_
 refine r_seq ?_
 refine r_cond rfl (fun hc20 => ?_) (fun hc20 => ?_)
 ·skip
  refine r_skip ?_
  refine r_seq ?_
  refine r_block ?_
  refine Zs ?_
  refine Zo rfl (mvI rfl) ?_
  refine Zn rfl (asI rfl) ?_
  refine Zs ?_
  refine Zo rfl (mvS rfl) ?_
  refine Zo rfl (mvI rfl) ?_
  refine Zo rfl (run_ix (i) rfl Tryz.underlying94 ty_96 rfl rfl (by first | exact rfl | omega) (by omega) (hl.addr (i := i) (by omega))) ?_
  have hA210 := fun (w' : World) (h : Evo w0 w' []) => (hl0 w' h).atD (i) (by omega)
  have hA21 := hA210 _ hV
  refine Zo rfl (run_ldN rfl ag_96 ty_96 rfl rfl hA21) ?_
  refine r_opcall rfl rfl rfl (run_callf (vs := [.agg _]) rfl (by exact rfl) Tryz.func191 rfl (by kernel_rfl)) (tisword_calls (x := (l.getD i default))) ?_
  rintro e w22 ⟨rfl, hE22⟩
  refine ⟨_, rfl, ?_⟩
  have Q22 := hE22.size
  replace hV := Z0 hV hE22
  replace hI2 := Z0 hI2 hE22
  replace hI16 := Z0 hI16 hE22
  replace hl := hl0 _ hV
  replace hr15 := hr150.now hI16
  refine Zo rfl (mvB rfl) ?_
  refine r_g rfl (wantT rfl) rfl (fun hg => run_mv (v := .slice _ _ _) rfl rfl) ?_
  refine r_g rfl (wantT rfl) rfl (fun hg => run_mv (v := .int _ _) rfl rfl) ?_
  refine r_g rfl (wantT rfl) rfl (fun hg => run_mv (v := .slice _ _ _) rfl rfl) ?_
  refine r_gcall rfl (wantT rfl) rfl (fun hg => run_callf rfl (argcons (v := .slice _ _ _) (glv rfl (fun h => h) hg) (argcons (v := .int _ _) (glv rfl (fun h => h) hg) (argcons (v := .slice _ _ _) (glv rfl (fun h => h) hg) (rfl)))) Tryz.func192 rfl (by kernel_rfl)) (fun hg => (tchain_calls hl hr15 (i := (i : Int)) hq (by omega) (by omega)).mono (fun e w' h => ⟨h.1, h.2⟩)) (fun w23 hE24 => ?_)
  have Q23 := hE24.size
  replace hV := Z0 hV hE24
  replace hI2 := Z0 hI2 hE24
  replace hI16 := Z0 hI16 hE24
  replace hl := hl0 _ hV
  replace hr1 := hr10 _ hI2
  replace hr15 := hr150.now hI16
  refine r_g rfl (wantT rfl) rfl (fun hg => run_geq rfl (glv rfl (fun h => h) hg) rfl) ?_
  refine Zn rfl (run_pick_and rfl rfl (fun hq => glv rfl (fun h => h) hq) rfl) ?_
  refine r_cond rfl (fun hc25 => ?_) (fun hc25 => ?_)
  ·skip
   refine Zs ?_
   refine Zn rfl (asB rfl) ?_
   refine r_ret (res1 (v := .bool _) rfl rfl) ?_
   exact ⟨ret_bool (has_yes (by omega) ((has_iff (by omega)).1 hc25)).symm, hV⟩
  refine r_skip ?_
  refine r_blk ?_
  refine r_region ?_
  refine Zo rfl (run_add rfl rfl rfl (by omega) (by omega)) ?_
  refine Zn rfl (mvI rfl) ?_
  refine r_again (i + 1) ?_ ?_ ?_
  ·first | omega | (dsimp only; omega)
  ·refine ⟨(by first | exact rfl | exact congrArg (Value.int _) (by omega) | exact congrArg (Value.int _) (by dsimp only; omega) | exact congrArg (Value.int _) (by simp) | exact congrArg S (by simp)), (by first | assumption | omega | (dsimp only; omega) | (simp; done)), (upto0 hno (fun q9 => hc25 ((has_iff (by omega)).2 q9))), (by first | assumption | omega | (dsimp only; omega) | (simp; done)), hV, hI2, hI16⟩
  repeat (first | (with_reducible exact Agree.merge _ _ _) | (with_reducible exact Agree.refl _ _) | (with_reducible refine Agree.upd ?_ _ _ rfl) | ((with_reducible refine Agree.inner ?_ ?_); (kernel_rfl)))
 refine r_exit rfl ?_
 refine Zs ?_
 refine Zn rfl (asB rfl) ?_
 refine r_ret (res1 (v := .bool _) rfl rfl) ?_
 exact ⟨ret_bool (has_no (fun j hj => hno j (by omega))).symm, hV⟩
end Go.Proofs.YtlfjocbnbceceaaGreatDoor
namespace Go.Vc
open Go Go.RowKit Go.Maps Go.ChangeMaps Go.MapKept
theorem keyOf_I {P : Program} {K : TypeId} (hk : P.underlying K = some (.int .i64)) {x : Int} (hx : (Lit.int .i64 x).wf = true) : keyOf P K (Value.int .i64 x) = some (.int .i64 x) := by
  simp [keyOf, hk, mapKey]; exact hx
theorem map_ownsI {β : Type} {P : Program} {K : TypeId} (hk : P.underlying K = some (.int .i64)) {w : World} {b : Nat} {ev : β → Value} {m : List (Int × β)} (h : MapIs w b (Value.int .i64) ev m) (hm : m.length ≤ maxLen) (hl : ∀ p ∈ m, (Lit.int .i64 p.1).wf = true) :
    ∃ D : DataW Unit, w.ownsMap P K R0 b m.length D ∧ Maps.size D = m.length ∧ (intKeys D).Perm (m.map (·.1)) := by
  obtain ⟨es, clock, hb, he, h1, h2, h3⟩ := h.ex
  have hsz : es.size = m.length := by have := congrArg List.length he; simpa using this
  have hkeys : es.toList.map (·.key) = m.map (fun p => Value.int .i64 p.1) := by
    have := congrArg (List.map Prod.fst) he
    simpa [Function.comp_def] using this
  have hrd : ∀ x ∈ es.toList, ∃ s : Int, x.key = Value.int .i64 s ∧ WideElems.rd P K R0 x = some (.int .i64 s, .nil) := fun x hx => by
    have : x.key ∈ m.map (fun p => Value.int .i64 p.1) := hkeys ▸ List.mem_map.2 ⟨x, hx, rfl⟩
    obtain ⟨p, hpm, hp⟩ := List.mem_map.1 this
    exact ⟨p.1, hp.symm, by unfold WideElems.rd; rw [← hp, keyOf_I hk (hl p hpm)]; rfl⟩
  have hstr : es.toList.map (fun x => intOf (WideElems.rg P K R0 x).1) = m.map (·.1) := by
    have e1 : es.toList.map (fun x => intOf (WideElems.rg P K R0 x).1) = (es.toList.map (·.key)).map (fun v => match v with | .int _ b => b | _ => 0) := by
      rw [List.map_map]
      refine List.map_congr_left (fun x hx => ?_)
      obtain ⟨s, h5, h6⟩ := hrd x hx
      show intOf (WideElems.rg P K R0 x).1 = _
      unfold WideElems.rg; rw [h6]; simp [h5, intOf]
    rw [e1, hkeys, List.map_map]
    exact List.map_congr_left (fun p _ => rfl)
  refine ⟨_, ⟨es, clock, hb, ⟨by omega, ⟨h2, h1, ?_⟩, fun x hx => ?_⟩, by omega, rfl⟩, ?_, ?_⟩
  · rw [hkeys]
    have e : m.map (fun p => Value.int .i64 p.1) = (m.map (·.1)).map (Value.int .i64) := by rw [List.map_map]; rfl
    rw [e]
    exact List.pairwise_map.2 (h3.imp (fun hne h9 => hne (by injection h9)))
  · obtain ⟨s, _, h6⟩ := hrd x hx
    exact ⟨_, h6⟩
  · show ((es.toList.map _).foldr DataW.insert []).length = _
    rw [length_sorted, List.length_map, Array.length_toList, hsz]
  · show (((es.toList.map (WideElems.rg P K R0)).foldr DataW.insert []).map (fun p => intOf p.1)).Perm _
    refine ((Go.WideShapes.sorted_perm _).map _).trans ?_
    rw [List.map_map]
    have e : (fun p : Lit × DataW Unit => intOf p.1) ∘ WideElems.rg P K R0 = fun x => intOf (WideElems.rg P K R0 x).1 := rfl
    rw [e, hstr]
def sortI (l : List Int) : List Int := l.mergeSort leI
theorem sortI_eq {ks l : List Int} (hn : ks.Nodup) (hl : l.Pairwise (fun a b => a < b)) (h : ∀ x, x ∈ ks ↔ x ∈ l) : sortI ks = l := by
  have hp : l.Perm ks := (List.perm_ext_iff_of_nodup (hl.imp (fun {a b} h e => by omega)) hn).2 (fun x => (h x).symm)
  have h3 := mergeSort_of_perm_i hp
  have h4 : l.mergeSort leI = l := List.mergeSort_of_pairwise (hl.imp (fun h => by simpa [leI] using Int.le_of_lt h))
  show ks.mergeSort leI = _
  rw [← h3, h4]
end Go.Vc
