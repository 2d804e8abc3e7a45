/-
  Library, plain laws and walks that the statements reach (joined by a program out of smaller texts).
-/
import Derived.Test.YtlfjocbnbceceaaGreatDoorAie
import Derived.Test.YtlfjocbnbceceaaGreatDoorAid
import Derived.Test.YtlfjocbnbceceaaGreatDoorAia
import Derived.Test.YtlfjocbnbceceaaGreatDoorAib
import Derived.Deep.Strs
import Derived.OpenShut
import Derived.Test.YtlfjocbnbceceaaGreatDoorAic
import Derived.Test.YtlfjocbnbceceaaGreatDoorRows
set_option linter.unusedVariables false
set_option linter.unusedSimpArgs false
namespace Go.Proofs.YtlfjocbnbceceaaGreatDoor
open Go.RowKit Go.Vc
theorem anyI_yes {l : List Vc.Item} {p : Vc.Item → Bool} {k : Nat} (hk : k < l.length) (h : p (l.getD k default) = true) : l.any p = true := List.any_eq_true.2 ⟨_, getD_in hk, h⟩
theorem anyI_no {l : List Vc.Item} {p : Vc.Item → Bool} (h : ∀ j, j < l.length → ¬ p (l.getD j default) = true) : ¬ l.any p = true := fun q => by
  obtain ⟨x, hx, h2⟩ := List.any_eq_true.1 q
  obtain ⟨i, hi, rfl⟩ := List.mem_iff_getElem.1 hx
  exact h i hi (by rw [List.getD_eq_getElem?_getD, List.getElem?_eq_getElem hi]; exact h2)
theorem sortF_of2 {l xs l' : List Vc.Item} {p : Vc.Item → Bool} (h : l.Perm xs) (hs : SortR (Go.Proofs.ltOf cmpF) (l.filter p) l') : l' = (sortF xs).filter p := by
  rw [sortF_filter]; exact sortF_of hs (h.filter p)
theorem cmpS_gt {s t : Str} (h : ¬ blt s t = true) (h2 : ¬ (blt s t || s == t) = true) : cmpS s t = 1 := by
  have h1 : ¬ s < t := fun q => h ((slt_iff _ _).2 q)
  have h3 : ¬ s = t := fun q => h2 (by simp [q])
  unfold cmpS
  rw [if_neg h1]
  by_cases h4 : t < s
  · rw [if_pos h4]
  · exact absurd (slt_tri h1 h4) h3
theorem or_at {p q r : Int} {k : Nat} (hk : k < 3) (hno : ∀ j, j < k → ([p, q, r] : List Int).getD j default = 0) (hc : ¬ ([p, q, r] : List Int).getD k default = 0) : ([p, q, r] : List Int).getD k default = orI p (orI q r) := by
  unfold orI
  match k, hk with
  | 0, _ => exact (if_pos hc).symm
  | 1, _ => have h0 : p = 0 := hno 0 (by omega)
            have h1 : ¬ q = 0 := hc
            rw [if_neg (by simpa using h0), if_pos h1]; rfl
  | 2, _ => have h0 : p = 0 := hno 0 (by omega)
            have h1 : q = 0 := hno 1 (by omega)
            rw [if_neg (by simpa using h0), if_neg (by simpa using h1)]; rfl
theorem or_none {p q r : Int} (hno : ∀ j, j < 3 → ([p, q, r] : List Int).getD j default = 0) : (0 : Int) = orI p (orI q r) := by
  have h0 : p = 0 := hno 0 (by omega)
  have h1 : q = 0 := hno 1 (by omega)
  have h2 : r = 0 := hno 2 (by omega)
  unfold orI; rw [if_neg (by simpa using h0), if_neg (by simpa using h1), h2]
theorem cmpS_eq {s t : Str} (h : ¬ blt s t = true) (h2 : ¬ ¬ (blt s t || s == t) = true) : cmpS s t = 0 := by
  have h3 : s = t := by
    simpa [h] using h2
  exact cmpS_zero.2 h3
theorem isnan_calls {s : Str} {w0 : World}  :
    Calls Tryz.prog 71 #[S s] w0 fun e w' => e = .returned (.bool false) ∧ w0 = w' := by
 refine calls_enter (n := 6) Tryz.func71 rfl Tryz.ntmps71 rfl ?_
 have hV : Evo w0 w0 [] := Evo.refl _ _
 refine Zs ?_
 refine Zn rfl (asB rfl) ?_
 refine Zs ?_
 refine Zo rfl (mvT rfl) ?_
 refine Zo rfl (mvT rfl) ?_
 refine Zo rfl (run_sneq rfl rfl rfl) ?_
 refine Zn rfl (asB rfl) ?_
 refine r_ret (res1 (v := .bool _) rfl rfl) ?_
 exact ⟨ret_bool (by simp), rfl⟩
theorem cmps_calls {s t : Str} {w0 : World}  :
    Calls Tryz.prog 36 #[S s, S t] w0 fun e w' => e = .returned (.int .i64 (cmpS s t)) ∧ w0 = w' := by
 refine calls_enter (n := 20) Tryz.func36 rfl Tryz.ntmps36 rfl ?_
 have hV : Evo w0 w0 [] := Evo.refl _ _
 refine Zs ?_
 refine Zn rfl (asI rfl) ?_
 refine Zs ?_
 refine Zo rfl (mvT rfl) ?_
 refine r_opcall rfl rfl rfl (run_callf (vs := [S _]) rfl (by exact rfl) Tryz.func71 rfl (by kernel_rfl)) isnan_calls ?_
 rintro e w1 ⟨rfl, rfl⟩
 refine ⟨_, rfl, ?_⟩
 refine Zn rfl (asB rfl) ?_
 refine Zs ?_
 refine Zo rfl (mvT rfl) ?_
 refine r_opcall rfl rfl rfl (run_callf (vs := [S _]) rfl (by exact rfl) Tryz.func71 rfl (by kernel_rfl)) isnan_calls ?_
 rintro e w2 ⟨rfl, rfl⟩
 refine ⟨_, rfl, ?_⟩
 refine Zn rfl (asB rfl) ?_
 refine r_seq ?_
 refine Zs ?_
 refine Zn rfl (mvB rfl) ?_
 refine r_cond_no rfl ?_
 refine r_skip ?_
 refine r_seq ?_
 refine Zs ?_
 refine Zn rfl (mvB rfl) ?_
 refine r_cond_no rfl ?_
 refine r_skip ?_
 refine r_seq ?_
 refine Zs ?_
 refine Zo rfl (mvT rfl) ?_
 refine Zo rfl (mvT rfl) ?_
 refine Zn rfl (run_slssD rfl rfl rfl) ?_
 refine r_cond rfl (fun hc3 => ?_) (fun hc3 => ?_)
 ·skip
  refine Zs ?_
  refine Zn rfl (asI rfl) ?_
  refine r_ret (res1 (v := .int _ _) rfl rfl) ?_
  exact ⟨ret_int (by unfold cmpS; rw [if_pos ((slt_iff _ _).1 hc3)]), rfl⟩
 refine r_skip ?_
 refine r_seq ?_
 refine r_seq ?_
 have hc1 := hc3
 refine r_region ?_
 refine Zo rfl (mvT rfl) ?_
 refine Zo rfl (mvT rfl) ?_
 refine Zn rfl (run_sgtrD rfl rfl rfl) ?_
 refine r_cond rfl (fun hc4 => ?_) (fun hc4 => ?_)
 ·skip
  refine Zs ?_
  refine Zn rfl (asI rfl) ?_
  refine r_ret (res1 (v := .int _ _) rfl rfl) ?_
  exact ⟨ret_int (cmpS_gt hc1 hc4).symm, rfl⟩
 refine r_skip ?_
 refine Zs ?_
 refine Zn rfl (asI rfl) ?_
 refine r_ret (res1 (v := .int _ _) rfl rfl) ?_
 exact ⟨ret_int (cmpS_eq hc1 hc4).symm, rfl⟩
theorem isnani_calls {n : Int} {w0 : World}  :
    Calls Tryz.prog 70 #[.int .i64 n] w0 fun e w' => e = .returned (.bool false) ∧ w0 = w' := by
 refine calls_enter (n := 6) Tryz.func70 rfl Tryz.ntmps70 rfl ?_
 have hV : Evo w0 w0 [] := Evo.refl _ _
 refine Zs ?_
 refine Zn rfl (asB rfl) ?_
 refine Zs ?_
 refine Zo rfl (mvI rfl) ?_
 refine Zo rfl (mvI rfl) ?_
 refine Zo rfl (run_neq rfl rfl rfl) ?_
 refine Zn rfl (asB rfl) ?_
 refine r_ret (res1 (v := .bool _) rfl rfl) ?_
 exact ⟨ret_bool (by simp), rfl⟩
theorem cmpi_calls {a b : Int} {w0 : World}  :
    Calls Tryz.prog 35 #[.int .i64 a, .int .i64 b] w0 fun e w' => e = .returned (.int .i64 (cmpI a b)) ∧ w0 = w' := by
 refine calls_enter (n := 20) Tryz.func35 rfl Tryz.ntmps35 rfl ?_
 have hV : Evo w0 w0 [] := Evo.refl _ _
 refine Zs ?_
 refine Zn rfl (asI rfl) ?_
 refine Zs ?_
 refine Zo rfl (mvI rfl) ?_
 refine r_opcall rfl rfl rfl (run_callf (vs := [.int _ _]) rfl (by exact rfl) Tryz.func70 rfl (by kernel_rfl)) isnani_calls ?_
 rintro e w1 ⟨rfl, rfl⟩
 refine ⟨_, rfl, ?_⟩
 refine Zn rfl (asB rfl) ?_
 refine Zs ?_
 refine Zo rfl (mvI rfl) ?_
 refine r_opcall rfl rfl rfl (run_callf (vs := [.int _ _]) rfl (by exact rfl) Tryz.func70 rfl (by kernel_rfl)) isnani_calls ?_
 rintro e w2 ⟨rfl, rfl⟩
 refine ⟨_, rfl, ?_⟩
 refine Zn rfl (asB rfl) ?_
 refine r_seq ?_
 refine Zs ?_
 refine Zn rfl (mvB rfl) ?_
 refine r_cond_no rfl ?_
 refine r_skip ?_
 refine r_seq ?_
 refine Zs ?_
 refine Zn rfl (mvB rfl) ?_
 refine r_cond_no rfl ?_
 refine r_skip ?_
 refine r_seq ?_
 refine Zs ?_
 refine Zo rfl (mvI rfl) ?_
 refine Zo rfl (mvI rfl) ?_
 refine Zn rfl (run_lss rfl rfl rfl) ?_
 refine r_cond rfl (fun hc3 => ?_) (fun hc3 => ?_)
 ·skip
  refine Zs ?_
  refine Zn rfl (asI rfl) ?_
  refine r_ret (res1 (v := .int _ _) rfl rfl) ?_
  exact ⟨ret_int (by unfold cmpI; rw [if_pos hc3]), rfl⟩
 refine r_skip ?_
 refine r_seq ?_
 refine Zs ?_
 refine Zo rfl (mvI rfl) ?_
 refine Zo rfl (mvI rfl) ?_
 refine Zn rfl (run_gtr rfl rfl rfl) ?_
 refine r_cond rfl (fun hc4 => ?_) (fun hc4 => ?_)
 ·skip
  refine Zs ?_
  refine Zn rfl (asI rfl) ?_
  refine r_ret (res1 (v := .int _ _) rfl rfl) ?_
  exact ⟨ret_int (by unfold cmpI; rw [if_neg (by omega), if_pos hc4]), rfl⟩
 refine r_skip ?_
 refine Zs ?_
 refine Zn rfl (asI rfl) ?_
 refine r_ret (res1 (v := .int _ _) rfl rfl) ?_
 exact ⟨ret_int (by unfold cmpI; rw [if_neg (by omega), if_neg (by omega)]), rfl⟩
theorem or_calls {ao : Option Addr} {b off cap : Nat} {p q r : Int} {w0 : World} (hl : RowE w0 ao b off cap ([p, q, r] : List Int)) :
    Calls Tryz.prog 34 #[.slice ao ([p, q, r] : List Int).length cap] w0 fun e w' => e = .returned (.int .i64 (orI p (orI q r))) ∧ w0 = w' := by
 refine calls_enter (n := 18) Tryz.func34 rfl Tryz.ntmps34 rfl ?_
 have hV : Evo w0 w0 [] := Evo.refl _ _
 have hbd_hl := hl.bd
 refine Zs ?_
 refine Zn rfl (asI rfl) ?_
 refine Zs ?_
 refine Zn rfl (asI rfl) ?_
 refine r_seq ?_
 refine Zs ?_
 refine Zo rfl (mvS rfl) ?_
 refine Zo rfl (run_lenSl rfl rfl Tryz.underlying22) ?_
 refine Zn rfl (mvI rfl) ?_
 refine r_block ?_
 refine r_loop (α := Nat) [2, 5, 8, 9, 10, 11, 12, 13, 14, 15, 16] (fun k g w => g 8 = .int .i64 (k : Nat) ∧ k ≤ ([p, q, r] : List Int).length ∧ w = w0 ∧ (∀ j, j < k → ([p, q, r] : List Int).getD j default = 0) ∧ w0.heap.size ≤ w.heap.size ∧ Evo w0 w []) (fun k => ([p, q, r] : List Int).length - k) 0 ?_ ?_
 ·refine ⟨(by first | exact rfl | exact congrArg (Value.int _) (by omega) | exact congrArg (Value.int _) (by dsimp only; omega) | exact congrArg (Value.int _) (by simp) | exact congrArg S (by simp)), (by first | assumption | omega | (dsimp only; omega) | (simp; done)), rfl, (fun j h => by omega), (by first | assumption | omega | (dsimp only; omega) | (simp; done)), hV⟩
 rintro k g w2 ⟨hj3, hk_k, hw, hno, hzl1, hV⟩
 have hs_w2hV := hV.size
 refine Zk 8 (v := .int .i64 (k : Nat)) (by exact hj3) ?_
 replace hw := hw.symm; subst hw
 refine Zs ?_
 refine Zn rfl (run_lss rfl rfl rfl) ?_
 refine r_seq ?_
 refine r_cond rfl (fun hc4 => ?_) (fun hc4 => ?_)
 ·skip
  refine r_skip ?_
  refine r_seq ?_
  refine r_block ?_
  refine Zs ?_
  refine Zo rfl (run_ix (k) rfl Tryz.underlying22 ty_3 rfl rfl (by first | exact rfl | omega) (by omega) (hl.addr (i := k) (by omega))) ?_
  have hA5 := hl.atD (k) (by omega)
  refine Zo rfl (run_ld1 rfl ag_3 rfl (hA5.cell 0 rfl)) ?_
  refine Zn rfl (asI rfl) ?_
  refine Zs ?_
  refine Zo rfl (mvI rfl) ?_
  refine Zo rfl (mvI rfl) ?_
  refine Zn rfl (run_neq rfl rfl rfl) ?_
  refine r_cond rfl (fun hc6 => ?_) (fun hc6 => ?_)
  ·skip
   refine Zs ?_
   refine Zo rfl (mvI rfl) ?_
   refine Zn rfl (asI rfl) ?_
   refine r_ret (res1 (v := .int _ _) rfl rfl) ?_
   exact ⟨ret_int (or_at (by simp at hc4; omega) hno (by simpa using hc6)), rfl⟩
  refine r_skip ?_
  refine r_blk ?_
  refine r_region ?_
  refine Zo rfl (run_add rfl rfl rfl (by omega) (by omega)) ?_
  refine Zn rfl (mvI rfl) ?_
  refine r_again (k + 1) ?_ ?_ ?_
  ·first | omega | (dsimp only; omega)
  ·refine ⟨(by first | exact rfl | exact congrArg (Value.int _) (by omega) | exact congrArg (Value.int _) (by dsimp only; omega) | exact congrArg (Value.int _) (by simp) | exact congrArg S (by simp)), (by first | assumption | omega | (dsimp only; omega) | (simp; done)), rfl, (upto0 hno (by simpa using hc6)), (by first | assumption | omega | (dsimp only; omega) | (simp; done)), hV⟩
  repeat (first | (with_reducible exact Agree.merge _ _ _) | (with_reducible exact Agree.refl _ _) | (with_reducible refine Agree.upd ?_ _ _ rfl) | ((with_reducible refine Agree.inner ?_ ?_); (kernel_rfl)))
 refine r_exit rfl ?_
 refine Zs ?_
 refine Zo rfl (mvI rfl) ?_
 refine Zn rfl (asI rfl) ?_
 refine r_ret (res1 (v := .int _ _) rfl rfl) ?_
 exact ⟨ret_int (or_none (fun j hj => hno j (by simp at hc4; omega))), rfl⟩
theorem cmpf_calls {x y : Vc.Item} {w0 : World}  :
    Calls Tryz.prog 33 #[(.agg (Enc.enc x).toArray), (.agg (Enc.enc y).toArray)] w0 fun e w' => e = .returned (.int .i64 (cmpF x y)) ∧ Evo w0 w' [] ∧ w0.drawn ≤ w'.drawn := by
 refine calls_enter (n := 22) Tryz.func33 rfl Tryz.ntmps33 rfl ?_
 have hV : Evo w0 w0 [] := Evo.refl _ _
 refine Zs ?_
 refine r_boxD (vs := [_, _, _]) rfl rfl rfl ?_
 intro b1 w2 J1 E2 B1 Y1 hdr_0
 have Q2 := E2.size
 replace hV := Z0 hV E2
 refine r_boxD (vs := [_, _, _]) rfl rfl rfl ?_
 intro b3 w4 J3 E4 B3 Y3 hdr_1
 have Q4 := E4.size
 replace hV := Z0 hV E4
 replace B1 := B1.evo0 E4
 refine Zn rfl (asI rfl) ?_
 refine r_seq ?_
 have hbb1_q := B1
 have hAb1_q := B1.at
 have hbb3_q := B3
 have hAb3_q := B3.at
 have hV_q := hV
 refine h_regionD ([]) (by kernel_rfl) ?_
 intro w5 hE6 hCst1 hdr_2
 have Q5 := hE6.size
 replace hV := Z0 hV hE6
 refine h_take (i := 0) rfl rfl rfl rfl (by kernel_rfl) (fun w' hC => run_fa rfl rfl fo_39_0) hCst1 ?_
 refine h_take (i := 1) rfl rfl rfl rfl (by kernel_rfl) (fun w' hC => run_ld1 rfl ag_3 rfl ((hAb1_q.evo0 hC).cell 0 rfl)) hCst1 ?_
 refine h_take (i := 2) rfl rfl rfl rfl (by kernel_rfl) (fun w' hC => run_fa rfl rfl fo_39_0) hCst1 ?_
 refine h_take (i := 3) rfl rfl rfl rfl (by kernel_rfl) (fun w' hC => run_ld1 rfl ag_3 rfl ((hAb3_q.evo0 hC).cell 0 rfl)) hCst1 ?_
 refine h_takeC (i := 4) rfl rfl rfl rfl (by kernel_rfl) (fun w' hC => ⟨_, _, run_callf (vs := [.int _ _, .int _ _]) rfl (by exact rfl) Tryz.func35 rfl (by kernel_rfl), cmpi_calls.mono (fun e w'' h => ⟨h.1, h.2.symm⟩)⟩) hCst1 ?_
 refine h_take (i := 5) rfl rfl rfl rfl (by kernel_rfl) (fun w' hC => run_fa rfl rfl fo_39_1) hCst1 ?_
 refine h_take (i := 6) rfl rfl rfl rfl (by kernel_rfl) (fun w' hC => run_ld1 rfl ag_9 rfl ((hAb1_q.evo0 hC).cell 1 rfl)) hCst1 ?_
 refine h_take (i := 7) rfl rfl rfl rfl (by kernel_rfl) (fun w' hC => run_fa rfl rfl fo_39_1) hCst1 ?_
 refine h_take (i := 8) rfl rfl rfl rfl (by kernel_rfl) (fun w' hC => run_ld1 rfl ag_9 rfl ((hAb3_q.evo0 hC).cell 1 rfl)) hCst1 ?_
 refine h_takeC (i := 9) rfl rfl rfl rfl (by kernel_rfl) (fun w' hC => ⟨_, _, run_callf (vs := [S _, S _]) rfl (by exact rfl) Tryz.func36 rfl (by kernel_rfl), cmps_calls.mono (fun e w'' h => ⟨h.1, h.2.symm⟩)⟩) hCst1 ?_
 refine h_take (i := 10) rfl rfl rfl rfl (by kernel_rfl) (fun w' hC => run_fa rfl rfl fo_39_2) hCst1 ?_
 refine h_take (i := 11) rfl rfl rfl rfl (by kernel_rfl) (fun w' hC => run_ld1 rfl ag_3 rfl ((hAb1_q.evo0 hC).cell 2 rfl)) hCst1 ?_
 refine h_take (i := 12) rfl rfl rfl rfl (by kernel_rfl) (fun w' hC => run_fa rfl rfl fo_39_2) hCst1 ?_
 refine h_take (i := 13) rfl rfl rfl rfl (by kernel_rfl) (fun w' hC => run_ld1 rfl ag_3 rfl ((hAb3_q.evo0 hC).cell 2 rfl)) hCst1 ?_
 refine h_takeC (i := 14) rfl rfl rfl rfl (by kernel_rfl) (fun w' hC => ⟨_, _, run_callf (vs := [.int _ _, .int _ _]) rfl (by exact rfl) Tryz.func35 rfl (by kernel_rfl), cmpi_calls.mono (fun e w'' h => ⟨h.1, h.2.symm⟩)⟩) hCst1 ?_
 refine h_one (i := 15) (by kernel_rfl) ?_
 refine h_do rfl ?_
 refine r_bsliceD (pv := [(0, .int _ _), (1, .int _ _), (2, .int _ _)]) (zs := [_]) (cs := [_, _, _]) Tryz.underlying22 ty_3 rfl rfl rfl rfl rfl ?_
 intro b7 w8 J7 E8 B7 Y7 hdr_3
 have Q8 := E8.size
 replace hV := Z0 hV E8
 replace hCst1 := Z0 hCst1 E8
 have hrb7 : RowE w8 (some ⟨b7, 0, none⟩) b7 0 3 ([cmpI x.kind y.kind, cmpS x.text y.text, cmpI x.id y.id] : List Int) := rowLit ([cmpI x.kind y.kind, cmpS x.text y.text, cmpI x.id y.id] : List Int) B7 rfl rfl
 refine h_next hCst1 ?_
 refine h_one (i := 16) (by kernel_rfl) ?_
 refine h_do rfl ?_
 refine r_opcall rfl rfl rfl (run_callf (vs := [.slice (some ⟨b7, 0, none⟩) _ _]) rfl (by exact rfl) Tryz.func34 rfl (by kernel_rfl)) (or_calls hrb7) ?_
 rintro e w9 ⟨rfl, rfl⟩
 refine ⟨_, rfl, ?_⟩
 refine h_next hCst1 ?_
 refine h_take (i := 17) rfl rfl rfl rfl (by kernel_rfl) (fun w' hC => run_asg (v := .int _ _) rfl rfl) hCst1 ?_
 refine h_done (by kernel_rfl) ?_
 refine r_ret (res1 (v := .int _ _) rfl rfl) ?_
 exact ⟨rfl, hV, by omega⟩
theorem sortF_calls {w : World} {base E : Nat} {v : Value} {l : List Vc.Item} (h : OwnE w base E v l) : Calls Tryz.prog 32 #[v, .func (.func 33) #[] #[]] w fun e w' => e = .returned (.tuple #[]) ∧ Evo w w' v.ownBlock.toList ∧ ∃ l', SortR (Go.Proofs.ltOf cmpF) l l' ∧ OwnE w' base E v l' :=
  sortf_of (R := SortR (Go.Proofs.ltOf cmpF)) (fun l l' h => h.1.length_eq) ⟨List.Perm.refl _, List.Pairwise.nil⟩
    (fun blk off cap d w hH hb hsz => (AnyQ.slices_SortFunc Tryz.sortFind 3 Tryz.isAgg39 Tryz.sizeOf39 Enc.enc (fun x => Enc.len x) (fun x v hv => List.all_eq_true.1 (Enc.one x) v hv) cmpF swo_F 33 #[] blk off cap d w (enters_of Tryz.func33 (by kernel_rfl) rfl)
      (fun m os dk hs x y => (show Calls Tryz.prog 33 #[.agg (Enc.enc x).toArray, .agg (Enc.enc y).toArray] _ _ from cmpf_calls.mono fun e w' ⟨h1, h2, h3⟩ => ⟨h1, growD_of h2 h3⟩)) hH hb hsz).mono fun e w' ⟨he, d', n, os, hp, hs, hw⟩ => ⟨he, d', n, os, sortR_of hp hs, hw⟩)
    (fun w => AnyF.slices_SortFunc_none { Tryz.sortFind with } none 0 (.func (.func 33) #[] #[]) w) h
set_option maxHeartbeats 2000000 in
theorem run_calls {l0 l1 l2 l3 l4 l5 l6 l7 l8 l9 l10 l11 l12 sh lo : Int} {aot : Option Addr} {bt ot capt : Nat} {ts : List TermL} {aoc : Option Addr} {bc oc capc : Nat} {cl : List Clas} {aof : Option Addr} {bf of9 capf : Nat} {f : List Vc.Item} {aog : Option Addr} {bg og capg : Nat} {gg : List Vc.Item} {w0 : World} (hts : RowR w0 aot bt ot capt ts) (hcl : RowR w0 aoc bc oc capc cl) (hf : RowE w0 aof bf of9 capf f) (hg : RowE w0 aog bg og capg gg) (htf : Tiny f) (htg : Tiny gg) (hif : ∀ x ∈ tagsL f, InR x) (hig : ∀ x ∈ tagsL gg, InR x) (hz : ts.length ≤ 40) (hjb : ∀ x ∈ ts, JudT x) (htab : Tab w0) :
    Calls Tryz.prog 14 #[.agg #[.int .i64 l0, .int .i64 l1, .int .i64 l2, .int .i64 l3, .int .i64 l4, .int .i64 l5, .int .i64 l6, .int .i64 l7, .int .i64 l8, .int .i64 l9, .int .i64 l10, .int .i64 l11, .int .i64 l12, .int .i64 sh, .int .i64 lo, .slice aot ts.length capt, .slice aoc cl.length capc], .slice aof f.length capf, .slice aog gg.length capg] w0 fun e w' => ∃ v, e = .returned v ∧ Evo w0 w' [] ∧ OwnE w' w0.heap.size 39 v (runF (⟨[l0, l1, l2, l3, l4, l5, l6, l7, l8, l9, l10, l11, l12], sh, lo, ts, cl⟩ : Chk) f gg) := by
 refine calls_enter (n := 36) Tryz.func14 rfl Tryz.ntmps14 rfl ?_
 have hV : Evo w0 w0 [] := Evo.refl _ _
 have hts0 := hts.keep
 have hbd_hts := hts.bd
 have hcl0 := hcl.keep
 have hbd_hcl := hcl.bd
 have hf0 := keepE hf
 have hbd_hf := hf.bd
 have hg0 := keepE hg
 have hbd_hg := hg.bd
 refine Zs ?_
 refine r_box (vs := [_, _, _, _, _, _, _, _, _, _, _, _, _, _, _, _, _]) rfl rfl rfl ?_
 intro b1 w2 J1 E2 B1 Y1
 have Q2 := E2.size
 replace hV := Z0 hV E2
 replace hts := hts0.now hV
 replace hcl := hcl0.now hV
 have hAb1 := B1.at
 refine Zn rfl (asS rfl) ?_
 refine r_seq ?_
 refine Zs ?_
 refine Zo rfl (run_ldN rfl ag_28 ty_28 rfl rfl hAb1) ?_
 refine r_opcall rfl rfl rfl (run_callf (vs := [.agg _]) rfl (by exact rfl) Tryz.func12 rfl (by kernel_rfl)) (kvalidate_calls hts hcl) ?_
 rintro e w3 ⟨rfl, hE3⟩
 refine ⟨_, rfl, ?_⟩
 have Q3 := hE3.size
 replace hV := Z0 hV hE3
 replace hts := hts0.now hV
 replace hcl := hcl0.now hV
 replace hf := hf0 _ hV
 replace hg := hg0 _ hV
 replace B1 := B1.evo0 hE3
 replace hAb1 := hAb1.evo0 hE3
 refine Zn rfl (run_neq rfl rfl rfl) ?_
 refine r_cond rfl (fun hc4 => ?_) (fun hc4 => ?_)
 ·skip
  refine Zs ?_
  refine Zn rfl (asS rfl) ?_
  refine r_ret (res1 (v := .slice _ _ _) rfl rfl) ?_
  rw [runF_bad hc4]
  exact ⟨_, rfl, hV, OwnE.nil _ _ _⟩
 refine r_skip ?_
 refine Zs ?_
 refine Zn rfl (asS rfl) ?_
 refine r_seq ?_
 refine r_seq ?_
 have hval : validK (⟨[l0, l1, l2, l3, l4, l5, l6, l7, l8, l9, l10, l11, l12], sh, lo, ts, cl⟩ : Chk) = 0 := Classical.not_not.1 hc4; have hnn : (0 ≤ sh ∧ sh ≤ 100) ∧ (lo = 0 ∨ (100 ≤ lo ∧ lo ≤ 10000)) := valid_nums hval; have hfl := findL_len (c := (⟨[l0, l1, l2, l3, l4, l5, l6, l7, l8, l9, l10, l11, l12], sh, lo, ts, cl⟩ : Chk)) htf htg hz (fun x hx => (hjb x hx).2.1)
 refine r_region ?_
 refine Zo rfl (run_ldN rfl ag_28 ty_28 rfl rfl hAb1) ?_
 refine Zo rfl (mvS rfl) ?_
 refine Zo rfl (mvS rfl) ?_
 refine r_opcall rfl rfl rfl (run_callf (vs := [.agg _, .slice _ _ _, .slice _ _ _]) rfl (by exact rfl) Tryz.func31 rfl (by kernel_rfl)) (all_calls hts hcl hf hg htf htg hif hig hz hjb (htab.evo0 hV) hnn) ?_
 rintro e w5 ⟨va5, qa5, rfl, hE5, hoa5, hpa5⟩
 refine ⟨_, rfl, ?_⟩
 have Q5 := hE5.size
 replace hV := Z0 hV hE5
 replace hts := hts0.now hV
 replace hcl := hcl0.now hV
 replace hf := hf0 _ hV
 replace hg := hg0 _ hV
 replace B1 := B1.evo0 hE5
 replace hAb1 := hAb1.evo0 hE5
 have hql := hpa5.length_eq
 refine Zo rfl (run_lenOE rfl rfl Tryz.underlying34 hoa5) ?_
 refine Zn rfl (mvI rfl) ?_
 refine r_block ?_
 have hI6 : Evo w5 w5 [] := Evo.refl _ _
 obtain ⟨ao7, g7, cp7, hv7, hr7, hg7⟩ := hoa5.rowOf
 subst hv7
 have hr70 := keepE hr7
 refine r_loop (α := Nat) [7, 9, 18, 19, 20, 21, 22, 23, 24, 25, 26, 27, 28, 29, 30, 31, 32] (fun k g w => ∃ vo : Value, g 18 = .int .i64 (k : Nat) ∧ g 7 = vo ∧ k ≤ qa5.length ∧ Blk w b1 28 [.int .i64 l0, .int .i64 l1, .int .i64 l2, .int .i64 l3, .int .i64 l4, .int .i64 l5, .int .i64 l6, .int .i64 l7, .int .i64 l8, .int .i64 l9, .int .i64 l10, .int .i64 l11, .int .i64 l12, .int .i64 sh, .int .i64 lo, .slice aot ts.length capt, .slice aoc cl.length capc] ∧ At w b1 0 [.int .i64 l0, .int .i64 l1, .int .i64 l2, .int .i64 l3, .int .i64 l4, .int .i64 l5, .int .i64 l6, .int .i64 l7, .int .i64 l8, .int .i64 l9, .int .i64 l10, .int .i64 l11, .int .i64 l12, .int .i64 sh, .int .i64 lo, .slice aot ts.length capt, .slice aoc cl.length capc] ∧ OwnE w w5.heap.size 39 vo ((qa5.take k).filter (levF (⟨[l0, l1, l2, l3, l4, l5, l6, l7, l8, l9, l10, l11, l12], sh, lo, ts, cl⟩ : Chk))) ∧ w5.heap.size ≤ w.heap.size ∧ Evo w0 w [] ∧ Evo w5 w []) (fun k => qa5.length - k) 0 ?_ ?_
 ·refine ⟨_, (by first | exact rfl | exact congrArg (Value.int _) (by omega) | exact congrArg (Value.int _) (by dsimp only; omega) | exact congrArg (Value.int _) (by simp) | exact congrArg S (by simp)), rfl, (by first | assumption | omega | (dsimp only; omega) | (simp; done)), B1, B1.at, (OwnE.nil _ _ _), (by first | assumption | omega | (dsimp only; omega) | (simp; done)), hV, hI6⟩
 rintro k g w9 ⟨vo, hj10, hj11, hk_k, B1, hAb1, hoo, hzl8, hV, hI6⟩
 have hs_w9hV := hV.size
 have hs_w9hI6 := hI6.size
 have hlt12 := B1.lt
 replace hg := hg0 _ hV
 replace hr7 := hr70 _ hI6
 refine Zk 18 (v := .int .i64 (k : Nat)) (by exact hj10) ?_
 refine Zk 7 (v := vo) (by exact hj11) ?_
 have hfk := List.length_filter_le (levF (⟨[l0, l1, l2, l3, l4, l5, l6, l7, l8, l9, l10, l11, l12], sh, lo, ts, cl⟩ : Chk)) (qa5.take k); have hft := List.length_take_le k qa5
 refine Zs ?_
 refine Zn rfl (run_lss rfl rfl rfl) ?_
 refine r_seq ?_
 refine r_cond rfl (fun hc13 => ?_) (fun hc13 => ?_)
 ·skip
  refine r_skip ?_
  refine r_seq ?_
  refine r_block ?_
  refine Zs ?_
  refine Zo rfl (run_ix (k) rfl Tryz.underlying34 ty_39 rfl rfl (by first | exact rfl | omega) (by omega) (hr7.addr (i := k) (by omega))) ?_
  have hA140 := fun (w' : World) (h : Evo w5 w' []) => (hr70 w' h).atD (k) (by omega)
  have hA14 := hA140 _ hI6
  refine Zo rfl (run_ldN rfl ag_39 ty_39 rfl rfl hA14) ?_
  have hob15 := fun g hg => (hoo.block (g := g) hg).2
  refine r_var (zs := [_, _, _]) (vs := [_, _, _]) ty_39 rfl rfl rfl (fun _ => rfl) rfl rfl rfl rfl ?_
  intro b16 w17 J16 E17 B16 Y16
  have Q17 := E17.size
  replace hV := Z0 hV E17
  replace hI6 := Z0 hI6 E17
  replace hts := hts0.now hV
  replace hcl := hcl0.now hV
  replace hf := hf0 _ hV
  replace hg := hg0 _ hV
  replace hr7 := hr70 _ hI6
  replace B1 := B1.evo0 E17
  replace hAb1 := hAb1.evo0 E17
  replace hoo := hoo.evo0 E17
  refine r_nil ?_
  refine r_seq ?_
  have hkb := findL_kind (hpa5.mem_iff.1 (getD_in (show k < qa5.length by omega)))
  refine r_region ?_
  refine Zo rfl (run_fa rfl rfl fo_39_0) ?_
  refine Zo rfl (run_ld1 rfl ag_3 rfl (B16.at.cell 0 rfl)) ?_
  refine Zo rfl (run_fa rfl rfl fo_28_0) ?_
  refine Zo rfl (run_ixP ((qa5.getD k default).kind.toNat) rfl Tryz.underlying24 ty_3 rfl rfl (by omega) (by omega)) ?_
  refine Zo rfl (run_ld1 rfl ag_3 rfl (cell_at (j := (qa5.getD k default).kind.toNat) hAb1 (by exact lev_at (l := ([l0, l1, l2, l3, l4, l5, l6, l7, l8, l9, l10, l11, l12] : List Int)) (rest := [.int .i64 sh, .int .i64 lo, .slice aot ts.length capt, .slice aoc cl.length capc]) (show (qa5.getD k default).kind.toNat < 13 by omega)) (by omega))) ?_
  refine Zn rfl (run_neq rfl rfl rfl) ?_
  refine r_cond rfl (fun hc18 => ?_) (fun hc18 => ?_)
  ·skip
   refine r_region ?_
   refine Zo rfl (run_mv (v := vo) rfl rfl) ?_
   refine Zo rfl (run_ldN rfl ag_39 ty_39 rfl rfl B16.at) ?_
   refine r_append1E (u := .agg _) (y := ⟨_, _, _⟩) rfl rfl Tryz.underlying34 ty_39 rfl hoo (fun _ => rfl) rfl (by first | exact rfl | (show _ = List.toArray [_, _, _]; first | (dsimp only; done) | exact rfl | (dsimp only; exact rfl))) ((by omega)) ((by omega)) (by omega) ?_
   intro q_v19 v19 w20 E20 hov19 hlv19
   have Q20 := E20.size
   replace hV := evo_stepo hV E20 (fun g hg => .inl (by first | exact (hoo.block hg).1 | (have := hoo.block hg; omega)))
   replace hI6 := evo_stepo hI6 E20 (fun g hg => .inl (by first | exact (hoo.block hg).1 | (have := hoo.block hg; omega)))
   replace hts := hts0.now hV
   replace hcl := hcl0.now hV
   replace hf := hf0 _ hV
   replace hg := hg0 _ hV
   replace hr7 := hr70 _ hI6
   replace B1 := B1.evo E20 (by intro hm; have hm2 := Option.mem_toList.1 hm; first | (have := hoo.block hm2; omega) | (simp [Value.ownBlock] at hm2; omega))
   replace hAb1 := hAb1.evo E20 (by intro hm; have hm2 := Option.mem_toList.1 hm; first | (have := hoo.block hm2; omega) | (simp [Value.ownBlock] at hm2; omega))
   refine Zn rfl (run_asg (v := v19) rfl rfl) ?_
   refine r_blk ?_
   refine r_region ?_
   refine Zo rfl (run_add rfl rfl rfl (by omega) (by omega)) ?_
   refine Zn rfl (mvI rfl) ?_
   refine r_again (k + 1) ?_ ?_ ?_
   ·first | omega | (dsimp only; omega)
   ·refine ⟨_, (by first | exact rfl | exact congrArg (Value.int _) (by omega) | exact congrArg (Value.int _) (by dsimp only; omega) | exact congrArg (Value.int _) (by simp) | exact congrArg S (by simp)), rfl, (by first | assumption | omega | (dsimp only; omega) | (simp; done)), B1, B1.at, (by first | (rw [filt_yes (by omega) (levF_yes (c := (⟨[l0, l1, l2, l3, l4, l5, l6, l7, l8, l9, l10, l11, l12], sh, lo, ts, cl⟩ : Chk)) hc18)]; exact hov19) | (rw [filt_no (by omega) (levF_no (c := (⟨[l0, l1, l2, l3, l4, l5, l6, l7, l8, l9, l10, l11, l12], sh, lo, ts, cl⟩ : Chk)) hc18)]; exact hov19)), (by first | assumption | omega | (dsimp only; omega) | (simp; done)), hV, hI6⟩
   repeat (first | (with_reducible exact Agree.merge _ _ _) | (with_reducible exact Agree.refl _ _) | (with_reducible refine Agree.upd ?_ _ _ rfl) | ((with_reducible refine Agree.inner ?_ ?_); (kernel_rfl)))
  refine r_skip ?_
  refine r_blk ?_
  refine r_region ?_
  refine Zo rfl (run_add rfl rfl rfl (by omega) (by omega)) ?_
  refine Zn rfl (mvI rfl) ?_
  refine r_again (k + 1) ?_ ?_ ?_
  ·first | omega | (dsimp only; omega)
  ·refine ⟨_, (by first | exact rfl | exact congrArg (Value.int _) (by omega) | exact congrArg (Value.int _) (by dsimp only; omega) | exact congrArg (Value.int _) (by simp) | exact congrArg S (by simp)), rfl, (by first | assumption | omega | (dsimp only; omega) | (simp; done)), B1, B1.at, (by first | (rw [filt_yes (by omega) (levF_yes (c := (⟨[l0, l1, l2, l3, l4, l5, l6, l7, l8, l9, l10, l11, l12], sh, lo, ts, cl⟩ : Chk)) hc18)]; exact hoo) | (rw [filt_no (by omega) (levF_no (c := (⟨[l0, l1, l2, l3, l4, l5, l6, l7, l8, l9, l10, l11, l12], sh, lo, ts, cl⟩ : Chk)) hc18)]; exact hoo)), (by first | assumption | omega | (dsimp only; omega) | (simp; done)), hV, hI6⟩
  repeat (first | (with_reducible exact Agree.merge _ _ _) | (with_reducible exact Agree.refl _ _) | (with_reducible refine Agree.upd ?_ _ _ rfl) | ((with_reducible refine Agree.inner ?_ ?_); (kernel_rfl)))
 refine r_exit rfl ?_
 refine Zs ?_
 refine Zo rfl (run_mv (v := vo) rfl rfl) ?_
 refine r_opcall rfl rfl rfl (run_callf (vs := [vo, .func _ _ _]) rfl (by exact rfl) Tryz.func32 rfl (by kernel_rfl)) (sortF_calls hoo) ?_
 rintro e w21 ⟨rfl, hE21, gs21, hsr21, hs21⟩
 refine ⟨_, rfl, ?_⟩
 have Q21 := hE21.size
 replace hV := evo_stepo hV hE21 (fun g hg => .inl (by first | exact (hoo.block hg).1 | (have := hoo.block hg; omega)))
 replace hI6 := evo_stepo hI6 hE21 (fun g hg => .inl (by first | exact (hoo.block hg).1 | (have := hoo.block hg; omega)))
 replace hoo := hs21
 refine r_nil ?_
 refine Zs ?_
 refine Zo rfl (run_mv (v := vo) rfl rfl) ?_
 refine Zn rfl (run_asg (v := vo) rfl rfl) ?_
 refine r_ret (res1 (v := vo) rfl rfl) ?_
 rw [runF_ok (c := (⟨[l0, l1, l2, l3, l4, l5, l6, l7, l8, l9, l10, l11, l12], sh, lo, ts, cl⟩ : Chk)) (fun q => q hval), ← sortF_of2 (p := (levF (⟨[l0, l1, l2, l3, l4, l5, l6, l7, l8, l9, l10, l11, l12], sh, lo, ts, cl⟩ : Chk))) hpa5 (by have h9 := hsr21; rw [List.take_of_length_le (by omega)] at h9; exact h9)]
 exact ⟨_, rfl, hV, hoo.base_le (by omega)⟩
theorem ref1_calls {l0 l1 l2 l3 l4 l5 l6 l7 l8 l9 l10 l11 l12 sh lo : Int} {aot : Option Addr} {capt : Nat} {ts : List TermL} {aoc : Option Addr} {capc : Nat} {cl : List Clas} {bn : Nat} {x : Vc.Item} {w0 : World} (hn : Blk w0 bn 28 [.int .i64 l0, .int .i64 l1, .int .i64 l2, .int .i64 l3, .int .i64 l4, .int .i64 l5, .int .i64 l6, .int .i64 l7, .int .i64 l8, .int .i64 l9, .int .i64 l10, .int .i64 l11, .int .i64 l12, .int .i64 sh, .int .i64 lo, .slice aot ts.length capt, .slice aoc cl.length capc]) :
    Calls Tryz.prog 50 #[(.agg (Enc.enc x).toArray), .pointer (some ⟨bn, 0, none⟩)] w0 fun e w' => e = .returned (.bool (refB (⟨[l0, l1, l2, l3, l4, l5, l6, l7, l8, l9, l10, l11, l12], sh, lo, ts, cl⟩ : Chk) x)) ∧ Evo w0 w' [] := by
 have hAn := hn.at; have hnlt := hn.lt
 refine calls_enter (n := 20) Tryz.func50 rfl Tryz.ntmps50 rfl ?_
 have hV : Evo w0 w0 [] := Evo.refl _ _
 refine Zs ?_
 refine r_box (vs := [_, _, _]) rfl rfl rfl ?_
 intro b1 w2 J1 E2 B1 Y1
 have Q2 := E2.size
 replace hV := Z0 hV E2
 replace hAn := hAn.evo0 E2
 refine Zn rfl (asB rfl) ?_
 refine Zs ?_
 refine Zo rfl (run_fa rfl rfl fo_39_0) ?_
 refine Zo rfl (run_ld1 rfl ag_3 rfl (B1.at.cell 0 rfl)) ?_
 refine Zo rfl (run_geq rfl rfl rfl) ?_
 refine Zo rfl (mvB rfl) ?_
 refine r_g rfl (wantT rfl) rfl (fun hg => run_fa rfl rfl fo_39_0) ?_
 refine r_g rfl (wantT rfl) rfl (fun hg => run_ld1 rfl ag_3 (glv rfl (fun h => h) hg) (B1.at.cell 0 rfl)) ?_
 refine r_g rfl (wantT rfl) rfl (fun hg => run_leq rfl (glv rfl (fun h => h) hg) rfl) ?_
 refine Zo rfl (run_pick_and rfl rfl (fun hq => glv rfl (fun h => h) hq) rfl) ?_
 refine Zo rfl (mvB rfl) ?_
 refine r_g rfl (wantT rfl) rfl (fun hg => run_fa rfl rfl fo_39_0) ?_
 refine r_g rfl (wantT rfl) rfl (fun hg => run_ld1 rfl ag_3 (glv rfl (fun h => h) hg) (B1.at.cell 0 rfl)) ?_
 refine r_g rfl (wantT rfl) rfl (fun hg => run_fa rfl rfl fo_28_0) ?_
 refine r_g rfl (wantT rfl) rfl (fun hg => run_ixP (x.kind.toNat) rfl Tryz.underlying24 ty_3 (glv rfl (fun h => h) hg) (glv rfl (fun h => h) hg) (by omega) (by omega)) ?_
 refine r_g rfl (wantT rfl) rfl (fun hg => run_ld1 rfl ag_3 (glv rfl (fun h => h) hg) (cell_at (j := x.kind.toNat) hAn (by exact lev_at (l := ([l0, l1, l2, l3, l4, l5, l6, l7, l8, l9, l10, l11, l12] : List Int)) (rest := [.int .i64 sh, .int .i64 lo, .slice aot ts.length capt, .slice aoc cl.length capc]) (show x.kind.toNat < 13 by omega)) (by omega))) ?_
 refine r_g rfl (wantT rfl) rfl (fun hg => run_eql rfl (glv rfl (fun h => h) hg) rfl) ?_
 refine Zo rfl (run_pick_and rfl rfl (fun hq => glv rfl (fun h => h) hq) rfl) ?_
 refine Zn rfl (asB rfl) ?_
 refine r_ret (res1 (v := .bool _) rfl rfl) ?_
 exact ⟨ret_bool rfl, hV⟩
theorem ixr_calls {l0 l1 l2 l3 l4 l5 l6 l7 l8 l9 l10 l11 l12 sh lo : Int} {aot : Option Addr} {capt : Nat} {ts : List TermL} {aoc : Option Addr} {capc : Nat} {cl : List Clas} {bn : Nat} {ao : Option Addr} {b off cap : Nat} {l : List Vc.Item} {w0 : World} (hl : RowE w0 ao b off cap l) (hn : Blk w0 bn 28 [.int .i64 l0, .int .i64 l1, .int .i64 l2, .int .i64 l3, .int .i64 l4, .int .i64 l5, .int .i64 l6, .int .i64 l7, .int .i64 l8, .int .i64 l9, .int .i64 l10, .int .i64 l11, .int .i64 l12, .int .i64 sh, .int .i64 lo, .slice aot ts.length capt, .slice aoc cl.length capc]) :
    Calls Tryz.prog 92 #[.slice ao l.length cap, .func (.func 50) #[] #[.pointer (some ⟨bn, 0, none⟩)]] w0 fun e w' => ∃ r : Int, e = .returned (.int .i64 r) ∧ Evo w0 w' [] ∧ (0 ≤ r ↔ refL (⟨[l0, l1, l2, l3, l4, l5, l6, l7, l8, l9, l10, l11, l12], sh, lo, ts, cl⟩ : Chk) l = true) := by
 have hAn := hn.at; have hnlt := hn.lt
 refine calls_enter (n := 19) Tryz.func92 rfl Tryz.ntmps92 rfl ?_
 have hV : Evo w0 w0 [] := Evo.refl _ _
 have hl0 := keepE hl
 have hbd_hl := hl.bd
 refine Zs ?_
 refine Zn rfl (asI rfl) ?_
 refine r_seq ?_
 refine Zs ?_
 refine Zo rfl (mvS rfl) ?_
 refine Zo rfl (run_lenSl rfl rfl Tryz.underlying34) ?_
 refine Zn rfl (mvI rfl) ?_
 refine r_block ?_
 refine r_loop (α := Nat) [4, 5, 8, 9, 10, 11, 12, 13, 14, 15, 16, 17, 18] (fun k g w => g 8 = .int .i64 (k : Nat) ∧ k ≤ l.length ∧ Blk w bn 28 [.int .i64 l0, .int .i64 l1, .int .i64 l2, .int .i64 l3, .int .i64 l4, .int .i64 l5, .int .i64 l6, .int .i64 l7, .int .i64 l8, .int .i64 l9, .int .i64 l10, .int .i64 l11, .int .i64 l12, .int .i64 sh, .int .i64 lo, .slice aot ts.length capt, .slice aoc cl.length capc] ∧ (∀ j, j < k → ¬ refB (⟨[l0, l1, l2, l3, l4, l5, l6, l7, l8, l9, l10, l11, l12], sh, lo, ts, cl⟩ : Chk) (l.getD j default) = true) ∧ w0.heap.size ≤ w.heap.size ∧ Evo w0 w []) (fun k => l.length - k) 0 ?_ ?_
 ·refine ⟨(by first | exact rfl | exact congrArg (Value.int _) (by omega) | exact congrArg (Value.int _) (by dsimp only; omega) | exact congrArg (Value.int _) (by simp) | exact congrArg S (by simp)), (by first | assumption | omega | (dsimp only; omega) | (simp; done)), hn, (fun j h => by omega), (by first | assumption | omega | (dsimp only; omega) | (simp; done)), hV⟩
 rintro k g w2 ⟨hj3, hk_k, hn, hno, hzl1, hV⟩
 have hs_w2hV := hV.size
 have hlt4 := hn.lt
 replace hl := hl0 _ hV
 refine Zk 8 (v := .int .i64 (k : Nat)) (by exact hj3) ?_
 refine Zs ?_
 refine Zn rfl (run_lss rfl rfl rfl) ?_
 refine r_seq ?_
 refine r_cond rfl (fun hc5 => ?_) (fun hc5 => ?_)
 ·skip
  refine r_skip ?_
  refine r_seq ?_
  refine r_block ?_
  refine Zs ?_
  refine Zo rfl (mvI rfl) ?_
  refine Zn rfl (asI rfl) ?_
  refine Zs ?_
  refine Zo rfl (run_mv (v := .func _ _ _) rfl rfl) ?_
  refine Zo rfl (mvS rfl) ?_
  refine Zo rfl (mvI rfl) ?_
  refine Zo rfl (run_ix (k) rfl Tryz.underlying34 ty_39 rfl rfl (by first | exact rfl | omega) (by omega) (hl.addr (i := k) (by omega))) ?_
  have hA60 := fun (w' : World) (h : Evo w0 w' []) => (hl0 w' h).atD (k) (by omega)
  have hA6 := hA60 _ hV
  refine Zo rfl (run_ldN rfl ag_39 ty_39 rfl rfl hA6) ?_
  refine r_opcall rfl rfl rfl (run_callfn (vs := [.agg _]) (cs := [.pointer (some ⟨bn, 0, none⟩)]) rfl (by exact rfl) rfl Tryz.func50 rfl (by kernel_rfl)) (ref1_calls hn) ?_
  rintro e w7 ⟨rfl, hE7⟩
  refine ⟨_, rfl, ?_⟩
  have Q7 := hE7.size
  replace hV := Z0 hV hE7
  replace hl := hl0 _ hV
  replace hn := hn.evo0 hE7
  refine r_nil ?_
  refine r_condb rfl (fun hc8 => ?_) (fun hc8 => ?_)
  ·skip
   refine Zs ?_
   refine Zo rfl (mvI rfl) ?_
   refine Zn rfl (asI rfl) ?_
   refine r_ret (res1 (v := .int _ _) rfl rfl) ?_
   exact ⟨_, rfl, hV, ⟨fun _ => anyI_yes (by omega) hc8, fun _ => by omega⟩⟩
  refine r_skip ?_
  refine r_blk ?_
  refine r_region ?_
  refine Zo rfl (run_add rfl rfl rfl (by omega) (by omega)) ?_
  refine Zn rfl (mvI rfl) ?_
  refine r_again (k + 1) ?_ ?_ ?_
  ·first | omega | (dsimp only; omega)
  ·refine ⟨(by first | exact rfl | exact congrArg (Value.int _) (by omega) | exact congrArg (Value.int _) (by dsimp only; omega) | exact congrArg (Value.int _) (by simp) | exact congrArg S (by simp)), (by first | assumption | omega | (dsimp only; omega) | (simp; done)), hn, (upto0 hno (by rw [hc8]; decide)), (by first | assumption | omega | (dsimp only; omega) | (simp; done)), hV⟩
  repeat (first | (with_reducible exact Agree.merge _ _ _) | (with_reducible exact Agree.refl _ _) | (with_reducible refine Agree.upd ?_ _ _ rfl) | ((with_reducible refine Agree.inner ?_ ?_); (kernel_rfl)))
 refine r_exit rfl ?_
 refine Zs ?_
 refine Zn rfl (asI rfl) ?_
 refine r_ret (res1 (v := .int _ _) rfl rfl) ?_
 exact ⟨_, rfl, hV, ⟨fun h9 => absurd h9 (by omega), fun h9 => absurd h9 (anyI_no (fun j hj => hno j (by omega)))⟩⟩
theorem ctr_calls {l0 l1 l2 l3 l4 l5 l6 l7 l8 l9 l10 l11 l12 sh lo : Int} {aot : Option Addr} {capt : Nat} {ts : List TermL} {aoc : Option Addr} {capc : Nat} {cl : List Clas} {bn : Nat} {ao : Option Addr} {b off cap : Nat} {l : List Vc.Item} {w0 : World} (hl : RowE w0 ao b off cap l) (hn : Blk w0 bn 28 [.int .i64 l0, .int .i64 l1, .int .i64 l2, .int .i64 l3, .int .i64 l4, .int .i64 l5, .int .i64 l6, .int .i64 l7, .int .i64 l8, .int .i64 l9, .int .i64 l10, .int .i64 l11, .int .i64 l12, .int .i64 sh, .int .i64 lo, .slice aot ts.length capt, .slice aoc cl.length capc]) :
    Calls Tryz.prog 49 #[.slice ao l.length cap, .func (.func 50) #[] #[.pointer (some ⟨bn, 0, none⟩)]] w0 fun e w' => e = .returned (.bool (refL (⟨[l0, l1, l2, l3, l4, l5, l6, l7, l8, l9, l10, l11, l12], sh, lo, ts, cl⟩ : Chk) l)) ∧ Evo w0 w' [] := by
 have hnlt := hn.lt
 refine calls_enter (n := 9) Tryz.func49 rfl Tryz.ntmps49 rfl ?_
 have hV : Evo w0 w0 [] := Evo.refl _ _
 have hl0 := keepE hl
 have hbd_hl := hl.bd
 refine Zs ?_
 refine Zn rfl (asB rfl) ?_
 refine Zs ?_
 refine Zo rfl (mvS rfl) ?_
 refine Zo rfl (run_mv (v := .func _ _ _) rfl rfl) ?_
 refine r_opcall rfl rfl rfl (run_callf (vs := [.slice _ _ _, .func _ _ _]) rfl (by exact rfl) Tryz.func92 rfl (by kernel_rfl)) (ixr_calls hl hn) ?_
 rintro e w1 ⟨r1, rfl, hE1, hri1⟩
 refine ⟨_, rfl, ?_⟩
 have Q1 := hE1.size
 replace hV := Z0 hV hE1
 replace hl := hl0 _ hV
 replace hn := hn.evo0 hE1
 refine Zo rfl (run_geq rfl rfl rfl) ?_
 refine Zn rfl (asB rfl) ?_
 refine r_ret (res1 (v := .bool _) rfl rfl) ?_
 exact ⟨ret_bool (by have h9 := hri1; cases h8 : refL (⟨[l0, l1, l2, l3, l4, l5, l6, l7, l8, l9, l10, l11, l12], sh, lo, ts, cl⟩ : Chk) l <;> simp_all), hV⟩
theorem refused_calls {l0 l1 l2 l3 l4 l5 l6 l7 l8 l9 l10 l11 l12 sh lo : Int} {aot : Option Addr} {bt ot capt : Nat} {ts : List TermL} {aoc : Option Addr} {bc oc capc : Nat} {cl : List Clas} {ao : Option Addr} {b off cap : Nat} {l : List Vc.Item} {w0 : World} (hl : RowE w0 ao b off cap l) (hts : RowR w0 aot bt ot capt ts) (hcl : RowR w0 aoc bc oc capc cl) :
    Calls Tryz.prog 25 #[.agg #[.int .i64 l0, .int .i64 l1, .int .i64 l2, .int .i64 l3, .int .i64 l4, .int .i64 l5, .int .i64 l6, .int .i64 l7, .int .i64 l8, .int .i64 l9, .int .i64 l10, .int .i64 l11, .int .i64 l12, .int .i64 sh, .int .i64 lo, .slice aot ts.length capt, .slice aoc cl.length capc], .slice ao l.length cap] w0 fun e w' => e = .returned (.bool (refL (⟨[l0, l1, l2, l3, l4, l5, l6, l7, l8, l9, l10, l11, l12], sh, lo, ts, cl⟩ : Chk) l)) ∧ Evo w0 w' [] := by
 refine calls_enter (n := 8) Tryz.func25 rfl Tryz.ntmps25 rfl ?_
 have hV : Evo w0 w0 [] := Evo.refl _ _
 have hl0 := keepE hl
 have hbd_hl := hl.bd
 have hts0 := hts.keep
 have hbd_hts := hts.bd
 have hcl0 := hcl.keep
 have hbd_hcl := hcl.bd
 refine Zs ?_
 refine r_box (vs := [_, _, _, _, _, _, _, _, _, _, _, _, _, _, _, _, _]) rfl rfl rfl ?_
 intro b1 w2 J1 E2 B1 Y1
 have Q2 := E2.size
 replace hV := Z0 hV E2
 replace hl := hl0 _ hV
 refine Zn rfl (asB rfl) ?_
 refine Zs ?_
 refine Zo rfl (mvS rfl) ?_
 refine Zo rfl (run_mkF (vs := [.pointer _]) rfl rfl) ?_
 refine r_opcall rfl rfl rfl (run_callf (vs := [.slice _ _ _, .func _ _ _]) rfl (by exact rfl) Tryz.func49 rfl (by kernel_rfl)) (ctr_calls hl B1) ?_
 rintro e w3 ⟨rfl, hE3⟩
 refine ⟨_, rfl, ?_⟩
 have Q3 := hE3.size
 replace hV := Z0 hV hE3
 refine Zn rfl (asB rfl) ?_
 refine r_ret (res1 (v := .bool _) rfl rfl) ?_
 exact ⟨rfl, hV⟩
end Go.Proofs.YtlfjocbnbceceaaGreatDoor
namespace Go.Proofs.YtlfjocbnbceceaaGreatDoor
open Go Go.RowKit Go.Vc
structure PairR (f g : List Vc.Item) : Prop where
  tf : Tiny f
  tg : Tiny g
  nf : ∀ x ∈ tagsL f, InR x
  ng : ∀ x ∈ tagsL g, InR x
  vf : valGo [] f = 0
structure MadeC (c : Chk) : Prop where
  len : c.lev.length = 13
  lev : ∀ x ∈ c.lev, 0 ≤ x ∧ x ≤ 2
  lev0 : c.lev.getD 0 default = 0
  sh : 0 ≤ c.short ∧ c.short ≤ 100
  lo : c.long = 0 ∨ (100 ≤ c.long ∧ c.long ≤ 10000)
  ts : ∀ x ∈ c.ts, MadeTm x
  tl : c.ts.length ≤ 3
  cl : c.cls.length ≤ 2
  vt : validT c.ts c.cls = 0
theorem MadeC.jud {c : Chk} (h : MadeC c) : ∀ x ∈ c.ts, JudT x := fun x hx => (h.ts x hx).jud
theorem MadeC.ok {c : Chk} (h : MadeC c) : ¬ chkBad c := by
  have h1 := h.sh; have h2 := h.lo; have h3 := h.lev0
  rintro (⟨x, hx, h4⟩ | h4)
  · have := h.lev x hx; omega
  · omega
theorem MadeC.valid {c : Chk} (h : MadeC c) : validK c = 0 := (if_neg h.ok).trans h.vt
theorem lev_set {l : List Int} {rest : List Value} {k : Nat} {x : Int} (hk : k < l.length) : (l.map (Value.int .i64) ++ rest).take k ++ [.int .i64 x] ++ (l.map (Value.int .i64) ++ rest).drop (k + 1) = (l.set k x).map (Value.int .i64) ++ rest := by
  rw [List.take_append_of_le_length (by simp; omega), List.drop_append_of_le_length (by simp; omega), ← List.append_assoc]
  congr 1
  rw [← List.map_take, ← List.map_drop, List.set_eq_take_append_cons_drop, if_pos hk, List.map_append, List.map_cons, List.append_assoc]; rfl
theorem lev_fit {l : List Int} {rest : List Value} {k n : Nat} (hn : n = 1) (hk : k < l.length) : Nat.ble (k + n) (l.map (Value.int .i64) ++ rest).length = true := by
  rw [Nat.ble_eq, List.length_append, List.length_map]; omega
theorem list13 {l : List Int} (h : l.length = 13) : ∃ a0 a1 a2 a3 a4 a5 a6 a7 a8 a9 a10 a11 a12, l = [a0, a1, a2, a3, a4, a5, a6, a7, a8, a9, a10, a11, a12] := by
  match l, h with
  | [a0, a1, a2, a3, a4, a5, a6, a7, a8, a9, a10, a11, a12], _ => exact ⟨_, _, _, _, _, _, _, _, _, _, _, _, _, rfl⟩
def LevR (l : List Int) : Prop := l.length = 13 ∧ (∀ x ∈ l, 0 ≤ x ∧ x ≤ 2) ∧ l.getD 0 default = 0
theorem LevR.init : LevR (List.replicate 13 0) := ⟨rfl, fun x hx => by rw [List.eq_of_mem_replicate hx]; decide, rfl⟩
theorem LevR.set {l : List Int} {k : Nat} {x : Int} (h : LevR l) (hk : 1 ≤ k) (hx : 0 ≤ x ∧ x ≤ 2) : LevR (l.set k x) := by
  refine ⟨by rw [List.length_set]; exact h.1, fun y hy => ?_, ?_⟩
  · rcases List.mem_or_eq_of_mem_set hy with q | q
    · exact h.2.1 y q
    · rw [q]; exact hx
  · rw [List.getD_eq_getElem?_getD, List.getElem?_set_ne (by omega), ← List.getD_eq_getElem?_getD]; exact h.2.2
theorem longs_bd {k : Nat} (hk : k < 4) : ([0, 100, 150, 400] : List Int).getD k default = 0 ∨ (100 ≤ ([0, 100, 150, 400] : List Int).getD k default ∧ ([0, 100, 150, 400] : List Int).getD k default ≤ 10000) := by
  rcases (show k = 0 ∨ k = 1 ∨ k = 2 ∨ k = 3 by omega) with rfl | rfl | rfl | rfl <;> decide
theorem dec1 {n : Nat} (h : n ≤ 9) : decW n [] = [UInt8.ofNat (48 + n % 10)] := decW_stop [] (by omega)
theorem dec1_name {n : Nat} (h : n ≤ 9) : isName (99 :: decW n []) = true := by
  rw [dec1 h]
  have : ∀ n, n ≤ 9 → isName [99, UInt8.ofNat (48 + n % 10)] = true := by decide
  exact this n h
theorem dec1_ne {a b : Nat} (ha : a ≤ 9) (hb : b ≤ 9) (h : ¬ a = b) : ¬ (99 :: decW a [] : Str) = 99 :: decW b [] := by
  rw [dec1 ha, dec1 hb]
  have : ∀ a, a ≤ 9 → ∀ b, b ≤ 9 → ¬ a = b → ¬ ([99, UInt8.ofNat (48 + a % 10)] : Str) = [99, UInt8.ofNat (48 + b % 10)] := by decide
  exact this a ha b hb h
theorem strip_small {s : Str} (h : s ∈ stripsL) : smallL s = true ∧ s.length ≤ 8 := by
  have : ∀ s ∈ stripsL, smallL s = true ∧ s.length ≤ 8 := by decide
  exact this s h
theorem add_small {s : Str} (h : s ∈ addsL) : smallL s = true ∧ s.length ≤ 8 := by
  have : ∀ s ∈ addsL, smallL s = true ∧ s.length ≤ 8 := by decide
  exact this s h
theorem made_endsZ {es : List Ende} (h : MadeE es) {k : Nat} (hk : k < es.length) : endedL (es.take k) (es.getD k default) = 0 := by
  have e : es.getD k default = es[k] := by simp [List.getD, hk]
  have h1 := h.2 _ (List.getElem_mem hk)
  rw [e]
  unfold endedL
  rw [if_pos ⟨strip_small h1.1, add_small h1.2⟩, if_neg]
  intro hm
  obtain ⟨j, hj, e2⟩ := List.mem_iff_getElem.1 hm
  rw [List.length_take] at hj
  rw [List.getElem_take] at e2
  exact (List.pairwise_iff_getElem.1 h.1) j k (by omega) hk (by omega) e2
theorem made_valid {cl : List Clas} {N : Nat} (h : MadeP cl N 0) (hN : N ≤ 9) : validC cl = 0 := by
  have hl : cl.length = N := h.1
  refine valid_ok (i := cl.length) (by omega) (fun j hj => ?_) (Nat.le_refl _)
  have hnm : ∀ q, (hq : q < cl.length) → (cl.getD q default).name = 99 :: decW (N - q) [] := fun q hq => by
    have e : cl.getD q default = cl[q] := by simp [List.getD, hq]
    rw [e]; exact h.2.1 q hq
  have hmm := h.mem (getD_in hj)
  have hn0 : namedL (cl.take j) (cl.getD j default).name = 0 := by
    rw [hnm j hj]
    refine named_ok (dec1_name (by omega)) ?_
    rw [findC_none (fun q hq => ?_)]
    · decide
    · rw [List.length_take] at hq
      have e : (cl.take j).getD q default = cl.getD q default := by simp [List.getD, List.getElem?_take, show q < j by omega]
      rw [e, hnm q (by omega)]
      exact dec1_ne (by omega) (by omega) (by omega)
  rw [cls_ends hn0 (by have := hmm.2; omega)]
  exact ends_ok (k := (cl.getD j default).ends.length) (fun k hk => made_endsZ hmm.1 hk) (Nat.le_refl _)
def ClsW (c : List Clas) (n : Str) : Prop := n = [] ∨ ∃ z ∈ c, z.name = n
theorem cls_found {c : List Clas} {n : Str} (h : ClsW c n) : ¬ (n ≠ [] ∧ findC c n < 0) := by
  rintro ⟨h1, h2⟩
  rcases h with h | ⟨z, hz, h3⟩
  · exact h1 h
  · have h4 : c.findIdx (fun x => decide (x.name = n)) < c.length := List.findIdx_lt_length_of_exists ⟨z, hz, by simpa using h3⟩
    unfold findC at h2; rw [if_pos h4] at h2; exact absurd h2 (by omega)
theorem stem_plain {s : Str} (h : s ∈ stemW) : plainP s := by
  have : ∀ s ∈ stemW, plainP s := by decide +kernel
  exact this s h
theorem phr1 : ∀ a ∈ phrW, phraseOk (joinS [a] []) := by decide +kernel
theorem phr2 : ∀ a ∈ phrW, ∀ b ∈ phrW, phraseOk (joinS [a, b] []) := by decide +kernel
theorem phr3 : ∀ a ∈ phrW, ∀ b ∈ phrW, ∀ c ∈ phrW, phraseOk (joinS [a, b, c] []) := by decide +kernel
theorem made_phr {s : Str} (h : MadePh s) : phraseOk s := by
  obtain ⟨ws, ⟨h1, h2, h3⟩, rfl⟩ := h
  match ws, h1, h2 with
  | [a], _, _ => exact phr1 a (h3 a (by simp))
  | [a, b], _, _ => exact phr2 a (h3 a (by simp)) b (h3 b (by simp))
  | [a, b, c], _, _ => exact phr3 a (h3 a (by simp)) b (h3 b (by simp)) c (h3 c (by simp))
  | a :: b :: c :: d :: r, _, h2 => simp at h2
def MadeTc (c : List Clas) (x : TermL) : Prop := MadeTm x ∧ ∀ y ∈ x.words, ClsW c y.add
theorem made_term {c : List Clas} {x : TermL} (h : MadeTc c x) : termE c x = 0 := by
  obtain ⟨⟨⟨h1, h2, h3⟩, ⟨h4, h5⟩, h6, h7⟩, h8⟩ := h
  refine termE_ok (fun q => by unfold limT at q; omega) (fun j hj => ?_) (fun j hj => ?_)
  · have hm := getD_in hj
    exact wordE_0 (stem_plain (h3 _ hm).1) (cls_found (h8 _ hm))
  · rcases (show j = 0 ∨ j = 1 by omega) with rfl | rfl
    · exact firstM_ok (fun i hi => phrE_0 (made_phr (h5 _ (getD_in hi))))
    · exact firstM_ok (fun i hi => phrE_0 (made_phr (h7 _ (getD_in hi))))
theorem made_terms {c : List Clas} {ts : List TermL} (hc : validC c = 0) (h : ∀ x ∈ ts, MadeTc c x) (hl : ts.length ≤ 128) : validT ts c = 0 := validT_ok hc (by omega) (fun j hj => made_term (h _ (getD_in hj)))
theorem pl_70 : placesP Tryz.prog 70 = some [(0, 1), (1, 1)] := by kernel_rfl
theorem ty_22 : tyP Tryz.prog 22 = some (1, 24, some (.slice none 0 0)) := by kernel_rfl
theorem ty_70 : tyP Tryz.prog 70 = some (2, 32, some (.agg #[(.slice none 0 0), (.int .i64 0)])) := by kernel_rfl
set_option maxHeartbeats 4000000 in
theorem classesZ_calls {y1 y2 T bs : Nat} {ao : Option Addr} {b off cap : Nat} {l : List Int} {N : Nat} {n : Int} {w0 : World} (hb : Blk w0 bs T [.slice ao l.length cap, .int .i64 (N : Nat)]) (hl : ∀ w', Evo w0 w' [bs] → RowE w' ao b off cap l) (hN : N ≤ 800000) (hn0 : 0 ≤ n) (hn9 : n ≤ 8) (hy1 : y1 < w0.heap.size) (hy2 : y2 < w0.heap.size) :
    Calls Tryz.prog 39 #[.pointer (some ⟨bs, 0, none⟩), .int .i64 n] w0 fun e w' => ∃ v, ∃ cl : List Clas, ∃ m N' : Nat, e = .returned v ∧ (MadeP cl m 0 ∧ (m : Int) ≤ n) ∧ (N ≤ N' ∧ N' ≤ N + 100) ∧ Evo w0 w' [bs] ∧ Blk w' bs T [.slice ao l.length cap, .int .i64 (N' : Nat)] ∧ OwnR w' w0.heap.size 110 [bs, y1, y2] v cl := by
 have hAs := hb.at; have hbslt := hb.lt
 refine calls_enter (n := 69) Tryz.func39 rfl Tryz.ntmps39 rfl ?_
 have hV : Evo w0 w0 [bs] := Evo.refl _ _
 have hl0 := hl
 replace hl := hl0 _ hV
 have hbd_hl := hl.bd
 refine Zs ?_
 refine Zn rfl (asS rfl) ?_
 refine Zs ?_
 refine Zn rfl (asS rfl) ?_
 refine r_seq ?_
 refine Zs ?_
 refine Zo rfl (mvP rfl) ?_
 refine Zo rfl (mvI rfl) ?_
 refine Zo rfl (run_add rfl rfl rfl (by omega) (by omega)) ?_
 refine r_opcall rfl rfl rfl (run_callf (vs := [.pointer _, .int _ _]) rfl (by exact rfl) Tryz.func38 rfl (by kernel_rfl)) (nx_calls hb hl (by omega) (by omega) (by omega)) ?_
 rintro e w1 ⟨nx1, rfl, hx1, hE1, hn1⟩
 refine ⟨_, rfl, ?_⟩
 have Q1 := hE1.size
 replace hV := Z1 hV hE1 (.inr (by simp))
 replace hl := hl0 _ hV
 replace hb := hn1
 clear hn1
 have hAs := hb.at
 refine Zn rfl (asI rfl) ?_
 refine r_block ?_
 refine r_loop (α := Nat) [5, 6, 7, 8, 9, 10, 12, 17, 18, 19, 20, 21, 22, 23, 24, 25, 26, 27, 28, 29, 30, 31, 32, 33, 34, 35, 36, 37, 38, 39, 40, 41, 42, 43, 44, 45, 46, 47, 48, 49, 50, 51, 52, 53, 54, 55, 56, 57, 58, 59, 60, 61, 62, 63, 64, 65, 66, 67] (fun i g w => ∃ vo : Value, ∃ cl : List Clas, ∃ N1 : Nat, g 6 = .int .i64 (i : Nat) ∧ g 5 = vo ∧ OwnR w w0.heap.size 110 [bs, y1, y2] vo cl ∧ Blk w bs T [.slice ao l.length cap, .int .i64 (N1 : Nat)] ∧ At w bs 0 [.slice ao l.length cap, .int .i64 (N1 : Nat)] ∧ MadeP cl nx1.toNat i ∧ (N + 1 ≤ N1 ∧ N1 + 7 * i ≤ N + 1 + 7 * nx1.toNat) ∧ w1.heap.size ≤ w.heap.size ∧ Evo w0 w [bs]) (fun i => i) nx1.toNat ?_ ?_
 ·refine ⟨_, [], _, (congrArg (Value.int _) (by omega)), rfl, (OwnR.nil _ _ _ _), hb, hb.at, (MadeP.nil _), (by first | assumption | omega | (dsimp only; omega) | (simp; done)), (by first | assumption | omega | (dsimp only; omega) | (simp; done)), hV⟩
 rintro i g w3 ⟨vo, cl, N1, hj4, hj5, hoR, hb, hAs, hMP, hN1, hzl2, hV⟩
 have hs_w3hV := hV.size
 have hlt6 := hb.lt
 refine Zk 6 (v := .int .i64 (i : Nat)) (by exact hj4) ?_
 refine Zk 5 (v := vo) (by exact hj5) ?_
 refine r_seq ?_
 refine Zs ?_
 refine Zo rfl (mvI rfl) ?_
 refine Zn rfl (run_gtr rfl rfl rfl) ?_
 refine r_cond rfl (fun hc7 => ?_) (fun hc7 => ?_)
 ·skip
  refine r_skip ?_
  refine r_seq ?_
  refine r_block ?_
  refine r_seq ?_
  have hdl9 := decW_len 0 i [] (by omega); simp only [List.length_nil] at hdl9; have hcl9 := hMP.1
  have hI : Evo w3 w3 [bs] := Evo.refl _ _
  have hoR0 := hoR
  have hobR := fun g hg => (hoR.block (g := g) hg).2
  refine r_region ?_
  refine Zo rfl (mvI rfl) ?_
  refine r_opcall rfl rfl rfl (run_callf (vs := [.int _ _]) rfl (by exact rfl) Tryz.func72 rfl (by kernel_rfl)) (Decimal_calls (by omega)) ?_
  rintro e w8 ⟨rfl, hE8⟩
  refine ⟨_, rfl, ?_⟩
  have Q8 := hE8.size
  replace hV := Z0 hV hE8
  replace hI := Z0 hI hE8
  replace hb := hb.evo0 hE8
  replace hAs := hAs.evo0 hE8
  refine Zo rfl (run_sadd rfl rfl rfl (by first | omega | (simp; done) | (simp; omega))) ?_
  refine Zo rfl (run_bld (pv := [(0, S _)]) (zs := [_, _]) (cells := [_, _]) rfl ty_110 rfl pl_110 rfl rfl) ?_
  refine r_var (zs := [_, _]) (vs := [_, _]) ty_110 rfl rfl rfl (fun _ => rfl) rfl rfl rfl rfl ?_
  intro b9 w10 J9 E10 B9 Y9
  have Q10 := E10.size
  replace hV := Z0 hV E10
  replace hI := Z0 hI E10
  replace hl := hl0 _ hV
  replace hb := hb.evo0 E10
  replace hAs := hAs.evo0 E10
  have hAb9 := B9.at
  refine r_nil ?_
  refine r_seq ?_
  refine Zs ?_
  refine Zo rfl (mvP rfl) ?_
  refine r_opcall rfl rfl rfl (run_callf (vs := [.pointer _, .int _ _]) rfl (by exact rfl) Tryz.func38 rfl (by kernel_rfl)) (nx_calls hb hl (by omega) (by omega) (by omega)) ?_
  rintro e w11 ⟨nx11, rfl, hx11, hE11, hn11⟩
  refine ⟨_, rfl, ?_⟩
  have Q11 := hE11.size
  replace hV := Z1 hV hE11 (.inr (by simp))
  replace hI := Z1 hI hE11 (by first | exact .inl (by omega) | exact .inr (by simp))
  replace hl := hl0 _ hV
  replace B9 := B9.evo hE11 (by simp; omega)
  replace hAb9 := hAb9.evo hE11 (by simp; omega)
  replace hb := hn11
  clear hn11
  have hAs := hb.at
  refine Zn rfl (asI rfl) ?_
  refine r_block ?_
  refine r_loop (α := Nat) [8, 9, 10, 12, 27, 28, 29, 30, 31, 32, 33, 34, 35, 36, 37, 38, 39, 40, 41, 42, 43, 44, 45, 46, 47, 48, 49, 50, 51, 52, 53, 54, 55, 56, 57, 58, 59, 60, 61, 62, 63] (fun kk g w => ∃ vs : Value, ∃ es : List Ende, ∃ N2 : Nat, g 8 = .int .i64 (kk : Nat) ∧ OwnE w w10.heap.size 112 vs es ∧ Blk w b9 110 [S (99 :: decW i []), vs] ∧ At w b9 0 [S (99 :: decW i []), vs] ∧ Blk w bs T [.slice ao l.length cap, .int .i64 (N2 : Nat)] ∧ At w bs 0 [.slice ao l.length cap, .int .i64 (N2 : Nat)] ∧ MadeE es ∧ (es.length + kk ≤ 3 ∧ N1 + 1 ≤ N2 ∧ N2 + 2 * kk ≤ N1 + 1 + 2 * nx11.toNat) ∧ w11.heap.size ≤ w.heap.size ∧ Evo w0 w [bs] ∧ Evo w3 w [bs]) (fun kk => kk) nx11.toNat ?_ ?_
  ·refine ⟨_, [], _, (congrArg (Value.int _) (by omega)), (OwnE.nil _ _ _), B9, B9.at, hb, hb.at, MadeE.nil, (by simp; omega), (by first | assumption | omega | (dsimp only; omega) | (simp; done)), hV, hI⟩
  rintro kk g w13 ⟨vs, es, N2, hj14, hos, B9, hAb9, hb, hAs, hME, hek, hzl12, hV, hI⟩
  have hs_w13hV := hV.size
  have hs_w13hI := hI.size
  have hlt15 := B9.lt
  have hlt16 := hb.lt
  replace hl := hl0 _ hV
  refine Zk 8 (v := .int .i64 (kk : Nat)) (by exact hj14) ?_
  refine r_seq ?_
  refine Zs ?_
  refine Zo rfl (mvI rfl) ?_
  refine Zn rfl (run_gtr rfl rfl rfl) ?_
  refine r_cond rfl (fun hc17 => ?_) (fun hc17 => ?_)
  ·skip
   refine r_skip ?_
   refine r_seq ?_
   refine r_block ?_
   refine r_seq ?_
   refine r_cut [9, 31, 32, 33, 34, 35, 36, 37, 38, 39, 40, 41] (fun g w => ∃ bx : Nat, ∃ sx : Str, ∃ tx : Str, g 9 = .pointer (some ⟨bx, 0, none⟩) ∧ Blk w bx 112 (Enc.enc (⟨sx, tx⟩ : Ende)) ∧ At w bx 0 (Enc.enc (⟨sx, tx⟩ : Ende)) ∧ OwnE w w10.heap.size 112 vs es ∧ Blk w b9 110 [S (99 :: decW i []), vs] ∧ At w b9 0 [S (99 :: decW i []), vs] ∧ Blk w bs T [.slice ao l.length cap, .int .i64 (N2 + 2 : Nat)] ∧ At w bs 0 [.slice ao l.length cap, .int .i64 (N2 + 2 : Nat)] ∧ sx ∈ stripsL ∧ tx ∈ addsL ∧ w13.heap.size ≤ w.heap.size ∧ Evo w0 w [bs] ∧ Evo w3 w [bs]) ?_ ?_
   ·skip
    have hbsz : bs < w13.heap.size := by omega
    refine h_rgm M9 (I9 w13 bs 112 T N2 (.slice ao l.length cap)) (by kernel_rfl) (by kernel_rfl) (fun w1 he => I9.init (he.mono (by simp)) (hb.evo0 he)) ?_ ?_
    ·skip
     intro g w20 hI9
     obtain ⟨hE19, hbz, bx, sx, tx, hbx1, hj9, hbx, hsx, htx⟩ := hI9.done
     refine Zk 9 (v := .pointer (some ⟨bx, 0, none⟩)) (by exact hj9) ?_
     have Q20 := hE19.size
     replace hV := Z1 hV hE19 (.inr (by simp))
     replace hI := Z1 hI hE19 (by first | exact .inl (by omega) | exact .inr (by simp))
     replace hl := hl0 _ hV
     replace hos := hos.evo hE19 (by intro g hg hm; simp at hm; subst hm; have := hos.block hg; omega)
     replace B9 := B9.evo hE19 (by simp; omega)
     replace hAb9 := hAb9.evo hE19 (by simp; omega)
     have hb := hbz; have hAs := hb.at; have hAx := hbx.at
     refine r_cut_end ?_ ?_
     ·refine ⟨_, _, _, rfl, hbx, hbx.at, hos, B9, B9.at, hb, hb.at, hsx, htx, (by first | assumption | omega | (dsimp only; omega) | (simp; done)), hV, hI⟩
     repeat (first | (with_reducible exact Agree.merge _ _ _) | (with_reducible exact Agree.refl _ _) | (with_reducible refine Agree.upd ?_ _ _ rfl) | ((with_reducible refine Agree.inner ?_ ?_); (kernel_rfl)))
    refine ⟨fun l9 g w hu hd ⟨hI9, hA9⟩ => ?_, ?_⟩
    ·skip
     obtain ⟨hE, hb, h12, hP⟩ := hI9.deps (by omega) hu
     refine rg_step hA9 ?_
     have hE1 : Evo w w [bs] := Evo.refl _ _
     have hcn := cn9_le l9
     have hszE := hE.size
     refine r_bslice (pv := [(0, S _), (1, S _), (2, S _), (3, S _), (4, S _)]) (zs := [_]) (cs := [_, _, _, _, _]) Tryz.underlying77 ty_9 rfl rfl rfl rfl rfl ?_
     intro b21 w22 J21 E22 B21 Y21
     have Q22 := E22.size
     replace hE := Z0 hE E22
     replace hE1 := Z0 hE1 E22
     replace hb := hb.evo0 E22
     have hrb21 : RowE w22 (some ⟨b21, 0, none⟩) b21 0 5 stripsL := rowLit stripsL B21 rfl rfl
     refine rg_end (And.intro ?_ ?_)
     ·exact I9.step (i := 0) (by omega) hu hbsz h12 hP hE1 hE (by rw [cn9_set (by decide) (by decide)]; exact hb) (same_put (same_merge (M := M9))) ⟨_, by omega, rfl, hrb21⟩
     repeat (first | (with_reducible exact Agree.merge _ _ _) | (with_reducible exact Agree.refl _ _) | (with_reducible refine Agree.upd ?_ _ _ rfl) | ((with_reducible refine Agree.inner ?_ ?_); (kernel_rfl)))
    refine ⟨fun l9 g w hu hd ⟨hI9, hA9⟩ => ?_, ?_⟩
    ·skip
     obtain ⟨hE, hb, h12, hP⟩ := hI9.deps (by omega) hu
     refine rg_step hA9 ?_
     have hE1 : Evo w w [bs] := Evo.refl _ _
     have hcn := cn9_le l9
     have hszE := hE.size
     refine Zo rfl (mvP rfl) ?_
     refine rg_end (And.intro ?_ ?_)
     ·exact I9.step (i := 1) (by omega) hu hbsz h12 hP hE1 hE (by rw [cn9_set (by decide) (by decide)]; exact hb) (same_put (same_merge (M := M9))) rfl
     repeat (first | (with_reducible exact Agree.merge _ _ _) | (with_reducible exact Agree.refl _ _) | (with_reducible refine Agree.upd ?_ _ _ rfl) | ((with_reducible refine Agree.inner ?_ ?_); (kernel_rfl)))
    refine ⟨fun l9 g w hu hd ⟨hI9, hA9⟩ => ?_, ?_⟩
    ·skip
     obtain ⟨hE, hb, h12, hP⟩ := hI9.deps (by omega) hu
     refine rg_step hA9 ?_
     have hE1 : Evo w w [bs] := Evo.refl _ _
     have hcn := cn9_le l9
     have hszE := hE.size
     have hj1 := hP 1 (dep_of hd 1 (by kernel_rfl))
     have hl := hl0 _ (Evo.trans hV hE (fun x hx _ => hx))
     refine r_knowL (i := 32) (v := .pointer (some ⟨bs, 0, none⟩)) (by exact hj1) ?_
     refine r_opcall rfl rfl rfl (run_callf (vs := [.pointer _, .int _ _]) rfl (by exact rfl) Tryz.func38 rfl (by kernel_rfl)) (nx_calls hb hl (by omega) (by omega) (by omega)) ?_
     rintro e w23 ⟨nx23, rfl, hx23, hE23, hn23⟩
     refine ⟨_, rfl, ?_⟩
     have Q23 := hE23.size
     replace hE := Z1 hE hE23 (by first | exact .inl (by omega) | exact .inr (by simp))
     replace hE1 := Z1 hE1 hE23 (by first | exact .inl (by omega) | exact .inr (by simp))
     replace hb := hn23
     clear hn23
     refine rg_end (And.intro ?_ ?_)
     ·exact I9.step (i := 2) (by omega) hu hbsz h12 hP hE1 hE (by rw [cn9_2 hu]; exact hb) (same_put (same_know (same_merge (M := M9)) hj1)) ⟨_, rfl, hx23⟩
     repeat (first | (with_reducible exact Agree.merge _ _ _) | (with_reducible exact Agree.refl _ _) | (with_reducible refine Agree.upd ?_ _ _ rfl) | ((with_reducible refine Agree.inner ?_ ?_); (kernel_rfl)))
    refine ⟨fun l9 g w hu hd ⟨hI9, hA9⟩ => ?_, ?_⟩
    ·skip
     obtain ⟨hE, hb, h12, hP⟩ := hI9.deps (by omega) hu
     refine rg_step hA9 ?_
     have hE1 : Evo w w [bs] := Evo.refl _ _
     have hcn := cn9_le l9
     have hszE := hE.size
     obtain ⟨bz, hbz1, hj1, hrz⟩ := hP 0 (dep_of hd 0 (by kernel_rfl))
     obtain ⟨rz, hj2, hr0, hr5⟩ := hP 2 (dep_of hd 2 (by kernel_rfl))
     refine r_knowL (i := 31) (v := .slice (some ⟨bz, 0, none⟩) 5 5) (by exact hj1) ?_
     refine r_knowL (i := 33) (v := .int .i64 rz) (by exact hj2) ?_
     refine Zo rfl (run_ix (rz.toNat) rfl Tryz.underlying77 ty_9 rfl rfl (by omega) (by show _ < 5; omega) (hrz.addr (i := rz.toNat) (by show _ < 5; omega))) ?_
     have hA24 := hrz.atD (rz.toNat) (by show _ < 5; omega)
     refine rg_end (And.intro ?_ ?_)
     ·exact I9.step (i := 3) (by omega) hu hbsz h12 hP hE1 hE (by rw [cn9_set (by decide) (by decide)]; exact hb) (same_put (same_know (same_know (same_merge (M := M9)) hj1) hj2)) (by obtain ⟨sq, hq1, hq2⟩ := elem_in hrz (show rz.toNat < _ by show _ < 5; omega) rfl; exact ⟨_, _, sq, by omega, rfl, hq1, hq2⟩)
     repeat (first | (with_reducible exact Agree.merge _ _ _) | (with_reducible exact Agree.refl _ _) | (with_reducible refine Agree.upd ?_ _ _ rfl) | ((with_reducible refine Agree.inner ?_ ?_); (kernel_rfl)))
    refine ⟨fun l9 g w hu hd ⟨hI9, hA9⟩ => ?_, ?_⟩
    ·skip
     obtain ⟨hE, hb, h12, hP⟩ := hI9.deps (by omega) hu
     refine rg_step hA9 ?_
     have hE1 : Evo w w [bs] := Evo.refl _ _
     have hcn := cn9_le l9
     have hszE := hE.size
     obtain ⟨bz, jz, sz, hbz1, hj1, haz, hsz⟩ := hP 3 (dep_of hd 3 (by kernel_rfl))
     refine r_knowL (i := 34) (v := .pointer (some ⟨bz, jz, none⟩)) (by exact hj1) ?_
     refine Zo rfl (run_ld1 rfl ag_9 rfl (haz.cell 0 rfl)) ?_
     refine rg_end (And.intro ?_ ?_)
     ·exact I9.step (i := 4) (by omega) hu hbsz h12 hP hE1 hE (by rw [cn9_set (by decide) (by decide)]; exact hb) (same_put (same_know (same_merge (M := M9)) hj1)) ⟨_, rfl, hsz⟩
     repeat (first | (with_reducible exact Agree.merge _ _ _) | (with_reducible exact Agree.refl _ _) | (with_reducible refine Agree.upd ?_ _ _ rfl) | ((with_reducible refine Agree.inner ?_ ?_); (kernel_rfl)))
    refine ⟨fun l9 g w hu hd ⟨hI9, hA9⟩ => ?_, ?_⟩
    ·skip
     obtain ⟨hE, hb, h12, hP⟩ := hI9.deps (by omega) hu
     refine rg_step hA9 ?_
     have hE1 : Evo w w [bs] := Evo.refl _ _
     have hcn := cn9_le l9
     have hszE := hE.size
     refine r_bslice (pv := [(0, S _), (1, S _), (2, S _), (3, S _), (4, S _), (5, S _)]) (zs := [_]) (cs := [_, _, _, _, _, _]) Tryz.underlying77 ty_9 rfl rfl rfl rfl rfl ?_
     intro b25 w26 J25 E26 B25 Y25
     have Q26 := E26.size
     replace hE := Z0 hE E26
     replace hE1 := Z0 hE1 E26
     replace hb := hb.evo0 E26
     have hrb25 : RowE w26 (some ⟨b25, 0, none⟩) b25 0 6 addsL := rowLit addsL B25 rfl rfl
     refine rg_end (And.intro ?_ ?_)
     ·exact I9.step (i := 5) (by omega) hu hbsz h12 hP hE1 hE (by rw [cn9_set (by decide) (by decide)]; exact hb) (same_put (same_merge (M := M9))) ⟨_, by omega, rfl, hrb25⟩
     repeat (first | (with_reducible exact Agree.merge _ _ _) | (with_reducible exact Agree.refl _ _) | (with_reducible refine Agree.upd ?_ _ _ rfl) | ((with_reducible refine Agree.inner ?_ ?_); (kernel_rfl)))
    refine ⟨fun l9 g w hu hd ⟨hI9, hA9⟩ => ?_, ?_⟩
    ·skip
     obtain ⟨hE, hb, h12, hP⟩ := hI9.deps (by omega) hu
     refine rg_step hA9 ?_
     have hE1 : Evo w w [bs] := Evo.refl _ _
     have hcn := cn9_le l9
     have hszE := hE.size
     refine Zo rfl (mvP rfl) ?_
     refine rg_end (And.intro ?_ ?_)
     ·exact I9.step (i := 6) (by omega) hu hbsz h12 hP hE1 hE (by rw [cn9_set (by decide) (by decide)]; exact hb) (same_put (same_merge (M := M9))) rfl
     repeat (first | (with_reducible exact Agree.merge _ _ _) | (with_reducible exact Agree.refl _ _) | (with_reducible refine Agree.upd ?_ _ _ rfl) | ((with_reducible refine Agree.inner ?_ ?_); (kernel_rfl)))
    refine ⟨fun l9 g w hu hd ⟨hI9, hA9⟩ => ?_, ?_⟩
    ·skip
     obtain ⟨hE, hb, h12, hP⟩ := hI9.deps (by omega) hu
     refine rg_step hA9 ?_
     have hE1 : Evo w w [bs] := Evo.refl _ _
     have hcn := cn9_le l9
     have hszE := hE.size
     have hj1 := hP 6 (dep_of hd 6 (by kernel_rfl))
     have hl := hl0 _ (Evo.trans hV hE (fun x hx _ => hx))
     refine r_knowL (i := 37) (v := .pointer (some ⟨bs, 0, none⟩)) (by exact hj1) ?_
     refine r_opcall rfl rfl rfl (run_callf (vs := [.pointer _, .int _ _]) rfl (by exact rfl) Tryz.func38 rfl (by kernel_rfl)) (nx_calls hb hl (by omega) (by omega) (by omega)) ?_
     rintro e w27 ⟨nx27, rfl, hx27, hE27, hn27⟩
     refine ⟨_, rfl, ?_⟩
     have Q27 := hE27.size
     replace hE := Z1 hE hE27 (by first | exact .inl (by omega) | exact .inr (by simp))
     replace hE1 := Z1 hE1 hE27 (by first | exact .inl (by omega) | exact .inr (by simp))
     replace hb := hn27
     clear hn27
     refine rg_end (And.intro ?_ ?_)
     ·exact I9.step (i := 7) (by omega) hu hbsz h12 hP hE1 hE (by rw [cn9_7 hu]; exact hb) (same_put (same_know (same_merge (M := M9)) hj1)) ⟨_, rfl, hx27⟩
     repeat (first | (with_reducible exact Agree.merge _ _ _) | (with_reducible exact Agree.refl _ _) | (with_reducible refine Agree.upd ?_ _ _ rfl) | ((with_reducible refine Agree.inner ?_ ?_); (kernel_rfl)))
    refine ⟨fun l9 g w hu hd ⟨hI9, hA9⟩ => ?_, ?_⟩
    ·skip
     obtain ⟨hE, hb, h12, hP⟩ := hI9.deps (by omega) hu
     refine rg_step hA9 ?_
     have hE1 : Evo w w [bs] := Evo.refl _ _
     have hcn := cn9_le l9
     have hszE := hE.size
     obtain ⟨bz, hbz1, hj1, hrz⟩ := hP 5 (dep_of hd 5 (by kernel_rfl))
     obtain ⟨rz, hj2, hr0, hr5⟩ := hP 7 (dep_of hd 7 (by kernel_rfl))
     refine r_knowL (i := 36) (v := .slice (some ⟨bz, 0, none⟩) 6 6) (by exact hj1) ?_
     refine r_knowL (i := 38) (v := .int .i64 rz) (by exact hj2) ?_
     refine Zo rfl (run_ix (rz.toNat) rfl Tryz.underlying77 ty_9 rfl rfl (by omega) (by show _ < 6; omega) (hrz.addr (i := rz.toNat) (by show _ < 6; omega))) ?_
     have hA28 := hrz.atD (rz.toNat) (by show _ < 6; omega)
     refine rg_end (And.intro ?_ ?_)
     ·exact I9.step (i := 8) (by omega) hu hbsz h12 hP hE1 hE (by rw [cn9_set (by decide) (by decide)]; exact hb) (same_put (same_know (same_know (same_merge (M := M9)) hj1) hj2)) (by obtain ⟨sq, hq1, hq2⟩ := elem_in hrz (show rz.toNat < _ by show _ < 6; omega) rfl; exact ⟨_, _, sq, by omega, rfl, hq1, hq2⟩)
     repeat (first | (with_reducible exact Agree.merge _ _ _) | (with_reducible exact Agree.refl _ _) | (with_reducible refine Agree.upd ?_ _ _ rfl) | ((with_reducible refine Agree.inner ?_ ?_); (kernel_rfl)))
    refine ⟨fun l9 g w hu hd ⟨hI9, hA9⟩ => ?_, ?_⟩
    ·skip
     obtain ⟨hE, hb, h12, hP⟩ := hI9.deps (by omega) hu
     refine rg_step hA9 ?_
     have hE1 : Evo w w [bs] := Evo.refl _ _
     have hcn := cn9_le l9
     have hszE := hE.size
     obtain ⟨bz, jz, sz, hbz1, hj1, haz, hsz⟩ := hP 8 (dep_of hd 8 (by kernel_rfl))
     refine r_knowL (i := 39) (v := .pointer (some ⟨bz, jz, none⟩)) (by exact hj1) ?_
     refine Zo rfl (run_ld1 rfl ag_9 rfl (haz.cell 0 rfl)) ?_
     refine rg_end (And.intro ?_ ?_)
     ·exact I9.step (i := 9) (by omega) hu hbsz h12 hP hE1 hE (by rw [cn9_set (by decide) (by decide)]; exact hb) (same_put (same_know (same_merge (M := M9)) hj1)) ⟨_, rfl, hsz⟩
     repeat (first | (with_reducible exact Agree.merge _ _ _) | (with_reducible exact Agree.refl _ _) | (with_reducible refine Agree.upd ?_ _ _ rfl) | ((with_reducible refine Agree.inner ?_ ?_); (kernel_rfl)))
    refine ⟨fun l9 g w hu hd ⟨hI9, hA9⟩ => ?_, ?_⟩
    ·skip
     obtain ⟨hE, hb, h12, hP⟩ := hI9.deps (by omega) hu
     refine rg_step hA9 ?_
     have hE1 : Evo w w [bs] := Evo.refl _ _
     have hcn := cn9_le l9
     have hszE := hE.size
     obtain ⟨sz, hj1, hsz⟩ := hP 4 (dep_of hd 4 (by kernel_rfl))
     obtain ⟨tz, hj2, htz⟩ := hP 9 (dep_of hd 9 (by kernel_rfl))
     refine r_knowL (i := 35) (v := S sz) (by exact hj1) ?_
     refine r_knowL (i := 40) (v := S tz) (by exact hj2) ?_
     refine Zo rfl (run_bld (pv := [(0, S _), (1, S _)]) (zs := [_, _]) (cells := [_, _]) rfl ty_112 rfl pl_112 rfl rfl) ?_
     refine rg_end (And.intro ?_ ?_)
     ·exact I9.step (i := 10) (by omega) hu hbsz h12 hP hE1 hE (by rw [cn9_set (by decide) (by decide)]; exact hb) (same_put (same_know (same_know (same_merge (M := M9)) hj1) hj2)) ⟨_, _, rfl, hsz, htz⟩
     repeat (first | (with_reducible exact Agree.merge _ _ _) | (with_reducible exact Agree.refl _ _) | (with_reducible refine Agree.upd ?_ _ _ rfl) | ((with_reducible refine Agree.inner ?_ ?_); (kernel_rfl)))
    refine ⟨fun l9 g w hu hd ⟨hI9, hA9⟩ => ?_, ?_⟩
    ·skip
     obtain ⟨hE, hb, h12, hP⟩ := hI9.deps (by omega) hu
     refine rg_step hA9 ?_
     have hE1 : Evo w w [bs] := Evo.refl _ _
     have hcn := cn9_le l9
     have hszE := hE.size
     refine r_alloc (zs := [_, _]) ty_112 rfl rfl ?_
     intro b29 w30 J29 E30 B29 Y29
     have Q30 := E30.size
     replace hE := Z0 hE E30
     replace hE1 := Z0 hE1 E30
     replace hb := hb.evo0 E30
     refine rg_end (And.intro ?_ ?_)
     ·exact I9.step (i := 11) (by omega) hu hbsz h12 hP hE1 hE (by rw [cn9_set (by decide) (by decide)]; exact hb) (same_put (same_merge (M := M9))) ⟨_, by omega, rfl, [], [], B29⟩
     repeat (first | (with_reducible exact Agree.merge _ _ _) | (with_reducible exact Agree.refl _ _) | (with_reducible refine Agree.upd ?_ _ _ rfl) | ((with_reducible refine Agree.inner ?_ ?_); (kernel_rfl)))
    refine ⟨fun l9 g w hu hd ⟨hI9, hA9⟩ => ?_, ?_⟩
    ·skip
     obtain ⟨hE, hb, h12, hP⟩ := hI9.deps (by omega) hu
     refine rg_step hA9 ?_
     have hE1 : Evo w w [bs] := Evo.refl _ _
     have hcn := cn9_le l9
     have hszE := hE.size
     have hAs := hb.at
     obtain ⟨bz, hbz1, hj1, sy, ty, hbx⟩ := hP 11 (dep_of hd 11 (by kernel_rfl))
     obtain ⟨sz, tz, hj2, hsz, htz⟩ := hP 10 (dep_of hd 10 (by kernel_rfl))
     refine r_knowL (i := 9) (v := .pointer (some ⟨bz, 0, none⟩)) (by exact hj1) ?_
     refine r_knowL (i := 41) (v := .agg #[S sz, S tz]) (by exact hj2) ?_
     refine r_store (v := .agg _) (vs := [_, _]) (cs' := [_, _]) rfl rfl hbx ty_112 rfl rfl rfl rfl rfl ?_
     intro w31 E31 V31 hb_new
     have Q31 := E31.size
     replace hE := Z1 hE E31 (by first | exact .inl (by omega) | exact .inr (by simp))
     replace hb := hb.evo E31 (by simp; omega)
     replace hAs := hAs.evo E31 (by simp; omega)
     replace hbx := hb_new
     clear hb_new
     refine rg_end (And.intro ?_ ?_)
     ·exact I9.last hu (deps_all hd (by kernel_rfl)) hE (by rw [cn9_set (by decide) (by decide)]; exact hb) ⟨bz, sz, tz, by omega, rfl, hbx, hsz, htz⟩
     repeat (first | (with_reducible exact Agree.merge _ _ _) | (with_reducible exact Agree.refl _ _) | (with_reducible refine Agree.upd ?_ _ _ rfl) | ((with_reducible refine Agree.inner ?_ ?_); (kernel_rfl)))
    exact trivial
   rintro g w32 ⟨bx, sx, tx, hj33, hbx, hAx, hos, B9, hAb9, hb, hAs, hsx, htx, hzl18, hV, hI⟩
   have hs_w32hV := hV.size
   have hs_w32hI := hI.size
   have hlt34 := hbx.lt
   have hlt35 := B9.lt
   have hlt36 := hb.lt
   replace hl := hl0 _ hV
   refine Zk 9 (v := .pointer (some ⟨bx, 0, none⟩)) (by exact hj33) ?_
   refine Zs ?_
   refine Zn rfl (asB rfl) ?_
   refine r_seq ?_
   refine Zs ?_
   refine Zo rfl (run_fa rfl rfl fo_110_1) ?_
   refine Zo rfl (run_ld1 rfl ag_108 rfl (hAb9.cell 1 rfl)) ?_
   refine Zo rfl (run_lenOE rfl rfl Tryz.underlying108 hos) ?_
   refine Zn rfl (mvI rfl) ?_
   refine r_block ?_
   have hbdo := hos.bd
   obtain ⟨ao37, g37, cp37, hv37, hr37, hg37⟩ := hos.rowOf
   subst hv37
   refine r_loop (α := Nat) [10, 12, 45, 46, 47, 48, 49, 50, 51, 52, 53, 54, 55] (fun k g w => g 45 = .int .i64 (k : Nat) ∧ g 10 = .bool (decide ((⟨sx, tx⟩ : Ende) ∈ es.take k)) ∧ k ≤ es.length ∧ RowE w ao37 g37 0 cp37 es ∧ OwnE w w10.heap.size 112 (.slice ao37 es.length cp37) es ∧ Blk w b9 110 [S (99 :: decW i []), .slice ao37 es.length cp37] ∧ At w b9 0 [S (99 :: decW i []), .slice ao37 es.length cp37] ∧ Blk w bs T [.slice ao l.length cap, .int .i64 (N2 + 2 : Nat)] ∧ At w bs 0 [.slice ao l.length cap, .int .i64 (N2 + 2 : Nat)] ∧ Blk w bx 112 (Enc.enc (⟨sx, tx⟩ : Ende)) ∧ At w bx 0 (Enc.enc (⟨sx, tx⟩ : Ende)) ∧ w32.heap.size ≤ w.heap.size ∧ Evo w0 w [bs] ∧ Evo w3 w [bs]) (fun k => es.length - k) 0 ?_ ?_
   ·refine ⟨(by first | exact rfl | exact congrArg (Value.int _) (by omega) | exact congrArg (Value.int _) (by dsimp only; omega) | exact congrArg (Value.int _) (by simp) | exact congrArg S (by simp)), (congrArg Value.bool (by simp)), (by first | assumption | omega | (dsimp only; omega) | (simp; done)), hr37, (by first | assumption | omega | (dsimp only; omega) | (simp; done)), (by first | assumption | omega | (dsimp only; omega) | (simp; done)), (by first | assumption | omega | (dsimp only; omega) | (simp; done)), (by first | assumption | omega | (dsimp only; omega) | (simp; done)), (by first | assumption | omega | (dsimp only; omega) | (simp; done)), (by first | assumption | omega | (dsimp only; omega) | (simp; done)), (by first | assumption | omega | (dsimp only; omega) | (simp; done)), (by first | assumption | omega | (dsimp only; omega) | (simp; done)), hV, hI⟩
   rintro k g w39 ⟨hj40, hj41, hk_k, hro, hos, B9, hAb9, hb, hAs, hbx, hAx, hzl38, hV, hI⟩
   have hs_w39hV := hV.size
   have hs_w39hI := hI.size
   have hlt42 := B9.lt
   have hlt43 := hb.lt
   have hlt44 := hbx.lt
   replace hl := hl0 _ hV
   refine Zk 45 (v := .int .i64 (k : Nat)) (by exact hj40) ?_
   refine Zk 10 (v := .bool (decide ((⟨sx, tx⟩ : Ende) ∈ es.take k))) (by exact hj41) ?_
   refine Zs ?_
   refine Zn rfl (run_lss rfl rfl rfl) ?_
   refine r_seq ?_
   refine r_cond rfl (fun hc45 => ?_) (fun hc45 => ?_)
   ·skip
    refine r_skip ?_
    refine r_seq ?_
    refine r_block ?_
    refine Zs ?_
    refine Zo rfl (run_ix (k) rfl Tryz.underlying108 ty_112 rfl rfl (by first | exact rfl | omega) (by omega) (hro.addr (i := k) (by omega))) ?_
    have hA46 := hro.atD (k) (by omega)
    refine Zo rfl (run_ldN rfl ag_112 ty_112 rfl rfl hA46) ?_
    have hob47 := fun g hg => (hos.block (g := g) hg).2
    refine r_var (zs := [_, _]) (vs := [_, _]) ty_112 rfl rfl rfl (fun _ => rfl) rfl rfl rfl rfl ?_
    intro b48 w49 J48 E49 B48 Y48
    have Q49 := E49.size
    replace hV := Z0 hV E49
    replace hI := Z0 hI E49
    replace hl := hl0 _ hV
    replace hro := hro.evo0 E49
    replace hos := hos.evo0 E49
    replace B9 := B9.evo0 E49
    replace hAb9 := hAb9.evo0 E49
    replace hb := hb.evo0 E49
    replace hAs := hAs.evo0 E49
    replace hbx := hbx.evo0 E49
    replace hAx := hAx.evo0 E49
    refine r_nil ?_
    refine r_region ?_
    refine Zo rfl (run_mvb rfl rfl) ?_
    refine Zo rfl (mvB rfl) ?_
    refine r_g rfl (wantF rfl) rfl (fun hg => run_ldN rfl ag_112 ty_112 rfl rfl hAx) ?_
    refine r_g rfl (wantF rfl) rfl (fun hg => run_ldN rfl ag_112 ty_112 rfl rfl B48.at) ?_
    refine r_g rfl (wantF rfl) rfl (fun hg => run_eqlG (α := Ende) _ _ rfl Tryz.eqGuardType112 ee_112 (glv rfl (fun h => h) hg) (glv rfl (fun h => h) hg)) ?_
    refine Zo rfl (run_pick_or rfl rfl rfl (fun hq => glv rfl (fun h => h) hq)) ?_
    refine Zn rfl (asB rfl) ?_
    refine r_blk ?_
    refine r_region ?_
    refine Zo rfl (run_add rfl rfl rfl (by omega) (by omega)) ?_
    refine Zn rfl (mvI rfl) ?_
    refine r_again (k + 1) ?_ ?_ ?_
    ·first | omega | (dsimp only; omega)
    ·refine ⟨(by first | exact rfl | exact congrArg (Value.int _) (by omega) | exact congrArg (Value.int _) (by dsimp only; omega) | exact congrArg (Value.int _) (by simp) | exact congrArg S (by simp)), (congrArg Value.bool (decide_eq_decide.2 ((or_congr_left decide_eq_true_iff).trans (mem_takeS (x := (⟨sx, tx⟩ : Ende)) (l := es) (k := k) (by omega))))), (by first | assumption | omega | (dsimp only; omega) | (simp; done)), hro, hos, B9, hAb9, hb, hAs, hbx, hAx, (by first | assumption | omega | (dsimp only; omega) | (simp; done)), hV, hI⟩
    repeat (first | (with_reducible exact Agree.merge _ _ _) | (with_reducible exact Agree.refl _ _) | (with_reducible refine Agree.upd ?_ _ _ rfl) | ((with_reducible refine Agree.inner ?_ ?_); (kernel_rfl)))
   refine r_exit rfl ?_
   refine Zs ?_
   refine Zo rfl (run_mvb rfl rfl) ?_
   refine Zn rfl (run_not rfl rfl) ?_
   refine r_cond rfl (fun hc50 => ?_) (fun hc50 => ?_)
   ·skip
    refine r_region ?_
    refine Zo rfl (run_fa rfl rfl fo_110_1) ?_
    refine Zo rfl (run_ld1 rfl ag_108 rfl (hAb9.cell 1 rfl)) ?_
    refine Zo rfl (run_ldN rfl ag_112 ty_112 rfl rfl hAx) ?_
    refine r_append1E (u := .agg _) (y := (⟨sx, tx⟩ : Ende)) rfl rfl Tryz.underlying108 ty_112 rfl hos (fun _ => rfl) rfl (by first | exact rfl | (show _ = List.toArray [_, _]; first | (dsimp only; done) | exact rfl | (dsimp only; exact rfl))) ((by first | omega | (simp; omega))) ((by first | omega | (simp; omega))) (by omega) ?_
    intro q_v51 v51 w52 E52 hov51 hlv51
    have Q52 := E52.size
    replace hV := evo_stepo hV E52 (fun g hg => .inl (by first | exact (hos.block hg).1 | (have := hos.block hg; omega)))
    replace hI := evo_stepo hI E52 (fun g hg => .inl (by first | exact (hos.block hg).1 | (have := hos.block hg; omega)))
    replace B9 := B9.evo E52 (by intro hm; have hm2 := Option.mem_toList.1 hm; have := hos.block hm2; omega)
    replace hAb9 := hAb9.evo E52 (by intro hm; have hm2 := Option.mem_toList.1 hm; have := hos.block hm2; omega)
    replace hb := hb.evo E52 (by intro hm; have hm2 := Option.mem_toList.1 hm; have := hos.block hm2; omega)
    have hos := hov51
    refine Zo rfl (run_fa rfl rfl fo_110_1) ?_
    obtain ⟨ao53, cp53, hv53⟩ := hos.shape
    subst hv53
    refine r_store (v := .slice _ _ _) (vs := [_]) (cs' := [_, _]) rfl rfl B9 ty_108 rfl rfl rfl rfl rfl ?_
    intro w54 E54 V54 hb_new
    have Q54 := E54.size
    replace hV := Z1 hV E54 (by first | exact .inl (by omega) | exact .inr (by simp))
    replace hI := Z1 hI E54 (by first | exact .inl (by omega) | exact .inr (by simp))
    replace hl := hl0 _ hV
    replace hb := hb.evo E54 (by simp; omega)
    replace hos := hos.evo E54 (by intro g hg hm; simp at hm; subst hm; have := hos.block hg; omega)
    replace B9 := hb_new
    have hAb9 := B9.at
    clear hb_new
    refine r_nil ?_
    refine r_blk ?_
    refine r_region ?_
    refine Zo rfl (mvI rfl) ?_
    refine Zo rfl (run_sub rfl rfl rfl (by omega) (by omega)) ?_
    refine Zn rfl (asI rfl) ?_
    refine r_again (kk - 1) ?_ ?_ ?_
    ·first | omega | (dsimp only; omega)
    ·refine ⟨_, _, _, (by first | exact rfl | exact congrArg (Value.int _) (by omega) | exact congrArg (Value.int _) (by dsimp only; omega) | exact congrArg (Value.int _) (by simp) | exact congrArg S (by simp)), hos, B9, B9.at, hb, hb.at, (by first | exact hME | exact hME.snoc (by have h8 := hc50; rw [List.take_of_length_le (by omega)] at h8; exact fun h9 => h8 (decide_eq_true h9)) hsx htx), (by first | omega | (simp; omega)), (by first | assumption | omega | (dsimp only; omega) | (simp; done)), hV, hI⟩
    repeat (first | (with_reducible exact Agree.merge _ _ _) | (with_reducible exact Agree.refl _ _) | (with_reducible refine Agree.upd ?_ _ _ rfl) | ((with_reducible refine Agree.inner ?_ ?_); (kernel_rfl)))
   refine r_skip ?_
   refine r_blk ?_
   refine r_region ?_
   refine Zo rfl (mvI rfl) ?_
   refine Zo rfl (run_sub rfl rfl rfl (by omega) (by omega)) ?_
   refine Zn rfl (asI rfl) ?_
   refine r_again (kk - 1) ?_ ?_ ?_
   ·first | omega | (dsimp only; omega)
   ·refine ⟨_, _, _, (by first | exact rfl | exact congrArg (Value.int _) (by omega) | exact congrArg (Value.int _) (by dsimp only; omega) | exact congrArg (Value.int _) (by simp) | exact congrArg S (by simp)), hos, B9, B9.at, hb, hb.at, (by first | exact hME | exact hME.snoc (by have h8 := hc50; rw [List.take_of_length_le (by omega)] at h8; exact fun h9 => h8 (decide_eq_true h9)) hsx htx), (by first | omega | (simp; omega)), (by first | assumption | omega | (dsimp only; omega) | (simp; done)), hV, hI⟩
   repeat (first | (with_reducible exact Agree.merge _ _ _) | (with_reducible exact Agree.refl _ _) | (with_reducible refine Agree.upd ?_ _ _ rfl) | ((with_reducible refine Agree.inner ?_ ?_); (kernel_rfl)))
  refine r_exit rfl ?_
  have hoR := hoR0.evoY (hI.mono (by simp)) (by simp; omega)
  clear hoR0
  obtain ⟨aoS, cpS, hvS⟩ := hos.shape
  subst hvS
  refine r_region ?_
  refine Zo rfl (run_mv (v := vo) rfl rfl) ?_
  refine Zo rfl (run_ldN rfl ag_110 ty_110 rfl rfl hAb9) ?_
  refine r_append1R (u := .agg _) (us := [_, _]) rfl rfl Tryz.underlying26 ty_110 rfl rfl rfl hoR (fun _ => rfl) rfl rfl rfl rfl (clas_own _ hos (by simp; omega) (fun g hg => by have := hobR g hg; omega) (made_bdC hME (by omega) (by omega))) ((by first | omega | (simp; omega))) ((by first | omega | (simp; omega))) (by omega) ?_
  intro q_v55 v55 w56 E56 hov55 hlv55
  have Q56 := E56.size
  replace hV := evo_stepo hV E56 (fun g hg => .inl (by first | exact (hoR.block hg).1 | (have := hoR.block hg; omega)))
  replace hl := hl0 _ hV
  replace hb := hb.evo E56 (by intro hm; have hm2 := Option.mem_toList.1 hm; have := hoR.block hm2; omega)
  refine Zn rfl (run_asg (v := v55) rfl rfl) ?_
  refine r_blk ?_
  refine r_region ?_
  refine Zo rfl (mvI rfl) ?_
  refine Zo rfl (run_sub rfl rfl rfl (by omega) (by omega)) ?_
  refine Zn rfl (asI rfl) ?_
  refine r_again (i - 1) ?_ ?_ ?_
  ·first | omega | (dsimp only; omega)
  ·refine ⟨_, _, _, (by first | exact rfl | exact congrArg (Value.int _) (by omega) | exact congrArg (Value.int _) (by dsimp only; omega) | exact congrArg (Value.int _) (by simp) | exact congrArg S (by simp)), rfl, hov55, hb, hb.at, (hMP.snoc (by omega) rfl hME (by omega)), (by first | assumption | omega | (dsimp only; omega) | (simp; done)), (by first | assumption | omega | (dsimp only; omega) | (simp; done)), hV⟩
  repeat (first | (with_reducible exact Agree.merge _ _ _) | (with_reducible exact Agree.refl _ _) | (with_reducible refine Agree.upd ?_ _ _ rfl) | ((with_reducible refine Agree.inner ?_ ?_); (kernel_rfl)))
 refine r_exit rfl ?_
 refine Zs ?_
 refine Zo rfl (run_mv (v := vo) rfl rfl) ?_
 refine Zn rfl (run_asg (v := vo) rfl rfl) ?_
 refine r_ret (res1 (v := vo) rfl rfl) ?_
 exact ⟨_, cl, _, N1, rfl, ⟨(by rw [show i = 0 by omega] at hMP; exact hMP), by omega⟩, by omega, hV, hb, hoR.sub (by omega) (by simp)⟩
set_option maxHeartbeats 4000000 in
theorem termsZ_make {y1 y2 T bs : Nat} {ao : Option Addr} {b off cap : Nat} {l : List Int} {N : Nat} {aoc : Option Addr} {bc offc capc : Nat} {c : List Clas} {n : Int} {w0 : World} (hb : Blk w0 bs T [.slice ao l.length cap, .int .i64 (N : Nat)]) (hl : ∀ w', Evo w0 w' [bs] → RowE w' ao b off cap l) (hN : N ≤ 800000) (hc : RowRK w0 [bs] aoc bc offc capc c) (hcn0 : ∀ x ∈ c, x.name.length ≤ 1000) (hcl9 : c.length ≤ 1000000) (hn0 : 0 ≤ n) (hn9 : n ≤ 8) (hy1 : y1 < w0.heap.size) (hy2 : y2 < w0.heap.size) :
    Calls Tryz.prog 40 #[.pointer (some ⟨bs, 0, none⟩), .slice aoc c.length capc, .int .i64 n] w0 fun e w' => ∃ v, ∃ ts : List TermL, ∃ N' : Nat, e = .returned v ∧ ((∀ x ∈ ts, MadeTc c x) ∧ (ts.length : Int) ≤ n) ∧ (N ≤ N' ∧ N' ≤ N + 300) ∧ Evo w0 w' [bs] ∧ Blk w' bs T [.slice ao l.length cap, .int .i64 (N' : Nat)] ∧ OwnR w' w0.heap.size 85 [bs, y1, y2] v ts := by
 have hAs := hb.at; have hbslt := hb.lt
 refine calls_enter (n := 88) Tryz.func40 rfl Tryz.ntmps40 rfl ?_
 have hV : Evo w0 w0 [bs] := Evo.refl _ _
 have hl0 := hl
 replace hl := hl0 _ hV
 have hbd_hl := hl.bd
 have hc0 := hc
 replace hc := hc0.now hV
 have hbd_hc := hc.bd
 refine Zs ?_
 refine Zn rfl (asS rfl) ?_
 refine Zs ?_
 refine Zn rfl (asS rfl) ?_
 refine r_seq ?_
 refine Zs ?_
 refine Zo rfl (mvP rfl) ?_
 refine Zo rfl (mvI rfl) ?_
 refine Zo rfl (run_add rfl rfl rfl (by omega) (by omega)) ?_
 refine r_opcall rfl rfl rfl (run_callf (vs := [.pointer _, .int _ _]) rfl (by exact rfl) Tryz.func38 rfl (by kernel_rfl)) (nx_calls hb hl (by omega) (by omega) (by omega)) ?_
 rintro e w1 ⟨nx1, rfl, hx1, hE1, hn1⟩
 refine ⟨_, rfl, ?_⟩
 have Q1 := hE1.size
 replace hV := Z1 hV hE1 (.inr (by simp))
 replace hl := hl0 _ hV
 replace hc := hc0.now hV
 replace hb := hn1
 clear hn1
 have hAs := hb.at
 refine Zn rfl (asI rfl) ?_
 refine r_block ?_
 refine r_loop (α := Nat) [7, 8, 9, 10, 11, 12, 13, 18, 19, 20, 21, 22, 23, 24, 25, 26, 27, 28, 29, 30, 31, 32, 33, 34, 35, 36, 37, 38, 39, 40, 41, 42, 43, 44, 45, 46, 47, 48, 49, 50, 51, 52, 53, 54, 55, 56, 57, 58, 59, 60, 61, 62, 63, 64, 65, 66, 67, 68, 69, 70, 71, 72, 73, 74, 75, 76, 77, 78, 79, 80, 81, 82, 83, 84, 85, 86] (fun i g w => ∃ vo : Value, ∃ ts : List TermL, ∃ N1 : Nat, g 8 = .int .i64 (i : Nat) ∧ g 7 = vo ∧ OwnR w w0.heap.size 85 [bs, y1, y2] vo ts ∧ Blk w bs T [.slice ao l.length cap, .int .i64 (N1 : Nat)] ∧ At w bs 0 [.slice ao l.length cap, .int .i64 (N1 : Nat)] ∧ (∀ x ∈ ts, MadeTc c x) ∧ (ts.length + i = nx1.toNat ∧ N + 1 ≤ N1 ∧ N1 + 28 * i ≤ N + 1 + 28 * nx1.toNat) ∧ w1.heap.size ≤ w.heap.size ∧ Evo w0 w [bs]) (fun i => i) nx1.toNat ?_ ?_
 ·refine ⟨_, [], _, (congrArg (Value.int _) (by omega)), rfl, (OwnR.nil _ _ _ _), hb, hb.at, (fun x hx => absurd hx List.not_mem_nil), (by first | (simp; done) | (simp; omega)), (by first | assumption | omega | (dsimp only; omega) | (simp; done)), hV⟩
 rintro i g w3 ⟨vo, ts, N1, hj4, hj5, hoR, hb, hAs, hMT, hN1, hzl2, hV⟩
 have hs_w3hV := hV.size
 have hlt6 := hb.lt
 refine Zk 8 (v := .int .i64 (i : Nat)) (by exact hj4) ?_
 refine Zk 7 (v := vo) (by exact hj5) ?_
 refine r_seq ?_
 refine Zs ?_
 refine Zo rfl (mvI rfl) ?_
 refine Zn rfl (run_gtr rfl rfl rfl) ?_
 refine r_cond rfl (fun hc7 => ?_) (fun hc7 => ?_)
 ·skip
  refine r_skip ?_
  refine r_seq ?_
  refine r_block ?_
  refine r_seq ?_
  have hI : Evo w3 w3 [bs] := Evo.refl _ _
  have hoR0 := hoR
  have hobR := fun g hg => (hoR.block (g := g) hg).2
  refine r_region ?_
  refine r_alloc (zs := [_, _, _]) ty_85 rfl rfl ?_
  intro b8 w9 J8 E9 B8 Y8
  have Q9 := E9.size
  replace hV := Z0 hV E9
  replace hI := Z0 hI E9
  replace hl := hl0 _ hV
  replace hb := hb.evo0 E9
  replace hAs := hAs.evo0 E9
  have hAb8 := B8.at
  refine r_nil ?_
  refine r_seq ?_
  refine Zs ?_
  refine Zo rfl (mvP rfl) ?_
  refine r_opcall rfl rfl rfl (run_callf (vs := [.pointer _, .int _ _]) rfl (by exact rfl) Tryz.func38 rfl (by kernel_rfl)) (nx_calls hb hl (by omega) (by omega) (by omega)) ?_
  rintro e w10 ⟨nx10, rfl, hx10, hE10, hn10⟩
  refine ⟨_, rfl, ?_⟩
  have Q10 := hE10.size
  replace hV := Z1 hV hE10 (.inr (by simp))
  replace hI := Z1 hI hE10 (by first | exact .inl (by omega) | exact .inr (by simp))
  replace hl := hl0 _ hV
  replace hc := hc0.now hV
  replace B8 := B8.evo hE10 (by simp; omega)
  replace hAb8 := hAb8.evo hE10 (by simp; omega)
  replace hb := hn10
  clear hn10
  have hAs := hb.at
  refine Zn rfl (asI rfl) ?_
  refine r_block ?_
  refine r_loop (α := Nat) [10, 11, 24, 25, 26, 27, 28, 29, 30, 31, 32, 33, 34, 35, 36, 37, 38, 39, 40, 41, 42, 43, 44, 45, 46, 47, 48, 49, 50, 51, 52, 53, 54, 55, 56] (fun kk g w => ∃ vs : Value, ∃ ws : List Ende, ∃ N2 : Nat, g 10 = .int .i64 ((kk : Nat) - 1 : Int) ∧ OwnE w w9.heap.size 88 vs ws ∧ Blk w b8 85 [vs, .slice none 0 0, .slice none 0 0] ∧ At w b8 0 [vs, .slice none 0 0, .slice none 0 0] ∧ Blk w bs T [.slice ao l.length cap, .int .i64 (N2 : Nat)] ∧ At w bs 0 [.slice ao l.length cap, .int .i64 (N2 : Nat)] ∧ (∀ y ∈ ws, (y.strip ∈ stemW ∧ y.add.length ≤ 1000) ∧ ClsW c y.add) ∧ (ws.length + kk = (nx10.toNat + 1) ∧ N1 + 1 ≤ N2 ∧ N2 + 3 * kk ≤ N1 + 1 + 3 * (nx10.toNat + 1)) ∧ w10.heap.size ≤ w.heap.size ∧ Evo w0 w [bs] ∧ Evo w3 w [bs]) (fun kk => kk) (nx10.toNat + 1) ?_ ?_
  ·refine ⟨_, [], _, (congrArg (Value.int _) (by omega)), (OwnE.nil _ _ _), B8, B8.at, hb, hb.at, (fun y hy => absurd hy List.not_mem_nil), (by first | (simp; done) | (simp; omega)), (by first | assumption | omega | (dsimp only; omega) | (simp; done)), hV, hI⟩
  rintro kk g w12 ⟨vs, ws, N2, hj13, hos, B8, hAb8, hb, hAs, hws, hwk, hzl11, hV, hI⟩
  have hs_w12hV := hV.size
  have hs_w12hI := hI.size
  have hlt14 := B8.lt
  have hlt15 := hb.lt
  replace hl := hl0 _ hV
  refine Zk 10 (v := .int .i64 ((kk : Nat) - 1 : Int)) (by exact hj13) ?_
  refine r_seq ?_
  refine Zs ?_
  refine Zo rfl (mvI rfl) ?_
  refine Zn rfl (run_geq rfl rfl rfl) ?_
  refine r_cond rfl (fun hc16 => ?_) (fun hc16 => ?_)
  ·skip
   refine r_skip ?_
   refine r_seq ?_
   refine r_block ?_
   refine r_seq ?_
   have hobS := fun g hg => (hos.block (g := g) hg).2
   refine r_region ?_
   refine r_bslice (pv := [(0, S _), (1, S _), (2, S _), (3, S _), (4, S _), (5, S _)]) (zs := [_]) (cs := [_, _, _, _, _, _]) Tryz.underlying77 ty_9 rfl rfl rfl rfl rfl ?_
   intro b17 w18 J17 E18 B17 Y17
   have Q18 := E18.size
   replace hV := Z0 hV E18
   replace hI := Z0 hI E18
   replace hl := hl0 _ hV
   replace hos := hos.evo0 E18
   replace B8 := B8.evo0 E18
   replace hAb8 := hAb8.evo0 E18
   replace hb := hb.evo0 E18
   replace hAs := hAs.evo0 E18
   have hrb17 : RowE w18 (some ⟨b17, 0, none⟩) b17 0 6 stemW := rowLit stemW B17 rfl rfl
   refine Zo rfl (mvP rfl) ?_
   refine r_opcall rfl rfl rfl (run_callf (vs := [.pointer _, .int _ _]) rfl (by exact rfl) Tryz.func38 rfl (by kernel_rfl)) (nx_calls hb hl (by omega) (by omega) (by omega)) ?_
   rintro e w19 ⟨nx19, rfl, hx19, hE19, hn19⟩
   refine ⟨_, rfl, ?_⟩
   have Q19 := hE19.size
   replace hV := Z1 hV hE19 (.inr (by simp))
   replace hI := Z1 hI hE19 (by first | exact .inl (by omega) | exact .inr (by simp))
   replace hos := hos.evo hE19 (by intro g hg hm; simp at hm; subst hm; have h7 := hobS g hg; have h6 := hos.block hg; omega)
   replace B8 := B8.evo hE19 (by simp; omega)
   replace hAb8 := hAb8.evo hE19 (by simp; omega)
   replace hrb17 := hrb17.evo hE19 (by simp; omega)
   replace hb := hn19
   clear hn19
   have hAs := hb.at
   refine Zo rfl (run_ix (nx19.toNat) rfl Tryz.underlying77 ty_9 rfl rfl (by omega) (by show _ < 6; omega) (hrb17.addr (i := nx19.toNat) (by show _ < 6; omega))) ?_
   have hA20 := hrb17.atD (nx19.toNat) (by show _ < 6; omega)
   refine Zo rfl (run_ld1 rfl ag_9 rfl (hA20.cell 0 rfl)) ?_
   refine Zo rfl (run_bld (pv := [(0, S _)]) (zs := [_, _]) (cells := [_, _]) rfl ty_88 rfl pl_88 rfl rfl) ?_
   have hob21 := fun g hg => (hos.block (g := g) hg).2
   refine r_var (zs := [_, _]) (vs := [_, _]) ty_88 rfl rfl rfl (fun _ => rfl) rfl rfl rfl rfl ?_
   intro b22 w23 J22 E23 B22 Y22
   have Q23 := E23.size
   replace hV := Z0 hV E23
   replace hI := Z0 hI E23
   replace hl := hl0 _ hV
   replace hos := hos.evo0 E23
   replace B8 := B8.evo0 E23
   replace hAb8 := hAb8.evo0 E23
   replace hrb17 := hrb17.evo0 E23
   replace hb := hb.evo0 E23
   replace hAs := hAs.evo0 E23
   have hAb22 := B22.at
   refine r_nil ?_
   refine r_seq ?_
   refine Zs ?_
   refine Zo rfl (mvS rfl) ?_
   refine Zo rfl (run_lenSl rfl rfl Tryz.underlying26) ?_
   refine Zo rfl (run_gtr rfl rfl rfl) ?_
   refine Zo rfl (mvB rfl) ?_
   refine r_g rfl (wantT rfl) rfl (fun hg => run_mv (v := .pointer _) rfl rfl) ?_
   refine r_gnext rfl (wantT rfl) rfl (fun hg => run_callf rfl (argcons (v := .pointer _) (glv rfl (fun h => h) hg) (argcons (v := .int _ _) rfl (rfl))) Tryz.func38 rfl (by kernel_rfl)) (fun hg => (nx_calls hb hl (by omega) (by omega) (by omega))) hb ?_
   intro nx25 w24 Ng25 hx25 hE25 hna25 hnb25 hbn
   have Q24 := hE25.size
   replace hV := Z1 hV hE25 (.inr (by simp))
   replace hI := Z1 hI hE25 (by first | exact .inl (by omega) | exact .inr (by simp))
   replace hl := hl0 _ hV
   replace hc := hc0.now hV
   replace hos := hos.evo hE25 (by intro g hg hm; simp at hm; subst hm; have h7 := hobS g hg; have h6 := hos.block hg; omega)
   replace B8 := B8.evo hE25 (by simp; omega)
   replace hAb8 := hAb8.evo hE25 (by simp; omega)
   replace B22 := B22.evo hE25 (by simp; omega)
   replace hAb22 := hAb22.evo hE25 (by simp; omega)
   replace hb := hbn
   clear hbn
   have hAs := hb.at
   refine r_g rfl (wantT rfl) rfl (fun hg => run_eql rfl (glv rfl (fun h => h) hg) rfl) ?_
   refine Zn rfl (run_pick_and rfl rfl (fun hq => glv rfl (fun h => h) hq) rfl) ?_
   refine r_cut [42, 43, 44, 45, 46, 47, 48, 49, 50] (fun g w => ∃ cn : Str, ∃ N3 : Nat, Blk w b22 88 [S (stemW.getD nx19.toNat default), S cn] ∧ At w b22 0 [S (stemW.getD nx19.toNat default), S cn] ∧ OwnE w w9.heap.size 88 vs ws ∧ Blk w b8 85 [vs, .slice none 0 0, .slice none 0 0] ∧ At w b8 0 [vs, .slice none 0 0, .slice none 0 0] ∧ Blk w bs T [.slice ao l.length cap, .int .i64 (N3 : Nat)] ∧ At w bs 0 [.slice ao l.length cap, .int .i64 (N3 : Nat)] ∧ (cn.length ≤ 1000 ∧ ClsW c cn) ∧ (N2 + 1 ≤ N3 ∧ N3 ≤ N2 + 3) ∧ w24.heap.size ≤ w.heap.size ∧ Evo w0 w [bs] ∧ Evo w3 w [bs]) ?_ ?_
   ·skip
    refine r_cond rfl (fun hc27 => ?_) (fun hc27 => ?_)
    ·skip
     refine r_region ?_
     refine Zo rfl (mvS rfl) ?_
     refine Zo rfl (mvP rfl) ?_
     refine Zo rfl (mvS rfl) ?_
     refine Zo rfl (run_lenSl rfl rfl Tryz.underlying26) ?_
     refine r_opcall rfl rfl rfl (run_callf (vs := [.pointer _, .int _ _]) rfl (by exact rfl) Tryz.func38 rfl (by kernel_rfl)) (nx_calls hb hl (by omega) (by omega) (by omega)) ?_
     rintro e w28 ⟨nx28, rfl, hx28, hE28, hn28⟩
     refine ⟨_, rfl, ?_⟩
     have Q28 := hE28.size
     replace hV := Z1 hV hE28 (.inr (by simp))
     replace hI := Z1 hI hE28 (by first | exact .inl (by omega) | exact .inr (by simp))
     replace hc := hc0.now hV
     replace hos := hos.evo hE28 (by intro g hg hm; simp at hm; subst hm; have h7 := hobS g hg; have h6 := hos.block hg; omega)
     replace B8 := B8.evo hE28 (by simp; omega)
     replace hAb8 := hAb8.evo hE28 (by simp; omega)
     replace B22 := B22.evo hE28 (by simp; omega)
     replace hAb22 := hAb22.evo hE28 (by simp; omega)
     replace hb := hn28
     clear hn28
     have hAs := hb.at
     refine Zo rfl (run_ix (nx28.toNat) rfl Tryz.underlying26 ty_110 rfl rfl (by omega) (by omega) (hc.addr (i := nx28.toNat) (by omega))) ?_
     obtain ⟨ao29, b29, off29, cap29, hX⟩ := clas_atK hc0 (nx28.toNat) (by omega)
     have hA290 := fun (w' : World) (h : Evo w0 w' [bs]) => (hX w' h).1
     have hA29 := hA290 _ hV
     have hR290 := fun (w' : World) (h : Evo w0 w' [bs]) => (hX w' h).2
     have hR29 := hR290 _ hV
     clear hX
     have hbd_hR29 := hR29.bd
     refine Zo rfl (run_fa rfl rfl fo_110_0) ?_
     refine Zo rfl (run_ld1 rfl ag_9 rfl (hA29.cell 0 rfl)) ?_
     refine Zo rfl (run_fa rfl rfl fo_88_1) ?_
     refine r_store (v := S _) (vs := [_]) (cs' := [_, _]) rfl rfl B22 ty_9 rfl rfl rfl rfl rfl ?_
     intro w30 E30 V30 hb_new
     have Q30 := E30.size
     replace hV := Z1 hV E30 (by first | exact .inl (by omega) | exact .inr (by simp))
     replace hI := Z1 hI E30 (by first | exact .inl (by omega) | exact .inr (by simp))
     replace hl := hl0 _ hV
     replace hc := hc0.now hV
     replace hos := hos.evo E30 (by intro g hg hm; simp at hm; subst hm; have h7 := hobS g hg; have h6 := hos.block hg; omega)
     replace B8 := B8.evo E30 (by simp; omega)
     replace hAb8 := hAb8.evo E30 (by simp; omega)
     replace hb := hb.evo E30 (by simp; omega)
     replace B22 := hb_new
     have hAb22 := B22.at
     clear hb_new
     refine r_nil ?_
     refine r_cut_end ?_ ?_
     ·refine ⟨_, _, B22, B22.at, hos, B8, B8.at, hb, hb.at, (by first | exact ⟨nm_get hcn0 (by omega), .inr ⟨_, getD_in (by omega), rfl⟩⟩ | exact ⟨Nat.zero_le _, .inl rfl⟩), (by omega), (by first | assumption | omega | (dsimp only; omega) | (simp; done)), hV, hI⟩
     repeat (first | (with_reducible exact Agree.merge _ _ _) | (with_reducible exact Agree.refl _ _) | (with_reducible refine Agree.upd ?_ _ _ rfl) | ((with_reducible refine Agree.inner ?_ ?_); (kernel_rfl)))
    refine r_skip ?_
    refine r_cut_end ?_ ?_
    ·refine ⟨_, _, B22, B22.at, hos, B8, B8.at, hb, hb.at, (by first | exact ⟨nm_get hcn0 (by omega), .inr ⟨_, getD_in (by omega), rfl⟩⟩ | exact ⟨Nat.zero_le _, .inl rfl⟩), (by omega), (by first | assumption | omega | (dsimp only; omega) | (simp; done)), hV, hI⟩
    repeat (first | (with_reducible exact Agree.merge _ _ _) | (with_reducible exact Agree.refl _ _) | (with_reducible refine Agree.upd ?_ _ _ rfl) | ((with_reducible refine Agree.inner ?_ ?_); (kernel_rfl)))
   rintro g w31 ⟨cn, N3, B22, hAb22, hos, B8, hAb8, hb, hAs, hcn, hN3, hzl26, hV, hI⟩
   have hs_w31hV := hV.size
   have hs_w31hI := hI.size
   have hlt32 := B22.lt
   have hlt33 := B8.lt
   have hlt34 := hb.lt
   refine r_region ?_
   refine Zo rfl (run_fa rfl rfl fo_85_0) ?_
   refine Zo rfl (run_ld1 rfl ag_83 rfl (hAb8.cell 0 rfl)) ?_
   refine Zo rfl (run_ldN rfl ag_88 ty_88 rfl rfl hAb22) ?_
   refine r_append1E (u := .agg _) (y := (⟨(stemW.getD nx19.toNat default), cn⟩ : Ende)) rfl rfl Tryz.underlying83 ty_88 rfl hos (fun _ => rfl) rfl (by first | exact rfl | (show _ = List.toArray [_, _]; first | (dsimp only; done) | exact rfl | (dsimp only; exact rfl))) ((by first | omega | (simp; omega))) ((by first | omega | (simp; omega))) (by omega) ?_
   intro q_v35 v35 w36 E36 hov35 hlv35
   have Q36 := E36.size
   replace hV := evo_stepo hV E36 (fun g hg => .inl (by first | exact (hos.block hg).1 | (have := hos.block hg; omega)))
   replace hI := evo_stepo hI E36 (fun g hg => .inl (by first | exact (hos.block hg).1 | (have := hos.block hg; omega)))
   replace B8 := B8.evo E36 (by intro hm; have hm2 := Option.mem_toList.1 hm; first | (have := hos.block hm2; omega) | (simp [Value.ownBlock] at hm2; omega))
   replace hAb8 := hAb8.evo E36 (by intro hm; have hm2 := Option.mem_toList.1 hm; first | (have := hos.block hm2; omega) | (simp [Value.ownBlock] at hm2; omega))
   replace hb := hb.evo E36 (by intro hm; have hm2 := Option.mem_toList.1 hm; first | (have := hos.block hm2; omega) | (simp [Value.ownBlock] at hm2; omega))
   have hos := hov35
   refine Zo rfl (run_fa rfl rfl fo_85_0) ?_
   obtain ⟨ao37, cp37, hv37⟩ := hos.shape
   subst hv37
   refine r_store (v := .slice _ _ _) (vs := [_]) (cs' := [_, _, _]) rfl rfl B8 ty_83 rfl rfl rfl rfl rfl ?_
   intro w38 E38 V38 hb_new
   have Q38 := E38.size
   replace hV := Z1 hV E38 (by first | exact .inl (by omega) | exact .inr (by simp))
   replace hI := Z1 hI E38 (by first | exact .inl (by omega) | exact .inr (by simp))
   replace hl := hl0 _ hV
   replace hc := hc0.now hV
   replace hb := hb.evo E38 (by simp; omega)
   replace hos := hos.evo E38 (by intro g hg hm; simp at hm; subst hm; have := hos.block hg; omega)
   replace B8 := hb_new
   have hAb8 := B8.at
   clear hb_new
   refine r_nil ?_
   refine r_blk ?_
   refine r_region ?_
   refine Zo rfl (mvI rfl) ?_
   refine Zo rfl (run_sub rfl rfl rfl (by omega) (by omega)) ?_
   refine Zn rfl (asI rfl) ?_
   refine r_again (kk - 1) ?_ ?_ ?_
   ·first | omega | (dsimp only; omega)
   ·refine ⟨_, _, _, (congrArg (Value.int _) (by omega)), hos, B8, B8.at, hb, hb.at, (mem_snoc hws ⟨⟨stemD_in (by omega), hcn.1⟩, hcn.2⟩), (by rw [List.length_append, List.length_singleton]; omega), (by first | assumption | omega | (dsimp only; omega) | (simp; done)), hV, hI⟩
   repeat (first | (with_reducible exact Agree.merge _ _ _) | (with_reducible exact Agree.refl _ _) | (with_reducible refine Agree.upd ?_ _ _ rfl) | ((with_reducible refine Agree.inner ?_ ?_); (kernel_rfl)))
  refine r_exit rfl ?_
  refine r_seq ?_
  refine Zs ?_
  refine Zo rfl (mvP rfl) ?_
  refine r_opcall rfl rfl rfl (run_callf (vs := [.pointer _, .int _ _]) rfl (by exact rfl) Tryz.func38 rfl (by kernel_rfl)) (nx_calls hb hl (by omega) (by omega) (by omega)) ?_
  rintro e w39 ⟨nx39, rfl, hx39, hE39, hn39⟩
  refine ⟨_, rfl, ?_⟩
  have Q39 := hE39.size
  replace hV := Z1 hV hE39 (.inr (by simp))
  replace hI := Z1 hI hE39 (by first | exact .inl (by omega) | exact .inr (by simp))
  replace hl := hl0 _ hV
  replace hc := hc0.now hV
  replace hos := hos.evo hE39 (by intro g hg hm; simp at hm; subst hm; have := hos.block hg; omega)
  replace B8 := B8.evo hE39 (by simp; omega)
  replace hAb8 := hAb8.evo hE39 (by simp; omega)
  replace hb := hn39
  clear hn39
  have hAs := hb.at
  refine Zn rfl (asI rfl) ?_
  refine r_block ?_
  obtain ⟨aoW, gW, cpW, hvW, hrW, hgW⟩ := hos.rowOf
  subst hvW
  have hbd_hrW := hrW.bd
  have hI40 : Evo w39 w39 [bs, b8] := Evo.refl _ _
  have hrW0 := fun w9 (h9 : Evo w39 w9 [bs, b8]) => row_keep hrW h9 (fun hne hm => by have h2 := (hgW hne).2; simp at hm; omega)
  refine r_loop (α := Nat) [12, 59, 60, 61, 62, 63, 64, 65, 66, 67, 68, 69] (fun kq g w => ∃ vq : Value, ∃ qs : List Str, ∃ N4 : Nat, g 12 = .int .i64 (kq : Nat) ∧ OwnE w w39.heap.size 9 vq qs ∧ Blk w b8 85 [.slice aoW ws.length cpW, vq, .slice none 0 0] ∧ At w b8 0 [.slice aoW ws.length cpW, vq, .slice none 0 0] ∧ Blk w bs T [.slice ao l.length cap, .int .i64 (N4 : Nat)] ∧ At w bs 0 [.slice ao l.length cap, .int .i64 (N4 : Nat)] ∧ (∀ s ∈ qs, MadePh s) ∧ (qs.length + kq = nx39.toNat ∧ N2 + 1 ≤ N4 ∧ N4 + 4 * kq ≤ N2 + 1 + 4 * nx39.toNat) ∧ w39.heap.size ≤ w.heap.size ∧ Evo w0 w [bs] ∧ Evo w3 w [bs] ∧ Evo w39 w [bs, b8]) (fun kq => kq) nx39.toNat ?_ ?_
  ·refine ⟨_, [], _, (congrArg (Value.int _) (by omega)), (OwnE.nil _ _ _), B8, B8.at, hb, hb.at, (fun y hy => absurd hy List.not_mem_nil), (by first | (simp; done) | (simp; omega)), (by first | assumption | omega | (dsimp only; omega) | (simp; done)), hV, hI, hI40⟩
  rintro kq g w42 ⟨vq, qs, N4, hj43, hos, B8, hAb8, hb, hAs, hqs, hqsk, hzl41, hV, hI, hI40⟩
  have hs_w42hV := hV.size
  have hs_w42hI := hI.size
  have hs_w42hI40 := hI40.size
  have hlt44 := B8.lt
  have hlt45 := hb.lt
  replace hl := hl0 _ hV
  refine Zk 12 (v := .int .i64 (kq : Nat)) (by exact hj43) ?_
  refine r_seq ?_
  refine Zs ?_
  refine Zo rfl (mvI rfl) ?_
  refine Zn rfl (run_gtr rfl rfl rfl) ?_
  refine r_cond rfl (fun hc46 => ?_) (fun hc46 => ?_)
  ·skip
   refine r_skip ?_
   refine r_seq ?_
   refine r_block ?_
   have hos_own := fun {g : Nat} (hg : vq.ownBlock = some g) => hos.block (g := g) hg
   have hbb8_q := B8
   have hAb8_q := hAb8
   have hb_q := hb
   have hAs_q := hAs
   have hV_q := hV
   have hI_q := hI
   have hI40_q := hI40
   refine h_region ([bs] ++ vq.ownBlock.toList) (by kernel_rfl) ?_
   intro w47 hE48 hCq16
   have Q47 := hE48.size
   replace hV := Z0 hV hE48
   replace hI := Z0 hI hE48
   replace hI40 := Z0 hI40 hE48
   replace hos := hos.evo0 hE48
   replace B8 := B8.evo0 hE48
   replace hAb8 := hAb8.evo0 hE48
   replace hb := hb.evo0 hE48
   replace hAs := hAs.evo0 hE48
   refine h_take (i := 0) rfl rfl rfl rfl (by kernel_rfl) (fun w' hC => run_fa rfl rfl fo_85_1) hCq16 ?_
   refine h_take (i := 1) rfl rfl rfl rfl (by kernel_rfl) (fun w' hC => run_ld1 rfl ag_77 rfl ((hAb8_q.evo hC (fun hm => by rcases List.mem_append.1 hm with h7 | h7; (simp at h7; omega); (have h8 := hos_own (Option.mem_toList.1 h7); omega))).cell 1 rfl)) hCq16 ?_
   refine h_take (i := 2) rfl rfl rfl rfl (by kernel_rfl) (fun w' hC => run_mv (v := .pointer _) rfl rfl) hCq16 ?_
   refine h_one (i := 3) (by kernel_rfl) ?_
   refine h_do rfl ?_
   refine r_opcall rfl rfl rfl (run_callf (vs := [.pointer _]) rfl (by exact rfl) Tryz.func73 rfl (by kernel_rfl)) (phrase_make hb (fun w9 h9 => hl0 _ (Evo.trans hV h9 (fun x hx _ => hx))) (by omega)) ?_
   rintro e w49 ⟨sp49, Np49, rfl, hmp49, hNp49, hE49, hn49⟩
   refine ⟨_, rfl, ?_⟩
   have Q49 := hE49.size
   replace hV := Z1 hV hE49 (.inr (by simp))
   replace hI := Z1 hI hE49 (by first | exact .inl (by omega) | exact .inr (by simp))
   replace hI40 := Z1 hI40 hE49 (by first | exact .inl (by omega) | exact .inr (by simp))
   replace hCq16 := Z1 hCq16 hE49 (by first | exact .inl (by omega) | exact .inr (by simp))
   replace hos := hos.evo hE49 (by intro g hg hm; simp at hm; subst hm; have := hos.block hg; omega)
   replace B8 := B8.evo hE49 (by simp; omega)
   replace hAb8 := hAb8.evo hE49 (by simp; omega)
   replace hb := hn49
   clear hn49
   have hAs := hb.at
   refine h_next hCq16 ?_
   refine h_one (i := 4) (by kernel_rfl) ?_
   refine h_do rfl ?_
   refine r_bslice (pv := [(0, S _)]) (zs := [_]) (cs := [_]) Tryz.underlying77 ty_9 rfl rfl rfl rfl rfl ?_
   intro b50 w51 J50 E51 B50 Y50
   have Q51 := E51.size
   replace hV := Z0 hV E51
   replace hI := Z0 hI E51
   replace hI40 := Z0 hI40 E51
   replace hCq16 := Z0 hCq16 E51
   replace hos := hos.evo0 E51
   replace B8 := B8.evo0 E51
   replace hAb8 := hAb8.evo0 E51
   replace hb := hb.evo0 E51
   have hrb50 := rowLit (α := Str) [_] B50 (by show [_] = [_]; first | (dsimp only; done) | exact rfl | (dsimp only; exact rfl)) rfl
   refine h_next hCq16 ?_
   refine h_one (i := 5) (by kernel_rfl) ?_
   refine h_do rfl ?_
   refine r_appendE rfl Tryz.underlying77 ty_9 rfl hos rfl rfl hrb50 rfl (by simp; omega) (by simp; omega) (by omega) ?_
   intro v52 w53 E53 hov52 hlv52
   have Q53 := E53.size
   replace hV := evo_stepo hV E53 (fun g hg => .inl (by first | exact (hos.block hg).1 | (have := hos.block hg; omega)))
   replace hI := evo_stepo hI E53 (fun g hg => .inl (by first | exact (hos.block hg).1 | (have := hos.block hg; omega)))
   replace hI40 := evo_stepo hI40 E53 (fun g hg => .inl (by first | exact (hos.block hg).1 | (have := hos.block hg; omega)))
   replace B8 := B8.evo E53 (by intro hm; have hm2 := Option.mem_toList.1 hm; first | (have := hos.block hm2; omega) | (simp [Value.ownBlock] at hm2; omega))
   replace hAb8 := hAb8.evo E53 (by intro hm; have hm2 := Option.mem_toList.1 hm; first | (have := hos.block hm2; omega) | (simp [Value.ownBlock] at hm2; omega))
   replace hb := hb.evo E53 (by intro hm; have hm2 := Option.mem_toList.1 hm; first | (have := hos.block hm2; omega) | (simp [Value.ownBlock] at hm2; omega))
   have hos := hov52
   refine h_last (by kernel_rfl) ?_
   refine h_one (i := 6) (by kernel_rfl) ?_
   refine h_do rfl ?_
   refine Zo rfl (run_fa rfl rfl fo_85_1) ?_
   refine h_last (by kernel_rfl) ?_
   refine h_one (i := 7) (by kernel_rfl) ?_
   refine h_do rfl ?_
   obtain ⟨ao54, cp54, hv54⟩ := hos.shape
   subst hv54
   refine r_store (v := .slice _ _ _) (vs := [_]) (cs' := [_, _, _]) rfl rfl B8 ty_77 rfl rfl rfl rfl rfl ?_
   intro w55 E55 V55 hb_new
   have Q55 := E55.size
   replace hV := Z1 hV E55 (by first | exact .inl (by omega) | exact .inr (by simp))
   replace hI := Z1 hI E55 (by first | exact .inl (by omega) | exact .inr (by simp))
   replace hI40 := Z1 hI40 E55 (by first | exact .inl (by omega) | exact .inr (by simp))
   replace hl := hl0 _ hV
   replace hc := hc0.now hV
   replace hrW := hrW0 _ hI40
   replace hb := hb.evo E55 (by simp; omega)
   replace hos := hos.evo E55 (by intro g hg hm; simp at hm; subst hm; have := hos.block hg; omega)
   replace B8 := hb_new
   have hAb8 := B8.at
   clear hb_new
   refine h_last (by kernel_rfl) ?_
   refine h_done (by kernel_rfl) ?_
   refine r_blk ?_
   refine r_region ?_
   refine Zo rfl (mvI rfl) ?_
   refine Zo rfl (run_sub rfl rfl rfl (by omega) (by omega)) ?_
   refine Zn rfl (asI rfl) ?_
   refine r_again (kq - 1) ?_ ?_ ?_
   ·first | omega | (dsimp only; omega)
   ·refine ⟨_, _, _, (congrArg (Value.int _) (by omega)), hos, B8, B8.at, hb, hb.at, (mem_snoc hqs hmp49), (by rw [List.length_append, List.length_singleton]; omega), (by first | assumption | omega | (dsimp only; omega) | (simp; done)), hV, hI, hI40⟩
   repeat (first | (with_reducible exact Agree.merge _ _ _) | (with_reducible exact Agree.refl _ _) | (with_reducible refine Agree.upd ?_ _ _ rfl) | ((with_reducible refine Agree.inner ?_ ?_); (kernel_rfl)))
  refine r_exit rfl ?_
  refine r_seq ?_
  refine Zs ?_
  refine Zo rfl (mvP rfl) ?_
  refine r_opcall rfl rfl rfl (run_callf (vs := [.pointer _, .int _ _]) rfl (by exact rfl) Tryz.func38 rfl (by kernel_rfl)) (nx_calls hb hl (by omega) (by omega) (by omega)) ?_
  rintro e w56 ⟨nx56, rfl, hx56, hE56, hn56⟩
  refine ⟨_, rfl, ?_⟩
  have Q56 := hE56.size
  replace hV := Z1 hV hE56 (.inr (by simp))
  replace hI := Z1 hI hE56 (by first | exact .inl (by omega) | exact .inr (by simp))
  replace hI40 := Z1 hI40 hE56 (by first | exact .inl (by omega) | exact .inr (by simp))
  replace hl := hl0 _ hV
  replace hc := hc0.now hV
  replace hrW := hrW0 _ hI40
  replace hos := hos.evo hE56 (by intro g hg hm; simp at hm; subst hm; have := hos.block hg; omega)
  replace B8 := B8.evo hE56 (by simp; omega)
  replace hAb8 := hAb8.evo hE56 (by simp; omega)
  replace hb := hn56
  clear hn56
  have hAs := hb.at
  refine Zn rfl (asI rfl) ?_
  refine r_block ?_
  obtain ⟨aoQ, gQ, cpQ, hvQ, hrQ, hgQ⟩ := hos.rowOf
  subst hvQ
  have hbd_hrQ := hrQ.bd
  have hI57 : Evo w56 w56 [bs, b8] := Evo.refl _ _
  have hrQ0 := fun w9 (h9 : Evo w56 w9 [bs, b8]) => row_keep hrQ h9 (fun hne hm => by have h2 := (hgQ hne).2; simp at hm; omega)
  refine r_loop (α := Nat) [13, 72, 73, 74, 75, 76, 77, 78, 79, 80, 81, 82] (fun kq g w => ∃ vq : Value, ∃ fs : List Str, ∃ N5 : Nat, g 13 = .int .i64 (kq : Nat) ∧ OwnE w w56.heap.size 9 vq fs ∧ Blk w b8 85 [.slice aoW ws.length cpW, .slice aoQ qs.length cpQ, vq] ∧ At w b8 0 [.slice aoW ws.length cpW, .slice aoQ qs.length cpQ, vq] ∧ Blk w bs T [.slice ao l.length cap, .int .i64 (N5 : Nat)] ∧ At w bs 0 [.slice ao l.length cap, .int .i64 (N5 : Nat)] ∧ (∀ s ∈ fs, MadePh s) ∧ (fs.length + kq = nx56.toNat ∧ N4 + 1 ≤ N5 ∧ N5 + 4 * kq ≤ N4 + 1 + 4 * nx56.toNat) ∧ w56.heap.size ≤ w.heap.size ∧ Evo w0 w [bs] ∧ Evo w3 w [bs] ∧ Evo w39 w [bs, b8] ∧ Evo w56 w [bs, b8]) (fun kq => kq) nx56.toNat ?_ ?_
  ·refine ⟨_, [], _, (congrArg (Value.int _) (by omega)), (OwnE.nil _ _ _), B8, B8.at, hb, hb.at, (fun y hy => absurd hy List.not_mem_nil), (by first | (simp; done) | (simp; omega)), (by first | assumption | omega | (dsimp only; omega) | (simp; done)), hV, hI, hI40, hI57⟩
  rintro kq g w59 ⟨vq, fs, N5, hj60, hos, B8, hAb8, hb, hAs, hfs, hfsk, hzl58, hV, hI, hI40, hI57⟩
  have hs_w59hV := hV.size
  have hs_w59hI := hI.size
  have hs_w59hI40 := hI40.size
  have hs_w59hI57 := hI57.size
  have hlt61 := B8.lt
  have hlt62 := hb.lt
  replace hrW := hrW0 _ hI40
  replace hrQ := hrQ0 _ hI57
  refine Zk 13 (v := .int .i64 (kq : Nat)) (by exact hj60) ?_
  refine r_seq ?_
  refine Zs ?_
  refine Zo rfl (mvI rfl) ?_
  refine Zn rfl (run_gtr rfl rfl rfl) ?_
  refine r_cond rfl (fun hc63 => ?_) (fun hc63 => ?_)
  ·skip
   refine r_skip ?_
   refine r_seq ?_
   refine r_block ?_
   have hos_own := fun {g : Nat} (hg : vq.ownBlock = some g) => hos.block (g := g) hg
   have hbb8_q := B8
   have hAb8_q := hAb8
   have hb_q := hb
   have hAs_q := hAs
   have hV_q := hV
   have hI_q := hI
   have hI40_q := hI40
   have hI57_q := hI57
   refine h_region ([bs] ++ vq.ownBlock.toList) (by kernel_rfl) ?_
   intro w64 hE65 hCq20
   have Q64 := hE65.size
   replace hV := Z0 hV hE65
   replace hI := Z0 hI hE65
   replace hI40 := Z0 hI40 hE65
   replace hI57 := Z0 hI57 hE65
   replace hos := hos.evo0 hE65
   replace B8 := B8.evo0 hE65
   replace hAb8 := hAb8.evo0 hE65
   replace hb := hb.evo0 hE65
   replace hAs := hAs.evo0 hE65
   refine h_take (i := 0) rfl rfl rfl rfl (by kernel_rfl) (fun w' hC => run_fa rfl rfl fo_85_2) hCq20 ?_
   refine h_take (i := 1) rfl rfl rfl rfl (by kernel_rfl) (fun w' hC => run_ld1 rfl ag_77 rfl ((hAb8_q.evo hC (fun hm => by rcases List.mem_append.1 hm with h7 | h7; (simp at h7; omega); (have h8 := hos_own (Option.mem_toList.1 h7); omega))).cell 2 rfl)) hCq20 ?_
   refine h_take (i := 2) rfl rfl rfl rfl (by kernel_rfl) (fun w' hC => run_mv (v := .pointer _) rfl rfl) hCq20 ?_
   refine h_one (i := 3) (by kernel_rfl) ?_
   refine h_do rfl ?_
   refine r_opcall rfl rfl rfl (run_callf (vs := [.pointer _]) rfl (by exact rfl) Tryz.func73 rfl (by kernel_rfl)) (phrase_make hb (fun w9 h9 => hl0 _ (Evo.trans hV h9 (fun x hx _ => hx))) (by omega)) ?_
   rintro e w66 ⟨sp66, Np66, rfl, hmp66, hNp66, hE66, hn66⟩
   refine ⟨_, rfl, ?_⟩
   have Q66 := hE66.size
   replace hV := Z1 hV hE66 (.inr (by simp))
   replace hI := Z1 hI hE66 (by first | exact .inl (by omega) | exact .inr (by simp))
   replace hI40 := Z1 hI40 hE66 (by first | exact .inl (by omega) | exact .inr (by simp))
   replace hI57 := Z1 hI57 hE66 (by first | exact .inl (by omega) | exact .inr (by simp))
   replace hCq20 := Z1 hCq20 hE66 (by first | exact .inl (by omega) | exact .inr (by simp))
   replace hos := hos.evo hE66 (by intro g hg hm; simp at hm; subst hm; have := hos.block hg; omega)
   replace B8 := B8.evo hE66 (by simp; omega)
   replace hAb8 := hAb8.evo hE66 (by simp; omega)
   replace hb := hn66
   clear hn66
   have hAs := hb.at
   refine h_next hCq20 ?_
   refine h_one (i := 4) (by kernel_rfl) ?_
   refine h_do rfl ?_
   refine r_bslice (pv := [(0, S _)]) (zs := [_]) (cs := [_]) Tryz.underlying77 ty_9 rfl rfl rfl rfl rfl ?_
   intro b67 w68 J67 E68 B67 Y67
   have Q68 := E68.size
   replace hV := Z0 hV E68
   replace hI := Z0 hI E68
   replace hI40 := Z0 hI40 E68
   replace hI57 := Z0 hI57 E68
   replace hCq20 := Z0 hCq20 E68
   replace hos := hos.evo0 E68
   replace B8 := B8.evo0 E68
   replace hAb8 := hAb8.evo0 E68
   replace hb := hb.evo0 E68
   have hrb67 := rowLit (α := Str) [_] B67 (by show [_] = [_]; first | (dsimp only; done) | exact rfl | (dsimp only; exact rfl)) rfl
   refine h_next hCq20 ?_
   refine h_one (i := 5) (by kernel_rfl) ?_
   refine h_do rfl ?_
   refine r_appendE rfl Tryz.underlying77 ty_9 rfl hos rfl rfl hrb67 rfl (by simp; omega) (by simp; omega) (by omega) ?_
   intro v69 w70 E70 hov69 hlv69
   have Q70 := E70.size
   replace hV := evo_stepo hV E70 (fun g hg => .inl (by first | exact (hos.block hg).1 | (have := hos.block hg; omega)))
   replace hI := evo_stepo hI E70 (fun g hg => .inl (by first | exact (hos.block hg).1 | (have := hos.block hg; omega)))
   replace hI40 := evo_stepo hI40 E70 (fun g hg => .inl (by first | exact (hos.block hg).1 | (have := hos.block hg; omega)))
   replace hI57 := evo_stepo hI57 E70 (fun g hg => .inl (by first | exact (hos.block hg).1 | (have := hos.block hg; omega)))
   replace B8 := B8.evo E70 (by intro hm; have hm2 := Option.mem_toList.1 hm; first | (have := hos.block hm2; omega) | (simp [Value.ownBlock] at hm2; omega))
   replace hAb8 := hAb8.evo E70 (by intro hm; have hm2 := Option.mem_toList.1 hm; first | (have := hos.block hm2; omega) | (simp [Value.ownBlock] at hm2; omega))
   replace hb := hb.evo E70 (by intro hm; have hm2 := Option.mem_toList.1 hm; first | (have := hos.block hm2; omega) | (simp [Value.ownBlock] at hm2; omega))
   have hos := hov69
   refine h_last (by kernel_rfl) ?_
   refine h_one (i := 6) (by kernel_rfl) ?_
   refine h_do rfl ?_
   refine Zo rfl (run_fa rfl rfl fo_85_2) ?_
   refine h_last (by kernel_rfl) ?_
   refine h_one (i := 7) (by kernel_rfl) ?_
   refine h_do rfl ?_
   obtain ⟨ao71, cp71, hv71⟩ := hos.shape
   subst hv71
   refine r_store (v := .slice _ _ _) (vs := [_]) (cs' := [_, _, _]) rfl rfl B8 ty_77 rfl rfl rfl rfl rfl ?_
   intro w72 E72 V72 hb_new
   have Q72 := E72.size
   replace hV := Z1 hV E72 (by first | exact .inl (by omega) | exact .inr (by simp))
   replace hI := Z1 hI E72 (by first | exact .inl (by omega) | exact .inr (by simp))
   replace hI40 := Z1 hI40 E72 (by first | exact .inl (by omega) | exact .inr (by simp))
   replace hI57 := Z1 hI57 E72 (by first | exact .inl (by omega) | exact .inr (by simp))
   replace hl := hl0 _ hV
   replace hc := hc0.now hV
   replace hrW := hrW0 _ hI40
   replace hrQ := hrQ0 _ hI57
   replace hb := hb.evo E72 (by simp; omega)
   replace hos := hos.evo E72 (by intro g hg hm; simp at hm; subst hm; have := hos.block hg; omega)
   replace B8 := hb_new
   have hAb8 := B8.at
   clear hb_new
   refine h_last (by kernel_rfl) ?_
   refine h_done (by kernel_rfl) ?_
   refine r_blk ?_
   refine r_region ?_
   refine Zo rfl (mvI rfl) ?_
   refine Zo rfl (run_sub rfl rfl rfl (by omega) (by omega)) ?_
   refine Zn rfl (asI rfl) ?_
   refine r_again (kq - 1) ?_ ?_ ?_
   ·first | omega | (dsimp only; omega)
   ·refine ⟨_, _, _, (congrArg (Value.int _) (by omega)), hos, B8, B8.at, hb, hb.at, (mem_snoc hfs hmp66), (by rw [List.length_append, List.length_singleton]; omega), (by first | assumption | omega | (dsimp only; omega) | (simp; done)), hV, hI, hI40, hI57⟩
   repeat (first | (with_reducible exact Agree.merge _ _ _) | (with_reducible exact Agree.refl _ _) | (with_reducible refine Agree.upd ?_ _ _ rfl) | ((with_reducible refine Agree.inner ?_ ?_); (kernel_rfl)))
  refine r_exit rfl ?_
  obtain ⟨aoF, gF, cpF, hvF, hrF, hgF⟩ := hos.rowOf
  subst hvF
  have hoR := hoR0.evoY (hI.mono (by simp)) (by simp; omega)
  clear hoR0
  have hMX : MadeTm ⟨ws, qs, fs⟩ := ⟨⟨(show 1 ≤ ws.length by omega), (show ws.length ≤ 3 by omega), fun y hy => (hws y hy).1⟩, ⟨(show qs.length ≤ 2 by omega), hqs⟩, ⟨(show fs.length ≤ 2 by omega), hfs⟩⟩
  refine r_region ?_
  refine Zo rfl (run_mv (v := vo) rfl rfl) ?_
  refine Zo rfl (run_ldN rfl ag_85 ty_85 rfl rfl hAb8) ?_
  refine r_append1R (u := .agg _) (us := [_, _, _]) rfl rfl Tryz.underlying25 ty_85 rfl rfl rfl hoR (fun _ => rfl) rfl rfl rfl rfl (term_rep ⟨ws, qs, fs⟩ hrW (fun hne hm => by rcases List.mem_append.1 hm with h7 | h7; (simp at h7; have h8 := hgW hne; omega); (have h8 := hobR _ (Option.mem_toList.1 h7); have h9 := hgW hne; omega)) hrQ (fun hne hm => by rcases List.mem_append.1 hm with h7 | h7; (simp at h7; have h8 := hgQ hne; omega); (have h8 := hobR _ (Option.mem_toList.1 h7); have h9 := hgQ hne; omega)) hrF (fun hne hm => by rcases List.mem_append.1 hm with h7 | h7; (simp at h7; have h8 := hgF hne; omega); (have h8 := hobR _ (Option.mem_toList.1 h7); have h9 := hgF hne; omega)) hMX.bd) ((by first | omega | (simp; omega))) ((by first | omega | (simp; omega))) (by omega) ?_
  intro q_v73 v73 w74 E74 hov73 hlv73
  have Q74 := E74.size
  replace hV := evo_stepo hV E74 (fun g hg => .inl (by first | exact (hoR.block hg).1 | (have := hoR.block hg; omega)))
  replace hl := hl0 _ hV
  replace hc := hc0.now hV
  replace hb := hb.evo E74 (by intro hm; have hm2 := Option.mem_toList.1 hm; first | (have := hoR.block hm2; omega) | (simp [Value.ownBlock] at hm2; omega))
  refine Zn rfl (run_asg (v := v73) rfl rfl) ?_
  refine r_blk ?_
  refine r_region ?_
  refine Zo rfl (mvI rfl) ?_
  refine Zo rfl (run_sub rfl rfl rfl (by omega) (by omega)) ?_
  refine Zn rfl (asI rfl) ?_
  refine r_again (i - 1) ?_ ?_ ?_
  ·first | omega | (dsimp only; omega)
  ·refine ⟨_, _, _, (congrArg (Value.int _) (by omega)), rfl, hov73, hb, hb.at, (mem_snoc hMT ⟨hMX, fun y hy => (hws y hy).2⟩), (by rw [List.length_append, List.length_singleton]; omega), (by first | assumption | omega | (dsimp only; omega) | (simp; done)), hV⟩
  repeat (first | (with_reducible exact Agree.merge _ _ _) | (with_reducible exact Agree.refl _ _) | (with_reducible refine Agree.upd ?_ _ _ rfl) | ((with_reducible refine Agree.inner ?_ ?_); (kernel_rfl)))
 refine r_exit rfl ?_
 refine Zs ?_
 refine Zo rfl (run_mv (v := vo) rfl rfl) ?_
 refine Zn rfl (run_asg (v := vo) rfl rfl) ?_
 refine r_ret (res1 (v := vo) rfl rfl) ?_
 exact ⟨_, ts, N1, rfl, ⟨hMT, by omega⟩, by omega, hV, hb, hoR⟩
theorem klong_calls {ao : Option Addr} {b off cap : Nat} {ll : List (List Int)} {w0 : World} (hs : RowR w0 ao b off cap ll) (hb : ll.flatten.length ≤ 9000000000000000000) :
    Calls Tryz.prog 17 #[.slice ao ll.length cap] w0 fun e w' => e = .returned (.bool (decide (ll.flatten.length > 160))) ∧ Evo w0 w' [] := by
 refine calls_enter (n := 19) Tryz.func17 rfl Tryz.ntmps17 rfl ?_
 have hV : Evo w0 w0 [] := Evo.refl _ _
 have hs0 := hs.keep
 have hbd_hs := hs.bd
 refine Zs ?_
 refine Zn rfl (asB rfl) ?_
 refine Zs ?_
 refine Zn rfl (asI rfl) ?_
 refine r_seq ?_
 refine Zs ?_
 refine Zo rfl (mvS rfl) ?_
 refine Zo rfl (run_lenSl rfl rfl Tryz.underlying65) ?_
 refine Zn rfl (mvI rfl) ?_
 refine r_block ?_
 refine r_loop (α := Nat) [3, 5, 8, 9, 10, 11, 12, 13, 14, 15, 16] (fun k g w => g 8 = .int .i64 (k : Nat) ∧ g 3 = .int .i64 (((ll.take k).flatten).length : Nat) ∧ k ≤ ll.length ∧ w0.heap.size ≤ w.heap.size ∧ Evo w0 w []) (fun k => ll.length - k) 0 ?_ ?_
 ·refine ⟨(by first | exact rfl | exact congrArg (Value.int _) (by omega) | exact congrArg (Value.int _) (by dsimp only; omega) | exact congrArg (Value.int _) (by simp) | exact congrArg S (by simp)), rfl, (by first | assumption | omega | (dsimp only; omega) | (simp; done)), (by first | assumption | omega | (dsimp only; omega) | (simp; done)), hV⟩
 rintro k g w2 ⟨hj3, hj4, hk_k, hzl1, hV⟩
 have hs_w2hV := hV.size
 replace hs := hs0.now hV
 refine Zk 8 (v := .int .i64 (k : Nat)) (by exact hj3) ?_
 refine Zk 3 (v := .int .i64 (((ll.take k).flatten).length : Nat)) (by exact hj4) ?_
 refine Zs ?_
 refine Zn rfl (run_lss rfl rfl rfl) ?_
 refine r_seq ?_
 refine r_cond rfl (fun hc5 => ?_) (fun hc5 => ?_)
 ·skip
  refine r_skip ?_
  refine r_seq ?_
  refine r_block ?_
  refine Zs ?_
  refine Zo rfl (run_ix (k) rfl Tryz.underlying65 ty_22 rfl rfl (by first | exact rfl | omega) (by omega) (hs.addr (i := k) (by omega))) ?_
  obtain ⟨ao6, b6, off6, cap6, hX⟩ := sl_atK hs0 (k) (by omega)
  have hA60 := fun (w' : World) (h : Evo w0 w' []) => (hX w' h).1
  have hA6 := hA60 _ hV
  have hR60 := fun (w' : World) (h : Evo w0 w' []) => (hX w' h).2
  have hR6 := hR60 _ hV
  clear hX
  have hbd_hR6 := hR6.bd
  refine Zo rfl (run_ld1 rfl ag_22 rfl (hA6.cell 0 rfl)) ?_
  refine Zn rfl (asS rfl) ?_
  have hf1 := flat_take ll (k + 1); have hf2 : ((ll.take (k + 1)).flatten).length = ((ll.take k).flatten).length + (ll.getD k default).length := by rw [flat_succL ll k (by omega), List.length_append]
  refine r_region ?_
  refine Zo rfl (mvI rfl) ?_
  refine Zo rfl (mvS rfl) ?_
  refine Zo rfl (run_lenSl rfl rfl Tryz.underlying22) ?_
  refine Zo rfl (run_add rfl rfl rfl (by omega) (by omega)) ?_
  refine Zn rfl (asI rfl) ?_
  refine r_blk ?_
  refine r_region ?_
  refine Zo rfl (run_add rfl rfl rfl (by omega) (by omega)) ?_
  refine Zn rfl (mvI rfl) ?_
  refine r_again (k + 1) ?_ ?_ ?_
  ·first | omega | (dsimp only; omega)
  ·refine ⟨(by first | exact rfl | exact congrArg (Value.int _) (by omega) | exact congrArg (Value.int _) (by dsimp only; omega) | exact congrArg (Value.int _) (by simp) | exact congrArg S (by simp)), (congrArg (Value.int _) (by omega)), (by first | assumption | omega | (dsimp only; omega) | (simp; done)), (by first | assumption | omega | (dsimp only; omega) | (simp; done)), hV⟩
  repeat (first | (with_reducible exact Agree.merge _ _ _) | (with_reducible exact Agree.refl _ _) | (with_reducible refine Agree.upd ?_ _ _ rfl) | ((with_reducible refine Agree.inner ?_ ?_); (kernel_rfl)))
 refine r_exit rfl ?_
 refine Zs ?_
 refine Zo rfl (mvI rfl) ?_
 refine Zo rfl (run_gtr rfl rfl rfl) ?_
 refine Zn rfl (asB rfl) ?_
 refine r_ret (res1 (v := .bool _) rfl rfl) ?_
 exact ⟨ret_bool (by rw [List.take_of_length_le (by omega)]; rw [Bool.eq_iff_iff, decide_eq_true_iff, decide_eq_true_iff]; omega), hV⟩
theorem kfrom_calls {ao : Option Addr} {cap : Nat} {l : List Int} {w0 : World}  :
    Calls Tryz.prog 19 #[.slice ao l.length cap] w0 fun e w' => ∃ bs, e = .returned (.pointer (some ⟨bs, 0, none⟩)) ∧ w0.heap.size ≤ bs ∧ Evo w0 w' [] ∧ Blk w' bs 70 [.slice ao l.length cap, .int .i64 ((0 : Nat) : Int)] ∧ At w' bs 0 [.slice ao l.length cap, .int .i64 ((0 : Nat) : Int)] := by
 refine calls_enter (n := 6) Tryz.func19 rfl Tryz.ntmps19 rfl ?_
 have hV : Evo w0 w0 [] := Evo.refl _ _
 refine Zs ?_
 refine Zn rfl (asP rfl) ?_
 refine Zs ?_
 refine Zo rfl (mvS rfl) ?_
 refine Zo rfl (run_bld (pv := [(0, .slice _ _ _)]) (zs := [_, _]) (cells := [_, _]) rfl ty_70 rfl pl_70 rfl rfl) ?_
 refine r_box (vs := [_, _]) rfl rfl rfl ?_
 intro b1 w2 J1 E2 B1 Y1
 have Q2 := E2.size
 replace hV := Z0 hV E2
 refine Zn rfl (asP rfl) ?_
 refine r_ret (res1 (v := .pointer _) rfl rfl) ?_
 exact ⟨_, rfl, by omega, hV, B1, B1.at⟩
theorem pl_28 : placesP Tryz.prog 28 = some [(0, 13), (13, 1), (14, 1), (15, 1), (16, 1)] := by kernel_rfl
theorem ty_25 : tyP Tryz.prog 25 = some (1, 24, some (.slice none 0 0)) := by kernel_rfl
theorem ty_26 : tyP Tryz.prog 26 = some (1, 24, some (.slice none 0 0)) := by kernel_rfl
set_option maxHeartbeats 4000000 in
theorem checks_make {T bs : Nat} {ao : Option Addr} {b off cap : Nat} {l : List Int} {N : Nat} {rf : Bool} {w0 : World} (hb : Blk w0 bs T [.slice ao l.length cap, .int .i64 (N : Nat)]) (hl : ∀ w', Evo w0 w' [bs] → RowE w' ao b off cap l) (hN : N ≤ 100000) :
    Calls Tryz.prog 18 #[.pointer (some ⟨bs, 0, none⟩), .bool (decide (rf = true))] w0 fun e w' => ∃ l0 l1 l2 l3 l4 l5 l6 l7 l8 l9 l10 l11 l12 sh lo aot bt ot capt, ∃ ts : List TermL, ∃ aoc bc oc capc, ∃ cl : List Clas, e = .returned (.agg #[.int .i64 l0, .int .i64 l1, .int .i64 l2, .int .i64 l3, .int .i64 l4, .int .i64 l5, .int .i64 l6, .int .i64 l7, .int .i64 l8, .int .i64 l9, .int .i64 l10, .int .i64 l11, .int .i64 l12, .int .i64 sh, .int .i64 lo, .slice aot ts.length capt, .slice aoc cl.length capc]) ∧ Evo w0 w' [bs] ∧ RowRK w' [] aot bt ot capt ts ∧ RowRK w' [] aoc bc oc capc cl ∧ MadeC (⟨[l0, l1, l2, l3, l4, l5, l6, l7, l8, l9, l10, l11, l12], sh, lo, ts, cl⟩ : Chk) := by
 have hAs := hb.at; have hbslt := hb.lt
 refine calls_enter (n := 43) Tryz.func18 rfl Tryz.ntmps18 rfl ?_
 have hV : Evo w0 w0 [bs] := Evo.refl _ _
 have hl0 := hl
 replace hl := hl0 _ hV
 have hbd_hl := hl.bd
 refine Zs ?_
 refine r_alloc (zs := [_, _, _, _, _, _, _, _, _, _, _, _, _, _, _, _, _]) ty_28 rfl rfl ?_
 intro b1 w2 J1 E2 B1 Y1
 have Q2 := E2.size
 replace hV := Z0 hV E2
 replace hb := hb.evo0 E2
 replace hAs := hAs.evo0 E2
 replace hl := hl0 _ hV
 have hAb1 := B1.at
 refine r_nil ?_
 refine Zs ?_
 refine Zo rfl (mvP rfl) ?_
 refine r_opcall rfl rfl rfl (run_callf (vs := [.pointer _, .int _ _]) rfl (by exact rfl) Tryz.func38 rfl (by kernel_rfl)) (nx_calls hb hl (by omega) (by omega) (by omega)) ?_
 rintro e w3 ⟨nx3, rfl, hx3, hE3, hn3⟩
 refine ⟨_, rfl, ?_⟩
 have Q3 := hE3.size
 replace hV := Z1 hV hE3 (.inr (by simp))
 replace B1 := B1.evo hE3 (by simp; omega)
 replace hAb1 := hAb1.evo hE3 (by simp; omega)
 replace hb := hn3
 clear hn3
 have hAs := hb.at
 refine Zo rfl (run_mul rfl rfl rfl (by omega) (by omega)) ?_
 refine r_bslice (pv := [(0, .int _ _), (1, .int _ _), (2, .int _ _), (3, .int _ _)]) (zs := [_]) (cs := [_, _, _, _]) Tryz.underlying22 ty_3 rfl rfl rfl rfl rfl ?_
 intro b4 w5 J4 E5 B4 Y4
 have Q5 := E5.size
 replace hV := Z0 hV E5
 replace hl := hl0 _ hV
 replace B1 := B1.evo0 E5
 replace hAb1 := hAb1.evo0 E5
 replace hb := hb.evo0 E5
 replace hAs := hAs.evo0 E5
 have hrb4 : RowE w5 (some ⟨b4, 0, none⟩) b4 0 4 ([0, 100, 150, 400] : List Int) := rowLit ([0, 100, 150, 400] : List Int) B4 rfl rfl
 refine Zo rfl (mvP rfl) ?_
 refine r_opcall rfl rfl rfl (run_callf (vs := [.pointer _, .int _ _]) rfl (by exact rfl) Tryz.func38 rfl (by kernel_rfl)) (nx_calls hb hl (by omega) (by omega) (by omega)) ?_
 rintro e w6 ⟨nx6, rfl, hx6, hE6, hn6⟩
 refine ⟨_, rfl, ?_⟩
 have Q6 := hE6.size
 replace hV := Z1 hV hE6 (.inr (by simp))
 replace B1 := B1.evo hE6 (by simp; omega)
 replace hAb1 := hAb1.evo hE6 (by simp; omega)
 replace hrb4 := hrb4.evo hE6 (by simp; omega)
 replace hb := hn6
 clear hn6
 have hAs := hb.at
 refine Zo rfl (run_ix (nx6.toNat) rfl Tryz.underlying22 ty_3 rfl rfl (by omega) (by show _ < 4; omega) (hrb4.addr (i := nx6.toNat) (by show _ < 4; omega))) ?_
 have hA7 := hrb4.atD (nx6.toNat) (by show _ < 4; omega)
 refine Zo rfl (run_ld1 rfl ag_3 rfl (hA7.cell 0 rfl)) ?_
 refine Zo rfl (run_bld (pv := [(1, .int _ _), (2, .int _ _)]) (zs := [_, _, _, _, _, _, _, _, _, _, _, _, _, _, _, _, _]) (cells := [_, _, _, _, _, _, _, _, _, _, _, _, _, _, _, _, _]) rfl ty_28 rfl pl_28 rfl rfl) ?_
 refine r_var (zs := [_, _, _, _, _, _, _, _, _, _, _, _, _, _, _, _, _]) (vs := [_, _, _, _, _, _, _, _, _, _, _, _, _, _, _, _, _]) ty_28 rfl rfl rfl (fun _ => rfl) rfl rfl rfl rfl ?_
 intro b8 w9 J8 E9 B8 Y8
 have Q9 := E9.size
 replace hV := Z0 hV E9
 replace hl := hl0 _ hV
 replace B1 := B1.evo0 E9
 replace hAb1 := hAb1.evo0 E9
 replace hrb4 := hrb4.evo0 E9
 replace hb := hb.evo0 E9
 replace hAs := hAs.evo0 E9
 have hAb8 := B8.at
 refine r_nil ?_
 refine r_seq ?_
 refine Zs ?_
 refine Zn rfl (asI rfl) ?_
 refine r_block ?_
 obtain ⟨sh, hsh⟩ : ∃ z, z = nx3 * 40 := ⟨_, rfl⟩; obtain ⟨lo, hlo⟩ : ∃ z, z = ([0, 100, 150, 400] : List Int).getD nx6.toNat default := ⟨_, rfl⟩
 have hlb := longs_bd (k := nx6.toNat) (by omega); rw [← hlo] at hlb
 rw [← hsh, ← hlo] at B8; have hAb8 := B8.at
 refine r_loop (α := Nat) [6, 16, 17, 18, 19, 20, 21, 22, 23, 24, 25, 26, 27, 28, 29, 30, 31, 32, 33] (fun k g w => ∃ lev : List Int, ∃ N1 : Nat, g 6 = .int .i64 (k : Nat) ∧ Blk w b8 28 ((lev).map (Value.int .i64) ++ [.int .i64 sh, .int .i64 lo, .slice none 0 0, .slice none 0 0]) ∧ At w b8 0 ((lev).map (Value.int .i64) ++ [.int .i64 sh, .int .i64 lo, .slice none 0 0, .slice none 0 0]) ∧ Blk w b1 28 [.int .i64 0, .int .i64 0, .int .i64 0, .int .i64 0, .int .i64 0, .int .i64 0, .int .i64 0, .int .i64 0, .int .i64 0, .int .i64 0, .int .i64 0, .int .i64 0, .int .i64 0, .int .i64 0, .int .i64 0, .slice none 0 0, .slice none 0 0] ∧ At w b1 0 [.int .i64 0, .int .i64 0, .int .i64 0, .int .i64 0, .int .i64 0, .int .i64 0, .int .i64 0, .int .i64 0, .int .i64 0, .int .i64 0, .int .i64 0, .int .i64 0, .int .i64 0, .int .i64 0, .int .i64 0, .slice none 0 0, .slice none 0 0] ∧ Blk w bs T [.slice ao l.length cap, .int .i64 (N1 : Nat)] ∧ At w bs 0 [.slice ao l.length cap, .int .i64 (N1 : Nat)] ∧ LevR lev ∧ (1 ≤ k ∧ k ≤ 13 ∧ N + 2 ≤ N1 ∧ N1 + 2 ≤ N + 2 + 2 * k) ∧ w9.heap.size ≤ w.heap.size ∧ Evo w0 w [bs]) (fun k => 13 - k) 1 ?_ ?_
 ·refine ⟨(List.replicate 13 0), _, rfl, B8, B8.at, B1, B1.at, hb, hb.at, LevR.init, (by omega), (by first | assumption | omega | (dsimp only; omega) | (simp; done)), hV⟩
 rintro k g w11 ⟨lev, N1, hj12, B8, hAb8, B1, hAb1, hb, hAs, hLR, hk, hzl10, hV⟩
 have hs_w11hV := hV.size
 have hlt13 := B8.lt
 have hlt14 := B1.lt
 have hlt15 := hb.lt
 replace hl := hl0 _ hV
 refine Zk 6 (v := .int .i64 (k : Nat)) (by exact hj12) ?_
 have hl13 := hLR.1
 refine r_seq ?_
 refine Zs ?_
 refine Zo rfl (mvI rfl) ?_
 refine Zn rfl (run_lss rfl rfl rfl) ?_
 refine r_cond rfl (fun hc16 => ?_) (fun hc16 => ?_)
 ·skip
  refine r_skip ?_
  refine r_seq ?_
  refine r_block ?_
  refine Zs ?_
  refine Zo rfl (mvI rfl) ?_
  refine Zo rfl (mvP rfl) ?_
  refine r_opcall rfl rfl rfl (run_callf (vs := [.pointer _, .int _ _]) rfl (by exact rfl) Tryz.func38 rfl (by kernel_rfl)) (nx_calls hb hl (by omega) (by omega) (by omega)) ?_
  rintro e w17 ⟨nx17, rfl, hx17, hE17, hn17⟩
  refine ⟨_, rfl, ?_⟩
  have Q17 := hE17.size
  replace hV := Z1 hV hE17 (.inr (by simp))
  replace B8 := B8.evo hE17 (by simp; omega)
  replace hAb8 := hAb8.evo hE17 (by simp; omega)
  replace B1 := B1.evo hE17 (by simp; omega)
  replace hAb1 := hAb1.evo hE17 (by simp; omega)
  replace hb := hn17
  clear hn17
  have hAs := hb.at
  refine Zo rfl (run_fa rfl rfl fo_28_0) ?_
  refine Zo rfl (run_ixP (k) rfl Tryz.underlying24 ty_3 rfl rfl (by omega) (by omega)) ?_
  refine r_store (v := .int .i64 nx17) (vs := [.int .i64 nx17]) (cs' := (((lev).set k (nx17)).map (Value.int .i64) ++ [.int .i64 sh, .int .i64 lo, .slice none 0 0, .slice none 0 0])) rfl rfl B8 ty_3 rfl rfl rfl (by simp only [Nat.zero_add, Nat.mul_one]; exact lev_fit rfl (by omega)) (by simp only [Nat.zero_add, Nat.mul_one]; exact lev_set (by omega)) ?_
  intro w18 E18 V18 hb_new
  have Q18 := E18.size
  replace hV := Z1 hV E18 (by first | exact .inl (by omega) | exact .inr (by simp))
  replace hl := hl0 _ hV
  replace B1 := B1.evo E18 (by simp; omega)
  replace hAb1 := hAb1.evo E18 (by simp; omega)
  replace hb := hb.evo E18 (by simp; omega)
  replace hAs := hAs.evo E18 (by simp; omega)
  replace B8 := hb_new
  have hAb8 := B8.at
  clear hb_new
  have hlz : ((lev).set k (nx17)).length = (lev).length := List.length_set
  refine r_nil ?_
  refine Zs ?_
  refine Zo rfl (mvB rfl) ?_
  refine Zo rfl (mvB rfl) ?_
  refine r_g rfl (wantT rfl) rfl (fun hg => run_mv (v := .pointer _) rfl rfl) ?_
  refine r_gnext rfl (wantT rfl) rfl (fun hg => run_callf rfl (argcons (v := .pointer _) (glv rfl (fun h => h) hg) (argcons (v := .int _ _) rfl (rfl))) Tryz.func38 rfl (by kernel_rfl)) (fun hg => (nx_calls hb hl (by omega) (by omega) (by omega))) hb ?_
  intro nx20 w19 Ng20 hx20 hE20 hna20 hnb20 hbn
  have Q19 := hE20.size
  replace hV := Z1 hV hE20 (.inr (by simp))
  replace hl := hl0 _ hV
  replace B1 := B1.evo hE20 (by simp; omega)
  replace hAb1 := hAb1.evo hE20 (by simp; omega)
  replace B8 := B8.evo hE20 (by simp; omega)
  replace hAb8 := hAb8.evo hE20 (by simp; omega)
  replace hb := hbn
  clear hbn
  have hAs := hb.at
  refine r_g rfl (wantT rfl) rfl (fun hg => run_eql rfl (glv rfl (fun h => h) hg) rfl) ?_
  refine Zn rfl (run_pick_and rfl rfl (fun hq => glv rfl (fun h => h) hq) rfl) ?_
  refine r_cond rfl (fun hc21 => ?_) (fun hc21 => ?_)
  ·skip
   refine r_region ?_
   refine Zo rfl (mvI rfl) ?_
   refine Zo rfl (run_fa rfl rfl fo_28_0) ?_
   refine Zo rfl (run_ixP (k) rfl Tryz.underlying24 ty_3 rfl rfl (by omega) (by omega)) ?_
   refine r_store (v := .int .i64 2) (vs := [.int .i64 2]) (cs' := (((lev.set k nx17).set k (2)).map (Value.int .i64) ++ [.int .i64 sh, .int .i64 lo, .slice none 0 0, .slice none 0 0])) rfl rfl B8 ty_3 rfl rfl rfl (by simp only [Nat.zero_add, Nat.mul_one]; exact lev_fit rfl (by omega)) (by simp only [Nat.zero_add, Nat.mul_one]; exact lev_set (by omega)) ?_
   intro w22 E22 V22 hb_new
   have Q22 := E22.size
   replace hV := Z1 hV E22 (by first | exact .inl (by omega) | exact .inr (by simp))
   replace hl := hl0 _ hV
   replace B1 := B1.evo E22 (by simp; omega)
   replace hAb1 := hAb1.evo E22 (by simp; omega)
   replace hb := hb.evo E22 (by simp; omega)
   replace B8 := hb_new
   have hAb8 := B8.at
   clear hb_new
   have hlz : ((lev.set k nx17).set k (2)).length = (lev.set k nx17).length := List.length_set
   refine r_nil ?_
   refine r_blk ?_
   refine r_region ?_
   refine Zo rfl (mvI rfl) ?_
   refine Zo rfl (run_add rfl rfl rfl (by omega) (by omega)) ?_
   refine Zn rfl (asI rfl) ?_
   refine r_again (k + 1) ?_ ?_ ?_
   ·first | omega | (dsimp only; omega)
   ·refine ⟨_, _, (congrArg (Value.int _) (by omega)), B8, B8.at, B1, B1.at, hb, hb.at, (by first | exact (hLR.set (by omega) ⟨by omega, by omega⟩).set (by omega) ⟨by decide, by decide⟩ | exact hLR.set (by omega) ⟨by omega, by omega⟩), (by omega), (by first | assumption | omega | (dsimp only; omega) | (simp; done)), hV⟩
   repeat (first | (with_reducible exact Agree.merge _ _ _) | (with_reducible exact Agree.refl _ _) | (with_reducible refine Agree.upd ?_ _ _ rfl) | ((with_reducible refine Agree.inner ?_ ?_); (kernel_rfl)))
  refine r_skip ?_
  refine r_blk ?_
  refine r_region ?_
  refine Zo rfl (mvI rfl) ?_
  refine Zo rfl (run_add rfl rfl rfl (by omega) (by omega)) ?_
  refine Zn rfl (asI rfl) ?_
  refine r_again (k + 1) ?_ ?_ ?_
  ·first | omega | (dsimp only; omega)
  ·refine ⟨_, _, (congrArg (Value.int _) (by omega)), B8, B8.at, B1, B1.at, hb, hb.at, (by first | exact (hLR.set (by omega) ⟨by omega, by omega⟩).set (by omega) ⟨by decide, by decide⟩ | exact hLR.set (by omega) ⟨by omega, by omega⟩), (by omega), (by first | assumption | omega | (dsimp only; omega) | (simp; done)), hV⟩
  repeat (first | (with_reducible exact Agree.merge _ _ _) | (with_reducible exact Agree.refl _ _) | (with_reducible refine Agree.upd ?_ _ _ rfl) | ((with_reducible refine Agree.inner ?_ ?_); (kernel_rfl)))
 refine r_exit rfl ?_
 refine r_seq ?_
 obtain ⟨a0, a1, a2, a3, a4, a5, a6, a7, a8, a9, a10, a11, a12, rfl⟩ := list13 hLR.1
 replace B8 : Blk _ _ _ [.int .i64 a0, .int .i64 a1, .int .i64 a2, .int .i64 a3, .int .i64 a4, .int .i64 a5, .int .i64 a6, .int .i64 a7, .int .i64 a8, .int .i64 a9, .int .i64 a10, .int .i64 a11, .int .i64 a12, .int .i64 sh, .int .i64 lo, .slice none 0 0, .slice none 0 0] := B8; have hAb8 := B8.at
 have h5lt := B8.lt; have h4lt := B1.lt
 refine r_region ?_
 refine Zo rfl (mvP rfl) ?_
 refine r_opcall rfl rfl rfl (run_callf (vs := [.pointer _, .int _ _]) rfl (by exact rfl) Tryz.func39 rfl (by kernel_rfl)) (classesZ_calls (y1 := b8) (y2 := b1) hb (fun w9 h9 => hl0 _ (Evo.trans hV h9 (fun x hx _ => hx))) (by omega) (by omega) (by omega) (by omega) (by omega)) ?_
 rintro e w23 ⟨vc23, cl23, mc23, Nc23, rfl, hMC23, hNc23, hE23, hn23, hoC23⟩
 refine ⟨_, rfl, ?_⟩
 have Q23 := hE23.size
 replace hV := Z1 hV hE23 (.inr (by simp))
 replace B8 := B8.evo hE23 (by simp; omega)
 replace hAb8 := hAb8.evo hE23 (by simp; omega)
 replace B1 := B1.evo hE23 (by simp; omega)
 replace hAb1 := hAb1.evo hE23 (by simp; omega)
 replace hb := hn23
 clear hn23
 have hAs := hb.at
 obtain ⟨aoC, gC, cpC, hvC, hC0⟩ := hoC23.rowK (by simp; omega)
 subst hvC
 have hIC : Evo w23 w23 [bs, b8, b1] := Evo.refl _ _
 have hC := hC0.now hIC; have hbd_hC := hC.bd
 have hnm := made_names hMC23.1 (by omega); have hmc1 := hMC23.1.1
 refine Zo rfl (run_fa rfl rfl fo_28_4) ?_
 refine r_store (v := .slice _ _ _) (vs := [_]) (cs' := [_, _, _, _, _, _, _, _, _, _, _, _, _, _, _, _, _]) rfl rfl B8 ty_26 rfl rfl rfl rfl rfl ?_
 intro w24 E24 V24 hb_new
 have Q24 := E24.size
 replace hV := Z1 hV E24 (by first | exact .inl (by omega) | exact .inr (by simp))
 replace hIC := Z1 hIC E24 (by first | exact .inl (by omega) | exact .inr (by simp))
 replace B1 := B1.evo E24 (by simp; omega)
 replace hAb1 := hAb1.evo E24 (by simp; omega)
 replace hb := hb.evo E24 (by simp; omega)
 replace hAs := hAs.evo E24 (by simp; omega)
 replace B8 := hb_new
 have hAb8 := B8.at
 clear hb_new
 refine r_nil ?_
 refine Zs ?_
 refine Zo rfl (mvP rfl) ?_
 refine Zo rfl (run_fa rfl rfl fo_28_4) ?_
 refine Zo rfl (run_ld1 rfl ag_26 rfl (hAb8.cell 16 rfl)) ?_
 refine r_opcall rfl rfl rfl (run_callf (vs := [.pointer _, .slice _ _ _, .int _ _]) rfl (by exact rfl) Tryz.func40 rfl (by kernel_rfl)) (termsZ_make hb (fun w9 h9 => hl0 _ (Evo.trans hV h9 (fun x hx _ => hx))) (by omega) (y1 := b8) (y2 := b1) (hC0.pass hIC (fun x hx => .inr (by simp at hx; simp [hx]))) hnm (by omega) (by omega) (by omega) (by omega) (by omega)) ?_
 rintro e w25 ⟨vt25, ts25, Nt25, rfl, hMT25, hNt25, hE25, hn25, hoT25⟩
 refine ⟨_, rfl, ?_⟩
 have Q25 := hE25.size
 replace hV := Z1 hV hE25 (.inr (by simp))
 replace hIC := Z1 hIC hE25 (by first | exact .inl (by omega) | exact .inr (by simp))
 replace B1 := B1.evo hE25 (by simp; omega)
 replace hAb1 := hAb1.evo hE25 (by simp; omega)
 replace B8 := B8.evo hE25 (by simp; omega)
 replace hAb8 := hAb8.evo hE25 (by simp; omega)
 replace hb := hn25
 clear hn25
 obtain ⟨aoT, gT, cpT, hvT, hT0⟩ := hoT25.rowK (by simp; omega)
 subst hvT
 have hIT : Evo w25 w25 [bs, b8, b1] := Evo.refl _ _
 have hT := hT0.now hIT; have hbd_hT := hT.bd
 refine Zo rfl (run_fa rfl rfl fo_28_3) ?_
 refine r_store (v := .slice _ _ _) (vs := [_]) (cs' := [_, _, _, _, _, _, _, _, _, _, _, _, _, _, _, _, _]) rfl rfl B8 ty_25 rfl rfl rfl rfl rfl ?_
 intro w26 E26 V26 hb_new
 have Q26 := E26.size
 replace hV := Z1 hV E26 (by first | exact .inl (by omega) | exact .inr (by simp))
 replace hIC := Z1 hIC E26 (by first | exact .inl (by omega) | exact .inr (by simp))
 replace hIT := Z1 hIT E26 (by first | exact .inl (by omega) | exact .inr (by simp))
 replace B1 := B1.evo E26 (by simp; omega)
 replace hAb1 := hAb1.evo E26 (by simp; omega)
 replace B8 := hb_new
 have hAb8 := B8.at
 clear hb_new
 refine r_nil ?_
 refine Zs ?_
 refine Zo rfl (run_ldN rfl ag_28 ty_28 rfl rfl hAb8) ?_
 refine r_store (v := .agg _) (vs := [_, _, _, _, _, _, _, _, _, _, _, _, _, _, _, _, _]) (cs' := [_, _, _, _, _, _, _, _, _, _, _, _, _, _, _, _, _]) rfl rfl B1 ty_28 rfl rfl rfl rfl rfl ?_
 intro w27 E27 V27 hb_new
 have Q27 := E27.size
 replace hV := Z1 hV E27 (by first | exact .inl (by omega) | exact .inr (by simp))
 replace hIC := Z1 hIC E27 (by first | exact .inl (by omega) | exact .inr (by simp))
 replace hIT := Z1 hIT E27 (by first | exact .inl (by omega) | exact .inr (by simp))
 replace B1 := hb_new
 have hAb1 := B1.at
 clear hb_new
 refine r_nil ?_
 refine r_ret (resC1 (cs := [_, _, _, _, _, _, _, _, _, _, _, _, _, _, _, _, _]) rfl ag_28 ty_28 rfl rfl hAb1) ?_
 exact ⟨_, _, _, _, _, _, _, _, _, _, _, _, _, _, _, _, _, _, _, _, _, _, _, _, _, rfl, hV, hT0.pass hIT (fun x hx => absurd hx List.not_mem_nil), hC0.pass hIC (fun x hx => absurd hx List.not_mem_nil), ⟨rfl, hLR.2.1, hLR.2.2, by show 0 ≤ sh ∧ sh ≤ 100; omega, hlb, fun x hx => (hMT25.1 x hx).1, by have := hMT25.2; show ts25.length ≤ 3; omega, by show cl23.length ≤ 2; omega, made_terms (made_valid hMC23.1 (by omega)) hMT25.1 (by have := hMT25.2; show ts25.length ≤ 128; omega)⟩⟩
theorem dif_self {α : Type} [DecidableEq α] (s : List α) (x : α) : dif s s x = 0 := by unfold dif; omega
def kC : Chk := ⟨[0, 1, 1, 1, 1, 1, 2, 1, 1, 1, 1, 1, 1], 0, 0, [], []⟩
def kA : List Vc.Item := [⟨1, [97, 32, 49], 0⟩]
def kB : List Vc.Item := [⟨1, [98, 32, 50], 0⟩]
def kO : List Vc.Item := [⟨6, [49], -1⟩, ⟨6, [50], 1⟩]
theorem kC_ok : validK kC = 0 := by decide +kernel
theorem k_slot : slotF kA kB = [] := by
  have h : slotsL kA = [] ∧ slotsL kB = [] := by decide
  unfold slotF; rw [h.1, h.2]
  exact difs_nil (dif_self _)
theorem k_run : runF kC kA kB = kO := by
  unfold runF
  rw [if_pos kC_ok]
  have e : findL kC kA kB = findA kC kA kB := if_neg (by decide)
  have e2 : findA kC kA kB = kO := by
    unfold findA; rw [k_slot]
    decide +kernel
  rw [e, e2]
  decide +kernel
theorem k_ref : refL kC kO = true := by decide +kernel
theorem k_emp : runF kC [⟨1, [97], 0⟩] [] = [⟨1, [], 0⟩] := by
  unfold runF
  rw [if_pos kC_ok]
  have e : findL kC [⟨1, [97], 0⟩] [] = [⟨1, [], 0⟩] := if_pos ⟨rfl, by simp⟩
  rw [e]; decide +kernel
theorem k_tiny : Tiny kA ∧ Tiny kB ∧ Tiny [⟨1, [97], 0⟩] ∧ Tiny ([] : List Vc.Item) := by unfold Tiny; decide
theorem k_notag : (∀ x ∈ tagsL kA, InR x) ∧ (∀ x ∈ tagsL kB, InR x) ∧ ∀ x ∈ tagsL [⟨1, [97], 0⟩], InR x := by
  have h : tagsL kA = [] ∧ tagsL kB = [] ∧ tagsL [⟨1, [97], 0⟩] = [] := by decide
  rw [h.1, h.2.1, h.2.2]
  exact ⟨fun x hx => absurd hx List.not_mem_nil, fun x hx => absurd hx List.not_mem_nil, fun x hx => absurd hx List.not_mem_nil⟩
theorem own_cast {α : Type} [Enc α] {w : World} {base : Nat} {E : TypeId} {v : Value} {l l2 : List α} (h : OwnE w base E v l) (e : l = l2) : OwnE w base E v l2 := e ▸ h
def kLev (k : Nat) : List Int := (0 :: List.replicate (k - 1) 1) ++ List.replicate (13 - k) 0
theorem kLev_len {k : Nat} (h : 1 ≤ k) (h2 : k ≤ 13) : (kLev k).length = 13 := by unfold kLev; simp; omega
theorem kLev_set {k : Nat} (h : 1 ≤ k) (h2 : k < 13) : (kLev k).set k 1 = kLev (k + 1) := by
  have : ∀ k, k < 13 → 1 ≤ k → (kLev k).set k 1 = kLev (k + 1) := by decide
  exact this k h2 h
theorem known1_calls {s : Str} {w0 : World}  :
    Calls Tryz.prog 37 #[S s] w0 fun e w' => ∃ ao b off cap, e = .returned (.slice ao ([⟨1, s, 0⟩] : List Vc.Item).length cap) ∧ Evo w0 w' [] ∧ RowE w' ao b off cap ([⟨1, s, 0⟩] : List Vc.Item) := by
 refine calls_enter (n := 6) Tryz.func37 rfl Tryz.ntmps37 rfl ?_
 have hV : Evo w0 w0 [] := Evo.refl _ _
 refine Zs ?_
 refine Zn rfl (asS rfl) ?_
 refine Zs ?_
 refine Zo rfl (mvT rfl) ?_
 refine Zo rfl (run_bld (pv := [(0, .int _ _), (1, S _)]) (zs := [_, _, _]) (cells := [_, _, _]) rfl ty_32 rfl pl_32 rfl rfl) ?_
 refine r_bslice (pv := [(0, .agg _)]) (zs := [_, _, _]) (cs := [_, _, _]) Tryz.underlying33 ty_32 rfl rfl rfl rfl rfl ?_
 intro b1 w2 J1 E2 B1 Y1
 have Q2 := E2.size
 replace hV := Z0 hV E2
 have hrb1 : RowE w2 (some ⟨b1, 0, none⟩) b1 0 1 ([⟨1, s, 0⟩] : List Vc.Item) := rowLit ([⟨1, s, 0⟩] : List Vc.Item) B1 rfl rfl
 refine Zn rfl (run_asg (v := .slice (some ⟨b1, 0, none⟩) _ _) rfl rfl) ?_
 refine r_ret (res1 (v := .slice (some ⟨b1, 0, none⟩) _ _) rfl rfl) ?_
 exact ⟨_, _, _, _, rfl, hV, hrb1⟩
set_option maxHeartbeats 4000000 in
theorem kknown_calls  {w0 : World} (htab : Tab w0) :
    Calls Tryz.prog 15 #[] w0 fun e w' => e = .returned (.bool true) ∧ Evo w0 w' [] := by
 refine calls_enter (n := 40) Tryz.func15 rfl Tryz.ntmps15 rfl ?_
 have hV : Evo w0 w0 [] := Evo.refl _ _
 refine Zs ?_
 refine Zn rfl (asB rfl) ?_
 refine Zs ?_
 refine Zo rfl (run_bld (pv := []) (zs := [_, _, _, _, _, _, _, _, _, _, _, _, _, _, _, _, _]) (cells := [_, _, _, _, _, _, _, _, _, _, _, _, _, _, _, _, _]) rfl ty_28 rfl pl_28 rfl rfl) ?_
 refine r_var (zs := [_, _, _, _, _, _, _, _, _, _, _, _, _, _, _, _, _]) (vs := [_, _, _, _, _, _, _, _, _, _, _, _, _, _, _, _, _]) ty_28 rfl rfl rfl (fun _ => rfl) rfl rfl rfl rfl ?_
 intro b1 w2 J1 E2 B1 Y1
 have Q2 := E2.size
 replace hV := Z0 hV E2
 have hAb1 := B1.at
 refine r_nil ?_
 refine r_seq ?_
 refine Zs ?_
 refine Zn rfl (asI rfl) ?_
 refine r_block ?_
 refine r_loop (α := Nat) [2, 6, 7, 8, 9, 10, 11, 12] (fun k g w => g 2 = .int .i64 (k : Nat) ∧ Blk w b1 28 ((kLev k).map (Value.int .i64) ++ [.int .i64 0, .int .i64 0, .slice none 0 0, .slice none 0 0]) ∧ At w b1 0 ((kLev k).map (Value.int .i64) ++ [.int .i64 0, .int .i64 0, .slice none 0 0, .slice none 0 0]) ∧ (1 ≤ k ∧ k ≤ 13) ∧ w2.heap.size ≤ w.heap.size ∧ Evo w0 w []) (fun k => 13 - k) 1 ?_ ?_
 ·refine ⟨rfl, B1, B1.at, (by first | assumption | omega | (dsimp only; omega) | (simp; done)), (by first | assumption | omega | (dsimp only; omega) | (simp; done)), hV⟩
 rintro k g w4 ⟨hj5, B1, hAb1, hk, hzl3, hV⟩
 have hs_w4hV := hV.size
 have hlt6 := B1.lt
 refine Zk 2 (v := .int .i64 (k : Nat)) (by exact hj5) ?_
 have hl13 := kLev_len hk.1 hk.2
 refine r_seq ?_
 refine Zs ?_
 refine Zo rfl (mvI rfl) ?_
 refine Zn rfl (run_lss rfl rfl rfl) ?_
 refine r_cond rfl (fun hc7 => ?_) (fun hc7 => ?_)
 ·skip
  refine r_skip ?_
  refine r_seq ?_
  refine r_block ?_
  refine r_region ?_
  refine Zo rfl (mvI rfl) ?_
  refine Zo rfl (run_fa rfl rfl fo_28_0) ?_
  refine Zo rfl (run_ixP (k) rfl Tryz.underlying24 ty_3 rfl rfl (by omega) (by omega)) ?_
  refine r_store (v := .int .i64 1) (vs := [.int .i64 1]) (cs' := (((kLev k).set k (1)).map (Value.int .i64) ++ [.int .i64 0, .int .i64 0, .slice none 0 0, .slice none 0 0])) rfl rfl B1 ty_3 rfl rfl rfl (by simp only [Nat.zero_add, Nat.mul_one]; exact lev_fit rfl (by omega)) (by simp only [Nat.zero_add, Nat.mul_one]; exact lev_set (by omega)) ?_
  intro w8 E8 V8 hb_new
  have Q8 := E8.size
  replace hV := Z1 hV E8 (by first | exact .inl (by omega) | exact .inr (by simp))
  replace B1 := hb_new
  have hAb1 := B1.at
  clear hb_new
  have hlz : ((kLev k).set k (1)).length = (kLev k).length := List.length_set
  refine r_nil ?_
  refine r_blk ?_
  refine r_region ?_
  refine Zo rfl (mvI rfl) ?_
  refine Zo rfl (run_add rfl rfl rfl (by omega) (by omega)) ?_
  refine Zn rfl (asI rfl) ?_
  refine r_again (k + 1) ?_ ?_ ?_
  ·first | omega | (dsimp only; omega)
  ·refine ⟨(congrArg (Value.int _) (by omega)), (by have h9 := B1; rw [kLev_set hk.1 (by omega)] at h9; exact h9), (by have h9 := B1.at; rw [kLev_set hk.1 (by omega)] at h9; exact h9), (by first | assumption | omega | (dsimp only; omega) | (simp; done)), (by first | assumption | omega | (dsimp only; omega) | (simp; done)), hV⟩
  repeat (first | (with_reducible exact Agree.merge _ _ _) | (with_reducible exact Agree.refl _ _) | (with_reducible refine Agree.upd ?_ _ _ rfl) | ((with_reducible refine Agree.inner ?_ ?_); (kernel_rfl)))
 refine r_exit rfl ?_
 refine r_seq ?_
 obtain rfl : k = 13 := by omega
 replace B1 : Blk _ _ _ [.int .i64 0, .int .i64 1, .int .i64 1, .int .i64 1, .int .i64 1, .int .i64 1, .int .i64 1, .int .i64 1, .int .i64 1, .int .i64 1, .int .i64 1, .int .i64 1, .int .i64 1, .int .i64 0, .int .i64 0, .slice none 0 0, .slice none 0 0] := B1; have hAb1 := B1.at
 refine r_region ?_
 refine Zo rfl (run_fa rfl rfl fo_28_0) ?_
 refine Zo rfl (run_ixP (6) rfl Tryz.underlying24 ty_3 rfl rfl rfl (by omega)) ?_
 refine r_store (v := .int _ _) (vs := [_]) (cs' := [_, _, _, _, _, _, _, _, _, _, _, _, _, _, _, _, _]) rfl rfl B1 ty_3 rfl rfl rfl rfl rfl ?_
 intro w9 E9 V9 hb_new
 have Q9 := E9.size
 replace hV := Z1 hV E9 (by first | exact .inl (by omega) | exact .inr (by simp))
 replace B1 := hb_new
 have hAb1 := B1.at
 clear hb_new
 refine r_nil ?_
 refine Zs ?_
 refine Zn rfl (run_asg (v := .func _ _ _) rfl rfl) ?_
 refine r_seq ?_
 have hbb1_q := B1
 have hAb1_q := hAb1
 have hV_q := hV
 refine h_region ([]) (by kernel_rfl) ?_
 intro w10 hE11 hCst8
 have Q10 := hE11.size
 replace hV := Z0 hV hE11
 replace B1 := B1.evo0 hE11
 replace hAb1 := hAb1.evo0 hE11
 refine h_take (i := 0) rfl rfl rfl rfl (by kernel_rfl) (fun w' hC => run_ldN rfl ag_28 ty_28 rfl rfl (hAb1_q.evo0 hC)) hCst8 ?_
 refine h_take (i := 1) rfl rfl rfl rfl (by kernel_rfl) (fun w' hC => run_mv (v := .func _ _ _) rfl rfl) hCst8 ?_
 refine h_take (i := 3) rfl rfl rfl rfl (by kernel_rfl) (fun w' hC => run_mv (v := .func _ _ _) rfl rfl) hCst8 ?_
 refine h_one (i := 2) (by kernel_rfl) ?_
 refine h_do rfl ?_
 refine r_opcall rfl rfl rfl (run_callfn (vs := [S _]) (cs := []) rfl (by exact rfl) rfl Tryz.func37 rfl (by kernel_rfl)) known1_calls ?_
 rintro e w12 ⟨aoK12, bK12, ofK12, cpK12, rfl, hE12, hrK12⟩
 refine ⟨_, rfl, ?_⟩
 have Q12 := hE12.size
 replace hV := Z0 hV hE12
 replace hCst8 := Z0 hCst8 hE12
 replace B1 := B1.evo0 hE12
 replace hAb1 := hAb1.evo0 hE12
 refine h_next hCst8 ?_
 refine h_one (i := 4) (by kernel_rfl) ?_
 refine h_do rfl ?_
 refine r_opcall rfl rfl rfl (run_callfn (vs := [S _]) (cs := []) rfl (by exact rfl) rfl Tryz.func37 rfl (by kernel_rfl)) known1_calls ?_
 rintro e w13 ⟨aoK13, bK13, ofK13, cpK13, rfl, hE13, hrK13⟩
 refine ⟨_, rfl, ?_⟩
 have Q13 := hE13.size
 replace hV := Z0 hV hE13
 replace hCst8 := Z0 hCst8 hE13
 replace B1 := B1.evo0 hE13
 replace hAb1 := hAb1.evo0 hE13
 replace hrK12 := hrK12.evo0 hE13
 refine h_next hCst8 ?_
 refine h_one (i := 5) (by kernel_rfl) ?_
 refine h_do rfl ?_
 refine r_opcall rfl rfl rfl (run_callf (vs := [.agg _, .slice _ _ _, .slice _ _ _]) rfl (by exact rfl) Tryz.func14 rfl (by kernel_rfl)) (run_calls (RowR.nil _ _ 0 0 _) (RowR.nil _ _ 0 0 _) hrK12 hrK13 k_tiny.1 k_tiny.2.1 k_notag.1 k_notag.2.1 (Nat.zero_le _) (fun x hx => absurd hx List.not_mem_nil) (htab.evo0 hV)) ?_
 rintro e w14 ⟨vo14, rfl, hE14, hoo14⟩
 refine ⟨_, rfl, ?_⟩
 have Q14 := hE14.size
 replace hV := Z0 hV hE14
 replace hCst8 := Z0 hCst8 hE14
 replace B1 := B1.evo0 hE14
 replace hAb1 := hAb1.evo0 hE14
 replace hoo14 := own_cast hoo14 k_run
 refine h_next hCst8 ?_
 refine h_take (i := 6) rfl rfl rfl rfl (by kernel_rfl) (fun w' hC => run_asg (v := vo14) rfl rfl) hCst8 ?_
 refine h_done (by kernel_rfl) ?_
 refine r_seq ?_
 have hbb1_q := B1
 have hAb1_q := hAb1
 have hV_q := hV
 refine h_region ([]) (by kernel_rfl) ?_
 intro w15 hE16 hCst9
 have Q15 := hE16.size
 replace hV := Z0 hV hE16
 replace hoo14 := hoo14.evo0 hE16
 refine h_take (i := 0) rfl rfl rfl rfl (by kernel_rfl) (fun w' hC => run_mv (v := vo14) rfl rfl) hCst9 ?_
 refine h_take (i := 1) rfl rfl rfl rfl (by kernel_rfl) (fun w' hC => run_bld (pv := [(0, .int _ _), (1, S _), (2, .int _ _)]) (zs := [_, _, _]) (cells := [_, _, _]) rfl ty_39 rfl pl_39 rfl rfl) hCst9 ?_
 refine h_take (i := 2) rfl rfl rfl rfl (by kernel_rfl) (fun w' hC => run_bld (pv := [(0, .int _ _), (1, S _), (2, .int _ _)]) (zs := [_, _, _]) (cells := [_, _, _]) rfl ty_39 rfl pl_39 rfl rfl) hCst9 ?_
 refine h_one (i := 3) (by kernel_rfl) ?_
 refine h_do rfl ?_
 refine r_bslice (pv := [(0, .agg _), (1, .agg _)]) (zs := [_, _, _]) (cs := [_, _, _, _, _, _]) Tryz.underlying34 ty_39 rfl rfl rfl rfl rfl ?_
 intro b17 w18 J17 E18 B17 Y17
 have Q18 := E18.size
 replace hV := Z0 hV E18
 replace hCst9 := Z0 hCst9 E18
 replace hoo14 := hoo14.evo0 E18
 have hrb17 : RowE w18 (some ⟨b17, 0, none⟩) b17 0 2 kO := rowLit kO B17 rfl rfl
 refine h_next hCst9 ?_
 refine h_one (i := 4) (by kernel_rfl) ?_
 refine h_do rfl ?_
 obtain ⟨ao19, g19, cp19, hv19, hr19, hg19⟩ := hoo14.rowOf
 subst hv19
 refine r_opcall rfl rfl rfl (run_callf (vs := [.slice _ _ _, .slice (some ⟨b17, 0, none⟩) _ _]) rfl (by exact rfl) Tryz.func16 rfl (by kernel_rfl)) (ksame_calls hr19 hrb17) ?_
 rintro e w20 ⟨rfl, hE20⟩
 refine ⟨_, rfl, ?_⟩
 have Q20 := hE20.size
 replace hV := Z0 hV hE20
 replace hCst9 := Z0 hCst9 hE20
 replace hr19 := hr19.evo0 hE20
 refine h_next hCst9 ?_
 refine h_take (i := 5) rfl rfl rfl rfl (by kernel_rfl) (fun w' hC => run_mvb rfl rfl) hCst9 ?_
 refine h_takeY (i := 6) rfl rfl rfl (wantT rfl) rfl rfl rfl (by kernel_rfl) (fun w' hC => run_ldN rfl ag_28 ty_28 rfl rfl (hAb1_q.evo0 hC)) hCst9 ?_
 refine h_takeY (i := 7) rfl rfl rfl (wantT rfl) rfl rfl rfl (by kernel_rfl) (fun w' hC => run_mv (v := .slice _ _ _) rfl rfl) hCst9 ?_
 refine h_one (i := 8) (by kernel_rfl) ?_
 refine h_do rfl ?_
 refine r_gyes rfl (wantT rfl) rfl ?_
 refine r_opcall rfl rfl rfl (run_callf (vs := [.agg _, .slice _ _ _]) rfl (by exact rfl) Tryz.func25 rfl (by kernel_rfl)) (refused_calls hr19 (RowR.nil _ _ 0 0 _) (RowR.nil _ _ 0 0 _)) ?_
 rintro e w21 ⟨rfl, hE21⟩
 refine ⟨_, rfl, ?_⟩
 have Q21 := hE21.size
 replace hV := Z0 hV hE21
 replace hCst9 := Z0 hCst9 hE21
 refine h_next hCst9 ?_
 refine h_take (i := 9) rfl rfl rfl rfl (by kernel_rfl) (fun w' hC => run_pick_andB rfl rfl (fun _ => rfl) rfl) hCst9 ?_
 refine h_take (i := 10) rfl rfl rfl rfl (by kernel_rfl) (fun w' hC => run_mv (v := .bool _) rfl rfl) hCst9 ?_
 refine h_takeY (i := 11) rfl rfl rfl (wantT rfl) (by exact ⟨rfl, k_ref⟩) rfl rfl (by kernel_rfl) (fun w' hC => run_ldN rfl ag_28 ty_28 rfl rfl (hAb1_q.evo0 hC)) hCst9 ?_
 refine h_takeY (i := 12) rfl rfl rfl (wantT rfl) (by exact ⟨rfl, k_ref⟩) rfl rfl (by kernel_rfl) (fun w' hC => run_mv (v := .func _ _ _) rfl rfl) hCst9 ?_
 refine h_takeY (i := 15) rfl rfl rfl (wantT rfl) (by exact ⟨rfl, k_ref⟩) rfl rfl (by kernel_rfl) (fun w' hC => run_bld (pv := [(0, .int _ _)]) (zs := [_, _, _]) (cells := [_, _, _]) rfl ty_39 rfl pl_39 rfl rfl) hCst9 ?_
 refine h_two (i := 13) (j := 16) (by kernel_rfl) ?_ ?_
 ·skip
  refine h_do rfl ?_
  refine r_gyes rfl (wantT rfl) (by exact ⟨rfl, k_ref⟩) ?_
  refine r_opcall rfl rfl rfl (run_callfn (vs := [S _]) (cs := []) rfl (by exact rfl) rfl Tryz.func37 rfl (by kernel_rfl)) known1_calls ?_
  rintro e w22 ⟨aoK22, bK22, ofK22, cpK22, rfl, hE22, hrK22⟩
  refine ⟨_, rfl, ?_⟩
  have Q22 := hE22.size
  replace hV := Z0 hV hE22
  replace hCst9 := Z0 hCst9 hE22
  refine h_next hCst9 ?_
  refine h_two (i := 14) (j := 16) (by kernel_rfl) ?_ ?_
  ·skip
   refine h_do rfl ?_
   refine r_gyes rfl (wantT rfl) (by exact ⟨rfl, k_ref⟩) ?_
   refine r_opcall rfl rfl rfl (run_callf (vs := [.agg _, .slice _ _ _, .slice _ _ _]) rfl (by exact rfl) Tryz.func14 rfl (by kernel_rfl)) (run_calls (RowR.nil _ _ 0 0 _) (RowR.nil _ _ 0 0 _) hrK22 (RowE.nil _ none 0 0 0) k_tiny.2.2.1 k_tiny.2.2.2 k_notag.2.2 (fun x hx => absurd hx List.not_mem_nil) (Nat.zero_le _) (fun x hx => absurd hx List.not_mem_nil) (htab.evo0 hV)) ?_
   rintro e w23 ⟨vo23, rfl, hE23, hoo23⟩
   refine ⟨_, rfl, ?_⟩
   have Q23 := hE23.size
   replace hV := Z0 hV hE23
   replace hCst9 := Z0 hCst9 hE23
   replace hoo23 := own_cast hoo23 k_emp
   refine h_next hCst9 ?_
   refine h_one (i := 16) (by kernel_rfl) ?_
   refine h_do rfl ?_
   refine r_gyes rfl (wantT rfl) (by exact ⟨rfl, k_ref⟩) ?_
   refine r_bslice (pv := [(0, .agg _)]) (zs := [_, _, _]) (cs := [_, _, _]) Tryz.underlying34 ty_39 rfl rfl rfl rfl rfl ?_
   intro b24 w25 J24 E25 B24 Y24
   have Q25 := E25.size
   replace hV := Z0 hV E25
   replace hCst9 := Z0 hCst9 E25
   replace hoo23 := hoo23.evo0 E25
   have hrb24 : RowE w25 (some ⟨b24, 0, none⟩) b24 0 1 ([⟨1, [], 0⟩] : List Vc.Item) := rowLit ([⟨1, [], 0⟩] : List Vc.Item) B24 rfl rfl
   refine h_next hCst9 ?_
   refine h_one (i := 17) (by kernel_rfl) ?_
   refine h_do rfl ?_
   refine r_gyes rfl (wantT rfl) (by exact ⟨rfl, k_ref⟩) ?_
   obtain ⟨ao26, g26, cp26, hv26, hr26, hg26⟩ := hoo23.rowOf
   subst hv26
   refine r_opcall rfl rfl rfl (run_callf (vs := [.slice _ _ _, .slice (some ⟨b24, 0, none⟩) _ _]) rfl (by exact rfl) Tryz.func16 rfl (by kernel_rfl)) (ksame_calls hr26 hrb24) ?_
   rintro e w27 ⟨rfl, hE27⟩
   refine ⟨_, rfl, ?_⟩
   have Q27 := hE27.size
   replace hV := Z0 hV hE27
   replace hCst9 := Z0 hCst9 hE27
   refine h_next hCst9 ?_
   refine h_take (i := 18) rfl rfl rfl rfl (by kernel_rfl) (fun w' hC => run_pick_andB rfl rfl (fun _ => rfl) rfl) hCst9 ?_
   refine h_take (i := 19) rfl rfl rfl rfl (by kernel_rfl) (fun w' hC => run_asg (v := .bool _) rfl rfl) hCst9 ?_
   refine h_done (by kernel_rfl) ?_
   refine r_ret (res1 (v := .bool _) rfl rfl) ?_
   exact ⟨ret_bool (decide_eq_true ⟨⟨rfl, k_ref⟩, rfl⟩), hV⟩
  refine h_do rfl ?_
  refine r_gyes rfl (wantT rfl) (by exact ⟨rfl, k_ref⟩) ?_
  refine r_bslice (pv := [(0, .agg _)]) (zs := [_, _, _]) (cs := [_, _, _]) Tryz.underlying34 ty_39 rfl rfl rfl rfl rfl ?_
  intro b28 w29 J28 E29 B28 Y28
  have Q29 := E29.size
  replace hV := Z0 hV E29
  replace hCst9 := Z0 hCst9 E29
  replace hrK22 := hrK22.evo0 E29
  have hrb28 : RowE w29 (some ⟨b28, 0, none⟩) b28 0 1 ([⟨1, [], 0⟩] : List Vc.Item) := rowLit ([⟨1, [], 0⟩] : List Vc.Item) B28 rfl rfl
  refine h_next hCst9 ?_
  refine h_one (i := 14) (by kernel_rfl) ?_
  refine h_do rfl ?_
  refine r_gyes rfl (wantT rfl) (by exact ⟨rfl, k_ref⟩) ?_
  refine r_opcall rfl rfl rfl (run_callf (vs := [.agg _, .slice _ _ _, .slice _ _ _]) rfl (by exact rfl) Tryz.func14 rfl (by kernel_rfl)) (run_calls (RowR.nil _ _ 0 0 _) (RowR.nil _ _ 0 0 _) hrK22 (RowE.nil _ none 0 0 0) k_tiny.2.2.1 k_tiny.2.2.2 k_notag.2.2 (fun x hx => absurd hx List.not_mem_nil) (Nat.zero_le _) (fun x hx => absurd hx List.not_mem_nil) (htab.evo0 hV)) ?_
  rintro e w30 ⟨vo30, rfl, hE30, hoo30⟩
  refine ⟨_, rfl, ?_⟩
  have Q30 := hE30.size
  replace hV := Z0 hV hE30
  replace hCst9 := Z0 hCst9 hE30
  replace hrb28 := hrb28.evo0 hE30
  replace hoo30 := own_cast hoo30 k_emp
  refine h_next hCst9 ?_
  refine h_one (i := 17) (by kernel_rfl) ?_
  refine h_do rfl ?_
  refine r_gyes rfl (wantT rfl) (by exact ⟨rfl, k_ref⟩) ?_
  obtain ⟨ao31, g31, cp31, hv31, hr31, hg31⟩ := hoo30.rowOf
  subst hv31
  refine r_opcall rfl rfl rfl (run_callf (vs := [.slice _ _ _, .slice (some ⟨b28, 0, none⟩) _ _]) rfl (by exact rfl) Tryz.func16 rfl (by kernel_rfl)) (ksame_calls hr31 hrb28) ?_
  rintro e w32 ⟨rfl, hE32⟩
  refine ⟨_, rfl, ?_⟩
  have Q32 := hE32.size
  replace hV := Z0 hV hE32
  replace hCst9 := Z0 hCst9 hE32
  refine h_next hCst9 ?_
  refine h_take (i := 18) rfl rfl rfl rfl (by kernel_rfl) (fun w' hC => run_pick_andB rfl rfl (fun _ => rfl) rfl) hCst9 ?_
  refine h_take (i := 19) rfl rfl rfl rfl (by kernel_rfl) (fun w' hC => run_asg (v := .bool _) rfl rfl) hCst9 ?_
  refine h_done (by kernel_rfl) ?_
  refine r_ret (res1 (v := .bool _) rfl rfl) ?_
  exact ⟨ret_bool (decide_eq_true ⟨⟨rfl, k_ref⟩, rfl⟩), hV⟩
 refine h_do rfl ?_
 refine r_gyes rfl (wantT rfl) (by exact ⟨rfl, k_ref⟩) ?_
 refine r_bslice (pv := [(0, .agg _)]) (zs := [_, _, _]) (cs := [_, _, _]) Tryz.underlying34 ty_39 rfl rfl rfl rfl rfl ?_
 intro b33 w34 J33 E34 B33 Y33
 have Q34 := E34.size
 replace hV := Z0 hV E34
 replace hCst9 := Z0 hCst9 E34
 have hrb33 : RowE w34 (some ⟨b33, 0, none⟩) b33 0 1 ([⟨1, [], 0⟩] : List Vc.Item) := rowLit ([⟨1, [], 0⟩] : List Vc.Item) B33 rfl rfl
 refine h_next hCst9 ?_
 refine h_one (i := 13) (by kernel_rfl) ?_
 refine h_do rfl ?_
 refine r_gyes rfl (wantT rfl) (by exact ⟨rfl, k_ref⟩) ?_
 refine r_opcall rfl rfl rfl (run_callfn (vs := [S _]) (cs := []) rfl (by exact rfl) rfl Tryz.func37 rfl (by kernel_rfl)) known1_calls ?_
 rintro e w35 ⟨aoK35, bK35, ofK35, cpK35, rfl, hE35, hrK35⟩
 refine ⟨_, rfl, ?_⟩
 have Q35 := hE35.size
 replace hV := Z0 hV hE35
 replace hCst9 := Z0 hCst9 hE35
 replace hrb33 := hrb33.evo0 hE35
 refine h_next hCst9 ?_
 refine h_one (i := 14) (by kernel_rfl) ?_
 refine h_do rfl ?_
 refine r_gyes rfl (wantT rfl) (by exact ⟨rfl, k_ref⟩) ?_
 refine r_opcall rfl rfl rfl (run_callf (vs := [.agg _, .slice _ _ _, .slice _ _ _]) rfl (by exact rfl) Tryz.func14 rfl (by kernel_rfl)) (run_calls (RowR.nil _ _ 0 0 _) (RowR.nil _ _ 0 0 _) hrK35 (RowE.nil _ none 0 0 0) k_tiny.2.2.1 k_tiny.2.2.2 k_notag.2.2 (fun x hx => absurd hx List.not_mem_nil) (Nat.zero_le _) (fun x hx => absurd hx List.not_mem_nil) (htab.evo0 hV)) ?_
 rintro e w36 ⟨vo36, rfl, hE36, hoo36⟩
 refine ⟨_, rfl, ?_⟩
 have Q36 := hE36.size
 replace hV := Z0 hV hE36
 replace hCst9 := Z0 hCst9 hE36
 replace hrb33 := hrb33.evo0 hE36
 replace hoo36 := own_cast hoo36 k_emp
 refine h_next hCst9 ?_
 refine h_one (i := 17) (by kernel_rfl) ?_
 refine h_do rfl ?_
 refine r_gyes rfl (wantT rfl) (by exact ⟨rfl, k_ref⟩) ?_
 obtain ⟨ao37, g37, cp37, hv37, hr37, hg37⟩ := hoo36.rowOf
 subst hv37
 refine r_opcall rfl rfl rfl (run_callf (vs := [.slice _ _ _, .slice (some ⟨b33, 0, none⟩) _ _]) rfl (by exact rfl) Tryz.func16 rfl (by kernel_rfl)) (ksame_calls hr37 hrb33) ?_
 rintro e w38 ⟨rfl, hE38⟩
 refine ⟨_, rfl, ?_⟩
 have Q38 := hE38.size
 replace hV := Z0 hV hE38
 replace hCst9 := Z0 hCst9 hE38
 refine h_next hCst9 ?_
 refine h_take (i := 18) rfl rfl rfl rfl (by kernel_rfl) (fun w' hC => run_pick_andB rfl rfl (fun _ => rfl) rfl) hCst9 ?_
 refine h_take (i := 19) rfl rfl rfl rfl (by kernel_rfl) (fun w' hC => run_asg (v := .bool _) rfl rfl) hCst9 ?_
 refine h_done (by kernel_rfl) ?_
 refine r_ret (res1 (v := .bool _) rfl rfl) ?_
 exact ⟨ret_bool (decide_eq_true ⟨⟨rfl, k_ref⟩, rfl⟩), hV⟩
set_option maxHeartbeats 4000000 in
theorem kvalidates_law {l0 l1 l2 l3 l4 l5 l6 l7 l8 l9 l10 l11 l12 sh lo : Int} {aot : Option Addr} {bt ot capt : Nat} {ts : List TermL} {aoc : Option Addr} {bc oc capc : Nat} {cl : List Clas} {aoa : Option Addr} {ba offa capa : Nat} {a : List Int} {at_ nn : Int} {w0 : World} (hts : RowR w0 aot bt ot capt ts) (hcl : RowR w0 aoc bc oc capc cl) (hjb : ∀ x ∈ ts, JudT x) (ha : RowE w0 aoa ba offa capa a) (htab : Tab w0) :
    Calls Tryz.prog 4 #[.agg #[.int .i64 l0, .int .i64 l1, .int .i64 l2, .int .i64 l3, .int .i64 l4, .int .i64 l5, .int .i64 l6, .int .i64 l7, .int .i64 l8, .int .i64 l9, .int .i64 l10, .int .i64 l11, .int .i64 l12, .int .i64 sh, .int .i64 lo, .slice aot ts.length capt, .slice aoc cl.length capc], .slice aoa a.length capa, .int .i64 at_, .int .i64 nn] w0 fun e w' => e = .returned (.bool true) ∧ Evo w0 w' [] := by
 refine calls_enter (n := 65) Tryz.func4 rfl Tryz.ntmps4 rfl ?_
 have hV : Evo w0 w0 [] := Evo.refl _ _
 have hts0 := hts.keep
 have hbd_hts := hts.bd
 have hcl0 := hcl.keep
 have hbd_hcl := hcl.bd
 have ha0 := keepE ha
 have hbd_ha := ha.bd
 refine Zs ?_
 refine r_box (vs := [_, _, _, _, _, _, _, _, _, _, _, _, _, _, _, _, _]) rfl rfl rfl ?_
 intro b1 w2 J1 E2 B1 Y1
 have Q2 := E2.size
 replace hV := Z0 hV E2
 refine Zn rfl (asB rfl) ?_
 refine r_seq ?_
 refine Zs ?_
 refine Zo rfl (mvS rfl) ?_
 refine r_bslice (pv := [(0, .slice _ _ _)]) (zs := [_]) (cs := [_]) Tryz.underlying65 ty_22 rfl rfl rfl rfl rfl ?_
 intro b3 w4 J3 E4 B3 Y3
 have Q4 := E4.size
 replace hV := Z0 hV E4
 replace ha := ha0 _ hV
 replace B1 := B1.evo0 E4
 have hrb3 : RowR w4 (some ⟨b3, 0, none⟩) b3 0 1 ([a] : List (List Int)) := rowLitR [[_]] ([a] : List (List Int)) B3 rfl (RepL.one (sl_rep ha)) rfl
 refine r_opcall rfl rfl rfl (run_callf (vs := [.slice (some ⟨b3, 0, none⟩) _ _]) rfl (by exact rfl) Tryz.func17 rfl (by kernel_rfl)) (klong_calls hrb3 (by have h1 := hbd_ha; simp; omega)) ?_
 rintro e w5 ⟨rfl, hE5⟩
 refine ⟨_, rfl, ?_⟩
 have Q5 := hE5.size
 replace hV := Z0 hV hE5
 replace B1 := B1.evo0 hE5
 replace hrb3 := hrb3.evo0 hE5
 refine Zo rfl (run_mvb rfl rfl) ?_
 refine r_g rfl (wantF rfl) rfl (fun hg => run_fa rfl rfl fo_28_3) ?_
 refine r_g rfl (wantF rfl) rfl (fun hg => run_ld1 rfl ag_25 (glv rfl (fun h => h) hg) (B1.at.cell 15 rfl)) ?_
 refine r_g rfl (wantF rfl) rfl (fun hg => run_lenSl rfl (glv rfl (fun h => h) hg) Tryz.underlying25) ?_
 refine r_g rfl (wantF rfl) rfl (fun hg => run_fa rfl rfl fo_28_4) ?_
 refine r_g rfl (wantF rfl) rfl (fun hg => run_ld1 rfl ag_26 (glv rfl (fun h => h) hg) (B1.at.cell 16 rfl)) ?_
 refine r_g rfl (wantF rfl) rfl (fun hg => run_lenSl rfl (glv rfl (fun h => h) hg) Tryz.underlying26) ?_
 refine r_g rfl (wantF rfl) rfl (fun hg => run_add rfl (glv rfl (fun h => h) hg) (glv rfl (fun h => h) hg) (by omega) (by omega)) ?_
 refine r_g rfl (wantF rfl) rfl (fun hg => run_gtr rfl (glv rfl (fun h => h) hg) rfl) ?_
 refine Zn rfl (run_pick_or rfl rfl rfl (fun hq => glv rfl (fun h => h) hq)) ?_
 refine r_cond rfl (fun hc6 => ?_) (fun hc6 => ?_)
 ·skip
  refine Zs ?_
  refine r_opcall rfl rfl rfl (run_callf (vs := []) rfl (by exact rfl) Tryz.func15 rfl (by kernel_rfl)) (kknown_calls (htab.evo0 hV)) ?_
  rintro e w7 ⟨rfl, hE7⟩
  refine ⟨_, rfl, ?_⟩
  have Q7 := hE7.size
  replace hV := Z0 hV hE7
  refine Zn rfl (asB rfl) ?_
  refine r_ret (res1 (v := .bool _) rfl rfl) ?_
  exact ⟨rfl, hV⟩
 refine r_skip ?_
 refine Zs ?_
 refine Zo rfl (mvS rfl) ?_
 refine r_opcall rfl rfl rfl (run_callf (vs := [.slice _ _ _]) rfl (by exact rfl) Tryz.func19 rfl (by kernel_rfl)) kfrom_calls ?_
 rintro e w8 ⟨bs8, rfl, hbs8, hE8, hbn8, hbA8⟩
 refine ⟨_, rfl, ?_⟩
 have Q8 := hE8.size
 replace hV := Z0 hV hE8
 replace B1 := B1.evo0 hE8
 replace hrb3 := hrb3.evo0 hE8
 refine r_opcall rfl rfl rfl (run_callf (vs := [.pointer _, .bool _]) rfl (by exact rfl) Tryz.func18 rfl (by kernel_rfl)) (checks_make (N := 0) (rf := true) (show Blk _ _ _ [_, .int .i64 ((0 : Nat) : Int)] from hbn8) (fun w9 h9 => ha0 _ (evo_step1 hV h9 (.inl (by omega)))) (by omega)) ?_
 rintro e w9 ⟨l0_9, l1_9, l2_9, l3_9, l4_9, l5_9, l6_9, l7_9, l8_9, l9_9, l10_9, l11_9, l12_9, sh9, lo9, aot9, bt9, ot9, capt9, ts9, aoc9, bc9, oc9, capc9, cl9, rfl, hE9, hTs90, hCl90, hMC9⟩
 refine ⟨_, rfl, ?_⟩
 have Q9 := hE9.size
 replace hV := Z1 hV hE9 (by first | exact .inl (by omega) | exact .inr (by simp))
 replace B1 := B1.evo hE9 (by simp; omega)
 have hK9 : Evo w9 w9 [] := Evo.refl _ _
 have hTs9 := hTs90.now hK9; have hbd_hTs9 := hTs9.bd
 have hCl9 := hCl90.now hK9; have hbd_hCl9 := hCl9.bd
 have hMCl9 := hMC9.len
 refine r_var (zs := [_, _, _, _, _, _, _, _, _, _, _, _, _, _, _, _, _]) (vs := [_, _, _, _, _, _, _, _, _, _, _, _, _, _, _, _, _]) ty_28 rfl rfl rfl (fun _ => rfl) rfl rfl rfl rfl ?_
 intro b10 w11 J10 E11 B10 Y10
 have Q11 := E11.size
 replace hV := Z0 hV E11
 replace hK9 := Z0 hK9 E11
 replace B1 := B1.evo0 E11
 have hAb10 := B10.at
 refine r_nil ?_
 refine r_seq ?_
 refine r_seq ?_
 have hbb1_q := B1
 have hAb1_q := B1.at
 have hbb10_q := B10
 have hAb10_q := hAb10
 have hV_q := hV
 have hK9_q := hK9
 refine h_region ([]) (by kernel_rfl) ?_
 intro w12 hE13 hCst4
 have Q12 := hE13.size
 replace hV := Z0 hV hE13
 replace hK9 := Z0 hK9 hE13
 replace hts := hts0.now hV
 replace hcl := hcl0.now hV
 replace B1 := B1.evo0 hE13
 replace B10 := B10.evo0 hE13
 replace hAb10 := hAb10.evo0 hE13
 refine h_take (i := 0) rfl rfl rfl rfl (by kernel_rfl) (fun w' hC => run_ldN rfl ag_28 ty_28 rfl rfl (hAb1_q.evo0 hC)) hCst4 ?_
 refine h_take (i := 2) rfl rfl rfl rfl (by kernel_rfl) (fun w' hC => run_ldN rfl ag_28 ty_28 rfl rfl (hAb1_q.evo0 hC)) hCst4 ?_
 refine h_one (i := 1) (by kernel_rfl) ?_
 refine h_do rfl ?_
 refine r_opcall rfl rfl rfl (run_callf (vs := [.agg _]) rfl (by exact rfl) Tryz.func12 rfl (by kernel_rfl)) (kvalidate_calls hts hcl) ?_
 rintro e w14 ⟨rfl, hE14⟩
 refine ⟨_, rfl, ?_⟩
 have Q14 := hE14.size
 replace hV := Z0 hV hE14
 replace hK9 := Z0 hK9 hE14
 replace hCst4 := Z0 hCst4 hE14
 replace hts := hts0.now hV
 replace hcl := hcl0.now hV
 replace B1 := B1.evo0 hE14
 replace B10 := B10.evo0 hE14
 replace hAb10 := hAb10.evo0 hE14
 refine h_next hCst4 ?_
 refine h_one (i := 3) (by kernel_rfl) ?_
 refine h_do rfl ?_
 refine r_opcall rfl rfl rfl (run_callf (vs := [.agg _]) rfl (by exact rfl) Tryz.func13 rfl (by kernel_rfl)) (rkvalidate_calls hts hcl hjb) ?_
 rintro e w15 ⟨rfl, hE15⟩
 refine ⟨_, rfl, ?_⟩
 have Q15 := hE15.size
 replace hV := Z0 hV hE15
 replace hK9 := Z0 hK9 hE15
 replace hCst4 := Z0 hCst4 hE15
 replace B1 := B1.evo0 hE15
 replace hTs9 := hTs90.now hK9
 replace hCl9 := hCl90.now hK9
 replace B10 := B10.evo0 hE15
 replace hAb10 := hAb10.evo0 hE15
 refine h_next hCst4 ?_
 refine h_take (i := 4) rfl rfl rfl rfl (by kernel_rfl) (fun w' hC => run_neq rfl rfl rfl) hCst4 ?_
 refine h_take (i := 5) rfl rfl rfl rfl (by kernel_rfl) (fun w' hC => run_mv (v := .bool _) rfl rfl) hCst4 ?_
 refine h_takeY (i := 6) rfl rfl rfl (wantF rfl) (by exact (fun h => h rfl)) rfl rfl (by kernel_rfl) (fun w' hC => run_ldN rfl ag_28 ty_28 rfl rfl (hAb10_q.evo0 hC)) hCst4 ?_
 refine h_one (i := 7) (by kernel_rfl) ?_
 refine h_do rfl ?_
 refine r_gyes rfl (wantF rfl) (by exact (fun h => h rfl)) ?_
 refine r_opcall rfl rfl rfl (run_callf (vs := [.agg _]) rfl (by exact rfl) Tryz.func12 rfl (by kernel_rfl)) (kvalidate_calls hTs9 hCl9) ?_
 rintro e w16 ⟨rfl, hE16⟩
 refine ⟨_, rfl, ?_⟩
 have Q16 := hE16.size
 replace hV := Z0 hV hE16
 replace hK9 := Z0 hK9 hE16
 replace hCst4 := Z0 hCst4 hE16
 replace hts := hts0.now hV
 replace hcl := hcl0.now hV
 replace ha := ha0 _ hV
 replace B1 := B1.evo0 hE16
 replace hTs9 := hTs90.now hK9
 replace hCl9 := hCl90.now hK9
 replace B10 := B10.evo0 hE16
 replace hAb10 := hAb10.evo0 hE16
 refine h_next hCst4 ?_
 refine h_takeY (i := 8) rfl rfl rfl (wantF rfl) (by exact (fun h => h rfl)) rfl rfl (by kernel_rfl) (fun w' hC => run_neq rfl rfl rfl) hCst4 ?_
 refine h_take (i := 9) rfl rfl rfl rfl (by kernel_rfl) (fun w' hC => run_pick_or rfl rfl rfl (fun _ => rfl)) hCst4 ?_
 refine h_done (by kernel_rfl) ?_
 refine r_cond rfl (fun hc17 => ?_) (fun hc17 => ?_)
 ·skip
  exfalso; exact hc17.elim (fun h => h rfl) (fun h => h (MadeC.valid (by assumption)))
 refine r_skip ?_
 refine r_seq ?_
 refine r_seq ?_
 have hp16 : 0 ≤ at_ % 16 ∧ at_ % 16 < 16 := ⟨Int.emod_nonneg _ (by decide), Int.emod_lt_of_pos _ (by decide)⟩
 refine r_region ?_
 refine Zo rfl (mvI rfl) ?_
 refine r_opcall rfl rfl rfl (run_callf (vs := [.int _ _, .int _ _]) rfl (by exact rfl) Tryz.func11 rfl (by kernel_rfl)) (place_calls _ _ (by omega) (by omega)) ?_
 rintro e w18 ⟨rfl, rfl⟩
 refine ⟨_, rfl, ?_⟩
 refine r_nil ?_
 refine r_block ?_
 refine Zs ?_
 refine Zo rfl (run_eql rfl rfl rfl) ?_
 refine Zn rfl (asB rfl) ?_
 refine r_cond rfl (fun hc19 => ?_) (fun hc19 => ?_)
 ·skip
  refine r_region ?_
  refine Zo rfl (mvI rfl) ?_
  refine Zo rfl (run_fa rfl rfl fo_28_1) ?_
  refine r_store (v := .int _ _) (vs := [_]) (cs' := [_, _, _, _, _, _, _, _, _, _, _, _, _, _, _, _, _]) rfl rfl B10 ty_3 rfl rfl rfl rfl rfl ?_
  intro w20 E20 V20 hb_new
  have Q20 := E20.size
  replace hV := Z1 hV E20 (by first | exact .inl (by omega) | exact .inr (by simp))
  replace hK9 := Z1 hK9 E20 (by first | exact .inl (by omega) | exact .inr (by simp))
  replace B10 := hb_new
  have hAb10 := B10.at
  clear hb_new
  refine r_nil ?_
  refine r_blk ?_
  refine r_seq ?_
  have hbb10_q := B10
  have hAb10_q := hAb10
  have hV_q := hV
  have hK9_q := hK9
  refine h_region ([]) (by kernel_rfl) ?_
  intro w21 hE22 hCst14
  have Q21 := hE22.size
  replace hV := Z0 hV hE22
  replace hK9 := Z0 hK9 hE22
  replace hTs9 := hTs90.now hK9
  replace hCl9 := hCl90.now hK9
  refine h_take (i := 0) rfl rfl rfl rfl (by kernel_rfl) (fun w' hC => run_ldN rfl ag_28 ty_28 rfl rfl (hAb10_q.evo0 hC)) hCst14 ?_
  refine h_take (i := 2) rfl rfl rfl rfl (by kernel_rfl) (fun w' hC => run_ldN rfl ag_28 ty_28 rfl rfl (hAb10_q.evo0 hC)) hCst14 ?_
  refine h_one (i := 1) (by kernel_rfl) ?_
  refine h_do rfl ?_
  refine r_opcall rfl rfl rfl (run_callf (vs := [.agg _]) rfl (by exact rfl) Tryz.func12 rfl (by kernel_rfl)) (kvalidate_calls hTs9 hCl9) ?_
  rintro e w23 ⟨rfl, hE23⟩
  refine ⟨_, rfl, ?_⟩
  have Q23 := hE23.size
  replace hV := Z0 hV hE23
  replace hK9 := Z0 hK9 hE23
  replace hCst14 := Z0 hCst14 hE23
  replace hTs9 := hTs90.now hK9
  replace hCl9 := hCl90.now hK9
  refine h_next hCst14 ?_
  refine h_one (i := 3) (by kernel_rfl) ?_
  refine h_do rfl ?_
  refine r_opcall rfl rfl rfl (run_callf (vs := [.agg _]) rfl (by exact rfl) Tryz.func13 rfl (by kernel_rfl)) (rkvalidate_calls hTs9 hCl9 hMC9.jud) ?_
  rintro e w24 ⟨rfl, hE24⟩
  refine ⟨_, rfl, ?_⟩
  have Q24 := hE24.size
  replace hV := Z0 hV hE24
  replace hCst14 := Z0 hCst14 hE24
  refine h_next hCst14 ?_
  refine h_take (i := 4) rfl rfl rfl rfl (by kernel_rfl) (fun w' hC => run_eql rfl rfl rfl) hCst14 ?_
  refine h_take (i := 5) rfl rfl rfl rfl (by kernel_rfl) (fun w' hC => run_mv (v := .bool _) rfl rfl) hCst14 ?_
  refine h_one (i := 6) (by kernel_rfl) ?_
  refine h_do rfl ?_
  refine r_gyes rfl (wantT rfl) rfl ?_
  refine r_opcall rfl rfl rfl (run_callf (vs := []) rfl (by exact rfl) Tryz.func15 rfl (by kernel_rfl)) (kknown_calls (htab.evo0 hV)) ?_
  rintro e w25 ⟨rfl, hE25⟩
  refine ⟨_, rfl, ?_⟩
  have Q25 := hE25.size
  replace hV := Z0 hV hE25
  replace hCst14 := Z0 hCst14 hE25
  refine h_next hCst14 ?_
  refine h_take (i := 7) rfl rfl rfl rfl (by kernel_rfl) (fun w' hC => run_pick_andB rfl rfl (fun _ => rfl) rfl) hCst14 ?_
  refine h_take (i := 8) rfl rfl rfl rfl (by kernel_rfl) (fun w' hC => run_asg (v := .bool _) rfl rfl) hCst14 ?_
  refine h_done (by kernel_rfl) ?_
  refine r_ret (res1 (v := .bool _) rfl rfl) ?_
  exact ⟨ret_bool (decide_eq_true ⟨rfl, rfl⟩), hV⟩
 refine Zs ?_
 refine Zo rfl (run_eql rfl rfl rfl) ?_
 refine Zn rfl (asB rfl) ?_
 refine r_cond rfl (fun hc26 => ?_) (fun hc26 => ?_)
 ·skip
  refine r_region ?_
  refine Zo rfl (mvI rfl) ?_
  refine Zo rfl (run_fa rfl rfl fo_28_2) ?_
  refine r_store (v := .int _ _) (vs := [_]) (cs' := [_, _, _, _, _, _, _, _, _, _, _, _, _, _, _, _, _]) rfl rfl B10 ty_3 rfl rfl rfl rfl rfl ?_
  intro w27 E27 V27 hb_new
  have Q27 := E27.size
  replace hV := Z1 hV E27 (by first | exact .inl (by omega) | exact .inr (by simp))
  replace hK9 := Z1 hK9 E27 (by first | exact .inl (by omega) | exact .inr (by simp))
  replace B10 := hb_new
  have hAb10 := B10.at
  clear hb_new
  refine r_nil ?_
  refine r_blk ?_
  refine r_seq ?_
  have hbb10_q := B10
  have hAb10_q := hAb10
  have hV_q := hV
  have hK9_q := hK9
  refine h_region ([]) (by kernel_rfl) ?_
  intro w28 hE29 hCst14
  have Q28 := hE29.size
  replace hV := Z0 hV hE29
  replace hK9 := Z0 hK9 hE29
  replace hTs9 := hTs90.now hK9
  replace hCl9 := hCl90.now hK9
  refine h_take (i := 0) rfl rfl rfl rfl (by kernel_rfl) (fun w' hC => run_ldN rfl ag_28 ty_28 rfl rfl (hAb10_q.evo0 hC)) hCst14 ?_
  refine h_take (i := 2) rfl rfl rfl rfl (by kernel_rfl) (fun w' hC => run_ldN rfl ag_28 ty_28 rfl rfl (hAb10_q.evo0 hC)) hCst14 ?_
  refine h_one (i := 1) (by kernel_rfl) ?_
  refine h_do rfl ?_
  refine r_opcall rfl rfl rfl (run_callf (vs := [.agg _]) rfl (by exact rfl) Tryz.func12 rfl (by kernel_rfl)) (kvalidate_calls hTs9 hCl9) ?_
  rintro e w30 ⟨rfl, hE30⟩
  refine ⟨_, rfl, ?_⟩
  have Q30 := hE30.size
  replace hV := Z0 hV hE30
  replace hK9 := Z0 hK9 hE30
  replace hCst14 := Z0 hCst14 hE30
  replace hTs9 := hTs90.now hK9
  replace hCl9 := hCl90.now hK9
  refine h_next hCst14 ?_
  refine h_one (i := 3) (by kernel_rfl) ?_
  refine h_do rfl ?_
  refine r_opcall rfl rfl rfl (run_callf (vs := [.agg _]) rfl (by exact rfl) Tryz.func13 rfl (by kernel_rfl)) (rkvalidate_calls hTs9 hCl9 hMC9.jud) ?_
  rintro e w31 ⟨rfl, hE31⟩
  refine ⟨_, rfl, ?_⟩
  have Q31 := hE31.size
  replace hV := Z0 hV hE31
  replace hCst14 := Z0 hCst14 hE31
  refine h_next hCst14 ?_
  refine h_take (i := 4) rfl rfl rfl rfl (by kernel_rfl) (fun w' hC => run_eql rfl rfl rfl) hCst14 ?_
  refine h_take (i := 5) rfl rfl rfl rfl (by kernel_rfl) (fun w' hC => run_mv (v := .bool _) rfl rfl) hCst14 ?_
  refine h_one (i := 6) (by kernel_rfl) ?_
  refine h_do rfl ?_
  refine r_gyes rfl (wantT rfl) rfl ?_
  refine r_opcall rfl rfl rfl (run_callf (vs := []) rfl (by exact rfl) Tryz.func15 rfl (by kernel_rfl)) (kknown_calls (htab.evo0 hV)) ?_
  rintro e w32 ⟨rfl, hE32⟩
  refine ⟨_, rfl, ?_⟩
  have Q32 := hE32.size
  replace hV := Z0 hV hE32
  replace hCst14 := Z0 hCst14 hE32
  refine h_next hCst14 ?_
  refine h_take (i := 7) rfl rfl rfl rfl (by kernel_rfl) (fun w' hC => run_pick_andB rfl rfl (fun _ => rfl) rfl) hCst14 ?_
  refine h_take (i := 8) rfl rfl rfl rfl (by kernel_rfl) (fun w' hC => run_asg (v := .bool _) rfl rfl) hCst14 ?_
  refine h_done (by kernel_rfl) ?_
  refine r_ret (res1 (v := .bool _) rfl rfl) ?_
  exact ⟨ret_bool (decide_eq_true ⟨rfl, rfl⟩), hV⟩
 refine Zs ?_
 refine Zo rfl (run_eql rfl rfl rfl) ?_
 refine Zn rfl (asB rfl) ?_
 refine r_cond rfl (fun hc33 => ?_) (fun hc33 => ?_)
 ·skip
  refine r_region ?_
  refine Zo rfl (run_fa rfl rfl fo_28_3) ?_
  refine Zo rfl (run_ld1 rfl ag_25 rfl (B1.at.cell 15 rfl)) ?_
  refine Zo rfl (run_fa rfl rfl fo_28_3) ?_
  refine r_store (v := .slice aot ts.length capt) (vs := [_]) (cs' := [_, _, _, _, _, _, _, _, _, _, _, _, _, _, _, _, _]) rfl rfl B10 ty_25 rfl rfl rfl rfl rfl ?_
  intro w34 E34 V34 hb_new
  have Q34 := E34.size
  replace hV := Z1 hV E34 (by first | exact .inl (by omega) | exact .inr (by simp))
  replace hK9 := Z1 hK9 E34 (by first | exact .inl (by omega) | exact .inr (by simp))
  replace B10 := hb_new
  have hAb10 := B10.at
  clear hb_new
  refine r_nil ?_
  refine r_blk ?_
  refine r_seq ?_
  have hbb10_q := B10
  have hAb10_q := hAb10
  have hV_q := hV
  have hK9_q := hK9
  refine h_region ([]) (by kernel_rfl) ?_
  intro w35 hE36 hCst14
  have Q35 := hE36.size
  replace hV := Z0 hV hE36
  replace hK9 := Z0 hK9 hE36
  replace hts := hts0.now hV
  replace hCl9 := hCl90.now hK9
  refine h_take (i := 0) rfl rfl rfl rfl (by kernel_rfl) (fun w' hC => run_ldN rfl ag_28 ty_28 rfl rfl (hAb10_q.evo0 hC)) hCst14 ?_
  refine h_take (i := 2) rfl rfl rfl rfl (by kernel_rfl) (fun w' hC => run_ldN rfl ag_28 ty_28 rfl rfl (hAb10_q.evo0 hC)) hCst14 ?_
  refine h_one (i := 1) (by kernel_rfl) ?_
  refine h_do rfl ?_
  refine r_opcall rfl rfl rfl (run_callf (vs := [.agg _]) rfl (by exact rfl) Tryz.func12 rfl (by kernel_rfl)) (kvalidate_calls hts hCl9) ?_
  rintro e w37 ⟨rfl, hE37⟩
  refine ⟨_, rfl, ?_⟩
  have Q37 := hE37.size
  replace hV := Z0 hV hE37
  replace hK9 := Z0 hK9 hE37
  replace hCst14 := Z0 hCst14 hE37
  replace hts := hts0.now hV
  replace hCl9 := hCl90.now hK9
  refine h_next hCst14 ?_
  refine h_one (i := 3) (by kernel_rfl) ?_
  refine h_do rfl ?_
  refine r_opcall rfl rfl rfl (run_callf (vs := [.agg _]) rfl (by exact rfl) Tryz.func13 rfl (by kernel_rfl)) (rkvalidate_calls hts hCl9 hjb) ?_
  rintro e w38 ⟨rfl, hE38⟩
  refine ⟨_, rfl, ?_⟩
  have Q38 := hE38.size
  replace hV := Z0 hV hE38
  replace hCst14 := Z0 hCst14 hE38
  refine h_next hCst14 ?_
  refine h_take (i := 4) rfl rfl rfl rfl (by kernel_rfl) (fun w' hC => run_eql rfl rfl rfl) hCst14 ?_
  refine h_take (i := 5) rfl rfl rfl rfl (by kernel_rfl) (fun w' hC => run_mv (v := .bool _) rfl rfl) hCst14 ?_
  refine h_one (i := 6) (by kernel_rfl) ?_
  refine h_do rfl ?_
  refine r_gyes rfl (wantT rfl) rfl ?_
  refine r_opcall rfl rfl rfl (run_callf (vs := []) rfl (by exact rfl) Tryz.func15 rfl (by kernel_rfl)) (kknown_calls (htab.evo0 hV)) ?_
  rintro e w39 ⟨rfl, hE39⟩
  refine ⟨_, rfl, ?_⟩
  have Q39 := hE39.size
  replace hV := Z0 hV hE39
  replace hCst14 := Z0 hCst14 hE39
  refine h_next hCst14 ?_
  refine h_take (i := 7) rfl rfl rfl rfl (by kernel_rfl) (fun w' hC => run_pick_andB rfl rfl (fun _ => rfl) rfl) hCst14 ?_
  refine h_take (i := 8) rfl rfl rfl rfl (by kernel_rfl) (fun w' hC => run_asg (v := .bool _) rfl rfl) hCst14 ?_
  refine h_done (by kernel_rfl) ?_
  refine r_ret (res1 (v := .bool _) rfl rfl) ?_
  exact ⟨ret_bool (decide_eq_true ⟨rfl, rfl⟩), hV⟩
 replace B10 : Blk _ _ _ (([l0_9, l1_9, l2_9, l3_9, l4_9, l5_9, l6_9, l7_9, l8_9, l9_9, l10_9, l11_9, l12_9] : List Int).map (Value.int .i64) ++ [.int .i64 sh9, .int .i64 lo9, .slice aot9 ts9.length capt9, .slice aoc9 cl9.length capc9]) := B10; have hAb10 := B10.at
 have hl13 : ([l0_9, l1_9, l2_9, l3_9, l4_9, l5_9, l6_9, l7_9, l8_9, l9_9, l10_9, l11_9, l12_9] : List Int).length = 13 := rfl
 refine r_region ?_
 refine Zo rfl (mvI rfl) ?_
 refine r_opcall rfl rfl rfl (run_callf (vs := [.int _ _, .int _ _]) rfl (by exact rfl) Tryz.func11 rfl (by kernel_rfl)) (place_calls _ _ (by omega) (by omega)) ?_
 rintro e w40 ⟨rfl, rfl⟩
 refine ⟨_, rfl, ?_⟩
 refine Zo rfl (mvI rfl) ?_
 refine Zo rfl (run_fa rfl rfl fo_28_0) ?_
 refine Zo rfl (run_ixP ((at_ % 16).toNat) rfl Tryz.underlying24 ty_3 rfl rfl (by omega) (by omega)) ?_
 refine r_store (v := .int .i64 nn) (vs := [.int .i64 nn]) (cs' := (((([l0_9, l1_9, l2_9, l3_9, l4_9, l5_9, l6_9, l7_9, l8_9, l9_9, l10_9, l11_9, l12_9] : List Int)).set (at_ % 16).toNat (nn)).map (Value.int .i64) ++ [.int .i64 sh9, .int .i64 lo9, .slice aot9 ts9.length capt9, .slice aoc9 cl9.length capc9])) rfl rfl B10 ty_3 rfl rfl rfl (by simp only [Nat.zero_add, Nat.mul_one]; exact lev_fit rfl (by omega)) (by simp only [Nat.zero_add, Nat.mul_one]; exact lev_set (by omega)) ?_
 intro w41 E41 V41 hb_new
 have Q41 := E41.size
 replace hV := Z1 hV E41 (by first | exact .inl (by omega) | exact .inr (by simp))
 replace hK9 := Z1 hK9 E41 (by first | exact .inl (by omega) | exact .inr (by simp))
 replace B10 := hb_new
 have hAb10 := B10.at
 clear hb_new
 have hlz : ((([l0_9, l1_9, l2_9, l3_9, l4_9, l5_9, l6_9, l7_9, l8_9, l9_9, l10_9, l11_9, l12_9] : List Int)).set (at_ % 16).toNat (nn)).length = (([l0_9, l1_9, l2_9, l3_9, l4_9, l5_9, l6_9, l7_9, l8_9, l9_9, l10_9, l11_9, l12_9] : List Int)).length := List.length_set
 refine r_nil ?_
 refine r_blk ?_
 refine r_seq ?_
 obtain ⟨a0, a1, a2, a3, a4, a5, a6, a7, a8, a9, a10, a11, a12, hls⟩ := list13 (l := ([l0_9, l1_9, l2_9, l3_9, l4_9, l5_9, l6_9, l7_9, l8_9, l9_9, l10_9, l11_9, l12_9] : List Int).set (at_ % 16).toNat nn) (by rw [List.length_set]; rfl)
 rw [hls] at B10; replace B10 : Blk _ _ _ [.int .i64 a0, .int .i64 a1, .int .i64 a2, .int .i64 a3, .int .i64 a4, .int .i64 a5, .int .i64 a6, .int .i64 a7, .int .i64 a8, .int .i64 a9, .int .i64 a10, .int .i64 a11, .int .i64 a12, .int .i64 sh9, .int .i64 lo9, .slice aot9 ts9.length capt9, .slice aoc9 cl9.length capc9] := B10; have hAb10 := B10.at
 have hbb10_q := B10
 have hAb10_q := hAb10
 have hV_q := hV
 have hK9_q := hK9
 refine h_region ([]) (by kernel_rfl) ?_
 intro w42 hE43 hCst14
 have Q42 := hE43.size
 replace hV := Z0 hV hE43
 replace hK9 := Z0 hK9 hE43
 replace hTs9 := hTs90.now hK9
 replace hCl9 := hCl90.now hK9
 refine h_take (i := 0) rfl rfl rfl rfl (by kernel_rfl) (fun w' hC => run_ldN rfl ag_28 ty_28 rfl rfl (hAb10_q.evo0 hC)) hCst14 ?_
 refine h_take (i := 2) rfl rfl rfl rfl (by kernel_rfl) (fun w' hC => run_ldN rfl ag_28 ty_28 rfl rfl (hAb10_q.evo0 hC)) hCst14 ?_
 refine h_one (i := 1) (by kernel_rfl) ?_
 refine h_do rfl ?_
 refine r_opcall rfl rfl rfl (run_callf (vs := [.agg _]) rfl (by exact rfl) Tryz.func12 rfl (by kernel_rfl)) (kvalidate_calls hTs9 hCl9) ?_
 rintro e w44 ⟨rfl, hE44⟩
 refine ⟨_, rfl, ?_⟩
 have Q44 := hE44.size
 replace hV := Z0 hV hE44
 replace hK9 := Z0 hK9 hE44
 replace hCst14 := Z0 hCst14 hE44
 replace hTs9 := hTs90.now hK9
 replace hCl9 := hCl90.now hK9
 refine h_next hCst14 ?_
 refine h_one (i := 3) (by kernel_rfl) ?_
 refine h_do rfl ?_
 refine r_opcall rfl rfl rfl (run_callf (vs := [.agg _]) rfl (by exact rfl) Tryz.func13 rfl (by kernel_rfl)) (rkvalidate_calls hTs9 hCl9 hMC9.jud) ?_
 rintro e w45 ⟨rfl, hE45⟩
 refine ⟨_, rfl, ?_⟩
 have Q45 := hE45.size
 replace hV := Z0 hV hE45
 replace hCst14 := Z0 hCst14 hE45
 refine h_next hCst14 ?_
 refine h_take (i := 4) rfl rfl rfl rfl (by kernel_rfl) (fun w' hC => run_eql rfl rfl rfl) hCst14 ?_
 refine h_take (i := 5) rfl rfl rfl rfl (by kernel_rfl) (fun w' hC => run_mv (v := .bool _) rfl rfl) hCst14 ?_
 refine h_one (i := 6) (by kernel_rfl) ?_
 refine h_do rfl ?_
 refine r_gyes rfl (wantT rfl) rfl ?_
 refine r_opcall rfl rfl rfl (run_callf (vs := []) rfl (by exact rfl) Tryz.func15 rfl (by kernel_rfl)) (kknown_calls (htab.evo0 hV)) ?_
 rintro e w46 ⟨rfl, hE46⟩
 refine ⟨_, rfl, ?_⟩
 have Q46 := hE46.size
 replace hV := Z0 hV hE46
 replace hCst14 := Z0 hCst14 hE46
 refine h_next hCst14 ?_
 refine h_take (i := 7) rfl rfl rfl rfl (by kernel_rfl) (fun w' hC => run_pick_andB rfl rfl (fun _ => rfl) rfl) hCst14 ?_
 refine h_take (i := 8) rfl rfl rfl rfl (by kernel_rfl) (fun w' hC => run_asg (v := .bool _) rfl rfl) hCst14 ?_
 refine h_done (by kernel_rfl) ?_
 refine r_ret (res1 (v := .bool _) rfl rfl) ?_
 exact ⟨ret_bool (decide_eq_true ⟨rfl, rfl⟩), hV⟩
end Go.Proofs.YtlfjocbnbceceaaGreatDoor
namespace Go.Vc
open Go Go.RowKit Go.IntWalk Go.Deep
section
variable {P : Program} {H : Type} {enc : TypeId × Value → H} {w : World} {base : Nat} {sp : Nat → Bool} {hd : Bool} {t e : TypeId}
theorem arr_ints {n fuel : Nat} {cs : List Value} {x : DataW H × List MemPlace} (ht : P.underlying t = some (.array n e)) (he : P.underlying e = some (.int .i64)) (hce : P.cellsOf e = 1) (hct : P.cellsOf t = n)
    (h : DataW.trod enc P w base sp hd fuel t cs = some x) : ∃ l : List Int, l.length = n ∧ cs = l.map (Value.int .i64) := by
  obtain ⟨xs, m, _, _, hl, hxl, hf⟩ := DataW.trod_array ht h
  rw [hct] at hl
  refine ⟨cs.map (fun v => match v with | .int _ z => z | _ => 0), by rw [List.length_map]; exact hl, ?_⟩
  refine List.ext_getElem (by simp) (fun i h1 h2 => ?_)
  have h3 := hf i (by omega)
  rw [hce, Nat.mul_one, List.drop_eq_getElem_cons h1] at h3
  simp only [List.take_succ_cons, List.take_zero] at h3
  rw [List.getElem?_eq_getElem (show i < xs.length by omega)] at h3
  obtain ⟨z, e1, _⟩ := DataW.trod_int he h3
  have e2 : cs[i] = .int .i64 z := by simpa using e1
  rw [List.getElem_map, List.getElem_map, e2]
theorem slice_shape {fuel : Nat} {v : Value} {x : DataW H × List MemPlace} (ht : P.underlying t = some (.slice e)) (h : DataW.trod enc P w base sp hd fuel t [v] = some x) : ∃ ao len cap, v = .slice ao len cap := by
  rcases open_slice ht h with ⟨h6, _⟩ | ⟨a, len, cap, _, _, _, _, h6, _⟩
  · simp only [List.cons.injEq, and_true] at h6; exact ⟨_, _, _, h6⟩
  · simp only [List.cons.injEq, and_true] at h6; exact ⟨_, _, _, h6⟩
theorem trod_checks {ta ti t3 t4 e3 e4 : TypeId} {f0 f1 f2 f3 f4 : Field} (ht : P.underlying t = some (.struct #[f0, f1, f2, f3, f4])) (hct : P.cellsOf t = 17)
    (o0 : f0.offset = 0) (y0 : f0.type = ta) (o1 : f1.offset = 13) (y1 : f1.type = ti) (o2 : f2.offset = 14) (y2 : f2.type = ti) (o3 : f3.offset = 15) (y3 : f3.type = t3) (o4 : f4.offset = 16) (y4 : f4.type = t4)
    (ua : P.underlying ta = some (.array 13 ti)) (ca : P.cellsOf ta = 13) (ui : P.underlying ti = some (.int .i64)) (ci : P.cellsOf ti = 1) (u3 : P.underlying t3 = some (.slice e3)) (c3 : P.cellsOf t3 = 1) (u4 : P.underlying t4 = some (.slice e4)) (c4 : P.cellsOf t4 = 1)
    {fuel : Nat} {cs : List Value} {d : DataW H} {pl : List MemPlace} (h : DataW.trod enc P w base sp hd fuel t cs = some (d, pl)) (hw : ∀ m ∈ d.weights P t, m ≤ reachBytes) :
    ∃ l : List Int, ∃ sh lo : Int, ∃ ao3 len3 cap3 ao4 len4 cap4 m d3 p3 d4 p4, l.length = 13 ∧ cs = l.map (Value.int .i64) ++ [.int .i64 sh, .int .i64 lo, .slice ao3 len3 cap3, .slice ao4 len4 cap4] ∧
      DataW.trod enc P w base sp hd m t3 [.slice ao3 len3 cap3] = some (d3, p3) ∧ DataW.trod enc P w base sp hd m t4 [.slice ao4 len4 cap4] = some (d4, p4) ∧ (∀ q ∈ d3.weights P t3, q ≤ reachBytes) ∧ (∀ q ∈ d4.weights P t4, q ≤ reachBytes) ∧ ∃ a b c, d = .agg [a, b, c, d3, d4] := by
  obtain ⟨xs, m, _, hx, hl, hlen, hf⟩ := DataW.trod_struct ht h
  rw [hct] at hl
  match xs, hlen with
  | [z0, z1, z2, (d3, p3), (d4, p4)], _ =>
    have h0 := hf 0 f0 rfl
    have h1 := hf 1 f1 rfl
    have h2 := hf 2 f2 rfl
    have h3 := hf 3 f3 rfl
    have h4 := hf 4 f4 rfl
    rw [o0, y0, ca] at h0
    rw [o1, y1, ci] at h1
    rw [o2, y2, ci] at h2
    rw [o3, y3, c3] at h3
    rw [o4, y4, c4] at h4
    have h0 : DataW.trod enc P w base sp hd m ta (cs.take 13) = some z0 := by simpa using h0
    obtain ⟨l, hll, hl2⟩ := arr_ints ua ui ci ca h0
    have hcs : cs = cs.take 13 ++ cs.drop 13 := (List.take_append_drop 13 cs).symm
    have hd4 : (cs.drop 13).length = 4 := by rw [List.length_drop]; omega
    obtain ⟨v1, v2, v3, v4, hv⟩ : ∃ v1 v2 v3 v4, cs.drop 13 = [v1, v2, v3, v4] := by
      match hq : cs.drop 13, hd4 with
      | [v1, v2, v3, v4], _ => exact ⟨_, _, _, _, rfl⟩
    have e14 : cs.drop 14 = [v2, v3, v4] := by rw [show 14 = 13 + 1 by rfl, ← List.drop_drop, hv]; rfl
    have e15 : cs.drop 15 = [v3, v4] := by rw [show 15 = 13 + 2 by rfl, ← List.drop_drop, hv]; rfl
    have e16 : cs.drop 16 = [v4] := by rw [show 16 = 13 + 3 by rfl, ← List.drop_drop, hv]; rfl
    rw [hv] at h1
    rw [e14] at h2
    rw [e15] at h3
    rw [e16] at h4
    have h3 : DataW.trod enc P w base sp hd m t3 [v3] = some (d3, p3) := by simpa using h3
    have h4 : DataW.trod enc P w base sp hd m t4 [v4] = some (d4, p4) := by simpa using h4
    obtain ⟨sh, e1, _⟩ := DataW.trod_int ui (x := z1) (by simpa using h1)
    obtain ⟨lo, e2, _⟩ := DataW.trod_int ui (x := z2) (by simpa using h2)
    obtain ⟨ao3, len3, cap3, rfl⟩ := slice_shape u3 h3
    obtain ⟨ao4, len4, cap4, rfl⟩ := slice_shape u4 h4
    simp only [List.cons.injEq, and_true] at e1 e2
    subst e1; subst e2
    have hd : d = .agg [z0.1, z1.1, z2.1, d3, d4] := congrArg Prod.fst hx
    refine ⟨l, sh, lo, ao3, len3, cap3, ao4, len4, cap4, m, d3, p3, d4, p4, hll, ?_, h3, h4, fun q hq => hw q ?_, fun q hq => hw q ?_, z0.1, z1.1, z2.1, hd⟩
    · exact hcs.trans (by rw [hl2, hv])
    · rw [hd]; simp [DataW.weights, ht, DataW.weightsEach, y3, y4, hq]
    · rw [hd]; simp [DataW.weights, ht, DataW.weightsEach, y3, y4, hq]
end
end Go.Vc
namespace Go.Proofs.YtlfjocbnbceceaaGreatDoor
open Go Go.RowKit Go.Vc Go.IntWalk Go.Deep
theorem bulk_pos {H : Type} (d : DataW H) : 1 ≤ Rows.uptoBulk d := by
  cases d with
  | lit l => cases l <;> simp [Rows.uptoBulk]
  | _ => simp [Rows.uptoBulk]
theorem bulk_bound {H : Type} {l : List (DataW H)} (hk : Rows.uptoSmall H l = true) : Rows.uptoBulkAll l ≤ 1048576 := of_decide_eq_true hk
theorem bulk_part {H : Type} {d : DataW H} {l : List (DataW H)} (h : d ∈ l) : Rows.uptoBulk d ≤ Rows.uptoBulkAll l := by
  induction l with
  | nil => cases h
  | cons x r ih =>
    simp only [Rows.uptoBulkAll]
    rcases List.mem_cons.1 h with e | e
    · subst e; omega
    · have := ih e; omega
theorem bulk_len {H : Type} (l : List (DataW H)) : l.length ≤ Rows.uptoBulkAll l := by
  induction l with
  | nil => exact Nat.le_refl _
  | cons x r ih => simp only [Rows.uptoBulkAll, List.length_cons]; have := bulk_pos x; omega
theorem bulk_slice {H : Type} {D : Nat → DataW H} {D2 : List (DataW H)} {len i : Nat} (hi : i < len) : Rows.uptoBulk (D i) ≤ Rows.uptoBulk (.slice ((List.range len).map D) D2) := by
  have h1 := bulk_part (d := D i) (l := (List.range len).map D) (List.mem_map.2 ⟨i, List.mem_range.2 hi, rfl⟩)
  simp only [Rows.uptoBulk]; omega
theorem bulk_slen {H : Type} {D : Nat → DataW H} {D2 : List (DataW H)} {len : Nat} : len ≤ Rows.uptoBulk (.slice ((List.range len).map D) D2) := by
  have h1 := bulk_len ((List.range len).map D)
  simp only [List.length_map, List.length_range] at h1
  simp only [Rows.uptoBulk]; omega
section
variable {P : Program} {H : Type} {enc : TypeId × Value → H} {w : World} {base : Nat} {sp : Nat → Bool} {hd : Bool} {t e : TypeId}
theorem openEBQ {α : Type} [Enc α] {Q : Nat → α → Prop} (mono : ∀ {B B' : Nat} {x : α}, B ≤ B' → Q B x → Q B' x) (hu : P.underlying t = some (.slice e)) (hc : P.cellsOf e = Enc.n α) (hb : 1 ≤ P.bytesOf e)
    (hel : ∀ (n : Nat) (cs : List Value) (d : DataW H) (pl : List MemPlace), DataW.trod enc P w base sp hd n e cs = some (d, pl) → ∃ x : α, cs = Enc.enc x ∧ Q (Rows.uptoBulk d) x)
    {fuel : Nat} {ao : Option Addr} {len cap : Nat} {d : DataW H} {pl : List MemPlace}
    (h : DataW.trod enc P w base sp hd fuel t [.slice ao len cap] = some (d, pl)) (hw : ∀ m ∈ d.weights P t, m ≤ reachBytes) : ∃ b off, ∃ l : List α, len = l.length ∧ RowE w ao b off cap l ∧ l.length ≤ Rows.uptoBulk d ∧ ∀ x ∈ l, Q (Rows.uptoBulk d) x := by
  rcases open_slice hu h with ⟨h1, _⟩ | ⟨a, len', cap', m, n, D, Pl, h1, _, hl, _, hm, hx, hall⟩
  · simp only [List.cons.injEq, Value.slice.injEq, and_true] at h1
    obtain ⟨rfl, rfl, rfl⟩ := h1
    exact ⟨0, 0, [], rfl, RowE.nil _ _ _ _ _, Nat.zero_le _, fun x hx => by cases hx⟩
  · simp only [List.cons.injEq, Value.slice.injEq, and_true] at h1
    obtain ⟨rfl, rfl, rfl⟩ := h1
    have hlm : len ≤ m := by rw [hm]; split <;> omega
    have hd2 : d = _ := congrArg Prod.fst hx
    have ha : 0 < len → a = ⟨a.block, a.off, none⟩ := fun h0 => by
      obtain ⟨cs, h2, _⟩ := hall 0 (by omega)
      rw [Nat.zero_mul, show a.add 0 = a by unfold Addr.add; rw [if_pos rfl], hc] at h2
      exact (at_of_cells h2 (Enc.pos (α := α))).1
    have hex : ∀ i, i < len → ∃ x : α, At w a.block (a.off + i * Enc.n α) (Enc.enc x) ∧ Q (Rows.uptoBulk (D i)) x := fun i hi => by
      obtain ⟨cs, h2, h3⟩ := hall i (by omega)
      obtain ⟨x, hx2, hq⟩ := hel n cs _ _ h3
      rw [hc, ha (by omega), add_lit] at h2
      exact ⟨x, by rw [← hx2]; exact (at_of_cells h2 (Enc.pos (α := α))).2, hq⟩
    have hbd : len ≤ 140737488355328 := by
      have h3 := hw ((((List.range len).map D).length + ((List.range (m - len)).map fun j => D (len + j)).length) * P.bytesOf e) (by rw [hd2]; simp [DataW.weights, hu])
      simp only [List.length_map, List.length_range] at h3
      have h4 : len * 1 ≤ (len + (m - len)) * P.bytesOf e := Nat.mul_le_mul (by omega) hb
      have h5 := reachBytes_lt
      omega
    by_cases h0 : len = 0
    · subst h0; exact ⟨0, 0, [], rfl, ⟨by simp, by simp, by simp⟩, Nat.zero_le _, fun x hx => by cases hx⟩
    · obtain ⟨x0, _⟩ := hex 0 (by omega)
      obtain ⟨f, hf⟩ : ∃ f : Nat → α, ∀ i, i < len → At w a.block (a.off + i * Enc.n α) (Enc.enc (f i)) ∧ Q (Rows.uptoBulk (D i)) (f i) := by
        classical
        exact ⟨fun i => if hi : i < len then Classical.choose (hex i hi) else x0, fun i hi => by simp only [dif_pos hi]; exact Classical.choose_spec (hex i hi)⟩
      refine ⟨a.block, a.off, (List.range len).map f, by simp, ⟨by simp; omega, fun _ => congrArg some (ha (by omega)), fun i cs hi => ?_⟩, ?_, fun x hx => ?_⟩
      · have hil : i < len := by
          rcases Nat.lt_or_ge i len with h6 | h6
          · exact h6
          · rw [List.getElem?_eq_none (by simpa using h6)] at hi; cases hi
        simp [hil] at hi
        subst hi
        exact ⟨Enc.len _, (hf i hil).1⟩
      · rw [hd2, List.length_map, List.length_range]; exact bulk_slen
      · obtain ⟨i, hi, rfl⟩ := List.mem_map.1 hx
        have hil := List.mem_range.1 hi
        rw [hd2]; exact mono (bulk_slice hil) (hf i hil).2
theorem openRB {α : Type} [Rep α] {Q : Nat → α → Prop} (mono : ∀ {B B' : Nat} {x : α}, B ≤ B' → Q B x → Q B' x) (hu : P.underlying t = some (.slice e)) (hc : P.cellsOf e = Rep.n α) (hb : 1 ≤ P.bytesOf e)
    (hel : ∀ (n : Nat) (cs : List Value) (d : DataW H) (pl : List MemPlace), DataW.trod enc P w base sp hd n e cs = some (d, pl) → (∀ m ∈ d.weights P e, m ≤ reachBytes) → ∃ x : α, Rep.rep w cs x ∧ Q (Rows.uptoBulk d) x)
    {fuel : Nat} {ao : Option Addr} {len cap : Nat} {d : DataW H} {pl : List MemPlace}
    (h : DataW.trod enc P w base sp hd fuel t [.slice ao len cap] = some (d, pl)) (hw : ∀ m ∈ d.weights P t, m ≤ reachBytes) : ∃ b off, ∃ l : List α, len = l.length ∧ RowR w ao b off cap l ∧ l.length ≤ Rows.uptoBulk d ∧ ∀ x ∈ l, Q (Rows.uptoBulk d) x := by
  rcases open_slice hu h with ⟨h1, _⟩ | ⟨a, len', cap', m, n, D, Pl, h1, _, hl, _, hm, hx, hall⟩
  · simp only [List.cons.injEq, Value.slice.injEq, and_true] at h1
    obtain ⟨rfl, rfl, rfl⟩ := h1
    exact ⟨0, 0, [], rfl, RowR.nil _ _ _ _ _, Nat.zero_le _, fun x hx => by cases hx⟩
  · simp only [List.cons.injEq, Value.slice.injEq, and_true] at h1
    obtain ⟨rfl, rfl, rfl⟩ := h1
    have hlm : len ≤ m := by rw [hm]; split <;> omega
    have hd2 : d = _ := congrArg Prod.fst hx
    have ha : 0 < len → a = ⟨a.block, a.off, none⟩ := fun h0 => by
      obtain ⟨cs, h2, _⟩ := hall 0 (by omega)
      rw [Nat.zero_mul, show a.add 0 = a by unfold Addr.add; rw [if_pos rfl], hc] at h2
      exact (at_of_cells h2 (Rep.pos (α := α))).1
    have hex : ∀ i, i < len → ∃ y : List Value × α, At w a.block (a.off + i * Rep.n α) y.1 ∧ Rep.rep w y.1 y.2 ∧ Q (Rows.uptoBulk (D i)) y.2 := fun i hi => by
      obtain ⟨cs, h2, h3⟩ := hall i (by omega)
      obtain ⟨x, hx2, hq⟩ := hel n cs _ _ h3 (fun q hq => hw q (by
        rw [hd2]
        simp only [DataW.weights, hu, List.mem_cons, List.mem_append]
        exact .inr (.inl (weights_elem (List.mem_map.2 ⟨i, List.mem_range.2 hi, rfl⟩) hq))))
      rw [hc, ha (by omega), add_lit] at h2
      exact ⟨(cs, x), (at_of_cells h2 (Rep.pos (α := α))).2, hx2, hq⟩
    have hbd : len ≤ 140737488355328 := by
      have h3 := hw ((((List.range len).map D).length + ((List.range (m - len)).map fun j => D (len + j)).length) * P.bytesOf e) (by rw [hd2]; simp [DataW.weights, hu])
      simp only [List.length_map, List.length_range] at h3
      have h4 : len * 1 ≤ (len + (m - len)) * P.bytesOf e := Nat.mul_le_mul (by omega) hb
      have h5 := reachBytes_lt
      omega
    by_cases h0 : len = 0
    · subst h0; exact ⟨0, 0, [], rfl, RowR.nil _ _ _ _ _, Nat.zero_le _, fun x hx => by cases hx⟩
    · obtain ⟨y0, _⟩ := hex 0 (by omega)
      obtain ⟨f, hf⟩ : ∃ f : Nat → List Value × α, ∀ i, i < len → At w a.block (a.off + i * Rep.n α) (f i).1 ∧ Rep.rep w (f i).1 (f i).2 ∧ Q (Rows.uptoBulk (D i)) (f i).2 := by
        classical
        exact ⟨fun i => if hi : i < len then Classical.choose (hex i hi) else y0, fun i hi => by simp only [dif_pos hi]; exact Classical.choose_spec (hex i hi)⟩
      have hgl : ∀ (i : Nat) {β : Type} (g : Nat → β) (z : β), ((List.range len).map g)[i]? = some z → i < len ∧ g i = z := by
        intro i β g z hz
        have hil : i < len := by
          rcases Nat.lt_or_ge i len with h6 | h6
          · exact h6
          · rw [List.getElem?_eq_none (by simpa using h6)] at hz; cases hz
        simp [hil] at hz
        exact ⟨hil, hz⟩
      refine ⟨a.block, a.off, (List.range len).map (fun i => (f i).2), by simp, ⟨(List.range len).map (fun i => (f i).1), ⟨by simp; omega, fun _ => congrArg some (ha (by omega)), fun i cs hi => ?_⟩, by simp, fun i cs x h1 h2 => ?_⟩, ?_, fun x hx => ?_⟩
      · obtain ⟨hil, rfl⟩ := hgl i _ _ hi
        exact ⟨Rep.len (hf i hil).2.1, (hf i hil).1⟩
      · obtain ⟨hil, rfl⟩ := hgl i _ _ h1
        obtain ⟨_, rfl⟩ := hgl i _ _ h2
        exact (hf i hil).2.1
      · rw [hd2, List.length_map, List.length_range]; exact bulk_slen
      · obtain ⟨i, hi, rfl⟩ := List.mem_map.1 hx
        have hil := List.mem_range.1 hi
        rw [hd2]; exact mono (bulk_slice hil) (hf i hil).2.2
end
def QT (B : Nat) (x : TermL) : Prop := (x.words.length ≤ B ∧ x.req.length ≤ B ∧ x.forb.length ≤ B) ∧ (∀ s ∈ x.req, s.length ≤ B) ∧ ∀ s ∈ x.forb, s.length ≤ B
theorem QT_mono {B B' : Nat} {x : TermL} (h : B ≤ B') (q : QT B x) : QT B' x :=
  ⟨⟨Nat.le_trans q.1.1 h, Nat.le_trans q.1.2.1 h, Nat.le_trans q.1.2.2 h⟩, fun s hs => Nat.le_trans (q.2.1 s hs) h, fun s hs => Nat.le_trans (q.2.2 s hs) h⟩
theorem QT_jud {B : Nat} {x : TermL} (q : QT B x) (h : B ≤ 1048576) : JudT x :=
  ⟨Nat.le_trans q.1.2.1 h, Nat.le_trans q.1.2.2 h, fun s hs => Nat.le_trans (q.2.1 s hs) (by omega), fun s hs => Nat.le_trans (q.2.2 s hs) (by omega)⟩
theorem elem_termB {P : Program} {e se ss : TypeId} {f0 f1 f2 g0 g1 : Field} (ht : P.underlying e = some (.struct #[f0, f1, f2])) (h2 : P.cellsOf e = 3) (o0 : f0.offset = 0) (c0 : P.cellsOf f0.type = 1) (o1 : f1.offset = 1) (c1 : P.cellsOf f1.type = 1) (o2 : f2.offset = 2) (c2 : P.cellsOf f2.type = 1)
    (u0 : P.underlying f0.type = some (.slice se)) (u1 : P.underlying f1.type = some (.slice ss)) (u2 : P.underlying f2.type = some (.slice ss)) (cs0 : P.cellsOf se = 2) (bs0 : P.bytesOf se = 32) (cs1 : P.cellsOf ss = 1) (bs1 : P.bytesOf ss = 16) (us : P.underlying ss = some .string)
    (ht2 : P.underlying se = some (.struct #[g0, g1])) (p2 : g0.offset = 0) (d2 : P.cellsOf g0.type = 1) (p3 : g1.offset = 1) (d3 : P.cellsOf g1.type = 1) (v2 : P.underlying g0.type = some .string) (v3 : P.underlying g1.type = some .string)
    {H : Type} {enc : TypeId × Value → H} {w : World} {base : Nat} {sp : Nat → Bool} {hd : Bool} {n : Nat} {cs : List Value} {d : DataW H} {pl : List MemPlace} (h : DataW.trod enc P w base sp hd n e cs = some (d, pl)) (hw : ∀ m ∈ d.weights P e, m ≤ reachBytes) :
    ∃ x : TermL, Rep.rep w cs x ∧ QT (Rows.uptoBulk d) x := by
  obtain ⟨y0, y1, y2, m, hx, hl, h3, h4, h5⟩ := Go.Deep.trod_struct3 ht h
  rw [o0, c0] at h3
  rw [o1, c1] at h4
  rw [o2, c2] at h5
  rw [h2] at hl
  have hd2 : d = .agg [y0.1, y1.1, y2.1] := congrArg Prod.fst hx
  have hw0 : ∀ q ∈ y0.1.weights P f0.type, q ≤ reachBytes := fun q hq => hw q (by rw [hd2]; simp [DataW.weights, ht, DataW.weightsEach, hq])
  have hw1 : ∀ q ∈ y1.1.weights P f1.type, q ≤ reachBytes := fun q hq => hw q (by rw [hd2]; simp [DataW.weights, ht, DataW.weightsEach, hq])
  have hw2 : ∀ q ∈ y2.1.weights P f2.type, q ≤ reachBytes := fun q hq => hw q (by rw [hd2]; simp [DataW.weights, ht, DataW.weightsEach, hq])
  have hB : Rows.uptoBulk y0.1 ≤ Rows.uptoBulk d ∧ Rows.uptoBulk y1.1 ≤ Rows.uptoBulk d ∧ Rows.uptoBulk y2.1 ≤ Rows.uptoBulk d := by
    rw [hd2]; simp only [Rows.uptoBulk, Rows.uptoBulkAll]; omega
  have strs : ∀ (f : Field) (u : Value) (y : DataW H × List MemPlace), P.underlying f.type = some (.slice ss) → DataW.trod enc P w base sp hd m f.type [u] = some y → (∀ q ∈ y.1.weights P f.type, q ≤ reachBytes) →
      ∃ ao b off cap, ∃ l : List Str, u = .slice ao l.length cap ∧ RowE w ao b off cap l ∧ l.length ≤ Rows.uptoBulk y.1 ∧ ∀ s ∈ l, s.length ≤ Rows.uptoBulk y.1 := fun f u y uf hy hwf => by
    rcases open_slice uf hy with ⟨h6, _⟩ | ⟨a, len, cap, _, _, _, _, h6, _⟩
    · simp only [List.cons.injEq, and_true] at h6
      subst h6
      exact ⟨none, 0, 0, 0, [], rfl, RowE.nil _ _ _ _ _, Nat.zero_le _, fun s hs => absurd hs List.not_mem_nil⟩
    · simp only [List.cons.injEq, and_true] at h6
      subst h6
      obtain ⟨b, off, l, rfl, hr, hq⟩ := openEBQ (α := Str) (Q := fun B s => s.length ≤ B) (fun h h9 => Nat.le_trans h9 h) uf cs1 (by omega) (fun n cs d pl h => by
        obtain ⟨s, e1, e2, _⟩ := DataW.trod_string us h
        have hy0 : d = .lit (.string s.data.toList) := congrArg Prod.fst e2
        exact ⟨s.data.toList, by rw [e1]; cases s; rfl, by rw [hy0]; simp only [Rows.uptoBulk]; omega⟩) (d := y.1) (pl := y.2) hy hwf
      exact ⟨_, b, off, cap, l, rfl, hr, hq⟩
  match cs, hl with
  | [u, v, z], _ =>
    simp only [List.drop_succ_cons, List.drop_zero, List.take_succ_cons, List.take_zero] at h3 h4 h5
    obtain ⟨ao1, b1, off1, cap1, l1, rfl, hr1, hn1, hq1⟩ := strs f1 v y1 u1 h4 hw1
    obtain ⟨ao2, b2, off2, cap2, l2, rfl, hr2, hn2, hq2⟩ := strs f2 z y2 u2 h5 hw2
    have hQ1 : ∀ s ∈ l1, s.length ≤ Rows.uptoBulk d := fun s hs => Nat.le_trans (hq1 s hs) hB.2.1
    have hQ2 : ∀ s ∈ l2, s.length ≤ Rows.uptoBulk d := fun s hs => Nat.le_trans (hq2 s hs) hB.2.2
    rcases open_slice u0 h3 with ⟨h6, _⟩ | ⟨a, len, cap, _, _, _, _, h6, _⟩
    · simp only [List.cons.injEq, and_true] at h6
      subst h6
      exact ⟨⟨[], l1, l2⟩, ⟨⟨none, 0, 0, 0, _, b1, off1, cap1, _, b2, off2, cap2, rfl, RowE.nil _ _ _ _ _, hr1, hr2⟩, Nat.zero_le _, fun y hy => absurd hy List.not_mem_nil⟩, ⟨Nat.zero_le _, Nat.le_trans hn1 hB.2.1, Nat.le_trans hn2 hB.2.2⟩, hQ1, hQ2⟩
    · simp only [List.cons.injEq, and_true] at h6
      subst h6
      have h8 : reachBytes = 140737488351232 := rfl
      have hln := open_len u0 (d := y0.1) (pl := y0.2) (by simpa using h3) hw0
      rw [bs0] at hln
      obtain ⟨b, off, l, rfl, hr, hq⟩ := openEQ (α := Ende) u0 cs0 (by omega) (fun n cs d pl h hw => elem_ende ht2 cs0 p2 d2 p3 d3 v2 v3 h hw) (d := y0.1) (pl := y0.2) (by simpa using h3) hw0
      obtain ⟨_, _, l', hl', _, hn', _⟩ := openEBQ (enc := enc) (w := w) (base := base) (sp := sp) (hd := hd) (α := Ende) (Q := fun _ _ => True) (fun _ _ => trivial) u0 cs0 (by omega) (fun n cs d pl h => by
        obtain ⟨a9, b9, m9, _, hl9, h39, h49⟩ := ChangeShapes.trod_struct2 ht2 h
        rw [p2, d2] at h39
        rw [p3, d3] at h49
        rw [cs0] at hl9
        match cs, hl9 with
        | [va, vb], _ =>
          obtain ⟨s1, e1, _, _⟩ := DataW.trod_string v2 (by simpa using h39)
          obtain ⟨s2, e2, _, _⟩ := DataW.trod_string v3 (by simpa using h49)
          simp only [List.cons.injEq, and_true] at e1 e2
          subst e1; subst e2
          exact ⟨⟨s1.data.toList, s2.data.toList⟩, by cases s1; cases s2; rfl, trivial⟩) (d := y0.1) (pl := y0.2) (by simpa using h3) hw0
      exact ⟨⟨l, l1, l2⟩, ⟨⟨_, b, off, cap, _, b1, off1, cap1, _, b2, off2, cap2, rfl, hr, hr1, hr2⟩, by show l.length ≤ _; omega, hq⟩, ⟨by show l.length ≤ _; omega, Nat.le_trans hn1 hB.2.1, Nat.le_trans hn2 hB.2.2⟩, hQ1, hQ2⟩
end Go.Proofs.YtlfjocbnbceceaaGreatDoor
