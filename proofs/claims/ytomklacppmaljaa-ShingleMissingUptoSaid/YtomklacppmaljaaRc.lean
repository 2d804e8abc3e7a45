/-
  Walks of functions that the statement reaches (joined by a program out of smaller texts).
-/
import Derived.Test.YtomklacppmaljaaRb
import Derived.Test.YtomklacppmaljaaSg
import Derived.Test.YtomklacppmaljaaSfg
import Derived.Test.YtomklacppmaljaaPmp
import Derived.Test.YtomklacppmaljaaSq
namespace Go.Proofs.Ytomklacppmaljaa
open Go.RowKit Go.Vc
theorem fo_72_0 : fieldP Try.prog 72 0 = some 0 := by kernel_rfl
theorem fo_72_1 : fieldP Try.prog 72 1 = some 1 := by kernel_rfl
theorem cmpS_gt {s t : Str} (h : ¬ blt s t = true) (h2 : ¬ (blt s t || s == t) = true) : cmpS s t = 1 := by
  have h1 : ¬ s < t := fun q => h ((slt_iff _ _).2 q)
  have h3 : ¬ s = t := fun q => h2 (by simp [q])
  unfold cmpS
  rw [if_neg h1]
  by_cases h4 : t < s
  · rw [if_pos h4]
  · exact absurd (slt_tri h1 h4) h3
theorem or_at {p q : Int} {k : Nat} (hk : k < 2) (hno : ∀ j, j < k → ([p, q] : List Int).getD j default = 0) (hc : ¬ ([p, q] : List Int).getD k default = 0) : ([p, q] : List Int).getD k default = orI p q := by
  unfold orI
  match k, hk with
  | 0, _ => exact (if_pos hc).symm
  | 1, _ => have h0 : p = 0 := hno 0 (by omega)
            rw [if_neg (by simpa using h0)]; rfl
theorem or_none {p q : Int} (hno : ∀ j, j < 2 → ([p, q] : List Int).getD j default = 0) : (0 : Int) = orI p q := by
  have h0 : p = 0 := hno 0 (by omega)
  have h1 : q = 0 := hno 1 (by omega)
  unfold orI; rw [if_neg (by simpa using h0), h1]
theorem cmpS_eq {s t : Str} (h : ¬ blt s t = true) (h2 : ¬ ¬ (blt s t || s == t) = true) : cmpS s t = 0 := by
  have h3 : s = t := by
    simpa [h] using h2
  exact cmpS_zero.2 h3

theorem isnan_calls {s : Str} {w0 : World}  :
    Calls Try.prog 130 #[S s] w0 fun e w' => e = .returned (.bool false) ∧ w0 = w' := by
 refine calls_enter (n := 6) (args := [S s]) Try.func130 rfl Try.ntmps130 rfl ?_
 have hV : Evo w0 w0 [] := Evo.refl _ _
 refine r_seq ?_
 refine r_region ?_
 refine r_op rfl rfl rfl (run_asg (v := .bool _) rfl (by exact rfl)) ?_
 refine r_nil ?_
 refine r_seq ?_
 refine r_region ?_
 refine r_op rfl rfl rfl (run_mv (v := S _) rfl (by exact rfl)) ?_
 refine r_op rfl rfl rfl (run_mv (v := S _) rfl (by exact rfl)) ?_
 refine r_op rfl rfl rfl (run_sneq rfl (by exact rfl) (by exact rfl)) ?_
 refine r_op rfl rfl rfl (run_asg (v := .bool _) rfl (by exact rfl)) ?_
 refine r_nil ?_
 refine r_ret (res1 (v := .bool _) rfl (by exact rfl)) ?_
 exact ⟨ret_bool (by simp), rfl⟩

theorem cmps_calls {s t : Str} {w0 : World}  :
    Calls Try.prog 93 #[S s, S t] w0 fun e w' => e = .returned (.int .i64 (cmpS s t)) ∧ w0 = w' := by
 refine calls_enter (n := 20) (args := [S s, S t]) Try.func93 rfl Try.ntmps93 rfl ?_
 have hV : Evo w0 w0 [] := Evo.refl _ _
 refine r_seq ?_
 refine r_region ?_
 refine r_op rfl rfl rfl (run_asg (v := .int _ _) rfl (by exact rfl)) ?_
 refine r_nil ?_
 refine r_seq ?_
 refine r_region ?_
 refine r_op rfl rfl rfl (run_mv (v := S _) rfl (by exact rfl)) ?_
 refine r_opcall rfl rfl rfl (run_callf (vs := [S _]) rfl (by exact rfl) Try.func130 rfl (by kernel_rfl)) isnan_calls ?_
 rintro e w1 ⟨rfl, rfl⟩
 refine ⟨_, rfl, ?_⟩
 refine r_op rfl rfl rfl (run_asg (v := .bool _) rfl (by exact rfl)) ?_
 refine r_nil ?_
 refine r_seq ?_
 refine r_region ?_
 refine r_op rfl rfl rfl (run_mv (v := S _) rfl (by exact rfl)) ?_
 refine r_opcall rfl rfl rfl (run_callf (vs := [S _]) rfl (by exact rfl) Try.func130 rfl (by kernel_rfl)) isnan_calls ?_
 rintro e w2 ⟨rfl, rfl⟩
 refine ⟨_, rfl, ?_⟩
 refine r_op rfl rfl rfl (run_asg (v := .bool _) rfl (by exact rfl)) ?_
 refine r_nil ?_
 refine r_seq ?_
 refine r_seq ?_
 refine r_region ?_
 refine r_op rfl rfl rfl (run_mv (v := .bool _) rfl (by exact rfl)) ?_
 refine r_nil ?_
 refine r_cond_no (by exact rfl) ?_
 refine r_skip ?_
 refine r_seq ?_
 refine r_seq ?_
 refine r_region ?_
 refine r_op rfl rfl rfl (run_mv (v := .bool _) rfl (by exact rfl)) ?_
 refine r_nil ?_
 refine r_cond_no (by exact rfl) ?_
 refine r_skip ?_
 refine r_seq ?_
 refine r_seq ?_
 refine r_region ?_
 refine r_op rfl rfl rfl (run_mv (v := S _) rfl (by exact rfl)) ?_
 refine r_op rfl rfl rfl (run_mv (v := S _) rfl (by exact rfl)) ?_
 refine r_op rfl rfl rfl (run_slssD rfl (by exact rfl) (by exact rfl)) ?_
 refine r_nil ?_
 refine r_cond (by exact rfl) (fun hc3 => ?_) (fun hc3 => ?_)
 ·skip
  refine r_seq ?_
  refine r_region ?_
  refine r_op rfl rfl rfl (run_asg (v := .int _ _) rfl (by exact rfl)) ?_
  refine r_nil ?_
  refine r_ret (res1 (v := .int _ _) rfl (by exact rfl)) ?_
  exact ⟨ret_int (by unfold cmpS; rw [if_pos ((slt_iff _ _).1 hc3)]), rfl⟩
 ·skip
  refine r_skip ?_
  refine r_seq ?_
  refine r_seq ?_
  have hc1 := hc3
  refine r_region ?_
  refine r_op rfl rfl rfl (run_mv (v := S _) rfl (by exact rfl)) ?_
  refine r_op rfl rfl rfl (run_mv (v := S _) rfl (by exact rfl)) ?_
  refine r_op rfl rfl rfl (run_sgtrD rfl (by exact rfl) (by exact rfl)) ?_
  refine r_nil ?_
  refine r_cond (by exact rfl) (fun hc4 => ?_) (fun hc4 => ?_)
  ·skip
   refine r_seq ?_
   refine r_region ?_
   refine r_op rfl rfl rfl (run_asg (v := .int _ _) rfl (by exact rfl)) ?_
   refine r_nil ?_
   refine r_ret (res1 (v := .int _ _) rfl (by exact rfl)) ?_
   exact ⟨ret_int (cmpS_gt hc1 hc4).symm, rfl⟩
  ·skip
   refine r_skip ?_
   refine r_seq ?_
   refine r_region ?_
   refine r_op rfl rfl rfl (run_asg (v := .int _ _) rfl (by exact rfl)) ?_
   refine r_nil ?_
   refine r_ret (res1 (v := .int _ _) rfl (by exact rfl)) ?_
   exact ⟨ret_int (cmpS_eq hc1 hc4).symm, rfl⟩

theorem or_calls {ao : Option Addr} {b off cap : Nat} {p q : Int} {w0 : World} (hl : RowE w0 ao b off cap ([p, q] : List Int)) :
    Calls Try.prog 92 #[.slice ao ([p, q] : List Int).length cap] w0 fun e w' => e = .returned (.int .i64 (orI p q)) ∧ w0 = w' := by
 refine calls_enter (n := 18) (args := [.slice ao ([p, q] : List Int).length cap]) Try.func92 rfl Try.ntmps92 rfl ?_
 have hV : Evo w0 w0 [] := Evo.refl _ _
 have hbd_hl := hl.bd
 refine r_seq ?_
 refine r_region ?_
 refine r_op rfl rfl rfl (run_asg (v := .int _ _) rfl (by exact rfl)) ?_
 refine r_nil ?_
 refine r_seq ?_
 refine r_region ?_
 refine r_op rfl rfl rfl (run_asg (v := .int _ _) rfl (by exact rfl)) ?_
 refine r_nil ?_
 refine r_seq ?_
 refine r_seq ?_
 refine r_region ?_
 refine r_op rfl rfl rfl (run_mv (v := .slice _ _ _) rfl (by exact rfl)) ?_
 refine r_op rfl rfl rfl (run_lenSl rfl (by exact rfl) Try.underlying23) ?_
 refine r_op rfl rfl rfl (run_mv (v := .int _ _) rfl (by exact rfl)) ?_
 refine r_nil ?_
 refine r_block ?_
 refine r_loop (α := Nat) [2, 5, 8, 9, 10, 11, 12, 13, 14, 15, 16] (fun k g w => g 8 = .int .i64 (k : Nat) ∧ k ≤ ([p, q] : List Int).length ∧ w = w0 ∧ (∀ j, j < k → ([p, q] : List Int).getD j default = 0) ∧ w0.heap.size ≤ w.heap.size ∧ Evo w0 w []) (fun k => ([p, q] : List Int).length - k) 0 ?_ ?_
 ·refine ⟨(by first | exact rfl | exact congrArg (Value.int _) (by omega) | exact congrArg (Value.int _) (by dsimp only; omega) | exact congrArg (Value.int _) (by simp) | exact congrArg S (by simp)), (by first | assumption | omega | (dsimp only; omega) | (simp; done)), rfl, (fun j h => by omega), (by first | assumption | omega | (dsimp only; omega) | (simp; done)), hV⟩
 ·rintro k g w2 ⟨hj3, hk_k, hw, hno, hzl1, hV⟩
  have hs_w2hV := hV.size
  refine r_know (i := 8) (v := .int .i64 (k : Nat)) (by exact hj3) ?_
  replace hw := hw.symm; subst hw
  refine r_seq ?_
  refine r_region ?_
  refine r_op rfl rfl rfl (run_lss rfl (by exact rfl) (by exact rfl)) ?_
  refine r_nil ?_
  refine r_seq ?_
  refine r_cond (by exact rfl) (fun hc4 => ?_) (fun hc4 => ?_)
  ·skip
   refine r_skip ?_
   refine r_seq ?_
   refine r_block ?_
   refine r_seq ?_
   refine r_region ?_
   refine r_op rfl rfl rfl (run_ix (k) rfl Try.underlying23 ty_3 (by exact rfl) (by exact rfl) (by first | exact rfl | omega) (by omega) (hl.addr (i := k) (by omega))) ?_
   have hA5 := hl.atD (k) (by omega)
   refine r_op rfl rfl rfl (run_ld1 rfl ag_3 (by exact rfl) (hA5.cell 0 (by exact rfl))) ?_
   refine r_op rfl rfl rfl (run_asg (v := .int _ _) rfl (by exact rfl)) ?_
   refine r_nil ?_
   refine r_seq ?_
   refine r_region ?_
   refine r_op rfl rfl rfl (run_mv (v := .int _ _) rfl (by exact rfl)) ?_
   refine r_op rfl rfl rfl (run_mv (v := .int _ _) rfl (by exact rfl)) ?_
   refine r_op rfl rfl rfl (run_neq rfl (by exact rfl) (by exact rfl)) ?_
   refine r_nil ?_
   refine r_cond (by exact rfl) (fun hc6 => ?_) (fun hc6 => ?_)
   ·skip
    refine r_seq ?_
    refine r_region ?_
    refine r_op rfl rfl rfl (run_mv (v := .int _ _) rfl (by exact rfl)) ?_
    refine r_op rfl rfl rfl (run_asg (v := .int _ _) rfl (by exact rfl)) ?_
    refine r_nil ?_
    refine r_ret (res1 (v := .int _ _) rfl (by exact rfl)) ?_
    exact ⟨ret_int (or_at (by simp at hc4; omega) hno (by simpa using hc6)), rfl⟩
   ·skip
    refine r_skip ?_
    refine r_blk ?_
    refine r_region ?_
    refine r_op rfl rfl rfl (run_add rfl (by exact rfl) (by exact rfl) (by omega) (by omega)) ?_
    refine r_op rfl rfl rfl (run_mv (v := .int _ _) rfl (by exact rfl)) ?_
    refine r_nil ?_
    refine r_again (k + 1) ?_ ?_ ?_
    ·first | omega | (dsimp only; omega)
    ·refine ⟨(by first | exact rfl | exact congrArg (Value.int _) (by omega) | exact congrArg (Value.int _) (by dsimp only; omega) | exact congrArg (Value.int _) (by simp) | exact congrArg S (by simp)), (by first | assumption | omega | (dsimp only; omega) | (simp; done)), rfl, (upto0 hno (by simpa using hc6)), (by first | assumption | omega | (dsimp only; omega) | (simp; done)), hV⟩
    ·repeat (first | (with_reducible exact Agree.merge _ _ _) | (with_reducible exact Agree.refl _ _) | (with_reducible refine Agree.upd ?_ _ _ rfl) | ((with_reducible refine Agree.inner ?_ ?_); (kernel_rfl)))
  ·skip
   refine r_exit rfl ?_
   refine r_seq ?_
   refine r_region ?_
   refine r_op rfl rfl rfl (run_mv (v := .int _ _) rfl (by exact rfl)) ?_
   refine r_op rfl rfl rfl (run_asg (v := .int _ _) rfl (by exact rfl)) ?_
   refine r_nil ?_
   refine r_ret (res1 (v := .int _ _) rfl (by exact rfl)) ?_
   exact ⟨ret_int (or_none (fun j hj => hno j (by simp at hc4; omega))), rfl⟩

theorem cmpg_calls {x y : Gram} {w0 : World}  :
    Calls Try.prog 91 #[(.agg (Enc.enc x).toArray), (.agg (Enc.enc y).toArray)] w0 fun e w' => e = .returned (.int .i64 (cmpG x y)) ∧ Evo w0 w' [] ∧ w0.drawn ≤ w'.drawn := by
 refine calls_enter (n := 17) (args := [(.agg (Enc.enc x).toArray), (.agg (Enc.enc y).toArray)]) Try.func91 rfl Try.ntmps91 rfl ?_
 have hV : Evo w0 w0 [] := Evo.refl _ _
 refine r_seq ?_
 refine r_region ?_
 refine r_boxD (vs := [_, _, _]) (by exact rfl) (by exact rfl) rfl ?_
 intro b1 w2 heb1 hEw2 hbb1 hzb1 hdr_0
 have hs_w2 := (hEw2).size
 replace hV := evo_step0 hV hEw2
 have hAb1 := hbb1.at
 refine r_boxD (vs := [_, _, _]) (by exact rfl) (by exact rfl) rfl ?_
 intro b3 w4 heb3 hEw4 hbb3 hzb3 hdr_1
 have hs_w4 := (hEw4).size
 replace hV := evo_step0 hV hEw4
 replace hbb1 := hbb1.evo0 hEw4
 replace hAb1 := hAb1.evo0 hEw4
 have hAb3 := hbb3.at
 refine r_op rfl rfl rfl (run_asg (v := .int _ _) rfl (by exact rfl)) ?_
 refine r_nil ?_
 refine r_seq ?_
 have hbb1_q := hbb1
 have hAb1_q := hAb1
 have hbb3_q := hbb3
 have hAb3_q := hAb3
 have hV_q := hV
 refine h_regionD ([]) (by kernel_rfl) ?_
 intro w5 hE6 hCst1 hdr_2
 have hs_w5 := (hE6).size
 replace hV := evo_step0 hV hE6
 replace hbb1 := hbb1.evo0 hE6
 replace hAb1 := hAb1.evo0 hE6
 replace hbb3 := hbb3.evo0 hE6
 replace hAb3 := hAb3.evo0 hE6
 refine h_take (i := 0) (by exact rfl) rfl rfl rfl (by kernel_rfl) (fun w' hC => run_fa rfl (by exact rfl) fo_72_0) hCst1 ?_
 refine h_take (i := 1) (by exact rfl) rfl rfl rfl (by kernel_rfl) (fun w' hC => run_ld1 rfl ag_9 (by exact rfl) ((hAb1_q.evo0 hC).cell 0 (by exact rfl))) hCst1 ?_
 refine h_take (i := 2) (by exact rfl) rfl rfl rfl (by kernel_rfl) (fun w' hC => run_fa rfl (by exact rfl) fo_72_0) hCst1 ?_
 refine h_take (i := 3) (by exact rfl) rfl rfl rfl (by kernel_rfl) (fun w' hC => run_ld1 rfl ag_9 (by exact rfl) ((hAb3_q.evo0 hC).cell 0 (by exact rfl))) hCst1 ?_
 refine h_takeC (i := 4) (by exact rfl) rfl rfl rfl (by kernel_rfl) (fun w' hC => ⟨_, _, run_callf (vs := [S _, S _]) rfl (by exact rfl) Try.func93 rfl (by kernel_rfl), cmps_calls.mono (fun e w'' h => ⟨h.1, h.2.symm⟩)⟩) hCst1 ?_
 refine h_take (i := 5) (by exact rfl) rfl rfl rfl (by kernel_rfl) (fun w' hC => run_fa rfl (by exact rfl) fo_72_1) hCst1 ?_
 refine h_take (i := 6) (by exact rfl) rfl rfl rfl (by kernel_rfl) (fun w' hC => run_ld1 rfl ag_9 (by exact rfl) ((hAb1_q.evo0 hC).cell 1 (by exact rfl))) hCst1 ?_
 refine h_take (i := 7) (by exact rfl) rfl rfl rfl (by kernel_rfl) (fun w' hC => run_fa rfl (by exact rfl) fo_72_1) hCst1 ?_
 refine h_take (i := 8) (by exact rfl) rfl rfl rfl (by kernel_rfl) (fun w' hC => run_ld1 rfl ag_9 (by exact rfl) ((hAb3_q.evo0 hC).cell 1 (by exact rfl))) hCst1 ?_
 refine h_takeC (i := 9) (by exact rfl) rfl rfl rfl (by kernel_rfl) (fun w' hC => ⟨_, _, run_callf (vs := [S _, S _]) rfl (by exact rfl) Try.func93 rfl (by kernel_rfl), cmps_calls.mono (fun e w'' h => ⟨h.1, h.2.symm⟩)⟩) hCst1 ?_
 refine h_one (i := 10) (by kernel_rfl) ?_
 refine h_do (by exact rfl) ?_
 refine r_bsliceD (pv := [(0, .int _ _), (1, .int _ _)]) (zs := [_]) (cs := [_, _]) Try.underlying23 ty_3 (by exact rfl) rfl (by exact rfl) rfl (by exact rfl) ?_
 intro b7 w8 heb7 hEw8 hbb7 hzb7 hdr_3
 have hs_w8 := (hEw8).size
 replace hV := evo_step0 hV hEw8
 replace hCst1 := evo_step0 hCst1 hEw8
 have hAb7 := hbb7.at
 have hrb7 : RowE w8 (some ⟨b7, 0, none⟩) b7 0 2 ([cmpS x.fst y.fst, cmpS x.snd y.snd] : List Int) := rowLit ([cmpS x.fst y.fst, cmpS x.snd y.snd] : List Int) hbb7 rfl rfl
 refine h_next hCst1 ?_
 refine h_one (i := 11) (by kernel_rfl) ?_
 refine h_do (by exact rfl) ?_
 refine r_opcall rfl rfl rfl (run_callf (vs := [.slice (some ⟨b7, 0, none⟩) _ _]) rfl (by exact rfl) Try.func92 rfl (by kernel_rfl)) (or_calls hrb7) ?_
 rintro e w9 ⟨rfl, rfl⟩
 refine ⟨_, rfl, ?_⟩
 refine h_next hCst1 ?_
 refine h_take (i := 12) (by exact rfl) rfl rfl rfl (by kernel_rfl) (fun w' hC => run_asg (v := .int _ _) rfl (by exact rfl)) hCst1 ?_
 refine h_done (by kernel_rfl) ?_
 refine r_ret (res1 (v := .int _ _) rfl (by exact rfl)) ?_
 exact ⟨rfl, hV, by omega⟩

end Go.Proofs.Ytomklacppmaljaa

namespace Go.Proofs.Ytomklacppmaljaa
open Go.RowKit Go.Vc
theorem fo_132_0 : fieldP Try.prog 132 0 = some 0 := by kernel_rfl
theorem fo_132_1 : fieldP Try.prog 132 1 = some 1 := by kernel_rfl
theorem pl_132 : placesP Try.prog 132 = some [(0, 1), (1, 1)] := by kernel_rfl
theorem pl_72 : placesP Try.prog 72 = some [(0, 1), (1, 1), (2, 1)] := by kernel_rfl
theorem ty_132 : tyP Try.prog 132 = some (2, 32, some (.agg #[(.string ⟨#[]⟩), (.string ⟨#[]⟩)])) := by kernel_rfl
theorem ty_72 : tyP Try.prog 72 = some (3, 40, some (.agg #[(.string ⟨#[]⟩), (.string ⟨#[]⟩), (.int .i64 0)])) := by kernel_rfl
theorem sortG_calls {w : World} {base E : Nat} {v : Value} {l : List Gram} (h : OwnE w base E v l) : Calls Try.prog 90 #[v, .func (.func 91) #[] #[]] w fun e w' => e = .returned (.tuple #[]) ∧ Evo w w' v.ownBlock.toList ∧ ∃ l', SortR (ltOf cmpG) l l' ∧ OwnE w' base E v l' :=
  sortf_of (R := SortR (ltOf cmpG)) (fun l l' h => h.1.length_eq) ⟨List.Perm.refl _, List.Pairwise.nil⟩
    (fun blk off cap d w hH hb hsz => (AnyQ.slices_SortFunc Try.sortGram 3 Try.isAgg72 Try.sizeOf72 Enc.enc (fun x => Enc.len x) (fun x v hv => List.all_eq_true.1 (Enc.one x) v hv) cmpG swo_G 91 #[] blk off cap d w (enters_of Try.func91 (by kernel_rfl) rfl)
      (fun m os dk hs x y => (show Calls Try.prog 91 #[.agg (Enc.enc x).toArray, .agg (Enc.enc y).toArray] _ _ from cmpg_calls.mono fun e w' ⟨h1, h2, h3⟩ => ⟨h1, growD_of h2 h3⟩)) hH hb hsz).mono fun e w' ⟨he, d', n, os, hp, hs, hw⟩ => ⟨he, d', n, os, sortR_of hp hs, hw⟩)
    (fun w => AnyF.slices_SortFunc_none { Try.sortGram with } none 0 (.func (.func 91) #[] #[]) w) h

theorem kpair : KeyLaw Try.prog 132 (fun x : Str × Str => Value.agg (Enc.enc x).toArray) :=
  key_pair Try.underlying132 (by decide) (by decide) rfl rfl Try.underlying9 Try.underlying9 ag_9 ag_9 (fun w x y => equalIn_pair 9998 Try.underlying132 Try.stoodInHeld132 (by decide) (by decide) rfl rfl Try.underlying9 Try.underlying9 ag_9 ag_9 x y)

def wordsT (l : List Vc.Item) : List Str := (l.filter (fun x => decide (x.kind = 6))).map keyT
theorem wordsT_yes {l : List Vc.Item} {k : Nat} (hk : k < l.length) (h : (l.getD k default).kind = 6) : wordsT (l.take (k + 1)) = wordsT (l.take k) ++ [keyT (l.getD k default)] := by
  unfold wordsT; rw [take_succD l k hk, List.filter_append, List.map_append, List.filter_cons_of_pos (p := fun x : Vc.Item => decide (x.kind = 6)) (decide_eq_true h)]; rfl
theorem wordsT_no {l : List Vc.Item} {k : Nat} (hk : k < l.length) (h : ¬ (l.getD k default).kind = 6) : wordsT (l.take (k + 1)) = wordsT (l.take k) := by
  unfold wordsT; rw [take_succD l k hk, List.filter_append, List.map_append, List.filter_cons_of_neg (p := fun x : Vc.Item => decide (x.kind = 6)) (by simpa using h)]; simp
theorem wordsT_len (l : List Vc.Item) : (wordsT l).length ≤ l.length := by unfold wordsT; rw [List.length_map]; exact List.length_filter_le _ _

theorem words_calls {ao : Option Addr} {b off cap : Nat} {l : List Vc.Item} {w0 : World} (hl : RowE w0 ao b off cap l) (hq : ∀ x ∈ l, x.text.length ≤ 140737488355328) (hs : l.length ≤ 1000000) :
    Calls Try.prog 44 #[.slice ao l.length cap] w0 fun e w' => ∃ v, e = .returned v ∧ Evo w0 w' [] ∧ OwnE w' w0.heap.size 9 v (wordsT l) := by
 refine calls_enter (n := 22) (args := [.slice ao l.length cap]) Try.func44 rfl Try.ntmps44 rfl ?_
 have hV : Evo w0 w0 [] := Evo.refl _ _
 have hl0 := keepE hl
 have hbd_hl := hl.bd
 refine r_seq ?_
 refine r_region ?_
 refine r_op rfl rfl rfl (run_asg (v := .slice _ _ _) rfl (by exact rfl)) ?_
 refine r_nil ?_
 refine r_seq ?_
 refine r_region ?_
 refine r_op rfl rfl rfl (run_asg (v := .slice _ _ _) rfl (by exact rfl)) ?_
 refine r_nil ?_
 refine r_seq ?_
 refine r_seq ?_
 refine r_region ?_
 refine r_op rfl rfl rfl (run_mv (v := .slice _ _ _) rfl (by exact rfl)) ?_
 refine r_op rfl rfl rfl (run_lenSl rfl (by exact rfl) Try.underlying63) ?_
 refine r_op rfl rfl rfl (run_mv (v := .int _ _) rfl (by exact rfl)) ?_
 refine r_nil ?_
 refine r_block ?_
 refine r_loop (α := Nat) [3, 5, 8, 9, 10, 11, 12, 13, 14, 15, 16, 17, 18, 19, 20] (fun k g w => ∃ vo : Value, g 8 = .int .i64 (k : Nat) ∧ g 3 = vo ∧ k ≤ l.length ∧ OwnE w w0.heap.size 9 vo (wordsT (l.take k)) ∧ w0.heap.size ≤ w.heap.size ∧ Evo w0 w []) (fun k => l.length - k) 0 ?_ ?_
 ·refine ⟨_, (by first | exact rfl | exact congrArg (Value.int _) (by omega) | exact congrArg (Value.int _) (by dsimp only; omega) | exact congrArg (Value.int _) (by simp) | exact congrArg S (by simp)), rfl, (by first | assumption | omega | (dsimp only; omega) | (simp; done)), (OwnE.nil _ _ _), (by first | assumption | omega | (dsimp only; omega) | (simp; done)), hV⟩
 ·rintro k g w2 ⟨vo, hj3, hj4, hk_k, hoo, hzl1, hV⟩
  have hs_w2hV := hV.size
  replace hl := hl0 _ hV
  refine r_know (i := 8) (v := .int .i64 (k : Nat)) (by exact hj3) ?_
  refine r_know (i := 3) (v := vo) (by exact hj4) ?_
  refine r_seq ?_
  refine r_region ?_
  refine r_op rfl rfl rfl (run_lss rfl (by exact rfl) (by exact rfl)) ?_
  refine r_nil ?_
  refine r_seq ?_
  refine r_cond (by exact rfl) (fun hc5 => ?_) (fun hc5 => ?_)
  ·skip
   refine r_skip ?_
   refine r_seq ?_
   refine r_block ?_
   refine r_seq ?_
   refine r_region ?_
   refine r_op rfl rfl rfl (run_ix (k) rfl Try.underlying63 ty_81 (by exact rfl) (by exact rfl) (by first | exact rfl | omega) (by omega) (hl.addr (i := k) (by omega))) ?_
   have hA60 := fun (w' : World) (h : Evo w0 w' []) => (hl0 w' h).atD (k) (by omega)
   have hA6 := hA60 _ hV
   refine r_op rfl rfl rfl (run_ldN rfl ag_81 ty_81 (by exact rfl) rfl hA6) ?_
   have hob7 := fun g hg => (hoo.block (g := g) hg).2
   refine r_var (zs := [_, _, _]) (vs := [_, _, _]) ty_81 (by exact rfl) rfl (by exact rfl) (fun _ => rfl) (by exact rfl) rfl rfl (by exact rfl) ?_
   intro b8 w9 heb8 hEw9 hbb8 hzb8
   have hs_w9 := (hEw9).size
   replace hV := evo_step0 hV hEw9
   replace hl := hl0 _ hV
   replace hoo := hoo.evo0 hEw9
   have hAb8 := hbb8.at
   refine r_nil ?_
   refine r_seq ?_
   refine r_region ?_
   refine r_op rfl rfl rfl (run_fa rfl (by exact rfl) fo_81_0) ?_
   refine r_op rfl rfl rfl (run_ld1 rfl ag_3 (by exact rfl) (hAb8.cell 0 (by exact rfl))) ?_
   refine r_op rfl rfl rfl (run_eql rfl (by exact rfl) (by exact rfl)) ?_
   refine r_nil ?_
   refine r_cond (by exact rfl) (fun hc10 => ?_) (fun hc10 => ?_)
   ·skip
    have hqk := hq _ (getD_in (show k < l.length by omega)); have hwl := wordsT_len (l.take k); have hwt : (l.take k).length ≤ k := List.length_take_le _ _
    refine r_region ?_
    refine r_op rfl rfl rfl (run_mv (v := vo) rfl (by exact rfl)) ?_
    refine r_op rfl rfl rfl (run_ldN rfl ag_81 ty_81 (by exact rfl) rfl hAb8) ?_
    refine r_opcall rfl rfl rfl (run_callf (vs := [.agg _]) rfl (by exact rfl) Try.func89 rfl (by kernel_rfl)) (tkey_calls hqk) ?_
    rintro e w11 ⟨rfl, hE11⟩
    refine ⟨_, rfl, ?_⟩
    have hs_w11 := (hE11).size
    replace hV := evo_step0 hV hE11
    replace hl := hl0 _ hV
    replace hoo := hoo.evo0 hE11
    refine r_append1E (u := S _) (y := _) rfl rfl Try.underlying34 ty_9 (by exact rfl) hoo (fun _ => (by exact rfl)) (by exact rfl) (by first | exact rfl | (show _ = List.toArray [_]; first | (dsimp only; done) | exact rfl | (dsimp only; exact rfl))) ((by omega)) ((by omega)) (by omega) ?_
    intro q_v12 v12 w13 hEw13 hov12 hlv12
    have hs_w13 := (hEw13).size
    replace hV := evo_stepo hV hEw13 (fun g hg => .inl (by first | exact (hoo.block hg).1 | (have := hoo.block hg; omega)))
    replace hl := hl0 _ hV
    refine r_op rfl rfl rfl (run_asg (v := v12) rfl (by exact rfl)) ?_
    refine r_nil ?_
    refine r_blk ?_
    refine r_region ?_
    refine r_op rfl rfl rfl (run_add rfl (by exact rfl) (by exact rfl) (by omega) (by omega)) ?_
    refine r_op rfl rfl rfl (run_mv (v := .int _ _) rfl (by exact rfl)) ?_
    refine r_nil ?_
    refine r_again (k + 1) ?_ ?_ ?_
    ·first | omega | (dsimp only; omega)
    ·refine ⟨_, (by first | exact rfl | exact congrArg (Value.int _) (by omega) | exact congrArg (Value.int _) (by dsimp only; omega) | exact congrArg (Value.int _) (by simp) | exact congrArg S (by simp)), rfl, (by first | assumption | omega | (dsimp only; omega) | (simp; done)), (by first | (rw [wordsT_yes (by omega) hc10]; exact hov12) | (rw [wordsT_no (by omega) hc10]; exact hov12)), (by first | assumption | omega | (dsimp only; omega) | (simp; done)), hV⟩
    ·repeat (first | (with_reducible exact Agree.merge _ _ _) | (with_reducible exact Agree.refl _ _) | (with_reducible refine Agree.upd ?_ _ _ rfl) | ((with_reducible refine Agree.inner ?_ ?_); (kernel_rfl)))
   ·skip
    refine r_skip ?_
    refine r_blk ?_
    refine r_region ?_
    refine r_op rfl rfl rfl (run_add rfl (by exact rfl) (by exact rfl) (by omega) (by omega)) ?_
    refine r_op rfl rfl rfl (run_mv (v := .int _ _) rfl (by exact rfl)) ?_
    refine r_nil ?_
    refine r_again (k + 1) ?_ ?_ ?_
    ·first | omega | (dsimp only; omega)
    ·refine ⟨_, (by first | exact rfl | exact congrArg (Value.int _) (by omega) | exact congrArg (Value.int _) (by dsimp only; omega) | exact congrArg (Value.int _) (by simp) | exact congrArg S (by simp)), rfl, (by first | assumption | omega | (dsimp only; omega) | (simp; done)), (by first | (rw [wordsT_yes (by omega) hc10]; exact hoo) | (rw [wordsT_no (by omega) hc10]; exact hoo)), (by first | assumption | omega | (dsimp only; omega) | (simp; done)), hV⟩
    ·repeat (first | (with_reducible exact Agree.merge _ _ _) | (with_reducible exact Agree.refl _ _) | (with_reducible refine Agree.upd ?_ _ _ rfl) | ((with_reducible refine Agree.inner ?_ ?_); (kernel_rfl)))
  ·skip
   refine r_exit rfl ?_
   refine r_seq ?_
   refine r_region ?_
   refine r_op rfl rfl rfl (run_mv (v := vo) rfl (by exact rfl)) ?_
   refine r_op rfl rfl rfl (run_asg (v := vo) rfl (by exact rfl)) ?_
   refine r_nil ?_
   refine r_ret (res1 (v := vo) rfl (by exact rfl)) ?_
   exact ⟨_, rfl, hV, by rw [List.take_of_length_le (by omega)] at hoo; exact hoo⟩

def gp (x : Gram) : (Str × Str) × Int := (prG x, x.count)
theorem getM_memP {α : Type} [DecidableEq α] : ∀ {m : List (α × Int)} {p : α × Int}, (m.map (·.1)).Nodup → p ∈ m → getM m p.1 = some p.2
  | q :: m, p, hn, hp => by
    obtain ⟨h1, h2⟩ := List.nodup_cons.1 hn
    rw [getM_cons]
    rcases List.mem_cons.1 hp with rfl | hp
    · rw [if_pos rfl]
    · rw [if_neg (fun e => h1 (by show q.1 ∈ _; rw [e]; exact List.mem_map_of_mem hp)), getM_memP h2 hp]
theorem getM_memQ {α : Type} [DecidableEq α] {m : List (α × Int)} {a : α} {v : Int} (h : getM m a = some v) : (a, v) ∈ m := by
  unfold getM at h
  cases e : m.find? (fun p => decide (p.1 = a)) with
  | none => rw [e] at h; cases h
  | some p =>
    rw [e] at h
    have h1 : p.2 = v := by simpa using h
    have h2 : p.1 = a := by simpa using List.find?_some e
    have h3 := List.mem_of_find?_eq_some e
    rw [← h1, ← h2]; exact h3
/-- what the range over the counts has given, sorted -/
theorem grams_done {ws : List Str} {m : List ((Str × Str) × Int)} {g g' : List Gram} (hm : ∀ x, getM m x = cntO (pairsL [] ws) x) (hn : (m.map (·.1)).Nodup) (hp : (g.map gp).Perm m) (hs : SortR (ltOf cmpG) g g') : g' = gramsL ws := by
  have hk : (g.map prG) = (g.map gp).map (·.1) := by rw [List.map_map]; rfl
  refine grams_unique (gramsOk_sort (ps := pairsL [] ws) hs ?_ (fun x hx => ?_) (fun p hp' => ?_)) (gramsOk_of _)
  · rw [hk]; exact ((hp.map (·.1)).nodup_iff).2 hn
  · have h1 : gp x ∈ m := hp.mem_iff.1 (List.mem_map_of_mem hx)
    have h2 := getM_memP hn h1
    rw [hm] at h2
    unfold cntO at h2
    by_cases h3 : (gp x).1 ∈ pairsL [] ws
    · rw [if_pos h3] at h2
      injection h2 with h2
      exact ⟨List.count_pos_iff.2 h3, h2.symm⟩
    · rw [if_neg h3] at h2; cases h2
  · have h1 : getM m p = some (((pairsL [] ws).count p : Nat) : Int) := by rw [hm]; exact if_pos hp'
    have h2 := hp.mem_iff.2 (getM_memQ h1)
    obtain ⟨x, hx, e⟩ := List.mem_map.1 h2
    exact ⟨x, hx, congrArg Prod.fst e⟩
theorem grams_mlen {ws : List Str} {m : List ((Str × Str) × Int)} (hm : ∀ x, getM m x = cntO (pairsL [] ws) x) (hn : (m.map (·.1)).Nodup) : m.length ≤ ws.length + 1 := by
  have h := List.Nodup.length_le_of_subset hn (l₂ := pairsL [] ws) (fun x hx => by
    obtain ⟨p, hp, rfl⟩ := List.mem_map.1 hx
    have h2 := getM_memP hn hp
    rw [hm] at h2
    unfold cntO at h2
    by_cases h3 : p.1 ∈ pairsL [] ws
    · exact h3
    · rw [if_neg h3] at h2; cases h2)
  rw [List.length_map, pairs_len] at h; exact h
theorem perm_step {α β : Type} {f : α → β} {g : List α} {l1 l2 : List β} {p : β} {x : α} {m : List β} (h : (g.map f ++ (l1 ++ p :: l2)).Perm m) (hx : f x = p) : ((g ++ [x]).map f ++ (l1 ++ l2)).Perm m := by
  refine List.Perm.trans ?_ h
  rw [List.map_append, List.append_assoc]
  refine List.Perm.append_left _ ?_
  show (f x :: (l1 ++ l2)).Perm _
  rw [hx]
  exact List.perm_middle.symm

set_option maxHeartbeats 1000000 in
theorem grams_calls {ao : Option Addr} {b off cap : Nat} {ws : List Str} {w0 : World} (hl : RowE w0 ao b off cap ws) (hs : ws.length ≤ 1000000) :
    Calls Try.prog 47 #[.slice ao ws.length cap] w0 fun e w' => ∃ v, e = .returned v ∧ Evo w0 w' [] ∧ OwnE w' w0.heap.size 72 v (gramsL ws) := by
 refine calls_enter (n := 53) (args := [.slice ao ws.length cap]) Try.func47 rfl Try.ntmps47 rfl ?_
 have hV : Evo w0 w0 [] := Evo.refl _ _
 have hl0 := keepE hl
 have hbd_hl := hl.bd
 refine r_seq ?_
 refine r_region ?_
 refine r_op rfl rfl rfl (run_asg (v := .slice _ _ _) rfl (by exact rfl)) ?_
 refine r_nil ?_
 refine r_seq ?_
 refine r_region ?_
 refine r_makeMap (α := Str × Str) (β := Int) (fun x : Str × Str => Value.agg (Enc.enc x).toArray) (Value.int .i64) rfl ?_
 intro b1 w2 heb1 hEw2 hmb1 hzb1
 have hs_w2 := (hEw2).size
 replace hV := evo_step0 hV hEw2
 replace hl := hl0 _ hV
 refine r_op rfl rfl rfl (run_asg (v := .map _) rfl (by exact rfl)) ?_
 refine r_nil ?_
 refine r_seq ?_
 refine r_region ?_
 refine r_op rfl rfl rfl (run_asg (v := S _) rfl (by exact rfl)) ?_
 refine r_nil ?_
 refine r_seq ?_
 refine r_seq ?_
 refine r_region ?_
 refine r_op rfl rfl rfl (run_mv (v := .slice _ _ _) rfl (by exact rfl)) ?_
 refine r_op rfl rfl rfl (run_lenSl rfl (by exact rfl) Try.underlying34) ?_
 refine r_op rfl rfl rfl (run_mv (v := .int _ _) rfl (by exact rfl)) ?_
 refine r_nil ?_
 refine r_block ?_
 refine r_loop (α := Nat) [4, 6, 13, 14, 15, 16, 17, 18, 19, 20, 21, 22, 23, 24, 25, 26] (fun k g w => ∃ m : List ((Str × Str) × Int), g 13 = .int .i64 (k : Nat) ∧ g 4 = S (lastW ws k) ∧ k ≤ ws.length ∧ MapIs w b1 (fun x : Str × Str => Value.agg (Enc.enc x).toArray) (Value.int .i64) m ∧ (∀ x, getM m x = cntO ((pairsL [] ws).take k) x) ∧ w2.heap.size ≤ w.heap.size ∧ Evo w0 w []) (fun k => ws.length - k) 0 ?_ ?_
 ·refine ⟨_, (by first | exact rfl | exact congrArg (Value.int _) (by omega) | exact congrArg (Value.int _) (by dsimp only; omega) | exact congrArg (Value.int _) (by simp) | exact congrArg S (by simp)), rfl, (by first | assumption | omega | (dsimp only; omega) | (simp; done)), hmb1, (fun x => (cntO_nil x).symm), (by first | assumption | omega | (dsimp only; omega) | (simp; done)), hV⟩
 ·rintro k g w4 ⟨m, hj5, hj6, hk_k, hmb1, hmm, hzl3, hV⟩
  have hs_w4hV := hV.size
  have hlt7 := hmb1.lt
  replace hl := hl0 _ hV
  refine r_know (i := 13) (v := .int .i64 (k : Nat)) (by exact hj5) ?_
  refine r_know (i := 4) (v := S (lastW ws k)) (by exact hj6) ?_
  refine r_seq ?_
  refine r_region ?_
  refine r_op rfl rfl rfl (run_lss rfl (by exact rfl) (by exact rfl)) ?_
  refine r_nil ?_
  refine r_seq ?_
  refine r_cond (by exact rfl) (fun hc8 => ?_) (fun hc8 => ?_)
  ·skip
   refine r_skip ?_
   refine r_seq ?_
   refine r_block ?_
   refine r_seq ?_
   refine r_region ?_
   refine r_op rfl rfl rfl (run_ix (k) rfl Try.underlying34 ty_9 (by exact rfl) (by exact rfl) (by first | exact rfl | omega) (by omega) (hl.addr (i := k) (by omega))) ?_
   have hA90 := fun (w' : World) (h : Evo w0 w' []) => (hl0 w' h).atD (k) (by omega)
   have hA9 := hA90 _ hV
   refine r_op rfl rfl rfl (run_ld1 rfl ag_9 (by exact rfl) (hA9.cell 0 (by exact rfl))) ?_
   refine r_op rfl rfl rfl (run_asg (v := S _) rfl (by exact rfl)) ?_
   refine r_nil ?_
   refine r_seq ?_
   have hA9 := hmm (lastW ws k, ws.getD k default); have hB9 : (getM (setM m (lastW ws k, ws.getD k default) ((getM m (lastW ws k, ws.getD k default)).getD 0)) (lastW ws k, ws.getD k default)).getD 0 = (getM m (lastW ws k, ws.getD k default)).getD 0 := by rw [getM_setM, if_pos rfl]; rfl
   have hC9 : (getM m (lastW ws k, ws.getD k default)).getD 0 = (((pairsL [] ws).take k).count (lastW ws k, ws.getD k default) : Nat) := by rw [hA9, cntO_get]
   have hl9 := List.count_le_length (a := (lastW ws k, ws.getD k default)) (l := (pairsL [] ws).take k); have hm9 := List.length_take_le k (pairsL [] ws)
   refine r_cut [17, 18, 19, 20, 21, 22, 23, 24] (fun g w => ∃ m2 : List ((Str × Str) × Int), MapIs w b1 (fun x : Str × Str => Value.agg (Enc.enc x).toArray) (Value.int .i64) m2 ∧ Bump m m2 (lastW ws k, ws.getD k default) 1 ∧ w4.heap.size ≤ w.heap.size ∧ Evo w0 w []) ?_ ?_
   ·skip
    have hmb1_q := hmb1
    have hV_q := hV
    refine h_region ([b1]) (by kernel_rfl) ?_
    intro w11 hE12 hC13
    have hs_w11 := (hE12).size
    replace hV := evo_step0 hV hE12
    replace hl := hl0 _ hV
    replace hmb1 := hmb1.evo0 hE12
    refine h_take (i := 0) (by exact rfl) rfl rfl rfl (by kernel_rfl) (fun w' hC => run_mv (v := .map _) rfl (by exact rfl)) hC13 ?_
    refine h_take (i := 1) (by exact rfl) rfl rfl rfl (by kernel_rfl) (fun w' hC => run_mv (v := S _) rfl (by exact rfl)) hC13 ?_
    refine h_take (i := 2) (by exact rfl) rfl rfl rfl (by kernel_rfl) (fun w' hC => run_mv (v := S _) rfl (by exact rfl)) hC13 ?_
    refine h_take (i := 3) (by exact rfl) rfl rfl rfl (by kernel_rfl) (fun w' hC => run_bld (pv := [(0, S _), (1, S _)]) (zs := [_, _]) (cells := [_, _]) rfl ty_132 (by exact rfl) pl_132 (by exact rfl) (by exact rfl)) hC13 ?_
    refine h_two (i := 4) (j := 6) (by kernel_rfl) ?_ ?_
    ·skip
     refine h_do (by exact rfl) ?_
     refine r_op rfl rfl rfl (run_lookup1 (a := (lastW ws k, ws.getD k default)) (z := 0) (v := .int _ _) kpair rfl Try.underlying130 ty_3 (by exact rfl) (by exact rfl) hmb1 rfl) ?_
     refine h_next hC13 ?_
     refine h_take (i := 5) (by exact rfl) rfl rfl rfl (by kernel_rfl) (fun w' hC => run_add rfl (by exact rfl) (by exact rfl) (by omega) (by omega)) hC13 ?_
     refine h_one (i := 6) (by kernel_rfl) ?_
     refine h_do (by exact rfl) ?_
     refine r_mapEntry (a := (lastW ws k, ws.getD k default)) (z := 0) kpair rfl Try.underlying130 ty_3 (by exact rfl) (by exact rfl) hmb1 ?_
     intro s14 w14 hE14 hzw14 hm_new hst14
     have hs_w14 := (hE14).size
     replace hV := evo_step1 hV hE14 (by first | exact .inl (by omega) | exact .inr (by simp))
     replace hC13 := evo_step1 hC13 hE14 (by first | exact .inl (by omega) | exact .inr (by simp))
     replace hl := hl0 _ hV
     replace hmb1 := hm_new
     clear hm_new
     refine h_next hC13 ?_
     refine h_take (i := 7) (by exact rfl) rfl rfl rfl (by kernel_rfl) (fun w' hC => run_extract (v := .int _ _) rfl (by exact rfl) (by exact rfl)) hC13 ?_
     refine h_one (i := 8) (by kernel_rfl) ?_
     refine h_do (by exact rfl) ?_
     refine r_entryStore (a := (lastW ws k, ws.getD k default)) kpair (by exact rfl) (by exact rfl) (by exact rfl) hmb1 hst14 ?_
     intro w15 hE15 hzw15 hm_new
     have hs_w15 := (hE15).size
     replace hV := evo_step1 hV hE15 (by first | exact .inl (by omega) | exact .inr (by simp))
     replace hl := hl0 _ hV
     replace hmb1 := hm_new
     clear hm_new
     refine h_last (by kernel_rfl) ?_
     refine h_done (by kernel_rfl) ?_
     refine r_cut_end ?_ ?_
     ·refine ⟨_, hmb1, (by first | exact bumpF 1 | exact bumpT 1), (by first | assumption | omega | (dsimp only; omega) | (simp; done)), hV⟩
     ·repeat (first | (with_reducible exact Agree.merge _ _ _) | (with_reducible exact Agree.refl _ _) | (with_reducible refine Agree.upd ?_ _ _ rfl) | ((with_reducible refine Agree.inner ?_ ?_); (kernel_rfl)))
    ·skip
     refine h_do (by exact rfl) ?_
     refine r_mapEntry (a := (lastW ws k, ws.getD k default)) (z := 0) kpair rfl Try.underlying130 ty_3 (by exact rfl) (by exact rfl) hmb1 ?_
     intro s16 w16 hE16 hzw16 hm_new hst16
     have hs_w16 := (hE16).size
     replace hV := evo_step1 hV hE16 (by first | exact .inl (by omega) | exact .inr (by simp))
     replace hC13 := evo_step1 hC13 hE16 (by first | exact .inl (by omega) | exact .inr (by simp))
     replace hl := hl0 _ hV
     replace hmb1 := hm_new
     clear hm_new
     refine h_next hC13 ?_
     refine h_take (i := 7) (by exact rfl) rfl rfl rfl (by kernel_rfl) (fun w' hC => run_extract (v := .int _ _) rfl (by exact rfl) (by exact rfl)) hC13 ?_
     refine h_one (i := 4) (by kernel_rfl) ?_
     refine h_do (by exact rfl) ?_
     refine r_op rfl rfl rfl (run_lookup1 (a := (lastW ws k, ws.getD k default)) (z := 0) (v := .int _ _) kpair rfl Try.underlying130 ty_3 (by exact rfl) (by exact rfl) hmb1 rfl) ?_
     refine h_next hC13 ?_
     refine h_take (i := 5) (by exact rfl) rfl rfl rfl (by kernel_rfl) (fun w' hC => run_add rfl (by exact rfl) (by exact rfl) (by omega) (by omega)) hC13 ?_
     refine h_one (i := 8) (by kernel_rfl) ?_
     refine h_do (by exact rfl) ?_
     refine r_entryStore (a := (lastW ws k, ws.getD k default)) kpair (by exact rfl) (by exact rfl) (by exact rfl) hmb1 hst16 ?_
     intro w17 hE17 hzw17 hm_new
     have hs_w17 := (hE17).size
     replace hV := evo_step1 hV hE17 (by first | exact .inl (by omega) | exact .inr (by simp))
     replace hl := hl0 _ hV
     replace hmb1 := hm_new
     clear hm_new
     refine h_last (by kernel_rfl) ?_
     refine h_done (by kernel_rfl) ?_
     refine r_cut_end ?_ ?_
     ·refine ⟨_, hmb1, (by first | exact bumpF 1 | exact bumpT 1), (by first | assumption | omega | (dsimp only; omega) | (simp; done)), hV⟩
     ·repeat (first | (with_reducible exact Agree.merge _ _ _) | (with_reducible exact Agree.refl _ _) | (with_reducible refine Agree.upd ?_ _ _ rfl) | ((with_reducible refine Agree.inner ?_ ?_); (kernel_rfl)))
   ·rintro g w18 ⟨m2, hmb1, hm2, hzl10, hV⟩
    have hs_w18hV := hV.size
    have hlt19 := hmb1.lt
    replace hl := hl0 _ hV
    replace hA9 := hA90 _ hV
    refine r_region ?_
    refine r_op rfl rfl rfl (run_mv (v := S _) rfl (by exact rfl)) ?_
    refine r_op rfl rfl rfl (run_asg (v := S _) rfl (by exact rfl)) ?_
    refine r_nil ?_
    refine r_blk ?_
    refine r_region ?_
    refine r_op rfl rfl rfl (run_add rfl (by exact rfl) (by exact rfl) (by omega) (by omega)) ?_
    refine r_op rfl rfl rfl (run_mv (v := .int _ _) rfl (by exact rfl)) ?_
    refine r_nil ?_
    refine r_again (k + 1) ?_ ?_ ?_
    ·first | omega | (dsimp only; omega)
    ·refine ⟨_, (by first | exact rfl | exact congrArg (Value.int _) (by omega) | exact congrArg (Value.int _) (by dsimp only; omega) | exact congrArg (Value.int _) (by simp) | exact congrArg S (by simp)), (congrArg S (by unfold lastW; rw [if_neg (by omega)]; rfl)), (by first | assumption | omega | (dsimp only; omega) | (simp; done)), hmb1, (by rw [pairs_take (by omega)]; exact cntO_snoc hmm hm2), (by first | assumption | omega | (dsimp only; omega) | (simp; done)), hV⟩
    ·repeat (first | (with_reducible exact Agree.merge _ _ _) | (with_reducible exact Agree.refl _ _) | (with_reducible refine Agree.upd ?_ _ _ rfl) | ((with_reducible refine Agree.inner ?_ ?_); (kernel_rfl)))
  ·skip
   refine r_exit rfl ?_
   refine r_seq ?_
   obtain rfl : k = ws.length := by omega
   have hA9 := hmm (lastW ws ws.length, []); have hB9 : (getM (setM m (lastW ws ws.length, []) ((getM m (lastW ws ws.length, [])).getD 0)) (lastW ws ws.length, [])).getD 0 = (getM m (lastW ws ws.length, [])).getD 0 := by rw [getM_setM, if_pos rfl]; rfl
   have hC9 : (getM m (lastW ws ws.length, [])).getD 0 = (((pairsL [] ws).take ws.length).count (lastW ws ws.length, []) : Nat) := by rw [hA9, cntO_get]
   have hl9 := List.count_le_length (a := (lastW ws ws.length, [])) (l := (pairsL [] ws).take ws.length); have hm9 := List.length_take_le ws.length (pairsL [] ws)
   refine r_cut [27, 28, 29, 30, 31, 32, 33] (fun g w => ∃ m2 : List ((Str × Str) × Int), MapIs w b1 (fun x : Str × Str => Value.agg (Enc.enc x).toArray) (Value.int .i64) m2 ∧ Bump m m2 (lastW ws ws.length, []) 1 ∧ w4.heap.size ≤ w.heap.size ∧ Evo w0 w []) ?_ ?_
   ·skip
    have hmb1_q := hmb1
    have hV_q := hV
    refine h_region ([b1]) (by kernel_rfl) ?_
    intro w21 hE22 hC23
    have hs_w21 := (hE22).size
    replace hV := evo_step0 hV hE22
    replace hl := hl0 _ hV
    replace hmb1 := hmb1.evo0 hE22
    refine h_take (i := 0) (by exact rfl) rfl rfl rfl (by kernel_rfl) (fun w' hC => run_mv (v := .map _) rfl (by exact rfl)) hC23 ?_
    refine h_take (i := 1) (by exact rfl) rfl rfl rfl (by kernel_rfl) (fun w' hC => run_mv (v := S _) rfl (by exact rfl)) hC23 ?_
    refine h_take (i := 2) (by exact rfl) rfl rfl rfl (by kernel_rfl) (fun w' hC => run_bld (pv := [(0, S _), (1, S _)]) (zs := [_, _]) (cells := [_, _]) rfl ty_132 (by exact rfl) pl_132 (by exact rfl) (by exact rfl)) hC23 ?_
    refine h_two (i := 3) (j := 5) (by kernel_rfl) ?_ ?_
    ·skip
     refine h_do (by exact rfl) ?_
     refine r_op rfl rfl rfl (run_lookup1 (a := (lastW ws ws.length, [])) (z := 0) (v := .int _ _) kpair rfl Try.underlying130 ty_3 (by exact rfl) (by exact rfl) hmb1 rfl) ?_
     refine h_next hC23 ?_
     refine h_take (i := 4) (by exact rfl) rfl rfl rfl (by kernel_rfl) (fun w' hC => run_add rfl (by exact rfl) (by exact rfl) (by omega) (by omega)) hC23 ?_
     refine h_one (i := 5) (by kernel_rfl) ?_
     refine h_do (by exact rfl) ?_
     refine r_mapEntry (a := (lastW ws ws.length, [])) (z := 0) kpair rfl Try.underlying130 ty_3 (by exact rfl) (by exact rfl) hmb1 ?_
     intro s24 w24 hE24 hzw24 hm_new hst24
     have hs_w24 := (hE24).size
     replace hV := evo_step1 hV hE24 (by first | exact .inl (by omega) | exact .inr (by simp))
     replace hC23 := evo_step1 hC23 hE24 (by first | exact .inl (by omega) | exact .inr (by simp))
     replace hl := hl0 _ hV
     replace hmb1 := hm_new
     clear hm_new
     refine h_next hC23 ?_
     refine h_take (i := 6) (by exact rfl) rfl rfl rfl (by kernel_rfl) (fun w' hC => run_extract (v := .int _ _) rfl (by exact rfl) (by exact rfl)) hC23 ?_
     refine h_one (i := 7) (by kernel_rfl) ?_
     refine h_do (by exact rfl) ?_
     refine r_entryStore (a := (lastW ws ws.length, [])) kpair (by exact rfl) (by exact rfl) (by exact rfl) hmb1 hst24 ?_
     intro w25 hE25 hzw25 hm_new
     have hs_w25 := (hE25).size
     replace hV := evo_step1 hV hE25 (by first | exact .inl (by omega) | exact .inr (by simp))
     replace hl := hl0 _ hV
     replace hmb1 := hm_new
     clear hm_new
     refine h_last (by kernel_rfl) ?_
     refine h_done (by kernel_rfl) ?_
     refine r_cut_end ?_ ?_
     ·refine ⟨_, hmb1, (by first | exact bumpF 1 | exact bumpT 1), (by first | assumption | omega | (dsimp only; omega) | (simp; done)), hV⟩
     ·repeat (first | (with_reducible exact Agree.merge _ _ _) | (with_reducible exact Agree.refl _ _) | (with_reducible refine Agree.upd ?_ _ _ rfl) | ((with_reducible refine Agree.inner ?_ ?_); (kernel_rfl)))
    ·skip
     refine h_do (by exact rfl) ?_
     refine r_mapEntry (a := (lastW ws ws.length, [])) (z := 0) kpair rfl Try.underlying130 ty_3 (by exact rfl) (by exact rfl) hmb1 ?_
     intro s26 w26 hE26 hzw26 hm_new hst26
     have hs_w26 := (hE26).size
     replace hV := evo_step1 hV hE26 (by first | exact .inl (by omega) | exact .inr (by simp))
     replace hC23 := evo_step1 hC23 hE26 (by first | exact .inl (by omega) | exact .inr (by simp))
     replace hl := hl0 _ hV
     replace hmb1 := hm_new
     clear hm_new
     refine h_next hC23 ?_
     refine h_take (i := 6) (by exact rfl) rfl rfl rfl (by kernel_rfl) (fun w' hC => run_extract (v := .int _ _) rfl (by exact rfl) (by exact rfl)) hC23 ?_
     refine h_one (i := 3) (by kernel_rfl) ?_
     refine h_do (by exact rfl) ?_
     refine r_op rfl rfl rfl (run_lookup1 (a := (lastW ws ws.length, [])) (z := 0) (v := .int _ _) kpair rfl Try.underlying130 ty_3 (by exact rfl) (by exact rfl) hmb1 rfl) ?_
     refine h_next hC23 ?_
     refine h_take (i := 4) (by exact rfl) rfl rfl rfl (by kernel_rfl) (fun w' hC => run_add rfl (by exact rfl) (by exact rfl) (by omega) (by omega)) hC23 ?_
     refine h_one (i := 7) (by kernel_rfl) ?_
     refine h_do (by exact rfl) ?_
     refine r_entryStore (a := (lastW ws ws.length, [])) kpair (by exact rfl) (by exact rfl) (by exact rfl) hmb1 hst26 ?_
     intro w27 hE27 hzw27 hm_new
     have hs_w27 := (hE27).size
     replace hV := evo_step1 hV hE27 (by first | exact .inl (by omega) | exact .inr (by simp))
     replace hl := hl0 _ hV
     replace hmb1 := hm_new
     clear hm_new
     refine h_last (by kernel_rfl) ?_
     refine h_done (by kernel_rfl) ?_
     refine r_cut_end ?_ ?_
     ·refine ⟨_, hmb1, (by first | exact bumpF 1 | exact bumpT 1), (by first | assumption | omega | (dsimp only; omega) | (simp; done)), hV⟩
     ·repeat (first | (with_reducible exact Agree.merge _ _ _) | (with_reducible exact Agree.refl _ _) | (with_reducible refine Agree.upd ?_ _ _ rfl) | ((with_reducible refine Agree.inner ?_ ?_); (kernel_rfl)))
   ·rintro g w28 ⟨m2, hmb1, hm2, hzl20, hV⟩
    have hs_w28hV := hV.size
    have hlt29 := hmb1.lt
    replace hl := hl0 _ hV
    refine r_seq ?_
    refine r_region ?_
    refine r_op rfl rfl rfl (run_asg (v := .slice _ _ _) rfl (by exact rfl)) ?_
    refine r_nil ?_
    refine r_seq ?_
    refine r_seq ?_
    have hmf : ∀ x, getM m2 x = cntO (pairsL [] ws) x := by have h9 := cntO_snoc hmm hm2; rw [pairs_all] at h9; exact h9
    have hmn := hmb1.nodup; have hml := grams_mlen hmf hmn
    refine r_region ?_
    refine r_op rfl rfl rfl (run_mv (v := .map _) rfl (by exact rfl)) ?_
    refine r_range rfl Try.underlying130 (by exact rfl) hmb1 ?_
    intro r30 w31 her30 hEw31 hir30 hzr30
    have hs_w31 := (hEw31).size
    replace hV := evo_step0 hV hEw31
    replace hl := hl0 _ hV
    replace hmb1 := hmb1.evo0 hEw31
    refine r_nil ?_
    refine r_block ?_
    have hil := hir30.lt
    refine r_loop (α := List ((Str × Str) × Int)) [7, 8, 9, 36, 37, 38, 39, 40, 41, 42, 43, 44, 45, 46, 47, 48, 49] (fun left g w => ∃ la : Option ((Str × Str) × Int), ∃ vo : Value, ∃ gl : List Gram, g 7 = vo ∧ IterIs w r30 b1 (fun x : Str × Str => Value.agg (Enc.enc x).toArray) (Value.int .i64) m2 left la ∧ OwnE w w31.heap.size 72 vo gl ∧ (gl.map gp ++ left).Perm m2 ∧ w0.heap.size ≤ r30 ∧ w31.heap.size ≤ w.heap.size ∧ Evo w0 w []) (fun left => left.length) m2 ?_ ?_
    ·refine ⟨_, _, [], rfl, hir30, (OwnE.nil _ _ _), (by simp), (by first | assumption | omega | (dsimp only; omega) | (simp; done)), (by first | assumption | omega | (dsimp only; omega) | (simp; done)), hV⟩
    ·rintro left g w33 ⟨la, vo, gl, hj34, hir30, hoo, hpm, hrl, hzl32, hV⟩
     have hs_w33hV := hV.size
     replace hl := hl0 _ hV
     refine r_know (i := 7) (v := vo) (by exact hj34) ?_
     have hpl := hpm.length_eq
     rw [List.length_append, List.length_map] at hpl
     refine r_seq ?_
     refine r_region ?_
     refine r_next rfl (by exact rfl) hir30 (fun hn35 => ?_) (fun l1_35 p35 l2_35 w35 hl35 hE35 hz35 hi_new => ?_)
     ·skip
      subst hn35
      refine r_op rfl rfl rfl (run_extract (v := .bool _) rfl (by exact rfl) (by exact rfl)) ?_
      refine r_nil ?_
      refine r_seq ?_
      refine r_cond_no (by exact rfl) ?_
      refine r_exit rfl ?_
      refine r_seq ?_
      refine r_region ?_
      refine r_op rfl rfl rfl (run_mv (v := vo) rfl (by exact rfl)) ?_
      refine r_opcall rfl rfl rfl (run_callf (vs := [vo, .func _ _ _]) rfl (by exact rfl) Try.func90 rfl (by kernel_rfl)) (sortG_calls hoo) ?_
      rintro e w36 ⟨rfl, hE36, gs36, hsr36, hs36⟩
      refine ⟨_, rfl, ?_⟩
      have hs_w36 := (hE36).size
      replace hV := evo_stepo hV hE36 (fun g hg => .inl (by first | exact (hoo.block hg).1 | (have := hoo.block hg; omega)))
      replace hl := hl0 _ hV
      replace hoo := hs36
      refine r_nil ?_
      refine r_seq ?_
      refine r_region ?_
      refine r_op rfl rfl rfl (run_mv (v := vo) rfl (by exact rfl)) ?_
      refine r_op rfl rfl rfl (run_asg (v := vo) rfl (by exact rfl)) ?_
      refine r_nil ?_
      refine r_ret (res1 (v := vo) rfl (by exact rfl)) ?_
      exact ⟨_, rfl, hV, by have e9 := grams_done hmf hmn (by simpa using hpm) hsr36; have h9 := hoo; rw [e9] at h9; exact h9.base_le (by omega)⟩
     ·skip
      have hs_w35 := (hE35).size
      replace hV := evo_step1 hV hE35 (by first | exact .inl (by omega) | exact .inr (by simp))
      replace hl := hl0 _ hV
      replace hoo := hoo.evo hE35 (by intro g hg hm; simp at hm; subst hm; have := hoo.block hg; omega)
      replace hir30 := hi_new
      clear hi_new
      refine r_op rfl rfl rfl (run_extract (v := .bool _) rfl (by exact rfl) (by exact rfl)) ?_
      refine r_nil ?_
      refine r_seq ?_
      refine r_cond_yes (by exact rfl) ?_
      refine r_skip ?_
      refine r_block ?_
      refine r_seq ?_
      refine r_region ?_
      refine r_op rfl rfl rfl (run_entryI rfl (by exact rfl) hir30) ?_
      refine r_op rfl rfl rfl (run_extract (v := .agg _) rfl (by exact rfl) (by exact rfl)) ?_
      refine r_op rfl rfl rfl (run_extract (v := .int _ _) rfl (by exact rfl) (by exact rfl)) ?_
      have hob37 := fun g hg => (hoo.block (g := g) hg).2
      refine r_var (zs := [_, _]) (vs := [_, _]) ty_132 (by exact rfl) rfl (by exact rfl) (fun _ => rfl) (by exact rfl) rfl rfl (by exact rfl) ?_
      intro b38 w39 heb38 hEw39 hbb38 hzb38
      have hs_w39 := (hEw39).size
      replace hV := evo_step0 hV hEw39
      replace hl := hl0 _ hV
      replace hoo := hoo.evo0 hEw39
      replace hir30 := hir30.evo0 hEw39
      have hAb38 := hbb38.at
      refine r_op rfl rfl rfl (run_asg (v := .int _ _) rfl (by exact rfl)) ?_
      refine r_nil ?_
      refine r_region ?_
      refine r_op rfl rfl rfl (run_mv (v := vo) rfl (by exact rfl)) ?_
      refine r_op rfl rfl rfl (run_fa rfl (by exact rfl) fo_132_0) ?_
      refine r_op rfl rfl rfl (run_ld1 rfl ag_9 (by exact rfl) (hAb38.cell 0 (by exact rfl))) ?_
      refine r_op rfl rfl rfl (run_fa rfl (by exact rfl) fo_132_1) ?_
      refine r_op rfl rfl rfl (run_ld1 rfl ag_9 (by exact rfl) (hAb38.cell 1 (by exact rfl))) ?_
      refine r_op rfl rfl rfl (run_mv (v := .int _ _) rfl (by exact rfl)) ?_
      refine r_op rfl rfl rfl (run_bld (pv := [(0, S _), (1, S _), (2, .int _ _)]) (zs := [_, _, _]) (cells := [_, _, _]) rfl ty_72 (by exact rfl) pl_72 (by exact rfl) (by exact rfl)) ?_
      refine r_append1E (u := .agg _) (y := ⟨_, _, _⟩) rfl rfl Try.underlying67 ty_72 (by exact rfl) hoo (fun _ => (by exact rfl)) (by exact rfl) (by first | exact rfl | (show _ = List.toArray [_, _, _]; first | (dsimp only; done) | exact rfl | (dsimp only; exact rfl))) ((by first | omega | (simp; omega))) ((by first | omega | (simp; omega))) (by omega) ?_
      intro q_v40 v40 w41 hEw41 hov40 hlv40
      have hs_w41 := (hEw41).size
      replace hV := evo_stepo hV hEw41 (fun g hg => .inl (by first | exact (hoo.block hg).1 | (have := hoo.block hg; omega)))
      replace hl := hl0 _ hV
      replace hir30 := hir30.evo hEw41 (by intro hm; have hm2 := Option.mem_toList.1 hm; first | (have := hoo.block hm2; omega) | (simp [Value.ownBlock] at hm2; omega)) (by intro hm; have hm2 := Option.mem_toList.1 hm; first | (have := hoo.block hm2; omega) | (simp [Value.ownBlock] at hm2; omega))
      refine r_op rfl rfl rfl (run_asg (v := v40) rfl (by exact rfl)) ?_
      refine r_nil ?_
      refine r_blk ?_
      refine r_again (l1_35 ++ l2_35) ?_ ?_ ?_
      ·rw [hl35]; simp
      ·refine ⟨_, _, _, rfl, hir30, hov40, (by rw [hl35] at hpm; exact perm_step hpm rfl), (by first | assumption | omega | (dsimp only; omega) | (simp; done)), (by first | assumption | omega | (dsimp only; omega) | (simp; done)), hV⟩
      ·repeat (first | (with_reducible exact Agree.merge _ _ _) | (with_reducible exact Agree.refl _ _) | (with_reducible refine Agree.upd ?_ _ _ rfl) | ((with_reducible refine Agree.inner ?_ ?_); (kernel_rfl)))

end Go.Proofs.Ytomklacppmaljaa

namespace Go.Proofs.Ytomklacppmaljaa
open Go.RowKit Go.Vc
theorem ag_72 : aggP Try.prog 72 = some true := by kernel_rfl
theorem fo_72_2 : fieldP Try.prog 72 2 = some 2 := by kernel_rfl
theorem bef_iff {x y : Gram} : (blt x.fst y.fst = true ∨ (x.fst = y.fst ∧ blt x.snd y.snd = true)) ↔ ltP (prG x) (prG y) := by
  unfold ltP prG; simp only [slt_iff]

theorem before_calls {x y : Gram} {w0 : World}  :
    Calls Try.prog 94 #[(.agg (Enc.enc x).toArray), (.agg (Enc.enc y).toArray)] w0 fun e w' => e = .returned (.bool (decide (ltP (prG x) (prG y)))) ∧ Evo w0 w' [] := by
 refine calls_enter (n := 24) (args := [(.agg (Enc.enc x).toArray), (.agg (Enc.enc y).toArray)]) Try.func94 rfl Try.ntmps94 rfl ?_
 have hV : Evo w0 w0 [] := Evo.refl _ _
 refine r_seq ?_
 refine r_region ?_
 refine r_box (vs := [_, _, _]) (by exact rfl) (by exact rfl) rfl ?_
 intro b1 w2 heb1 hEw2 hbb1 hzb1
 have hs_w2 := (hEw2).size
 replace hV := evo_step0 hV hEw2
 have hAb1 := hbb1.at
 refine r_box (vs := [_, _, _]) (by exact rfl) (by exact rfl) rfl ?_
 intro b3 w4 heb3 hEw4 hbb3 hzb3
 have hs_w4 := (hEw4).size
 replace hV := evo_step0 hV hEw4
 replace hbb1 := hbb1.evo0 hEw4
 replace hAb1 := hAb1.evo0 hEw4
 have hAb3 := hbb3.at
 refine r_op rfl rfl rfl (run_asg (v := .bool _) rfl (by exact rfl)) ?_
 refine r_nil ?_
 refine r_seq ?_
 refine r_region ?_
 refine r_op rfl rfl rfl (run_fa rfl (by exact rfl) fo_72_0) ?_
 refine r_op rfl rfl rfl (run_ld1 rfl ag_9 (by exact rfl) (hAb1.cell 0 (by exact rfl))) ?_
 refine r_op rfl rfl rfl (run_fa rfl (by exact rfl) fo_72_0) ?_
 refine r_op rfl rfl rfl (run_ld1 rfl ag_9 (by exact rfl) (hAb3.cell 0 (by exact rfl))) ?_
 refine r_op rfl rfl rfl (run_slssD rfl (by exact rfl) (by exact rfl)) ?_
 refine r_op rfl rfl rfl (run_mv (v := .bool _) rfl (by exact rfl)) ?_
 refine r_g rfl (wantF (by exact rfl)) rfl (fun hg => run_fa rfl (by exact rfl) fo_72_0) ?_
 refine r_g rfl (wantF (by exact rfl)) rfl (fun hg => run_ld1 rfl ag_9 (glv (by exact rfl) (fun h => h) hg) (hAb1.cell 0 (by exact rfl))) ?_
 refine r_g rfl (wantF (by exact rfl)) rfl (fun hg => run_fa rfl (by exact rfl) fo_72_0) ?_
 refine r_g rfl (wantF (by exact rfl)) rfl (fun hg => run_ld1 rfl ag_9 (glv (by exact rfl) (fun h => h) hg) (hAb3.cell 0 (by exact rfl))) ?_
 refine r_g rfl (wantF (by exact rfl)) rfl (fun hg => run_seql rfl (glv (by exact rfl) (fun h => h) hg) (glv (by exact rfl) (fun h => h) hg)) ?_
 refine r_g rfl (wantF (by exact rfl)) rfl (fun hg => run_mv (v := .bool _) rfl (glv (by exact rfl) (fun h => h) hg)) ?_
 refine r_g rfl (wantTg (by exact rfl)) rfl (fun hg => run_fa rfl (by exact rfl) fo_72_1) ?_
 refine r_g rfl (wantTg (by exact rfl)) rfl (fun hg => run_ld1 rfl ag_9 (glv (by exact rfl) (fun h => h) hg) (hAb1.cell 1 (by exact rfl))) ?_
 refine r_g rfl (wantTg (by exact rfl)) rfl (fun hg => run_fa rfl (by exact rfl) fo_72_1) ?_
 refine r_g rfl (wantTg (by exact rfl)) rfl (fun hg => run_ld1 rfl ag_9 (glv (by exact rfl) (fun h => h) hg) (hAb3.cell 1 (by exact rfl))) ?_
 refine r_g rfl (wantTg (by exact rfl)) rfl (fun hg => run_slssD rfl (glv (by exact rfl) (fun h => h) hg) (glv (by exact rfl) (fun h => h) hg)) ?_
 refine r_g rfl (wantF (by exact rfl)) rfl (fun hg => run_pick_and rfl (glv (by exact rfl) (fun h => h) hg) (fun hq => glv (by exact rfl) (fun h => h) (And.intro hg hq)) rfl) ?_
 refine r_op rfl rfl rfl (run_pick_or rfl (by exact rfl) rfl (fun hq => glv (by exact rfl) (fun h => h) hq)) ?_
 refine r_op rfl rfl rfl (run_asg (v := .bool _) rfl (by exact rfl)) ?_
 refine r_nil ?_
 refine r_ret (res1 (v := .bool _) rfl (by exact rfl)) ?_
 exact ⟨ret_bool (decide_eq_decide.2 (by rw [← bef_iff])), hV⟩

theorem lastW_pos {ws : List Str} {i : Nat} (h : 0 < i) : lastW ws i = ws.getD (i - 1) default := by unfold lastW; rw [if_neg (by omega)]
theorem lastW_zero {ws : List Str} {i : Nat} (h : i = 0) : lastW ws i = [] := by unfold lastW; rw [if_pos h]
theorem getD_end {ws : List Str} {i : Nat} (h : ws.length ≤ i) : ws.getD i default = [] := by rw [List.getD_eq_getElem?_getD, List.getElem?_eq_none h]; rfl

set_option maxHeartbeats 1000000 in
theorem rgrams_calls {ao : Option Addr} {b off cap : Nat} {ws : List Str} {w0 : World} (hl : RowE w0 ao b off cap ws) (hs : ws.length ≤ 1000000) :
    Calls Try.prog 48 #[.slice ao ws.length cap] w0 fun e w' => ∃ v, e = .returned v ∧ Evo w0 w' [] ∧ OwnE w' w0.heap.size 72 v (gramsL ws) := by
 refine calls_enter (n := 80) (args := [.slice ao ws.length cap]) Try.func48 rfl Try.ntmps48 rfl ?_
 have hV : Evo w0 w0 [] := Evo.refl _ _
 have hl0 := keepE hl
 have hbd_hl := hl.bd
 refine r_seq ?_
 refine r_region ?_
 refine r_op rfl rfl rfl (run_asg (v := .slice _ _ _) rfl (by exact rfl)) ?_
 refine r_nil ?_
 refine r_seq ?_
 refine r_region ?_
 refine r_op rfl rfl rfl (run_asg (v := .slice _ _ _) rfl (by exact rfl)) ?_
 refine r_nil ?_
 refine r_seq ?_
 refine r_seq ?_
 refine r_region ?_
 refine r_op rfl rfl rfl (run_asg (v := .int _ _) rfl (by exact rfl)) ?_
 refine r_nil ?_
 refine r_block ?_
 refine r_loop (α := Nat) [3, 4, 5, 6, 7, 8, 9, 10, 11, 12, 13, 14, 15, 16, 17, 18, 19, 20, 21, 22, 23, 24, 25, 26, 27, 28, 29, 30, 31, 32, 33, 34, 35, 36, 37, 38, 39, 40, 41, 42, 43, 44, 45, 46, 47, 48, 49, 50, 51, 52, 53, 54, 55, 56, 57, 58, 59, 60, 61, 62, 63, 64, 65, 66, 67, 68, 69, 70, 71, 72, 73, 74, 75, 76, 77, 78] (fun i g w => ∃ vo : Value, g 4 = .int .i64 (i : Nat) ∧ g 3 = vo ∧ i ≤ ws.length + 1 ∧ OwnE w w0.heap.size 72 vo (gramsOf ((pairsL [] ws).take i)) ∧ w0.heap.size ≤ w.heap.size ∧ Evo w0 w []) (fun i => ws.length + 1 - i) 0 ?_ ?_
 ·refine ⟨_, rfl, rfl, (by first | assumption | omega | (dsimp only; omega) | (simp; done)), (OwnE.nil _ _ _), (by first | assumption | omega | (dsimp only; omega) | (simp; done)), hV⟩
 ·rintro i g w2 ⟨vo, hj3, hj4, hi1, hoo, hzl1, hV⟩
  have hs_w2hV := hV.size
  replace hl := hl0 _ hV
  refine r_know (i := 4) (v := .int .i64 (i : Nat)) (by exact hj3) ?_
  refine r_know (i := 3) (v := vo) (by exact hj4) ?_
  have hgl := gramsOf_len ((pairsL [] ws).take i)
  have hpt := List.length_take_le i (pairsL [] ws)
  refine r_seq ?_
  refine r_seq ?_
  refine r_region ?_
  refine r_op rfl rfl rfl (run_mv (v := .int _ _) rfl (by exact rfl)) ?_
  refine r_op rfl rfl rfl (run_mv (v := .slice _ _ _) rfl (by exact rfl)) ?_
  refine r_op rfl rfl rfl (run_lenSl rfl (by exact rfl) Try.underlying34) ?_
  refine r_op rfl rfl rfl (run_leq rfl (by exact rfl) (by exact rfl)) ?_
  refine r_nil ?_
  refine r_cond (by exact rfl) (fun hc5 => ?_) (fun hc5 => ?_)
  ·skip
   refine r_skip ?_
   refine r_seq ?_
   refine r_block ?_
   refine r_seq ?_
   have hobO := fun g hg => (hoo.block (g := g) hg).2
   refine r_region ?_
   refine r_op rfl rfl rfl (run_bld (pv := [(2, .int _ _)]) (zs := [_, _, _]) (cells := [_, _, _]) rfl ty_72 (by exact rfl) pl_72 (by exact rfl) (by exact rfl)) ?_
   have hob6 := fun g hg => (hoo.block (g := g) hg).2
   refine r_var (zs := [_, _, _]) (vs := [_, _, _]) ty_72 (by exact rfl) rfl (by exact rfl) (fun _ => rfl) (by exact rfl) rfl rfl (by exact rfl) ?_
   intro b7 w8 heb7 hEw8 hbb7 hzb7
   have hs_w8 := (hEw8).size
   replace hV := evo_step0 hV hEw8
   replace hl := hl0 _ hV
   replace hoo := hoo.evo0 hEw8
   have hAb7 := hbb7.at
   refine r_nil ?_
   refine r_seq ?_
   refine r_seq ?_
   refine r_region ?_
   refine r_op rfl rfl rfl (run_mv (v := .int _ _) rfl (by exact rfl)) ?_
   refine r_op rfl rfl rfl (run_gtr rfl (by exact rfl) (by exact rfl)) ?_
   refine r_nil ?_
   refine r_cut [17, 18, 19, 20, 21, 22] (fun g w => OwnE w w0.heap.size 72 vo (gramsOf ((pairsL [] ws).take i)) ∧ Blk w b7 72 [S (lastW ws i), S [], .int .i64 1] ∧ At w b7 0 [S (lastW ws i), S [], .int .i64 1] ∧ w8.heap.size ≤ w.heap.size ∧ Evo w0 w []) ?_ ?_
   ·skip
    refine r_cond (by exact rfl) (fun hc10 => ?_) (fun hc10 => ?_)
    ·skip
     refine r_region ?_
     refine r_op rfl rfl rfl (run_mv (v := .slice _ _ _) rfl (by exact rfl)) ?_
     refine r_op rfl rfl rfl (run_mv (v := .int _ _) rfl (by exact rfl)) ?_
     refine r_op rfl rfl rfl (run_sub rfl (by exact rfl) (by exact rfl) (by omega) (by omega)) ?_
     refine r_op rfl rfl rfl (run_ix ((i - 1)) rfl Try.underlying34 ty_9 (by exact rfl) (by exact rfl) (by omega) (by omega) (hl.addr (i := (i - 1)) (by omega))) ?_
     have hA110 := fun (w' : World) (h : Evo w0 w' []) => (hl0 w' h).atD ((i - 1)) (by omega)
     have hA11 := hA110 _ hV
     refine r_op rfl rfl rfl (run_ld1 rfl ag_9 (by exact rfl) (hA11.cell 0 (by exact rfl))) ?_
     refine r_op rfl rfl rfl (run_fa rfl (by exact rfl) fo_72_0) ?_
     refine r_store (v := S _) (vs := [_]) (cs' := [_, _, _]) (by exact rfl) (by exact rfl) hbb7 ty_9 (by exact rfl) rfl (by exact rfl) rfl (by exact rfl) ?_
     intro w12 hEw12 hzw12 hb_new
     have hs_w12 := (hEw12).size
     replace hV := evo_step1 hV hEw12 (by first | exact .inl (by omega) | exact .inr (by simp))
     replace hl := hl0 _ hV
     replace hoo := hoo.evo hEw12 (by intro g hg hm; simp at hm; subst hm; have h7 := hobO g hg; omega)
     replace hbb7 := hb_new
     have hAb7 := hbb7.at
     clear hb_new
     refine r_nil ?_
     refine r_cut_end ?_ ?_
     ·refine ⟨hoo, (by first | (rw [lastW_pos (by omega)]; exact hbb7) | (rw [lastW_zero (by omega)]; exact hbb7)), (by first | (rw [lastW_pos (by omega)]; exact hbb7.at) | (rw [lastW_zero (by omega)]; exact hbb7.at)), (by first | assumption | omega | (dsimp only; omega) | (simp; done)), hV⟩
     ·repeat (first | (with_reducible exact Agree.merge _ _ _) | (with_reducible exact Agree.refl _ _) | (with_reducible refine Agree.upd ?_ _ _ rfl) | ((with_reducible refine Agree.inner ?_ ?_); (kernel_rfl)))
    ·skip
     refine r_skip ?_
     refine r_cut_end ?_ ?_
     ·refine ⟨hoo, (by first | (rw [lastW_pos (by omega)]; exact hbb7) | (rw [lastW_zero (by omega)]; exact hbb7)), (by first | (rw [lastW_pos (by omega)]; exact hbb7.at) | (rw [lastW_zero (by omega)]; exact hbb7.at)), (by first | assumption | omega | (dsimp only; omega) | (simp; done)), hV⟩
     ·repeat (first | (with_reducible exact Agree.merge _ _ _) | (with_reducible exact Agree.refl _ _) | (with_reducible refine Agree.upd ?_ _ _ rfl) | ((with_reducible refine Agree.inner ?_ ?_); (kernel_rfl)))
   ·rintro g w13 ⟨hoo, hbb7, hAb7, hzl9, hV⟩
    have hs_w13hV := hV.size
    have hlt14 := hbb7.lt
    replace hl := hl0 _ hV
    refine r_seq ?_
    refine r_seq ?_
    refine r_region ?_
    refine r_op rfl rfl rfl (run_mv (v := .int _ _) rfl (by exact rfl)) ?_
    refine r_op rfl rfl rfl (run_mv (v := .slice _ _ _) rfl (by exact rfl)) ?_
    refine r_op rfl rfl rfl (run_lenSl rfl (by exact rfl) Try.underlying34) ?_
    refine r_op rfl rfl rfl (run_lss rfl (by exact rfl) (by exact rfl)) ?_
    refine r_nil ?_
    refine r_cut [27, 28, 29, 30, 31] (fun g w => OwnE w w0.heap.size 72 vo (gramsOf ((pairsL [] ws).take i)) ∧ Blk w b7 72 [S (lastW ws i), S (ws.getD i default), .int .i64 1] ∧ At w b7 0 [S (lastW ws i), S (ws.getD i default), .int .i64 1] ∧ w13.heap.size ≤ w.heap.size ∧ Evo w0 w []) ?_ ?_
    ·skip
     refine r_cond (by exact rfl) (fun hc16 => ?_) (fun hc16 => ?_)
     ·skip
      refine r_region ?_
      refine r_op rfl rfl rfl (run_mv (v := .slice _ _ _) rfl (by exact rfl)) ?_
      refine r_op rfl rfl rfl (run_mv (v := .int _ _) rfl (by exact rfl)) ?_
      refine r_op rfl rfl rfl (run_ix (i) rfl Try.underlying34 ty_9 (by exact rfl) (by exact rfl) (by first | exact rfl | omega) (by omega) (hl.addr (i := i) (by omega))) ?_
      have hA170 := fun (w' : World) (h : Evo w0 w' []) => (hl0 w' h).atD (i) (by omega)
      have hA17 := hA170 _ hV
      refine r_op rfl rfl rfl (run_ld1 rfl ag_9 (by exact rfl) (hA17.cell 0 (by exact rfl))) ?_
      refine r_op rfl rfl rfl (run_fa rfl (by exact rfl) fo_72_1) ?_
      refine r_store (v := S _) (vs := [_]) (cs' := [_, _, _]) (by exact rfl) (by exact rfl) hbb7 ty_9 (by exact rfl) rfl (by exact rfl) rfl (by exact rfl) ?_
      intro w18 hEw18 hzw18 hb_new
      have hs_w18 := (hEw18).size
      replace hV := evo_step1 hV hEw18 (by first | exact .inl (by omega) | exact .inr (by simp))
      replace hl := hl0 _ hV
      replace hoo := hoo.evo hEw18 (by intro g hg hm; simp at hm; subst hm; have h7 := hobO g hg; omega)
      replace hbb7 := hb_new
      have hAb7 := hbb7.at
      clear hb_new
      refine r_nil ?_
      refine r_cut_end ?_ ?_
      ·refine ⟨hoo, (by first | exact hbb7 | (rw [getD_end (by omega)]; exact hbb7)), (by first | exact hbb7.at | (rw [getD_end (by omega)]; exact hbb7.at)), (by first | assumption | omega | (dsimp only; omega) | (simp; done)), hV⟩
      ·repeat (first | (with_reducible exact Agree.merge _ _ _) | (with_reducible exact Agree.refl _ _) | (with_reducible refine Agree.upd ?_ _ _ rfl) | ((with_reducible refine Agree.inner ?_ ?_); (kernel_rfl)))
     ·skip
      refine r_skip ?_
      refine r_cut_end ?_ ?_
      ·refine ⟨hoo, (by first | exact hbb7 | (rw [getD_end (by omega)]; exact hbb7)), (by first | exact hbb7.at | (rw [getD_end (by omega)]; exact hbb7.at)), (by first | assumption | omega | (dsimp only; omega) | (simp; done)), hV⟩
      ·repeat (first | (with_reducible exact Agree.merge _ _ _) | (with_reducible exact Agree.refl _ _) | (with_reducible refine Agree.upd ?_ _ _ rfl) | ((with_reducible refine Agree.inner ?_ ?_); (kernel_rfl)))
    ·rintro g w19 ⟨hoo, hbb7, hAb7, hzl15, hV⟩
     have hs_w19hV := hV.size
     have hlt20 := hbb7.lt
     replace hl := hl0 _ hV
     refine r_seq ?_
     refine r_region ?_
     refine r_op rfl rfl rfl (run_asg (v := .int _ _) rfl (by exact rfl)) ?_
     refine r_nil ?_
     refine r_seq ?_
     refine r_block ?_
     refine r_loop (α := Nat) [6, 32, 33, 34, 35, 36, 37, 38, 39, 40, 41, 42, 43, 44, 45] (fun k g w => g 6 = .int .i64 (k : Nat) ∧ k ≤ (gramsOf ((pairsL [] ws).take i)).length ∧ OwnE w w0.heap.size 72 vo (gramsOf ((pairsL [] ws).take i)) ∧ Blk w b7 72 [S (lastW ws i), S (ws.getD i default), .int .i64 1] ∧ At w b7 0 [S (lastW ws i), S (ws.getD i default), .int .i64 1] ∧ (∀ j, j < k → ltP (prG ((gramsOf ((pairsL [] ws).take i)).getD j default)) (lastW ws i, ws.getD i default)) ∧ w19.heap.size ≤ w.heap.size ∧ Evo w0 w []) (fun k => (gramsOf ((pairsL [] ws).take i)).length - k) 0 ?_ ?_
     ·refine ⟨rfl, (by first | assumption | omega | (dsimp only; omega) | (simp; done)), hoo, hbb7, hAb7, (fun j h => by omega), (by first | assumption | omega | (dsimp only; omega) | (simp; done)), hV⟩
     ·rintro k g w22 ⟨hj23, hk1, hoo, hbb7, hAb7, hltp, hzl21, hV⟩
      have hs_w22hV := hV.size
      have hlt24 := hbb7.lt
      replace hl := hl0 _ hV
      refine r_know (i := 6) (v := .int .i64 (k : Nat)) (by exact hj23) ?_
      refine r_seq ?_
      refine r_seq ?_
      obtain ⟨ao25, g25, cp25, hv25, hr25, hg25⟩ := hoo.rowOf
      subst hv25
      refine r_qregion (by kernel_rfl) (by kernel_rfl) ?_
      refine q_op rfl rfl rfl (fun w' hC => run_mv (v := .int _ _) rfl (by exact rfl)) ?_
      refine q_op rfl rfl rfl (fun w' hC => run_mv (v := .slice _ _ _) rfl (by exact rfl)) ?_
      refine q_op rfl rfl rfl (fun w' hC => run_lenSl rfl (by exact rfl) Try.underlying67) ?_
      refine q_op rfl rfl rfl (fun w' hC => run_lss rfl (by exact rfl) (by exact rfl)) ?_
      refine q_op rfl rfl rfl (fun w' hC => run_mv (v := .bool _) rfl (by exact rfl)) ?_
      refine q_g rfl (wantT (by exact rfl)) rfl (fun hg w' hC => run_mv (v := .slice _ _ _) rfl (by exact rfl)) ?_
      refine q_g rfl (wantT (by exact rfl)) rfl (fun hg w' hC => run_mv (v := .int _ _) rfl (by exact rfl)) ?_
      refine q_g rfl (wantT (by exact rfl)) rfl (fun hg w' hC => run_ix (k) rfl Try.underlying67 ty_72 (glv (by exact rfl) (fun h => h) hg) (glv (by exact rfl) (fun h => h) hg) (by first | exact rfl | omega) (by omega) (hr25.addr (i := k) (by omega))) ?_
      refine q_g rfl (wantT (by exact rfl)) rfl (fun hg w' hC => run_ldN rfl ag_72 ty_72 (glv (by exact rfl) (fun h => h) hg) rfl ((hr25.atD (k) (by omega)).evo0 hC)) ?_
      refine q_g rfl (wantT (by exact rfl)) rfl (fun hg w' hC => run_ldN rfl ag_72 ty_72 (by exact rfl) rfl (hAb7.evo0 hC)) ?_
      refine q_gcall rfl (wantT (by exact rfl)) rfl (fun hg w' hC => run_callf rfl (argcons (v := .agg _) (glv (by exact rfl) (fun h => h) hg) (argcons (v := .agg _) (glv (by exact rfl) (fun h => h) hg) (rfl))) Try.func94 rfl (by kernel_rfl)) (fun hg w' hC => (before_calls (y := (⟨lastW ws i, ws.getD i default, 1⟩ : Gram))).mono (fun e w'' h => ⟨h.1, evo_step0 hC h.2⟩)) ?_
      refine q_op rfl rfl rfl (fun w' hC => run_pick_and rfl (by exact rfl) (fun hq => glv (by exact rfl) (fun h => h) hq) rfl) ?_
      refine q_nil (fun w26 hE27 => ?_)
      have hs_w26 := (hE27).size
      replace hV := evo_step0 hV hE27
      replace hl := hl0 _ hV
      replace hoo := hoo.evo0 hE27
      replace hbb7 := hbb7.evo0 hE27
      replace hAb7 := hAb7.evo0 hE27
      replace hr25 := hr25.evo0 hE27
      refine r_cond (by exact rfl) (fun hc28 => ?_) (fun hc28 => ?_)
      ·skip
       refine r_skip ?_
       refine r_block ?_
       refine r_region ?_
       refine r_op rfl rfl rfl (run_mv (v := .int _ _) rfl (by exact rfl)) ?_
       refine r_op rfl rfl rfl (run_add rfl (by exact rfl) (by exact rfl) (by omega) (by omega)) ?_
       refine r_op rfl rfl rfl (run_asg (v := .int _ _) rfl (by exact rfl)) ?_
       refine r_nil ?_
       refine r_blk ?_
       refine r_again (k + 1) ?_ ?_ ?_
       ·first | omega | (dsimp only; omega)
       ·refine ⟨(congrArg (Value.int _) (by omega)), (by first | assumption | omega | (dsimp only; omega) | (simp; done)), hoo, hbb7, hAb7, (upto0 hltp hc28.2), (by first | assumption | omega | (dsimp only; omega) | (simp; done)), hV⟩
       ·repeat (first | (with_reducible exact Agree.merge _ _ _) | (with_reducible exact Agree.refl _ _) | (with_reducible refine Agree.upd ?_ _ _ rfl) | ((with_reducible refine Agree.inner ?_ ?_); (kernel_rfl)))
      ·skip
       refine r_exit rfl ?_
       refine r_seq ?_
       refine r_seq ?_
       have hx13 := hc28
       refine r_qregion (by kernel_rfl) (by kernel_rfl) ?_
       refine q_op rfl rfl rfl (fun w' hC => run_mv (v := .int _ _) rfl (by exact rfl)) ?_
       refine q_op rfl rfl rfl (fun w' hC => run_mv (v := .slice _ _ _) rfl (by exact rfl)) ?_
       refine q_op rfl rfl rfl (fun w' hC => run_lenSl rfl (by exact rfl) Try.underlying67) ?_
       refine q_op rfl rfl rfl (fun w' hC => run_lss rfl (by exact rfl) (by exact rfl)) ?_
       refine q_op rfl rfl rfl (fun w' hC => run_mv (v := .bool _) rfl (by exact rfl)) ?_
       refine q_g rfl (wantT (by exact rfl)) rfl (fun hg w' hC => run_ldN rfl ag_72 ty_72 (by exact rfl) rfl (hAb7.evo0 hC)) ?_
       refine q_g rfl (wantT (by exact rfl)) rfl (fun hg w' hC => run_mv (v := .slice _ _ _) rfl (by exact rfl)) ?_
       refine q_g rfl (wantT (by exact rfl)) rfl (fun hg w' hC => run_mv (v := .int _ _) rfl (by exact rfl)) ?_
       refine q_g rfl (wantT (by exact rfl)) rfl (fun hg w' hC => run_ix (k) rfl Try.underlying67 ty_72 (glv (by exact rfl) (fun h => h) hg) (glv (by exact rfl) (fun h => h) hg) (by first | exact rfl | omega) (by omega) (hr25.addr (i := k) (by omega))) ?_
       refine q_g rfl (wantT (by exact rfl)) rfl (fun hg w' hC => run_ldN rfl ag_72 ty_72 (glv (by exact rfl) (fun h => h) hg) rfl ((hr25.atD (k) (by omega)).evo0 hC)) ?_
       refine q_gcall rfl (wantT (by exact rfl)) rfl (fun hg w' hC => run_callf rfl (argcons (v := .agg _) (glv (by exact rfl) (fun h => h) hg) (argcons (v := .agg _) (glv (by exact rfl) (fun h => h) hg) (rfl))) Try.func94 rfl (by kernel_rfl)) (fun hg w' hC => (before_calls (x := (⟨lastW ws i, ws.getD i default, 1⟩ : Gram))).mono (fun e w'' h => ⟨h.1, evo_step0 hC h.2⟩)) ?_
       refine q_g rfl (wantT (by exact rfl)) rfl (fun hg w' hC => run_not rfl (glv (by exact rfl) (fun h => h) hg)) ?_
       refine q_op rfl rfl rfl (fun w' hC => run_pick_and rfl (by exact rfl) (fun hq => glv (by exact rfl) (fun h => h) hq) rfl) ?_
       refine q_nil (fun w29 hE30 => ?_)
       have hs_w29 := (hE30).size
       replace hV := evo_step0 hV hE30
       replace hl := hl0 _ hV
       replace hoo := hoo.evo0 hE30
       replace hbb7 := hbb7.evo0 hE30
       replace hAb7 := hAb7.evo0 hE30
       replace hr25 := hr25.evo0 hE30
       refine r_cond (by exact rfl) (fun hc31 => ?_) (fun hc31 => ?_)
       ·skip
        refine r_seq ?_
        have hx14 := hc31; have hgc := gramsOf_count (x := (gramsOf ((pairsL [] ws).take i)).getD k default) (getD_in (by omega))
        refine r_region ?_
        refine r_op rfl rfl rfl (run_mv (v := .slice _ _ _) rfl (by exact rfl)) ?_
        refine r_op rfl rfl rfl (run_mv (v := .int _ _) rfl (by exact rfl)) ?_
        refine r_op rfl rfl rfl (run_ix (k) rfl Try.underlying67 ty_72 (by exact rfl) (by exact rfl) (by first | exact rfl | omega) (by omega) (hr25.addr (i := k) (by omega))) ?_
        have hA32 := hr25.atD (k) (by omega)
        refine r_op rfl rfl rfl (run_fa rfl (by exact rfl) fo_72_2) ?_
        refine r_op rfl rfl rfl (run_ld1 rfl ag_3 (by exact rfl) (hA32.cell 2 (by exact rfl))) ?_
        refine r_op rfl rfl rfl (run_add rfl (by exact rfl) (by exact rfl) (by omega) (by omega)) ?_
        refine r_op rfl rfl rfl (run_ix (k) rfl Try.underlying67 ty_72 (by exact rfl) (by exact rfl) (by first | exact rfl | omega) (by omega) (hr25.addr (i := k) (by omega))) ?_
        have hA33 := hr25.atD (k) (by omega)
        refine r_op rfl rfl rfl (run_fa rfl (by exact rfl) fo_72_2) ?_
        refine r_storeE (u := .int _ _) (vs := [_]) (k) 2 ⟨_, _, _⟩ (by exact rfl) rfl (by first | rfl | omega) (by exact rfl) hoo hr25 (by omega) ty_3 (by exact rfl) rfl (by exact rfl) rfl (by show [_, _, _] = [_, _, _]; first | (dsimp only; done) | exact rfl | (dsimp only; exact rfl)) ?_
        intro w34 hEw34 hzw34 ho_new
        have hs_w34 := (hEw34).size
        replace hV := evo_stepo hV hEw34 (fun g hg => .inl (by first | exact (hoo.block hg).1 | (have := hoo.block hg; omega)))
        replace hl := hl0 _ hV
        replace hoo := ho_new
        clear ho_new
        refine r_nil ?_
        refine r_exit rfl ?_
        refine r_region ?_
        refine r_op rfl rfl rfl (run_mv (v := .int _ _) rfl (by exact rfl)) ?_
        refine r_op rfl rfl rfl (run_add rfl (by exact rfl) (by exact rfl) (by omega) (by omega)) ?_
        refine r_op rfl rfl rfl (run_asg (v := .int _ _) rfl (by exact rfl)) ?_
        refine r_nil ?_
        refine r_again (i + 1) ?_ ?_ ?_
        ·first | omega | (dsimp only; omega)
        ·refine ⟨_, (congrArg (Value.int _) (by omega)), rfl, (by first | assumption | omega | (dsimp only; omega) | (simp; done)), (by first | (rw [grams_step (by omega), ins_hit (by omega) hltp (fun q => hx13 ⟨by omega, q⟩) hx14.2]; exact hoo) | (rw [grams_step (by omega), ins_new (by omega) hltp ((Nat.lt_or_ge k (gramsOf ((pairsL [] ws).take i)).length).elim (fun q => .inr (Classical.not_not.1 fun q2 => hx15 ⟨by omega, q2⟩)) (fun q => .inl (by omega)))]; have h9 := hoo; rw [List.nil_append] at h9; exact h9.base_le (by omega))), (by first | assumption | omega | (dsimp only; omega) | (simp; done)), hV⟩
        ·repeat (first | (with_reducible exact Agree.merge _ _ _) | (with_reducible exact Agree.refl _ _) | (with_reducible refine Agree.upd ?_ _ _ rfl) | ((with_reducible refine Agree.inner ?_ ?_); (kernel_rfl)))
       ·skip
        refine r_skip ?_
        refine r_seq ?_
        have hx15 := hc31
        have hI15 : Evo w29 w29 [] := Evo.refl _ _
        have hr250 := keepE hr25
        have hbb7_q := hbb7
        have hAb7_q := hAb7
        have hV_q := hV
        have hI15_q := hI15
        refine h_region ([]) (by kernel_rfl) ?_
        intro w35 hE36 hCst15
        have hs_w35 := (hE36).size
        replace hV := evo_step0 hV hE36
        replace hI15 := evo_step0 hI15 hE36
        replace hl := hl0 _ hV
        replace hbb7 := hbb7.evo0 hE36
        replace hAb7 := hAb7.evo0 hE36
        replace hr25 := hr250 _ hI15
        refine h_take (i := 0) (by exact rfl) rfl rfl rfl (by kernel_rfl) (fun w' hC => run_ldN rfl ag_72 ty_72 (by exact rfl) rfl (hAb7_q.evo0 hC)) hCst15 ?_
        refine h_take (i := 2) (by exact rfl) rfl rfl rfl (by kernel_rfl) (fun w' hC => run_mv (v := .slice _ _ _) rfl (by exact rfl)) hCst15 ?_
        refine h_take (i := 3) (by exact rfl) rfl rfl rfl (by kernel_rfl) (fun w' hC => run_mv (v := .int _ _) rfl (by exact rfl)) hCst15 ?_
        refine h_take (i := 4) (by exact rfl) rfl rfl rfl (by kernel_rfl) (fun w' hC => by exact run_slE0 (k) rfl Try.underlying67 ty_72 rfl (by exact rfl) (hr250 _ (evo_step0 hI15_q hC)) (at1 (by exact rfl) (by omega)) (by first | omega | (simp; omega))) hCst15 ?_
        have hS370 := fun (w' : World) (h : Evo w29 w' []) => (hr250 w' h).drop (k)
        have hS37 := hr25.drop (k)
        have hbd_hS37 := hS37.bd
        refine h_one (i := 1) (by kernel_rfl) ?_
        refine h_do (by exact rfl) ?_
        refine r_bslice (pv := [(0, .agg _)]) (zs := [_, _, _]) (cs := [_, _, _]) Try.underlying67 ty_72 (by exact rfl) rfl (by exact rfl) rfl (by exact rfl) ?_
        intro b38 w39 heb38 hEw39 hbb38 hzb38
        have hs_w39 := (hEw39).size
        replace hV := evo_step0 hV hEw39
        replace hI15 := evo_step0 hI15 hEw39
        replace hCst15 := evo_step0 hCst15 hEw39
        replace hl := hl0 _ hV
        replace hr25 := hr250 _ hI15
        replace hS37 := hS370 _ hI15
        have hAb38 := hbb38.at
        have hob38 : OwnE w39 w29.heap.size 72 (.slice (some ⟨b38, 0, none⟩) 1 1) ([(⟨lastW ws i, ws.getD i default, 1⟩ : Gram)]) := ownE_lit ([(⟨lastW ws i, ws.getD i default, 1⟩ : Gram)]) hbb38 rfl (by omega) (by simp)
        refine h_next hCst15 ?_
        refine h_one (i := 5) (by kernel_rfl) ?_
        refine h_do (by exact rfl) ?_
        refine r_appendE rfl Try.underlying67 ty_72 (by exact rfl) hob38 (by exact rfl) (by exact rfl) hS37 rfl (by simp; omega) (by simp; omega) (by omega) ?_
        intro v40 w41 hEw41 hov40 hlv40
        have hs_w41 := (hEw41).size
        replace hV := evo_stepo hV hEw41 (fun g hg => .inl (by first | exact (hob38.block hg).1 | (have := hob38.block hg; omega)))
        replace hI15 := evo_stepo hI15 hEw41 (fun g hg => .inl (by first | exact (hob38.block hg).1 | (have := hob38.block hg; omega)))
        replace hCst15 := evo_stepo hCst15 hEw41 (fun g hg => .inl (by first | exact (hob38.block hg).1 | (have := hob38.block hg; omega)))
        replace hl := hl0 _ hV
        replace hr25 := hr250 _ hI15
        refine h_next hCst15 ?_
        refine h_take (i := 6) (by exact rfl) rfl rfl rfl (by kernel_rfl) (fun w' hC => run_asg (v := v40) rfl (by exact rfl)) hCst15 ?_
        refine h_done (by kernel_rfl) ?_
        refine r_region ?_
        refine r_op rfl rfl rfl (run_mv (v := .slice _ _ _) rfl (by exact rfl)) ?_
        refine r_op rfl rfl rfl (run_mv (v := .int _ _) rfl (by exact rfl)) ?_
        refine r_op rfl rfl rfl (by exact run_slE (0) (k) rfl Try.underlying67 ty_72 (by exact rfl) hr25 lo0 (at1 (by exact rfl) (by omega)) (by first | omega | (simp; omega)) (by first | omega | (simp; omega)) List.drop_zero) ?_
        have hS420 := fun (w' : World) (h : Evo w29 w' []) => (by have h9 := ((hr250 w' h).take (k)).drop (0); rw [List.drop_zero] at h9; exact h9)
        have hS42 := (by have h9 := (hr25.take (k)).drop (0); rw [List.drop_zero] at h9; exact h9)
        have hbd_hS42 := hS42.bd
        refine r_appendE rfl Try.underlying67 ty_72 (by exact rfl) (OwnE.nil (α := Gram) _ w29.heap.size _) (by exact rfl) (by exact rfl) hS42 rfl (by simp; omega) (by simp; omega) (by omega) ?_
        intro v43 w44 hEw44 hov43 hlv43
        have hs_w44 := (hEw44).size
        replace hV := evo_step0 hV hEw44
        replace hI15 := evo_step0 hI15 hEw44
        replace hl := hl0 _ hV
        replace hr25 := hr250 _ hI15
        replace hov40 := hov40.evo0 hEw44
        refine r_op rfl rfl rfl (run_mv (v := v40) rfl (by exact rfl)) ?_
        obtain ⟨ao45, g45, cp45, hv45, hr45, hg45⟩ := hov40.rowOf
        subst hv45
        refine r_appendE rfl Try.underlying67 ty_72 (by exact rfl) hov43 (by exact rfl) (by exact rfl) hr45 rfl (by simp; omega) (by simp; omega) (by omega) ?_
        intro v46 w47 hEw47 hov46 hlv46
        have hs_w47 := (hEw47).size
        replace hV := evo_stepo hV hEw47 (fun g hg => .inl (by first | exact (hov43.block hg).1 | (have := hov43.block hg; omega)))
        replace hI15 := evo_stepo hI15 hEw47 (fun g hg => .inl (by first | exact (hov43.block hg).1 | (have := hov43.block hg; omega)))
        replace hl := hl0 _ hV
        replace hr25 := hr250 _ hI15
        refine r_op rfl rfl rfl (run_asg (v := v46) rfl (by exact rfl)) ?_
        refine r_nil ?_
        refine r_blk ?_
        refine r_region ?_
        refine r_op rfl rfl rfl (run_mv (v := .int _ _) rfl (by exact rfl)) ?_
        refine r_op rfl rfl rfl (run_add rfl (by exact rfl) (by exact rfl) (by omega) (by omega)) ?_
        refine r_op rfl rfl rfl (run_asg (v := .int _ _) rfl (by exact rfl)) ?_
        refine r_nil ?_
        refine r_again (i + 1) ?_ ?_ ?_
        ·first | omega | (dsimp only; omega)
        ·refine ⟨_, (congrArg (Value.int _) (by omega)), rfl, (by first | assumption | omega | (dsimp only; omega) | (simp; done)), (by first | (rw [grams_step (by omega), ins_hit (by omega) hltp (fun q => hx13 ⟨by omega, q⟩) hx14.2]; exact hov46) | (rw [grams_step (by omega), ins_new (by omega) hltp ((Nat.lt_or_ge k (gramsOf ((pairsL [] ws).take i)).length).elim (fun q => .inr (Classical.not_not.1 fun q2 => hx15 ⟨by omega, q2⟩)) (fun q => .inl (by omega)))]; have h9 := hov46; rw [List.nil_append] at h9; exact h9.base_le (by omega))), (by first | assumption | omega | (dsimp only; omega) | (simp; done)), hV⟩
        ·repeat (first | (with_reducible exact Agree.merge _ _ _) | (with_reducible exact Agree.refl _ _) | (with_reducible refine Agree.upd ?_ _ _ rfl) | ((with_reducible refine Agree.inner ?_ ?_); (kernel_rfl)))
  ·skip
   refine r_exit rfl ?_
   refine r_seq ?_
   refine r_region ?_
   refine r_op rfl rfl rfl (run_mv (v := vo) rfl (by exact rfl)) ?_
   refine r_op rfl rfl rfl (run_asg (v := vo) rfl (by exact rfl)) ?_
   refine r_nil ?_
   refine r_ret (res1 (v := vo) rfl (by exact rfl)) ?_
   exact ⟨_, rfl, hV, by rw [show i = ws.length + 1 by omega, List.take_of_length_le (by rw [pairs_len]; exact Nat.le_refl _)] at hoo; exact hoo⟩

end Go.Proofs.Ytomklacppmaljaa

namespace Go.Proofs.Ytomklacppmaljaa
open Go.RowKit Go.Vc
theorem ag_132 : aggP Try.prog 132 = some true := by kernel_rfl
theorem gee : ∀ (w : World) (x y : Gram), (Op.equalIn 10000 72 (.agg (Enc.enc x).toArray) (.agg (Enc.enc y).toArray)).run Try.prog w = .ok (decide (x = y)) w := fun w x y => equalIn_gram 9998 Try.underlying72 Try.stoodInHeld72 (by decide) (by decide) (by decide) rfl rfl rfl Try.underlying9 Try.underlying9 Try.underlying3 ag_9 ag_9 ag_3 x y

set_option maxHeartbeats 1000000 in
theorem occs_calls {ao : Option Addr} {b off cap : Nat} {l : List Gram} {w0 : World} (hl : RowE w0 ao b off cap l) (hs : l.length ≤ 1000000) :
    Calls Try.prog 95 #[.slice ao l.length cap] w0 fun e w' => ∃ b9 m9, e = .returned (.map (some b9)) ∧ Evo w0 w' [] ∧ MapIs w' b9 (fun x : Str × Str => Value.agg (Enc.enc x).toArray) (Value.int .i64) m9 ∧ OccM l m9 ∧ w0.heap.size ≤ b9 := by
 refine calls_enter (n := 29) (args := [.slice ao l.length cap]) Try.func95 rfl Try.ntmps95 rfl ?_
 have hV : Evo w0 w0 [] := Evo.refl _ _
 have hl0 := keepE hl
 have hbd_hl := hl.bd
 refine r_seq ?_
 refine r_region ?_
 refine r_op rfl rfl rfl (run_asg (v := .map _) rfl (by exact rfl)) ?_
 refine r_nil ?_
 refine r_seq ?_
 refine r_region ?_
 refine r_makeMap (α := Str × Str) (β := Int) (fun x : Str × Str => Value.agg (Enc.enc x).toArray) (Value.int .i64) rfl ?_
 intro b1 w2 heb1 hEw2 hmb1 hzb1
 have hs_w2 := (hEw2).size
 replace hV := evo_step0 hV hEw2
 replace hl := hl0 _ hV
 refine r_op rfl rfl rfl (run_asg (v := .map _) rfl (by exact rfl)) ?_
 refine r_nil ?_
 refine r_seq ?_
 refine r_seq ?_
 refine r_region ?_
 refine r_op rfl rfl rfl (run_mv (v := .slice _ _ _) rfl (by exact rfl)) ?_
 refine r_op rfl rfl rfl (run_lenSl rfl (by exact rfl) Try.underlying67) ?_
 refine r_op rfl rfl rfl (run_mv (v := .int _ _) rfl (by exact rfl)) ?_
 refine r_nil ?_
 refine r_block ?_
 refine r_loop (α := Nat) [5, 9, 10, 11, 12, 13, 14, 15, 16, 17, 18, 19, 20, 21, 22, 23, 24, 25, 26, 27] (fun k g w => ∃ m : List ((Str × Str) × Int), g 9 = .int .i64 (k : Nat) ∧ k ≤ l.length ∧ MapIs w b1 (fun x : Str × Str => Value.agg (Enc.enc x).toArray) (Value.int .i64) m ∧ OccM (l.take k) m ∧ w2.heap.size ≤ w.heap.size ∧ Evo w0 w []) (fun k => l.length - k) 0 ?_ ?_
 ·refine ⟨_, (by first | exact rfl | exact congrArg (Value.int _) (by omega) | exact congrArg (Value.int _) (by dsimp only; omega) | exact congrArg (Value.int _) (by simp) | exact congrArg S (by simp)), (by first | assumption | omega | (dsimp only; omega) | (simp; done)), hmb1, OccM.nil, (by first | assumption | omega | (dsimp only; omega) | (simp; done)), hV⟩
 ·rintro k g w4 ⟨m, hj5, hk_k, hmb1, hmm, hzl3, hV⟩
  have hs_w4hV := hV.size
  have hlt6 := hmb1.lt
  replace hl := hl0 _ hV
  refine r_know (i := 9) (v := .int .i64 (k : Nat)) (by exact hj5) ?_
  refine r_seq ?_
  refine r_region ?_
  refine r_op rfl rfl rfl (run_lss rfl (by exact rfl) (by exact rfl)) ?_
  refine r_nil ?_
  refine r_seq ?_
  refine r_cond (by exact rfl) (fun hc7 => ?_) (fun hc7 => ?_)
  ·skip
   refine r_skip ?_
   refine r_seq ?_
   refine r_block ?_
   refine r_seq ?_
   refine r_region ?_
   refine r_op rfl rfl rfl (run_ix (k) rfl Try.underlying67 ty_72 (by exact rfl) (by exact rfl) (by first | exact rfl | omega) (by omega) (hl.addr (i := k) (by omega))) ?_
   have hA80 := fun (w' : World) (h : Evo w0 w' []) => (hl0 w' h).atD (k) (by omega)
   have hA8 := hA80 _ hV
   refine r_op rfl rfl rfl (run_ldN rfl ag_72 ty_72 (by exact rfl) rfl hA8) ?_
   refine r_var (zs := [_, _, _]) (vs := [_, _, _]) ty_72 (by exact rfl) rfl (by exact rfl) (fun _ => rfl) (by exact rfl) rfl rfl (by exact rfl) ?_
   intro b9 w10 heb9 hEw10 hbb9 hzb9
   have hs_w10 := (hEw10).size
   replace hV := evo_step0 hV hEw10
   replace hl := hl0 _ hV
   replace hmb1 := hmb1.evo0 hEw10
   have hAb9 := hbb9.at
   refine r_nil ?_
   have hA9 := hmm.get (prG (l.getD k default)); have hB9 : (getM (setM m (prG (l.getD k default)) ((getM m (prG (l.getD k default))).getD 0)) (prG (l.getD k default))).getD 0 = (getM m (prG (l.getD k default))).getD 0 := by rw [getM_setM, if_pos rfl]; rfl
   have hob := occ_bd (l.take k) (prG (l.getD k default)); have hlt := List.length_take_le k l; have hcl := clampI_le (l.getD k default).count; have hce : clampI (l.getD k default).count = max (min (l.getD k default).count 1073741824) 0 := rfl
   refine r_cut [13, 14, 15, 16, 17, 18, 19, 20, 21, 22, 23, 24, 25, 26] (fun g w => ∃ m2 : List ((Str × Str) × Int), MapIs w b1 (fun x : Str × Str => Value.agg (Enc.enc x).toArray) (Value.int .i64) m2 ∧ Bump m m2 (prG (l.getD k default)) (clampI (l.getD k default).count) ∧ w10.heap.size ≤ w.heap.size ∧ Evo w0 w []) ?_ ?_
   ·skip
    have hmb1_q := hmb1
    have hbb9_q := hbb9
    have hAb9_q := hAb9
    have hV_q := hV
    refine h_region ([b1]) (by kernel_rfl) ?_
    intro w12 hE13 hC14
    have hs_w12 := (hE13).size
    replace hV := evo_step0 hV hE13
    replace hl := hl0 _ hV
    replace hmb1 := hmb1.evo0 hE13
    replace hbb9 := hbb9.evo0 hE13
    replace hAb9 := hAb9.evo0 hE13
    refine h_take (i := 0) (by exact rfl) rfl rfl rfl (by kernel_rfl) (fun w' hC => run_mv (v := .map _) rfl (by exact rfl)) hC14 ?_
    refine h_take (i := 1) (by exact rfl) rfl rfl rfl (by kernel_rfl) (fun w' hC => run_fa rfl (by exact rfl) fo_72_0) hC14 ?_
    refine h_take (i := 2) (by exact rfl) rfl rfl rfl (by kernel_rfl) (fun w' hC => run_ld1 rfl ag_9 (by exact rfl) ((hAb9_q.evo hC (by simp; omega)).cell 0 (by exact rfl))) hC14 ?_
    refine h_take (i := 3) (by exact rfl) rfl rfl rfl (by kernel_rfl) (fun w' hC => run_fa rfl (by exact rfl) fo_72_1) hC14 ?_
    refine h_take (i := 4) (by exact rfl) rfl rfl rfl (by kernel_rfl) (fun w' hC => run_ld1 rfl ag_9 (by exact rfl) ((hAb9_q.evo hC (by simp; omega)).cell 1 (by exact rfl))) hC14 ?_
    refine h_take (i := 5) (by exact rfl) rfl rfl rfl (by kernel_rfl) (fun w' hC => run_bld (pv := [(0, S _), (1, S _)]) (zs := [_, _]) (cells := [_, _]) rfl ty_132 (by exact rfl) pl_132 (by exact rfl) (by exact rfl)) hC14 ?_
    refine h_take (i := 7) (by exact rfl) rfl rfl rfl (by kernel_rfl) (fun w' hC => run_fa rfl (by exact rfl) fo_72_2) hC14 ?_
    refine h_take (i := 8) (by exact rfl) rfl rfl rfl (by kernel_rfl) (fun w' hC => run_ld1 rfl ag_3 (by exact rfl) ((hAb9_q.evo hC (by simp; omega)).cell 2 (by exact rfl))) hC14 ?_
    refine h_take (i := 9) (by exact rfl) rfl rfl rfl (by kernel_rfl) (fun w' hC => run_min rfl (by exact rfl) (by exact rfl)) hC14 ?_
    refine h_take (i := 10) (by exact rfl) rfl rfl rfl (by kernel_rfl) (fun w' hC => run_max rfl (by exact rfl) (by exact rfl)) hC14 ?_
    refine h_two (i := 6) (j := 12) (by kernel_rfl) ?_ ?_
    ·skip
     refine h_do (by exact rfl) ?_
     refine r_op rfl rfl rfl (run_lookup1 (a := (prG (l.getD k default))) (z := 0) (v := .int _ _) kpair rfl Try.underlying130 ty_3 (by exact rfl) (by exact rfl) hmb1 rfl) ?_
     refine h_next hC14 ?_
     refine h_take (i := 11) (by exact rfl) rfl rfl rfl (by kernel_rfl) (fun w' hC => run_add rfl (by exact rfl) (by exact rfl) (by omega) (by omega)) hC14 ?_
     refine h_one (i := 12) (by kernel_rfl) ?_
     refine h_do (by exact rfl) ?_
     refine r_mapEntry (a := (prG (l.getD k default))) (z := 0) kpair rfl Try.underlying130 ty_3 (by exact rfl) (by exact rfl) hmb1 ?_
     intro s15 w15 hE15 hzw15 hm_new hst15
     have hs_w15 := (hE15).size
     replace hV := evo_step1 hV hE15 (by first | exact .inl (by omega) | exact .inr (by simp))
     replace hC14 := evo_step1 hC14 hE15 (by first | exact .inl (by omega) | exact .inr (by simp))
     replace hl := hl0 _ hV
     replace hmb1 := hm_new
     clear hm_new
     refine h_next hC14 ?_
     refine h_take (i := 13) (by exact rfl) rfl rfl rfl (by kernel_rfl) (fun w' hC => run_extract (v := .int _ _) rfl (by exact rfl) (by exact rfl)) hC14 ?_
     refine h_one (i := 14) (by kernel_rfl) ?_
     refine h_do (by exact rfl) ?_
     refine r_entryStore (a := (prG (l.getD k default))) kpair (by exact rfl) (by exact rfl) (by exact rfl) hmb1 hst15 ?_
     intro w16 hE16 hzw16 hm_new
     have hs_w16 := (hE16).size
     replace hV := evo_step1 hV hE16 (by first | exact .inl (by omega) | exact .inr (by simp))
     replace hl := hl0 _ hV
     replace hmb1 := hm_new
     clear hm_new
     refine h_last (by kernel_rfl) ?_
     refine h_done (by kernel_rfl) ?_
     refine r_cut_end ?_ ?_
     ·refine ⟨_, hmb1, (by first | exact bumpF _ | exact bumpT _), (by first | assumption | omega | (dsimp only; omega) | (simp; done)), hV⟩
     ·repeat (first | (with_reducible exact Agree.merge _ _ _) | (with_reducible exact Agree.refl _ _) | (with_reducible refine Agree.upd ?_ _ _ rfl) | ((with_reducible refine Agree.inner ?_ ?_); (kernel_rfl)))
    ·skip
     refine h_do (by exact rfl) ?_
     refine r_mapEntry (a := (prG (l.getD k default))) (z := 0) kpair rfl Try.underlying130 ty_3 (by exact rfl) (by exact rfl) hmb1 ?_
     intro s17 w17 hE17 hzw17 hm_new hst17
     have hs_w17 := (hE17).size
     replace hV := evo_step1 hV hE17 (by first | exact .inl (by omega) | exact .inr (by simp))
     replace hC14 := evo_step1 hC14 hE17 (by first | exact .inl (by omega) | exact .inr (by simp))
     replace hl := hl0 _ hV
     replace hmb1 := hm_new
     clear hm_new
     refine h_next hC14 ?_
     refine h_take (i := 13) (by exact rfl) rfl rfl rfl (by kernel_rfl) (fun w' hC => run_extract (v := .int _ _) rfl (by exact rfl) (by exact rfl)) hC14 ?_
     refine h_one (i := 6) (by kernel_rfl) ?_
     refine h_do (by exact rfl) ?_
     refine r_op rfl rfl rfl (run_lookup1 (a := (prG (l.getD k default))) (z := 0) (v := .int _ _) kpair rfl Try.underlying130 ty_3 (by exact rfl) (by exact rfl) hmb1 rfl) ?_
     refine h_next hC14 ?_
     refine h_take (i := 11) (by exact rfl) rfl rfl rfl (by kernel_rfl) (fun w' hC => run_add rfl (by exact rfl) (by exact rfl) (by omega) (by omega)) hC14 ?_
     refine h_one (i := 14) (by kernel_rfl) ?_
     refine h_do (by exact rfl) ?_
     refine r_entryStore (a := (prG (l.getD k default))) kpair (by exact rfl) (by exact rfl) (by exact rfl) hmb1 hst17 ?_
     intro w18 hE18 hzw18 hm_new
     have hs_w18 := (hE18).size
     replace hV := evo_step1 hV hE18 (by first | exact .inl (by omega) | exact .inr (by simp))
     replace hl := hl0 _ hV
     replace hmb1 := hm_new
     clear hm_new
     refine h_last (by kernel_rfl) ?_
     refine h_done (by kernel_rfl) ?_
     refine r_cut_end ?_ ?_
     ·refine ⟨_, hmb1, (by first | exact bumpF _ | exact bumpT _), (by first | assumption | omega | (dsimp only; omega) | (simp; done)), hV⟩
     ·repeat (first | (with_reducible exact Agree.merge _ _ _) | (with_reducible exact Agree.refl _ _) | (with_reducible refine Agree.upd ?_ _ _ rfl) | ((with_reducible refine Agree.inner ?_ ?_); (kernel_rfl)))
   ·rintro g w19 ⟨m2, hmb1, hm2, hzl11, hV⟩
    have hs_w19hV := hV.size
    have hlt20 := hmb1.lt
    replace hl := hl0 _ hV
    replace hA8 := hA80 _ hV
    refine r_blk ?_
    refine r_region ?_
    refine r_op rfl rfl rfl (run_add rfl (by exact rfl) (by exact rfl) (by omega) (by omega)) ?_
    refine r_op rfl rfl rfl (run_mv (v := .int _ _) rfl (by exact rfl)) ?_
    refine r_nil ?_
    refine r_again (k + 1) ?_ ?_ ?_
    ·first | omega | (dsimp only; omega)
    ·refine ⟨_, (by first | exact rfl | exact congrArg (Value.int _) (by omega) | exact congrArg (Value.int _) (by dsimp only; omega) | exact congrArg (Value.int _) (by simp) | exact congrArg S (by simp)), (by first | assumption | omega | (dsimp only; omega) | (simp; done)), hmb1, (hmm.step (by omega) hm2), (by first | assumption | omega | (dsimp only; omega) | (simp; done)), hV⟩
    ·repeat (first | (with_reducible exact Agree.merge _ _ _) | (with_reducible exact Agree.refl _ _) | (with_reducible refine Agree.upd ?_ _ _ rfl) | ((with_reducible refine Agree.inner ?_ ?_); (kernel_rfl)))
  ·skip
   refine r_exit rfl ?_
   refine r_seq ?_
   refine r_region ?_
   refine r_op rfl rfl rfl (run_mv (v := .map _) rfl (by exact rfl)) ?_
   refine r_op rfl rfl rfl (run_asg (v := .map _) rfl (by exact rfl)) ?_
   refine r_nil ?_
   refine r_ret (res1 (v := .map _) rfl (by exact rfl)) ?_
   exact ⟨_, _, rfl, hV, hmb1, by rw [List.take_of_length_le (by omega)] at hmm; exact hmm, by omega⟩

theorem occM_val {a : List Gram} {m : List ((Str × Str) × Int)} (h : OccM a m) (hn : (m.map (·.1)).Nodup) {p : (Str × Str) × Int} (hp : p ∈ m) : 0 ≤ p.2 ∧ p.2 ≤ a.length * 1073741824 := by
  have h2 : getM m p.1 = some p.2 := getM_of_memZ hn hp
  have h3 := h.get p.1
  rw [h2] at h3
  have h4 := occ_bd a p.1
  have h5 : p.2 = occL a p.1 := h3
  omega

set_option maxHeartbeats 1000000 in
theorem missing_calls {aoa aob : Option Addr} {ba offa capa bb offb capb : Nat} {a b : List Gram} {w0 : World} (ha : RowE w0 aoa ba offa capa a) (hb : RowE w0 aob bb offb capb b) (hsa : a.length ≤ 1000000) (hsb : b.length ≤ 1000000) :
    Calls Try.prog 50 #[.slice aoa a.length capa, .slice aob b.length capb] w0 fun e w' => e = .returned (.int .i64 (lackL a b)) ∧ Evo w0 w' [] := by
 refine calls_enter (n := 29) (args := [.slice aoa a.length capa, .slice aob b.length capb]) Try.func50 rfl Try.ntmps50 rfl ?_
 have hV : Evo w0 w0 [] := Evo.refl _ _
 have ha0 := keepE ha
 have hbd_ha := ha.bd
 have hb0 := keepE hb
 have hbd_hb := hb.bd
 refine r_seq ?_
 refine r_region ?_
 refine r_op rfl rfl rfl (run_asg (v := .int _ _) rfl (by exact rfl)) ?_
 refine r_nil ?_
 refine r_seq ?_
 refine r_region ?_
 refine r_op rfl rfl rfl (run_mv (v := .slice _ _ _) rfl (by exact rfl)) ?_
 refine r_opcall rfl rfl rfl (run_callf (vs := [.slice _ _ _]) rfl (by exact rfl) Try.func95 rfl (by kernel_rfl)) (occs_calls hb (by omega)) ?_
 rintro e w1 ⟨bM1, mM1, rfl, hE1, hM1, hOM1, hMB1⟩
 refine ⟨_, rfl, ?_⟩
 have hs_w1 := (hE1).size
 replace hV := evo_step0 hV hE1
 replace ha := ha0 _ hV
 replace hb := hb0 _ hV
 refine r_op rfl rfl rfl (run_asg (v := .map _) rfl (by exact rfl)) ?_
 refine r_nil ?_
 refine r_seq ?_
 refine r_region ?_
 refine r_op rfl rfl rfl (run_asg (v := .int _ _) rfl (by exact rfl)) ?_
 refine r_nil ?_
 refine r_seq ?_
 refine r_seq ?_
 have hmb1 := hM1.lt
 refine r_region ?_
 refine r_op rfl rfl rfl (run_mv (v := .slice _ _ _) rfl (by exact rfl)) ?_
 refine r_opcall rfl rfl rfl (run_callf (vs := [.slice _ _ _]) rfl (by exact rfl) Try.func95 rfl (by kernel_rfl)) (occs_calls ha (by omega)) ?_
 rintro e w2 ⟨bM2, mM2, rfl, hE2, hM2, hOM2, hMB2⟩
 refine ⟨_, rfl, ?_⟩
 have hs_w2 := (hE2).size
 replace hV := evo_step0 hV hE2
 replace ha := ha0 _ hV
 replace hb := hb0 _ hV
 replace hM1 := hM1.evo0 hE2
 refine r_range rfl Try.underlying130 (by exact rfl) hM2 ?_
 intro r3 w4 her3 hEw4 hir3 hzr3
 have hs_w4 := (hEw4).size
 replace hV := evo_step0 hV hEw4
 replace ha := ha0 _ hV
 replace hb := hb0 _ hV
 replace hM1 := hM1.evo0 hEw4
 replace hM2 := hM2.evo0 hEw4
 refine r_nil ?_
 refine r_block ?_
 have hmn := hir3.map.nodup; have hmlt := hM1.lt; have hilt := hir3.lt
 refine r_loop (α := List ((Str × Str) × Int)) [6, 7, 8, 14, 15, 16, 17, 18, 19, 20, 21, 22, 23, 24, 25, 26, 27] (fun left g w => ∃ la : Option ((Str × Str) × Int), ∃ dn : List ((Str × Str) × Int), g 6 = .int .i64 (satL b dn) ∧ IterIs w r3 bM2 (fun x : Str × Str => Value.agg (Enc.enc x).toArray) (Value.int .i64) mM2 left la ∧ MapIs w bM1 (fun x : Str × Str => Value.agg (Enc.enc x).toArray) (Value.int .i64) mM1 ∧ (dn ++ left).Perm mM2 ∧ w0.heap.size ≤ r3 ∧ w4.heap.size ≤ w.heap.size ∧ Evo w0 w []) (fun left => left.length) mM2 ?_ ?_
 ·refine ⟨_, [], (congrArg (Value.int _) (sat_nil b).symm), hir3, hM1, (by simp), (by first | assumption | omega | (dsimp only; omega) | (simp; done)), (by first | assumption | omega | (dsimp only; omega) | (simp; done)), hV⟩
 ·rintro left g w6 ⟨la, dn, hj7, hir3, hM1, hpm, hrl, hzl5, hV⟩
  have hs_w6hV := hV.size
  have hlt8 := hM1.lt
  replace ha := ha0 _ hV
  replace hb := hb0 _ hV
  refine r_know (i := 6) (v := .int .i64 (satL b dn)) (by exact hj7) ?_
  have hsb9 := sat_bd b dn
  refine r_seq ?_
  refine r_region ?_
  refine r_next rfl (by exact rfl) hir3 (fun hn9 => ?_) (fun l1_9 p9 l2_9 w9 hl9 hE9 hz9 hi_new => ?_)
  ·skip
   subst hn9
   refine r_op rfl rfl rfl (run_extract (v := .bool _) rfl (by exact rfl) (by exact rfl)) ?_
   refine r_nil ?_
   refine r_seq ?_
   refine r_cond_no (by exact rfl) ?_
   refine r_exit rfl ?_
   refine r_seq ?_
   refine r_region ?_
   refine r_op rfl rfl rfl (run_mv (v := .int _ _) rfl (by exact rfl)) ?_
   refine r_op rfl rfl rfl (run_asg (v := .int _ _) rfl (by exact rfl)) ?_
   refine r_nil ?_
   refine r_ret (res1 (v := .int _ _) rfl (by exact rfl)) ?_
   exact ⟨ret_int (sat_done hOM2 hmn (by simpa using hpm)), hV⟩
  ·skip
   have hs_w9 := (hE9).size
   replace hV := evo_step1 hV hE9 (by first | exact .inl (by omega) | exact .inr (by simp))
   replace ha := ha0 _ hV
   replace hb := hb0 _ hV
   replace hM1 := hM1.evo hE9 (by simp; omega)
   replace hir3 := hi_new
   clear hi_new
   refine r_op rfl rfl rfl (run_extract (v := .bool _) rfl (by exact rfl) (by exact rfl)) ?_
   refine r_nil ?_
   refine r_seq ?_
   refine r_cond_yes (by exact rfl) ?_
   refine r_skip ?_
   refine r_block ?_
   refine r_seq ?_
   refine r_region ?_
   refine r_op rfl rfl rfl (run_entryI rfl (by exact rfl) hir3) ?_
   refine r_op rfl rfl rfl (run_extract (v := .agg _) rfl (by exact rfl) (by exact rfl)) ?_
   refine r_op rfl rfl rfl (run_extract (v := .int _ _) rfl (by exact rfl) (by exact rfl)) ?_
   refine r_var (zs := [_, _]) (vs := [_, _]) ty_132 (by exact rfl) rfl (by exact rfl) (fun _ => rfl) (by exact rfl) rfl rfl (by exact rfl) ?_
   intro b10 w11 heb10 hEw11 hbb10 hzb10
   have hs_w11 := (hEw11).size
   replace hV := evo_step0 hV hEw11
   replace ha := ha0 _ hV
   replace hb := hb0 _ hV
   replace hM1 := hM1.evo0 hEw11
   replace hir3 := hir3.evo0 hEw11
   have hAb10 := hbb10.at
   refine r_op rfl rfl rfl (run_asg (v := .int _ _) rfl (by exact rfl)) ?_
   refine r_nil ?_
   have hoc := hOM1.get p9.1; have hob := occ_bd b p9.1; have hpv := occM_val (p := p9) hOM2 hmn (hpm.mem_iff.1 (List.mem_append_right _ (by rw [hl9]; simp)))
   have hpv2 : 0 ≤ p9.2 ∧ p9.2 ≤ a.length * 1073741824 := hpv
   refine r_region ?_
   refine r_op rfl rfl rfl (run_mv (v := .int _ _) rfl (by exact rfl)) ?_
   refine r_op rfl rfl rfl (run_mv (v := .int _ _) rfl (by exact rfl)) ?_
   refine r_op rfl rfl rfl (run_mv (v := .map _) rfl (by exact rfl)) ?_
   refine r_op rfl rfl rfl (run_ldN rfl ag_132 ty_132 (by exact rfl) rfl hAb10) ?_
   refine r_op rfl rfl rfl (run_lookup1 (a := p9.1) (z := 0) (v := .int _ _) kpair rfl Try.underlying130 ty_3 (by exact rfl) (by exact rfl) hM1 rfl) ?_
   refine r_op rfl rfl rfl (run_sub rfl (by exact rfl) (by exact rfl) (by omega) (by omega)) ?_
   refine r_op rfl rfl rfl (run_max rfl (by exact rfl) (by exact rfl)) ?_
   refine r_op rfl rfl rfl (run_add rfl (by exact rfl) (by exact rfl) (by omega) (by omega)) ?_
   refine r_op rfl rfl rfl (run_min rfl (by exact rfl) (by exact rfl)) ?_
   refine r_op rfl rfl rfl (run_asg (v := .int _ _) rfl (by exact rfl)) ?_
   refine r_nil ?_
   refine r_blk ?_
   refine r_again (l1_9 ++ l2_9) ?_ ?_ ?_
   ·rw [hl9]; simp
   ·refine ⟨_, (dn ++ [p9]), (congrArg (Value.int _) (by rw [sat_snoc, hOM1.get])), hir3, hM1, (by rw [hl9] at hpm; have h9 := perm_step (f := id) (g := dn) (x := p9) (m := mM2) (by rw [List.map_id]; exact hpm) rfl; rw [List.map_id] at h9; exact h9), (by first | assumption | omega | (dsimp only; omega) | (simp; done)), (by first | assumption | omega | (dsimp only; omega) | (simp; done)), hV⟩
   ·repeat (first | (with_reducible exact Agree.merge _ _ _) | (with_reducible exact Agree.refl _ _) | (with_reducible refine Agree.upd ?_ _ _ rfl) | ((with_reducible refine Agree.inner ?_ ?_); (kernel_rfl)))

theorem pr_and {x y : Gram} : (x.fst = y.fst ∧ x.snd = y.snd) ↔ prG x = prG y := by unfold prG; rw [Prod.mk.injEq]
theorem pr_or {x y : Gram} : (¬ x.fst = y.fst ∨ ¬ x.snd = y.snd) ↔ ¬ prG x = prG y := by rw [← pr_and, Classical.not_and_iff_not_or_not]
theorem clamp_alt (c : Int) : max 0 (min c 1073741824) = clampI c := by unfold clampI; omega
theorem occ_yes {l : List Gram} {k : Nat} {p : Str × Str} (hk : k < l.length) (h : prG (l.getD k default) = p) : occL (l.take k) p + max 0 (min (l.getD k default).count 1073741824) = occL (l.take (k + 1)) p := by rw [occ_snoc hk, if_pos h, clamp_alt]
theorem occ_no {l : List Gram} {k : Nat} {p : Str × Str} (hk : k < l.length) (h : ¬ prG (l.getD k default) = p) : occL (l.take k) p = occL (l.take (k + 1)) p := by rw [occ_snoc hk, if_neg h, Int.add_zero]
theorem first_step {a : List Gram} {k : Nat} {p : Str × Str} (hk : k < a.length) : (¬ p ∈ (a.take k).map prG ∧ ¬ prG (a.getD k default) = p) ↔ ¬ p ∈ (a.take (k + 1)).map prG := by
  rw [take_succD a k hk, List.map_append, List.mem_append]
  constructor
  · rintro ⟨h1, h2⟩ h
    rcases h with h | h
    · exact h1 h
    · have e : p = prG (a.getD k default) := by simpa using h
      exact h2 e.symm
  · intro h
    refine ⟨fun h1 => h (.inl h1), fun h2 => h (.inr ?_)⟩
    rw [← h2]; simp

theorem roccs_calls {ao : Option Addr} {b off cap : Nat} {l : List Gram} {x : Gram} {w0 : World} (hl : RowE w0 ao b off cap l) (hs : l.length ≤ 1000000) :
    Calls Try.prog 96 #[.slice ao l.length cap, .agg (Enc.enc x).toArray] w0 fun e w' => e = .returned (.int .i64 (occL l (prG x))) ∧ Evo w0 w' [] := by
 refine calls_enter (n := 34) (args := [.slice ao l.length cap, .agg (Enc.enc x).toArray]) Try.func96 rfl Try.ntmps96 rfl ?_
 have hV : Evo w0 w0 [] := Evo.refl _ _
 have hl0 := keepE hl
 have hbd_hl := hl.bd
 refine r_seq ?_
 refine r_region ?_
 refine r_box (vs := [_, _, _]) (by exact rfl) (by exact rfl) rfl ?_
 intro b1 w2 heb1 hEw2 hbb1 hzb1
 have hs_w2 := (hEw2).size
 replace hV := evo_step0 hV hEw2
 replace hl := hl0 _ hV
 have hAb1 := hbb1.at
 refine r_op rfl rfl rfl (run_asg (v := .int _ _) rfl (by exact rfl)) ?_
 refine r_nil ?_
 refine r_seq ?_
 refine r_region ?_
 refine r_op rfl rfl rfl (run_asg (v := .int _ _) rfl (by exact rfl)) ?_
 refine r_nil ?_
 refine r_seq ?_
 refine r_seq ?_
 refine r_region ?_
 refine r_op rfl rfl rfl (run_mv (v := .slice _ _ _) rfl (by exact rfl)) ?_
 refine r_op rfl rfl rfl (run_lenSl rfl (by exact rfl) Try.underlying67) ?_
 refine r_op rfl rfl rfl (run_mv (v := .int _ _) rfl (by exact rfl)) ?_
 refine r_nil ?_
 refine r_block ?_
 refine r_loop (α := Nat) [5, 7, 10, 11, 12, 13, 14, 15, 16, 17, 18, 19, 20, 21, 22, 23, 24, 25, 26, 27, 28, 29, 30, 31, 32] (fun k g w => g 10 = .int .i64 (k : Nat) ∧ g 5 = .int .i64 (occL (l.take k) (prG x)) ∧ k ≤ l.length ∧ Blk w b1 72 (Enc.enc x) ∧ At w b1 0 (Enc.enc x) ∧ w2.heap.size ≤ w.heap.size ∧ Evo w0 w []) (fun k => l.length - k) 0 ?_ ?_
 ·refine ⟨(by first | exact rfl | exact congrArg (Value.int _) (by omega) | exact congrArg (Value.int _) (by dsimp only; omega) | exact congrArg (Value.int _) (by simp) | exact congrArg S (by simp)), rfl, (by first | assumption | omega | (dsimp only; omega) | (simp; done)), hbb1, hAb1, (by first | assumption | omega | (dsimp only; omega) | (simp; done)), hV⟩
 ·rintro k g w4 ⟨hj5, hj6, hk_k, hbb1, hAb1, hzl3, hV⟩
  have hs_w4hV := hV.size
  have hlt7 := hbb1.lt
  replace hl := hl0 _ hV
  refine r_know (i := 10) (v := .int .i64 (k : Nat)) (by exact hj5) ?_
  refine r_know (i := 5) (v := .int .i64 (occL (l.take k) (prG x))) (by exact hj6) ?_
  refine r_seq ?_
  refine r_region ?_
  refine r_op rfl rfl rfl (run_lss rfl (by exact rfl) (by exact rfl)) ?_
  refine r_nil ?_
  refine r_seq ?_
  refine r_cond (by exact rfl) (fun hc8 => ?_) (fun hc8 => ?_)
  ·skip
   refine r_skip ?_
   refine r_seq ?_
   refine r_block ?_
   refine r_seq ?_
   refine r_region ?_
   refine r_op rfl rfl rfl (run_ix (k) rfl Try.underlying67 ty_72 (by exact rfl) (by exact rfl) (by first | exact rfl | omega) (by omega) (hl.addr (i := k) (by omega))) ?_
   have hA90 := fun (w' : World) (h : Evo w0 w' []) => (hl0 w' h).atD (k) (by omega)
   have hA9 := hA90 _ hV
   refine r_op rfl rfl rfl (run_ldN rfl ag_72 ty_72 (by exact rfl) rfl hA9) ?_
   refine r_var (zs := [_, _, _]) (vs := [_, _, _]) ty_72 (by exact rfl) rfl (by exact rfl) (fun _ => rfl) (by exact rfl) rfl rfl (by exact rfl) ?_
   intro b10 w11 heb10 hEw11 hbb10 hzb10
   have hs_w11 := (hEw11).size
   replace hV := evo_step0 hV hEw11
   replace hl := hl0 _ hV
   replace hbb1 := hbb1.evo0 hEw11
   replace hAb1 := hAb1.evo0 hEw11
   have hAb10 := hbb10.at
   refine r_nil ?_
   refine r_seq ?_
   refine r_region ?_
   refine r_op rfl rfl rfl (run_fa rfl (by exact rfl) fo_72_0) ?_
   refine r_op rfl rfl rfl (run_ld1 rfl ag_9 (by exact rfl) (hAb10.cell 0 (by exact rfl))) ?_
   refine r_op rfl rfl rfl (run_fa rfl (by exact rfl) fo_72_0) ?_
   refine r_op rfl rfl rfl (run_ld1 rfl ag_9 (by exact rfl) (hAb1.cell 0 (by exact rfl))) ?_
   refine r_op rfl rfl rfl (run_seql rfl (by exact rfl) (by exact rfl)) ?_
   refine r_op rfl rfl rfl (run_mv (v := .bool _) rfl (by exact rfl)) ?_
   refine r_g rfl (wantT (by exact rfl)) rfl (fun hg => run_fa rfl (by exact rfl) fo_72_1) ?_
   refine r_g rfl (wantT (by exact rfl)) rfl (fun hg => run_ld1 rfl ag_9 (glv (by exact rfl) (fun h => h) hg) (hAb10.cell 1 (by exact rfl))) ?_
   refine r_g rfl (wantT (by exact rfl)) rfl (fun hg => run_fa rfl (by exact rfl) fo_72_1) ?_
   refine r_g rfl (wantT (by exact rfl)) rfl (fun hg => run_ld1 rfl ag_9 (glv (by exact rfl) (fun h => h) hg) (hAb1.cell 1 (by exact rfl))) ?_
   refine r_g rfl (wantT (by exact rfl)) rfl (fun hg => run_seql rfl (glv (by exact rfl) (fun h => h) hg) (glv (by exact rfl) (fun h => h) hg)) ?_
   refine r_op rfl rfl rfl (run_pick_and rfl (by exact rfl) (fun hq => glv (by exact rfl) (fun h => h) hq) rfl) ?_
   refine r_nil ?_
   refine r_cond (by exact rfl) (fun hc12 => ?_) (fun hc12 => ?_)
   ·skip
    have hob := occ_bd (l.take k) (prG x); have hlt := List.length_take_le k l; have hcl := clampI_le (l.getD k default).count; have hce := clamp_alt (l.getD k default).count
    refine r_region ?_
    refine r_op rfl rfl rfl (run_mv (v := .int _ _) rfl (by exact rfl)) ?_
    refine r_op rfl rfl rfl (run_fa rfl (by exact rfl) fo_72_2) ?_
    refine r_op rfl rfl rfl (run_ld1 rfl ag_3 (by exact rfl) (hAb10.cell 2 (by exact rfl))) ?_
    refine r_op rfl rfl rfl (run_min rfl (by exact rfl) (by exact rfl)) ?_
    refine r_op rfl rfl rfl (run_max rfl (by exact rfl) (by exact rfl)) ?_
    refine r_op rfl rfl rfl (run_add rfl (by exact rfl) (by exact rfl) (by omega) (by omega)) ?_
    refine r_op rfl rfl rfl (run_asg (v := .int _ _) rfl (by exact rfl)) ?_
    refine r_nil ?_
    refine r_blk ?_
    refine r_region ?_
    refine r_op rfl rfl rfl (run_add rfl (by exact rfl) (by exact rfl) (by omega) (by omega)) ?_
    refine r_op rfl rfl rfl (run_mv (v := .int _ _) rfl (by exact rfl)) ?_
    refine r_nil ?_
    refine r_again (k + 1) ?_ ?_ ?_
    ·first | omega | (dsimp only; omega)
    ·refine ⟨(by first | exact rfl | exact congrArg (Value.int _) (by omega) | exact congrArg (Value.int _) (by dsimp only; omega) | exact congrArg (Value.int _) (by simp) | exact congrArg S (by simp)), (congrArg (Value.int _) (by first | exact occ_yes (by omega) (pr_and.1 hc12) | exact occ_no (by omega) (fun q => hc12 (pr_and.2 q)))), (by first | assumption | omega | (dsimp only; omega) | (simp; done)), hbb1, hAb1, (by first | assumption | omega | (dsimp only; omega) | (simp; done)), hV⟩
    ·repeat (first | (with_reducible exact Agree.merge _ _ _) | (with_reducible exact Agree.refl _ _) | (with_reducible refine Agree.upd ?_ _ _ rfl) | ((with_reducible refine Agree.inner ?_ ?_); (kernel_rfl)))
   ·skip
    refine r_skip ?_
    refine r_blk ?_
    refine r_region ?_
    refine r_op rfl rfl rfl (run_add rfl (by exact rfl) (by exact rfl) (by omega) (by omega)) ?_
    refine r_op rfl rfl rfl (run_mv (v := .int _ _) rfl (by exact rfl)) ?_
    refine r_nil ?_
    refine r_again (k + 1) ?_ ?_ ?_
    ·first | omega | (dsimp only; omega)
    ·refine ⟨(by first | exact rfl | exact congrArg (Value.int _) (by omega) | exact congrArg (Value.int _) (by dsimp only; omega) | exact congrArg (Value.int _) (by simp) | exact congrArg S (by simp)), (congrArg (Value.int _) (by first | exact occ_yes (by omega) (pr_and.1 hc12) | exact occ_no (by omega) (fun q => hc12 (pr_and.2 q)))), (by first | assumption | omega | (dsimp only; omega) | (simp; done)), hbb1, hAb1, (by first | assumption | omega | (dsimp only; omega) | (simp; done)), hV⟩
    ·repeat (first | (with_reducible exact Agree.merge _ _ _) | (with_reducible exact Agree.refl _ _) | (with_reducible refine Agree.upd ?_ _ _ rfl) | ((with_reducible refine Agree.inner ?_ ?_); (kernel_rfl)))
  ·skip
   refine r_exit rfl ?_
   refine r_seq ?_
   refine r_region ?_
   refine r_op rfl rfl rfl (run_mv (v := .int _ _) rfl (by exact rfl)) ?_
   refine r_op rfl rfl rfl (run_asg (v := .int _ _) rfl (by exact rfl)) ?_
   refine r_nil ?_
   refine r_ret (res1 (v := .int _ _) rfl (by exact rfl)) ?_
   exact ⟨ret_int (by rw [List.take_of_length_le (by omega)]), hV⟩

theorem getD_takeL {a : List Gram} {i k : Nat} (h : k < i) : (a.take i).getD k default = a.getD k default := by simp [List.getD, List.getElem?_take, h]
theorem first_step2 {a : List Gram} {i k : Nat} (hi : k < i) (hk : k < a.length) {y : Gram} : ((¬ prG y ∈ (a.take k).map prG) ∧ (¬ ((a.take i).getD k default).fst = y.fst ∨ ¬ ((a.take i).getD k default).snd = y.snd)) ↔ ¬ prG y ∈ (a.take (k + 1)).map prG := by
  rw [getD_takeL hi, pr_or]; exact first_step hk

set_option maxHeartbeats 1000000 in
theorem rmissing_calls {aoa aob : Option Addr} {ba offa capa bb offb capb : Nat} {a b : List Gram} {w0 : World} (ha : RowE w0 aoa ba offa capa a) (hb : RowE w0 aob bb offb capb b) (hsa : a.length ≤ 1000000) (hsb : b.length ≤ 1000000) :
    Calls Try.prog 51 #[.slice aoa a.length capa, .slice aob b.length capb] w0 fun e w' => e = .returned (.int .i64 (lackL a b)) ∧ Evo w0 w' [] := by
 refine calls_enter (n := 56) (args := [.slice aoa a.length capa, .slice aob b.length capb]) Try.func51 rfl Try.ntmps51 rfl ?_
 have hV : Evo w0 w0 [] := Evo.refl _ _
 have ha0 := keepE ha
 have hbd_ha := ha.bd
 have hb0 := keepE hb
 have hbd_hb := hb.bd
 refine r_seq ?_
 refine r_region ?_
 refine r_op rfl rfl rfl (run_asg (v := .int _ _) rfl (by exact rfl)) ?_
 refine r_nil ?_
 refine r_seq ?_
 refine r_region ?_
 refine r_op rfl rfl rfl (run_asg (v := .int _ _) rfl (by exact rfl)) ?_
 refine r_nil ?_
 refine r_seq ?_
 refine r_seq ?_
 refine r_region ?_
 refine r_op rfl rfl rfl (run_mv (v := .slice _ _ _) rfl (by exact rfl)) ?_
 refine r_op rfl rfl rfl (run_lenSl rfl (by exact rfl) Try.underlying67) ?_
 refine r_op rfl rfl rfl (run_mv (v := .int _ _) rfl (by exact rfl)) ?_
 refine r_nil ?_
 refine r_block ?_
 refine r_loop (α := Nat) [5, 6, 7, 8, 10, 13, 14, 15, 16, 17, 18, 19, 20, 21, 22, 23, 24, 25, 26, 27, 28, 29, 30, 31, 32, 33, 34, 35, 36, 37, 38, 39, 40, 41, 42, 43, 44, 45, 46, 47, 48, 49, 50, 51, 52, 53, 54] (fun i g w => g 13 = .int .i64 (i : Nat) ∧ g 5 = .int .i64 (lackK a b i) ∧ i ≤ a.length ∧ w0.heap.size ≤ w.heap.size ∧ Evo w0 w []) (fun i => a.length - i) 0 ?_ ?_
 ·refine ⟨(by first | exact rfl | exact congrArg (Value.int _) (by omega) | exact congrArg (Value.int _) (by dsimp only; omega) | exact congrArg (Value.int _) (by simp) | exact congrArg S (by simp)), rfl, (by first | assumption | omega | (dsimp only; omega) | (simp; done)), (by first | assumption | omega | (dsimp only; omega) | (simp; done)), hV⟩
 ·rintro i g w2 ⟨hj3, hj4, hk_i, hzl1, hV⟩
  have hs_w2hV := hV.size
  replace ha := ha0 _ hV
  replace hb := hb0 _ hV
  refine r_know (i := 13) (v := .int .i64 (i : Nat)) (by exact hj3) ?_
  refine r_know (i := 5) (v := .int .i64 (lackK a b i)) (by exact hj4) ?_
  refine r_seq ?_
  refine r_region ?_
  refine r_op rfl rfl rfl (run_lss rfl (by exact rfl) (by exact rfl)) ?_
  refine r_nil ?_
  refine r_seq ?_
  refine r_cond (by exact rfl) (fun hc5 => ?_) (fun hc5 => ?_)
  ·skip
   refine r_skip ?_
   refine r_seq ?_
   refine r_block ?_
   refine r_seq ?_
   refine r_region ?_
   refine r_op rfl rfl rfl (run_mv (v := .int _ _) rfl (by exact rfl)) ?_
   refine r_op rfl rfl rfl (run_ix (i) rfl Try.underlying67 ty_72 (by exact rfl) (by exact rfl) (by first | exact rfl | omega) (by omega) (ha.addr (i := i) (by omega))) ?_
   have hA60 := fun (w' : World) (h : Evo w0 w' []) => (ha0 w' h).atD (i) (by omega)
   have hA6 := hA60 _ hV
   refine r_op rfl rfl rfl (run_ldN rfl ag_72 ty_72 (by exact rfl) rfl hA6) ?_
   refine r_alloc (zs := [_, _, _]) ty_72 (by exact rfl) rfl ?_
   intro b7 w8 heb7 hEw8 hbb7 hzb7
   have hs_w8 := (hEw8).size
   replace hV := evo_step0 hV hEw8
   replace ha := ha0 _ hV
   replace hb := hb0 _ hV
   replace hA6 := hA60 _ hV
   have hAb7 := hbb7.at
   refine r_op rfl rfl rfl (run_asg (v := .int _ _) rfl (by exact rfl)) ?_
   refine r_store (v := .agg _) (vs := [_, _, _]) (cs' := [_, _, _]) (by exact rfl) (by exact rfl) hbb7 ty_72 (by exact rfl) rfl (by exact rfl) rfl (by exact rfl) ?_
   intro w9 hEw9 hzw9 hb_new
   have hs_w9 := (hEw9).size
   replace hV := evo_step1 hV hEw9 (by first | exact .inl (by omega) | exact .inr (by simp))
   replace ha := ha0 _ hV
   replace hb := hb0 _ hV
   replace hbb7 := hb_new
   have hAb7 := hbb7.at
   clear hb_new
   refine r_nil ?_
   refine r_seq ?_
   refine r_region ?_
   refine r_op rfl rfl rfl (run_asg (v := .bool _) rfl (by exact rfl)) ?_
   refine r_nil ?_
   refine r_seq ?_
   refine r_seq ?_
   have hki := List.length_take_of_le (show i ≤ a.length by omega)
   refine r_region ?_
   refine r_op rfl rfl rfl (run_mv (v := .slice _ _ _) rfl (by exact rfl)) ?_
   refine r_op rfl rfl rfl (run_mv (v := .int _ _) rfl (by exact rfl)) ?_
   refine r_op rfl rfl rfl (by exact run_slE (0) (i) rfl Try.underlying67 ty_72 (by exact rfl) ha lo0 (at1 (by exact rfl) (by omega)) (by first | omega | (simp; omega)) (by first | omega | (simp; omega)) List.drop_zero) ?_
   have hS100 := fun (w' : World) (h : Evo w0 w' []) => (by have h9 := ((ha0 w' h).take (i)).drop (0); rw [List.drop_zero] at h9; exact h9)
   have hS10 := (by have h9 := (ha.take (i)).drop (0); rw [List.drop_zero] at h9; exact h9)
   have hbd_hS10 := hS10.bd
   refine r_op rfl rfl rfl (run_lenSl rfl (by exact rfl) Try.underlying67) ?_
   refine r_op rfl rfl rfl (run_mv (v := .int _ _) rfl (by exact rfl)) ?_
   refine r_nil ?_
   refine r_block ?_
   refine r_loop (α := Nat) [8, 10, 22, 23, 24, 25, 26, 27, 28, 29, 30, 31, 32, 33, 34, 35, 36, 37, 38, 39, 40, 41] (fun k g w => g 22 = .int .i64 (k : Nat) ∧ g 8 = .bool (decide (¬ prG (a.getD i default) ∈ (a.take k).map prG)) ∧ k ≤ i ∧ Blk w b7 72 (Enc.enc (a.getD i default)) ∧ At w b7 0 (Enc.enc (a.getD i default)) ∧ w9.heap.size ≤ w.heap.size ∧ Evo w0 w []) (fun k => i - k) 0 ?_ ?_
   ·refine ⟨(by first | exact rfl | exact congrArg (Value.int _) (by omega) | exact congrArg (Value.int _) (by dsimp only; omega) | exact congrArg (Value.int _) (by simp) | exact congrArg S (by simp)), (by exact congrArg Value.bool (by simp)), (by first | assumption | omega | (dsimp only; omega) | (simp; done)), hbb7, hAb7, (by first | assumption | omega | (dsimp only; omega) | (simp; done)), hV⟩
   ·rintro k g w12 ⟨hj13, hj14, hk_k, hbb7, hAb7, hzl11, hV⟩
    have hs_w12hV := hV.size
    have hlt15 := hbb7.lt
    replace ha := ha0 _ hV
    replace hb := hb0 _ hV
    replace hA6 := hA60 _ hV
    replace hS10 := hS100 _ hV
    refine r_know (i := 22) (v := .int .i64 (k : Nat)) (by exact hj13) ?_
    refine r_know (i := 8) (v := .bool (decide (¬ prG (a.getD i default) ∈ (a.take k).map prG))) (by exact hj14) ?_
    refine r_seq ?_
    refine r_region ?_
    refine r_op rfl rfl rfl (run_lss rfl (by exact rfl) (by exact rfl)) ?_
    refine r_nil ?_
    refine r_seq ?_
    refine r_cond (by exact rfl) (fun hc16 => ?_) (fun hc16 => ?_)
    ·skip
     refine r_skip ?_
     refine r_seq ?_
     refine r_block ?_
     refine r_seq ?_
     refine r_region ?_
     refine r_op rfl rfl rfl (run_ix (k) rfl Try.underlying67 ty_72 (by exact rfl) (by exact rfl) (by first | exact rfl | omega) (by omega) (hS10.addr (i := k) (by omega))) ?_
     have hA170 := fun (w' : World) (h : Evo w0 w' []) => (hS100 w' h).atD (k) (by omega)
     have hA17 := hA170 _ hV
     refine r_op rfl rfl rfl (run_ldN rfl ag_72 ty_72 (by exact rfl) rfl hA17) ?_
     refine r_var (zs := [_, _, _]) (vs := [_, _, _]) ty_72 (by exact rfl) rfl (by exact rfl) (fun _ => rfl) (by exact rfl) rfl rfl (by exact rfl) ?_
     intro b18 w19 heb18 hEw19 hbb18 hzb18
     have hs_w19 := (hEw19).size
     replace hV := evo_step0 hV hEw19
     replace ha := ha0 _ hV
     replace hb := hb0 _ hV
     replace hbb7 := hbb7.evo0 hEw19
     replace hAb7 := hAb7.evo0 hEw19
     have hAb18 := hbb18.at
     refine r_nil ?_
     refine r_region ?_
     refine r_op rfl rfl rfl (run_mv (v := .bool _) rfl (by exact rfl)) ?_
     refine r_op rfl rfl rfl (run_mv (v := .bool _) rfl (by exact rfl)) ?_
     refine r_g rfl (wantT (by exact rfl)) rfl (fun hg => run_fa rfl (by exact rfl) fo_72_0) ?_
     refine r_g rfl (wantT (by exact rfl)) rfl (fun hg => run_ld1 rfl ag_9 (glv (by exact rfl) (fun h => h) hg) (hAb18.cell 0 (by exact rfl))) ?_
     refine r_g rfl (wantT (by exact rfl)) rfl (fun hg => run_fa rfl (by exact rfl) fo_72_0) ?_
     refine r_g rfl (wantT (by exact rfl)) rfl (fun hg => run_ld1 rfl ag_9 (glv (by exact rfl) (fun h => h) hg) (hAb7.cell 0 (by exact rfl))) ?_
     refine r_g rfl (wantT (by exact rfl)) rfl (fun hg => run_sneq rfl (glv (by exact rfl) (fun h => h) hg) (glv (by exact rfl) (fun h => h) hg)) ?_
     refine r_g rfl (wantT (by exact rfl)) rfl (fun hg => run_mv (v := .bool _) rfl (glv (by exact rfl) (fun h => h) hg)) ?_
     refine r_g rfl (wantFg (by exact rfl)) rfl (fun hg => run_fa rfl (by exact rfl) fo_72_1) ?_
     refine r_g rfl (wantFg (by exact rfl)) rfl (fun hg => run_ld1 rfl ag_9 (glv (by exact rfl) (fun h => h) hg) (hAb18.cell 1 (by exact rfl))) ?_
     refine r_g rfl (wantFg (by exact rfl)) rfl (fun hg => run_fa rfl (by exact rfl) fo_72_1) ?_
     refine r_g rfl (wantFg (by exact rfl)) rfl (fun hg => run_ld1 rfl ag_9 (glv (by exact rfl) (fun h => h) hg) (hAb7.cell 1 (by exact rfl))) ?_
     refine r_g rfl (wantFg (by exact rfl)) rfl (fun hg => run_sneq rfl (glv (by exact rfl) (fun h => h) hg) (glv (by exact rfl) (fun h => h) hg)) ?_
     refine r_g rfl (wantT (by exact rfl)) rfl (fun hg => run_pick_or rfl (glv (by exact rfl) (fun h => h) hg) rfl (fun hq => glv (by exact rfl) (fun h => h) (And.intro hg hq))) ?_
     refine r_op rfl rfl rfl (run_pick_and rfl (by exact rfl) (fun hq => glv (by exact rfl) (fun h => h) hq) rfl) ?_
     refine r_op rfl rfl rfl (run_asg (v := .bool _) rfl (by exact rfl)) ?_
     refine r_nil ?_
     refine r_blk ?_
     refine r_region ?_
     refine r_op rfl rfl rfl (run_add rfl (by exact rfl) (by exact rfl) (by omega) (by omega)) ?_
     refine r_op rfl rfl rfl (run_mv (v := .int _ _) rfl (by exact rfl)) ?_
     refine r_nil ?_
     refine r_again (k + 1) ?_ ?_ ?_
     ·first | omega | (dsimp only; omega)
     ·refine ⟨(by first | exact rfl | exact congrArg (Value.int _) (by omega) | exact congrArg (Value.int _) (by dsimp only; omega) | exact congrArg (Value.int _) (by simp) | exact congrArg S (by simp)), (congrArg Value.bool (decide_eq_decide.2 (first_step2 (by omega) (by omega)))), (by first | assumption | omega | (dsimp only; omega) | (simp; done)), hbb7, hAb7, (by first | assumption | omega | (dsimp only; omega) | (simp; done)), hV⟩
     ·repeat (first | (with_reducible exact Agree.merge _ _ _) | (with_reducible exact Agree.refl _ _) | (with_reducible refine Agree.upd ?_ _ _ rfl) | ((with_reducible refine Agree.inner ?_ ?_); (kernel_rfl)))
    ·skip
     refine r_exit rfl ?_
     refine r_seq ?_
     have hk9 : k = i := by omega
     refine r_region ?_
     refine r_op rfl rfl rfl (run_mv (v := .bool _) rfl (by exact rfl)) ?_
     refine r_nil ?_
     refine r_cond (by exact rfl) (fun hc20 => ?_) (fun hc20 => ?_)
     ·skip
      have ho1 := occ_bd a (prG (a.getD i default)); have ho2 := occ_bd b (prG (a.getD i default)); have hlk := lackK_bd a b i
      refine r_qregion (by kernel_rfl) (by kernel_rfl) ?_
      refine q_op rfl rfl rfl (fun w' hC => run_mv (v := .int _ _) rfl (by exact rfl)) ?_
      refine q_op rfl rfl rfl (fun w' hC => run_mv (v := .slice _ _ _) rfl (by exact rfl)) ?_
      refine q_op rfl rfl rfl (fun w' hC => run_ldN rfl ag_72 ty_72 (by exact rfl) rfl (hAb7.evo0 hC)) ?_
      refine q_call rfl rfl rfl (fun w' hC => run_callf rfl (argcons (v := .slice _ _ _) (by exact rfl) (argcons (v := .agg _) (by exact rfl) (rfl))) Try.func96 rfl (by kernel_rfl)) (fun w' hC => (roccs_calls (x := (a.getD i default)) (ha.evo0 hC) (by omega)).mono (fun e w'' h => ⟨h.1, evo_step0 hC h.2⟩)) ?_
      refine q_op rfl rfl rfl (fun w' hC => run_mv (v := .slice _ _ _) rfl (by exact rfl)) ?_
      refine q_op rfl rfl rfl (fun w' hC => run_ldN rfl ag_72 ty_72 (by exact rfl) rfl (hAb7.evo0 hC)) ?_
      refine q_call rfl rfl rfl (fun w' hC => run_callf rfl (argcons (v := .slice _ _ _) (by exact rfl) (argcons (v := .agg _) (by exact rfl) (rfl))) Try.func96 rfl (by kernel_rfl)) (fun w' hC => (roccs_calls (x := (a.getD i default)) (hb.evo0 hC) (by omega)).mono (fun e w'' h => ⟨h.1, evo_step0 hC h.2⟩)) ?_
      refine q_op rfl rfl rfl (fun w' hC => run_sub rfl (by exact rfl) (by exact rfl) (by omega) (by omega)) ?_
      refine q_op rfl rfl rfl (fun w' hC => run_max rfl (by exact rfl) (by exact rfl)) ?_
      refine q_op rfl rfl rfl (fun w' hC => run_add rfl (by exact rfl) (by exact rfl) (by omega) (by omega)) ?_
      refine q_op rfl rfl rfl (fun w' hC => run_min rfl (by exact rfl) (by exact rfl)) ?_
      refine q_op rfl rfl rfl (fun w' hC => run_asg (v := .int _ _) rfl (by exact rfl)) ?_
      refine q_nil (fun w21 hE22 => ?_)
      have hs_w21 := (hE22).size
      replace hV := evo_step0 hV hE22
      replace ha := ha0 _ hV
      replace hb := hb0 _ hV
      refine r_blk ?_
      refine r_region ?_
      refine r_op rfl rfl rfl (run_add rfl (by exact rfl) (by exact rfl) (by omega) (by omega)) ?_
      refine r_op rfl rfl rfl (run_mv (v := .int _ _) rfl (by exact rfl)) ?_
      refine r_nil ?_
      refine r_again (i + 1) ?_ ?_ ?_
      ·first | omega | (dsimp only; omega)
      ·refine ⟨(by first | exact rfl | exact congrArg (Value.int _) (by omega) | exact congrArg (Value.int _) (by dsimp only; omega) | exact congrArg (Value.int _) (by simp) | exact congrArg S (by simp)), (congrArg (Value.int _) (by first | exact lackK_new (by omega) (by simpa [hk9] using hc20) | exact lackK_skip (by omega) (by simpa [hk9] using hc20))), (by first | assumption | omega | (dsimp only; omega) | (simp; done)), (by first | assumption | omega | (dsimp only; omega) | (simp; done)), hV⟩
      ·repeat (first | (with_reducible exact Agree.merge _ _ _) | (with_reducible exact Agree.refl _ _) | (with_reducible refine Agree.upd ?_ _ _ rfl) | ((with_reducible refine Agree.inner ?_ ?_); (kernel_rfl)))
     ·skip
      refine r_skip ?_
      refine r_blk ?_
      refine r_region ?_
      refine r_op rfl rfl rfl (run_add rfl (by exact rfl) (by exact rfl) (by omega) (by omega)) ?_
      refine r_op rfl rfl rfl (run_mv (v := .int _ _) rfl (by exact rfl)) ?_
      refine r_nil ?_
      refine r_again (i + 1) ?_ ?_ ?_
      ·first | omega | (dsimp only; omega)
      ·refine ⟨(by first | exact rfl | exact congrArg (Value.int _) (by omega) | exact congrArg (Value.int _) (by dsimp only; omega) | exact congrArg (Value.int _) (by simp) | exact congrArg S (by simp)), (congrArg (Value.int _) (by first | exact lackK_new (by omega) (by simpa [hk9] using hc20) | exact lackK_skip (by omega) (by simpa [hk9] using hc20))), (by first | assumption | omega | (dsimp only; omega) | (simp; done)), (by first | assumption | omega | (dsimp only; omega) | (simp; done)), hV⟩
      ·repeat (first | (with_reducible exact Agree.merge _ _ _) | (with_reducible exact Agree.refl _ _) | (with_reducible refine Agree.upd ?_ _ _ rfl) | ((with_reducible refine Agree.inner ?_ ?_); (kernel_rfl)))
  ·skip
   refine r_exit rfl ?_
   refine r_seq ?_
   refine r_region ?_
   refine r_op rfl rfl rfl (run_mv (v := .int _ _) rfl (by exact rfl)) ?_
   refine r_op rfl rfl rfl (run_asg (v := .int _ _) rfl (by exact rfl)) ?_
   refine r_nil ?_
   refine r_ret (res1 (v := .int _ _) rfl (by exact rfl)) ?_
   exact ⟨ret_int (lackK_end (by omega)), hV⟩

end Go.Proofs.Ytomklacppmaljaa

namespace Go.Proofs.Ytomklacppmaljaa
open Go.RowKit Go.Vc

def abcL : List Str := [[97], [98], [99], []]
def wordsM (l : List Int) : List Str := (l.take 12).map (fun x => abcL.getD (x % 4).toNat default)
def wordsK (l : List Int) (k : Nat) : List Str := (l.take k).map (fun x => abcL.getD (x % 4).toNat default)
theorem wordsK_succ {l : List Int} {k : Nat} (hk : k < l.length) : wordsK l (k + 1) = wordsK l k ++ [abcL.getD ((l.getD k default) % 4).toNat default] := by unfold wordsK; rw [take_succD l k hk, List.map_append]; rfl
theorem wordsM_len (l : List Int) : (wordsM l).length ≤ 12 := by unfold wordsM; rw [List.length_map, List.length_take]; omega
theorem wordsK_len (l : List Int) (k : Nat) : (wordsK l k).length ≤ k := by unfold wordsK; rw [List.length_map, List.length_take]; omega
theorem words_done {l : List Int} {k : Nat} (h : ¬ ((k : Int) < (l.length : Int) ∧ (k : Int) < 12)) (hk : k ≤ l.length) (hk2 : k ≤ 12) : wordsK l k = wordsM l := by
  unfold wordsK wordsM
  rcases Nat.lt_or_ge k 12 with h1 | h1
  · have : l.length ≤ k := by omega
    rw [List.take_of_length_le this, List.take_of_length_le (by omega)]
  · have : k = 12 := by omega
    rw [this]

theorem wordsm_calls {aol : Option Addr} {bl offl capl : Nat} {l : List Int} {w0 : World} (hl : RowE w0 aol bl offl capl l) :
    Calls Try.prog 49 #[.slice aol l.length capl] w0 fun e w' => ∃ v, e = .returned v ∧ Evo w0 w' [] ∧ OwnE w' w0.heap.size 9 v (wordsM l) := by
 refine calls_enter (n := 27) (args := [.slice aol l.length capl]) Try.func49 rfl Try.ntmps49 rfl ?_
 have hV : Evo w0 w0 [] := Evo.refl _ _
 have hl0 := keepE hl
 have hbd_hl := hl.bd
 refine r_seq ?_
 refine r_region ?_
 refine r_op rfl rfl rfl (run_asg (v := .slice _ _ _) rfl (by exact rfl)) ?_
 refine r_nil ?_
 refine r_seq ?_
 refine r_region ?_
 refine r_op rfl rfl rfl (run_asg (v := .slice _ _ _) rfl (by exact rfl)) ?_
 refine r_nil ?_
 refine r_seq ?_
 refine r_seq ?_
 refine r_region ?_
 refine r_op rfl rfl rfl (run_asg (v := .int _ _) rfl (by exact rfl)) ?_
 refine r_nil ?_
 refine r_block ?_
 refine r_loop (α := Nat) [3, 4, 5, 6, 7, 8, 9, 10, 11, 12, 13, 14, 15, 16, 17, 18, 19, 20, 21, 22, 23, 24, 25] (fun k g w => ∃ vo : Value, g 4 = .int .i64 (k : Nat) ∧ g 3 = vo ∧ k ≤ l.length ∧ k ≤ 12 ∧ OwnE w w0.heap.size 9 vo (wordsK l k) ∧ w0.heap.size ≤ w.heap.size ∧ Evo w0 w []) (fun k => l.length - k) 0 ?_ ?_
 ·refine ⟨_, rfl, rfl, (by first | assumption | omega | (dsimp only; omega) | (simp; done)), (by first | assumption | omega | (dsimp only; omega) | (simp; done)), (OwnE.nil _ _ _), (by first | assumption | omega | (dsimp only; omega) | (simp; done)), hV⟩
 ·rintro k g w2 ⟨vo, hj3, hj4, hk1, hk2, hoo, hzl1, hV⟩
  have hs_w2hV := hV.size
  replace hl := hl0 _ hV
  refine r_know (i := 4) (v := .int .i64 (k : Nat)) (by exact hj3) ?_
  refine r_know (i := 3) (v := vo) (by exact hj4) ?_
  refine r_seq ?_
  refine r_seq ?_
  refine r_region ?_
  refine r_op rfl rfl rfl (run_mv (v := .int _ _) rfl (by exact rfl)) ?_
  refine r_op rfl rfl rfl (run_mv (v := .slice _ _ _) rfl (by exact rfl)) ?_
  refine r_op rfl rfl rfl (run_lenSl rfl (by exact rfl) Try.underlying23) ?_
  refine r_op rfl rfl rfl (run_lss rfl (by exact rfl) (by exact rfl)) ?_
  refine r_op rfl rfl rfl (run_mv (v := .bool _) rfl (by exact rfl)) ?_
  refine r_g rfl (wantT (by exact rfl)) rfl (fun hg => run_mv (v := .int _ _) rfl (by exact rfl)) ?_
  refine r_g rfl (wantT (by exact rfl)) rfl (fun hg => run_lss rfl (glv (by exact rfl) (fun h => h) hg) (by exact rfl)) ?_
  refine r_op rfl rfl rfl (run_pick_and rfl (by exact rfl) (fun hq => glv (by exact rfl) (fun h => h) hq) rfl) ?_
  refine r_nil ?_
  refine r_cond (by exact rfl) (fun hc5 => ?_) (fun hc5 => ?_)
  ·skip
   refine r_skip ?_
   refine r_seq ?_
   refine r_block ?_
   have hm0 := Int.emod_nonneg (l.getD k default) (show (4 : Int) ≠ 0 by decide); have hm1 := Int.emod_lt_of_pos (l.getD k default) (show (0 : Int) < 4 by decide); have hwl := wordsK_len l k
   refine r_region ?_
   refine r_op rfl rfl rfl (run_mv (v := vo) rfl (by exact rfl)) ?_
   refine r_bslice (pv := [(0, S _), (1, S _), (2, S _), (3, S _)]) (zs := [_]) (cs := [_, _, _, _]) Try.underlying34 ty_9 (by exact rfl) rfl (by exact rfl) rfl (by exact rfl) ?_
   intro b6 w7 heb6 hEw7 hbb6 hzb6
   have hs_w7 := (hEw7).size
   replace hV := evo_step0 hV hEw7
   replace hl := hl0 _ hV
   replace hoo := hoo.evo0 hEw7
   have hAb6 := hbb6.at
   have hrb6 : RowE w7 (some ⟨b6, 0, none⟩) b6 0 4 abcL := rowLit abcL hbb6 rfl rfl
   refine r_op rfl rfl rfl (run_mv (v := .slice _ _ _) rfl (by exact rfl)) ?_
   refine r_op rfl rfl rfl (run_mv (v := .int _ _) rfl (by exact rfl)) ?_
   refine r_op rfl rfl rfl (run_ix (k) rfl Try.underlying23 ty_3 (by exact rfl) (by exact rfl) (by first | exact rfl | omega) (by omega) (hl.addr (i := k) (by omega))) ?_
   have hA80 := fun (w' : World) (h : Evo w0 w' []) => (hl0 w' h).atD (k) (by omega)
   have hA8 := hA80 _ hV
   refine r_op rfl rfl rfl (run_ld1 rfl ag_3 (by exact rfl) (hA8.cell 0 (by exact rfl))) ?_
   refine r_opcall rfl rfl rfl (run_callf (vs := [.int _ _, .int _ _]) rfl (by exact rfl) Try.func33 rfl (by kernel_rfl)) (iplace_calls _ _ (by omega) (by omega)) ?_
   rintro e w9 ⟨rfl, rfl⟩
   refine ⟨_, rfl, ?_⟩
   refine r_op rfl rfl rfl (run_ix (((l.getD k default) % 4).toNat) rfl Try.underlying34 ty_9 (by exact rfl) (by exact rfl) (by omega) (by show _ < 4; omega) (hrb6.addr (i := ((l.getD k default) % 4).toNat) (by show _ < 4; omega))) ?_
   have hA10 := hrb6.atD (((l.getD k default) % 4).toNat) (by show _ < 4; omega)
   refine r_op rfl rfl rfl (run_ld1 rfl ag_9 (by exact rfl) (hA10.cell 0 (by exact rfl))) ?_
   refine r_append1E (u := S _) (y := _) rfl rfl Try.underlying34 ty_9 (by exact rfl) hoo (fun _ => (by exact rfl)) (by exact rfl) (by first | exact rfl | (show _ = List.toArray [_]; first | (dsimp only; done) | exact rfl | (dsimp only; exact rfl))) ((by omega)) ((by omega)) (by omega) ?_
   intro q_v11 v11 w12 hEw12 hov11 hlv11
   have hs_w12 := (hEw12).size
   replace hV := evo_stepo hV hEw12 (fun g hg => .inl (by first | exact (hoo.block hg).1 | (have := hoo.block hg; omega)))
   replace hl := hl0 _ hV
   refine r_op rfl rfl rfl (run_asg (v := v11) rfl (by exact rfl)) ?_
   refine r_nil ?_
   refine r_blk ?_
   refine r_region ?_
   refine r_op rfl rfl rfl (run_mv (v := .int _ _) rfl (by exact rfl)) ?_
   refine r_op rfl rfl rfl (run_add rfl (by exact rfl) (by exact rfl) (by omega) (by omega)) ?_
   refine r_op rfl rfl rfl (run_asg (v := .int _ _) rfl (by exact rfl)) ?_
   refine r_nil ?_
   refine r_again (k + 1) ?_ ?_ ?_
   ·first | omega | (dsimp only; omega)
   ·refine ⟨_, (congrArg (Value.int _) (by omega)), rfl, (by first | assumption | omega | (dsimp only; omega) | (simp; done)), (by first | assumption | omega | (dsimp only; omega) | (simp; done)), (by rw [wordsK_succ (by omega)]; exact hov11), (by first | assumption | omega | (dsimp only; omega) | (simp; done)), hV⟩
   ·repeat (first | (with_reducible exact Agree.merge _ _ _) | (with_reducible exact Agree.refl _ _) | (with_reducible refine Agree.upd ?_ _ _ rfl) | ((with_reducible refine Agree.inner ?_ ?_); (kernel_rfl)))
  ·skip
   refine r_exit rfl ?_
   refine r_seq ?_
   refine r_region ?_
   refine r_op rfl rfl rfl (run_mv (v := vo) rfl (by exact rfl)) ?_
   refine r_op rfl rfl rfl (run_asg (v := vo) rfl (by exact rfl)) ?_
   refine r_nil ?_
   refine r_ret (res1 (v := vo) rfl (by exact rfl)) ?_
   exact ⟨_, rfl, hV, by rw [words_done hc5 hk1 hk2] at hoo; exact hoo⟩

end Go.Proofs.Ytomklacppmaljaa

namespace Go.Proofs.Ytomklacppmaljaa
open Go.RowKit Go.Vc

def clB (x : Vc.Item) : Prop := 2 ≤ x.kind ∧ x.kind ≤ 9
instance (x : Vc.Item) : Decidable (clB x) := by unfold clB; infer_instance
def tgB (x : Vc.Item) : Prop := 2 ≤ x.kind ∧ x.kind ≤ 4
instance (x : Vc.Item) : Decidable (tgB x) := by unfold tgB; infer_instance
def clV (x : Vc.Item) : Vc.Item := if 5 ≤ x.kind ∧ x.kind ≤ 9 then ⟨x.kind, keyT x, 0⟩ else ⟨x.kind, x.text, 0⟩
theorem clV_in {x : Vc.Item} (h : 5 ≤ x.kind ∧ x.kind ≤ 9) : (⟨x.kind, keyT x, 0⟩ : Vc.Item) = clV x := (if_pos h).symm
theorem clV_out {x : Vc.Item} (h : ¬ (5 ≤ x.kind ∧ x.kind ≤ 9)) : (⟨x.kind, x.text, 0⟩ : Vc.Item) = clV x := (if_neg h).symm
theorem ret_cl {a b : Vc.Item} {p q : Bool} (h : a = b) (h2 : p = q) : Ending.returned (.tuple #[.agg (Enc.enc a).toArray, .bool p]) = .returned (.tuple #[.agg (Enc.enc b).toArray, .bool q]) := by rw [h, h2]
def wK (k : Int) : Int := if k = 6 ∨ k = 5 then 4 else if k = 7 ∨ (2 ≤ k ∧ k ≤ 4) then 3 else if k = 9 then 2 else if k = 8 then 1 else 0
theorem wK4 {k : Int} (h : k = 6 ∨ k = 5) : (4 : Int) = wK k := by unfold wK; rw [if_pos h]
theorem wK3 {k : Int} (h : k = 7 ∨ (2 ≤ k ∧ k ≤ 4)) : (3 : Int) = wK k := by unfold wK; rw [if_neg (by omega), if_pos h]
theorem wK2 {k : Int} (h : k = 9) : (2 : Int) = wK k := by unfold wK; rw [if_neg (by omega), if_neg (by omega), if_pos h]
theorem wK1 {k : Int} (h : k = 8) : (1 : Int) = wK k := by unfold wK; rw [if_neg (by omega), if_neg (by omega), if_neg (by omega), if_pos h]
theorem wK0 {k : Int} (h : ¬ (2 ≤ k ∧ k ≤ 9)) : (0 : Int) = wK k := by unfold wK; rw [if_neg (by omega), if_neg (by omega), if_neg (by omega), if_neg (by omega)]
theorem wK_bd (k : Int) : 0 ≤ wK k ∧ wK k ≤ 4 := by unfold wK; split; omega; split; omega; split; omega; split <;> omega

theorem sgtag_calls {x : Vc.Item} {w0 : World}  :
    Calls Try.prog 98 #[.agg (Enc.enc x).toArray] w0 fun e w' => e = .returned (.bool (decide (tgB x))) ∧ Evo w0 w' [] := by
 refine calls_enter (n := 16) (args := [.agg (Enc.enc x).toArray]) Try.func98 rfl Try.ntmps98 rfl ?_
 have hV : Evo w0 w0 [] := Evo.refl _ _
 refine r_seq ?_
 refine r_region ?_
 refine r_box (vs := [_, _, _]) (by exact rfl) (by exact rfl) rfl ?_
 intro b1 w2 heb1 hEw2 hbb1 hzb1
 have hs_w2 := (hEw2).size
 replace hV := evo_step0 hV hEw2
 have hAb1 := hbb1.at
 refine r_op rfl rfl rfl (run_asg (v := .bool _) rfl (by exact rfl)) ?_
 refine r_nil ?_
 refine r_seq ?_
 refine r_region ?_
 refine r_op rfl rfl rfl (run_fa rfl (by exact rfl) fo_81_0) ?_
 refine r_op rfl rfl rfl (run_ld1 rfl ag_3 (by exact rfl) (hAb1.cell 0 (by exact rfl))) ?_
 refine r_op rfl rfl rfl (run_eql rfl (by exact rfl) (by exact rfl)) ?_
 refine r_op rfl rfl rfl (run_mv (v := .bool _) rfl (by exact rfl)) ?_
 refine r_g rfl (wantF (by exact rfl)) rfl (fun hg => run_fa rfl (by exact rfl) fo_81_0) ?_
 refine r_g rfl (wantF (by exact rfl)) rfl (fun hg => run_ld1 rfl ag_3 (glv (by exact rfl) (fun h => h) hg) (hAb1.cell 0 (by exact rfl))) ?_
 refine r_g rfl (wantF (by exact rfl)) rfl (fun hg => run_eql rfl (glv (by exact rfl) (fun h => h) hg) (by exact rfl)) ?_
 refine r_op rfl rfl rfl (run_pick_or rfl (by exact rfl) rfl (fun hq => glv (by exact rfl) (fun h => h) hq)) ?_
 refine r_op rfl rfl rfl (run_mv (v := .bool _) rfl (by exact rfl)) ?_
 refine r_g rfl (wantF (by exact rfl)) rfl (fun hg => run_fa rfl (by exact rfl) fo_81_0) ?_
 refine r_g rfl (wantF (by exact rfl)) rfl (fun hg => run_ld1 rfl ag_3 (glv (by exact rfl) (fun h => h) hg) (hAb1.cell 0 (by exact rfl))) ?_
 refine r_g rfl (wantF (by exact rfl)) rfl (fun hg => run_eql rfl (glv (by exact rfl) (fun h => h) hg) (by exact rfl)) ?_
 refine r_op rfl rfl rfl (run_pick_or rfl (by exact rfl) rfl (fun hq => glv (by exact rfl) (fun h => h) hq)) ?_
 refine r_op rfl rfl rfl (run_asg (v := .bool _) rfl (by exact rfl)) ?_
 refine r_nil ?_
 refine r_ret (res1 (v := .bool _) rfl (by exact rfl)) ?_
 exact ⟨ret_bool (decide_eq_decide.2 (by unfold tgB; omega)), hV⟩

theorem weight_calls {x : Vc.Item} {w0 : World}  :
    Calls Try.prog 99 #[.agg (Enc.enc x).toArray] w0 fun e w' => e = .returned (.int .i64 (wK x.kind)) ∧ Evo w0 w' [] := by
 refine calls_enter (n := 17) (args := [.agg (Enc.enc x).toArray]) Try.func99 rfl Try.ntmps99 rfl ?_
 have hV : Evo w0 w0 [] := Evo.refl _ _
 refine r_seq ?_
 refine r_region ?_
 refine r_box (vs := [_, _, _]) (by exact rfl) (by exact rfl) rfl ?_
 intro b1 w2 heb1 hEw2 hbb1 hzb1
 have hs_w2 := (hEw2).size
 replace hV := evo_step0 hV hEw2
 have hAb1 := hbb1.at
 refine r_op rfl rfl rfl (run_asg (v := .int _ _) rfl (by exact rfl)) ?_
 refine r_nil ?_
 refine r_seq ?_
 refine r_seq ?_
 refine r_region ?_
 refine r_op rfl rfl rfl (run_fa rfl (by exact rfl) fo_81_0) ?_
 refine r_op rfl rfl rfl (run_ld1 rfl ag_3 (by exact rfl) (hAb1.cell 0 (by exact rfl))) ?_
 refine r_nil ?_
 refine r_block ?_
 refine r_seq ?_
 refine r_seq ?_
 refine r_region ?_
 refine r_op rfl rfl rfl (run_eql rfl (by exact rfl) (by exact rfl)) ?_
 refine r_op rfl rfl rfl (run_asg (v := .bool _) rfl (by exact rfl)) ?_
 refine r_nil ?_
 refine r_cond (by exact rfl) (fun hc3 => ?_) (fun hc3 => ?_)
 ·skip
  refine r_skip ?_
  refine r_condT (by exact rfl) hc3 ?_
  refine r_seq ?_
  refine r_region ?_
  refine r_op rfl rfl rfl (run_asg (v := .int _ _) rfl (by exact rfl)) ?_
  refine r_nil ?_
  refine r_ret (res1 (v := .int _ _) rfl (by exact rfl)) ?_
  exact ⟨ret_int (by first | exact wK4 (by omega) | exact wK3 (by omega) | exact wK2 (by omega) | exact wK1 (by omega) | exact wK0 (by omega)), hV⟩
 ·skip
  refine r_region ?_
  refine r_op rfl rfl rfl (run_eql rfl (by exact rfl) (by exact rfl)) ?_
  refine r_op rfl rfl rfl (run_asg (v := .bool _) rfl (by exact rfl)) ?_
  refine r_nil ?_
  refine r_cond (by exact rfl) (fun hc4 => ?_) (fun hc4 => ?_)
  ·skip
   refine r_seq ?_
   refine r_region ?_
   refine r_op rfl rfl rfl (run_asg (v := .int _ _) rfl (by exact rfl)) ?_
   refine r_nil ?_
   refine r_ret (res1 (v := .int _ _) rfl (by exact rfl)) ?_
   exact ⟨ret_int (by first | exact wK4 (by omega) | exact wK3 (by omega) | exact wK2 (by omega) | exact wK1 (by omega) | exact wK0 (by omega)), hV⟩
  ·skip
   refine r_seq ?_
   refine r_seq ?_
   refine r_region ?_
   refine r_op rfl rfl rfl (run_eql rfl (by exact rfl) (by exact rfl)) ?_
   refine r_op rfl rfl rfl (run_asg (v := .bool _) rfl (by exact rfl)) ?_
   refine r_nil ?_
   refine r_cond (by exact rfl) (fun hc5 => ?_) (fun hc5 => ?_)
   ·skip
    refine r_skip ?_
    refine r_condT (by exact rfl) hc5 ?_
    refine r_seq ?_
    refine r_region ?_
    refine r_op rfl rfl rfl (run_asg (v := .int _ _) rfl (by exact rfl)) ?_
    refine r_nil ?_
    refine r_ret (res1 (v := .int _ _) rfl (by exact rfl)) ?_
    exact ⟨ret_int (by first | exact wK4 (by omega) | exact wK3 (by omega) | exact wK2 (by omega) | exact wK1 (by omega) | exact wK0 (by omega)), hV⟩
   ·skip
    refine r_seq ?_
    refine r_region ?_
    refine r_op rfl rfl rfl (run_eql rfl (by exact rfl) (by exact rfl)) ?_
    refine r_op rfl rfl rfl (run_asg (v := .bool _) rfl (by exact rfl)) ?_
    refine r_nil ?_
    refine r_cond (by exact rfl) (fun hc6 => ?_) (fun hc6 => ?_)
    ·skip
     refine r_skip ?_
     refine r_condT (by exact rfl) hc6 ?_
     refine r_seq ?_
     refine r_region ?_
     refine r_op rfl rfl rfl (run_asg (v := .int _ _) rfl (by exact rfl)) ?_
     refine r_nil ?_
     refine r_ret (res1 (v := .int _ _) rfl (by exact rfl)) ?_
     exact ⟨ret_int (by first | exact wK4 (by omega) | exact wK3 (by omega) | exact wK2 (by omega) | exact wK1 (by omega) | exact wK0 (by omega)), hV⟩
    ·skip
     refine r_seq ?_
     refine r_region ?_
     refine r_op rfl rfl rfl (run_eql rfl (by exact rfl) (by exact rfl)) ?_
     refine r_op rfl rfl rfl (run_asg (v := .bool _) rfl (by exact rfl)) ?_
     refine r_nil ?_
     refine r_cond (by exact rfl) (fun hc7 => ?_) (fun hc7 => ?_)
     ·skip
      refine r_skip ?_
      refine r_condT (by exact rfl) hc7 ?_
      refine r_seq ?_
      refine r_region ?_
      refine r_op rfl rfl rfl (run_asg (v := .int _ _) rfl (by exact rfl)) ?_
      refine r_nil ?_
      refine r_ret (res1 (v := .int _ _) rfl (by exact rfl)) ?_
      exact ⟨ret_int (by first | exact wK4 (by omega) | exact wK3 (by omega) | exact wK2 (by omega) | exact wK1 (by omega) | exact wK0 (by omega)), hV⟩
     ·skip
      refine r_region ?_
      refine r_op rfl rfl rfl (run_eql rfl (by exact rfl) (by exact rfl)) ?_
      refine r_op rfl rfl rfl (run_asg (v := .bool _) rfl (by exact rfl)) ?_
      refine r_nil ?_
      refine r_cond (by exact rfl) (fun hc8 => ?_) (fun hc8 => ?_)
      ·skip
       refine r_seq ?_
       refine r_region ?_
       refine r_op rfl rfl rfl (run_asg (v := .int _ _) rfl (by exact rfl)) ?_
       refine r_nil ?_
       refine r_ret (res1 (v := .int _ _) rfl (by exact rfl)) ?_
       exact ⟨ret_int (by first | exact wK4 (by omega) | exact wK3 (by omega) | exact wK2 (by omega) | exact wK1 (by omega) | exact wK0 (by omega)), hV⟩
      ·skip
       refine r_seq ?_
       refine r_region ?_
       refine r_op rfl rfl rfl (run_eql rfl (by exact rfl) (by exact rfl)) ?_
       refine r_op rfl rfl rfl (run_asg (v := .bool _) rfl (by exact rfl)) ?_
       refine r_nil ?_
       refine r_cond (by exact rfl) (fun hc9 => ?_) (fun hc9 => ?_)
       ·skip
        refine r_seq ?_
        refine r_region ?_
        refine r_op rfl rfl rfl (run_asg (v := .int _ _) rfl (by exact rfl)) ?_
        refine r_nil ?_
        refine r_ret (res1 (v := .int _ _) rfl (by exact rfl)) ?_
        exact ⟨ret_int (by first | exact wK4 (by omega) | exact wK3 (by omega) | exact wK2 (by omega) | exact wK1 (by omega) | exact wK0 (by omega)), hV⟩
       ·skip
        refine r_seq ?_
        refine r_region ?_
        refine r_op rfl rfl rfl (run_eql rfl (by exact rfl) (by exact rfl)) ?_
        refine r_op rfl rfl rfl (run_asg (v := .bool _) rfl (by exact rfl)) ?_
        refine r_nil ?_
        refine r_cond (by exact rfl) (fun hc10 => ?_) (fun hc10 => ?_)
        ·skip
         refine r_seq ?_
         refine r_region ?_
         refine r_op rfl rfl rfl (run_asg (v := .int _ _) rfl (by exact rfl)) ?_
         refine r_nil ?_
         refine r_ret (res1 (v := .int _ _) rfl (by exact rfl)) ?_
         exact ⟨ret_int (by first | exact wK4 (by omega) | exact wK3 (by omega) | exact wK2 (by omega) | exact wK1 (by omega) | exact wK0 (by omega)), hV⟩
        ·skip
         refine r_skip ?_
         refine r_blk ?_
         refine r_seq ?_
         refine r_region ?_
         refine r_op rfl rfl rfl (run_asg (v := .int _ _) rfl (by exact rfl)) ?_
         refine r_nil ?_
         refine r_ret (res1 (v := .int _ _) rfl (by exact rfl)) ?_
         exact ⟨ret_int (by first | exact wK4 (by omega) | exact wK3 (by omega) | exact wK2 (by omega) | exact wK1 (by omega) | exact wK0 (by omega)), hV⟩

set_option maxHeartbeats 1000000 in
theorem class2_calls {x : Vc.Item} {w0 : World} (hx : x.text.length ≤ 140737488355328) :
    Calls Try.prog 97 #[.agg (Enc.enc x).toArray] w0 fun e w' => e = .returned (.tuple #[.agg (Enc.enc (clV x)).toArray, .bool (decide (clB x))]) ∧ Evo w0 w' [] := by
 refine calls_enter (n := 24) (args := [.agg (Enc.enc x).toArray]) Try.func97 rfl Try.ntmps97 rfl ?_
 have hV : Evo w0 w0 [] := Evo.refl _ _
 refine r_seq ?_
 refine r_region ?_
 refine r_box (vs := [_, _, _]) (by exact rfl) (by exact rfl) rfl ?_
 intro b1 w2 heb1 hEw2 hbb1 hzb1
 have hs_w2 := (hEw2).size
 replace hV := evo_step0 hV hEw2
 have hAb1 := hbb1.at
 refine r_alloc (zs := [_, _, _]) ty_81 (by exact rfl) rfl ?_
 intro b3 w4 heb3 hEw4 hbb3 hzb3
 have hs_w4 := (hEw4).size
 replace hV := evo_step0 hV hEw4
 replace hbb1 := hbb1.evo0 hEw4
 replace hAb1 := hAb1.evo0 hEw4
 have hAb3 := hbb3.at
 refine r_op rfl rfl rfl (run_asg (v := .bool _) rfl (by exact rfl)) ?_
 refine r_nil ?_
 refine r_seq ?_
 refine r_seq ?_
 refine r_region ?_
 refine r_op rfl rfl rfl (run_fa rfl (by exact rfl) fo_81_0) ?_
 refine r_op rfl rfl rfl (run_ld1 rfl ag_3 (by exact rfl) (hAb1.cell 0 (by exact rfl))) ?_
 refine r_nil ?_
 refine r_block ?_
 refine r_seq ?_
 refine r_seq ?_
 refine r_region ?_
 refine r_op rfl rfl rfl (run_eql rfl (by exact rfl) (by exact rfl)) ?_
 refine r_op rfl rfl rfl (run_asg (v := .bool _) rfl (by exact rfl)) ?_
 refine r_nil ?_
 refine r_cond (by exact rfl) (fun hc5 => ?_) (fun hc5 => ?_)
 ·skip
  refine r_skip ?_
  refine r_condT (by exact rfl) hc5 ?_
  refine r_seq ?_
  have hbb1_q := hbb1
  have hAb1_q := hAb1
  have hbb3_q := hbb3
  have hAb3_q := hAb3
  have hV_q := hV
  refine h_region ([b3]) (by kernel_rfl) ?_
  intro w6 hE7 hC8
  have hs_w6 := (hE7).size
  replace hV := evo_step0 hV hE7
  replace hbb1 := hbb1.evo0 hE7
  replace hAb1 := hAb1.evo0 hE7
  replace hbb3 := hbb3.evo0 hE7
  replace hAb3 := hAb3.evo0 hE7
  refine h_take (i := 0) (by exact rfl) rfl rfl rfl (by kernel_rfl) (fun w' hC => run_fa rfl (by exact rfl) fo_81_0) hC8 ?_
  refine h_take (i := 1) (by exact rfl) rfl rfl rfl (by kernel_rfl) (fun w' hC => run_ld1 rfl ag_3 (by exact rfl) ((hAb1_q.evo hC (by simp; omega)).cell 0 (by exact rfl))) hC8 ?_
  refine h_take (i := 2) (by exact rfl) rfl rfl rfl (by kernel_rfl) (fun w' hC => run_ldN rfl ag_81 ty_81 (by exact rfl) rfl (hAb1_q.evo hC (by simp; omega))) hC8 ?_
  refine h_one (i := 3) (by kernel_rfl) ?_
  refine h_do (by exact rfl) ?_
  refine r_opcall rfl rfl rfl (run_callf (vs := [.agg _]) rfl (by exact rfl) Try.func89 rfl (by kernel_rfl)) (tkey_calls (x := x) hx) ?_
  rintro e w9 ⟨rfl, hE9⟩
  refine ⟨_, rfl, ?_⟩
  have hs_w9 := (hE9).size
  replace hV := evo_step0 hV hE9
  replace hC8 := evo_step0 hC8 hE9
  replace hbb1 := hbb1.evo0 hE9
  replace hAb1 := hAb1.evo0 hE9
  replace hbb3 := hbb3.evo0 hE9
  replace hAb3 := hAb3.evo0 hE9
  refine h_next hC8 ?_
  refine h_take (i := 4) (by exact rfl) rfl rfl rfl (by kernel_rfl) (fun w' hC => run_bld (pv := [(0, .int _ _), (1, S _)]) (zs := [_, _, _]) (cells := [_, _, _]) rfl ty_81 (by exact rfl) pl_81 (by exact rfl) (by exact rfl)) hC8 ?_
  refine h_one (i := 5) (by kernel_rfl) ?_
  refine h_do (by exact rfl) ?_
  refine r_store (v := .agg _) (vs := [_, _, _]) (cs' := [_, _, _]) (by exact rfl) (by exact rfl) hbb3 ty_81 (by exact rfl) rfl (by exact rfl) rfl (by exact rfl) ?_
  intro w10 hEw10 hzw10 hb_new
  have hs_w10 := (hEw10).size
  replace hV := evo_step1 hV hEw10 (by first | exact .inl (by omega) | exact .inr (by simp))
  replace hbb1 := hbb1.evo hEw10 (by simp; omega)
  replace hAb1 := hAb1.evo hEw10 (by simp; omega)
  replace hbb3 := hb_new
  have hAb3 := hbb3.at
  clear hb_new
  refine h_last (by kernel_rfl) ?_
  refine h_one (i := 6) (by kernel_rfl) ?_
  refine h_do (by exact rfl) ?_
  refine r_op rfl rfl rfl (run_asg (v := .bool _) rfl (by exact rfl)) ?_
  refine h_last (by kernel_rfl) ?_
  refine h_done (by kernel_rfl) ?_
  refine r_ret (resC2 (cs := [_, _, _]) (u := .bool _) rfl ag_81 ty_81 (by exact rfl) rfl hAb3 (by exact rfl)) ?_
  first | exact ⟨ret_cl (a := ⟨x.kind, keyT x, 0⟩) (clV_in (by omega)) (decide_eq_true (by unfold clB; omega)).symm, hV⟩ | exact ⟨ret_cl (a := ⟨x.kind, x.text, 0⟩) (clV_out (by omega)) (decide_eq_decide.2 (by unfold tgB clB; omega)), hV⟩
 ·skip
  refine r_seq ?_
  refine r_region ?_
  refine r_op rfl rfl rfl (run_eql rfl (by exact rfl) (by exact rfl)) ?_
  refine r_op rfl rfl rfl (run_asg (v := .bool _) rfl (by exact rfl)) ?_
  refine r_nil ?_
  refine r_cond (by exact rfl) (fun hc11 => ?_) (fun hc11 => ?_)
  ·skip
   refine r_skip ?_
   refine r_condT (by exact rfl) hc11 ?_
   refine r_seq ?_
   have hbb1_q := hbb1
   have hAb1_q := hAb1
   have hbb3_q := hbb3
   have hAb3_q := hAb3
   have hV_q := hV
   refine h_region ([b3]) (by kernel_rfl) ?_
   intro w12 hE13 hC14
   have hs_w12 := (hE13).size
   replace hV := evo_step0 hV hE13
   replace hbb1 := hbb1.evo0 hE13
   replace hAb1 := hAb1.evo0 hE13
   replace hbb3 := hbb3.evo0 hE13
   replace hAb3 := hAb3.evo0 hE13
   refine h_take (i := 0) (by exact rfl) rfl rfl rfl (by kernel_rfl) (fun w' hC => run_fa rfl (by exact rfl) fo_81_0) hC14 ?_
   refine h_take (i := 1) (by exact rfl) rfl rfl rfl (by kernel_rfl) (fun w' hC => run_ld1 rfl ag_3 (by exact rfl) ((hAb1_q.evo hC (by simp; omega)).cell 0 (by exact rfl))) hC14 ?_
   refine h_take (i := 2) (by exact rfl) rfl rfl rfl (by kernel_rfl) (fun w' hC => run_ldN rfl ag_81 ty_81 (by exact rfl) rfl (hAb1_q.evo hC (by simp; omega))) hC14 ?_
   refine h_one (i := 3) (by kernel_rfl) ?_
   refine h_do (by exact rfl) ?_
   refine r_opcall rfl rfl rfl (run_callf (vs := [.agg _]) rfl (by exact rfl) Try.func89 rfl (by kernel_rfl)) (tkey_calls (x := x) hx) ?_
   rintro e w15 ⟨rfl, hE15⟩
   refine ⟨_, rfl, ?_⟩
   have hs_w15 := (hE15).size
   replace hV := evo_step0 hV hE15
   replace hC14 := evo_step0 hC14 hE15
   replace hbb1 := hbb1.evo0 hE15
   replace hAb1 := hAb1.evo0 hE15
   replace hbb3 := hbb3.evo0 hE15
   replace hAb3 := hAb3.evo0 hE15
   refine h_next hC14 ?_
   refine h_take (i := 4) (by exact rfl) rfl rfl rfl (by kernel_rfl) (fun w' hC => run_bld (pv := [(0, .int _ _), (1, S _)]) (zs := [_, _, _]) (cells := [_, _, _]) rfl ty_81 (by exact rfl) pl_81 (by exact rfl) (by exact rfl)) hC14 ?_
   refine h_one (i := 5) (by kernel_rfl) ?_
   refine h_do (by exact rfl) ?_
   refine r_store (v := .agg _) (vs := [_, _, _]) (cs' := [_, _, _]) (by exact rfl) (by exact rfl) hbb3 ty_81 (by exact rfl) rfl (by exact rfl) rfl (by exact rfl) ?_
   intro w16 hEw16 hzw16 hb_new
   have hs_w16 := (hEw16).size
   replace hV := evo_step1 hV hEw16 (by first | exact .inl (by omega) | exact .inr (by simp))
   replace hbb1 := hbb1.evo hEw16 (by simp; omega)
   replace hAb1 := hAb1.evo hEw16 (by simp; omega)
   replace hbb3 := hb_new
   have hAb3 := hbb3.at
   clear hb_new
   refine h_last (by kernel_rfl) ?_
   refine h_one (i := 6) (by kernel_rfl) ?_
   refine h_do (by exact rfl) ?_
   refine r_op rfl rfl rfl (run_asg (v := .bool _) rfl (by exact rfl)) ?_
   refine h_last (by kernel_rfl) ?_
   refine h_done (by kernel_rfl) ?_
   refine r_ret (resC2 (cs := [_, _, _]) (u := .bool _) rfl ag_81 ty_81 (by exact rfl) rfl hAb3 (by exact rfl)) ?_
   first | exact ⟨ret_cl (a := ⟨x.kind, keyT x, 0⟩) (clV_in (by omega)) (decide_eq_true (by unfold clB; omega)).symm, hV⟩ | exact ⟨ret_cl (a := ⟨x.kind, x.text, 0⟩) (clV_out (by omega)) (decide_eq_decide.2 (by unfold tgB clB; omega)), hV⟩
  ·skip
   refine r_seq ?_
   refine r_region ?_
   refine r_op rfl rfl rfl (run_eql rfl (by exact rfl) (by exact rfl)) ?_
   refine r_op rfl rfl rfl (run_asg (v := .bool _) rfl (by exact rfl)) ?_
   refine r_nil ?_
   refine r_cond (by exact rfl) (fun hc17 => ?_) (fun hc17 => ?_)
   ·skip
    refine r_skip ?_
    refine r_condT (by exact rfl) hc17 ?_
    refine r_seq ?_
    have hbb1_q := hbb1
    have hAb1_q := hAb1
    have hbb3_q := hbb3
    have hAb3_q := hAb3
    have hV_q := hV
    refine h_region ([b3]) (by kernel_rfl) ?_
    intro w18 hE19 hC20
    have hs_w18 := (hE19).size
    replace hV := evo_step0 hV hE19
    replace hbb1 := hbb1.evo0 hE19
    replace hAb1 := hAb1.evo0 hE19
    replace hbb3 := hbb3.evo0 hE19
    replace hAb3 := hAb3.evo0 hE19
    refine h_take (i := 0) (by exact rfl) rfl rfl rfl (by kernel_rfl) (fun w' hC => run_fa rfl (by exact rfl) fo_81_0) hC20 ?_
    refine h_take (i := 1) (by exact rfl) rfl rfl rfl (by kernel_rfl) (fun w' hC => run_ld1 rfl ag_3 (by exact rfl) ((hAb1_q.evo hC (by simp; omega)).cell 0 (by exact rfl))) hC20 ?_
    refine h_take (i := 2) (by exact rfl) rfl rfl rfl (by kernel_rfl) (fun w' hC => run_ldN rfl ag_81 ty_81 (by exact rfl) rfl (hAb1_q.evo hC (by simp; omega))) hC20 ?_
    refine h_one (i := 3) (by kernel_rfl) ?_
    refine h_do (by exact rfl) ?_
    refine r_opcall rfl rfl rfl (run_callf (vs := [.agg _]) rfl (by exact rfl) Try.func89 rfl (by kernel_rfl)) (tkey_calls (x := x) hx) ?_
    rintro e w21 ⟨rfl, hE21⟩
    refine ⟨_, rfl, ?_⟩
    have hs_w21 := (hE21).size
    replace hV := evo_step0 hV hE21
    replace hC20 := evo_step0 hC20 hE21
    replace hbb1 := hbb1.evo0 hE21
    replace hAb1 := hAb1.evo0 hE21
    replace hbb3 := hbb3.evo0 hE21
    replace hAb3 := hAb3.evo0 hE21
    refine h_next hC20 ?_
    refine h_take (i := 4) (by exact rfl) rfl rfl rfl (by kernel_rfl) (fun w' hC => run_bld (pv := [(0, .int _ _), (1, S _)]) (zs := [_, _, _]) (cells := [_, _, _]) rfl ty_81 (by exact rfl) pl_81 (by exact rfl) (by exact rfl)) hC20 ?_
    refine h_one (i := 5) (by kernel_rfl) ?_
    refine h_do (by exact rfl) ?_
    refine r_store (v := .agg _) (vs := [_, _, _]) (cs' := [_, _, _]) (by exact rfl) (by exact rfl) hbb3 ty_81 (by exact rfl) rfl (by exact rfl) rfl (by exact rfl) ?_
    intro w22 hEw22 hzw22 hb_new
    have hs_w22 := (hEw22).size
    replace hV := evo_step1 hV hEw22 (by first | exact .inl (by omega) | exact .inr (by simp))
    replace hbb1 := hbb1.evo hEw22 (by simp; omega)
    replace hAb1 := hAb1.evo hEw22 (by simp; omega)
    replace hbb3 := hb_new
    have hAb3 := hbb3.at
    clear hb_new
    refine h_last (by kernel_rfl) ?_
    refine h_one (i := 6) (by kernel_rfl) ?_
    refine h_do (by exact rfl) ?_
    refine r_op rfl rfl rfl (run_asg (v := .bool _) rfl (by exact rfl)) ?_
    refine h_last (by kernel_rfl) ?_
    refine h_done (by kernel_rfl) ?_
    refine r_ret (resC2 (cs := [_, _, _]) (u := .bool _) rfl ag_81 ty_81 (by exact rfl) rfl hAb3 (by exact rfl)) ?_
    first | exact ⟨ret_cl (a := ⟨x.kind, keyT x, 0⟩) (clV_in (by omega)) (decide_eq_true (by unfold clB; omega)).symm, hV⟩ | exact ⟨ret_cl (a := ⟨x.kind, x.text, 0⟩) (clV_out (by omega)) (decide_eq_decide.2 (by unfold tgB clB; omega)), hV⟩
   ·skip
    refine r_seq ?_
    refine r_region ?_
    refine r_op rfl rfl rfl (run_eql rfl (by exact rfl) (by exact rfl)) ?_
    refine r_op rfl rfl rfl (run_asg (v := .bool _) rfl (by exact rfl)) ?_
    refine r_nil ?_
    refine r_cond (by exact rfl) (fun hc23 => ?_) (fun hc23 => ?_)
    ·skip
     refine r_skip ?_
     refine r_condT (by exact rfl) hc23 ?_
     refine r_seq ?_
     have hbb1_q := hbb1
     have hAb1_q := hAb1
     have hbb3_q := hbb3
     have hAb3_q := hAb3
     have hV_q := hV
     refine h_region ([b3]) (by kernel_rfl) ?_
     intro w24 hE25 hC26
     have hs_w24 := (hE25).size
     replace hV := evo_step0 hV hE25
     replace hbb1 := hbb1.evo0 hE25
     replace hAb1 := hAb1.evo0 hE25
     replace hbb3 := hbb3.evo0 hE25
     replace hAb3 := hAb3.evo0 hE25
     refine h_take (i := 0) (by exact rfl) rfl rfl rfl (by kernel_rfl) (fun w' hC => run_fa rfl (by exact rfl) fo_81_0) hC26 ?_
     refine h_take (i := 1) (by exact rfl) rfl rfl rfl (by kernel_rfl) (fun w' hC => run_ld1 rfl ag_3 (by exact rfl) ((hAb1_q.evo hC (by simp; omega)).cell 0 (by exact rfl))) hC26 ?_
     refine h_take (i := 2) (by exact rfl) rfl rfl rfl (by kernel_rfl) (fun w' hC => run_ldN rfl ag_81 ty_81 (by exact rfl) rfl (hAb1_q.evo hC (by simp; omega))) hC26 ?_
     refine h_one (i := 3) (by kernel_rfl) ?_
     refine h_do (by exact rfl) ?_
     refine r_opcall rfl rfl rfl (run_callf (vs := [.agg _]) rfl (by exact rfl) Try.func89 rfl (by kernel_rfl)) (tkey_calls (x := x) hx) ?_
     rintro e w27 ⟨rfl, hE27⟩
     refine ⟨_, rfl, ?_⟩
     have hs_w27 := (hE27).size
     replace hV := evo_step0 hV hE27
     replace hC26 := evo_step0 hC26 hE27
     replace hbb1 := hbb1.evo0 hE27
     replace hAb1 := hAb1.evo0 hE27
     replace hbb3 := hbb3.evo0 hE27
     replace hAb3 := hAb3.evo0 hE27
     refine h_next hC26 ?_
     refine h_take (i := 4) (by exact rfl) rfl rfl rfl (by kernel_rfl) (fun w' hC => run_bld (pv := [(0, .int _ _), (1, S _)]) (zs := [_, _, _]) (cells := [_, _, _]) rfl ty_81 (by exact rfl) pl_81 (by exact rfl) (by exact rfl)) hC26 ?_
     refine h_one (i := 5) (by kernel_rfl) ?_
     refine h_do (by exact rfl) ?_
     refine r_store (v := .agg _) (vs := [_, _, _]) (cs' := [_, _, _]) (by exact rfl) (by exact rfl) hbb3 ty_81 (by exact rfl) rfl (by exact rfl) rfl (by exact rfl) ?_
     intro w28 hEw28 hzw28 hb_new
     have hs_w28 := (hEw28).size
     replace hV := evo_step1 hV hEw28 (by first | exact .inl (by omega) | exact .inr (by simp))
     replace hbb1 := hbb1.evo hEw28 (by simp; omega)
     replace hAb1 := hAb1.evo hEw28 (by simp; omega)
     replace hbb3 := hb_new
     have hAb3 := hbb3.at
     clear hb_new
     refine h_last (by kernel_rfl) ?_
     refine h_one (i := 6) (by kernel_rfl) ?_
     refine h_do (by exact rfl) ?_
     refine r_op rfl rfl rfl (run_asg (v := .bool _) rfl (by exact rfl)) ?_
     refine h_last (by kernel_rfl) ?_
     refine h_done (by kernel_rfl) ?_
     refine r_ret (resC2 (cs := [_, _, _]) (u := .bool _) rfl ag_81 ty_81 (by exact rfl) rfl hAb3 (by exact rfl)) ?_
     first | exact ⟨ret_cl (a := ⟨x.kind, keyT x, 0⟩) (clV_in (by omega)) (decide_eq_true (by unfold clB; omega)).symm, hV⟩ | exact ⟨ret_cl (a := ⟨x.kind, x.text, 0⟩) (clV_out (by omega)) (decide_eq_decide.2 (by unfold tgB clB; omega)), hV⟩
    ·skip
     refine r_region ?_
     refine r_op rfl rfl rfl (run_eql rfl (by exact rfl) (by exact rfl)) ?_
     refine r_op rfl rfl rfl (run_asg (v := .bool _) rfl (by exact rfl)) ?_
     refine r_nil ?_
     refine r_cond (by exact rfl) (fun hc29 => ?_) (fun hc29 => ?_)
     ·skip
      refine r_seq ?_
      have hbb1_q := hbb1
      have hAb1_q := hAb1
      have hbb3_q := hbb3
      have hAb3_q := hAb3
      have hV_q := hV
      refine h_region ([b3]) (by kernel_rfl) ?_
      intro w30 hE31 hC32
      have hs_w30 := (hE31).size
      replace hV := evo_step0 hV hE31
      replace hbb1 := hbb1.evo0 hE31
      replace hAb1 := hAb1.evo0 hE31
      replace hbb3 := hbb3.evo0 hE31
      replace hAb3 := hAb3.evo0 hE31
      refine h_take (i := 0) (by exact rfl) rfl rfl rfl (by kernel_rfl) (fun w' hC => run_fa rfl (by exact rfl) fo_81_0) hC32 ?_
      refine h_take (i := 1) (by exact rfl) rfl rfl rfl (by kernel_rfl) (fun w' hC => run_ld1 rfl ag_3 (by exact rfl) ((hAb1_q.evo hC (by simp; omega)).cell 0 (by exact rfl))) hC32 ?_
      refine h_take (i := 2) (by exact rfl) rfl rfl rfl (by kernel_rfl) (fun w' hC => run_ldN rfl ag_81 ty_81 (by exact rfl) rfl (hAb1_q.evo hC (by simp; omega))) hC32 ?_
      refine h_one (i := 3) (by kernel_rfl) ?_
      refine h_do (by exact rfl) ?_
      refine r_opcall rfl rfl rfl (run_callf (vs := [.agg _]) rfl (by exact rfl) Try.func89 rfl (by kernel_rfl)) (tkey_calls (x := x) hx) ?_
      rintro e w33 ⟨rfl, hE33⟩
      refine ⟨_, rfl, ?_⟩
      have hs_w33 := (hE33).size
      replace hV := evo_step0 hV hE33
      replace hC32 := evo_step0 hC32 hE33
      replace hbb1 := hbb1.evo0 hE33
      replace hAb1 := hAb1.evo0 hE33
      replace hbb3 := hbb3.evo0 hE33
      replace hAb3 := hAb3.evo0 hE33
      refine h_next hC32 ?_
      refine h_take (i := 4) (by exact rfl) rfl rfl rfl (by kernel_rfl) (fun w' hC => run_bld (pv := [(0, .int _ _), (1, S _)]) (zs := [_, _, _]) (cells := [_, _, _]) rfl ty_81 (by exact rfl) pl_81 (by exact rfl) (by exact rfl)) hC32 ?_
      refine h_one (i := 5) (by kernel_rfl) ?_
      refine h_do (by exact rfl) ?_
      refine r_store (v := .agg _) (vs := [_, _, _]) (cs' := [_, _, _]) (by exact rfl) (by exact rfl) hbb3 ty_81 (by exact rfl) rfl (by exact rfl) rfl (by exact rfl) ?_
      intro w34 hEw34 hzw34 hb_new
      have hs_w34 := (hEw34).size
      replace hV := evo_step1 hV hEw34 (by first | exact .inl (by omega) | exact .inr (by simp))
      replace hbb1 := hbb1.evo hEw34 (by simp; omega)
      replace hAb1 := hAb1.evo hEw34 (by simp; omega)
      replace hbb3 := hb_new
      have hAb3 := hbb3.at
      clear hb_new
      refine h_last (by kernel_rfl) ?_
      refine h_one (i := 6) (by kernel_rfl) ?_
      refine h_do (by exact rfl) ?_
      refine r_op rfl rfl rfl (run_asg (v := .bool _) rfl (by exact rfl)) ?_
      refine h_last (by kernel_rfl) ?_
      refine h_done (by kernel_rfl) ?_
      refine r_ret (resC2 (cs := [_, _, _]) (u := .bool _) rfl ag_81 ty_81 (by exact rfl) rfl hAb3 (by exact rfl)) ?_
      first | exact ⟨ret_cl (a := ⟨x.kind, keyT x, 0⟩) (clV_in (by omega)) (decide_eq_true (by unfold clB; omega)).symm, hV⟩ | exact ⟨ret_cl (a := ⟨x.kind, x.text, 0⟩) (clV_out (by omega)) (decide_eq_decide.2 (by unfold tgB clB; omega)), hV⟩
     ·skip
      refine r_skip ?_
      refine r_blk ?_
      refine r_seq ?_
      have hbb1_q := hbb1
      have hAb1_q := hAb1
      have hbb3_q := hbb3
      have hAb3_q := hAb3
      have hV_q := hV
      refine h_region ([b3]) (by kernel_rfl) ?_
      intro w35 hE36 hC37
      have hs_w35 := (hE36).size
      replace hV := evo_step0 hV hE36
      replace hbb1 := hbb1.evo0 hE36
      replace hAb1 := hAb1.evo0 hE36
      replace hbb3 := hbb3.evo0 hE36
      replace hAb3 := hAb3.evo0 hE36
      refine h_take (i := 0) (by exact rfl) rfl rfl rfl (by kernel_rfl) (fun w' hC => run_fa rfl (by exact rfl) fo_81_0) hC37 ?_
      refine h_take (i := 1) (by exact rfl) rfl rfl rfl (by kernel_rfl) (fun w' hC => run_ld1 rfl ag_3 (by exact rfl) ((hAb1_q.evo hC (by simp; omega)).cell 0 (by exact rfl))) hC37 ?_
      refine h_take (i := 2) (by exact rfl) rfl rfl rfl (by kernel_rfl) (fun w' hC => run_fa rfl (by exact rfl) fo_81_1) hC37 ?_
      refine h_take (i := 3) (by exact rfl) rfl rfl rfl (by kernel_rfl) (fun w' hC => run_ld1 rfl ag_9 (by exact rfl) ((hAb1_q.evo hC (by simp; omega)).cell 1 (by exact rfl))) hC37 ?_
      refine h_take (i := 4) (by exact rfl) rfl rfl rfl (by kernel_rfl) (fun w' hC => run_bld (pv := [(0, .int _ _), (1, S _)]) (zs := [_, _, _]) (cells := [_, _, _]) rfl ty_81 (by exact rfl) pl_81 (by exact rfl) (by exact rfl)) hC37 ?_
      refine h_take (i := 5) (by exact rfl) rfl rfl rfl (by kernel_rfl) (fun w' hC => run_ldN rfl ag_81 ty_81 (by exact rfl) rfl (hAb1_q.evo hC (by simp; omega))) hC37 ?_
      refine h_one (i := 6) (by kernel_rfl) ?_
      refine h_do (by exact rfl) ?_
      refine r_opcall rfl rfl rfl (run_callf (vs := [.agg _]) rfl (by exact rfl) Try.func98 rfl (by kernel_rfl)) (sgtag_calls (x := x)) ?_
      rintro e w38 ⟨rfl, hE38⟩
      refine ⟨_, rfl, ?_⟩
      have hs_w38 := (hE38).size
      replace hV := evo_step0 hV hE38
      replace hC37 := evo_step0 hC37 hE38
      replace hbb3 := hbb3.evo0 hE38
      replace hAb3 := hAb3.evo0 hE38
      refine h_next hC37 ?_
      refine h_one (i := 7) (by kernel_rfl) ?_
      refine h_do (by exact rfl) ?_
      refine r_store (v := .agg _) (vs := [_, _, _]) (cs' := [_, _, _]) (by exact rfl) (by exact rfl) hbb3 ty_81 (by exact rfl) rfl (by exact rfl) rfl (by exact rfl) ?_
      intro w39 hEw39 hzw39 hb_new
      have hs_w39 := (hEw39).size
      replace hV := evo_step1 hV hEw39 (by first | exact .inl (by omega) | exact .inr (by simp))
      replace hbb3 := hb_new
      have hAb3 := hbb3.at
      clear hb_new
      refine h_last (by kernel_rfl) ?_
      refine h_one (i := 8) (by kernel_rfl) ?_
      refine h_do (by exact rfl) ?_
      refine r_op rfl rfl rfl (run_asg (v := .bool _) rfl (by exact rfl)) ?_
      refine h_last (by kernel_rfl) ?_
      refine h_done (by kernel_rfl) ?_
      refine r_ret (resC2 (cs := [_, _, _]) (u := .bool _) rfl ag_81 ty_81 (by exact rfl) rfl hAb3 (by exact rfl)) ?_
      first | exact ⟨ret_cl (a := ⟨x.kind, keyT x, 0⟩) (clV_in (by omega)) (decide_eq_true (by unfold clB; omega)).symm, hV⟩ | exact ⟨ret_cl (a := ⟨x.kind, x.text, 0⟩) (clV_out (by omega)) (decide_eq_decide.2 (by unfold tgB clB; omega)), hV⟩

end Go.Proofs.Ytomklacppmaljaa

