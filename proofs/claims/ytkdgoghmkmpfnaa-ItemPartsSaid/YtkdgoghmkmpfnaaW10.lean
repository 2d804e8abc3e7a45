import Derived.Test.YtkdgoghmkmpfnaaW9
namespace Go.Proofs.Ytkdgoghmkmpfnaa
open Go.RowKit Go.Vc
theorem ty_4 : tyP Try.prog 4 = some (1, 1, some (.bool false)) := by kernel_rfl
theorem nums_map {m : List (Int × Bool)} {o : List Int} {x : Int} (h : ∀ n, (getM m n).getD false = decide (n ∈ o)) : ∀ n, (getM (setM m x true) n).getD false = decide (n ∈ o ++ [x]) := fun n => by
  rw [getM_setM]
  by_cases hx : x = n
  · rw [if_pos hx]; subst hx; simp
  · rw [if_neg hx, h n]
    have : ¬ n = x := fun e => hx e.symm
    simp [this]

theorem numbers_calls {ao : Option Addr} {b off cap : Nat} {f : List Vc.Item} {w0 : World} (hf : RowE w0 ao b off cap f) (hsm : Small f) :
    Calls Try.prog 40 #[.slice ao f.length cap] w0 fun e w' => ∃ v, e = .returned v ∧ Evo w0 w' [] ∧ OwnE w' w0.heap.size 3 v (numsL f) := by
 have hs1 := hsm.1
 refine calls_enter (n := 33) (args := [.slice ao f.length cap]) Try.func40 rfl Try.ntmps40 rfl ?_
 have hV : Evo w0 w0 [] := Evo.refl _ _
 have hf0 := keepE hf
 have hbd_hf := hf.bd
 refine r_seq ?_
 refine r_region ?_
 refine r_op rfl rfl rfl (run_asg (v := .slice _ _ _) rfl (by exact rfl)) ?_
 refine r_nil ?_
 refine r_seq ?_
 refine r_region ?_
 refine r_op rfl rfl rfl (run_asg (v := .slice _ _ _) rfl (by exact rfl)) ?_
 refine r_nil ?_
 refine r_seq ?_
 refine r_region ?_
 refine r_makeMap (α := Int) (β := Bool) (Value.int .i64) Value.bool rfl ?_
 intro b1 w2 heb1 hEw2 hmb1 hzb1
 have hs_w2 := (hEw2).size
 replace hV := evo_step0 hV hEw2
 replace hf := hf0 _ hV
 refine r_op rfl rfl rfl (run_asg (v := .map _) rfl (by exact rfl)) ?_
 refine r_nil ?_
 refine r_seq ?_
 refine r_seq ?_
 refine r_region ?_
 refine r_op rfl rfl rfl (run_mv (v := .slice _ _ _) rfl (by exact rfl)) ?_
 refine r_op rfl rfl rfl (run_lenSl rfl (by exact rfl) Try.underlying30) ?_
 refine r_op rfl rfl rfl (run_mv (v := .int _ _) rfl (by exact rfl)) ?_
 refine r_nil ?_
 refine r_block ?_
 refine r_loop (α := Nat) [3, 6, 10, 11, 12, 13, 14, 15, 16, 17, 18, 19, 20, 21, 22, 23, 24, 25, 26, 27, 28, 29, 30, 31] (fun k g w => ∃ vo : Value, ∃ m : List (Int × Bool), g 10 = .int .i64 (k : Nat) ∧ g 3 = vo ∧ k ≤ f.length ∧ OwnE w w2.heap.size 3 vo (numsL (f.take k)) ∧ MapIs w b1 (Value.int .i64) Value.bool m ∧ (∀ n, (getM m n).getD false = decide (n ∈ numsL (f.take k))) ∧ w2.heap.size ≤ w.heap.size ∧ Evo w0 w []) (fun k => f.length - k) 0 ?_ ?_
 ·refine ⟨_, [], (by first | exact rfl | exact congrArg (Value.int _) (by omega) | exact congrArg (Value.int _) (by dsimp only; omega) | exact congrArg (Value.int _) (by simp) | exact congrArg S (by simp)), rfl, (by first | assumption | omega | (dsimp only; omega) | (simp; done)), (OwnE.nil _ _ _), hmb1, (fun n => rfl), (by first | assumption | omega | (dsimp only; omega) | (simp; done)), hV⟩
 ·rintro k g w4 ⟨vo, m, hj5, hj6, hk_k, hoo, hmb1, hmm, hzl3, hV⟩
  have hs_w4hV := hV.size
  have hlt7 := hmb1.lt
  replace hf := hf0 _ hV
  refine r_know (i := 10) (v := .int .i64 (k : Nat)) (by exact hj5) ?_
  refine r_know (i := 3) (v := vo) (by exact hj6) ?_
  refine r_seq ?_
  refine r_region ?_
  refine r_op rfl rfl rfl (run_lss rfl (by exact rfl) (by exact rfl)) ?_
  refine r_nil ?_
  refine r_seq ?_
  refine r_cond (by exact rfl) (fun hc8 => ?_) (fun hc8 => ?_)
  ·skip
   refine r_skip ?_
   refine r_seq ?_
   refine r_block ?_
   refine r_seq ?_
   refine r_region ?_
   refine r_op rfl rfl rfl (run_ix (k) rfl Try.underlying30 ty_26 (by exact rfl) (by exact rfl) (by first | exact rfl | omega) (by omega) (hf.addr (i := k) (by omega))) ?_
   have hA90 := fun (w' : World) (h : Evo w0 w' []) => (hf0 w' h).atD (k) (by omega)
   have hA9 := hA90 _ hV
   refine r_op rfl rfl rfl (run_ldN rfl ag_26 ty_26 (by exact rfl) rfl hA9) ?_
   have hob10 := fun g hg => (hoo.block (g := g) hg).2
   refine r_var (zs := [_, _, _]) (vs := [_, _, _]) ty_26 (by exact rfl) rfl (by exact rfl) (fun _ => rfl) (by exact rfl) rfl rfl (by exact rfl) ?_
   intro b11 w12 heb11 hEw12 hbb11 hzb11
   have hs_w12 := (hEw12).size
   replace hV := evo_step0 hV hEw12
   replace hf := hf0 _ hV
   replace hoo := hoo.evo0 hEw12
   replace hmb1 := hmb1.evo0 hEw12
   have hAb11 := hbb11.at
   refine r_nil ?_
   refine r_seq ?_
   have hn1 := numsL_len (f.take k); have hn2 : (f.take k).length ≤ k := List.length_take_le _ _
   refine r_region ?_
   refine r_op rfl rfl rfl (run_ldN rfl ag_26 ty_26 (by exact rfl) rfl hAb11) ?_
   refine r_opcall rfl rfl rfl (run_callf (vs := [.agg _]) rfl (by exact rfl) Try.func65 rfl (by kernel_rfl)) istag_calls ?_
   rintro e w13 ⟨rfl, hE13⟩
   refine ⟨_, rfl, ?_⟩
   have hs_w13 := (hE13).size
   replace hV := evo_step0 hV hE13
   replace hf := hf0 _ hV
   replace hoo := hoo.evo0 hE13
   replace hmb1 := hmb1.evo0 hE13
   replace hbb11 := hbb11.evo0 hE13
   replace hAb11 := hAb11.evo0 hE13
   refine r_op rfl rfl rfl (run_mvb rfl (by exact rfl)) ?_
   refine r_g rfl (wantT (by exact rfl)) rfl (fun hg => run_mv (v := .map _) rfl (by exact rfl)) ?_
   refine r_g rfl (wantT (by exact rfl)) rfl (fun hg => run_fa rfl (by exact rfl) fo_26_2) ?_
   refine r_g rfl (wantT (by exact rfl)) rfl (fun hg => run_ld1 rfl ag_3 (glv (by exact rfl) (fun h => h) hg) (hAb11.cell 2 (by exact rfl))) ?_
   refine r_g rfl (wantT (by exact rfl)) rfl (fun hg => run_lookup1 (a := _) (z := false) (v := .bool _) (key_int Try.underlying3) rfl Try.underlying84 ty_4 (glv (by exact rfl) (fun h => h) hg) (glv (by exact rfl) (fun h => h) hg) hmb1 rfl) ?_
   refine r_g rfl (wantT (by exact rfl)) rfl (fun hg => run_notb rfl (glv (by exact rfl) (fun h => h) hg)) ?_
   refine r_op rfl rfl rfl (run_pick_andB rfl (by exact rfl) (fun hq => glv (by exact rfl) (fun h => h) hq) rfl) ?_
   refine r_nil ?_
   refine r_cond (by exact rfl) (fun hc14 => ?_) (fun hc14 => ?_)
   ·skip
    refine r_seq ?_
    refine r_region ?_
    refine r_op rfl rfl rfl (run_mv (v := .map _) rfl (by exact rfl)) ?_
    refine r_op rfl rfl rfl (run_fa rfl (by exact rfl) fo_26_2) ?_
    refine r_op rfl rfl rfl (run_ld1 rfl ag_3 (by exact rfl) (hAb11.cell 2 (by exact rfl))) ?_
    refine r_mapset (a := _) (key_int Try.underlying3) Try.underlying84 (by exact rfl) (by exact rfl) (by exact rfl) hmb1 ?_
    intro w15 hEw15 hzw15 hm_new
    have hs_w15 := (hEw15).size
    replace hV := evo_step1 hV hEw15 (by first | exact .inl (by omega) | exact .inr (by simp))
    replace hf := hf0 _ hV
    replace hoo := hoo.evo hEw15 (by intro g hg hm; simp at hm; subst hm; have := hoo.block hg; omega)
    replace hbb11 := hbb11.evo hEw15 (by simp; omega)
    replace hAb11 := hAb11.evo hEw15 (by simp; omega)
    replace hmb1 := hm_new
    clear hm_new
    refine r_nil ?_
    refine r_region ?_
    refine r_op rfl rfl rfl (run_mv (v := vo) rfl (by exact rfl)) ?_
    refine r_op rfl rfl rfl (run_fa rfl (by exact rfl) fo_26_2) ?_
    refine r_op rfl rfl rfl (run_ld1 rfl ag_3 (by exact rfl) (hAb11.cell 2 (by exact rfl))) ?_
    refine r_append1E (u := .int _ _) (y := _) rfl rfl Try.underlying24 ty_3 (by exact rfl) hoo (fun _ => (by exact rfl)) (by exact rfl) (by first | exact rfl | (show _ = List.toArray [_]; first | (dsimp only; done) | exact rfl | (dsimp only; exact rfl))) ((by first | omega | (simp; omega))) ((by first | omega | (simp; omega))) (by omega) ?_
    intro q_v16 v16 w17 hEw17 hov16 hlv16
    have hs_w17 := (hEw17).size
    replace hV := evo_stepo hV hEw17 (fun g hg => .inl (by first | exact (hoo.block hg).1 | (have := hoo.block hg; omega)))
    replace hf := hf0 _ hV
    replace hmb1 := hmb1.evo hEw17 (by intro hm; have hm2 := Option.mem_toList.1 hm; have := hoo.block hm2; omega)
    refine r_op rfl rfl rfl (run_asg (v := v16) rfl (by exact rfl)) ?_
    refine r_nil ?_
    refine r_blk ?_
    refine r_region ?_
    refine r_op rfl rfl rfl (run_add rfl (by exact rfl) (by exact rfl) (by omega) (by omega)) ?_
    refine r_op rfl rfl rfl (run_mv (v := .int _ _) rfl (by exact rfl)) ?_
    refine r_nil ?_
    refine r_again (k + 1) ?_ ?_ ?_
    ·first | omega | (dsimp only; omega)
    ·refine ⟨_, _, (by first | exact rfl | exact congrArg (Value.int _) (by omega) | exact congrArg (Value.int _) (by dsimp only; omega) | exact congrArg (Value.int _) (by simp) | exact congrArg S (by simp)), rfl, (by first | assumption | omega | (dsimp only; omega) | (simp; done)), (by first | (rw [numsL_succ f k (by omega), nums_new hc14.1 (by have h9 := hc14.2; rw [hmm] at h9; simpa using h9)]; exact hov16) | (rw [numsL_succ f k (by omega), nums_old (fun h9 => hc14 ⟨h9.1, by rw [hmm]; simpa using h9.2⟩)]; exact hov16)), hmb1, (by first | (rw [numsL_succ f k (by omega), nums_new hc14.1 (by have h9 := hc14.2; rw [hmm] at h9; simpa using h9)]; exact nums_map hmm) | (rw [numsL_succ f k (by omega), nums_old (fun h9 => hc14 ⟨h9.1, by rw [hmm]; simpa using h9.2⟩)]; exact hmm)), (by first | assumption | omega | (dsimp only; omega) | (simp; done)), hV⟩
    ·repeat (first | (with_reducible exact Agree.merge _ _ _) | (with_reducible exact Agree.refl _ _) | (with_reducible refine Agree.upd ?_ _ _ rfl) | ((with_reducible refine Agree.inner ?_ ?_); (kernel_rfl)))
   ·skip
    refine r_skip ?_
    refine r_blk ?_
    refine r_region ?_
    refine r_op rfl rfl rfl (run_add rfl (by exact rfl) (by exact rfl) (by omega) (by omega)) ?_
    refine r_op rfl rfl rfl (run_mv (v := .int _ _) rfl (by exact rfl)) ?_
    refine r_nil ?_
    refine r_again (k + 1) ?_ ?_ ?_
    ·first | omega | (dsimp only; omega)
    ·refine ⟨_, _, (by first | exact rfl | exact congrArg (Value.int _) (by omega) | exact congrArg (Value.int _) (by dsimp only; omega) | exact congrArg (Value.int _) (by simp) | exact congrArg S (by simp)), rfl, (by first | assumption | omega | (dsimp only; omega) | (simp; done)), (by first | (rw [numsL_succ f k (by omega), nums_new hc14.1 (by have h9 := hc14.2; rw [hmm] at h9; simpa using h9)]; exact hoo) | (rw [numsL_succ f k (by omega), nums_old (fun h9 => hc14 ⟨h9.1, by rw [hmm]; simpa using h9.2⟩)]; exact hoo)), hmb1, (by first | (rw [numsL_succ f k (by omega), nums_new hc14.1 (by have h9 := hc14.2; rw [hmm] at h9; simpa using h9)]; exact nums_map hmm) | (rw [numsL_succ f k (by omega), nums_old (fun h9 => hc14 ⟨h9.1, by rw [hmm]; simpa using h9.2⟩)]; exact hmm)), (by first | assumption | omega | (dsimp only; omega) | (simp; done)), hV⟩
    ·repeat (first | (with_reducible exact Agree.merge _ _ _) | (with_reducible exact Agree.refl _ _) | (with_reducible refine Agree.upd ?_ _ _ rfl) | ((with_reducible refine Agree.inner ?_ ?_); (kernel_rfl)))
  ·skip
   refine r_exit rfl ?_
   refine r_seq ?_
   refine r_region ?_
   refine r_op rfl rfl rfl (run_mv (v := vo) rfl (by exact rfl)) ?_
   refine r_op rfl rfl rfl (run_asg (v := vo) rfl (by exact rfl)) ?_
   refine r_nil ?_
   refine r_ret (res1 (v := vo) rfl (by exact rfl)) ?_
   exact ⟨_, rfl, hV, by rw [List.take_of_length_le (by omega)] at hoo; exact hoo.base_le (by omega)⟩

theorem counting_calls {n : Nat} {w0 : World} (hn : n ≤ 100000) :
    Calls Try.prog 73 #[.int .i64 (n : Nat)] w0 fun e w' => ∃ v, e = .returned v ∧ Evo w0 w' [] ∧ ∃ ao b cap, v = .slice ao (upL n).length cap ∧ RowE w' ao b 0 cap (upL n) := by
 refine calls_enter (n := 19) (args := [.int .i64 (n : Nat)]) Try.func73 rfl Try.ntmps73 rfl ?_
 have hV : Evo w0 w0 [] := Evo.refl _ _
 refine r_seq ?_
 refine r_region ?_
 refine r_op rfl rfl rfl (run_asg (v := .slice _ _ _) rfl (by exact rfl)) ?_
 refine r_nil ?_
 refine r_seq ?_
 refine r_region ?_
 refine r_op rfl rfl rfl (run_mv (v := .int _ _) rfl (by exact rfl)) ?_
 refine r_make (len := n) (zs := [_]) Try.underlying24 ty_3 (by exact rfl) rfl rfl (by exact rfl) (by exact rfl) (by omega) (by omega) (by omega) (by omega) ?_
 intro bf w1 hebf hEw1 hf hzbf
 have hs_w1 := (hEw1).size
 replace hV := evo_step0 hV hEw1
 refine r_op rfl rfl rfl (run_asg (v := .slice (some ⟨bf, 0, none⟩) _ _) rfl (by exact rfl)) ?_
 refine r_nil ?_
 refine r_seq ?_
 refine r_seq ?_
 refine r_region ?_
 refine r_op rfl rfl rfl (run_mv (v := .slice (some ⟨bf, 0, none⟩) _ _) rfl (by exact rfl)) ?_
 refine r_op rfl rfl rfl (run_lenSl rfl (by exact rfl) Try.underlying24) ?_
 refine r_op rfl rfl rfl (run_mv (v := .int _ _) rfl (by exact rfl)) ?_
 refine r_nil ?_
 refine r_block ?_
 refine r_loop (α := Nat) [4, 9, 10, 11, 12, 13, 14, 15, 16, 17] (fun k g w => ∃ cc : Nat → List Value, g 9 = .int .i64 (k : Nat) ∧ k ≤ n ∧ FB w bf 3 1 n cc ∧ (∀ j, j < k → cc j = [.int .i64 ((j : Nat) + 1)]) ∧ w1.heap.size ≤ w.heap.size ∧ Evo w0 w []) (fun k => n - k) 0 ?_ ?_
 ·refine ⟨_, (by first | exact rfl | exact congrArg (Value.int _) (by omega) | exact congrArg (Value.int _) (by dsimp only; omega) | exact congrArg (Value.int _) (by simp) | exact congrArg S (by simp)), (by first | assumption | omega | (dsimp only; omega) | (simp; done)), hf, (fun j h1 => by omega), (by first | assumption | omega | (dsimp only; omega) | (simp; done)), hV⟩
 ·rintro k g w3 ⟨cc, hj4, hk_k, hf, hcc, hzl2, hV⟩
  have hs_w3hV := hV.size
  have hlt5 := hf.lt
  refine r_know (i := 9) (v := .int .i64 (k : Nat)) (by exact hj4) ?_
  refine r_seq ?_
  refine r_region ?_
  refine r_op rfl rfl rfl (run_lss rfl (by exact rfl) (by exact rfl)) ?_
  refine r_nil ?_
  refine r_seq ?_
  refine r_cond (by exact rfl) (fun hc6 => ?_) (fun hc6 => ?_)
  ·skip
   refine r_skip ?_
   refine r_seq ?_
   refine r_block ?_
   refine r_seq ?_
   refine r_region ?_
   refine r_op rfl rfl rfl (run_mv (v := .int _ _) rfl (by exact rfl)) ?_
   refine r_op rfl rfl rfl (run_asg (v := .int _ _) rfl (by exact rfl)) ?_
   refine r_nil ?_
   refine r_region ?_
   refine r_op rfl rfl rfl (run_mv (v := .slice (some ⟨bf, 0, none⟩) _ _) rfl (by exact rfl)) ?_
   refine r_op rfl rfl rfl (run_mv (v := .int _ _) rfl (by exact rfl)) ?_
   refine r_op rfl rfl rfl (run_mv (v := .int _ _) rfl (by exact rfl)) ?_
   refine r_op rfl rfl rfl (run_add rfl (by exact rfl) (by exact rfl) (by omega) (by omega)) ?_
   refine r_op rfl rfl rfl (run_ix (k) rfl Try.underlying24 ty_3 (by exact rfl) (by exact rfl) (by first | exact rfl | omega) (by omega) rfl) ?_
   refine r_storeF (v := .int _ _) (vs := [_]) (k) (by exact rfl) rfl (by exact rfl) hf (by omega) ty_3 (by exact rfl) rfl (by exact rfl) ?_
   intro w7 hEw7 hzw7 hb_new
   have hs_w7 := (hEw7).size
   replace hV := evo_step1 hV hEw7 (.inl (by omega))
   replace hf := hb_new
   clear hb_new
   refine r_nil ?_
   refine r_blk ?_
   refine r_region ?_
   refine r_op rfl rfl rfl (run_add rfl (by exact rfl) (by exact rfl) (by omega) (by omega)) ?_
   refine r_op rfl rfl rfl (run_mv (v := .int _ _) rfl (by exact rfl)) ?_
   refine r_nil ?_
   refine r_again (k + 1) ?_ ?_ ?_
   ·first | omega | (dsimp only; omega)
   ·refine ⟨_, (by first | exact rfl | exact congrArg (Value.int _) (by omega) | exact congrArg (Value.int _) (by dsimp only; omega) | exact congrArg (Value.int _) (by simp) | exact congrArg S (by simp)), (by first | assumption | omega | (dsimp only; omega) | (simp; done)), hf, (fun j hj => (Decidable.em (j = k)).elim (fun h9 => by subst h9; show ite _ _ _ = _; rw [if_pos rfl]) (fun h9 => by show ite _ _ _ = _; rw [if_neg h9]; exact hcc j (by omega))), (by first | assumption | omega | (dsimp only; omega) | (simp; done)), hV⟩
   ·repeat (first | (with_reducible exact Agree.merge _ _ _) | (with_reducible exact Agree.refl _ _) | (with_reducible refine Agree.upd ?_ _ _ rfl) | ((with_reducible refine Agree.inner ?_ ?_); (kernel_rfl)))
  ·skip
   refine r_exit rfl ?_
   refine r_seq ?_
   refine r_region ?_
   refine r_op rfl rfl rfl (run_mv (v := .slice (some ⟨bf, 0, none⟩) _ _) rfl (by exact rfl)) ?_
   refine r_op rfl rfl rfl (run_asg (v := .slice (some ⟨bf, 0, none⟩) _ _) rfl (by exact rfl)) ?_
   refine r_nil ?_
   refine r_ret (res1 (v := .slice (some ⟨bf, 0, none⟩) _ _) rfl (by exact rfl)) ?_
   exact ⟨_, rfl, hV, _, _, _, by rw [upL_len], fb_row (upL n) hf (upL_len n) (by omega) (fun i hi => by rw [hcc i (by omega), upL_at hi]; rfl)⟩

theorem rename_calls {aof aoa aob : Option Addr} {bf_ offf capf ba offa capa bb offb capb : Nat} {f : List Vc.Item} {fr to_ : List Int} {w0 : World} (rf : RowE w0 aof bf_ offf capf f) (ra : RowE w0 aoa ba offa capa fr) (rb : RowE w0 aob bb offb capb to_) (hsm : Small f) (hla : fr.length ≤ 100000) (hlb : to_.length ≤ 100000) :
    Calls Try.prog 37 #[.slice aof f.length capf, .slice aoa fr.length capa, .slice aob to_.length capb] w0 fun e w' => ∃ v, e = .returned v ∧ Evo w0 w' [] ∧ OwnE w' w0.heap.size 26 v (renL fr to_ f) := by
 have hs1 := hsm.1
 refine calls_enter (n := 60) (args := [.slice aof f.length capf, .slice aoa fr.length capa, .slice aob to_.length capb]) Try.func37 rfl Try.ntmps37 rfl ?_
 have hV : Evo w0 w0 [] := Evo.refl _ _
 have rf0 := keepE rf
 have hbd_rf := rf.bd
 have ra0 := keepE ra
 have hbd_ra := ra.bd
 have rb0 := keepE rb
 have hbd_rb := rb.bd
 refine r_seq ?_
 refine r_region ?_
 refine r_op rfl rfl rfl (run_asg (v := .slice _ _ _) rfl (by exact rfl)) ?_
 refine r_nil ?_
 refine r_seq ?_
 refine r_region ?_
 refine r_makeMap (α := Int) (β := Int) (Value.int .i64) (Value.int .i64) rfl ?_
 intro b1 w2 heb1 hEw2 hmb1 hzb1
 have hs_w2 := (hEw2).size
 replace hV := evo_step0 hV hEw2
 replace rf := rf0 _ hV
 replace ra := ra0 _ hV
 replace rb := rb0 _ hV
 refine r_op rfl rfl rfl (run_asg (v := .map _) rfl (by exact rfl)) ?_
 refine r_nil ?_
 refine r_seq ?_
 refine r_seq ?_
 refine r_region ?_
 refine r_op rfl rfl rfl (run_mv (v := .slice _ _ _) rfl (by exact rfl)) ?_
 refine r_op rfl rfl rfl (run_lenSl rfl (by exact rfl) Try.underlying24) ?_
 refine r_op rfl rfl rfl (run_mv (v := .slice _ _ _) rfl (by exact rfl)) ?_
 refine r_op rfl rfl rfl (run_lenSl rfl (by exact rfl) Try.underlying24) ?_
 refine r_op rfl rfl rfl (run_min rfl (by exact rfl) (by exact rfl)) ?_
 refine r_op rfl rfl rfl (run_sub rfl (by exact rfl) (by exact rfl) (by omega) (by omega)) ?_
 refine r_op rfl rfl rfl (run_asg (v := .int _ _) rfl (by exact rfl)) ?_
 refine r_nil ?_
 refine r_block ?_
 refine r_loop (α := Nat) [8, 21, 22, 23, 24, 25, 26, 27, 28, 29, 30, 31, 32, 33] (fun j g w => ∃ m : List (Int × Int), g 8 = .int .i64 ((j : Nat) - 1) ∧ MapIs w b1 (Value.int .i64) (Value.int .i64) m ∧ (∀ n, getM m n = firstM (fr.drop j) (to_.drop j) n) ∧ (j ≤ fr.length ∧ j ≤ to_.length) ∧ w2.heap.size ≤ w.heap.size ∧ Evo w0 w []) (fun j => j) (min fr.length to_.length) ?_ ?_
 ·refine ⟨[], (congrArg (Value.int _) (by omega)), hmb1, (fun n => by rw [firstM_end (by omega)]; rfl), (by first | assumption | omega | (dsimp only; omega) | (simp; done)), (by first | assumption | omega | (dsimp only; omega) | (simp; done)), hV⟩
 ·rintro j g w4 ⟨m, hj5, hmb1, hmm, hj, hzl3, hV⟩
  have hs_w4hV := hV.size
  have hlt6 := hmb1.lt
  replace rf := rf0 _ hV
  replace ra := ra0 _ hV
  replace rb := rb0 _ hV
  refine r_know (i := 8) (v := .int .i64 ((j : Nat) - 1)) (by exact hj5) ?_
  refine r_seq ?_
  refine r_seq ?_
  refine r_region ?_
  refine r_op rfl rfl rfl (run_mv (v := .int _ _) rfl (by exact rfl)) ?_
  refine r_op rfl rfl rfl (run_geq rfl (by exact rfl) (by exact rfl)) ?_
  refine r_nil ?_
  refine r_cond (by exact rfl) (fun hc7 => ?_) (fun hc7 => ?_)
  ·skip
   refine r_skip ?_
   refine r_seq ?_
   refine r_block ?_
   have hmb1_q := hmb1
   have hV_q := hV
   refine h_region ([]) (by kernel_rfl) ?_
   intro w8 hE9 hC10
   have hs_w8 := (hE9).size
   replace hV := evo_step0 hV hE9
   replace rf := rf0 _ hV
   replace ra := ra0 _ hV
   replace rb := rb0 _ hV
   replace hmb1 := hmb1.evo0 hE9
   refine h_take (i := 0) (by exact rfl) rfl rfl rfl (by kernel_rfl) (fun w' hC => run_mv (v := .map _) rfl (by exact rfl)) hC10 ?_
   refine h_take (i := 1) (by exact rfl) rfl rfl rfl (by kernel_rfl) (fun w' hC => run_mv (v := .slice _ _ _) rfl (by exact rfl)) hC10 ?_
   refine h_take (i := 2) (by exact rfl) rfl rfl rfl (by kernel_rfl) (fun w' hC => run_mv (v := .int _ _) rfl (by exact rfl)) hC10 ?_
   refine h_take (i := 3) (by exact rfl) rfl rfl rfl (by kernel_rfl) (fun w' hC => run_ix ((j - 1)) rfl Try.underlying24 ty_3 (by exact rfl) (by exact rfl) (by omega) (by omega) (ra.addr (i := (j - 1)) (by omega))) hC10 ?_
   have hA110 := fun (w' : World) (h : Evo w0 w' []) => (ra0 w' h).atD ((j - 1)) (by omega)
   have hA11 := hA110 _ hV
   refine h_take (i := 4) (by exact rfl) rfl rfl rfl (by kernel_rfl) (fun w' hC => run_ld1 rfl ag_3 (by exact rfl) ((hA110 _ (evo_step0 hV_q hC)).cell 0 (by exact rfl))) hC10 ?_
   refine h_take (i := 5) (by exact rfl) rfl rfl rfl (by kernel_rfl) (fun w' hC => run_mv (v := .slice _ _ _) rfl (by exact rfl)) hC10 ?_
   refine h_take (i := 6) (by exact rfl) rfl rfl rfl (by kernel_rfl) (fun w' hC => run_mv (v := .int _ _) rfl (by exact rfl)) hC10 ?_
   refine h_take (i := 7) (by exact rfl) rfl rfl rfl (by kernel_rfl) (fun w' hC => run_ix ((j - 1)) rfl Try.underlying24 ty_3 (by exact rfl) (by exact rfl) (by omega) (by omega) (rb.addr (i := (j - 1)) (by omega))) hC10 ?_
   have hA120 := fun (w' : World) (h : Evo w0 w' []) => (rb0 w' h).atD ((j - 1)) (by omega)
   have hA12 := hA120 _ hV
   refine h_take (i := 8) (by exact rfl) rfl rfl rfl (by kernel_rfl) (fun w' hC => run_ld1 rfl ag_3 (by exact rfl) ((hA120 _ (evo_step0 hV_q hC)).cell 0 (by exact rfl))) hC10 ?_
   refine h_one (i := 9) (by kernel_rfl) ?_
   refine h_do (by exact rfl) ?_
   refine r_mapset (a := _) (key_int Try.underlying3) Try.underlying82 (by exact rfl) (by exact rfl) (by exact rfl) hmb1 ?_
   intro w13 hEw13 hzw13 hm_new
   have hs_w13 := (hEw13).size
   replace hV := evo_step1 hV hEw13 (by first | exact .inl (by omega) | exact .inr (by simp))
   replace rf := rf0 _ hV
   replace ra := ra0 _ hV
   replace rb := rb0 _ hV
   replace hmb1 := hm_new
   clear hm_new
   refine h_last (by kernel_rfl) ?_
   refine h_done (by kernel_rfl) ?_
   refine r_blk ?_
   refine r_region ?_
   refine r_op rfl rfl rfl (run_mv (v := .int _ _) rfl (by exact rfl)) ?_
   refine r_op rfl rfl rfl (run_sub rfl (by exact rfl) (by exact rfl) (by omega) (by omega)) ?_
   refine r_op rfl rfl rfl (run_asg (v := .int _ _) rfl (by exact rfl)) ?_
   refine r_nil ?_
   refine r_again (j - 1) ?_ ?_ ?_
   ·first | omega | (dsimp only; omega)
   ·refine ⟨_, (by first | exact rfl | exact congrArg (Value.int _) (by omega) | exact congrArg (Value.int _) (by dsimp only; omega) | exact congrArg (Value.int _) (by simp) | exact congrArg S (by simp)), hmb1, (fun n => by rw [getM_setM, firstM_at (k := j - 1) (by omega) (by omega), show j - 1 + 1 = j by omega, hmm n]), (by first | assumption | omega | (dsimp only; omega) | (simp; done)), (by first | assumption | omega | (dsimp only; omega) | (simp; done)), hV⟩
   ·repeat (first | (with_reducible exact Agree.merge _ _ _) | (with_reducible exact Agree.refl _ _) | (with_reducible refine Agree.upd ?_ _ _ rfl) | ((with_reducible refine Agree.inner ?_ ?_); (kernel_rfl)))
  ·skip
   refine r_exit rfl ?_
   refine r_seq ?_
   have hj0 : j = 0 := by omega
   subst hj0
   simp only [List.drop_zero] at hmm
   refine r_region ?_
   refine r_op rfl rfl rfl (run_asg (v := .slice _ _ _) rfl (by exact rfl)) ?_
   refine r_nil ?_
   refine r_seq ?_
   refine r_seq ?_
   refine r_region ?_
   refine r_op rfl rfl rfl (run_mv (v := .slice _ _ _) rfl (by exact rfl)) ?_
   refine r_op rfl rfl rfl (run_lenSl rfl (by exact rfl) Try.underlying30) ?_
   refine r_op rfl rfl rfl (run_mv (v := .int _ _) rfl (by exact rfl)) ?_
   refine r_nil ?_
   refine r_block ?_
   refine r_loop (α := Nat) [9, 11, 12, 13, 36, 37, 38, 39, 40, 41, 42, 43, 44, 45, 46, 47, 48, 49, 50, 51, 52, 53, 54, 55, 56, 57] (fun k g w => ∃ vo : Value, g 36 = .int .i64 (k : Nat) ∧ g 9 = vo ∧ k ≤ f.length ∧ OwnE w w4.heap.size 26 vo (renF fr to_ (f.take k)) ∧ MapIs w b1 (Value.int .i64) (Value.int .i64) m ∧ w4.heap.size ≤ w.heap.size ∧ Evo w0 w []) (fun k => f.length - k) 0 ?_ ?_
   ·refine ⟨_, (by first | exact rfl | exact congrArg (Value.int _) (by omega) | exact congrArg (Value.int _) (by dsimp only; omega) | exact congrArg (Value.int _) (by simp) | exact congrArg S (by simp)), rfl, (by first | assumption | omega | (dsimp only; omega) | (simp; done)), (OwnE.nil _ _ _), hmb1, (by first | assumption | omega | (dsimp only; omega) | (simp; done)), hV⟩
   ·rintro k g w15 ⟨vo, hj16, hj17, hk_k, hoo, hmb1, hzl14, hV⟩
    have hs_w15hV := hV.size
    have hlt18 := hmb1.lt
    replace rf := rf0 _ hV
    replace ra := ra0 _ hV
    replace rb := rb0 _ hV
    refine r_know (i := 36) (v := .int .i64 (k : Nat)) (by exact hj16) ?_
    refine r_know (i := 9) (v := vo) (by exact hj17) ?_
    refine r_seq ?_
    refine r_region ?_
    refine r_op rfl rfl rfl (run_lss rfl (by exact rfl) (by exact rfl)) ?_
    refine r_nil ?_
    refine r_seq ?_
    refine r_cond (by exact rfl) (fun hc19 => ?_) (fun hc19 => ?_)
    ·skip
     refine r_skip ?_
     refine r_seq ?_
     refine r_block ?_
     refine r_seq ?_
     have hobO := fun g hg => (hoo.block (g := g) hg).2
     refine r_region ?_
     refine r_op rfl rfl rfl (run_ix (k) rfl Try.underlying30 ty_26 (by exact rfl) (by exact rfl) (by first | exact rfl | omega) (by omega) (rf.addr (i := k) (by omega))) ?_
     have hA200 := fun (w' : World) (h : Evo w0 w' []) => (rf0 w' h).atD (k) (by omega)
     have hA20 := hA200 _ hV
     refine r_op rfl rfl rfl (run_ldN rfl ag_26 ty_26 (by exact rfl) rfl hA20) ?_
     have hob21 := fun g hg => (hoo.block (g := g) hg).2
     refine r_var (zs := [_, _, _]) (vs := [_, _, _]) ty_26 (by exact rfl) rfl (by exact rfl) (fun _ => rfl) (by exact rfl) rfl rfl (by exact rfl) ?_
     intro b22 w23 heb22 hEw23 hbb22 hzb22
     have hs_w23 := (hEw23).size
     replace hV := evo_step0 hV hEw23
     replace rf := rf0 _ hV
     replace ra := ra0 _ hV
     replace rb := rb0 _ hV
     replace hoo := hoo.evo0 hEw23
     replace hmb1 := hmb1.evo0 hEw23
     have hAb22 := hbb22.at
     refine r_nil ?_
     refine r_seq ?_
     refine r_seq ?_
     have hneO : ∀ g, vo.ownBlock = some g → g ≠ b22 := fun g hg h => by have := hobO g hg; omega
     have hn1 := renF_bd fr to_ (f.take k); have hn2 : (f.take k).length ≤ k := List.length_take_le _ _
     refine r_region ?_
     refine r_op rfl rfl rfl (run_ldN rfl ag_26 ty_26 (by exact rfl) rfl hAb22) ?_
     refine r_opcall rfl rfl rfl (run_callf (vs := [.agg _]) rfl (by exact rfl) Try.func65 rfl (by kernel_rfl)) istag_calls ?_
     rintro e w24 ⟨rfl, hE24⟩
     refine ⟨_, rfl, ?_⟩
     have hs_w24 := (hE24).size
     replace hV := evo_step0 hV hE24
     replace rf := rf0 _ hV
     replace ra := ra0 _ hV
     replace rb := rb0 _ hV
     replace hoo := hoo.evo0 hE24
     replace hmb1 := hmb1.evo0 hE24
     replace hbb22 := hbb22.evo0 hE24
     replace hAb22 := hAb22.evo0 hE24
     refine r_nil ?_
     refine r_condb (by exact rfl) (fun hc25 => ?_) (fun hc25 => ?_)
     ·skip
      have htg : isTag (f.getD k default) = true := hc25
      refine r_seq ?_
      refine r_region ?_
      refine r_op rfl rfl rfl (run_mv (v := .map _) rfl (by exact rfl)) ?_
      refine r_op rfl rfl rfl (run_fa rfl (by exact rfl) fo_26_2) ?_
      refine r_op rfl rfl rfl (run_ld1 rfl ag_3 (by exact rfl) (hAb22.cell 2 (by exact rfl))) ?_
      refine r_op rfl rfl rfl (run_lookup2 (a := _) (z := 0) (v := .int _ _) (key_int Try.underlying3) rfl Try.underlying82 ty_3 (by exact rfl) (by exact rfl) hmb1 rfl) ?_
      refine r_op rfl rfl rfl (run_mv (v := .tuple _) rfl (by exact rfl)) ?_
      refine r_op rfl rfl rfl (run_extract (v := .int _ _) rfl (by exact rfl) (by exact rfl)) ?_
      refine r_op rfl rfl rfl (run_extract (v := .bool _) rfl (by exact rfl) (by exact rfl)) ?_
      refine r_op rfl rfl rfl (run_asg (v := .int _ _) rfl (by exact rfl)) ?_
      refine r_op rfl rfl rfl (run_asg (v := .bool _) rfl (by exact rfl)) ?_
      refine r_nil ?_
      refine r_seq ?_
      refine r_seq ?_
      refine r_region ?_
      refine r_op rfl rfl rfl (run_mvb rfl (by exact rfl)) ?_
      refine r_op rfl rfl rfl (run_not rfl (by exact rfl)) ?_
      refine r_nil ?_
      refine r_cond (by exact rfl) (fun hc26 => ?_) (fun hc26 => ?_)
      ·skip
       have hfm : firstM fr to_ (f.getD k default).id = none := by rw [← hmm]; simpa using hc26
       refine r_exit rfl ?_
       refine r_region ?_
       refine r_op rfl rfl rfl (run_add rfl (by exact rfl) (by exact rfl) (by omega) (by omega)) ?_
       refine r_op rfl rfl rfl (run_mv (v := .int _ _) rfl (by exact rfl)) ?_
       refine r_nil ?_
       refine r_again (k + 1) ?_ ?_ ?_
       ·first | omega | (dsimp only; omega)
       ·refine ⟨_, (by first | exact rfl | exact congrArg (Value.int _) (by omega) | exact congrArg (Value.int _) (by dsimp only; omega) | exact congrArg (Value.int _) (by simp) | exact congrArg S (by simp)), rfl, (by first | assumption | omega | (dsimp only; omega) | (simp; done)), (by first | (rw [renF_succ fr to_ f k (by omega), ren_other htg]; exact hoo) | (rw [renF_succ fr to_ f k (by omega), ren_none htg hfm, List.append_nil]; exact hoo) | (rw [renF_succ fr to_ f k (by omega), ren_some htg hfm]; exact hoo)), hmb1, (by first | assumption | omega | (dsimp only; omega) | (simp; done)), hV⟩
       ·repeat (first | (with_reducible exact Agree.merge _ _ _) | (with_reducible exact Agree.refl _ _) | (with_reducible refine Agree.upd ?_ _ _ rfl) | ((with_reducible refine Agree.inner ?_ ?_); (kernel_rfl)))
      ·skip
       have hfm : firstM fr to_ (f.getD k default).id = some ((getM m (f.getD k default).id).getD 0) := by rw [← hmm]; cases h9 : getM m (f.getD k default).id with
       | none => rw [h9] at hc26; simp at hc26
       | some q => rfl
       refine r_skip ?_
       refine r_region ?_
       refine r_op rfl rfl rfl (run_mv (v := .int _ _) rfl (by exact rfl)) ?_
       refine r_op rfl rfl rfl (run_fa rfl (by exact rfl) fo_26_2) ?_
       refine r_store (v := .int _ _) (vs := [_]) (cs' := [_, _, _]) (by exact rfl) (by exact rfl) hbb22 ty_3 (by exact rfl) rfl (by exact rfl) rfl (by exact rfl) ?_
       intro w27 hEw27 hzw27 hb_new
       have hs_w27 := (hEw27).size
       replace hV := evo_step1 hV hEw27 (by first | exact .inl (by omega) | exact .inr (by simp))
       replace rf := rf0 _ hV
       replace ra := ra0 _ hV
       replace rb := rb0 _ hV
       replace hoo := hoo.evo hEw27 (by intro g hg hm; simp at hm; subst hm; exact hneO _ hg rfl)
       replace hmb1 := hmb1.evo hEw27 (by simp; omega)
       replace hbb22 := hb_new
       have hAb22 := hbb22.at
       clear hb_new
       refine r_nil ?_
       refine r_region ?_
       refine r_op rfl rfl rfl (run_mv (v := vo) rfl (by exact rfl)) ?_
       refine r_op rfl rfl rfl (run_ldN rfl ag_26 ty_26 (by exact rfl) rfl hAb22) ?_
       refine r_append1E (u := .agg _) (y := ⟨_, _, _⟩) rfl rfl Try.underlying30 ty_26 (by exact rfl) hoo (fun _ => (by exact rfl)) (by exact rfl) (by first | exact rfl | (show _ = List.toArray [_, _, _]; first | (dsimp only; done) | exact rfl | (dsimp only; exact rfl))) ((by first | omega | (simp; omega))) ((by first | omega | (simp; omega))) (by omega) ?_
       intro q_v28 v28 w29 hEw29 hov28 hlv28
       have hs_w29 := (hEw29).size
       replace hV := evo_stepo hV hEw29 (fun g hg => .inl (by first | exact (hoo.block hg).1 | (have := hoo.block hg; omega)))
       replace rf := rf0 _ hV
       replace ra := ra0 _ hV
       replace rb := rb0 _ hV
       replace hmb1 := hmb1.evo hEw29 (by intro hm; have hm2 := Option.mem_toList.1 hm; have := hoo.block hm2; omega)
       refine r_op rfl rfl rfl (run_asg (v := v28) rfl (by exact rfl)) ?_
       refine r_nil ?_
       refine r_blk ?_
       refine r_region ?_
       refine r_op rfl rfl rfl (run_add rfl (by exact rfl) (by exact rfl) (by omega) (by omega)) ?_
       refine r_op rfl rfl rfl (run_mv (v := .int _ _) rfl (by exact rfl)) ?_
       refine r_nil ?_
       refine r_again (k + 1) ?_ ?_ ?_
       ·first | omega | (dsimp only; omega)
       ·refine ⟨_, (by first | exact rfl | exact congrArg (Value.int _) (by omega) | exact congrArg (Value.int _) (by dsimp only; omega) | exact congrArg (Value.int _) (by simp) | exact congrArg S (by simp)), rfl, (by first | assumption | omega | (dsimp only; omega) | (simp; done)), (by first | (rw [renF_succ fr to_ f k (by omega), ren_other htg]; exact hov28) | (rw [renF_succ fr to_ f k (by omega), ren_none htg hfm, List.append_nil]; exact hov28) | (rw [renF_succ fr to_ f k (by omega), ren_some htg hfm]; exact hov28)), hmb1, (by first | assumption | omega | (dsimp only; omega) | (simp; done)), hV⟩
       ·repeat (first | (with_reducible exact Agree.merge _ _ _) | (with_reducible exact Agree.refl _ _) | (with_reducible refine Agree.upd ?_ _ _ rfl) | ((with_reducible refine Agree.inner ?_ ?_); (kernel_rfl)))
     ·skip
      have htg : ¬ isTag (f.getD k default) = true := by rw [hc25]; simp
      refine r_skip ?_
      refine r_region ?_
      refine r_op rfl rfl rfl (run_mv (v := vo) rfl (by exact rfl)) ?_
      refine r_op rfl rfl rfl (run_ldN rfl ag_26 ty_26 (by exact rfl) rfl hAb22) ?_
      refine r_append1E (u := .agg _) (y := ⟨_, _, _⟩) rfl rfl Try.underlying30 ty_26 (by exact rfl) hoo (fun _ => (by exact rfl)) (by exact rfl) (by first | exact rfl | (show _ = List.toArray [_, _, _]; first | (dsimp only; done) | exact rfl | (dsimp only; exact rfl))) ((by first | omega | (simp; omega))) ((by first | omega | (simp; omega))) (by omega) ?_
      intro q_v30 v30 w31 hEw31 hov30 hlv30
      have hs_w31 := (hEw31).size
      replace hV := evo_stepo hV hEw31 (fun g hg => .inl (by first | exact (hoo.block hg).1 | (have := hoo.block hg; omega)))
      replace rf := rf0 _ hV
      replace ra := ra0 _ hV
      replace rb := rb0 _ hV
      replace hmb1 := hmb1.evo hEw31 (by intro hm; have hm2 := Option.mem_toList.1 hm; have := hoo.block hm2; omega)
      refine r_op rfl rfl rfl (run_asg (v := v30) rfl (by exact rfl)) ?_
      refine r_nil ?_
      refine r_blk ?_
      refine r_region ?_
      refine r_op rfl rfl rfl (run_add rfl (by exact rfl) (by exact rfl) (by omega) (by omega)) ?_
      refine r_op rfl rfl rfl (run_mv (v := .int _ _) rfl (by exact rfl)) ?_
      refine r_nil ?_
      refine r_again (k + 1) ?_ ?_ ?_
      ·first | omega | (dsimp only; omega)
      ·refine ⟨_, (by first | exact rfl | exact congrArg (Value.int _) (by omega) | exact congrArg (Value.int _) (by dsimp only; omega) | exact congrArg (Value.int _) (by simp) | exact congrArg S (by simp)), rfl, (by first | assumption | omega | (dsimp only; omega) | (simp; done)), (by first | (rw [renF_succ fr to_ f k (by omega), ren_other htg]; exact hov30) | (rw [renF_succ fr to_ f k (by omega), ren_none htg hfm, List.append_nil]; exact hov30) | (rw [renF_succ fr to_ f k (by omega), ren_some htg hfm]; exact hov30)), hmb1, (by first | assumption | omega | (dsimp only; omega) | (simp; done)), hV⟩
      ·repeat (first | (with_reducible exact Agree.merge _ _ _) | (with_reducible exact Agree.refl _ _) | (with_reducible refine Agree.upd ?_ _ _ rfl) | ((with_reducible refine Agree.inner ?_ ?_); (kernel_rfl)))
    ·skip
     refine r_exit rfl ?_
     refine r_seq ?_
     rw [List.take_of_length_le (by omega)] at hoo
     refine r_region ?_
     refine r_op rfl rfl rfl (run_mv (v := vo) rfl (by exact rfl)) ?_
     obtain ⟨ao32, g32, cp32, hv32, hr32, hg32⟩ := hoo.rowOf
     subst hv32
     refine r_opcall rfl rfl rfl (run_callf (vs := [.slice _ _ _]) rfl (by exact rfl) Try.func34 rfl (by kernel_rfl)) (normalize_calls hr32 (by first | assumption | exact small_ren (by assumption) | exact small_norm (by assumption) | (rw [flat2]; assumption))) ?_
     rintro e w33 ⟨vn33, rfl, hE33, hon33⟩
     refine ⟨_, rfl, ?_⟩
     have hs_w33 := (hE33).size
     replace hV := evo_step0 hV hE33
     replace rf := rf0 _ hV
     replace ra := ra0 _ hV
     replace rb := rb0 _ hV
     replace hoo := hoo.evo0 hE33
     replace hmb1 := hmb1.evo0 hE33
     replace hr32 := hr32.evo0 hE33
     refine r_op rfl rfl rfl (run_asg (v := vn33) rfl (by exact rfl)) ?_
     refine r_nil ?_
     refine r_ret (res1 (v := vn33) rfl (by exact rfl)) ?_
     exact ⟨_, rfl, hV, by have h9 := hon33; exact h9.base_le (by omega)⟩

end Go.Proofs.Ytkdgoghmkmpfnaa
