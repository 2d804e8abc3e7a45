import Derived.Test.YtkdgoghmkmpfnaaW14
namespace Go.Proofs.Ytkdgoghmkmpfnaa
open Go.RowKit Go.Vc
theorem pl_38 : placesP Try.prog 38 = some [(0, 1), (1, 1)] := by kernel_rfl
theorem ty_38 : tyP Try.prog 38 = some (2, 32, some (.agg #[(.slice none 0 0), (.int .i64 0)])) := by kernel_rfl
theorem made_calls {ao : Option Addr} {b off cap : Nat} {l : List Int} {tags nested : Bool} {w0 : World} (hl : RowE w0 ao b off cap l) :
    Calls Try.prog 23 #[.slice ao l.length cap, .bool tags, .bool nested] w0 fun e w' => ∃ v, ∃ f : List Vc.Item, e = .returned v ∧ MF nested f ∧ Evo w0 w' [] ∧ OwnE w' w0.heap.size 26 v f := by
  refine calls_enter (n := 13) (args := [.slice ao l.length cap, .bool tags, .bool nested]) Try.func23 rfl Try.ntmps23 rfl ?_
  have hV : Evo w0 w0 [] := Evo.refl _ _
  have hl0 := keepE hl
  have hbd_hl := hl.bd
  refine r_seq ?_
  refine r_region ?_
  refine r_op rfl rfl rfl (run_asg (v := .slice _ _ _) rfl (by exact rfl)) ?_
  refine r_nil ?_
  refine r_seq ?_
  refine r_region ?_
  refine r_op rfl rfl rfl (run_mv (v := .slice _ _ _) rfl (by exact rfl)) ?_
  refine r_op rfl rfl rfl (run_bld (pv := [(0, .slice _ _ _)]) (zs := [_, _]) (cells := [_, _]) rfl ty_38 (by exact rfl) pl_38 (by exact rfl) (by exact rfl)) ?_
  refine r_box (vs := [_, _]) (by exact rfl) (by exact rfl) rfl ?_
  intro b1 w2 heb1 hEw2 hbb1 hzb1
  have hs_w2 := (hEw2).size
  replace hV := evo_step0 hV hEw2
  replace hl := hl0 _ hV
  have hAb1 := hbb1.at
  refine r_op rfl rfl rfl (run_mv (v := .bool _) rfl (by exact rfl)) ?_
  refine r_op rfl rfl rfl (run_mv (v := .bool _) rfl (by exact rfl)) ?_
  refine r_opcall rfl rfl rfl (run_callf (vs := [.pointer _, .int _ _, .bool _, .bool _]) rfl (by exact rfl) Try.func68 rfl (by kernel_rfl)) (fragment_calls (N := 0) (show Blk _ _ _ [_, .int .i64 ((0 : Nat) : Int)] from hbb1) (fun w9 h9 => hl0 _ (evo_step1 hV h9 (.inl (by omega)))) (by omega) (by omega) (by omega)) ?_
  rintro e w3 ⟨vf3, f3, Nf3, rfl, hf3, hNf3, hE3, hn3, hof3⟩
  refine ⟨_, rfl, ?_⟩
  have hs_w3 := (hE3).size
  replace hV := evo_step1 hV hE3 (by first | exact .inl (by omega) | exact .inr (by simp))
  replace hl := hl0 _ hV
  replace hbb1 := hn3
  clear hn3
  have hAb1 := hbb1.at
  refine r_op rfl rfl rfl (run_asg (v := vf3) rfl (by exact rfl)) ?_
  refine r_nil ?_
  refine r_ret (res1 (v := vf3) rfl (by exact rfl)) ?_
  exact ⟨_, _, rfl, ⟨hf3.1, by have := hf3.2.1; omega, by have := hf3.2.2.1; omega, hf3.2.2.2⟩, hV, hof3.base_le (by omega)⟩

theorem MF.valid {n : Bool} {f : List Vc.Item} (h : MF n f) : validateL f = 0 := by
  have h1 := h.len; have h2 := h.size; have h3 := (lengthL_le f).2
  unfold validateL
  rw [if_neg (by omega)]; exact h.val
theorem MF.small {n : Bool} {f : List Vc.Item} (h : MF n f) : Small f := ⟨by have := h.len; omega, by have := h.size; omega⟩
def insL (f : List Vc.Item) (k : Nat) (x : Vc.Item) : List Vc.Item := f.take k ++ [x] ++ f.drop k
theorem insL_small {f : List Vc.Item} {k : Nat} {x : Vc.Item} (h1 : f.length ≤ 16) (h2 : sizeL f ≤ 240) (h3 : x.text.length ≤ 1000) : Small (insL f k x) := by
  have h4 : sizeL (f.take k) + sizeL (f.drop k) = sizeL f := by rw [← sizeL_append, List.take_append_drop]
  have h5 : (f.take k).length + (f.drop k).length = f.length := by rw [← List.length_append, List.take_append_drop]
  unfold insL
  exact ⟨by simp only [List.length_append, List.length_cons, List.length_nil]; omega, by simp only [sizeL_append, sizeL_one]; omega⟩

theorem validates_law {aof : Option Addr} {bf offf capf : Nat} {f : List Vc.Item} {ao : Option Addr} {b off cap : Nat} {l : List Int} {kx : Int} {tx : Str} {ix : Int} {at_ : Int} {w0 : World} (rf : RowE w0 aof bf offf capf f) (htf : ∀ x ∈ f, x.text.length ≤ reachBytes) (hl : RowE w0 ao b off cap l) :
    Calls Try.prog 5 #[.slice aof f.length capf, .slice ao l.length cap, .agg #[.int .i64 kx, S tx, .int .i64 ix], .int .i64 at_] w0 fun e w' => e = .returned (.bool true) ∧ Evo w0 w' [] := by
  refine calls_enter (n := 73) (args := [.slice aof f.length capf, .slice ao l.length cap, .agg #[.int .i64 kx, S tx, .int .i64 ix], .int .i64 at_]) Try.func5 rfl Try.ntmps5 rfl ?_
  have hV : Evo w0 w0 [] := Evo.refl _ _
  have rf0 := keepE rf
  have hbd_rf := rf.bd
  have hl0 := keepE hl
  have hbd_hl := hl.bd
  refine r_seq ?_
  refine r_region ?_
  refine r_box (vs := [_, _, _]) (by exact rfl) (by exact rfl) rfl ?_
  intro b1 w2 heb1 hEw2 hbb1 hzb1
  have hs_w2 := (hEw2).size
  replace hV := evo_step0 hV hEw2
  replace rf := rf0 _ hV
  replace hl := hl0 _ hV
  have hAb1 := hbb1.at
  refine r_op rfl rfl rfl (run_asg (v := .bool _) rfl (by exact rfl)) ?_
  refine r_nil ?_
  refine r_seq ?_
  refine r_seq ?_
  refine r_region ?_
  refine r_op rfl rfl rfl (run_mv (v := .slice _ _ _) rfl (by exact rfl)) ?_
  refine r_opcall rfl rfl rfl (run_callf (vs := [.slice _ _ _]) rfl (by exact rfl) Try.func22 rfl (by kernel_rfl)) (few_calls rf (texts_at htf)) ?_
  rintro e w3 ⟨lx3, rfl, hlx3, hE3⟩
  refine ⟨_, rfl, ?_⟩
  have hs_w3 := (hE3).size
  replace hV := evo_step0 hV hE3
  replace rf := rf0 _ hV
  replace hl := hl0 _ hV
  replace hbb1 := hbb1.evo0 hE3
  replace hAb1 := hAb1.evo0 hE3
  refine r_op rfl rfl rfl (run_notb rfl (by exact rfl)) ?_
  refine r_op rfl rfl rfl (run_mvb rfl (by exact rfl)) ?_
  refine r_g rfl (wantF (by exact rfl)) rfl (fun hg => run_mv (v := .slice _ _ _) rfl (by exact rfl)) ?_
  refine r_g rfl (wantF (by exact rfl)) rfl (fun hg => run_lenSl rfl (glv (by exact rfl) (fun h => h) hg) Try.underlying24) ?_
  refine r_g rfl (wantF (by exact rfl)) rfl (fun hg => run_gtr rfl (glv (by exact rfl) (fun h => h) hg) (by exact rfl)) ?_
  refine r_op rfl rfl rfl (run_pick_or rfl (by exact rfl) rfl (fun hq => glv (by exact rfl) (fun h => h) hq)) ?_
  refine r_op rfl rfl rfl (run_mv (v := .bool _) rfl (by exact rfl)) ?_
  refine r_g rfl (wantF (by exact rfl)) rfl (fun hg => run_fa rfl (by exact rfl) fo_26_1) ?_
  refine r_g rfl (wantF (by exact rfl)) rfl (fun hg => run_ld1 rfl ag_9 (glv (by exact rfl) (fun h => h) hg) (hAb1.cell 1 (by exact rfl))) ?_
  refine r_g rfl (wantF (by exact rfl)) rfl (fun hg => run_lenS rfl (glv (by exact rfl) (fun h => h) hg) Try.underlying9) ?_
  refine r_g rfl (wantF (by exact rfl)) rfl (fun hg => run_gtr rfl (glv (by exact rfl) (fun h => h) hg) (by exact rfl)) ?_
  refine r_op rfl rfl rfl (run_pick_or rfl (by exact rfl) rfl (fun hq => glv (by exact rfl) (fun h => h) hq)) ?_
  refine r_nil ?_
  refine r_cond (by exact rfl) (fun hc4 => ?_) (fun hc4 => ?_)
  · skip
    refine r_seq ?_
    refine r_region ?_
    refine r_opcall rfl rfl rfl (run_callf (vs := []) rfl (by exact rfl) Try.func21 rfl (by kernel_rfl)) known_calls ?_
    rintro e w5 ⟨rfl, hE5⟩
    refine ⟨_, rfl, ?_⟩
    have hs_w5 := (hE5).size
    replace hV := evo_step0 hV hE5
    replace rf := rf0 _ hV
    replace hl := hl0 _ hV
    replace hbb1 := hbb1.evo0 hE5
    replace hAb1 := hAb1.evo0 hE5
    refine r_op rfl rfl rfl (run_asg (v := .bool _) rfl (by exact rfl)) ?_
    refine r_nil ?_
    refine r_ret (res1 (v := .bool _) rfl (by exact rfl)) ?_
    exact ⟨rfl, hV⟩
  · skip
    refine r_skip ?_
    refine r_seq ?_
    refine r_seq ?_
    have b1 := hlx3 (by simp_all)
    have s1 : Small f := few_small b1
    refine r_region ?_
    refine r_op rfl rfl rfl (run_mv (v := .slice _ _ _) rfl (by exact rfl)) ?_
    refine r_opcall rfl rfl rfl (run_callf (vs := [.slice _ _ _]) rfl (by exact rfl) Try.func19 rfl (by kernel_rfl)) (validate_calls rf (by first | assumption | exact kf_small | exact small_take (by assumption) _ | exact small_norm (by assumption) | (rw [flat2]; assumption))) ?_
    rintro e w6 ⟨rfl, hE6⟩
    refine ⟨_, rfl, ?_⟩
    have hs_w6 := (hE6).size
    replace hV := evo_step0 hV hE6
    replace rf := rf0 _ hV
    replace hl := hl0 _ hV
    replace hbb1 := hbb1.evo0 hE6
    replace hAb1 := hAb1.evo0 hE6
    refine r_op rfl rfl rfl (run_mv (v := .slice _ _ _) rfl (by exact rfl)) ?_
    refine r_opcall rfl rfl rfl (run_callf (vs := [.slice _ _ _]) rfl (by exact rfl) Try.func20 rfl (by kernel_rfl)) (rvalidate_calls rf (by first | assumption | exact kf_small | exact small_take (by assumption) _ | exact small_norm (by assumption) | (rw [flat2]; assumption))) ?_
    rintro e w7 ⟨rfl, hE7⟩
    refine ⟨_, rfl, ?_⟩
    have hs_w7 := (hE7).size
    replace hV := evo_step0 hV hE7
    replace rf := rf0 _ hV
    replace hl := hl0 _ hV
    replace hbb1 := hbb1.evo0 hE7
    replace hAb1 := hAb1.evo0 hE7
    refine r_op rfl rfl rfl (run_neq rfl (by exact rfl) (by exact rfl)) ?_
    refine r_nil ?_
    refine r_cond (by exact rfl) (fun hc8 => ?_) (fun hc8 => ?_)
    · skip
      refine r_seq ?_
      refine r_region ?_
      refine r_op rfl rfl rfl (run_asg (v := .bool _) rfl (by exact rfl)) ?_
      refine r_nil ?_
      refine r_ret (res1 (v := .bool _) rfl (by exact rfl)) ?_
      exact absurd rfl hc8
    · skip
      refine r_skip ?_
      refine r_seq ?_
      refine r_region ?_
      refine r_op rfl rfl rfl (run_mv (v := .slice _ _ _) rfl (by exact rfl)) ?_
      refine r_opcall rfl rfl rfl (run_callf (vs := [.slice _ _ _, .bool _, .bool _]) rfl (by exact rfl) Try.func23 rfl (by kernel_rfl)) (made_calls hl) ?_
      rintro e w9 ⟨vg9, mf9, rfl, hM9, hE9, hog9⟩
      refine ⟨_, rfl, ?_⟩
      have hs_w9 := (hE9).size
      replace hV := evo_step0 hV hE9
      replace rf := rf0 _ hV
      replace hl := hl0 _ hV
      replace hbb1 := hbb1.evo0 hE9
      replace hAb1 := hAb1.evo0 hE9
      refine r_op rfl rfl rfl (run_asg (v := vg9) rfl (by exact rfl)) ?_
      refine r_nil ?_
      refine r_seq ?_
      refine r_seq ?_
      have hmf := hM9; have hml := hmf.len; have hms := hmf.size; have hsv := hmf.small; have hvv := hmf.valid
      refine r_region ?_
      refine r_op rfl rfl rfl (run_mv (v := vg9) rfl (by exact rfl)) ?_
      obtain ⟨ao10, g10, cp10, hv10, hr10, hg10⟩ := hog9.rowOf
      subst hv10
      refine r_opcall rfl rfl rfl (run_callf (vs := [.slice _ _ _]) rfl (by exact rfl) Try.func19 rfl (by kernel_rfl)) (validate_calls hr10 (by first | assumption | exact kf_small | exact small_take (by assumption) _ | exact small_norm (by assumption) | (rw [flat2]; assumption))) ?_
      rintro e w11 ⟨rfl, hE11⟩
      refine ⟨_, rfl, ?_⟩
      have hs_w11 := (hE11).size
      replace hV := evo_step0 hV hE11
      replace rf := rf0 _ hV
      replace hl := hl0 _ hV
      replace hbb1 := hbb1.evo0 hE11
      replace hAb1 := hAb1.evo0 hE11
      replace hog9 := hog9.evo0 hE11
      replace hr10 := hr10.evo0 hE11
      refine r_op rfl rfl rfl (run_neq rfl (by exact rfl) (by exact rfl)) ?_
      refine r_nil ?_
      refine r_cond (by exact rfl) (fun hc12 => ?_) (fun hc12 => ?_)
      · skip
        refine r_seq ?_
        refine r_region ?_
        refine r_op rfl rfl rfl (run_asg (v := .bool _) rfl (by exact rfl)) ?_
        refine r_nil ?_
        refine r_ret (res1 (v := .bool _) rfl (by exact rfl)) ?_
        exact absurd hvv hc12
      · skip
        refine r_skip ?_
        refine r_seq ?_
        refine r_region ?_
        refine r_op rfl rfl rfl (run_mv (v := .int _ _) rfl (by exact rfl)) ?_
        refine r_op rfl rfl rfl (run_mv (v := .slice _ _ _) rfl (by exact rfl)) ?_
        refine r_op rfl rfl rfl (run_lenOE rfl (by exact rfl) Try.underlying30 hog9) ?_
        refine r_op rfl rfl rfl (run_add rfl (by exact rfl) (by exact rfl) (by omega) (by omega)) ?_
        refine r_opcall rfl rfl rfl (run_callf (vs := [.int _ _, .int _ _]) rfl (by exact rfl) Try.func16 rfl (by kernel_rfl)) (place_calls _ _ (by omega) (by omega)) ?_
        rintro e w13 ⟨rfl, rfl⟩
        refine ⟨_, rfl, ?_⟩
        refine r_op rfl rfl rfl (run_asg (v := .int _ _) rfl (by exact rfl)) ?_
        refine r_nil ?_
        refine r_seq ?_
        obtain ⟨ao14, g14, cp14, hv14, hr14, hg14⟩ := hog9.rowOf
        injection hv14 with ha14 hx14 hc14
        subst ha14; subst hc14
        have hk1 := Int.emod_nonneg at_ (show ((mf9.length : Nat) + 1 : Int) ≠ 0 by omega); have hk2 := Int.emod_lt_of_pos at_ (show (0 : Int) < ((mf9.length : Nat) + 1 : Int) by omega)
        refine r_cut [11, 43, 44, 45, 46, 47, 48, 49, 50, 51, 52, 53] (fun g w => ∃ vh : Value, g 11 = vh ∧ OwnE w w0.heap.size 26 vh (insL mf9 ((at_ % ((mf9.length : Nat) + 1 : Int)).toNat) ⟨kx, tx, ix⟩) ∧ w11.heap.size ≤ w.heap.size ∧ Evo w0 w []) ?_ ?_
        · skip
          have hbb1_q := hbb1
          have hAb1_q := hAb1
          have hr14_q := hr14
          have hV_q := hV
          refine h_region [] (by kernel_rfl) ?_
          intro w16 hE17 hC18
          have hs_w16 := (hE17).size
          replace hV := evo_step0 hV hE17
          replace rf := rf0 _ hV
          replace hl := hl0 _ hV
          replace hbb1 := hbb1.evo0 hE17
          replace hAb1 := hAb1.evo0 hE17
          replace hog9 := hog9.evo0 hE17
          replace hr10 := hr10.evo0 hE17
          replace hr14 := hr14.evo0 hE17
          refine h_take (i := 0) (by exact rfl) rfl rfl rfl (by kernel_rfl) (fun w' hC => run_mv (v := .slice _ _ _) rfl (by exact rfl)) hC18 ?_
          refine h_take (i := 1) (by exact rfl) rfl rfl rfl (by kernel_rfl) (fun w' hC => run_mv (v := .int _ _) rfl (by exact rfl)) hC18 ?_
          refine h_take (i := 2) (by exact rfl) rfl rfl rfl (by kernel_rfl) (fun w' hC => by exact run_slE (0) ((at_ % ((mf9.length : Nat) + 1 : Int)).toNat) rfl Try.underlying30 ty_26 (by exact rfl) (hr14_q.evo0 hC) lo0 (at1 (by exact rfl) (by omega)) (by first | omega | (simp; omega)) (by first | omega | (simp; omega)) List.drop_zero) hC18 ?_
          have hS19 := (by have h9 := (hr14.take ((at_ % ((mf9.length : Nat) + 1 : Int)).toNat)).drop (0); rw [List.drop_zero] at h9; exact h9)
          have hbd_hS19 := hS19.bd
          refine h_take (i := 4) (by exact rfl) rfl rfl rfl (by kernel_rfl) (fun w' hC => run_ldN rfl ag_26 ty_26 (by exact rfl) rfl (hAb1_q.evo0 hC)) hC18 ?_
          refine h_take (i := 7) (by exact rfl) rfl rfl rfl (by kernel_rfl) (fun w' hC => run_mv (v := .slice _ _ _) rfl (by exact rfl)) hC18 ?_
          refine h_take (i := 8) (by exact rfl) rfl rfl rfl (by kernel_rfl) (fun w' hC => run_mv (v := .int _ _) rfl (by exact rfl)) hC18 ?_
          refine h_take (i := 9) (by exact rfl) rfl rfl rfl (by kernel_rfl) (fun w' hC => by exact run_slE0 ((at_ % ((mf9.length : Nat) + 1 : Int)).toNat) rfl Try.underlying30 ty_26 rfl (by exact rfl) (hr14_q.evo0 hC) (at1 (by exact rfl) (by omega)) (by first | omega | (simp; omega))) hC18 ?_
          have hS20 := hr14.drop ((at_ % ((mf9.length : Nat) + 1 : Int)).toNat)
          have hbd_hS20 := hS20.bd
          refine h_two (i := 3) (j := 5) (by kernel_rfl) ?_ ?_
          · skip
            refine h_do (by exact rfl) ?_
            refine r_appendE rfl Try.underlying30 ty_26 (by exact rfl) (OwnE.nil (α := Vc.Item) _ w11.heap.size _) (by exact rfl) (by exact rfl) hS19 rfl ((by simp; omega)) ((by simp; omega)) (by omega) ?_
            intro v21 w22 hEw22 hov21 hlv21
            have hs_w22 := (hEw22).size
            replace hV := evo_step0 hV hEw22
            replace hC18 := evo_step0 hC18 hEw22
            replace rf := rf0 _ hV
            replace hl := hl0 _ hV
            replace hbb1 := hbb1.evo0 hEw22
            replace hAb1 := hAb1.evo0 hEw22
            replace hog9 := hog9.evo0 hEw22
            replace hr10 := hr10.evo0 hEw22
            replace hr14 := hr14.evo0 hEw22
            replace hS19 := hS19.evo0 hEw22
            replace hS20 := hS20.evo0 hEw22
            refine h_next hC18 ?_
            refine h_one (i := 5) (by kernel_rfl) ?_
            refine h_do (by exact rfl) ?_
            refine r_bslice (pv := [(0, .agg _)]) (zs := [_, _, _]) (cs := [_, _, _]) Try.underlying30 ty_26 (by exact rfl) rfl (by exact rfl) rfl (by exact rfl) ?_
            intro b23 w24 heb23 hEw24 hbb23 hzb23
            have hs_w24 := (hEw24).size
            replace hV := evo_step0 hV hEw24
            replace hC18 := evo_step0 hC18 hEw24
            replace rf := rf0 _ hV
            replace hl := hl0 _ hV
            replace hog9 := hog9.evo0 hEw24
            replace hr10 := hr10.evo0 hEw24
            replace hr14 := hr14.evo0 hEw24
            replace hS19 := hS19.evo0 hEw24
            replace hS20 := hS20.evo0 hEw24
            replace hov21 := hov21.evo0 hEw24
            have hAb23 := hbb23.at
            have hrb23 : RowE w24 (some ⟨b23, 0, none⟩) b23 0 1 ([⟨kx, tx, ix⟩] : List Vc.Item) := rowLit ([⟨kx, tx, ix⟩] : List Vc.Item) hbb23 rfl rfl
            refine h_next hC18 ?_
            refine h_one (i := 6) (by kernel_rfl) ?_
            refine h_do (by exact rfl) ?_
            refine r_appendE rfl Try.underlying30 ty_26 (by exact rfl) hov21 (by exact rfl) (by exact rfl) hrb23 rfl ((by simp; omega)) ((by simp; omega)) (by omega) ?_
            intro v25 w26 hEw26 hov25 hlv25
            have hs_w26 := (hEw26).size
            replace hV := evo_stepo hV hEw26 (fun g hg => .inl (by first | exact (hov21.block hg).1 | (have := hov21.block hg; omega)))
            replace hC18 := evo_stepo hC18 hEw26 (fun g hg => .inl (by first | exact (hov21.block hg).1 | (have := hov21.block hg; omega)))
            replace rf := rf0 _ hV
            replace hl := hl0 _ hV
            replace hS20 := row_keep hS20 hEw26 (fun hne hm => by have hm2 := Option.mem_toList.1 hm; have h1 := (hov21).block hm2; have h2 := (hg14 (fun e9 => hne (by simp [e9]))).2.2; omega)
            refine h_next hC18 ?_
            refine h_one (i := 10) (by kernel_rfl) ?_
            refine h_do (by exact rfl) ?_
            refine r_appendE rfl Try.underlying30 ty_26 (by exact rfl) hov25 (by exact rfl) (by exact rfl) hS20 rfl ((by simp; omega)) ((by simp; omega)) (by omega) ?_
            intro v27 w28 hEw28 hov27 hlv27
            have hs_w28 := (hEw28).size
            replace hV := evo_stepo hV hEw28 (fun g hg => .inl (by first | exact (hov25.block hg).1 | (have := hov25.block hg; omega)))
            replace rf := rf0 _ hV
            replace hl := hl0 _ hV
            refine h_last (by kernel_rfl) ?_
            refine h_one (i := 11) (by kernel_rfl) ?_
            refine h_do (by exact rfl) ?_
            refine r_op rfl rfl rfl (run_asg (v := v27) rfl (by exact rfl)) ?_
            refine h_last (by kernel_rfl) ?_
            refine h_done (by kernel_rfl) ?_
            refine r_cut_end ?_ ?_
            · refine ⟨_, rfl, (by have h9 := hov27; exact h9.base_le (by omega)), (by first | assumption | omega | (dsimp only; omega) | (simp; done)), hV⟩
            · repeat (first | (with_reducible exact Agree.merge _ _ _) | (with_reducible exact Agree.refl _ _) | (with_reducible refine Agree.upd ?_ _ _ rfl) | ((with_reducible refine Agree.inner ?_ ?_); (kernel_rfl)))
          · skip
            refine h_do (by exact rfl) ?_
            refine r_bslice (pv := [(0, .agg _)]) (zs := [_, _, _]) (cs := [_, _, _]) Try.underlying30 ty_26 (by exact rfl) rfl (by exact rfl) rfl (by exact rfl) ?_
            intro b29 w30 heb29 hEw30 hbb29 hzb29
            have hs_w30 := (hEw30).size
            replace hV := evo_step0 hV hEw30
            replace hC18 := evo_step0 hC18 hEw30
            replace rf := rf0 _ hV
            replace hl := hl0 _ hV
            replace hog9 := hog9.evo0 hEw30
            replace hr10 := hr10.evo0 hEw30
            replace hr14 := hr14.evo0 hEw30
            replace hS19 := hS19.evo0 hEw30
            replace hS20 := hS20.evo0 hEw30
            have hAb29 := hbb29.at
            have hrb29 : RowE w30 (some ⟨b29, 0, none⟩) b29 0 1 ([⟨kx, tx, ix⟩] : List Vc.Item) := rowLit ([⟨kx, tx, ix⟩] : List Vc.Item) hbb29 rfl rfl
            refine h_next hC18 ?_
            refine h_one (i := 3) (by kernel_rfl) ?_
            refine h_do (by exact rfl) ?_
            refine r_appendE rfl Try.underlying30 ty_26 (by exact rfl) (OwnE.nil (α := Vc.Item) _ w11.heap.size _) (by exact rfl) (by exact rfl) hS19 rfl ((by simp; omega)) ((by simp; omega)) (by omega) ?_
            intro v31 w32 hEw32 hov31 hlv31
            have hs_w32 := (hEw32).size
            replace hV := evo_step0 hV hEw32
            replace hC18 := evo_step0 hC18 hEw32
            replace rf := rf0 _ hV
            replace hl := hl0 _ hV
            replace hog9 := hog9.evo0 hEw32
            replace hr10 := hr10.evo0 hEw32
            replace hr14 := hr14.evo0 hEw32
            replace hS19 := hS19.evo0 hEw32
            replace hS20 := hS20.evo0 hEw32
            replace hrb29 := hrb29.evo0 hEw32
            refine h_next hC18 ?_
            refine h_one (i := 6) (by kernel_rfl) ?_
            refine h_do (by exact rfl) ?_
            refine r_appendE rfl Try.underlying30 ty_26 (by exact rfl) hov31 (by exact rfl) (by exact rfl) hrb29 rfl ((by simp; omega)) ((by simp; omega)) (by omega) ?_
            intro v33 w34 hEw34 hov33 hlv33
            have hs_w34 := (hEw34).size
            replace hV := evo_stepo hV hEw34 (fun g hg => .inl (by first | exact (hov31.block hg).1 | (have := hov31.block hg; omega)))
            replace hC18 := evo_stepo hC18 hEw34 (fun g hg => .inl (by first | exact (hov31.block hg).1 | (have := hov31.block hg; omega)))
            replace rf := rf0 _ hV
            replace hl := hl0 _ hV
            replace hS20 := row_keep hS20 hEw34 (fun hne hm => by have hm2 := Option.mem_toList.1 hm; have h1 := (hov31).block hm2; have h2 := (hg14 (fun e9 => hne (by simp [e9]))).2.2; omega)
            refine h_next hC18 ?_
            refine h_one (i := 10) (by kernel_rfl) ?_
            refine h_do (by exact rfl) ?_
            refine r_appendE rfl Try.underlying30 ty_26 (by exact rfl) hov33 (by exact rfl) (by exact rfl) hS20 rfl ((by simp; omega)) ((by simp; omega)) (by omega) ?_
            intro v35 w36 hEw36 hov35 hlv35
            have hs_w36 := (hEw36).size
            replace hV := evo_stepo hV hEw36 (fun g hg => .inl (by first | exact (hov33.block hg).1 | (have := hov33.block hg; omega)))
            replace rf := rf0 _ hV
            replace hl := hl0 _ hV
            refine h_last (by kernel_rfl) ?_
            refine h_one (i := 11) (by kernel_rfl) ?_
            refine h_do (by exact rfl) ?_
            refine r_op rfl rfl rfl (run_asg (v := v35) rfl (by exact rfl)) ?_
            refine h_last (by kernel_rfl) ?_
            refine h_done (by kernel_rfl) ?_
            refine r_cut_end ?_ ?_
            · refine ⟨_, rfl, (by have h9 := hov35; exact h9.base_le (by omega)), (by first | assumption | omega | (dsimp only; omega) | (simp; done)), hV⟩
            · repeat (first | (with_reducible exact Agree.merge _ _ _) | (with_reducible exact Agree.refl _ _) | (with_reducible refine Agree.upd ?_ _ _ rfl) | ((with_reducible refine Agree.inner ?_ ?_); (kernel_rfl)))
        · rintro g w37 ⟨vh, hj38, hoh, hzl15, hV⟩
          have hs_w37hV := hV.size
          replace rf := rf0 _ hV
          replace hl := hl0 _ hV
          refine r_know (i := 11) (v := vh) (by exact hj38) ?_
          refine r_seq ?_
          have s3 : Small (insL mf9 ((at_ % ((mf9.length : Nat) + 1 : Int)).toNat) ⟨kx, tx, ix⟩) := insL_small hml hms (by dsimp only; omega)
          have hobH := fun g hg => (hoh.block (g := g) hg).2
          refine r_region ?_
          refine r_op rfl rfl rfl (run_mv (v := .slice _ _ _) rfl (by exact rfl)) ?_
          refine r_op rfl rfl rfl (run_bld (pv := [(0, .slice _ _ _)]) (zs := [_, _]) (cells := [_, _]) rfl ty_38 (by exact rfl) pl_38 (by exact rfl) (by exact rfl)) ?_
          have hob39 := fun g hg => (hoh.block (g := g) hg).2
          refine r_box (vs := [_, _]) (by exact rfl) (by exact rfl) rfl ?_
          intro b40 w41 heb40 hEw41 hbb40 hzb40
          have hs_w41 := (hEw41).size
          replace hV := evo_step0 hV hEw41
          replace rf := rf0 _ hV
          replace hl := hl0 _ hV
          replace hoh := hoh.evo0 hEw41
          have hAb40 := hbb40.at
          refine r_opcall rfl rfl rfl (run_callf (vs := [.pointer _, .int _ _]) rfl (by exact rfl) Try.func24 rfl (by kernel_rfl)) (raw_calls (N := 0) (show Blk _ _ _ [_, .int .i64 ((0 : Nat) : Int)] from hbb40) (fun w9 h9 => hl0 _ (evo_step1 hV h9 (.inl (by omega)))) (by omega) (by omega) (by omega)) ?_
          rintro e w42 ⟨vf42, f42, rfl, hf42, hE42, hof42⟩
          refine ⟨_, rfl, ?_⟩
          have hs_w42 := (hE42).size
          replace hV := evo_step1 hV hE42 (by first | exact .inl (by omega) | exact .inr (by simp))
          replace rf := rf0 _ hV
          replace hl := hl0 _ hV
          replace hoh := hoh.evo hE42 (by intro g hg hm; simp at hm; subst hm; have h7 := hobH g hg; omega)
          refine r_op rfl rfl rfl (run_asg (v := vf42) rfl (by exact rfl)) ?_
          refine r_nil ?_
          refine r_seq ?_
          have s4 : Small f42 := ⟨by have := hf42.1; omega, by have := hf42.2; omega⟩
          refine r_region ?_
          refine r_op rfl rfl rfl (run_mv (v := vh) rfl (by exact rfl)) ?_
          obtain ⟨ao43, g43, cp43, hv43, hr43, hg43⟩ := hoh.rowOf
          subst hv43
          refine r_opcall rfl rfl rfl (run_callf (vs := [.slice _ _ _]) rfl (by exact rfl) Try.func19 rfl (by kernel_rfl)) (validate_calls hr43 (by first | assumption | exact kf_small | exact small_take (by assumption) _ | exact small_norm (by assumption) | (rw [flat2]; assumption))) ?_
          rintro e w44 ⟨rfl, hE44⟩
          refine ⟨_, rfl, ?_⟩
          have hs_w44 := (hE44).size
          replace hV := evo_step0 hV hE44
          replace rf := rf0 _ hV
          replace hl := hl0 _ hV
          replace hoh := hoh.evo0 hE44
          replace hof42 := hof42.evo0 hE44
          replace hr43 := hr43.evo0 hE44
          refine r_op rfl rfl rfl (run_mv (v := .slice _ _ _) rfl (by exact rfl)) ?_
          refine r_opcall rfl rfl rfl (run_callf (vs := [.slice _ _ _]) rfl (by exact rfl) Try.func20 rfl (by kernel_rfl)) (rvalidate_calls hr43 (by first | assumption | exact kf_small | exact small_take (by assumption) _ | exact small_norm (by assumption) | (rw [flat2]; assumption))) ?_
          rintro e w45 ⟨rfl, hE45⟩
          refine ⟨_, rfl, ?_⟩
          have hs_w45 := (hE45).size
          replace hV := evo_step0 hV hE45
          replace rf := rf0 _ hV
          replace hl := hl0 _ hV
          replace hoh := hoh.evo0 hE45
          replace hof42 := hof42.evo0 hE45
          replace hr43 := hr43.evo0 hE45
          refine r_op rfl rfl rfl (run_eql rfl (by exact rfl) (by exact rfl)) ?_
          refine r_op rfl rfl rfl (run_mv (v := .bool _) rfl (by exact rfl)) ?_
          refine r_g rfl (wantT (by exact rfl)) rfl (fun hg => run_mv (v := vf42) rfl (by exact rfl)) ?_
          obtain ⟨ao46, g46, cp46, hv46, hr46, hg46⟩ := hof42.rowOf
          subst hv46
          refine r_gcall rfl (wantT (by exact rfl)) rfl (fun hg => run_callf rfl (argcons (v := .slice _ _ _) (glv (by exact rfl) (fun h => h) hg) (rfl)) Try.func19 rfl (by kernel_rfl)) (fun hg => (validate_calls hr46 (by first | assumption | exact kf_small | exact small_take (by assumption) _ | exact small_norm (by assumption) | (rw [flat2]; assumption))).mono (fun e w' h => ⟨h.1, h.2⟩)) (fun w47 hE48 => ?_)
          have hs_w47 := (hE48).size
          replace hV := evo_step0 hV hE48
          replace rf := rf0 _ hV
          replace hl := hl0 _ hV
          replace hoh := hoh.evo0 hE48
          replace hof42 := hof42.evo0 hE48
          replace hr43 := hr43.evo0 hE48
          replace hr46 := hr46.evo0 hE48
          refine r_g rfl (wantT (by exact rfl)) rfl (fun hg => run_mv (v := .slice _ _ _) rfl (by exact rfl)) ?_
          refine r_gcall rfl (wantT (by exact rfl)) rfl (fun hg => run_callf rfl (argcons (v := .slice _ _ _) (glv (by exact rfl) (fun h => h) hg) (rfl)) Try.func20 rfl (by kernel_rfl)) (fun hg => (rvalidate_calls hr46 (by first | assumption | exact kf_small | exact small_take (by assumption) _ | exact small_norm (by assumption) | (rw [flat2]; assumption))).mono (fun e w' h => ⟨h.1, h.2⟩)) (fun w49 hE50 => ?_)
          have hs_w49 := (hE50).size
          replace hV := evo_step0 hV hE50
          replace rf := rf0 _ hV
          replace hl := hl0 _ hV
          replace hoh := hoh.evo0 hE50
          replace hof42 := hof42.evo0 hE50
          replace hr43 := hr43.evo0 hE50
          replace hr46 := hr46.evo0 hE50
          refine r_g rfl (wantT (by exact rfl)) rfl (fun hg => run_eql rfl (glv (by exact rfl) (fun h => h) hg) (glv (by exact rfl) (fun h => h) hg)) ?_
          refine r_op rfl rfl rfl (run_pick_and rfl (by exact rfl) (fun hq => glv (by exact rfl) (fun h => h) hq) rfl) ?_
          refine r_op rfl rfl rfl (run_mv (v := .bool _) rfl (by exact rfl)) ?_
          refine r_gcall rfl (wantT (by exact rfl)) rfl (fun hg => run_callf rfl (rfl) Try.func21 rfl (by kernel_rfl)) (fun hg => (known_calls ).mono (fun e w' h => ⟨h.1, h.2⟩)) (fun w51 hE52 => ?_)
          have hs_w51 := (hE52).size
          replace hV := evo_step0 hV hE52
          replace rf := rf0 _ hV
          replace hl := hl0 _ hV
          replace hoh := hoh.evo0 hE52
          replace hof42 := hof42.evo0 hE52
          replace hr43 := hr43.evo0 hE52
          replace hr46 := hr46.evo0 hE52
          refine r_op rfl rfl rfl (run_pick_and rfl (by exact rfl) (fun hq => glv (by exact rfl) (fun h => h) hq) rfl) ?_
          refine r_op rfl rfl rfl (run_asg (v := .bool _) rfl (by exact rfl)) ?_
          refine r_nil ?_
          refine r_ret (res1 (v := .bool _) rfl (by exact rfl)) ?_
          exact ⟨ret_bool (decide_eq_true ⟨⟨rfl, rfl⟩, trivial⟩), hV⟩

end Go.Proofs.Ytkdgoghmkmpfnaa
