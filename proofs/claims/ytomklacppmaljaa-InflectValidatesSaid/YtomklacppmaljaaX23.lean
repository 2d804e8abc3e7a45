import Derived.Test.YtomklacppmaljaaX22
import Derived.Test.YtomklacppmaljaaCls
namespace Go.Proofs.Ytomklacppmaljaa
open Go.RowKit Go.Vc

theorem made_lenC {cl : List Clas} {m : Nat} (h : MadeP cl m 0) : cl.length = m := h.1
theorem made_ends {cl : List Clas} {m : Nat} (h : MadeP cl m 0) {k : Nat} (hk : k < cl.length) : (cl.getD k default).ends.length ≤ 3 := (h.2.2 _ (getD_in hk)).2
theorem made_store {cl : List Clas} {m k : Nat} (h : MadeP cl m 0) (hm : m ≤ 9) (hk : k < cl.length) {x : Ende} (hx : BdE x) : ∀ y, cl[k]? = some y → BdC ⟨y.name, (cl.getD k default).ends ++ [x]⟩ := fun y hy => by
  have e : cl.getD k default = y := by simp [List.getD, hy]
  have h1 := h.bd hm _ (getD_in hk)
  have h2 := made_ends h hk
  rw [e] at h1 h2 ⊢
  refine ⟨h1.1, fun z hz => ?_, ?_⟩
  · rcases List.mem_append.1 hz with h3 | h3
    · exact h1.2.1 z h3
    · have : z = x := by simpa using h3
      rw [this]; exact hx
  · show (y.ends ++ [x]).length ≤ _
    rw [List.length_append]; simp; omega

theorem validates_law {ao : Option Addr} {b off cap : Nat} {c : List Clas} {aol : Option Addr} {bl offl capl : Nat} {l : List Int} {p q : Str} {at_ : Int} {w0 : World} (hc : RowR w0 ao b off cap c) (hl : RowE w0 aol bl offl capl l) (hq : BdE ⟨p, q⟩) :
    Calls Try.prog 7 #[.slice ao c.length cap, .slice aol l.length capl, (.agg #[S p, S q]), .int .i64 at_] w0 fun e w' => e = .returned (.bool true) ∧ Evo w0 w' [] := by
 refine calls_enter (n := 66) (args := [.slice ao c.length cap, .slice aol l.length capl, (.agg #[S p, S q]), .int .i64 at_]) Try.func7 rfl Try.ntmps7 rfl ?_
 have hV : Evo w0 w0 [] := Evo.refl _ _
 have hc0 := hc.keep
 have hbd_hc := hc.bd
 have hl0 := keepE hl
 have hbd_hl := hl.bd
 refine r_seq ?_
 refine r_region ?_
 refine r_box (vs := [_, _]) (by exact rfl) (by exact rfl) rfl ?_
 intro b1 w2 heb1 hEw2 hbb1 hzb1
 have hs_w2 := (hEw2).size
 replace hV := evo_step0 hV hEw2
 replace hc := hc0.now hV
 replace hl := hl0 _ hV
 have hAb1 := hbb1.at
 refine r_op rfl rfl rfl (run_asg (v := .bool _) rfl (by exact rfl)) ?_
 refine r_nil ?_
 refine r_seq ?_
 refine r_seq ?_
 refine r_region ?_
 refine r_op rfl rfl rfl (run_mv (v := .slice _ _ _) rfl (by exact rfl)) ?_
 refine r_bslice (pv := [(0, .slice _ _ _)]) (zs := [_]) (cs := [_]) Try.underlying101 ty_23 (by exact rfl) rfl (by exact rfl) rfl (by exact rfl) ?_
 intro b3 w4 heb3 hEw4 hbb3 hzb3
 have hs_w4 := (hEw4).size
 replace hV := evo_step0 hV hEw4
 replace hc := hc0.now hV
 replace hl := hl0 _ hV
 replace hbb1 := hbb1.evo0 hEw4
 replace hAb1 := hAb1.evo0 hEw4
 have hAb3 := hbb3.at
 have hrb3 : RowR w4 (some ⟨b3, 0, none⟩) b3 0 1 ([l] : List (List Int)) := rowLitR [[_]] ([l] : List (List Int)) hbb3 rfl (RepL.one (sl_rep hl)) rfl
 refine r_opcall rfl rfl rfl (run_callf (vs := [.slice (some ⟨b3, 0, none⟩) _ _]) rfl (by exact rfl) Try.func21 rfl (by kernel_rfl)) (long_calls hrb3 (by simp only [List.flatten_cons, List.flatten_nil, List.append_nil]; omega)) ?_
 rintro e w5 ⟨rfl, hE5⟩
 refine ⟨_, rfl, ?_⟩
 have hs_w5 := (hE5).size
 replace hV := evo_step0 hV hE5
 replace hc := hc0.now hV
 replace hl := hl0 _ hV
 replace hbb1 := hbb1.evo0 hE5
 replace hAb1 := hAb1.evo0 hE5
 replace hrb3 := hrb3.evo0 hE5
 refine r_op rfl rfl rfl (run_mvb rfl (by exact rfl)) ?_
 refine r_g rfl (wantF (by exact rfl)) rfl (fun hg => run_mv (v := .slice _ _ _) rfl (by exact rfl)) ?_
 refine r_gcallB rfl (wantF (by exact rfl)) rfl (fun hg => run_callf rfl (argcons (v := .slice _ _ _) (glv (by exact rfl) (fun h => h) hg) (rfl)) Try.func22 rfl (by kernel_rfl)) (fun hg => (bigx_calls hc)) ?_
 intro gx8 w6 hgx8 hE7
 have hs_w6 := (hE7).size
 replace hV := evo_step0 hV hE7
 replace hc := hc0.now hV
 replace hl := hl0 _ hV
 replace hbb1 := hbb1.evo0 hE7
 replace hAb1 := hAb1.evo0 hE7
 replace hrb3 := hrb3.evo0 hE7
 refine r_op rfl rfl rfl (run_pick_or rfl (by exact rfl) rfl (fun hq => glv (by exact rfl) (fun h => h) hq)) ?_
 refine r_nil ?_
 refine r_cond (by exact rfl) (fun hc9 => ?_) (fun hc9 => ?_)
 ·skip
  refine r_seq ?_
  refine r_region ?_
  refine r_opcall rfl rfl rfl (run_callf (vs := []) rfl (by exact rfl) Try.func23 rfl (by kernel_rfl)) known_calls ?_
  rintro e w10 ⟨rfl, hE10⟩
  refine ⟨_, rfl, ?_⟩
  have hs_w10 := (hE10).size
  replace hV := evo_step0 hV hE10
  replace hc := hc0.now hV
  replace hl := hl0 _ hV
  replace hbb1 := hbb1.evo0 hE10
  replace hAb1 := hAb1.evo0 hE10
  replace hrb3 := hrb3.evo0 hE10
  refine r_op rfl rfl rfl (run_asg (v := .bool _) rfl (by exact rfl)) ?_
  refine r_nil ?_
  refine r_ret (res1 (v := .bool _) rfl (by exact rfl)) ?_
  first | exact ⟨rfl, hV⟩ | exact ⟨ret_bool (decide_eq_true ⟨rfl, rfl⟩), hV⟩ | exact absurd hc9 (by simp)
 ·skip
  refine r_skip ?_
  refine r_seq ?_
  refine r_region ?_
  refine r_op rfl rfl rfl (run_mv (v := .slice _ _ _) rfl (by exact rfl)) ?_
  refine r_opcall rfl rfl rfl (run_callf (vs := [.slice _ _ _]) rfl (by exact rfl) Try.func25 rfl (by kernel_rfl)) from_calls ?_
  rintro e w11 ⟨bs11, rfl, hbs11, hE11, hbn11, hbA11⟩
  refine ⟨_, rfl, ?_⟩
  have hs_w11 := (hE11).size
  replace hV := evo_step0 hV hE11
  replace hc := hc0.now hV
  replace hl := hl0 _ hV
  replace hbb1 := hbb1.evo0 hE11
  replace hAb1 := hAb1.evo0 hE11
  replace hrb3 := hrb3.evo0 hE11
  refine r_opcall rfl rfl rfl (run_callf (vs := [.pointer _, .int _ _]) rfl (by exact rfl) Try.func24 rfl (by kernel_rfl)) (classes_calls (N := 0) (show Blk _ _ _ [_, .int .i64 ((0 : Nat) : Int)] from hbn11) (fun w9 h9 => hl0 _ (evo_step1 hV h9 (.inl (by omega)))) (by omega) (by omega) (by omega)) ?_
  rintro e w12 ⟨vc12, cl12, mc12, Nc12, rfl, hMC12, hNc12, hE12, hn12, hoC12⟩
  refine ⟨_, rfl, ?_⟩
  have hs_w12 := (hE12).size
  replace hV := evo_step1 hV hE12 (by first | exact .inl (by omega) | exact .inr (by simp))
  replace hc := hc0.now hV
  replace hl := hl0 _ hV
  replace hbb1 := hbb1.evo hE12 (by simp; omega)
  replace hAb1 := hAb1.evo hE12 (by simp; omega)
  replace hbn11 := hn12
  clear hn12
  have hbA11 := hbn11.at
  refine r_op rfl rfl rfl (run_asg (v := vc12) rfl (by exact rfl)) ?_
  refine r_nil ?_
  refine r_seq ?_
  refine r_seq ?_
  have hmb := hMC12.1.bd (by omega)
  refine r_region ?_
  refine r_op rfl rfl rfl (run_mv (v := .slice _ _ _) rfl (by exact rfl)) ?_
  refine r_opcall rfl rfl rfl (run_callf (vs := [.slice _ _ _]) rfl (by exact rfl) Try.func34 rfl (by kernel_rfl)) (validate_calls hc) ?_
  rintro e w13 ⟨rfl, hE13⟩
  refine ⟨_, rfl, ?_⟩
  have hs_w13 := (hE13).size
  replace hV := evo_step0 hV hE13
  replace hc := hc0.now hV
  replace hl := hl0 _ hV
  replace hbb1 := hbb1.evo0 hE13
  replace hAb1 := hAb1.evo0 hE13
  replace hoC12 := hoC12.evo0 hE13
  refine r_op rfl rfl rfl (run_mv (v := .slice _ _ _) rfl (by exact rfl)) ?_
  refine r_opcall rfl rfl rfl (run_callf (vs := [.slice _ _ _]) rfl (by exact rfl) Try.func35 rfl (by kernel_rfl)) (rvalidate_calls hc) ?_
  rintro e w14 ⟨rfl, hE14⟩
  refine ⟨_, rfl, ?_⟩
  have hs_w14 := (hE14).size
  replace hV := evo_step0 hV hE14
  replace hc := hc0.now hV
  replace hl := hl0 _ hV
  replace hbb1 := hbb1.evo0 hE14
  replace hAb1 := hAb1.evo0 hE14
  replace hoC12 := hoC12.evo0 hE14
  refine r_op rfl rfl rfl (run_neq rfl (by exact rfl) (by exact rfl)) ?_
  refine r_op rfl rfl rfl (run_mv (v := .bool _) rfl (by exact rfl)) ?_
  refine r_gyes rfl (wantF (by exact rfl)) (by exact (by simp)) ?_
  refine r_op rfl rfl rfl (run_mv (v := vc12) rfl (by exact rfl)) ?_
  refine r_gyes rfl (wantF (by exact rfl)) (by exact (by simp)) ?_
  obtain ⟨ao15, g15, cp15, hv15, hr15⟩ := hoC12.rowOf
  subst hv15
  have hbd_hr15 := hr15.bd
  refine r_opcall rfl rfl rfl (run_callf (vs := [.slice _ _ _]) rfl (by exact rfl) Try.func34 rfl (by kernel_rfl)) (validate_calls hr15) ?_
  rintro e w16 ⟨rfl, hE16⟩
  refine ⟨_, rfl, ?_⟩
  have hs_w16 := (hE16).size
  replace hV := evo_step0 hV hE16
  replace hc := hc0.now hV
  replace hl := hl0 _ hV
  replace hbb1 := hbb1.evo0 hE16
  replace hAb1 := hAb1.evo0 hE16
  replace hoC12 := hoC12.evo0 hE16
  replace hr15 := hr15.evo0 hE16
  refine r_gyes rfl (wantF (by exact rfl)) (by exact (by simp)) ?_
  refine r_op rfl rfl rfl (run_mv (v := .slice _ _ _) rfl (by exact rfl)) ?_
  refine r_gyes rfl (wantF (by exact rfl)) (by exact (by simp)) ?_
  refine r_opcall rfl rfl rfl (run_callf (vs := [.slice _ _ _]) rfl (by exact rfl) Try.func35 rfl (by kernel_rfl)) (rvalidate_calls hr15) ?_
  rintro e w17 ⟨rfl, hE17⟩
  refine ⟨_, rfl, ?_⟩
  have hs_w17 := (hE17).size
  replace hV := evo_step0 hV hE17
  replace hc := hc0.now hV
  replace hl := hl0 _ hV
  replace hbb1 := hbb1.evo0 hE17
  replace hAb1 := hAb1.evo0 hE17
  replace hoC12 := hoC12.evo0 hE17
  replace hr15 := hr15.evo0 hE17
  refine r_gyes rfl (wantF (by exact rfl)) (by exact (by simp)) ?_
  refine r_op rfl rfl rfl (run_neq rfl (by exact rfl) (by exact rfl)) ?_
  refine r_op rfl rfl rfl (run_pick_or rfl (by exact rfl) rfl (fun _ => (by exact rfl))) ?_
  refine r_nil ?_
  refine r_cond (by exact rfl) (fun hc18 => ?_) (fun hc18 => ?_)
  ·skip
   refine r_seq ?_
   refine r_region ?_
   refine r_op rfl rfl rfl (run_asg (v := .bool _) rfl (by exact rfl)) ?_
   refine r_nil ?_
   refine r_ret (res1 (v := .bool _) rfl (by exact rfl)) ?_
   first | exact ⟨rfl, hV⟩ | exact ⟨ret_bool (decide_eq_true ⟨rfl, rfl⟩), hV⟩ | exact absurd hc18 (by simp)
  ·skip
   refine r_skip ?_
   refine r_seq ?_
   refine r_seq ?_
   refine r_region ?_
   refine r_op rfl rfl rfl (run_mv (v := .slice _ _ _) rfl (by exact rfl)) ?_
   refine r_op rfl rfl rfl (run_lenOR rfl (by exact rfl) Try.underlying22 hoC12) ?_
   refine r_op rfl rfl rfl (run_gtr rfl (by exact rfl) (by exact rfl)) ?_
   refine r_nil ?_
   refine r_cond (by exact rfl) (fun hc19 => ?_) (fun hc19 => ?_)
   ·skip
    refine r_seq ?_
    have hcll := hMC12.1.1
    have hj0 := Int.emod_nonneg at_ (show ((cl12.length : Nat) : Int) ≠ 0 by omega); have hj1 := Int.emod_lt_of_pos at_ (show (0 : Int) < ((cl12.length : Nat) : Int) by omega)
    refine r_region ?_
    refine r_op rfl rfl rfl (run_mv (v := .int _ _) rfl (by exact rfl)) ?_
    refine r_op rfl rfl rfl (run_mv (v := .slice _ _ _) rfl (by exact rfl)) ?_
    refine r_op rfl rfl rfl (run_lenOR rfl (by exact rfl) Try.underlying22 hoC12) ?_
    refine r_opcall rfl rfl rfl (run_callf (vs := [.int _ _, .int _ _]) rfl (by exact rfl) Try.func33 rfl (by kernel_rfl)) (place_calls _ _ (by omega) (by omega)) ?_
    rintro e w20 ⟨rfl, rfl⟩
    refine ⟨_, rfl, ?_⟩
    refine r_op rfl rfl rfl (run_asg (v := .int _ _) rfl (by exact rfl)) ?_
    refine r_nil ?_
    refine r_seq ?_
    have hI21 : Evo w17 w17 [] := Evo.refl _ _
    have hr150 := hr15.keep
    refine r_region ?_
    refine r_bslice (pv := []) (zs := [_, _]) (cs := []) Try.underlying22 ty_43 (by exact rfl) rfl (by exact rfl) rfl (by exact rfl) ?_
    intro b22 w23 heb22 hEw23 hbb22 hzb22
    have hs_w23 := (hEw23).size
    replace hV := evo_step0 hV hEw23
    replace hI21 := evo_step0 hI21 hEw23
    replace hc := hc0.now hV
    replace hl := hl0 _ hV
    replace hbb1 := hbb1.evo0 hEw23
    replace hAb1 := hAb1.evo0 hEw23
    replace hoC12 := hoC12.evo0 hEw23
    replace hr15 := hr150.now hI21
    have hAb22 := hbb22.at
    have hob22 : OwnR (α := Clas) w23 w17.heap.size 43 [] (.slice (some ⟨b22, 0, none⟩) 0 0) [] := ownR_lit0 hbb22 (by omega)
    refine r_op rfl rfl rfl (run_mv (v := .slice _ _ _) rfl (by exact rfl)) ?_
    refine r_appendR (w1 := w17) (E' := []) rfl Try.underlying22 ty_43 (by exact rfl) clas_one hob22 (by exact rfl) (by exact rfl) hr150 ((fun w9 h9 => Evo.trans hI21 h9 (fun x hx hlt => by simp [Value.ownBlock] at hx; omega))) rfl (by simp; omega) (by simp; omega) (by omega) ?_
    intro v24 w25 hEw25 hov24 hlv24
    have hs_w25 := (hEw25).size
    replace hV := evo_stepo hV hEw25 (fun g hg => .inl (by first | exact (hob22.block hg).1 | (have := hob22.block hg; omega)))
    replace hI21 := evo_stepo hI21 hEw25 (fun g hg => .inl (by first | exact (hob22.block hg).1 | (have := hob22.block hg; omega)))
    replace hc := hc0.now hV
    replace hl := hl0 _ hV
    replace hbb1 := hbb1.evo hEw25 (by intro hm; have hm2 := Option.mem_toList.1 hm; first | (have := hob22.block hm2; omega) | (simp [Value.ownBlock] at hm2; omega))
    replace hAb1 := hAb1.evo hEw25 (by intro hm; have hm2 := Option.mem_toList.1 hm; first | (have := hob22.block hm2; omega) | (simp [Value.ownBlock] at hm2; omega))
    replace hr15 := hr150.now hI21
    refine r_op rfl rfl rfl (run_asg (v := v24) rfl (by exact rfl)) ?_
    refine r_nil ?_
    rw [List.nil_append] at hov24
    have hI9 : Evo w25 w25 [] := Evo.refl _ _
    have hoM0 := hov24
    have hobM := fun g hg => (hov24.block (g := g) hg).2
    obtain ⟨ao26, g26, cp26, hv26, hr26⟩ := hov24.rowOf
    subst hv26
    have hbd_hr26 := hr26.bd
    have hr260 := hr26.keep
    have hme := made_ends hMC12.1 (k := (at_ % (cl12.length : Int)).toNat) (by omega)
    have hbb1_q := hbb1
    have hAb1_q := hAb1
    have hV_q := hV
    have hI9_q := hI9
    refine h_region ([]) (by kernel_rfl) ?_
    intro w27 hE28 hCst9
    have hs_w27 := (hE28).size
    replace hV := evo_step0 hV hE28
    replace hI9 := evo_step0 hI9 hE28
    replace hc := hc0.now hV
    replace hl := hl0 _ hV
    replace hbb1 := hbb1.evo0 hE28
    replace hAb1 := hAb1.evo0 hE28
    replace hr26 := hr260.now hI9
    refine h_take (i := 0) (by exact rfl) rfl rfl rfl (by kernel_rfl) (fun w' hC => run_mv (v := .slice _ _ _) rfl (by exact rfl)) hCst9 ?_
    refine h_take (i := 1) (by exact rfl) rfl rfl rfl (by kernel_rfl) (fun w' hC => run_mv (v := .int _ _) rfl (by exact rfl)) hCst9 ?_
    refine h_take (i := 3) (by exact rfl) rfl rfl rfl (by kernel_rfl) (fun w' hC => run_mv (v := .slice _ _ _) rfl (by exact rfl)) hCst9 ?_
    refine h_take (i := 4) (by exact rfl) rfl rfl rfl (by kernel_rfl) (fun w' hC => run_mv (v := .int _ _) rfl (by exact rfl)) hCst9 ?_
    refine h_take (i := 5) (by exact rfl) rfl rfl rfl (by kernel_rfl) (fun w' hC => run_ix ((at_ % (cl12.length : Int)).toNat) rfl Try.underlying22 ty_43 (by exact rfl) (by exact rfl) (by omega) (by omega) (hr26.addr (i := (at_ % (cl12.length : Int)).toNat) (by omega))) hCst9 ?_
    obtain ⟨ao29, b29, off29, cap29, hX⟩ := clas_atK hr260 ((at_ % (cl12.length : Int)).toNat) (by omega)
    have hA290 := fun (w' : World) (h : Evo w25 w' []) => (hX w' h).1
    have hA29 := hA290 _ hI9
    have hR290 := fun (w' : World) (h : Evo w25 w' []) => (hX w' h).2
    have hR29 := hR290 _ hI9
    clear hX
    have hbd_hR29 := hR29.bd
    refine h_take (i := 6) (by exact rfl) rfl rfl rfl (by kernel_rfl) (fun w' hC => run_fa rfl (by exact rfl) fo_43_1) hCst9 ?_
    refine h_take (i := 7) (by exact rfl) rfl rfl rfl (by kernel_rfl) (fun w' hC => run_ld1 rfl ag_41 (by exact rfl) ((hA290 _ (evo_step0 hI9_q hC)).cell 1 (by exact rfl))) hCst9 ?_
    refine h_take (i := 9) (by exact rfl) rfl rfl rfl (by kernel_rfl) (fun w' hC => run_ldN rfl ag_46 ty_46 (by exact rfl) rfl (hAb1_q.evo0 hC)) hCst9 ?_
    refine h_two (i := 2) (j := 10) (by kernel_rfl) ?_ ?_
    ·skip
     refine h_do (by exact rfl) ?_
     refine r_bslice (pv := []) (zs := [_, _]) (cs := []) Try.underlying41 ty_46 (by exact rfl) rfl (by exact rfl) rfl (by exact rfl) ?_
     intro b30 w31 heb30 hEw31 hbb30 hzb30
     have hs_w31 := (hEw31).size
     replace hV := evo_step0 hV hEw31
     replace hI9 := evo_step0 hI9 hEw31
     replace hCst9 := evo_step0 hCst9 hEw31
     replace hc := hc0.now hV
     replace hl := hl0 _ hV
     replace hbb1 := hbb1.evo0 hEw31
     replace hAb1 := hAb1.evo0 hEw31
     replace hr26 := hr260.now hI9
     replace hR29 := hR290 _ hI9
     have hAb30 := hbb30.at
     have hob30 : OwnE (α := Ende) w31 w25.heap.size 46 (.slice (some ⟨b30, 0, none⟩) 0 0) [] := ownE_lit0 hbb30 (by omega)
     refine h_next hCst9 ?_
     refine h_two (i := 8) (j := 10) (by kernel_rfl) ?_ ?_
     ·skip
      refine h_do (by exact rfl) ?_
      refine r_appendE rfl Try.underlying41 ty_46 (by exact rfl) hob30 (by exact rfl) (by exact rfl) hR29 rfl (by simp only [List.length_nil, Nat.zero_add]; omega) (by simp only [List.length_nil, Nat.zero_add]; omega) (by omega) ?_
      intro v32 w33 hEw33 hov32 hlv32
      have hs_w33 := (hEw33).size
      replace hV := evo_stepo hV hEw33 (fun g hg => .inl (by first | exact (hob30.block hg).1 | (have := hob30.block hg; omega)))
      replace hI9 := evo_stepo hI9 hEw33 (fun g hg => .inl (by first | exact (hob30.block hg).1 | (have := hob30.block hg; omega)))
      replace hCst9 := evo_stepo hCst9 hEw33 (fun g hg => .inl (by first | exact (hob30.block hg).1 | (have := hob30.block hg; omega)))
      replace hc := hc0.now hV
      replace hl := hl0 _ hV
      replace hbb1 := hbb1.evo hEw33 (by intro hm; have hm2 := Option.mem_toList.1 hm; first | (have := hob30.block hm2; omega) | (simp [Value.ownBlock] at hm2; omega))
      replace hAb1 := hAb1.evo hEw33 (by intro hm; have hm2 := Option.mem_toList.1 hm; first | (have := hob30.block hm2; omega) | (simp [Value.ownBlock] at hm2; omega))
      replace hr26 := hr260.now hI9
      refine h_next hCst9 ?_
      refine h_one (i := 10) (by kernel_rfl) ?_
      refine h_do (by exact rfl) ?_
      have hob34 := fun g hg => (hov32.block (g := g) hg).2
      refine r_bslice (pv := [(0, .agg _)]) (zs := [_, _]) (cs := [_, _]) Try.underlying41 ty_46 (by exact rfl) rfl (by exact rfl) rfl (by exact rfl) ?_
      intro b35 w36 heb35 hEw36 hbb35 hzb35
      have hs_w36 := (hEw36).size
      replace hV := evo_step0 hV hEw36
      replace hI9 := evo_step0 hI9 hEw36
      replace hCst9 := evo_step0 hCst9 hEw36
      replace hc := hc0.now hV
      replace hl := hl0 _ hV
      replace hr26 := hr260.now hI9
      replace hov32 := hov32.evo0 hEw36
      have hAb35 := hbb35.at
      have hrb35 := rowLit (α := Ende) [⟨_, _⟩] hbb35 (by show [_, _] = [_, _]; first | (dsimp only; done) | exact rfl | (dsimp only; exact rfl)) rfl
      refine h_next hCst9 ?_
      refine h_one (i := 11) (by kernel_rfl) ?_
      refine h_do (by exact rfl) ?_
      refine r_appendE rfl Try.underlying41 ty_46 (by exact rfl) hov32 (by exact rfl) (by exact rfl) hrb35 rfl (by simp only [List.nil_append, List.length_cons, List.length_nil]; omega) (by simp only [List.nil_append, List.length_cons, List.length_nil]; omega) (by omega) ?_
      intro v37 w38 hEw38 hov37 hlv37
      have hs_w38 := (hEw38).size
      replace hV := evo_stepo hV hEw38 (fun g hg => .inl (by first | exact (hov32.block hg).1 | (have := hov32.block hg; omega)))
      replace hI9 := evo_stepo hI9 hEw38 (fun g hg => .inl (by first | exact (hov32.block hg).1 | (have := hov32.block hg; omega)))
      replace hCst9 := evo_stepo hCst9 hEw38 (fun g hg => .inl (by first | exact (hov32.block hg).1 | (have := hov32.block hg; omega)))
      replace hc := hc0.now hV
      replace hl := hl0 _ hV
      replace hr26 := hr260.now hI9
      refine h_next hCst9 ?_
      refine h_take (i := 12) (by exact rfl) rfl rfl rfl (by kernel_rfl) (fun w' hC => run_ix ((at_ % (cl12.length : Int)).toNat) rfl Try.underlying22 ty_43 (by exact rfl) (by exact rfl) (by omega) (by omega) (hr26.addr (i := (at_ % (cl12.length : Int)).toNat) (by omega))) hCst9 ?_
      obtain ⟨ao39, b39, off39, cap39, hX⟩ := clas_atK hr260 ((at_ % (cl12.length : Int)).toNat) (by omega)
      have hA390 := fun (w' : World) (h : Evo w25 w' []) => (hX w' h).1
      have hA39 := hA390 _ hI9
      have hR390 := fun (w' : World) (h : Evo w25 w' []) => (hX w' h).2
      have hR39 := hR390 _ hI9
      clear hX
      have hbd_hR39 := hR39.bd
      refine h_take (i := 13) (by exact rfl) rfl rfl rfl (by kernel_rfl) (fun w' hC => run_fa rfl (by exact rfl) fo_43_1) hCst9 ?_
      refine h_one (i := 14) (by kernel_rfl) ?_
      refine h_do (by exact rfl) ?_
      have hov24 := hoM0.evo0 hI9
      have hr26 := hr260.now hI9
      obtain ⟨ao40, cp40, hv40⟩ := hov37.shape
      subst hv40
      refine r_storeRr (vs := [_]) ((at_ % (cl12.length : Int)).toNat) 1 (⟨(cl12.getD (at_ % (cl12.length : Int)).toNat default).name, (cl12.getD (at_ % (cl12.length : Int)).toNat default).ends ++ [⟨p, q⟩]⟩ : Clas) (by exact rfl) (by first | rfl | omega) (by exact rfl) hov24 hr26 (by omega) ty_41 (by exact rfl) rfl (by exact rfl) rfl (clas_setO (by first | rfl | simp) hov37 (by simp) (fun g hg => by have := hobM g hg; omega) (made_store hMC12.1 (by omega) (by omega) hq)) ?_
      intro w41 hEw41 hzw41 ho_new
      have hs_w41 := (hEw41).size
      replace hV := evo_stepo hV hEw41 (fun g hg => .inl (by first | exact (hov24.block hg).1 | (have := hov24.block hg; omega)))
      replace hc := hc0.now hV
      replace hl := hl0 _ hV
      replace hov24 := ho_new
      clear ho_new
      refine h_last (by kernel_rfl) ?_
      refine h_done (by kernel_rfl) ?_
      refine r_seq ?_
      refine r_know (i := 9) (v := .slice ao26 (cl12.set (at_ % (cl12.length : Int)).toNat (⟨(cl12.getD (at_ % (cl12.length : Int)).toNat default).name, (cl12.getD (at_ % (cl12.length : Int)).toNat default).ends ++ [⟨p, q⟩]⟩ : Clas)).length cp26) (by rw [List.length_set]; exact rfl) ?_
      refine r_region ?_
      refine r_op rfl rfl rfl (run_mv (v := .slice _ _ _) rfl (by exact rfl)) ?_
      obtain ⟨ao42, g42, cp42, hv42, hr42⟩ := hov24.rowOf
      injection hv42 with ha42 hx42 hc42
      subst ha42; subst hc42
      have hbd_hr42 := hr42.bd
      refine r_opcall rfl rfl rfl (run_callf (vs := [.slice _ _ _]) rfl (by exact rfl) Try.func34 rfl (by kernel_rfl)) (validate_calls hr42) ?_
      rintro e w43 ⟨rfl, hE43⟩
      refine ⟨_, rfl, ?_⟩
      have hs_w43 := (hE43).size
      replace hV := evo_step0 hV hE43
      replace hc := hc0.now hV
      replace hl := hl0 _ hV
      replace hov24 := hov24.evo0 hE43
      replace hr42 := hr42.evo0 hE43
      refine r_op rfl rfl rfl (run_mv (v := .slice _ _ _) rfl (by exact rfl)) ?_
      refine r_opcall rfl rfl rfl (run_callf (vs := [.slice _ _ _]) rfl (by exact rfl) Try.func35 rfl (by kernel_rfl)) (rvalidate_calls hr42) ?_
      rintro e w44 ⟨rfl, hE44⟩
      refine ⟨_, rfl, ?_⟩
      have hs_w44 := (hE44).size
      replace hV := evo_step0 hV hE44
      replace hc := hc0.now hV
      replace hl := hl0 _ hV
      replace hov24 := hov24.evo0 hE44
      replace hr42 := hr42.evo0 hE44
      refine r_op rfl rfl rfl (run_eql rfl (by exact rfl) (by exact rfl)) ?_
      refine r_op rfl rfl rfl (run_mv (v := .bool _) rfl (by exact rfl)) ?_
      refine r_gyes rfl (wantT (by exact rfl)) (by exact rfl) ?_
      refine r_opcall rfl rfl rfl (run_callf (vs := []) rfl (by exact rfl) Try.func23 rfl (by kernel_rfl)) known_calls ?_
      rintro e w45 ⟨rfl, hE45⟩
      refine ⟨_, rfl, ?_⟩
      have hs_w45 := (hE45).size
      replace hV := evo_step0 hV hE45
      replace hc := hc0.now hV
      replace hl := hl0 _ hV
      replace hov24 := hov24.evo0 hE45
      replace hr42 := hr42.evo0 hE45
      refine r_op rfl rfl rfl (run_pick_andB rfl (by exact rfl) (fun _ => (by exact rfl)) rfl) ?_
      refine r_op rfl rfl rfl (run_asg (v := .bool _) rfl (by exact rfl)) ?_
      refine r_nil ?_
      refine r_ret (res1 (v := .bool _) rfl (by exact rfl)) ?_
      first | exact ⟨rfl, hV⟩ | exact ⟨ret_bool (decide_eq_true ⟨rfl, rfl⟩), hV⟩ | exact absurd hc19 (by simp)
     ·skip
      refine h_do (by exact rfl) ?_
      have hob46 := fun g hg => (hob30.block (g := g) hg).2
      refine r_bslice (pv := [(0, .agg _)]) (zs := [_, _]) (cs := [_, _]) Try.underlying41 ty_46 (by exact rfl) rfl (by exact rfl) rfl (by exact rfl) ?_
      intro b47 w48 heb47 hEw48 hbb47 hzb47
      have hs_w48 := (hEw48).size
      replace hV := evo_step0 hV hEw48
      replace hI9 := evo_step0 hI9 hEw48
      replace hCst9 := evo_step0 hCst9 hEw48
      replace hc := hc0.now hV
      replace hl := hl0 _ hV
      replace hr26 := hr260.now hI9
      replace hR29 := hR290 _ hI9
      replace hob30 := hob30.evo0 hEw48
      have hAb47 := hbb47.at
      have hrb47 := rowLit (α := Ende) [⟨_, _⟩] hbb47 (by show [_, _] = [_, _]; first | (dsimp only; done) | exact rfl | (dsimp only; exact rfl)) rfl
      refine h_next hCst9 ?_
      refine h_one (i := 8) (by kernel_rfl) ?_
      refine h_do (by exact rfl) ?_
      refine r_appendE rfl Try.underlying41 ty_46 (by exact rfl) hob30 (by exact rfl) (by exact rfl) hR29 rfl (by simp only [List.length_nil, Nat.zero_add]; omega) (by simp only [List.length_nil, Nat.zero_add]; omega) (by omega) ?_
      intro v49 w50 hEw50 hov49 hlv49
      have hs_w50 := (hEw50).size
      replace hV := evo_stepo hV hEw50 (fun g hg => .inl (by first | exact (hob30.block hg).1 | (have := hob30.block hg; omega)))
      replace hI9 := evo_stepo hI9 hEw50 (fun g hg => .inl (by first | exact (hob30.block hg).1 | (have := hob30.block hg; omega)))
      replace hCst9 := evo_stepo hCst9 hEw50 (fun g hg => .inl (by first | exact (hob30.block hg).1 | (have := hob30.block hg; omega)))
      replace hc := hc0.now hV
      replace hl := hl0 _ hV
      replace hr26 := hr260.now hI9
      replace hrb47 := hrb47.evo hEw50 (by intro hm; have hm2 := Option.mem_toList.1 hm; have := hob46 _ hm2; omega)
      refine h_next hCst9 ?_
      refine h_one (i := 11) (by kernel_rfl) ?_
      refine h_do (by exact rfl) ?_
      refine r_appendE rfl Try.underlying41 ty_46 (by exact rfl) hov49 (by exact rfl) (by exact rfl) hrb47 rfl (by simp only [List.nil_append, List.length_cons, List.length_nil]; omega) (by simp only [List.nil_append, List.length_cons, List.length_nil]; omega) (by omega) ?_
      intro v51 w52 hEw52 hov51 hlv51
      have hs_w52 := (hEw52).size
      replace hV := evo_stepo hV hEw52 (fun g hg => .inl (by first | exact (hov49.block hg).1 | (have := hov49.block hg; omega)))
      replace hI9 := evo_stepo hI9 hEw52 (fun g hg => .inl (by first | exact (hov49.block hg).1 | (have := hov49.block hg; omega)))
      replace hCst9 := evo_stepo hCst9 hEw52 (fun g hg => .inl (by first | exact (hov49.block hg).1 | (have := hov49.block hg; omega)))
      replace hc := hc0.now hV
      replace hl := hl0 _ hV
      replace hr26 := hr260.now hI9
      refine h_next hCst9 ?_
      refine h_take (i := 12) (by exact rfl) rfl rfl rfl (by kernel_rfl) (fun w' hC => run_ix ((at_ % (cl12.length : Int)).toNat) rfl Try.underlying22 ty_43 (by exact rfl) (by exact rfl) (by omega) (by omega) (hr26.addr (i := (at_ % (cl12.length : Int)).toNat) (by omega))) hCst9 ?_
      obtain ⟨ao53, b53, off53, cap53, hX⟩ := clas_atK hr260 ((at_ % (cl12.length : Int)).toNat) (by omega)
      have hA530 := fun (w' : World) (h : Evo w25 w' []) => (hX w' h).1
      have hA53 := hA530 _ hI9
      have hR530 := fun (w' : World) (h : Evo w25 w' []) => (hX w' h).2
      have hR53 := hR530 _ hI9
      clear hX
      have hbd_hR53 := hR53.bd
      refine h_take (i := 13) (by exact rfl) rfl rfl rfl (by kernel_rfl) (fun w' hC => run_fa rfl (by exact rfl) fo_43_1) hCst9 ?_
      refine h_one (i := 14) (by kernel_rfl) ?_
      refine h_do (by exact rfl) ?_
      have hov24 := hoM0.evo0 hI9
      have hr26 := hr260.now hI9
      obtain ⟨ao54, cp54, hv54⟩ := hov51.shape
      subst hv54
      refine r_storeRr (vs := [_]) ((at_ % (cl12.length : Int)).toNat) 1 (⟨(cl12.getD (at_ % (cl12.length : Int)).toNat default).name, (cl12.getD (at_ % (cl12.length : Int)).toNat default).ends ++ [⟨p, q⟩]⟩ : Clas) (by exact rfl) (by first | rfl | omega) (by exact rfl) hov24 hr26 (by omega) ty_41 (by exact rfl) rfl (by exact rfl) rfl (clas_setO (by first | rfl | simp) hov51 (by simp) (fun g hg => by have := hobM g hg; omega) (made_store hMC12.1 (by omega) (by omega) hq)) ?_
      intro w55 hEw55 hzw55 ho_new
      have hs_w55 := (hEw55).size
      replace hV := evo_stepo hV hEw55 (fun g hg => .inl (by first | exact (hov24.block hg).1 | (have := hov24.block hg; omega)))
      replace hc := hc0.now hV
      replace hl := hl0 _ hV
      replace hov24 := ho_new
      clear ho_new
      refine h_last (by kernel_rfl) ?_
      refine h_done (by kernel_rfl) ?_
      refine r_seq ?_
      refine r_know (i := 9) (v := .slice ao26 (cl12.set (at_ % (cl12.length : Int)).toNat (⟨(cl12.getD (at_ % (cl12.length : Int)).toNat default).name, (cl12.getD (at_ % (cl12.length : Int)).toNat default).ends ++ [⟨p, q⟩]⟩ : Clas)).length cp26) (by rw [List.length_set]; exact rfl) ?_
      refine r_region ?_
      refine r_op rfl rfl rfl (run_mv (v := .slice _ _ _) rfl (by exact rfl)) ?_
      obtain ⟨ao56, g56, cp56, hv56, hr56⟩ := hov24.rowOf
      injection hv56 with ha56 hx56 hc56
      subst ha56; subst hc56
      have hbd_hr56 := hr56.bd
      refine r_opcall rfl rfl rfl (run_callf (vs := [.slice _ _ _]) rfl (by exact rfl) Try.func34 rfl (by kernel_rfl)) (validate_calls hr56) ?_
      rintro e w57 ⟨rfl, hE57⟩
      refine ⟨_, rfl, ?_⟩
      have hs_w57 := (hE57).size
      replace hV := evo_step0 hV hE57
      replace hc := hc0.now hV
      replace hl := hl0 _ hV
      replace hov24 := hov24.evo0 hE57
      replace hr56 := hr56.evo0 hE57
      refine r_op rfl rfl rfl (run_mv (v := .slice _ _ _) rfl (by exact rfl)) ?_
      refine r_opcall rfl rfl rfl (run_callf (vs := [.slice _ _ _]) rfl (by exact rfl) Try.func35 rfl (by kernel_rfl)) (rvalidate_calls hr56) ?_
      rintro e w58 ⟨rfl, hE58⟩
      refine ⟨_, rfl, ?_⟩
      have hs_w58 := (hE58).size
      replace hV := evo_step0 hV hE58
      replace hc := hc0.now hV
      replace hl := hl0 _ hV
      replace hov24 := hov24.evo0 hE58
      replace hr56 := hr56.evo0 hE58
      refine r_op rfl rfl rfl (run_eql rfl (by exact rfl) (by exact rfl)) ?_
      refine r_op rfl rfl rfl (run_mv (v := .bool _) rfl (by exact rfl)) ?_
      refine r_gyes rfl (wantT (by exact rfl)) (by exact rfl) ?_
      refine r_opcall rfl rfl rfl (run_callf (vs := []) rfl (by exact rfl) Try.func23 rfl (by kernel_rfl)) known_calls ?_
      rintro e w59 ⟨rfl, hE59⟩
      refine ⟨_, rfl, ?_⟩
      have hs_w59 := (hE59).size
      replace hV := evo_step0 hV hE59
      replace hc := hc0.now hV
      replace hl := hl0 _ hV
      replace hov24 := hov24.evo0 hE59
      replace hr56 := hr56.evo0 hE59
      refine r_op rfl rfl rfl (run_pick_andB rfl (by exact rfl) (fun _ => (by exact rfl)) rfl) ?_
      refine r_op rfl rfl rfl (run_asg (v := .bool _) rfl (by exact rfl)) ?_
      refine r_nil ?_
      refine r_ret (res1 (v := .bool _) rfl (by exact rfl)) ?_
      first | exact ⟨rfl, hV⟩ | exact ⟨ret_bool (decide_eq_true ⟨rfl, rfl⟩), hV⟩ | exact absurd hc19 (by simp)
    ·skip
     refine h_do (by exact rfl) ?_
     refine r_bslice (pv := [(0, .agg _)]) (zs := [_, _]) (cs := [_, _]) Try.underlying41 ty_46 (by exact rfl) rfl (by exact rfl) rfl (by exact rfl) ?_
     intro b60 w61 heb60 hEw61 hbb60 hzb60
     have hs_w61 := (hEw61).size
     replace hV := evo_step0 hV hEw61
     replace hI9 := evo_step0 hI9 hEw61
     replace hCst9 := evo_step0 hCst9 hEw61
     replace hc := hc0.now hV
     replace hl := hl0 _ hV
     replace hr26 := hr260.now hI9
     replace hR29 := hR290 _ hI9
     have hAb60 := hbb60.at
     have hrb60 := rowLit (α := Ende) [⟨_, _⟩] hbb60 (by show [_, _] = [_, _]; first | (dsimp only; done) | exact rfl | (dsimp only; exact rfl)) rfl
     refine h_next hCst9 ?_
     refine h_one (i := 2) (by kernel_rfl) ?_
     refine h_do (by exact rfl) ?_
     refine r_bslice (pv := []) (zs := [_, _]) (cs := []) Try.underlying41 ty_46 (by exact rfl) rfl (by exact rfl) rfl (by exact rfl) ?_
     intro b62 w63 heb62 hEw63 hbb62 hzb62
     have hs_w63 := (hEw63).size
     replace hV := evo_step0 hV hEw63
     replace hI9 := evo_step0 hI9 hEw63
     replace hCst9 := evo_step0 hCst9 hEw63
     replace hc := hc0.now hV
     replace hl := hl0 _ hV
     replace hr26 := hr260.now hI9
     replace hR29 := hR290 _ hI9
     replace hrb60 := hrb60.evo0 hEw63
     have hAb62 := hbb62.at
     have hob62 : OwnE (α := Ende) w63 w25.heap.size 46 (.slice (some ⟨b62, 0, none⟩) 0 0) [] := ownE_lit0 hbb62 (by omega)
     refine h_next hCst9 ?_
     refine h_one (i := 8) (by kernel_rfl) ?_
     refine h_do (by exact rfl) ?_
     refine r_appendE rfl Try.underlying41 ty_46 (by exact rfl) hob62 (by exact rfl) (by exact rfl) hR29 rfl (by simp only [List.length_nil, Nat.zero_add]; omega) (by simp only [List.length_nil, Nat.zero_add]; omega) (by omega) ?_
     intro v64 w65 hEw65 hov64 hlv64
     have hs_w65 := (hEw65).size
     replace hV := evo_stepo hV hEw65 (fun g hg => .inl (by first | exact (hob62.block hg).1 | (have := hob62.block hg; omega)))
     replace hI9 := evo_stepo hI9 hEw65 (fun g hg => .inl (by first | exact (hob62.block hg).1 | (have := hob62.block hg; omega)))
     replace hCst9 := evo_stepo hCst9 hEw65 (fun g hg => .inl (by first | exact (hob62.block hg).1 | (have := hob62.block hg; omega)))
     replace hc := hc0.now hV
     replace hl := hl0 _ hV
     replace hr26 := hr260.now hI9
     replace hrb60 := hrb60.evo hEw65 (by intro hm; have hm2 := Option.mem_toList.1 hm; first | (have := hob62.block hm2; omega) | (simp [Value.ownBlock] at hm2; omega))
     refine h_next hCst9 ?_
     refine h_one (i := 11) (by kernel_rfl) ?_
     refine h_do (by exact rfl) ?_
     refine r_appendE rfl Try.underlying41 ty_46 (by exact rfl) hov64 (by exact rfl) (by exact rfl) hrb60 rfl (by simp only [List.nil_append, List.length_cons, List.length_nil]; omega) (by simp only [List.nil_append, List.length_cons, List.length_nil]; omega) (by omega) ?_
     intro v66 w67 hEw67 hov66 hlv66
     have hs_w67 := (hEw67).size
     replace hV := evo_stepo hV hEw67 (fun g hg => .inl (by first | exact (hov64.block hg).1 | (have := hov64.block hg; omega)))
     replace hI9 := evo_stepo hI9 hEw67 (fun g hg => .inl (by first | exact (hov64.block hg).1 | (have := hov64.block hg; omega)))
     replace hCst9 := evo_stepo hCst9 hEw67 (fun g hg => .inl (by first | exact (hov64.block hg).1 | (have := hov64.block hg; omega)))
     replace hc := hc0.now hV
     replace hl := hl0 _ hV
     replace hr26 := hr260.now hI9
     refine h_next hCst9 ?_
     refine h_take (i := 12) (by exact rfl) rfl rfl rfl (by kernel_rfl) (fun w' hC => run_ix ((at_ % (cl12.length : Int)).toNat) rfl Try.underlying22 ty_43 (by exact rfl) (by exact rfl) (by omega) (by omega) (hr26.addr (i := (at_ % (cl12.length : Int)).toNat) (by omega))) hCst9 ?_
     obtain ⟨ao68, b68, off68, cap68, hX⟩ := clas_atK hr260 ((at_ % (cl12.length : Int)).toNat) (by omega)
     have hA680 := fun (w' : World) (h : Evo w25 w' []) => (hX w' h).1
     have hA68 := hA680 _ hI9
     have hR680 := fun (w' : World) (h : Evo w25 w' []) => (hX w' h).2
     have hR68 := hR680 _ hI9
     clear hX
     have hbd_hR68 := hR68.bd
     refine h_take (i := 13) (by exact rfl) rfl rfl rfl (by kernel_rfl) (fun w' hC => run_fa rfl (by exact rfl) fo_43_1) hCst9 ?_
     refine h_one (i := 14) (by kernel_rfl) ?_
     refine h_do (by exact rfl) ?_
     have hov24 := hoM0.evo0 hI9
     have hr26 := hr260.now hI9
     obtain ⟨ao69, cp69, hv69⟩ := hov66.shape
     subst hv69
     refine r_storeRr (vs := [_]) ((at_ % (cl12.length : Int)).toNat) 1 (⟨(cl12.getD (at_ % (cl12.length : Int)).toNat default).name, (cl12.getD (at_ % (cl12.length : Int)).toNat default).ends ++ [⟨p, q⟩]⟩ : Clas) (by exact rfl) (by first | rfl | omega) (by exact rfl) hov24 hr26 (by omega) ty_41 (by exact rfl) rfl (by exact rfl) rfl (clas_setO (by first | rfl | simp) hov66 (by simp) (fun g hg => by have := hobM g hg; omega) (made_store hMC12.1 (by omega) (by omega) hq)) ?_
     intro w70 hEw70 hzw70 ho_new
     have hs_w70 := (hEw70).size
     replace hV := evo_stepo hV hEw70 (fun g hg => .inl (by first | exact (hov24.block hg).1 | (have := hov24.block hg; omega)))
     replace hc := hc0.now hV
     replace hl := hl0 _ hV
     replace hov24 := ho_new
     clear ho_new
     refine h_last (by kernel_rfl) ?_
     refine h_done (by kernel_rfl) ?_
     refine r_seq ?_
     refine r_know (i := 9) (v := .slice ao26 (cl12.set (at_ % (cl12.length : Int)).toNat (⟨(cl12.getD (at_ % (cl12.length : Int)).toNat default).name, (cl12.getD (at_ % (cl12.length : Int)).toNat default).ends ++ [⟨p, q⟩]⟩ : Clas)).length cp26) (by rw [List.length_set]; exact rfl) ?_
     refine r_region ?_
     refine r_op rfl rfl rfl (run_mv (v := .slice _ _ _) rfl (by exact rfl)) ?_
     obtain ⟨ao71, g71, cp71, hv71, hr71⟩ := hov24.rowOf
     injection hv71 with ha71 hx71 hc71
     subst ha71; subst hc71
     have hbd_hr71 := hr71.bd
     refine r_opcall rfl rfl rfl (run_callf (vs := [.slice _ _ _]) rfl (by exact rfl) Try.func34 rfl (by kernel_rfl)) (validate_calls hr71) ?_
     rintro e w72 ⟨rfl, hE72⟩
     refine ⟨_, rfl, ?_⟩
     have hs_w72 := (hE72).size
     replace hV := evo_step0 hV hE72
     replace hc := hc0.now hV
     replace hl := hl0 _ hV
     replace hov24 := hov24.evo0 hE72
     replace hr71 := hr71.evo0 hE72
     refine r_op rfl rfl rfl (run_mv (v := .slice _ _ _) rfl (by exact rfl)) ?_
     refine r_opcall rfl rfl rfl (run_callf (vs := [.slice _ _ _]) rfl (by exact rfl) Try.func35 rfl (by kernel_rfl)) (rvalidate_calls hr71) ?_
     rintro e w73 ⟨rfl, hE73⟩
     refine ⟨_, rfl, ?_⟩
     have hs_w73 := (hE73).size
     replace hV := evo_step0 hV hE73
     replace hc := hc0.now hV
     replace hl := hl0 _ hV
     replace hov24 := hov24.evo0 hE73
     replace hr71 := hr71.evo0 hE73
     refine r_op rfl rfl rfl (run_eql rfl (by exact rfl) (by exact rfl)) ?_
     refine r_op rfl rfl rfl (run_mv (v := .bool _) rfl (by exact rfl)) ?_
     refine r_gyes rfl (wantT (by exact rfl)) (by exact rfl) ?_
     refine r_opcall rfl rfl rfl (run_callf (vs := []) rfl (by exact rfl) Try.func23 rfl (by kernel_rfl)) known_calls ?_
     rintro e w74 ⟨rfl, hE74⟩
     refine ⟨_, rfl, ?_⟩
     have hs_w74 := (hE74).size
     replace hV := evo_step0 hV hE74
     replace hc := hc0.now hV
     replace hl := hl0 _ hV
     replace hov24 := hov24.evo0 hE74
     replace hr71 := hr71.evo0 hE74
     refine r_op rfl rfl rfl (run_pick_andB rfl (by exact rfl) (fun _ => (by exact rfl)) rfl) ?_
     refine r_op rfl rfl rfl (run_asg (v := .bool _) rfl (by exact rfl)) ?_
     refine r_nil ?_
     refine r_ret (res1 (v := .bool _) rfl (by exact rfl)) ?_
     first | exact ⟨rfl, hV⟩ | exact ⟨ret_bool (decide_eq_true ⟨rfl, rfl⟩), hV⟩ | exact absurd hc19 (by simp)
   ·skip
    refine r_skip ?_
    refine r_seq ?_
    refine r_region ?_
    refine r_op rfl rfl rfl (run_mv (v := .slice _ _ _) rfl (by exact rfl)) ?_
    refine r_opcall rfl rfl rfl (run_callf (vs := [.slice _ _ _]) rfl (by exact rfl) Try.func34 rfl (by kernel_rfl)) (validate_calls hr15) ?_
    rintro e w75 ⟨rfl, hE75⟩
    refine ⟨_, rfl, ?_⟩
    have hs_w75 := (hE75).size
    replace hV := evo_step0 hV hE75
    replace hc := hc0.now hV
    replace hl := hl0 _ hV
    replace hoC12 := hoC12.evo0 hE75
    replace hr15 := hr15.evo0 hE75
    refine r_op rfl rfl rfl (run_mv (v := .slice _ _ _) rfl (by exact rfl)) ?_
    refine r_opcall rfl rfl rfl (run_callf (vs := [.slice _ _ _]) rfl (by exact rfl) Try.func35 rfl (by kernel_rfl)) (rvalidate_calls hr15) ?_
    rintro e w76 ⟨rfl, hE76⟩
    refine ⟨_, rfl, ?_⟩
    have hs_w76 := (hE76).size
    replace hV := evo_step0 hV hE76
    replace hc := hc0.now hV
    replace hl := hl0 _ hV
    replace hoC12 := hoC12.evo0 hE76
    replace hr15 := hr15.evo0 hE76
    refine r_op rfl rfl rfl (run_eql rfl (by exact rfl) (by exact rfl)) ?_
    refine r_op rfl rfl rfl (run_mv (v := .bool _) rfl (by exact rfl)) ?_
    refine r_gyes rfl (wantT (by exact rfl)) (by exact rfl) ?_
    refine r_opcall rfl rfl rfl (run_callf (vs := []) rfl (by exact rfl) Try.func23 rfl (by kernel_rfl)) known_calls ?_
    rintro e w77 ⟨rfl, hE77⟩
    refine ⟨_, rfl, ?_⟩
    have hs_w77 := (hE77).size
    replace hV := evo_step0 hV hE77
    replace hc := hc0.now hV
    replace hl := hl0 _ hV
    replace hoC12 := hoC12.evo0 hE77
    replace hr15 := hr15.evo0 hE77
    refine r_op rfl rfl rfl (run_pick_andB rfl (by exact rfl) (fun _ => (by exact rfl)) rfl) ?_
    refine r_op rfl rfl rfl (run_asg (v := .bool _) rfl (by exact rfl)) ?_
    refine r_nil ?_
    refine r_ret (res1 (v := .bool _) rfl (by exact rfl)) ?_
    first | exact ⟨rfl, hV⟩ | exact ⟨ret_bool (decide_eq_true ⟨rfl, rfl⟩), hV⟩ | exact absurd hc19 (by simp)

end Go.Proofs.Ytomklacppmaljaa
