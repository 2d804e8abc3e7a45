/-
  Library, plain laws and walks that the statements reach (joined by a program out of smaller texts).
-/
import Derived.Test.YthbcklajlmcifaaQe
import Derived.Test.YthbcklajlmcifaaQb
import Derived.Test.YthbcklajlmcifaaQc
import Derived.Test.YthbcklajlmcifaaQd
set_option linter.unusedVariables false
set_option linter.unusedSimpArgs false
namespace Go.Proofs.Ythbcklajlmcifaa
open Go.RowKit Go.Vc
theorem ag_28 : aggP Try.prog 28 = some false := by kernel_rfl
theorem ty_28 : tyP Try.prog 28 = some (1, 24, some (.slice none 0 0)) := by kernel_rfl
theorem sl_oneT {α : Type} [Enc α] (w : World) (cs : List Value) (x : List α) (h : Rep.rep w cs x) : oneCells cs = true := by
  obtain ⟨ao, b, off, cap, rfl, _⟩ := h; rfl
def BaseR (k : Nat) (all : List (List Vc.Item)) : Prop := all.length ≤ k ∧ ∀ t ∈ all, t.length ≤ 14 * 2 ^ k ∧ ∀ x ∈ t, x.text.length ≤ 240 + 4 * k
theorem pow_le8 {k : Nat} (h : k ≤ 8) : 14 * 2 ^ k ≤ 3584 := by
  have := Nat.pow_le_pow_right (show 0 < 2 by decide) h
  omega
theorem BaseR.up {k : Nat} {all : List (List Vc.Item)} (h : BaseR k all) {t : List Vc.Item} (ht : t.length ≤ 14 * 2 ^ (k + 1)) (hx : ∀ x ∈ t, x.text.length ≤ 240 + 4 * (k + 1)) : BaseR (k + 1) (all ++ [t]) := by
  refine ⟨by rw [List.length_append]; have := h.1; simp; omega, fun u hu => ?_⟩
  rcases List.mem_append.1 hu with hu | hu
  · have h1 := h.2 u hu
    exact ⟨by rw [Nat.pow_succ]; omega, fun x hx => by have := h1.2 x hx; omega⟩
  · have e : u = t := by simpa using hu
    rw [e]; exact ⟨ht, hx⟩
theorem BaseR.skip {k : Nat} {all : List (List Vc.Item)} (h : BaseR k all) : BaseR (k + 1) all :=
  ⟨by have := h.1; omega, fun u hu => by have h1 := h.2 u hu; exact ⟨by rw [Nat.pow_succ]; omega, fun x hx => by have := h1.2 x hx; omega⟩⟩
theorem BaseR.to8 {k : Nat} {all : List (List Vc.Item)} (h : BaseR k all) : ∀ j, k + j = 8 → BaseR 8 all
  | 0, e => by rw [Nat.add_zero] at e; exact e ▸ h
  | j + 1, e => BaseR.to8 h.skip j (by omega)
theorem BaseR.at {k j : Nat} {all : List (List Vc.Item)} (h : BaseR k all) (hk : k ≤ 8) (hj : j < all.length) : (all.getD j default).length ≤ 3584 ∧ (∀ x ∈ all.getD j default, x.text.length ≤ 240 + 4 * k) ∧ (all.getD j default).length ≤ 14 * 2 ^ k := by
  have h1 := h.2 _ (getD_in hj)
  have := pow_le8 hk
  exact ⟨by omega, h1.2, h1.1⟩
theorem BaseR.near {k j : Nat} {all : List (List Vc.Item)} {lo : List Vc.Item} (h : BaseR k all) (hk : k ≤ 8) (hj : j < all.length) (hn : NR (240 + 4 * k) (all.getD j default).length lo) : BaseR (k + 1) (all ++ [lo]) := by
  have h1 := h.at hk hj
  exact h.up (by have := hn.1; rw [Nat.pow_succ]; omega) (fun x hx => by have := hn.2 x hx; omega)
theorem BaseR.new {k : Nat} {all : List (List Vc.Item)} {t : List Vc.Item} (h : BaseR k all) (ht : t.length ≤ 14) (hx : ∀ x ∈ t, x.text.length ≤ 240) : BaseR (k + 1) (all ++ [t]) :=
  h.up (by have := Nat.one_le_two_pow (n := k + 1); omega) (fun x hx2 => by have := hx x hx2; omega)
theorem BaseR.nil : BaseR 0 [] := ⟨by simp, by simp⟩
theorem BaseR.mem {all : List (List Vc.Item)} (h : BaseR 8 all) {t : List Vc.Item} (ht : t ∈ all) : t.length ≤ 3584 ∧ ∀ x ∈ t, x.text.length ≤ 272 := ⟨(h.2 t ht).1, (h.2 t ht).2⟩
set_option maxHeartbeats 1000000 in
theorem base15_calls {ao : Option Addr} {b off cap : Nat} {l : List Int} {w0 : World} (hl : RowE w0 ao b off cap l) :
    Calls Try.prog 8 #[.slice ao l.length cap] w0 fun e w' => ∃ v, ∃ all : List (List Vc.Item), e = .returned v ∧ Evo w0 w' [] ∧ OwnR w' w0.heap.size 28 [] v all ∧ BaseR 8 all := by
 refine calls_enter (n := 56) (args := [.slice ao l.length cap]) Try.func8 rfl Try.ntmps8 rfl ?_
 have hV : Evo w0 w0 [] := Evo.refl _ _
 have hl0 := keepE hl
 have hbd_hl := hl.bd
 refine r_seq ?_
 refine r_region ?_
 refine r_op rfl rfl rfl (run_asg (v := .slice _ _ _) rfl (by exact rfl)) ?_
 refine r_nil ?_
 refine r_seq ?_
 refine r_region ?_
 refine r_op rfl rfl rfl (run_mv (v := .slice _ _ _) rfl (by exact rfl)) ?_
 refine r_op rfl rfl rfl (run_bld (pv := [(0, .slice _ _ _)]) (zs := [_, _]) (cells := [_, _]) rfl ty_49 (by exact rfl) pl_49 (by exact rfl) (by exact rfl)) ?_
 refine r_box (vs := [_, _]) (by exact rfl) (by exact rfl) rfl ?_
 intro b1 w2 heb1 hEw2 hbb1 hzb1
 have hs_w2 := (hEw2).size
 replace hV := evo_step0 hV hEw2
 replace hl := hl0 _ hV
 have hAb1 := hbb1.at
 refine r_op rfl rfl rfl (run_asg (v := .pointer _) rfl (by exact rfl)) ?_
 refine r_nil ?_
 refine r_seq ?_
 refine r_region ?_
 refine r_op rfl rfl rfl (run_asg (v := .slice _ _ _) rfl (by exact rfl)) ?_
 refine r_nil ?_
 refine r_seq ?_
 refine r_seq ?_
 replace hbb1 : Blk _ _ _ [_, .int .i64 ((0 : Nat) : Int)] := hbb1
 refine r_region ?_
 refine r_op rfl rfl rfl (run_mv (v := .pointer _) rfl (by exact rfl)) ?_
 refine r_opcall rfl rfl rfl (run_callf (vs := [.pointer _, .int _ _]) rfl (by exact rfl) Try.func21 rfl (by kernel_rfl)) (nx_calls hbb1 hl (by omega) (by omega) (by omega)) ?_
 rintro e w3 ⟨nx3, rfl, hx3, hE3, hn3⟩
 refine ⟨_, rfl, ?_⟩
 have hs_w3 := (hE3).size
 replace hV := evo_step1 hV hE3 (by first | exact .inl (by omega) | exact .inr (by simp))
 replace hl := hl0 _ hV
 replace hbb1 := hn3
 clear hn3
 have hAb1 := hbb1.at
 refine r_op rfl rfl rfl (run_asg (v := .int _ _) rfl (by exact rfl)) ?_
 refine r_nil ?_
 refine r_block ?_
 obtain ⟨n0, hn0⟩ : ∃ n0 : Nat, nx3 = (n0 : Int) := ⟨nx3.toNat, by omega⟩; subst hn0; have hb3 := hbb1.lt
 refine r_loop (α := Nat) [4, 5, 6, 12, 13, 14, 15, 16, 17, 18, 19, 20, 21, 22, 23, 24, 25, 26, 27, 28, 29, 30, 31, 32, 33, 34, 35, 36, 37, 38, 39, 40, 41, 42, 43, 44, 45, 46, 47, 48, 49, 50, 51, 52, 53, 54] (fun k g w => ∃ vo : Value, ∃ all : List (List Vc.Item), ∃ N : Nat, g 5 = .int .i64 ((n0 : Int) - (k : Int)) ∧ g 4 = vo ∧ Blk w b1 49 [.slice ao l.length cap, .int .i64 ((N : Nat) : Int)] ∧ At w b1 0 [.slice ao l.length cap, .int .i64 ((N : Nat) : Int)] ∧ OwnR w w3.heap.size 28 [b1] vo all ∧ BaseR k all ∧ (k ≤ n0 ∧ N ≤ 10 + 2100 * k) ∧ w3.heap.size ≤ w.heap.size ∧ Evo w0 w []) (fun k => n0 - k) 0 ?_ ?_
 ·refine ⟨_, [], _, (congrArg (Value.int _) (by omega)), rfl, hbb1, hAb1, (OwnR.nil _ _ _ _), BaseR.nil, (by first | assumption | omega | (dsimp only; omega) | (simp; done)), (by first | assumption | omega | (dsimp only; omega) | (simp; done)), hV⟩
 ·rintro k g w5 ⟨vo, all, N, hj6, hj7, hbb1, hAb1, hoo, hba, hk, hzl4, hV⟩
  have hs_w5hV := hV.size
  have hlt8 := hbb1.lt
  replace hl := hl0 _ hV
  refine r_know (i := 5) (v := .int .i64 ((n0 : Int) - (k : Int))) (by exact hj6) ?_
  refine r_know (i := 4) (v := vo) (by exact hj7) ?_
  refine r_seq ?_
  refine r_seq ?_
  refine r_region ?_
  refine r_op rfl rfl rfl (run_mv (v := .int _ _) rfl (by exact rfl)) ?_
  refine r_op rfl rfl rfl (run_gtr rfl (by exact rfl) (by exact rfl)) ?_
  refine r_nil ?_
  refine r_cond (by exact rfl) (fun hc9 => ?_) (fun hc9 => ?_)
  ·skip
   refine r_skip ?_
   refine r_seq ?_
   refine r_block ?_
   refine r_seq ?_
   refine r_seq ?_
   refine r_region ?_
   refine r_op rfl rfl rfl (run_mv (v := vo) rfl (by exact rfl)) ?_
   refine r_op rfl rfl rfl (run_lenOR rfl (by exact rfl) Try.underlying24 hoo) ?_
   refine r_op rfl rfl rfl (run_gtr rfl (by exact rfl) (by exact rfl)) ?_
   refine r_op rfl rfl rfl (run_mv (v := .bool _) rfl (by exact rfl)) ?_
   refine r_g rfl (wantT (by exact rfl)) rfl (fun hg => run_mv (v := .pointer _) rfl (by exact rfl)) ?_
   refine r_gnext rfl (wantT (by exact rfl)) rfl (fun hg => run_callf rfl (argcons (v := .pointer _) (glv (by exact rfl) (fun h => h) hg) (argcons (v := .int _ _) (by exact rfl) (rfl))) Try.func21 rfl (by kernel_rfl)) (fun hg => (nx_calls hbb1 hl (by omega) (by omega) (by omega))) hbb1 ?_
   intro nx11 w10 Ng11 hx11 hE11 hna11 hnb11 hbn
   have hs_w10 := (hE11).size
   replace hV := evo_step1 hV hE11 (by first | exact .inl (by omega) | exact .inr (by simp))
   replace hl := hl0 _ hV
   replace hoo := hoo.evo hE11 (by simp) (by intro g hg hm; simp at hm; subst hm; have := hoo.block hg; omega)
   replace hbb1 := hbn
   clear hbn
   have hAb1 := hbb1.at
   refine r_g rfl (wantT (by exact rfl)) rfl (fun hg => run_eql rfl (glv (by exact rfl) (fun h => h) hg) (by exact rfl)) ?_
   refine r_op rfl rfl rfl (run_pick_and rfl (by exact rfl) (fun hq => glv (by exact rfl) (fun h => h) hq) rfl) ?_
   refine r_nil ?_
   refine r_cond (by exact rfl) (fun hc12 => ?_) (fun hc12 => ?_)
   ·skip
    refine r_seq ?_
    have hal := hba.1; have hgo := hc12; have hobO := fun g hg => (hoo.block (g := g) hg)
    obtain ⟨aoA, gA, cpA, hvA, hra0⟩ := hoo.rowK (by simp; omega)
    subst hvA
    have hB : Evo w10 w10 [b1] := Evo.refl _ _
    have hra := hra0.now hB
    have hbb1_q := hbb1
    have hAb1_q := hAb1
    have hV_q := hV
    have hB_q := hB
    refine h_region ([b1]) (by kernel_rfl) ?_
    intro w13 hE14 hC7
    have hs_w13 := (hE14).size
    replace hV := evo_step0 hV hE14
    replace hB := evo_step0 hB hE14
    replace hl := hl0 _ hV
    replace hoo := hoo.evo0 hE14
    replace hbb1 := hbb1.evo0 hE14
    replace hAb1 := hAb1.evo0 hE14
    replace hra := hra0.now hB
    refine h_take (i := 0) (by exact rfl) rfl rfl rfl (by kernel_rfl) (fun w' hC => run_mv (v := .slice _ _ _) rfl (by exact rfl)) hC7 ?_
    refine h_take (i := 1) (by exact rfl) rfl rfl rfl (by kernel_rfl) (fun w' hC => run_mv (v := .slice _ _ _) rfl (by exact rfl)) hC7 ?_
    refine h_take (i := 2) (by exact rfl) rfl rfl rfl (by kernel_rfl) (fun w' hC => run_mv (v := .pointer _) rfl (by exact rfl)) hC7 ?_
    refine h_take (i := 3) (by exact rfl) rfl rfl rfl (by kernel_rfl) (fun w' hC => run_mv (v := .slice _ _ _) rfl (by exact rfl)) hC7 ?_
    refine h_take (i := 4) (by exact rfl) rfl rfl rfl (by kernel_rfl) (fun w' hC => run_lenSl rfl (by exact rfl) Try.underlying24) hC7 ?_
    refine h_take (i := 8) (by exact rfl) rfl rfl rfl (by kernel_rfl) (fun w' hC => run_mv (v := .pointer _) rfl (by exact rfl)) hC7 ?_
    refine h_take (i := 10) (by exact rfl) rfl rfl rfl (by kernel_rfl) (fun w' hC => run_mv (v := .pointer _) rfl (by exact rfl)) hC7 ?_
    refine h_take (i := 12) (by exact rfl) rfl rfl rfl (by kernel_rfl) (fun w' hC => run_mv (v := .pointer _) rfl (by exact rfl)) hC7 ?_
    refine h_take (i := 14) (by exact rfl) rfl rfl rfl (by kernel_rfl) (fun w' hC => run_mv (v := .pointer _) rfl (by exact rfl)) hC7 ?_
    refine h_one (i := 5) (by kernel_rfl) ?_
    refine h_do (by exact rfl) ?_
    refine r_opcall rfl rfl rfl (run_callf (vs := [.pointer _, .int _ _]) rfl (by exact rfl) Try.func21 rfl (by kernel_rfl)) (nx_calls hbb1 hl (by omega) (by omega) (by omega)) ?_
    rintro e w15 ⟨nx15, rfl, hx15, hE15, hn15⟩
    refine ⟨_, rfl, ?_⟩
    have hs_w15 := (hE15).size
    replace hV := evo_step1 hV hE15 (by first | exact .inl (by omega) | exact .inr (by simp))
    replace hB := evo_step1 hB hE15 (by first | exact .inl (by omega) | exact .inr (by simp))
    replace hC7 := evo_step1 hC7 hE15 (by first | exact .inl (by omega) | exact .inr (by simp))
    replace hl := hl0 _ hV
    replace hoo := hoo.evo hE15 (by simp) (by intro g hg hm; simp at hm; subst hm; have := hoo.block hg; omega)
    replace hra := hra0.now hB
    replace hbb1 := hn15
    clear hn15
    have hAb1 := hbb1.at
    have hjj : nx15.toNat < all.length := (by omega); have hel := hba.at (by omega) hjj
    refine h_next hC7 ?_
    refine h_take (i := 6) (by exact rfl) rfl rfl rfl (by kernel_rfl) (fun w' hC => run_ix (nx15.toNat) rfl Try.underlying24 ty_28 (by exact rfl) (by exact rfl) (by omega) (by omega) (hra.addr (i := nx15.toNat) (by omega))) hC7 ?_
    obtain ⟨ao16, b16, off16, cap16, hX⟩ := sl_atK hra0 (nx15.toNat) (by omega)
    have hA160 := fun (w' : World) (h : Evo w10 w' [b1]) => (hX w' h).1
    have hA16 := hA160 _ hB
    have hR160 := fun (w' : World) (h : Evo w10 w' [b1]) => (hX w' h).2
    have hR16 := hR160 _ hB
    clear hX
    have hbd_hR16 := hR16.bd
    refine h_take (i := 7) (by exact rfl) rfl rfl rfl (by kernel_rfl) (fun w' hC => run_ld1 rfl ag_28 (by exact rfl) ((hA160 _ (evo_step1 hB_q hC (by first | exact .inl (by omega) | exact .inr (by simp)))).cell 0 (by exact rfl))) hC7 ?_
    refine h_one (i := 9) (by kernel_rfl) ?_
    refine h_do (by exact rfl) ?_
    refine r_opcall rfl rfl rfl (run_callf (vs := [.pointer _, .int _ _]) rfl (by exact rfl) Try.func21 rfl (by kernel_rfl)) (nx_calls hbb1 hl (by omega) (by omega) (by omega)) ?_
    rintro e w17 ⟨nx17, rfl, hx17, hE17, hn17⟩
    refine ⟨_, rfl, ?_⟩
    have hs_w17 := (hE17).size
    replace hV := evo_step1 hV hE17 (by first | exact .inl (by omega) | exact .inr (by simp))
    replace hB := evo_step1 hB hE17 (by first | exact .inl (by omega) | exact .inr (by simp))
    replace hC7 := evo_step1 hC7 hE17 (by first | exact .inl (by omega) | exact .inr (by simp))
    replace hl := hl0 _ hV
    replace hoo := hoo.evo hE17 (by simp) (by intro g hg hm; simp at hm; subst hm; have := hoo.block hg; omega)
    replace hra := hra0.now hB
    replace hR16 := hR160 _ hB
    replace hbb1 := hn17
    clear hn17
    have hAb1 := hbb1.at
    refine h_next hC7 ?_
    refine h_one (i := 11) (by kernel_rfl) ?_
    refine h_do (by exact rfl) ?_
    refine r_opcall rfl rfl rfl (run_callf (vs := [.pointer _, .int _ _]) rfl (by exact rfl) Try.func21 rfl (by kernel_rfl)) (nx_calls hbb1 hl (by omega) (by omega) (by omega)) ?_
    rintro e w18 ⟨nx18, rfl, hx18, hE18, hn18⟩
    refine ⟨_, rfl, ?_⟩
    have hs_w18 := (hE18).size
    replace hV := evo_step1 hV hE18 (by first | exact .inl (by omega) | exact .inr (by simp))
    replace hB := evo_step1 hB hE18 (by first | exact .inl (by omega) | exact .inr (by simp))
    replace hC7 := evo_step1 hC7 hE18 (by first | exact .inl (by omega) | exact .inr (by simp))
    replace hl := hl0 _ hV
    replace hoo := hoo.evo hE18 (by simp) (by intro g hg hm; simp at hm; subst hm; have := hoo.block hg; omega)
    replace hra := hra0.now hB
    replace hR16 := hR160 _ hB
    replace hbb1 := hn18
    clear hn18
    have hAb1 := hbb1.at
    refine h_next hC7 ?_
    refine h_one (i := 13) (by kernel_rfl) ?_
    refine h_do (by exact rfl) ?_
    refine r_opcall rfl rfl rfl (run_callf (vs := [.pointer _, .int _ _]) rfl (by exact rfl) Try.func21 rfl (by kernel_rfl)) (nx_calls hbb1 hl (by omega) (by omega) (by omega)) ?_
    rintro e w19 ⟨nx19, rfl, hx19, hE19, hn19⟩
    refine ⟨_, rfl, ?_⟩
    have hs_w19 := (hE19).size
    replace hV := evo_step1 hV hE19 (by first | exact .inl (by omega) | exact .inr (by simp))
    replace hB := evo_step1 hB hE19 (by first | exact .inl (by omega) | exact .inr (by simp))
    replace hC7 := evo_step1 hC7 hE19 (by first | exact .inl (by omega) | exact .inr (by simp))
    replace hl := hl0 _ hV
    replace hoo := hoo.evo hE19 (by simp) (by intro g hg hm; simp at hm; subst hm; have := hoo.block hg; omega)
    replace hra := hra0.now hB
    replace hR16 := hR160 _ hB
    replace hbb1 := hn19
    clear hn19
    have hAb1 := hbb1.at
    refine h_next hC7 ?_
    refine h_one (i := 15) (by kernel_rfl) ?_
    refine h_do (by exact rfl) ?_
    refine r_opcall rfl rfl rfl (run_callf (vs := [.pointer _, .int _ _]) rfl (by exact rfl) Try.func21 rfl (by kernel_rfl)) (nx_calls hbb1 hl (by omega) (by omega) (by omega)) ?_
    rintro e w20 ⟨nx20, rfl, hx20, hE20, hn20⟩
    refine ⟨_, rfl, ?_⟩
    have hs_w20 := (hE20).size
    replace hV := evo_step1 hV hE20 (by first | exact .inl (by omega) | exact .inr (by simp))
    replace hB := evo_step1 hB hE20 (by first | exact .inl (by omega) | exact .inr (by simp))
    replace hC7 := evo_step1 hC7 hE20 (by first | exact .inl (by omega) | exact .inr (by simp))
    replace hl := hl0 _ hV
    replace hoo := hoo.evo hE20 (by simp) (by intro g hg hm; simp at hm; subst hm; have := hoo.block hg; omega)
    replace hra := hra0.now hB
    replace hR16 := hR160 _ hB
    replace hbb1 := hn20
    clear hn20
    have hAb1 := hbb1.at
    refine h_next hC7 ?_
    refine h_one (i := 16) (by kernel_rfl) ?_
    refine h_do (by exact rfl) ?_
    refine r_bslice (pv := [(0, .int _ _), (1, .int _ _), (2, .int _ _), (3, .int _ _), (4, .int _ _)]) (zs := [_]) (cs := [_, _, _, _, _]) Try.underlying22 ty_3 (by exact rfl) rfl (by exact rfl) rfl (by exact rfl) ?_
    intro b21 w22 heb21 hEw22 hbb21 hzb21
    have hs_w22 := (hEw22).size
    replace hV := evo_step0 hV hEw22
    replace hB := evo_step0 hB hEw22
    replace hC7 := evo_step0 hC7 hEw22
    replace hl := hl0 _ hV
    replace hoo := hoo.evo0 hEw22
    replace hra := hra0.now hB
    replace hR16 := hR160 _ hB
    replace hbb1 := hbb1.evo0 hEw22
    replace hAb1 := hAb1.evo0 hEw22
    have hAb21 := hbb21.at
    have hrb21 := rowLit (α := Int) [_, _, _, _, _] hbb21 (by show [_, _, _, _, _] = [_, _, _, _, _]; first | (dsimp only; done) | exact rfl | (dsimp only; exact rfl)) rfl
    refine h_next hC7 ?_
    refine h_one (i := 17) (by kernel_rfl) ?_
    refine h_do (by exact rfl) ?_
    refine r_opcall rfl rfl rfl (run_callf (vs := [.slice _ _ _, .slice (some ⟨b21, 0, none⟩) _ _]) rfl (by exact rfl) Try.func11 rfl (by kernel_rfl)) (near15_calls hR16 hrb21 hel.2.1 (by omega) (by omega)) ?_
    rintro e w23 ⟨vn23, ln23, rfl, hE23, hon23, hnr23⟩
    refine ⟨_, rfl, ?_⟩
    have hs_w23 := (hE23).size
    replace hV := evo_step0 hV hE23
    replace hB := evo_step0 hB hE23
    replace hC7 := evo_step0 hC7 hE23
    replace hl := hl0 _ hV
    replace hoo := hoo.evo0 hE23
    replace hra := hra0.now hB
    replace hbb1 := hbb1.evo0 hE23
    replace hAb1 := hAb1.evo0 hE23
    replace hrb21 := hrb21.evo0 hE23
    have hnr9 := hnr23; have hobN := fun g hg => (hon23.block (g := g) hg)
    obtain ⟨ao24, g24, cp24, hv24, hr24, hg24⟩ := hon23.rowOf
    subst hv24
    refine h_next hC7 ?_
    refine h_one (i := 18) (by kernel_rfl) ?_
    refine h_do (by exact rfl) ?_
    refine r_bslice (pv := [(0, .slice _ _ _)]) (zs := [_]) (cs := [_]) Try.underlying24 ty_28 (by exact rfl) rfl (by exact rfl) rfl (by exact rfl) ?_
    intro b25 w26 heb25 hEw26 hbb25 hzb25
    have hs_w26 := (hEw26).size
    replace hV := evo_step0 hV hEw26
    replace hB := evo_step0 hB hEw26
    replace hC7 := evo_step0 hC7 hEw26
    replace hl := hl0 _ hV
    replace hoo := hoo.evo0 hEw26
    replace hra := hra0.now hB
    replace hbb1 := hbb1.evo0 hEw26
    replace hAb1 := hAb1.evo0 hEw26
    replace hrb21 := hrb21.evo0 hEw26
    replace hon23 := hon23.evo0 hEw26
    replace hr24 := hr24.evo0 hEw26
    have hAb25 := hbb25.at
    have hKb25 : Evo w26 w26 ([b1] ++ (Value.slice aoA all.length cpA).ownBlock.toList) := Evo.refl _ _
    have hrb250 := rowLitRK ([b1] ++ (Value.slice aoA all.length cpA).ownBlock.toList) hbb25 (fun hm => by rcases List.mem_append.1 hm with h8 | h8; (simp at h8; omega); (have h7 := hobO _ (Option.mem_toList.1 h8); omega)) (fun w9 h9 => sl_rep (row_keep hr24 h9 (fun hne hm => by have h2 := (hg24 hne).2; rcases List.mem_append.1 hm with h8 | h8; (simp at h8; omega); (have h7 := hobO _ (Option.mem_toList.1 h8); omega)))) (x := ln23)
    have hrb25 := hrb250.now hKb25
    have hbd_hrb25 := hrb25.bd
    refine h_next hC7 ?_
    refine h_one (i := 19) (by kernel_rfl) ?_
    refine h_do (by exact rfl) ?_
    refine r_appendR (w1 := w26) (E' := [b1] ++ (Value.slice aoA all.length cpA).ownBlock.toList) rfl Try.underlying24 ty_28 (by exact rfl) sl_oneT hoo (by exact rfl) (by exact rfl) hrb250 ((fun w9 h9 => Evo.trans hKb25 h9 (fun x hx hlt => hx))) rfl (by simp only [List.length_singleton]; omega) (by simp only [List.length_singleton]; omega) (by omega) ?_
    intro v27 w28 hEw28 hov27 hlv27
    have hs_w28 := (hEw28).size
    replace hV := evo_stepo hV hEw28 (fun g hg => .inl (by first | exact (hoo.block hg).1 | (have := hoo.block hg; omega)))
    replace hKb25 := evo_stepo hKb25 hEw28 (fun g hg => .inr (List.mem_append_right _ (Option.mem_toList.2 hg)))
    replace hl := hl0 _ hV
    replace hbb1 := hbb1.evo hEw28 (by intro hm; have hm2 := Option.mem_toList.1 hm; first | (have := hoo.block hm2; omega) | (simp [Value.ownBlock] at hm2; omega))
    replace hAb1 := hAb1.evo hEw28 (by intro hm; have hm2 := Option.mem_toList.1 hm; first | (have := hoo.block hm2; omega) | (simp [Value.ownBlock] at hm2; omega))
    replace hrb25 := hrb250.now hKb25
    refine h_last (by kernel_rfl) ?_
    refine h_one (i := 20) (by kernel_rfl) ?_
    refine h_do (by exact rfl) ?_
    refine r_op rfl rfl rfl (run_asg (v := v27) rfl (by exact rfl)) ?_
    refine h_last (by kernel_rfl) ?_
    refine h_done (by kernel_rfl) ?_
    refine r_exit rfl ?_
    refine r_region ?_
    refine r_op rfl rfl rfl (run_mv (v := .int _ _) rfl (by exact rfl)) ?_
    refine r_op rfl rfl rfl (run_sub rfl (by exact rfl) (by exact rfl) (by omega) (by omega)) ?_
    refine r_op rfl rfl rfl (run_asg (v := .int _ _) rfl (by exact rfl)) ?_
    refine r_nil ?_
    refine r_again (k + 1) ?_ ?_ ?_
    ·first | omega | (dsimp only; omega)
    ·refine ⟨_, _, _, (congrArg (Value.int _) (by omega)), rfl, hbb1, hAb1, hov27, (by first | exact hba.near (by omega) hjj hnr9 | exact hba.new (by rw [List.length_take]; omega) (fun x hx => by have := toks_text (List.mem_of_mem_take hx); omega)), (by first | assumption | omega | (dsimp only; omega) | (simp; done)), (by first | assumption | omega | (dsimp only; omega) | (simp; done)), hV⟩
    ·repeat (first | (with_reducible exact Agree.merge _ _ _) | (with_reducible exact Agree.refl _ _) | (with_reducible refine Agree.upd ?_ _ _ rfl) | ((with_reducible refine Agree.inner ?_ ?_); (kernel_rfl)))
   ·skip
    refine r_skip ?_
    refine r_seq ?_
    have hobO := fun g hg => (hoo.block (g := g) hg)
    refine r_region ?_
    refine r_op rfl rfl rfl (run_mv (v := .pointer _) rfl (by exact rfl)) ?_
    refine r_opcall rfl rfl rfl (run_callf (vs := [.pointer _, .int _ _, .bool _, .bool _]) rfl (by exact rfl) Try.func22 rfl (by kernel_rfl)) (fragment_calls hbb1 (fun w9 h9 => hl0 _ (evo_step1 hV h9 (.inl (by omega)))) (by omega) (by omega) (by omega)) ?_
    rintro e w29 ⟨vf29, f29, Nf29, rfl, hf29, hNf29, hE29, hn29, hof29⟩
    refine ⟨_, rfl, ?_⟩
    have hs_w29 := (hE29).size
    replace hV := evo_step1 hV hE29 (by first | exact .inl (by omega) | exact .inr (by simp))
    replace hl := hl0 _ hV
    replace hoo := hoo.evo hE29 (by simp) (by intro g hg hm; simp at hm; subst hm; have := hoo.block hg; omega)
    replace hbb1 := hn29
    clear hn29
    have hAb1 := hbb1.at
    have hfl9 : fLen f29 ≤ 240 := by have h9 := hf29.2.2.1; rw [fLen_size]; omega
    have hfn9 : f29.length ≤ 16 := by have h9 := hf29.2.1; omega
    have htl9 := toks_len f29
    obtain ⟨ao30, g30, cp30, hv30, hr30, hg30⟩ := hof29.rowOf
    subst hv30
    refine r_opcall rfl rfl rfl (run_callf (vs := [.slice _ _ _]) rfl (by exact rfl) Try.func20 rfl (by kernel_rfl)) (rtokens_calls hr30 (by omega)) ?_
    rintro e w31 ⟨vt31, rfl, hE31, hot31⟩
    refine ⟨_, rfl, ?_⟩
    have hs_w31 := (hE31).size
    replace hV := evo_step0 hV hE31
    replace hl := hl0 _ hV
    replace hoo := hoo.evo0 hE31
    replace hbb1 := hbb1.evo0 hE31
    replace hAb1 := hAb1.evo0 hE31
    replace hof29 := hof29.evo0 hE31
    replace hr30 := hr30.evo0 hE31
    refine r_op rfl rfl rfl (run_asg (v := vt31) rfl (by exact rfl)) ?_
    refine r_nil ?_
    refine r_region ?_
    refine r_op rfl rfl rfl (run_mv (v := vo) rfl (by exact rfl)) ?_
    refine r_op rfl rfl rfl (run_mv (v := vt31) rfl (by exact rfl)) ?_
    refine r_op rfl rfl rfl (run_mv (v := vt31) rfl (by exact rfl)) ?_
    refine r_op rfl rfl rfl (run_lenOE rfl (by exact rfl) Try.underlying28 hot31) ?_
    refine r_op rfl rfl rfl (run_min rfl (by exact rfl) (by exact rfl)) ?_
    refine r_cutOwn0 (min (toks f29).length 14) rfl Try.underlying28 ty_43 hot31 (by exact rfl) (hi1 (by exact rfl) (by omega)) (by omega) ?_
    intro v32 hov32 hlv32
    obtain ⟨ao33, g33, cp33, hv33, hr33, hg33⟩ := hov32.rowOf
    subst hv33
    refine r_append1R (u := .slice _ _ _) (us := [_]) rfl rfl Try.underlying24 ty_28 (by exact rfl) rfl rfl hoo (fun _ => (by exact rfl)) (by exact rfl) (by exact rfl) rfl (by exact rfl) (fun w9 h9 => sl_rep (row_keep hr33 h9 (fun hne hm => by have h2 := (hg33 hne).2; rcases List.mem_append.1 hm with h8 | h8; (simp at h8; omega); (have h7 := hobO _ (Option.mem_toList.1 h8); omega)))) ((by have := hba.1; omega)) ((by have := hba.1; omega)) (by omega) ?_
    intro q_v34 v34 w35 hEw35 hov34 hlv34
    have hs_w35 := (hEw35).size
    replace hV := evo_stepo hV hEw35 (fun g hg => .inl (by first | exact (hoo.block hg).1 | (have := hoo.block hg; omega)))
    replace hl := hl0 _ hV
    replace hbb1 := hbb1.evo hEw35 (by intro hm; have hm2 := Option.mem_toList.1 hm; first | (have := hoo.block hm2; omega) | (simp [Value.ownBlock] at hm2; omega))
    replace hAb1 := hAb1.evo hEw35 (by intro hm; have hm2 := Option.mem_toList.1 hm; first | (have := hoo.block hm2; omega) | (simp [Value.ownBlock] at hm2; omega))
    refine r_op rfl rfl rfl (run_asg (v := v34) rfl (by exact rfl)) ?_
    refine r_nil ?_
    refine r_blk ?_
    refine r_region ?_
    refine r_op rfl rfl rfl (run_mv (v := .int _ _) rfl (by exact rfl)) ?_
    refine r_op rfl rfl rfl (run_sub rfl (by exact rfl) (by exact rfl) (by omega) (by omega)) ?_
    refine r_op rfl rfl rfl (run_asg (v := .int _ _) rfl (by exact rfl)) ?_
    refine r_nil ?_
    refine r_again (k + 1) ?_ ?_ ?_
    ·first | omega | (dsimp only; omega)
    ·refine ⟨_, _, _, (congrArg (Value.int _) (by omega)), rfl, hbb1, hAb1, hov34, (by first | exact hba.near (by omega) hjj hnr9 | exact hba.new (by rw [List.length_take]; omega) (fun x hx => by have := toks_text (List.mem_of_mem_take hx); omega)), (by first | assumption | omega | (dsimp only; omega) | (simp; done)), (by first | assumption | omega | (dsimp only; omega) | (simp; done)), hV⟩
    ·repeat (first | (with_reducible exact Agree.merge _ _ _) | (with_reducible exact Agree.refl _ _) | (with_reducible refine Agree.upd ?_ _ _ rfl) | ((with_reducible refine Agree.inner ?_ ?_); (kernel_rfl)))
  ·skip
   refine r_exit rfl ?_
   refine r_seq ?_
   refine r_region ?_
   refine r_op rfl rfl rfl (run_mv (v := vo) rfl (by exact rfl)) ?_
   refine r_op rfl rfl rfl (run_asg (v := vo) rfl (by exact rfl)) ?_
   refine r_nil ?_
   refine r_ret (res1 (v := vo) rfl (by exact rfl)) ?_
   exact ⟨_, _, rfl, hV, hoo.sub (by omega) (fun y hy => absurd hy List.not_mem_nil), hba.to8 (8 - k) (by omega)⟩
end Go.Proofs.Ythbcklajlmcifaa
namespace Go.Proofs.Ythbcklajlmcifaa
open Go Go.RowKit Go.Vc
def stK (all : List (List Vc.Item)) (k : Nat) : Stored := (List.range k).map fun (i : Nat) => ((i : Int), all.getD i default)
theorem stK_succ (all : List (List Vc.Item)) (k : Nat) : stK all (k + 1) = stK all k ++ [((k : Int), all.getD k default)] := by unfold stK; rw [List.range_succ, List.map_append]; rfl
theorem stK_len (all : List (List Vc.Item)) (k : Nat) : (stK all k).length = k := by unfold stK; simp
theorem stK_mem {all : List (List Vc.Item)} {k : Nat} {q : Int × List Vc.Item} : q ∈ stK all k ↔ ∃ i, i < k ∧ q = ((i : Int), all.getD i default) := by
  unfold stK
  rw [List.mem_map]
  constructor
  · rintro ⟨i, hi, rfl⟩; exact ⟨i, List.mem_range.1 hi, rfl⟩
  · rintro ⟨i, hi, rfl⟩; exact ⟨i, List.mem_range.2 hi, rfl⟩
theorem stK_ids {all : List (List Vc.Item)} {k : Nat} {id : Int} : id ∈ (stK all k).map (·.1) ↔ ∃ i : Nat, i < k ∧ id = (i : Int) := by
  rw [List.mem_map]
  constructor
  · rintro ⟨q, hq, rfl⟩
    obtain ⟨i, hi, rfl⟩ := stK_mem.1 hq
    exact ⟨i, hi, rfl⟩
  · rintro ⟨i, hi, rfl⟩; exact ⟨_, stK_mem.2 ⟨i, hi, rfl⟩, rfl⟩
theorem stK_ok {all : List (List Vc.Item)} {k : Nat} (hk : k < 1024) : addOk (stK all k) (k : Int) := fun h => by
  rcases h with h | h
  · obtain ⟨i, hi, e⟩ := stK_ids.1 h; omega
  · rw [stK_len] at h; omega
theorem bound_small {a b : List Vc.Item} (ha : a.length ≤ 10000) (hb : b.length ≤ 10000) : boundL a b ≤ 1000000 := by
  have u1 := up_sums a b
  have u2 := up_sums b a
  have u3 := sur_sums a b
  have u4 := cw_bd a b
  have u5 := cw_bd b a
  have u6 := ct_bd a b
  have u7 := wN_bd a
  have u8 := wN_bd b
  have u9 := tN_bd a
  have v1 := tN_bd b
  have l1 := lack_sums a b (by omega) (by omega)
  have l2 := lack_sums b a (by omega) (by omega)
  have c1 := cpN_bd a b
  have c2 := cpN_bd b a
  have w1 := wordsT_len a
  have w2 := wordsT_len b
  unfold boundL bagL mssL; omega
theorem allow_bd {t p : Int} (hp : ¬ 100 < p) (h : ¬ (p < 1 ∨ t < 1)) : 0 ≤ (min t 1073741824 * (100 - p)).tdiv 100 ∧ (min t 1073741824 * (100 - p)).tdiv 100 ≤ 1073741824 := by
  have h1 := allow_mul hp h
  rw [Int.tdiv_eq_ediv_of_nonneg h1.1]; omega
theorem allow_le (t p : Int) : -1 ≤ allowL t p ∧ allowL t p ≤ 1073741824 := by
  unfold allowL
  by_cases h : 100 < p
  · rw [if_pos h]; omega
  · rw [if_neg h]
    by_cases h2 : p < 1 ∨ t < 1
    · rw [if_pos h2]; omega
    · rw [if_neg h2]; have := allow_bd h h2; omega
theorem allow_mono {t p p' : Int} (h : p ≤ p') : allowL t p' ≤ allowL t p := by
  by_cases h1 : 100 < p'
  · rw [← allow_a h1]; exact (allow_le t p).1
  · have h0 : ¬ 100 < p := by omega
    by_cases h2 : p < 1 ∨ t < 1
    · rw [← allow_b h0 h2]; exact (allow_le t p').2
    · have h3 : ¬ (p' < 1 ∨ t < 1) := by omega
      rw [← allow_c h0 h2, ← allow_c h1 h3]
      have m1 := allow_mul h0 h2
      have m2 := allow_mul h1 h3
      rw [Int.tdiv_eq_ediv_of_nonneg m1.1, Int.tdiv_eq_ediv_of_nonneg m2.1]
      have m3 := Int.mul_le_mul_of_nonneg_left (show 100 - p' ≤ 100 - p by omega) (show 0 ≤ min t 1073741824 by omega)
      exact Int.ediv_le_ediv (by decide) m3
theorem sel_mono {l : List Vc.Item} {p p' : Int} {x : Int × List Vc.Item} (h : p ≤ p') (hs : selA l p' x = true) : selA l p x = true :=
  decide_eq_true (Int.le_trans (of_decide_eq_true hs) (allow_mono h))
theorem cand_mono {A : Stored} {l : List Vc.Item} {p p' : Int} {r r' : List Int} (h : CandR A l p r) (h' : CandR A l p' r') (hp : p ≤ p') {id : Int} (hid : id ∈ r') : id ∈ r := by
  obtain ⟨q, hq, e, hs⟩ := (candR_mem h').1 hid
  exact (candR_mem h).2 ⟨q, hq, e, sel_mono hp hs⟩
theorem cand_zero {A : Stored} {l : List Vc.Item} {r : List Int} (h : CandR A l 0 r) (hl : l.length ≤ 10000) (hA : ∀ q ∈ A, q.2.length ≤ 10000) : r.length = A.length := by
  have e : A.filter (selA l 0) = A := List.filter_eq_self.2 (fun q hq => decide_eq_true (by
    have h1 := bound_small hl (hA q hq)
    unfold allowL
    rw [if_neg (by decide), if_pos (.inl (by decide))]; omega))
  rw [candR_len h, e]
theorem cand_101 {A : Stored} {l : List Vc.Item} {r : List Int} (h : CandR A l 101 r) : ((r.length : Nat) : Int) = 0 := by
  rw [candR_len h]
  have e : A.filter (selA l 101) = [] := List.filter_eq_nil_iff.2 (fun q hq hs => by
    have h1 := of_decide_eq_true hs
    have h2 := bound_nonneg l q.2
    unfold allowL at h1
    rw [if_pos (by decide)] at h1; omega)
  rw [e]; rfl
def stC (T : List Vc.Item) (k : Nat) : Stored := (List.range k).map fun (i : Nat) => ((i : Int), T)
theorem stC_succ (T : List Vc.Item) (k : Nat) : stC T (k + 1) = stC T k ++ [((k : Int), T)] := by unfold stC; rw [List.range_succ, List.map_append]; rfl
theorem stC_len (T : List Vc.Item) (k : Nat) : (stC T k).length = k := by unfold stC; simp
theorem stC_ids {T : List Vc.Item} {k : Nat} {id : Int} : id ∈ (stC T k).map (·.1) ↔ ∃ i : Nat, i < k ∧ id = (i : Int) := by
  unfold stC
  rw [List.map_map, List.mem_map]
  constructor
  · rintro ⟨i, hi, rfl⟩; exact ⟨i, List.mem_range.1 hi, rfl⟩
  · rintro ⟨i, hi, rfl⟩; exact ⟨i, List.mem_range.2 hi, rfl⟩
theorem stC_all {T : List Vc.Item} {k : Nat} {q : Int × List Vc.Item} (h : q ∈ stC T k) : q.2 = T := by
  unfold stC at h
  obtain ⟨i, _, rfl⟩ := List.mem_map.1 h; rfl
theorem stC_ok {T : List Vc.Item} {i : Nat} : addOk (stC T (min i 1024)) (i : Int) ↔ i < 1024 := by
  constructor
  · intro h
    refine Classical.byContradiction fun h2 => h (.inr ?_)
    rw [stC_len]; omega
  · rintro h (h1 | h1)
    · obtain ⟨j, hj, e⟩ := stC_ids.1 h1; omega
    · rw [stC_len] at h1; omega
theorem stC_add {T : List Vc.Item} {i : Nat} : addA (stC T (min i 1024)) (i : Int) T = stC T (min (i + 1) 1024) := by
  by_cases h : i < 1024
  · rw [addA_yes (stC_ok.2 h), show min (i + 1) 1024 = min i 1024 + 1 by omega, stC_succ, show min i 1024 = i by omega]
  · rw [addA_no (fun q => h (stC_ok.1 q)), show min (i + 1) 1024 = min i 1024 by omega]
theorem wo3_len {T : List Vc.Item} : ∀ {k : Nat}, 4 ≤ k → (without (stC T k) 3).length = k - 1
  | 0, h => by omega
  | k + 1, h => by
    rw [stC_succ]
    unfold without
    rw [List.filter_append, List.length_append]
    by_cases e : k = 3
    · subst e; rfl
    · have ih := wo3_len (T := T) (k := k) (by omega)
      unfold without at ih
      rw [ih, List.filter_cons_of_pos (by simp; omega)]
      simp; omega
theorem wo_mem {A : Stored} {id : Int} {q : Int × List Vc.Item} (h : q ∈ without A id) : q ∈ A := (List.mem_filter.1 h).1
theorem full_ok {T : List Vc.Item} {k : Nat} (h : 4 ≤ k) (h2 : k ≤ 1024) : addOk (without (stC T k) 3) (-1) := fun q => by
  rcases q with q | q
  · obtain ⟨p, hp, e⟩ := List.mem_map.1 q
    have h3 := List.mem_map_of_mem (f := (·.1)) (wo_mem hp)
    obtain ⟨i, _, e2⟩ := stC_ids.1 h3
    rw [e] at e2; omega
  · rw [wo3_len h] at q; omega
def TA : List Vc.Item := [⟨6, [97], 0⟩]
theorem ta_self (i : Int) : selA TA 100 (i, TA) = true := by
  unfold selA
  show decide (boundL TA TA ≤ allowL (max (totT TA) (totT TA)) 100) = true
  decide +kernel
theorem ta_nil : ¬ selA TA 100 (-1, []) = true := by decide +kernel
theorem full_cand {k : Nat} {r : List Int} (h : 4 ≤ k) (hr : CandR (without (stC TA k) 3 ++ [(-1, [])]) TA 100 r) : r.length = k - 1 := by
  rw [candR_len hr, List.filter_append, List.filter_cons_of_neg ta_nil, List.filter_nil, List.append_nil]
  rw [List.filter_eq_self.2 (fun q hq => by
    have e := stC_all (wo_mem hq)
    have : q = (q.1, TA) := by rw [← e]
    rw [this]; exact ta_self _)]
  exact wo3_len h
def stR (all : List (List Vc.Item)) (n k : Nat) : Stored := (List.range k).map fun (j : Nat) => (((n - 1 - j : Nat) : Int), all.getD (n - 1 - j) default)
theorem stR_succ (all : List (List Vc.Item)) (n k : Nat) : stR all n (k + 1) = stR all n k ++ [(((n - 1 - k : Nat) : Int), all.getD (n - 1 - k) default)] := by unfold stR; rw [List.range_succ, List.map_append]; rfl
theorem stR_len (all : List (List Vc.Item)) (n k : Nat) : (stR all n k).length = k := by unfold stR; simp
theorem stR_ok {all : List (List Vc.Item)} {n k : Nat} (hk : k < n) (hn : n ≤ 1024) : addOk (stR all n k) ((n - 1 - k : Nat) : Int) := fun h => by
  rcases h with h | h
  · unfold stR at h
    rw [List.map_map, List.mem_map] at h
    obtain ⟨j, hj, e⟩ := h
    have hj2 := List.mem_range.1 hj
    have e2 : ((n - 1 - j : Nat) : Int) = ((n - 1 - k : Nat) : Int) := e
    omega
  · rw [stR_len] at h; omega
theorem stR_perm (all : List (List Vc.Item)) (n : Nat) : (stK all n).Perm (stR all n n) := by
  have e : stR all n n = (stK all n).reverse := by
    refine List.ext_getElem (by rw [List.length_reverse, stR_len, stK_len]) (fun i h1 h2 => ?_)
    rw [List.getElem_reverse]
    unfold stR stK
    simp
  rw [e]; exact (List.reverse_perm _).symm
end Go.Proofs.Ythbcklajlmcifaa
namespace Go.Proofs.Ythbcklajlmcifaa
open Go.RowKit Go.Vc
set_option maxHeartbeats 1000000 in
theorem misses_law {aol : Option Addr} {bl offl capl : Nat} {l : List Int} {aom : Option Addr} {bm offm capm : Nat} {m : List Int} {which percent : Int} {w0 : World} (hl : RowE w0 aol bl offl capl l) (hm : RowE w0 aom bm offm capm m) :
    Calls Try.prog 3 #[.slice aol l.length capl, .slice aom m.length capm, .int .i64 which, .int .i64 percent] w0 fun e w' => e = .returned (.bool true) ∧ Evo w0 w' [] := by
 refine calls_enter (n := 83) (args := [.slice aol l.length capl, .slice aom m.length capm, .int .i64 which, .int .i64 percent]) Try.func3 rfl Try.ntmps3 rfl ?_
 have hV : Evo w0 w0 [] := Evo.refl _ _
 have hl0 := keepE hl
 have hbd_hl := hl.bd
 have hm0 := keepE hm
 have hbd_hm := hm.bd
 refine r_seq ?_
 refine r_region ?_
 refine r_op rfl rfl rfl (run_asg (v := .bool _) rfl (by exact rfl)) ?_
 refine r_nil ?_
 refine r_seq ?_
 refine r_seq ?_
 refine r_region ?_
 refine r_op rfl rfl rfl (run_mv (v := .slice _ _ _) rfl (by exact rfl)) ?_
 refine r_op rfl rfl rfl (run_lenSl rfl (by exact rfl) Try.underlying22) ?_
 refine r_op rfl rfl rfl (run_gtr rfl (by exact rfl) (by exact rfl)) ?_
 refine r_op rfl rfl rfl (run_mv (v := .bool _) rfl (by exact rfl)) ?_
 refine r_g rfl (wantF (by exact rfl)) rfl (fun hg => run_mv (v := .slice _ _ _) rfl (by exact rfl)) ?_
 refine r_g rfl (wantF (by exact rfl)) rfl (fun hg => run_lenSl rfl (glv (by exact rfl) (fun h => h) hg) Try.underlying22) ?_
 refine r_g rfl (wantF (by exact rfl)) rfl (fun hg => run_gtr rfl (glv (by exact rfl) (fun h => h) hg) (by exact rfl)) ?_
 refine r_op rfl rfl rfl (run_pick_or rfl (by exact rfl) rfl (fun hq => glv (by exact rfl) (fun h => h) hq)) ?_
 refine r_nil ?_
 refine r_cond (by exact rfl) (fun hc1 => ?_) (fun hc1 => ?_)
 ·skip
  refine r_seq ?_
  refine r_region ?_
  refine r_opcall rfl rfl rfl (run_callf (vs := []) rfl (by exact rfl) Try.func7 rfl (by kernel_rfl)) known15_calls ?_
  rintro e w2 ⟨rfl, hE2⟩
  refine ⟨_, rfl, ?_⟩
  have hs_w2 := (hE2).size
  replace hV := evo_step0 hV hE2
  replace hl := hl0 _ hV
  replace hm := hm0 _ hV
  refine r_op rfl rfl rfl (run_asg (v := .bool _) rfl (by exact rfl)) ?_
  refine r_nil ?_
  refine r_ret (res1 (v := .bool _) rfl (by exact rfl)) ?_
  exact ⟨rfl, hV⟩
 ·skip
  refine r_skip ?_
  refine r_seq ?_
  refine r_region ?_
  refine r_op rfl rfl rfl (run_mv (v := .slice _ _ _) rfl (by exact rfl)) ?_
  refine r_opcall rfl rfl rfl (run_callf (vs := [.slice _ _ _]) rfl (by exact rfl) Try.func8 rfl (by kernel_rfl)) (base15_calls hl) ?_
  rintro e w3 ⟨va3, al3, rfl, hE3, hoa3, hba3⟩
  refine ⟨_, rfl, ?_⟩
  have hs_w3 := (hE3).size
  replace hV := evo_step0 hV hE3
  replace hl := hl0 _ hV
  replace hm := hm0 _ hV
  refine r_op rfl rfl rfl (run_asg (v := va3) rfl (by exact rfl)) ?_
  refine r_nil ?_
  refine r_seq ?_
  refine r_seq ?_
  refine r_region ?_
  refine r_op rfl rfl rfl (run_mv (v := va3) rfl (by exact rfl)) ?_
  refine r_op rfl rfl rfl (run_lenOR rfl (by exact rfl) Try.underlying24 hoa3) ?_
  refine r_op rfl rfl rfl (run_eql rfl (by exact rfl) (by exact rfl)) ?_
  refine r_nil ?_
  refine r_cond (by exact rfl) (fun hc4 => ?_) (fun hc4 => ?_)
  ·skip
   refine r_seq ?_
   refine r_region ?_
   refine r_opcall rfl rfl rfl (run_callf (vs := []) rfl (by exact rfl) Try.func7 rfl (by kernel_rfl)) known15_calls ?_
   rintro e w5 ⟨rfl, hE5⟩
   refine ⟨_, rfl, ?_⟩
   have hs_w5 := (hE5).size
   replace hV := evo_step0 hV hE5
   replace hl := hl0 _ hV
   replace hm := hm0 _ hV
   replace hoa3 := hoa3.evo0 hE5
   refine r_op rfl rfl rfl (run_asg (v := .bool _) rfl (by exact rfl)) ?_
   refine r_nil ?_
   refine r_ret (res1 (v := .bool _) rfl (by exact rfl)) ?_
   exact ⟨rfl, hV⟩
  ·skip
   refine r_skip ?_
   refine r_seq ?_
   have hc_ne := hc4
   obtain ⟨ao6, g6, cp6, hv6, hr6⟩ := hoa3.rowOf
   subst hv6
   have hbd_hr6 := hr6.bd
   have hB : Evo w3 w3 [] := Evo.refl _ _; have hr60 := hr6.keep; have hal8 := hba3.1
   refine r_region ?_
   refine r_opcall rfl rfl rfl (run_callf (vs := []) rfl (by exact rfl) Try.func9 rfl (by kernel_rfl)) ixnew_calls ?_
   rintro e w7 ⟨bx7, fx7, rfl, hE7, hx7, hfx7⟩
   refine ⟨_, rfl, ?_⟩
   have hs_w7 := (hE7).size
   replace hV := evo_step0 hV hE7
   replace hB := evo_step0 hB hE7
   replace hl := hl0 _ hV
   replace hm := hm0 _ hV
   replace hoa3 := hoa3.evo0 hE7
   replace hr6 := hr60.now hB
   refine r_op rfl rfl rfl (run_asg (v := (.pointer (some ⟨bx7, 0, none⟩))) rfl (by exact rfl)) ?_
   refine r_nil ?_
   refine r_seq ?_
   refine r_seq ?_
   have hFhx7 := hfx7
   refine r_region ?_
   refine r_op rfl rfl rfl (run_mv (v := .slice _ _ _) rfl (by exact rfl)) ?_
   refine r_op rfl rfl rfl (run_lenSl rfl (by exact rfl) Try.underlying24) ?_
   refine r_op rfl rfl rfl (run_mv (v := .int _ _) rfl (by exact rfl)) ?_
   refine r_nil ?_
   refine r_block ?_
   refine r_loop (α := Nat) [8, 11, 12, 36, 37, 38, 39, 40, 41, 42, 43, 44, 45, 46] (fun k g w => ∃ F : List Nat, g 36 = .int .i64 (k : Nat) ∧ k ≤ al3.length ∧ Idx w bx7 (stK al3 k) F ∧ (∀ g ∈ F, w3.heap.size ≤ g) ∧ w7.heap.size ≤ w.heap.size ∧ Evo w0 w [] ∧ Evo w3 w []) (fun k => al3.length - k) 0 ?_ ?_
   ·refine ⟨_, (by first | exact rfl | exact congrArg (Value.int _) (by omega) | exact congrArg (Value.int _) (by dsimp only; omega) | exact congrArg (Value.int _) (by simp) | exact congrArg S (by simp)), (by first | assumption | omega | (dsimp only; omega) | (simp; done)), hx7, (fun g hg => by have := hFhx7 g hg; omega), (by first | assumption | omega | (dsimp only; omega) | (simp; done)), hV, hB⟩
   ·rintro k g w9 ⟨F, hj10, hk_k, hx7, hFhx7, hzl8, hV, hB⟩
    have hs_w9hV := hV.size
    have hs_w9hB := hB.size
    replace hl := hl0 _ hV
    replace hm := hm0 _ hV
    replace hr6 := hr60.now hB
    refine r_know (i := 36) (v := .int .i64 (k : Nat)) (by exact hj10) ?_
    refine r_seq ?_
    refine r_region ?_
    refine r_op rfl rfl rfl (run_lss rfl (by exact rfl) (by exact rfl)) ?_
    refine r_nil ?_
    refine r_seq ?_
    refine r_cond (by exact rfl) (fun hc11 => ?_) (fun hc11 => ?_)
    ·skip
     refine r_skip ?_
     refine r_seq ?_
     refine r_block ?_
     refine r_seq ?_
     refine r_region ?_
     refine r_op rfl rfl rfl (run_mv (v := .int _ _) rfl (by exact rfl)) ?_
     refine r_op rfl rfl rfl (run_ix (k) rfl Try.underlying24 ty_28 (by exact rfl) (by exact rfl) (by first | exact rfl | omega) (by omega) (hr6.addr (i := k) (by omega))) ?_
     obtain ⟨ao12, b12, off12, cap12, hX⟩ := sl_atK hr60 (k) (by omega)
     have hA120 := fun (w' : World) (h : Evo w3 w' []) => (hX w' h).1
     have hA12 := hA120 _ hB
     have hR120 := fun (w' : World) (h : Evo w3 w' []) => (hX w' h).2
     have hR12 := hR120 _ hB
     clear hX
     have hbd_hR12 := hR12.bd
     refine r_op rfl rfl rfl (run_ld1 rfl ag_28 (by exact rfl) (hA12.cell 0 (by exact rfl))) ?_
     refine r_op rfl rfl rfl (run_asg (v := .int _ _) rfl (by exact rfl)) ?_
     refine r_op rfl rfl rfl (run_asg (v := .slice _ _ _) rfl (by exact rfl)) ?_
     refine r_nil ?_
     refine r_seq ?_
     have hel := hba3.at (by omega) (show k < al3.length by omega)
     refine r_region ?_
     refine r_op rfl rfl rfl (run_mv (v := (.pointer (some ⟨bx7, 0, none⟩))) rfl (by exact rfl)) ?_
     refine r_op rfl rfl rfl (run_mv (v := .int _ _) rfl (by exact rfl)) ?_
     refine r_op rfl rfl rfl (run_mv (v := .slice _ _ _) rfl (by exact rfl)) ?_
     refine r_opcall rfl rfl rfl (run_callf (vs := [(.pointer (some ⟨bx7, 0, none⟩)), .int _ _, .slice _ _ _]) rfl (by exact rfl) Try.func10 rfl (by kernel_rfl)) (ixadd_calls hx7 hR12 (fun x hx => Nat.le_trans (hel.2.1 x hx) (by decide)) (by omega)) ?_
     rintro e w13 ⟨F13, rfl, hE13, hx13, hF13⟩
     refine ⟨_, rfl, ?_⟩
     have hs_w13 := (hE13).size
     replace hV := evo_steps hV hE13 (fun b9 hb9 => .inl (by have := hFhx7 b9 hb9; omega))
     replace hB := evo_steps hB hE13 (fun b9 hb9 => .inl (by have := hFhx7 b9 hb9; omega))
     replace hl := hl0 _ hV
     replace hm := hm0 _ hV
     replace hr6 := hr60.now hB
     replace hx7 := hx13; replace hFhx7 := fun g hg => (hF13 g hg).elim (hFhx7 g) (fun h => by omega)
     refine r_op rfl rfl rfl (run_not rfl (by exact rfl)) ?_
     refine r_nil ?_
     refine r_cond (by exact rfl) (fun hc14 => ?_) (fun hc14 => ?_)
     ·skip
      exact absurd (stK_ok (by omega)) hc14
     ·skip
      refine r_skip ?_
      refine r_blk ?_
      refine r_region ?_
      refine r_op rfl rfl rfl (run_add rfl (by exact rfl) (by exact rfl) (by omega) (by omega)) ?_
      refine r_op rfl rfl rfl (run_mv (v := .int _ _) rfl (by exact rfl)) ?_
      refine r_nil ?_
      refine r_again (k + 1) ?_ ?_ ?_
      ·first | omega | (dsimp only; omega)
      ·refine ⟨F13, (by first | exact rfl | exact congrArg (Value.int _) (by omega) | exact congrArg (Value.int _) (by dsimp only; omega) | exact congrArg (Value.int _) (by simp) | exact congrArg S (by simp)), (by first | assumption | omega | (dsimp only; omega) | (simp; done)), (by rw [stK_succ, ← addA_yes (stK_ok (by omega))]; exact hx7), hFhx7, (by first | assumption | omega | (dsimp only; omega) | (simp; done)), hV, hB⟩
      ·repeat (first | (with_reducible exact Agree.merge _ _ _) | (with_reducible exact Agree.refl _ _) | (with_reducible refine Agree.upd ?_ _ _ rfl) | ((with_reducible refine Agree.inner ?_ ?_); (kernel_rfl)))
    ·skip
     refine r_exit rfl ?_
     refine r_seq ?_
     have hne := hc_ne; have hw0 := Int.emod_nonneg which (show ((al3.length : Nat) : Int) ≠ 0 by omega); have hw1 := Int.emod_lt_of_pos which (show (0 : Int) < (al3.length : Nat) by omega); have helw := hba3.at (j := (which % ((al3.length : Nat) : Int)).toNat) (by omega) (by omega)
     have hst : ∀ q ∈ stK al3 k, q.2.length ≤ 1000000 := fun q hq => by obtain ⟨i, hi, rfl⟩ := stK_mem.1 hq; have := (hba3.at (by omega) (show i < al3.length by omega)).1; show List.length (al3.getD i default) ≤ _; omega
     have hsl := stK_len al3 k
     refine r_region ?_
     refine r_op rfl rfl rfl (run_mv (v := .slice _ _ _) rfl (by exact rfl)) ?_
     refine r_op rfl rfl rfl (run_mv (v := .int _ _) rfl (by exact rfl)) ?_
     refine r_op rfl rfl rfl (run_mv (v := .slice _ _ _) rfl (by exact rfl)) ?_
     refine r_op rfl rfl rfl (run_lenSl rfl (by exact rfl) Try.underlying24) ?_
     refine r_opcall rfl rfl rfl (run_callf (vs := [.int _ _, .int _ _]) rfl (by exact rfl) Try.func12 rfl (by kernel_rfl)) (place_calls _ _ (by omega) (by omega)) ?_
     rintro e w15 ⟨rfl, rfl⟩
     refine ⟨_, rfl, ?_⟩
     refine r_op rfl rfl rfl (run_ix ((which % ((al3.length : Nat) : Int)).toNat) rfl Try.underlying24 ty_28 (by exact rfl) (by exact rfl) (by omega) (by omega) (hr6.addr (i := (which % ((al3.length : Nat) : Int)).toNat) (by omega))) ?_
     obtain ⟨ao16, b16, off16, cap16, hX⟩ := sl_atK hr60 ((which % ((al3.length : Nat) : Int)).toNat) (by omega)
     have hA160 := fun (w' : World) (h : Evo w3 w' []) => (hX w' h).1
     have hA16 := hA160 _ hB
     have hR160 := fun (w' : World) (h : Evo w3 w' []) => (hX w' h).2
     have hR16 := hR160 _ hB
     clear hX
     have hbd_hR16 := hR16.bd
     refine r_op rfl rfl rfl (run_ld1 rfl ag_28 (by exact rfl) (hA16.cell 0 (by exact rfl))) ?_
     refine r_op rfl rfl rfl (run_mv (v := .slice _ _ _) rfl (by exact rfl)) ?_
     refine r_opcall rfl rfl rfl (run_callf (vs := [.slice _ _ _, .slice _ _ _]) rfl (by exact rfl) Try.func11 rfl (by kernel_rfl)) (near15_calls hR16 hm (B := 272) helw.2.1 (by omega) (by omega)) ?_
     rintro e w17 ⟨vn17, ln17, rfl, hE17, hon17, hnr17⟩
     refine ⟨_, rfl, ?_⟩
     have hs_w17 := (hE17).size
     replace hV := evo_step0 hV hE17
     replace hB := evo_step0 hB hE17
     replace hl := hl0 _ hV
     replace hm := hm0 _ hV
     replace hr6 := hr60.now hB
     replace hx7 := hx7.evo0 hE17
     refine r_op rfl rfl rfl (run_asg (v := vn17) rfl (by exact rfl)) ?_
     refine r_nil ?_
     refine r_seq ?_
     refine r_region ?_
     refine r_op rfl rfl rfl (run_mv (v := .int _ _) rfl (by exact rfl)) ?_
     refine r_opcall rfl rfl rfl (run_callf (vs := [.int _ _, .int _ _]) rfl (by exact rfl) Try.func12 rfl (by kernel_rfl)) (place_calls _ _ (by omega) (by omega)) ?_
     rintro e w18 ⟨rfl, rfl⟩
     refine ⟨_, rfl, ?_⟩
     refine r_op rfl rfl rfl (run_add rfl (by exact rfl) (by exact rfl) (by omega) (by omega)) ?_
     refine r_op rfl rfl rfl (run_asg (v := .int _ _) rfl (by exact rfl)) ?_
     refine r_nil ?_
     refine r_seq ?_
     have hnl := hnr17.1; have hnt := hnr17.2
     have hp0 := Int.emod_nonneg percent (show (100 : Int) ≠ 0 by decide); have hp1 := Int.emod_lt_of_pos percent (show (0 : Int) < 100 by decide)
     obtain ⟨ao19, g19, cp19, hv19, hr19, hg19⟩ := hon17.rowOf
     subst hv19
     refine r_region ?_
     refine r_op rfl rfl rfl (run_mv (v := (.pointer (some ⟨bx7, 0, none⟩))) rfl (by exact rfl)) ?_
     refine r_op rfl rfl rfl (run_mv (v := .slice _ _ _) rfl (by exact rfl)) ?_
     refine r_op rfl rfl rfl (run_mv (v := .int _ _) rfl (by exact rfl)) ?_
     refine r_opcall rfl rfl rfl (run_callf (vs := [(.pointer (some ⟨bx7, 0, none⟩)), .slice _ _ _, .int _ _]) rfl (by exact rfl) Try.func13 rfl (by kernel_rfl)) (ixcand_calls hx7 hr19 (fun x hx => Nat.le_trans (hnt x hx) (by decide)) (by omega) (by omega) hst) ?_
     rintro e w20 ⟨vr20, r20, rfl, hE20, hor20, hcr20⟩
     refine ⟨_, rfl, ?_⟩
     have hs_w20 := (hE20).size
     replace hV := evo_step0 hV hE20
     replace hB := evo_step0 hB hE20
     replace hl := hl0 _ hV
     replace hm := hm0 _ hV
     replace hr6 := hr60.now hB
     replace hx7 := hx7.evo0 hE20
     replace hon17 := hon17.evo0 hE20
     replace hr19 := hr19.evo0 hE20
     refine r_op rfl rfl rfl (run_asg (v := vr20) rfl (by exact rfl)) ?_
     refine r_nil ?_
     refine r_seq ?_
     refine r_seq ?_
     have hQ : Evo w20 w20 [] := Evo.refl _ _
     have hr190 := keepE hr19
     obtain ⟨ao21, g21, cp21, hv21, hr21, hg21⟩ := hor20.rowOf
     subst hv21
     have hr210 := keepE hr21
     refine r_region ?_
     refine r_op rfl rfl rfl (run_mv (v := .slice _ _ _) rfl (by exact rfl)) ?_
     refine r_op rfl rfl rfl (run_lenSl rfl (by exact rfl) Try.underlying24) ?_
     refine r_op rfl rfl rfl (run_mv (v := .int _ _) rfl (by exact rfl)) ?_
     refine r_nil ?_
     refine r_block ?_
     refine r_loop (α := Nat) [8, 16, 17, 65, 66, 67, 68, 69, 70, 71, 72, 73, 74, 75, 76, 77, 78, 79, 80, 81] (fun j g w => g 65 = .int .i64 (j : Nat) ∧ j ≤ al3.length ∧ w20.heap.size ≤ w.heap.size ∧ Evo w0 w [] ∧ Evo w3 w [] ∧ Evo w20 w []) (fun j => al3.length - j) 0 ?_ ?_
     ·refine ⟨(by first | exact rfl | exact congrArg (Value.int _) (by omega) | exact congrArg (Value.int _) (by dsimp only; omega) | exact congrArg (Value.int _) (by simp) | exact congrArg S (by simp)), (by first | assumption | omega | (dsimp only; omega) | (simp; done)), (by first | assumption | omega | (dsimp only; omega) | (simp; done)), hV, hB, hQ⟩
     ·rintro j g w23 ⟨hj24, hk_j, hzl22, hV, hB, hQ⟩
      have hs_w23hV := hV.size
      have hs_w23hB := hB.size
      have hs_w23hQ := hQ.size
      replace hl := hl0 _ hV
      replace hm := hm0 _ hV
      replace hr6 := hr60.now hB
      replace hA16 := hA160 _ hB
      replace hR16 := hR160 _ hB
      replace hr19 := hr190 _ hQ
      replace hr21 := hr210 _ hQ
      refine r_know (i := 65) (v := .int .i64 (j : Nat)) (by exact hj24) ?_
      refine r_seq ?_
      refine r_region ?_
      refine r_op rfl rfl rfl (run_lss rfl (by exact rfl) (by exact rfl)) ?_
      refine r_nil ?_
      refine r_seq ?_
      refine r_cond (by exact rfl) (fun hc25 => ?_) (fun hc25 => ?_)
      ·skip
       refine r_skip ?_
       refine r_seq ?_
       refine r_block ?_
       refine r_seq ?_
       refine r_region ?_
       refine r_op rfl rfl rfl (run_mv (v := .int _ _) rfl (by exact rfl)) ?_
       refine r_op rfl rfl rfl (run_ix (j) rfl Try.underlying24 ty_28 (by exact rfl) (by exact rfl) (by first | exact rfl | omega) (by omega) (hr6.addr (i := j) (by omega))) ?_
       obtain ⟨ao26, b26, off26, cap26, hX⟩ := sl_atK hr60 (j) (by omega)
       have hA260 := fun (w' : World) (h : Evo w3 w' []) => (hX w' h).1
       have hA26 := hA260 _ hB
       have hR260 := fun (w' : World) (h : Evo w3 w' []) => (hX w' h).2
       have hR26 := hR260 _ hB
       clear hX
       have hbd_hR26 := hR26.bd
       refine r_op rfl rfl rfl (run_ld1 rfl ag_28 (by exact rfl) (hA26.cell 0 (by exact rfl))) ?_
       refine r_op rfl rfl rfl (run_asg (v := .int _ _) rfl (by exact rfl)) ?_
       refine r_op rfl rfl rfl (run_asg (v := .slice _ _ _) rfl (by exact rfl)) ?_
       refine r_nil ?_
       refine r_seq ?_
       have hel := hba3.at (by omega) (show j < al3.length by omega)
       refine r_region ?_
       refine r_op rfl rfl rfl (run_mv (v := .slice _ _ _) rfl (by exact rfl)) ?_
       refine r_op rfl rfl rfl (run_mv (v := .slice _ _ _) rfl (by exact rfl)) ?_
       refine r_opcall rfl rfl rfl (run_callf (vs := [.slice _ _ _, .slice _ _ _]) rfl (by exact rfl) Try.func14 rfl (by kernel_rfl)) (rpercent_calls hr19 hR26 (fun x hx => Nat.le_trans (hnt x hx) (by decide)) (fun x hx => Nat.le_trans (hel.2.1 x hx) (by decide)) (by omega) (by omega)) ?_
       rintro e w27 ⟨rfl, hE27⟩
       refine ⟨_, rfl, ?_⟩
       have hs_w27 := (hE27).size
       replace hV := evo_step0 hV hE27
       replace hB := evo_step0 hB hE27
       replace hQ := evo_step0 hQ hE27
       replace hl := hl0 _ hV
       replace hm := hm0 _ hV
       replace hr6 := hr60.now hB
       replace hr19 := hr190 _ hQ
       replace hr21 := hr210 _ hQ
       refine r_op rfl rfl rfl (run_mv (v := .int _ _) rfl (by exact rfl)) ?_
       refine r_op rfl rfl rfl (run_geq rfl (by exact rfl) (by exact rfl)) ?_
       refine r_op rfl rfl rfl (run_mv (v := .bool _) rfl (by exact rfl)) ?_
       refine r_g rfl (wantT (by exact rfl)) rfl (fun hg => run_mv (v := .slice _ _ _) rfl (by exact rfl)) ?_
       refine r_g rfl (wantT (by exact rfl)) rfl (fun hg => run_mv (v := .int _ _) rfl (by exact rfl)) ?_
       refine r_gcall rfl (wantT (by exact rfl)) rfl (fun hg => run_callf rfl (argcons (v := .slice _ _ _) (glv (by exact rfl) (fun h => h) hg) (argcons (v := .int _ _) (glv (by exact rfl) (fun h => h) hg) (rfl))) Try.func15 rfl (by kernel_rfl)) (fun hg => (has_calls hr21).mono (fun e w' h => ⟨h.1, h.2⟩)) (fun w28 hE29 => ?_)
       have hs_w28 := (hE29).size
       replace hV := evo_step0 hV hE29
       replace hB := evo_step0 hB hE29
       replace hQ := evo_step0 hQ hE29
       replace hl := hl0 _ hV
       replace hm := hm0 _ hV
       replace hr6 := hr60.now hB
       replace hr19 := hr190 _ hQ
       replace hr21 := hr210 _ hQ
       refine r_g rfl (wantT (by exact rfl)) rfl (fun hg => run_not rfl (glv (by exact rfl) (fun h => h) hg)) ?_
       refine r_op rfl rfl rfl (run_pick_and rfl (by exact rfl) (fun hq => glv (by exact rfl) (fun h => h) hq) rfl) ?_
       refine r_nil ?_
       refine r_cond (by exact rfl) (fun hc30 => ?_) (fun hc30 => ?_)
       ·skip
        exact absurd ((candR_mem hcr20).2 ⟨_, stK_mem.2 ⟨j, by omega, rfl⟩, rfl, sel_pct (by omega) (by omega) (by omega) (by omega) (by have h9 := hc30.1; omega)⟩) hc30.2
       ·skip
        refine r_skip ?_
        refine r_blk ?_
        refine r_region ?_
        refine r_op rfl rfl rfl (run_add rfl (by exact rfl) (by exact rfl) (by omega) (by omega)) ?_
        refine r_op rfl rfl rfl (run_mv (v := .int _ _) rfl (by exact rfl)) ?_
        refine r_nil ?_
        refine r_again (j + 1) ?_ ?_ ?_
        ·first | omega | (dsimp only; omega)
        ·refine ⟨(by first | exact rfl | exact congrArg (Value.int _) (by omega) | exact congrArg (Value.int _) (by dsimp only; omega) | exact congrArg (Value.int _) (by simp) | exact congrArg S (by simp)), (by first | assumption | omega | (dsimp only; omega) | (simp; done)), (by first | assumption | omega | (dsimp only; omega) | (simp; done)), hV, hB, hQ⟩
        ·repeat (first | (with_reducible exact Agree.merge _ _ _) | (with_reducible exact Agree.refl _ _) | (with_reducible refine Agree.upd ?_ _ _ rfl) | ((with_reducible refine Agree.inner ?_ ?_); (kernel_rfl)))
      ·skip
       refine r_exit rfl ?_
       refine r_seq ?_
       refine r_region ?_
       refine r_opcall rfl rfl rfl (run_callf (vs := []) rfl (by exact rfl) Try.func7 rfl (by kernel_rfl)) known15_calls ?_
       rintro e w31 ⟨rfl, hE31⟩
       refine ⟨_, rfl, ?_⟩
       have hs_w31 := (hE31).size
       replace hV := evo_step0 hV hE31
       replace hB := evo_step0 hB hE31
       replace hQ := evo_step0 hQ hE31
       replace hl := hl0 _ hV
       replace hm := hm0 _ hV
       replace hr6 := hr60.now hB
       replace hr19 := hr190 _ hQ
       replace hr21 := hr210 _ hQ
       refine r_op rfl rfl rfl (run_asg (v := .bool _) rfl (by exact rfl)) ?_
       refine r_nil ?_
       refine r_ret (res1 (v := .bool _) rfl (by exact rfl)) ?_
       exact ⟨rfl, hV⟩
end Go.Proofs.Ythbcklajlmcifaa
namespace Go.Proofs.Ythbcklajlmcifaa
open Go.RowKit Go.Vc
set_option maxHeartbeats 1000000 in
theorem shrinks_law {aol : Option Addr} {bl offl capl : Nat} {l : List Int} {aom : Option Addr} {bm offm capm : Nat} {m : List Int} {percent more : Int} {w0 : World} (hl : RowE w0 aol bl offl capl l) (hm : RowE w0 aom bm offm capm m) :
    Calls Try.prog 4 #[.slice aol l.length capl, .slice aom m.length capm, .int .i64 percent, .int .i64 more] w0 fun e w' => e = .returned (.bool true) ∧ Evo w0 w' [] := by
 refine calls_enter (n := 88) (args := [.slice aol l.length capl, .slice aom m.length capm, .int .i64 percent, .int .i64 more]) Try.func4 rfl Try.ntmps4 rfl ?_
 have hV : Evo w0 w0 [] := Evo.refl _ _
 have hl0 := keepE hl
 have hbd_hl := hl.bd
 have hm0 := keepE hm
 have hbd_hm := hm.bd
 refine r_seq ?_
 refine r_region ?_
 refine r_op rfl rfl rfl (run_asg (v := .bool _) rfl (by exact rfl)) ?_
 refine r_nil ?_
 refine r_seq ?_
 refine r_seq ?_
 refine r_region ?_
 refine r_op rfl rfl rfl (run_mv (v := .slice _ _ _) rfl (by exact rfl)) ?_
 refine r_op rfl rfl rfl (run_lenSl rfl (by exact rfl) Try.underlying22) ?_
 refine r_op rfl rfl rfl (run_gtr rfl (by exact rfl) (by exact rfl)) ?_
 refine r_op rfl rfl rfl (run_mv (v := .bool _) rfl (by exact rfl)) ?_
 refine r_g rfl (wantF (by exact rfl)) rfl (fun hg => run_mv (v := .slice _ _ _) rfl (by exact rfl)) ?_
 refine r_g rfl (wantF (by exact rfl)) rfl (fun hg => run_lenSl rfl (glv (by exact rfl) (fun h => h) hg) Try.underlying22) ?_
 refine r_g rfl (wantF (by exact rfl)) rfl (fun hg => run_gtr rfl (glv (by exact rfl) (fun h => h) hg) (by exact rfl)) ?_
 refine r_op rfl rfl rfl (run_pick_or rfl (by exact rfl) rfl (fun hq => glv (by exact rfl) (fun h => h) hq)) ?_
 refine r_nil ?_
 refine r_cond (by exact rfl) (fun hc1 => ?_) (fun hc1 => ?_)
 ·skip
  refine r_seq ?_
  refine r_region ?_
  refine r_opcall rfl rfl rfl (run_callf (vs := []) rfl (by exact rfl) Try.func7 rfl (by kernel_rfl)) known15_calls ?_
  rintro e w2 ⟨rfl, hE2⟩
  refine ⟨_, rfl, ?_⟩
  have hs_w2 := (hE2).size
  replace hV := evo_step0 hV hE2
  replace hl := hl0 _ hV
  replace hm := hm0 _ hV
  refine r_op rfl rfl rfl (run_asg (v := .bool _) rfl (by exact rfl)) ?_
  refine r_nil ?_
  refine r_ret (res1 (v := .bool _) rfl (by exact rfl)) ?_
  first | exact ⟨rfl, hV⟩ | exact ⟨ret_bool (decide_eq_true ⟨⟨hz0, hz1⟩, rfl⟩), hV⟩
 ·skip
  refine r_skip ?_
  refine r_seq ?_
  refine r_region ?_
  refine r_op rfl rfl rfl (run_mv (v := .slice _ _ _) rfl (by exact rfl)) ?_
  refine r_opcall rfl rfl rfl (run_callf (vs := [.slice _ _ _]) rfl (by exact rfl) Try.func8 rfl (by kernel_rfl)) (base15_calls hl) ?_
  rintro e w3 ⟨va3, al3, rfl, hE3, hoa3, hba3⟩
  refine ⟨_, rfl, ?_⟩
  have hs_w3 := (hE3).size
  replace hV := evo_step0 hV hE3
  replace hl := hl0 _ hV
  replace hm := hm0 _ hV
  refine r_op rfl rfl rfl (run_asg (v := va3) rfl (by exact rfl)) ?_
  refine r_nil ?_
  refine r_seq ?_
  obtain ⟨ao4, g4, cp4, hv4, hr4⟩ := hoa3.rowOf
  subst hv4
  have hbd_hr4 := hr4.bd
  have hB : Evo w3 w3 [] := Evo.refl _ _; have hr40 := hr4.keep; have hal8 := hba3.1
  refine r_region ?_
  refine r_opcall rfl rfl rfl (run_callf (vs := []) rfl (by exact rfl) Try.func9 rfl (by kernel_rfl)) ixnew_calls ?_
  rintro e w5 ⟨bx5, fx5, rfl, hE5, hx5, hfx5⟩
  refine ⟨_, rfl, ?_⟩
  have hs_w5 := (hE5).size
  replace hV := evo_step0 hV hE5
  replace hB := evo_step0 hB hE5
  replace hl := hl0 _ hV
  replace hm := hm0 _ hV
  replace hoa3 := hoa3.evo0 hE5
  replace hr4 := hr40.now hB
  refine r_op rfl rfl rfl (run_asg (v := (.pointer (some ⟨bx5, 0, none⟩))) rfl (by exact rfl)) ?_
  refine r_nil ?_
  refine r_seq ?_
  refine r_seq ?_
  have hFhx5 := hfx5
  refine r_region ?_
  refine r_op rfl rfl rfl (run_mv (v := .slice _ _ _) rfl (by exact rfl)) ?_
  refine r_op rfl rfl rfl (run_lenSl rfl (by exact rfl) Try.underlying24) ?_
  refine r_op rfl rfl rfl (run_mv (v := .int _ _) rfl (by exact rfl)) ?_
  refine r_nil ?_
  refine r_block ?_
  refine r_loop (α := Nat) [8, 11, 12, 32, 33, 34, 35, 36, 37, 38, 39, 40, 41, 42] (fun k g w => ∃ F : List Nat, g 32 = .int .i64 (k : Nat) ∧ k ≤ al3.length ∧ Idx w bx5 (stK al3 k) F ∧ (∀ g ∈ F, w3.heap.size ≤ g) ∧ w5.heap.size ≤ w.heap.size ∧ Evo w0 w [] ∧ Evo w3 w []) (fun k => al3.length - k) 0 ?_ ?_
  ·refine ⟨_, (by first | exact rfl | exact congrArg (Value.int _) (by omega) | exact congrArg (Value.int _) (by dsimp only; omega) | exact congrArg (Value.int _) (by simp) | exact congrArg S (by simp)), (by first | assumption | omega | (dsimp only; omega) | (simp; done)), hx5, (fun g hg => by have := hFhx5 g hg; omega), (by first | assumption | omega | (dsimp only; omega) | (simp; done)), hV, hB⟩
  ·rintro k g w7 ⟨F, hj8, hk_k, hx5, hFhx5, hzl6, hV, hB⟩
   have hs_w7hV := hV.size
   have hs_w7hB := hB.size
   replace hl := hl0 _ hV
   replace hm := hm0 _ hV
   replace hr4 := hr40.now hB
   refine r_know (i := 32) (v := .int .i64 (k : Nat)) (by exact hj8) ?_
   refine r_seq ?_
   refine r_region ?_
   refine r_op rfl rfl rfl (run_lss rfl (by exact rfl) (by exact rfl)) ?_
   refine r_nil ?_
   refine r_seq ?_
   refine r_cond (by exact rfl) (fun hc9 => ?_) (fun hc9 => ?_)
   ·skip
    refine r_skip ?_
    refine r_seq ?_
    refine r_block ?_
    refine r_seq ?_
    refine r_region ?_
    refine r_op rfl rfl rfl (run_mv (v := .int _ _) rfl (by exact rfl)) ?_
    refine r_op rfl rfl rfl (run_ix (k) rfl Try.underlying24 ty_28 (by exact rfl) (by exact rfl) (by first | exact rfl | omega) (by omega) (hr4.addr (i := k) (by omega))) ?_
    obtain ⟨ao10, b10, off10, cap10, hX⟩ := sl_atK hr40 (k) (by omega)
    have hA100 := fun (w' : World) (h : Evo w3 w' []) => (hX w' h).1
    have hA10 := hA100 _ hB
    have hR100 := fun (w' : World) (h : Evo w3 w' []) => (hX w' h).2
    have hR10 := hR100 _ hB
    clear hX
    have hbd_hR10 := hR10.bd
    refine r_op rfl rfl rfl (run_ld1 rfl ag_28 (by exact rfl) (hA10.cell 0 (by exact rfl))) ?_
    refine r_op rfl rfl rfl (run_asg (v := .int _ _) rfl (by exact rfl)) ?_
    refine r_op rfl rfl rfl (run_asg (v := .slice _ _ _) rfl (by exact rfl)) ?_
    refine r_nil ?_
    refine r_seq ?_
    have hel := hba3.at (by omega) (show k < al3.length by omega)
    refine r_region ?_
    refine r_op rfl rfl rfl (run_mv (v := (.pointer (some ⟨bx5, 0, none⟩))) rfl (by exact rfl)) ?_
    refine r_op rfl rfl rfl (run_mv (v := .int _ _) rfl (by exact rfl)) ?_
    refine r_op rfl rfl rfl (run_mv (v := .slice _ _ _) rfl (by exact rfl)) ?_
    refine r_opcall rfl rfl rfl (run_callf (vs := [(.pointer (some ⟨bx5, 0, none⟩)), .int _ _, .slice _ _ _]) rfl (by exact rfl) Try.func10 rfl (by kernel_rfl)) (ixadd_calls hx5 hR10 (fun x hx => Nat.le_trans (hel.2.1 x hx) (by decide)) (by omega)) ?_
    rintro e w11 ⟨F11, rfl, hE11, hx11, hF11⟩
    refine ⟨_, rfl, ?_⟩
    have hs_w11 := (hE11).size
    replace hV := evo_steps hV hE11 (fun b9 hb9 => .inl (by have := hFhx5 b9 hb9; omega))
    replace hB := evo_steps hB hE11 (fun b9 hb9 => .inl (by have := hFhx5 b9 hb9; omega))
    replace hl := hl0 _ hV
    replace hm := hm0 _ hV
    replace hr4 := hr40.now hB
    replace hx5 := hx11; replace hFhx5 := fun g hg => (hF11 g hg).elim (hFhx5 g) (fun h => by omega)
    refine r_op rfl rfl rfl (run_not rfl (by exact rfl)) ?_
    refine r_nil ?_
    refine r_cond (by exact rfl) (fun hc12 => ?_) (fun hc12 => ?_)
    ·skip
     exact absurd (stK_ok (by omega)) hc12
    ·skip
     refine r_skip ?_
     refine r_blk ?_
     refine r_region ?_
     refine r_op rfl rfl rfl (run_add rfl (by exact rfl) (by exact rfl) (by omega) (by omega)) ?_
     refine r_op rfl rfl rfl (run_mv (v := .int _ _) rfl (by exact rfl)) ?_
     refine r_nil ?_
     refine r_again (k + 1) ?_ ?_ ?_
     ·first | omega | (dsimp only; omega)
     ·refine ⟨F11, (by first | exact rfl | exact congrArg (Value.int _) (by omega) | exact congrArg (Value.int _) (by dsimp only; omega) | exact congrArg (Value.int _) (by simp) | exact congrArg S (by simp)), (by first | assumption | omega | (dsimp only; omega) | (simp; done)), (by rw [stK_succ, ← addA_yes (stK_ok (by omega))]; exact hx5), hFhx5, (by first | assumption | omega | (dsimp only; omega) | (simp; done)), hV, hB⟩
     ·repeat (first | (with_reducible exact Agree.merge _ _ _) | (with_reducible exact Agree.refl _ _) | (with_reducible refine Agree.upd ?_ _ _ rfl) | ((with_reducible refine Agree.inner ?_ ?_); (kernel_rfl)))
   ·skip
    refine r_exit rfl ?_
    refine r_seq ?_
    refine r_region ?_
    refine r_op rfl rfl rfl (run_mv (v := .slice _ _ _) rfl (by exact rfl)) ?_
    refine r_opcall rfl rfl rfl (run_callf (vs := [.slice _ _ _, .int _ _]) rfl (by exact rfl) Try.func16 rfl (by kernel_rfl)) (made15_calls (n := 14) hm) ?_
    rintro e w13 ⟨vm13, tm13, rfl, hE13, hom13, hml13, hmt13⟩
    refine ⟨_, rfl, ?_⟩
    have hs_w13 := (hE13).size
    replace hV := evo_step0 hV hE13
    replace hB := evo_step0 hB hE13
    replace hl := hl0 _ hV
    replace hm := hm0 _ hV
    replace hr4 := hr40.now hB
    replace hx5 := hx5.evo0 hE13
    refine r_op rfl rfl rfl (run_asg (v := vm13) rfl (by exact rfl)) ?_
    refine r_nil ?_
    refine r_seq ?_
    refine r_region ?_
    refine r_op rfl rfl rfl (run_mv (v := .int _ _) rfl (by exact rfl)) ?_
    refine r_opcall rfl rfl rfl (run_callf (vs := [.int _ _, .int _ _]) rfl (by exact rfl) Try.func12 rfl (by kernel_rfl)) (place_calls _ _ (by omega) (by omega)) ?_
    rintro e w14 ⟨rfl, rfl⟩
    refine ⟨_, rfl, ?_⟩
    refine r_op rfl rfl rfl (run_asg (v := .int _ _) rfl (by exact rfl)) ?_
    refine r_nil ?_
    refine r_seq ?_
    have hpp0 := Int.emod_nonneg percent (show (102 : Int) ≠ 0 by decide); have hpp1 := Int.emod_lt_of_pos percent (show (0 : Int) < 102 by decide); have hmo0 := Int.emod_nonneg more (show (50 : Int) ≠ 0 by decide); have hmo1 := Int.emod_lt_of_pos more (show (0 : Int) < 50 by decide)
    have hst : ∀ q ∈ stK al3 k, q.2.length ≤ 10000 := fun q hq => by obtain ⟨i, hi, rfl⟩ := stK_mem.1 hq; have := (hba3.at (by omega) (show i < al3.length by omega)).1; show List.length (al3.getD i default) ≤ _; omega
    have hsl := stK_len al3 k
    have hQ : Evo w13 w13 [] := Evo.refl _ _
    obtain ⟨ao15, g15, cp15, hv15, hr15, hg15⟩ := hom13.rowOf
    subst hv15
    have hr150 := keepE hr15
    refine r_region ?_
    refine r_op rfl rfl rfl (run_mv (v := (.pointer (some ⟨bx5, 0, none⟩))) rfl (by exact rfl)) ?_
    refine r_op rfl rfl rfl (run_mv (v := .slice _ _ _) rfl (by exact rfl)) ?_
    refine r_op rfl rfl rfl (run_mv (v := .int _ _) rfl (by exact rfl)) ?_
    refine r_opcall rfl rfl rfl (run_callf (vs := [(.pointer (some ⟨bx5, 0, none⟩)), .slice _ _ _, .int _ _]) rfl (by exact rfl) Try.func13 rfl (by kernel_rfl)) (ixcand_calls hx5 hr15 (fun x hx => Nat.le_trans (hmt13 x hx) (by decide)) (by omega) (by omega) (fun q hq => Nat.le_trans (hst q hq) (by decide))) ?_
    rintro e w16 ⟨vr16, r16, rfl, hE16, hor16, hcr16⟩
    refine ⟨_, rfl, ?_⟩
    have hs_w16 := (hE16).size
    replace hV := evo_step0 hV hE16
    replace hB := evo_step0 hB hE16
    replace hQ := evo_step0 hQ hE16
    replace hl := hl0 _ hV
    replace hm := hm0 _ hV
    replace hr4 := hr40.now hB
    replace hx5 := hx5.evo0 hE16
    replace hom13 := hom13.evo0 hE16
    replace hr15 := hr150 _ hQ
    have hc50 := hcr16
    refine r_op rfl rfl rfl (run_mv (v := (.pointer (some ⟨bx5, 0, none⟩))) rfl (by exact rfl)) ?_
    refine r_op rfl rfl rfl (run_mv (v := .slice _ _ _) rfl (by exact rfl)) ?_
    refine r_op rfl rfl rfl (run_mv (v := .int _ _) rfl (by exact rfl)) ?_
    refine r_op rfl rfl rfl (run_mv (v := .int _ _) rfl (by exact rfl)) ?_
    refine r_opcall rfl rfl rfl (run_callf (vs := [.int _ _, .int _ _]) rfl (by exact rfl) Try.func12 rfl (by kernel_rfl)) (place_calls _ _ (by omega) (by omega)) ?_
    rintro e w17 ⟨rfl, rfl⟩
    refine ⟨_, rfl, ?_⟩
    refine r_op rfl rfl rfl (run_add rfl (by exact rfl) (by exact rfl) (by omega) (by omega)) ?_
    refine r_opcall rfl rfl rfl (run_callf (vs := [(.pointer (some ⟨bx5, 0, none⟩)), .slice _ _ _, .int _ _]) rfl (by exact rfl) Try.func13 rfl (by kernel_rfl)) (ixcand_calls hx5 hr15 (fun x hx => Nat.le_trans (hmt13 x hx) (by decide)) (by omega) (by omega) (fun q hq => Nat.le_trans (hst q hq) (by decide))) ?_
    rintro e w18 ⟨vr18, r18, rfl, hE18, hor18, hcr18⟩
    refine ⟨_, rfl, ?_⟩
    have hs_w18 := (hE18).size
    replace hV := evo_step0 hV hE18
    replace hB := evo_step0 hB hE18
    replace hQ := evo_step0 hQ hE18
    replace hl := hl0 _ hV
    replace hm := hm0 _ hV
    replace hr4 := hr40.now hB
    replace hx5 := hx5.evo0 hE18
    replace hom13 := hom13.evo0 hE18
    replace hr15 := hr150 _ hQ
    replace hor16 := hor16.evo0 hE18
    have hc57 := hcr18
    refine r_op rfl rfl rfl (run_asg (v := vr16) rfl (by exact rfl)) ?_
    refine r_op rfl rfl rfl (run_asg (v := vr18) rfl (by exact rfl)) ?_
    refine r_nil ?_
    refine r_seq ?_
    refine r_seq ?_
    have hmono := fun (id : Int) (h : id ∈ _) => cand_mono hc50 hc57 (by omega) h
    have hQ2 : Evo w18 w18 [] := Evo.refl _ _
    obtain ⟨ao19, g19, cp19, hv19, hr19, hg19⟩ := hor16.rowOf
    subst hv19
    have hr190 := keepE hr19
    obtain ⟨ao20, g20, cp20, hv20, hr20, hg20⟩ := hor18.rowOf
    subst hv20
    have hr200 := keepE hr20
    have hrb : r18.length ≤ 1024 := by rw [candR_len hc57]; exact Nat.le_trans (List.length_filter_le _ _) (by omega)
    refine r_region ?_
    refine r_op rfl rfl rfl (run_mv (v := .slice _ _ _) rfl (by exact rfl)) ?_
    refine r_op rfl rfl rfl (run_lenSl rfl (by exact rfl) Try.underlying22) ?_
    refine r_op rfl rfl rfl (run_mv (v := .int _ _) rfl (by exact rfl)) ?_
    refine r_nil ?_
    refine r_block ?_
    refine r_loop (α := Nat) [8, 17, 60, 61, 62, 63, 64, 65, 66, 67, 68, 69, 70] (fun j g w => g 60 = .int .i64 (j : Nat) ∧ j ≤ r18.length ∧ Idx w bx5 (stK al3 k) F ∧ w18.heap.size ≤ w.heap.size ∧ Evo w0 w [] ∧ Evo w3 w [] ∧ Evo w13 w [] ∧ Evo w18 w []) (fun j => r18.length - j) 0 ?_ ?_
    ·refine ⟨(by first | exact rfl | exact congrArg (Value.int _) (by omega) | exact congrArg (Value.int _) (by dsimp only; omega) | exact congrArg (Value.int _) (by simp) | exact congrArg S (by simp)), (by first | assumption | omega | (dsimp only; omega) | (simp; done)), hx5, (by first | assumption | omega | (dsimp only; omega) | (simp; done)), hV, hB, hQ, hQ2⟩
    ·rintro j g w22 ⟨hj23, hk_j, hx5, hzl21, hV, hB, hQ, hQ2⟩
     have hs_w22hV := hV.size
     have hs_w22hB := hB.size
     have hs_w22hQ := hQ.size
     have hs_w22hQ2 := hQ2.size
     replace hl := hl0 _ hV
     replace hm := hm0 _ hV
     replace hr4 := hr40.now hB
     replace hr15 := hr150 _ hQ
     replace hr19 := hr190 _ hQ2
     replace hr20 := hr200 _ hQ2
     refine r_know (i := 60) (v := .int .i64 (j : Nat)) (by exact hj23) ?_
     refine r_seq ?_
     refine r_region ?_
     refine r_op rfl rfl rfl (run_lss rfl (by exact rfl) (by exact rfl)) ?_
     refine r_nil ?_
     refine r_seq ?_
     refine r_cond (by exact rfl) (fun hc24 => ?_) (fun hc24 => ?_)
     ·skip
      refine r_skip ?_
      refine r_seq ?_
      refine r_block ?_
      refine r_seq ?_
      refine r_region ?_
      refine r_op rfl rfl rfl (run_mv (v := .int _ _) rfl (by exact rfl)) ?_
      refine r_op rfl rfl rfl (run_asg (v := .int _ _) rfl (by exact rfl)) ?_
      refine r_nil ?_
      refine r_seq ?_
      refine r_region ?_
      refine r_op rfl rfl rfl (run_mv (v := .slice _ _ _) rfl (by exact rfl)) ?_
      refine r_op rfl rfl rfl (run_mv (v := .slice _ _ _) rfl (by exact rfl)) ?_
      refine r_op rfl rfl rfl (run_mv (v := .int _ _) rfl (by exact rfl)) ?_
      refine r_op rfl rfl rfl (run_ix (j) rfl Try.underlying22 ty_3 (by exact rfl) (by exact rfl) (by first | exact rfl | omega) (by omega) (hr20.addr (i := j) (by omega))) ?_
      have hA250 := fun (w' : World) (h : Evo w18 w' []) => (hr200 w' h).atD (j) (by omega)
      have hA25 := hA250 _ hQ2
      refine r_op rfl rfl rfl (run_ld1 rfl ag_3 (by exact rfl) (hA25.cell 0 (by exact rfl))) ?_
      refine r_opcall rfl rfl rfl (run_callf (vs := [.slice _ _ _, .int _ _]) rfl (by exact rfl) Try.func15 rfl (by kernel_rfl)) (has_calls hr19) ?_
      rintro e w26 ⟨rfl, hE26⟩
      refine ⟨_, rfl, ?_⟩
      have hs_w26 := (hE26).size
      replace hV := evo_step0 hV hE26
      replace hB := evo_step0 hB hE26
      replace hQ := evo_step0 hQ hE26
      replace hQ2 := evo_step0 hQ2 hE26
      replace hl := hl0 _ hV
      replace hm := hm0 _ hV
      replace hr4 := hr40.now hB
      replace hr15 := hr150 _ hQ
      replace hr19 := hr190 _ hQ2
      replace hr20 := hr200 _ hQ2
      replace hx5 := hx5.evo0 hE26
      refine r_op rfl rfl rfl (run_not rfl (by exact rfl)) ?_
      refine r_nil ?_
      refine r_cond (by exact rfl) (fun hc27 => ?_) (fun hc27 => ?_)
      ·skip
       exact absurd (hmono _ (getD_in (by omega))) hc27
      ·skip
       refine r_skip ?_
       refine r_blk ?_
       refine r_region ?_
       refine r_op rfl rfl rfl (run_add rfl (by exact rfl) (by exact rfl) (by omega) (by omega)) ?_
       refine r_op rfl rfl rfl (run_mv (v := .int _ _) rfl (by exact rfl)) ?_
       refine r_nil ?_
       refine r_again (j + 1) ?_ ?_ ?_
       ·first | omega | (dsimp only; omega)
       ·refine ⟨(by first | exact rfl | exact congrArg (Value.int _) (by omega) | exact congrArg (Value.int _) (by dsimp only; omega) | exact congrArg (Value.int _) (by simp) | exact congrArg S (by simp)), (by first | assumption | omega | (dsimp only; omega) | (simp; done)), hx5, (by first | assumption | omega | (dsimp only; omega) | (simp; done)), hV, hB, hQ, hQ2⟩
       ·repeat (first | (with_reducible exact Agree.merge _ _ _) | (with_reducible exact Agree.refl _ _) | (with_reducible refine Agree.upd ?_ _ _ rfl) | ((with_reducible refine Agree.inner ?_ ?_); (kernel_rfl)))
     ·skip
      refine r_exit rfl ?_
      refine r_seq ?_
      refine r_region ?_
      refine r_op rfl rfl rfl (run_mv (v := (.pointer (some ⟨bx5, 0, none⟩))) rfl (by exact rfl)) ?_
      refine r_op rfl rfl rfl (run_mv (v := .slice _ _ _) rfl (by exact rfl)) ?_
      refine r_opcall rfl rfl rfl (run_callf (vs := [(.pointer (some ⟨bx5, 0, none⟩)), .slice _ _ _, .int _ _]) rfl (by exact rfl) Try.func13 rfl (by kernel_rfl)) (ixcand_calls hx5 hr15 (fun x hx => Nat.le_trans (hmt13 x hx) (by decide)) (by omega) (by omega) (fun q hq => Nat.le_trans (hst q hq) (by decide))) ?_
      rintro e w28 ⟨vr28, r28, rfl, hE28, hor28, hcr28⟩
      refine ⟨_, rfl, ?_⟩
      have hs_w28 := (hE28).size
      replace hV := evo_step0 hV hE28
      replace hB := evo_step0 hB hE28
      replace hQ := evo_step0 hQ hE28
      replace hQ2 := evo_step0 hQ2 hE28
      replace hl := hl0 _ hV
      replace hm := hm0 _ hV
      replace hr4 := hr40.now hB
      replace hr15 := hr150 _ hQ
      replace hr19 := hr190 _ hQ2
      replace hr20 := hr200 _ hQ2
      replace hx5 := hx5.evo0 hE28
      have hz0 : ((r28.length : Nat) : Int) = (al3.length : Nat) := by rw [cand_zero hcr28 (by omega) hst, hsl]; omega
      refine r_op rfl rfl rfl (run_lenOE rfl (by exact rfl) Try.underlying22 hor28) ?_
      refine r_op rfl rfl rfl (run_mv (v := .slice _ _ _) rfl (by exact rfl)) ?_
      refine r_op rfl rfl rfl (run_lenSl rfl (by exact rfl) Try.underlying24) ?_
      refine r_op rfl rfl rfl (run_eql rfl (by exact rfl) (by exact rfl)) ?_
      refine r_op rfl rfl rfl (run_mv (v := .bool _) rfl (by exact rfl)) ?_
      refine r_gyes rfl (wantT (by exact rfl)) (by exact hz0) ?_
      refine r_op rfl rfl rfl (run_mv (v := (.pointer (some ⟨bx5, 0, none⟩))) rfl (by exact rfl)) ?_
      refine r_gyes rfl (wantT (by exact rfl)) (by exact hz0) ?_
      refine r_op rfl rfl rfl (run_mv (v := .slice _ _ _) rfl (by exact rfl)) ?_
      refine r_gyes rfl (wantT (by exact rfl)) (by exact hz0) ?_
      refine r_opcall rfl rfl rfl (run_callf (vs := [(.pointer (some ⟨bx5, 0, none⟩)), .slice _ _ _, .int _ _]) rfl (by exact rfl) Try.func13 rfl (by kernel_rfl)) (ixcand_calls hx5 hr15 (fun x hx => Nat.le_trans (hmt13 x hx) (by decide)) (by omega) (by omega) (fun q hq => Nat.le_trans (hst q hq) (by decide))) ?_
      rintro e w29 ⟨vr29, r29, rfl, hE29, hor29, hcr29⟩
      refine ⟨_, rfl, ?_⟩
      have hs_w29 := (hE29).size
      replace hV := evo_step0 hV hE29
      replace hB := evo_step0 hB hE29
      replace hQ := evo_step0 hQ hE29
      replace hQ2 := evo_step0 hQ2 hE29
      replace hl := hl0 _ hV
      replace hm := hm0 _ hV
      replace hr4 := hr40.now hB
      replace hr15 := hr150 _ hQ
      replace hr19 := hr190 _ hQ2
      replace hr20 := hr200 _ hQ2
      replace hx5 := hx5.evo0 hE29
      replace hor28 := hor28.evo0 hE29
      have hz1 := cand_101 hcr29
      refine r_gyes rfl (wantT (by exact rfl)) (by exact hz0) ?_
      refine r_op rfl rfl rfl (run_lenOE rfl (by exact rfl) Try.underlying22 hor29) ?_
      refine r_gyes rfl (wantT (by exact rfl)) (by exact hz0) ?_
      refine r_op rfl rfl rfl (run_eql rfl (by exact rfl) (by exact rfl)) ?_
      refine r_op rfl rfl rfl (run_pick_and rfl (by exact rfl) (fun _ => (by exact rfl)) rfl) ?_
      refine r_op rfl rfl rfl (run_mv (v := .bool _) rfl (by exact rfl)) ?_
      refine r_gyes rfl (wantT (by exact rfl)) (by exact ⟨hz0, hz1⟩) ?_
      refine r_opcall rfl rfl rfl (run_callf (vs := []) rfl (by exact rfl) Try.func7 rfl (by kernel_rfl)) known15_calls ?_
      rintro e w30 ⟨rfl, hE30⟩
      refine ⟨_, rfl, ?_⟩
      have hs_w30 := (hE30).size
      replace hV := evo_step0 hV hE30
      replace hB := evo_step0 hB hE30
      replace hQ := evo_step0 hQ hE30
      replace hQ2 := evo_step0 hQ2 hE30
      replace hl := hl0 _ hV
      replace hm := hm0 _ hV
      replace hr4 := hr40.now hB
      replace hr15 := hr150 _ hQ
      replace hr19 := hr190 _ hQ2
      replace hr20 := hr200 _ hQ2
      replace hx5 := hx5.evo0 hE30
      replace hor28 := hor28.evo0 hE30
      replace hor29 := hor29.evo0 hE30
      refine r_op rfl rfl rfl (run_pick_andB rfl (by exact rfl) (fun _ => (by exact rfl)) rfl) ?_
      refine r_op rfl rfl rfl (run_asg (v := .bool _) rfl (by exact rfl)) ?_
      refine r_nil ?_
      refine r_ret (res1 (v := .bool _) rfl (by exact rfl)) ?_
      first | exact ⟨rfl, hV⟩ | exact ⟨ret_bool (decide_eq_true ⟨⟨hz0, hz1⟩, rfl⟩), hV⟩
end Go.Proofs.Ythbcklajlmcifaa
namespace Go.Proofs.Ythbcklajlmcifaa
open Go.RowKit Go.Vc
theorem u4 (n : Int) : ∃ n0 : Nat, IntKind.wrap .i64 ((IntKind.wrap .u64 n).tmod 4) = (n0 : Int) ∧ n0 < 4 := by
  have h0 : 0 ≤ IntKind.wrap .u64 n := by simp [IntKind.wrap, IntKind.bits, IntKind.signed]; omega
  have e := Int.tmod_eq_emod_of_nonneg (b := 4) h0
  have h1 := Int.emod_nonneg (IntKind.wrap .u64 n) (show (4 : Int) ≠ 0 by decide)
  have h2 := Int.emod_lt_of_pos (IntKind.wrap .u64 n) (show (0 : Int) < 4 by decide)
  refine ⟨(IntKind.wrap .u64 n % 4).toNat, ?_, by omega⟩
  rw [e, wrap_in (by omega) (by omega)]; omega
set_option maxHeartbeats 1000000 in
theorem full_law {n : Int} {w0 : World}  :
    Calls Try.prog 6 #[.int .i64 n] w0 fun e w' => e = .returned (.bool true) ∧ Evo w0 w' [] := by
 refine calls_enter (n := 59) (args := [.int .i64 n]) Try.func6 rfl Try.ntmps6 rfl ?_
 have hV : Evo w0 w0 [] := Evo.refl _ _
 refine r_seq ?_
 refine r_region ?_
 refine r_op rfl rfl rfl (run_asg (v := .bool _) rfl (by exact rfl)) ?_
 refine r_nil ?_
 refine r_seq ?_
 obtain ⟨n0, hn0, hn4⟩ := u4 n
 refine r_region ?_
 refine r_op rfl rfl rfl (run_mv (v := .int _ _) rfl (by exact rfl)) ?_
 refine r_op rfl rfl rfl (run_cvInt rfl Try.underlying3 Try.underlying41 (by exact rfl)) ?_
 refine r_op rfl rfl rfl (run_rem rfl (by exact rfl) (by exact rfl) (by omega)) ?_
 refine r_op rfl rfl rfl (run_cvInt rfl Try.underlying41 Try.underlying3 (by exact rfl)) ?_
 refine r_op rfl rfl rfl (run_add rfl (by exact rfl) (by exact rfl) (by omega) (by omega)) ?_
 refine r_op rfl rfl rfl (run_asg (v := .int _ _) rfl (by exact rfl)) ?_
 refine r_nil ?_
 refine r_seq ?_
 refine r_know (i := 0) (v := .int .i64 ((1023 + n0 : Nat) : Int)) (congrArg (Value.int _) (by omega)) ?_
 refine r_region ?_
 refine r_opcall rfl rfl rfl (run_callf (vs := []) rfl (by exact rfl) Try.func9 rfl (by kernel_rfl)) ixnew_calls ?_
 rintro e w1 ⟨bx1, fx1, rfl, hE1, hx1, hfx1⟩
 refine ⟨_, rfl, ?_⟩
 have hs_w1 := (hE1).size
 replace hV := evo_step0 hV hE1
 refine r_op rfl rfl rfl (run_asg (v := (.pointer (some ⟨bx1, 0, none⟩))) rfl (by exact rfl)) ?_
 refine r_nil ?_
 refine r_seq ?_
 have hFl := hx1.lt; have hFhx1 := hfx1
 refine r_region ?_
 refine r_op rfl rfl rfl (run_bld (pv := [(0, .int _ _), (1, S _)]) (zs := [_, _, _]) (cells := [_, _, _]) rfl ty_43 (by exact rfl) pl_43 (by exact rfl) (by exact rfl)) ?_
 refine r_bslice (pv := [(0, .agg _)]) (zs := [_, _, _]) (cs := [_, _, _]) Try.underlying28 ty_43 (by exact rfl) rfl (by exact rfl) rfl (by exact rfl) ?_
 intro b2 w3 heb2 hEw3 hbb2 hzb2
 have hs_w3 := (hEw3).size
 replace hV := evo_step0 hV hEw3
 replace hx1 := hx1.evo0 hEw3
 have hAb2 := hbb2.at
 have hrb2 : RowE w3 (some ⟨b2, 0, none⟩) b2 0 1 TA := rowLit TA hbb2 rfl rfl
 refine r_op rfl rfl rfl (run_asg (v := .slice (some ⟨b2, 0, none⟩) _ _) rfl (by exact rfl)) ?_
 refine r_nil ?_
 refine r_seq ?_
 refine r_seq ?_
 have hJ : Evo w3 w3 fx1 := Evo.refl _ _; have hFJ : ∀ g ∈ fx1, w3.heap.size ≤ g ∨ g ∈ fx1 := fun g hg => .inr hg
 have hrb20 := fun w9 (h9 : Evo w3 w9 fx1) => hrb2.evo h9 (fun hm => by have := hFl _ hm; omega)
 refine r_region ?_
 refine r_op rfl rfl rfl (run_asg (v := .int _ _) rfl (by exact rfl)) ?_
 refine r_nil ?_
 refine r_block ?_
 refine r_loop (α := Nat) [2, 5, 15, 16, 17, 18, 19, 20, 21, 22, 23, 24, 25, 26] (fun k g w => ∃ F : List Nat, g 5 = .int .i64 (k : Nat) ∧ Idx w bx1 (stC TA (min k 1024)) F ∧ (∀ g ∈ F, w0.heap.size ≤ g) ∧ (∀ g ∈ F, w3.heap.size ≤ g ∨ g ∈ fx1) ∧ k ≤ 1023 + n0 ∧ w3.heap.size ≤ w.heap.size ∧ Evo w0 w [] ∧ Evo w3 w fx1) (fun k => 1023 + n0 - k) 0 ?_ ?_
 ·refine ⟨_, rfl, hx1, hFhx1, hFJ, (by first | assumption | omega | (dsimp only; omega) | (simp; done)), (by first | assumption | omega | (dsimp only; omega) | (simp; done)), hV, hJ⟩
 ·rintro k g w5 ⟨F, hj6, hx1, hFhx1, hFJ, hk, hzl4, hV, hJ⟩
  have hs_w5hV := hV.size
  have hs_w5hJ := hJ.size
  replace hrb2 := hrb20 _ hJ
  refine r_know (i := 5) (v := .int .i64 (k : Nat)) (by exact hj6) ?_
  refine r_seq ?_
  refine r_seq ?_
  refine r_region ?_
  refine r_op rfl rfl rfl (run_mv (v := .int _ _) rfl (by exact rfl)) ?_
  refine r_op rfl rfl rfl (run_mv (v := .int _ _) rfl (by exact rfl)) ?_
  refine r_op rfl rfl rfl (run_lss rfl (by exact rfl) (by exact rfl)) ?_
  refine r_nil ?_
  refine r_cond (by exact rfl) (fun hc7 => ?_) (fun hc7 => ?_)
  ·skip
   refine r_skip ?_
   refine r_seq ?_
   refine r_block ?_
   refine r_seq ?_
   refine r_region ?_
   refine r_op rfl rfl rfl (run_mv (v := (.pointer (some ⟨bx1, 0, none⟩))) rfl (by exact rfl)) ?_
   refine r_op rfl rfl rfl (run_mv (v := .int _ _) rfl (by exact rfl)) ?_
   refine r_op rfl rfl rfl (run_mv (v := .slice (some ⟨b2, 0, none⟩) _ _) rfl (by exact rfl)) ?_
   refine r_opcall rfl rfl rfl (run_callf (vs := [(.pointer (some ⟨bx1, 0, none⟩)), .int _ _, .slice (some ⟨b2, 0, none⟩) _ _]) rfl (by exact rfl) Try.func10 rfl (by kernel_rfl)) (ixadd_calls hx1 hrb2 (fun x hx => by have e : x = ⟨6, [97], 0⟩ := (by simpa [TA] using hx); rw [e]; decide) (by decide)) ?_
   rintro e w8 ⟨F8, rfl, hE8, hx8, hF8⟩
   refine ⟨_, rfl, ?_⟩
   have hs_w8 := (hE8).size
   replace hV := evo_steps hV hE8 (fun b9 hb9 => .inl (by have := hFhx1 b9 hb9; omega))
   replace hJ := evo_steps hJ hE8 (fun b9 hb9 => (hFJ b9 hb9))
   replace hrb2 := hrb20 _ hJ
   replace hFJ := fun g hg => (hF8 g hg).elim (hFJ g) (fun h => .inl (by omega))
   replace hx1 := hx8; replace hFhx1 := fun g hg => (hF8 g hg).elim (hFhx1 g) (fun h => by omega)
   refine r_op rfl rfl rfl (run_mv (v := .int _ _) rfl (by exact rfl)) ?_
   refine r_op rfl rfl rfl (run_lss rfl (by exact rfl) (by exact rfl)) ?_
   refine r_op rfl rfl rfl (run_bneq rfl Try.underlying4 (by exact rfl) (by exact rfl)) ?_
   refine r_nil ?_
   refine r_cond (by exact rfl) (fun hc9 => ?_) (fun hc9 => ?_)
   ·skip
    exact absurd hc9 (by simp [stC_ok]; omega)
   ·skip
    refine r_skip ?_
    refine r_blk ?_
    refine r_region ?_
    refine r_op rfl rfl rfl (run_mv (v := .int _ _) rfl (by exact rfl)) ?_
    refine r_op rfl rfl rfl (run_add rfl (by exact rfl) (by exact rfl) (by omega) (by omega)) ?_
    refine r_op rfl rfl rfl (run_asg (v := .int _ _) rfl (by exact rfl)) ?_
    refine r_nil ?_
    refine r_again (k + 1) ?_ ?_ ?_
    ·first | omega | (dsimp only; omega)
    ·refine ⟨F8, (congrArg (Value.int _) (by omega)), (by rw [← stC_add]; exact hx1), hFhx1, hFJ, (by first | assumption | omega | (dsimp only; omega) | (simp; done)), (by first | assumption | omega | (dsimp only; omega) | (simp; done)), hV, hJ⟩
    ·repeat (first | (with_reducible exact Agree.merge _ _ _) | (with_reducible exact Agree.refl _ _) | (with_reducible refine Agree.upd ?_ _ _ rfl) | ((with_reducible refine Agree.inner ?_ ?_); (kernel_rfl)))
  ·skip
   refine r_exit rfl ?_
   refine r_seq ?_
   obtain ⟨K, hK, hK4, hK10, hKn⟩ : ∃ K : Nat, K = min k 1024 ∧ 4 ≤ K ∧ K ≤ 1024 ∧ K = min (1023 + n0) 1024 := ⟨_, rfl, by omega, by omega, by omega⟩; rw [← hK] at hx1
   have h3 : (3 : Int) ∈ (stC TA K).map (·.1) := stC_ids.2 ⟨3, by omega, rfl⟩; have hok := full_ok (T := TA) hK4 hK10; have hwl := wo3_len (T := TA) hK4; have hcl := stC_len TA K
   have hap : ∀ q ∈ without (stC TA K) 3 ++ [(-1, [])], q.2.length ≤ 1000000 := fun q hq => (List.mem_append.1 hq).elim (fun h => by rw [stC_all (wo_mem h)]; decide) (fun h => by have e : q = (-1, []) := (by simpa using h); rw [e]; decide)
   have hal9 : (without (stC TA K) 3 ++ [(-1, [])]).length ≤ 1000000 := by rw [List.length_append, hwl]; simp; omega
   refine r_region ?_
   refine r_op rfl rfl rfl (run_mv (v := .int _ _) rfl (by exact rfl)) ?_
   refine r_op rfl rfl rfl (run_min rfl (by exact rfl) (by exact rfl)) ?_
   refine r_op rfl rfl rfl (run_asg (v := .int _ _) rfl (by exact rfl)) ?_
   refine r_nil ?_
   refine r_seq ?_
   refine r_region ?_
   refine r_op rfl rfl rfl (run_mv (v := (.pointer (some ⟨bx1, 0, none⟩))) rfl (by exact rfl)) ?_
   refine r_opcall rfl rfl rfl (run_callf (vs := [(.pointer (some ⟨bx1, 0, none⟩))]) rfl (by exact rfl) Try.func18 rfl (by kernel_rfl)) (ixlen_calls hx1) ?_
   rintro e w10 ⟨rfl, hE10⟩
   refine ⟨_, rfl, ?_⟩
   have hs_w10 := (hE10).size
   replace hV := evo_step0 hV hE10
   replace hJ := evo_step0 hJ hE10
   replace hrb2 := hrb20 _ hJ
   replace hx1 := hx1.evo0 hE10
   have he1 : (((stC TA K).length : Nat) : Int) = min ((1023 + n0 : Nat) : Int) 1024 := by rw [hcl]; omega
   refine r_op rfl rfl rfl (run_mv (v := .int _ _) rfl (by exact rfl)) ?_
   refine r_op rfl rfl rfl (run_eql rfl (by exact rfl) (by exact rfl)) ?_
   refine r_op rfl rfl rfl (run_mv (v := .bool _) rfl (by exact rfl)) ?_
   refine r_gyes rfl (wantT (by exact rfl)) (by exact he1) ?_
   refine r_op rfl rfl rfl (run_mv (v := (.pointer (some ⟨bx1, 0, none⟩))) rfl (by exact rfl)) ?_
   refine r_gyes rfl (wantT (by exact rfl)) (by exact he1) ?_
   refine r_opcall rfl rfl rfl (run_callf (vs := [(.pointer (some ⟨bx1, 0, none⟩)), .int _ _]) rfl (by exact rfl) Try.func17 rfl (by kernel_rfl)) (ixrem_calls hx1) ?_
   rintro e w11 ⟨F11, rfl, hE11, hx11, hF11⟩
   refine ⟨_, rfl, ?_⟩
   have hs_w11 := (hE11).size
   replace hV := evo_steps hV hE11 (fun b9 hb9 => .inl (by have := hFhx1 b9 hb9; omega))
   replace hJ := evo_steps hJ hE11 (fun b9 hb9 => (hFJ b9 hb9))
   replace hrb2 := hrb20 _ hJ
   replace hFJ := fun g hg => (hF11 g hg).elim (hFJ g) (fun h => .inl (by omega))
   replace hx1 := hx11; replace hFhx1 := fun g hg => (hF11 g hg).elim (hFhx1 g) (fun h => by omega)
   refine r_op rfl rfl rfl (run_pick_and rfl (by exact rfl) (fun _ => (by exact rfl)) rfl) ?_
   refine r_op rfl rfl rfl (run_mv (v := .bool _) rfl (by exact rfl)) ?_
   refine r_gyes rfl (wantT (by exact rfl)) (by exact ⟨he1, h3⟩) ?_
   refine r_op rfl rfl rfl (run_mv (v := (.pointer (some ⟨bx1, 0, none⟩))) rfl (by exact rfl)) ?_
   refine r_gyes rfl (wantT (by exact rfl)) (by exact ⟨he1, h3⟩) ?_
   refine r_opcall rfl rfl rfl (run_callf (vs := [(.pointer (some ⟨bx1, 0, none⟩)), .int _ _, .slice _ _ _]) rfl (by exact rfl) Try.func10 rfl (by kernel_rfl)) (ixadd_calls (l := []) hx1 (RowE.nil _ none 0 0 0) (fun x hx => by cases hx) (by decide)) ?_
   rintro e w12 ⟨F12, rfl, hE12, hx12, hF12⟩
   refine ⟨_, rfl, ?_⟩
   have hs_w12 := (hE12).size
   replace hV := evo_steps hV hE12 (fun b9 hb9 => .inl (by have := hFhx1 b9 hb9; omega))
   replace hJ := evo_steps hJ hE12 (fun b9 hb9 => (hFJ b9 hb9))
   replace hrb2 := hrb20 _ hJ
   replace hFJ := fun g hg => (hF12 g hg).elim (hFJ g) (fun h => .inl (by omega))
   replace hx1 := hx12; replace hFhx1 := fun g hg => (hF12 g hg).elim (hFhx1 g) (fun h => by omega)
   rw [addA_yes hok] at hx1
   refine r_op rfl rfl rfl (run_pick_and rfl (by exact rfl) (fun _ => (by exact rfl)) rfl) ?_
   refine r_op rfl rfl rfl (run_mv (v := .bool _) rfl (by exact rfl)) ?_
   refine r_gyes rfl (wantT (by exact rfl)) (by exact ⟨⟨he1, h3⟩, hok⟩) ?_
   refine r_op rfl rfl rfl (run_mv (v := (.pointer (some ⟨bx1, 0, none⟩))) rfl (by exact rfl)) ?_
   refine r_gyes rfl (wantT (by exact rfl)) (by exact ⟨⟨he1, h3⟩, hok⟩) ?_
   refine r_opcall rfl rfl rfl (run_callf (vs := [(.pointer (some ⟨bx1, 0, none⟩))]) rfl (by exact rfl) Try.func18 rfl (by kernel_rfl)) (ixlen_calls hx1) ?_
   rintro e w13 ⟨rfl, hE13⟩
   refine ⟨_, rfl, ?_⟩
   have hs_w13 := (hE13).size
   replace hV := evo_step0 hV hE13
   replace hJ := evo_step0 hJ hE13
   replace hrb2 := hrb20 _ hJ
   replace hx1 := hx1.evo0 hE13
   have he2 : (((without (stC TA K) 3 ++ [(-1, [])]).length : Nat) : Int) = min ((1023 + n0 : Nat) : Int) 1024 := by rw [List.length_append, hwl]; simp; omega
   refine r_gyes rfl (wantT (by exact rfl)) (by exact ⟨⟨he1, h3⟩, hok⟩) ?_
   refine r_op rfl rfl rfl (run_mv (v := .int _ _) rfl (by exact rfl)) ?_
   refine r_gyes rfl (wantT (by exact rfl)) (by exact ⟨⟨he1, h3⟩, hok⟩) ?_
   refine r_op rfl rfl rfl (run_eql rfl (by exact rfl) (by exact rfl)) ?_
   refine r_op rfl rfl rfl (run_pick_and rfl (by exact rfl) (fun _ => (by exact rfl)) rfl) ?_
   refine r_op rfl rfl rfl (run_mv (v := .bool _) rfl (by exact rfl)) ?_
   refine r_gyes rfl (wantT (by exact rfl)) (by exact ⟨⟨⟨he1, h3⟩, hok⟩, he2⟩) ?_
   refine r_op rfl rfl rfl (run_mv (v := (.pointer (some ⟨bx1, 0, none⟩))) rfl (by exact rfl)) ?_
   refine r_gyes rfl (wantT (by exact rfl)) (by exact ⟨⟨⟨he1, h3⟩, hok⟩, he2⟩) ?_
   refine r_op rfl rfl rfl (run_mv (v := .slice (some ⟨b2, 0, none⟩) _ _) rfl (by exact rfl)) ?_
   refine r_gyes rfl (wantT (by exact rfl)) (by exact ⟨⟨⟨he1, h3⟩, hok⟩, he2⟩) ?_
   refine r_opcall rfl rfl rfl (run_callf (vs := [(.pointer (some ⟨bx1, 0, none⟩)), .slice (some ⟨b2, 0, none⟩) _ _, .int _ _]) rfl (by exact rfl) Try.func13 rfl (by kernel_rfl)) (ixcand_calls hx1 hrb2 (fun x hx => by have e : x = ⟨6, [97], 0⟩ := (by simpa [TA] using hx); rw [e]; decide) (by decide) hal9 hap) ?_
   rintro e w14 ⟨vr14, r14, rfl, hE14, hor14, hcr14⟩
   refine ⟨_, rfl, ?_⟩
   have hs_w14 := (hE14).size
   replace hV := evo_step0 hV hE14
   replace hJ := evo_step0 hJ hE14
   replace hrb2 := hrb20 _ hJ
   replace hx1 := hx1.evo0 hE14
   have he3 : ((r14.length : Nat) : Int) = min ((1023 + n0 : Nat) : Int) 1024 - 1 := by rw [full_cand hK4 hcr14]; omega
   refine r_gyes rfl (wantT (by exact rfl)) (by exact ⟨⟨⟨he1, h3⟩, hok⟩, he2⟩) ?_
   refine r_op rfl rfl rfl (run_lenOE rfl (by exact rfl) Try.underlying22 hor14) ?_
   refine r_gyes rfl (wantT (by exact rfl)) (by exact ⟨⟨⟨he1, h3⟩, hok⟩, he2⟩) ?_
   refine r_op rfl rfl rfl (run_mv (v := .int _ _) rfl (by exact rfl)) ?_
   refine r_gyes rfl (wantT (by exact rfl)) (by exact ⟨⟨⟨he1, h3⟩, hok⟩, he2⟩) ?_
   refine r_op rfl rfl rfl (run_sub rfl (by exact rfl) (by exact rfl) (by omega) (by omega)) ?_
   refine r_gyes rfl (wantT (by exact rfl)) (by exact ⟨⟨⟨he1, h3⟩, hok⟩, he2⟩) ?_
   refine r_op rfl rfl rfl (run_eql rfl (by exact rfl) (by exact rfl)) ?_
   refine r_op rfl rfl rfl (run_pick_and rfl (by exact rfl) (fun _ => (by exact rfl)) rfl) ?_
   refine r_op rfl rfl rfl (run_mv (v := .bool _) rfl (by exact rfl)) ?_
   refine r_gyes rfl (wantT (by exact rfl)) (by exact ⟨⟨⟨⟨he1, h3⟩, hok⟩, he2⟩, he3⟩) ?_
   refine r_opcall rfl rfl rfl (run_callf (vs := []) rfl (by exact rfl) Try.func7 rfl (by kernel_rfl)) known15_calls ?_
   rintro e w15 ⟨rfl, hE15⟩
   refine ⟨_, rfl, ?_⟩
   have hs_w15 := (hE15).size
   replace hV := evo_step0 hV hE15
   replace hJ := evo_step0 hJ hE15
   replace hrb2 := hrb20 _ hJ
   replace hx1 := hx1.evo0 hE15
   replace hor14 := hor14.evo0 hE15
   refine r_op rfl rfl rfl (run_pick_andB rfl (by exact rfl) (fun _ => (by exact rfl)) rfl) ?_
   refine r_op rfl rfl rfl (run_asg (v := .bool _) rfl (by exact rfl)) ?_
   refine r_nil ?_
   refine r_ret (res1 (v := .bool _) rfl (by exact rfl)) ?_
   first | exact ⟨ret_bool (decide_eq_true ⟨⟨⟨⟨⟨he1, h3⟩, hok⟩, he2⟩, he3⟩, rfl⟩), hV⟩
end Go.Proofs.Ythbcklajlmcifaa
namespace Go.Proofs.Ythbcklajlmcifaa
open Go.RowKit Go.Vc
theorem ok100 : addOk [] 100 := by unfold addOk; simp
theorem wo100 {t : List Vc.Item} : without (addA [] 100 t) 100 = [] := by rw [addA_yes ok100]; rfl
theorem in100 {t : List Vc.Item} : (100 : Int) ∈ (addA [] 100 t).map (·.1) := by rw [addA_yes ok100]; exact List.mem_cons_self
set_option maxHeartbeats 1000000 in
theorem order15_law {aol : Option Addr} {bl offl capl : Nat} {l : List Int} {aom : Option Addr} {bm offm capm : Nat} {m : List Int} {percent : Int} {w0 : World} (hl : RowE w0 aol bl offl capl l) (hm : RowE w0 aom bm offm capm m) :
    Calls Try.prog 5 #[.slice aol l.length capl, .slice aom m.length capm, .int .i64 percent] w0 fun e w' => e = .returned (.bool true) ∧ Evo w0 w' [] := by
 refine calls_enter (n := 90) (args := [.slice aol l.length capl, .slice aom m.length capm, .int .i64 percent]) Try.func5 rfl Try.ntmps5 rfl ?_
 have hV : Evo w0 w0 [] := Evo.refl _ _
 have hl0 := keepE hl
 have hbd_hl := hl.bd
 have hm0 := keepE hm
 have hbd_hm := hm.bd
 refine r_seq ?_
 refine r_region ?_
 refine r_op rfl rfl rfl (run_asg (v := .bool _) rfl (by exact rfl)) ?_
 refine r_nil ?_
 refine r_seq ?_
 refine r_seq ?_
 refine r_region ?_
 refine r_op rfl rfl rfl (run_mv (v := .slice _ _ _) rfl (by exact rfl)) ?_
 refine r_op rfl rfl rfl (run_lenSl rfl (by exact rfl) Try.underlying22) ?_
 refine r_op rfl rfl rfl (run_gtr rfl (by exact rfl) (by exact rfl)) ?_
 refine r_op rfl rfl rfl (run_mv (v := .bool _) rfl (by exact rfl)) ?_
 refine r_g rfl (wantF (by exact rfl)) rfl (fun hg => run_mv (v := .slice _ _ _) rfl (by exact rfl)) ?_
 refine r_g rfl (wantF (by exact rfl)) rfl (fun hg => run_lenSl rfl (glv (by exact rfl) (fun h => h) hg) Try.underlying22) ?_
 refine r_g rfl (wantF (by exact rfl)) rfl (fun hg => run_gtr rfl (glv (by exact rfl) (fun h => h) hg) (by exact rfl)) ?_
 refine r_op rfl rfl rfl (run_pick_or rfl (by exact rfl) rfl (fun hq => glv (by exact rfl) (fun h => h) hq)) ?_
 refine r_nil ?_
 refine r_cond (by exact rfl) (fun hc1 => ?_) (fun hc1 => ?_)
 ·skip
  refine r_seq ?_
  refine r_region ?_
  refine r_opcall rfl rfl rfl (run_callf (vs := []) rfl (by exact rfl) Try.func7 rfl (by kernel_rfl)) known15_calls ?_
  rintro e w2 ⟨rfl, hE2⟩
  refine ⟨_, rfl, ?_⟩
  have hs_w2 := (hE2).size
  replace hV := evo_step0 hV hE2
  replace hl := hl0 _ hV
  replace hm := hm0 _ hV
  refine r_op rfl rfl rfl (run_asg (v := .bool _) rfl (by exact rfl)) ?_
  refine r_nil ?_
  refine r_ret (res1 (v := .bool _) rfl (by exact rfl)) ?_
  first | exact ⟨rfl, hV⟩ | exact ⟨ret_bool (decide_eq_true ⟨⟨he0, he1⟩, rfl⟩), hV⟩
 ·skip
  refine r_skip ?_
  refine r_seq ?_
  refine r_region ?_
  refine r_op rfl rfl rfl (run_mv (v := .slice _ _ _) rfl (by exact rfl)) ?_
  refine r_opcall rfl rfl rfl (run_callf (vs := [.slice _ _ _]) rfl (by exact rfl) Try.func8 rfl (by kernel_rfl)) (base15_calls hl) ?_
  rintro e w3 ⟨va3, al3, rfl, hE3, hoa3, hba3⟩
  refine ⟨_, rfl, ?_⟩
  have hs_w3 := (hE3).size
  replace hV := evo_step0 hV hE3
  replace hl := hl0 _ hV
  replace hm := hm0 _ hV
  refine r_op rfl rfl rfl (run_asg (v := va3) rfl (by exact rfl)) ?_
  refine r_nil ?_
  refine r_seq ?_
  obtain ⟨ao4, g4, cp4, hv4, hr4⟩ := hoa3.rowOf
  subst hv4
  have hbd_hr4 := hr4.bd
  have hB : Evo w3 w3 [] := Evo.refl _ _; have hr40 := hr4.keep; have hal8 := hba3.1
  refine r_region ?_
  refine r_opcall rfl rfl rfl (run_callf (vs := []) rfl (by exact rfl) Try.func9 rfl (by kernel_rfl)) ixnew_calls ?_
  rintro e w5 ⟨bx5, fx5, rfl, hE5, hx5, hfx5⟩
  refine ⟨_, rfl, ?_⟩
  have hs_w5 := (hE5).size
  replace hV := evo_step0 hV hE5
  replace hB := evo_step0 hB hE5
  replace hl := hl0 _ hV
  replace hm := hm0 _ hV
  replace hoa3 := hoa3.evo0 hE5
  replace hr4 := hr40.now hB
  have hxl0 := hx5.lt; have hFhx5 := hfx5
  refine r_opcall rfl rfl rfl (run_callf (vs := []) rfl (by exact rfl) Try.func9 rfl (by kernel_rfl)) ixnew_calls ?_
  rintro e w6 ⟨bx6, fx6, rfl, hE6, hx6, hfx6⟩
  refine ⟨_, rfl, ?_⟩
  have hs_w6 := (hE6).size
  replace hV := evo_step0 hV hE6
  replace hB := evo_step0 hB hE6
  replace hl := hl0 _ hV
  replace hm := hm0 _ hV
  replace hoa3 := hoa3.evo0 hE6
  replace hr4 := hr40.now hB
  replace hx5 := hx5.evo0 hE6
  have hFhx6 := hfx6; have hxy : ∀ g ∈ fx5, g ∉ fx6 := fun g hg hm => by have := hxl0 g hg; have := hfx6 g hm; omega
  refine r_op rfl rfl rfl (run_asg (v := (.pointer (some ⟨bx5, 0, none⟩))) rfl (by exact rfl)) ?_
  refine r_op rfl rfl rfl (run_asg (v := (.pointer (some ⟨bx6, 0, none⟩))) rfl (by exact rfl)) ?_
  refine r_nil ?_
  refine r_seq ?_
  refine r_seq ?_
  refine r_region ?_
  refine r_op rfl rfl rfl (run_mv (v := .slice _ _ _) rfl (by exact rfl)) ?_
  refine r_op rfl rfl rfl (run_lenSl rfl (by exact rfl) Try.underlying24) ?_
  refine r_op rfl rfl rfl (run_mv (v := .int _ _) rfl (by exact rfl)) ?_
  refine r_nil ?_
  refine r_block ?_
  refine r_loop (α := Nat) [6, 10, 11, 30, 31, 32, 33, 34, 35, 36, 37, 38, 39, 40, 41, 42, 43, 44, 45, 46, 47, 48, 49, 50, 51] (fun k g w => ∃ Fx : List Nat, ∃ Fy : List Nat, g 30 = .int .i64 (k : Nat) ∧ k ≤ al3.length ∧ Idx w bx5 (stK al3 k) Fx ∧ Idx w bx6 ([]) Fy ∧ (∀ g ∈ Fx, w3.heap.size ≤ g) ∧ (∀ g ∈ Fy, w3.heap.size ≤ g) ∧ (∀ g ∈ Fx, g ∉ Fy) ∧ w6.heap.size ≤ w.heap.size ∧ Evo w0 w [] ∧ Evo w3 w []) (fun k => al3.length - k) 0 ?_ ?_
  ·refine ⟨_, _, (by first | exact rfl | exact congrArg (Value.int _) (by omega) | exact congrArg (Value.int _) (by dsimp only; omega) | exact congrArg (Value.int _) (by simp) | exact congrArg S (by simp)), (by first | assumption | omega | (dsimp only; omega) | (simp; done)), hx5, hx6, (fun g hg => by have := hFhx5 g hg; omega), (fun g hg => by have := hFhx6 g hg; omega), hxy, (by first | assumption | omega | (dsimp only; omega) | (simp; done)), hV, hB⟩
  ·rintro k g w8 ⟨Fx, Fy, hj9, hk_k, hx5, hx6, hFhx5, hFhx6, hxy, hzl7, hV, hB⟩
   have hs_w8hV := hV.size
   have hs_w8hB := hB.size
   replace hl := hl0 _ hV
   replace hm := hm0 _ hV
   replace hr4 := hr40.now hB
   refine r_know (i := 30) (v := .int .i64 (k : Nat)) (by exact hj9) ?_
   refine r_seq ?_
   refine r_region ?_
   refine r_op rfl rfl rfl (run_lss rfl (by exact rfl) (by exact rfl)) ?_
   refine r_nil ?_
   refine r_seq ?_
   refine r_cond (by exact rfl) (fun hc10 => ?_) (fun hc10 => ?_)
   ·skip
    refine r_skip ?_
    refine r_seq ?_
    refine r_block ?_
    refine r_seq ?_
    refine r_region ?_
    refine r_op rfl rfl rfl (run_mv (v := .int _ _) rfl (by exact rfl)) ?_
    refine r_op rfl rfl rfl (run_ix (k) rfl Try.underlying24 ty_28 (by exact rfl) (by exact rfl) (by first | exact rfl | omega) (by omega) (hr4.addr (i := k) (by omega))) ?_
    obtain ⟨ao11, b11, off11, cap11, hX⟩ := sl_atK hr40 (k) (by omega)
    have hA110 := fun (w' : World) (h : Evo w3 w' []) => (hX w' h).1
    have hA11 := hA110 _ hB
    have hR110 := fun (w' : World) (h : Evo w3 w' []) => (hX w' h).2
    have hR11 := hR110 _ hB
    clear hX
    have hbd_hR11 := hR11.bd
    refine r_op rfl rfl rfl (run_ld1 rfl ag_28 (by exact rfl) (hA11.cell 0 (by exact rfl))) ?_
    refine r_op rfl rfl rfl (run_asg (v := .int _ _) rfl (by exact rfl)) ?_
    refine r_op rfl rfl rfl (run_asg (v := .slice _ _ _) rfl (by exact rfl)) ?_
    refine r_nil ?_
    refine r_seq ?_
    have hel := hba3.at (by omega) (show k < al3.length by omega)
    refine r_region ?_
    refine r_op rfl rfl rfl (run_mv (v := (.pointer (some ⟨bx5, 0, none⟩))) rfl (by exact rfl)) ?_
    refine r_op rfl rfl rfl (run_mv (v := .int _ _) rfl (by exact rfl)) ?_
    refine r_op rfl rfl rfl (run_mv (v := .slice _ _ _) rfl (by exact rfl)) ?_
    have hyl9 := hx6.lt
    refine r_opcall rfl rfl rfl (run_callf (vs := [(.pointer (some ⟨bx5, 0, none⟩)), .int _ _, .slice _ _ _]) rfl (by exact rfl) Try.func10 rfl (by kernel_rfl)) (ixadd_calls hx5 hR11 (fun x hx => Nat.le_trans (hel.2.1 x hx) (by decide)) (by omega)) ?_
    rintro e w12 ⟨F12, rfl, hE12, hx12, hF12⟩
    refine ⟨_, rfl, ?_⟩
    have hs_w12 := (hE12).size
    replace hV := evo_steps hV hE12 (fun b9 hb9 => .inl (by have := hFhx5 b9 hb9; omega))
    replace hB := evo_steps hB hE12 (fun b9 hb9 => .inl (by have := hFhx5 b9 hb9; omega))
    replace hl := hl0 _ hV
    replace hm := hm0 _ hV
    replace hr4 := hr40.now hB
    replace hx6 := hx6.evo hE12 (fun g hg hm => hxy g hm hg)
    replace hR11 := hR110 _ hB
    replace hxy := fun g hg => (hF12 g hg).elim (hxy g) (fun h hm => by have := hyl9 g hm; omega)
    replace hx5 := hx12; replace hFhx5 := fun g hg => (hF12 g hg).elim (hFhx5 g) (fun h => by omega)
    refine r_op rfl rfl rfl (run_not rfl (by exact rfl)) ?_
    refine r_op rfl rfl rfl (run_mv (v := .bool _) rfl (by exact rfl)) ?_
    refine r_gyes rfl (wantF (by exact rfl)) (by exact (fun h => h (stK_ok (by omega)))) ?_
    refine r_op rfl rfl rfl (run_mv (v := (.pointer (some ⟨bx6, 0, none⟩))) rfl (by exact rfl)) ?_
    refine r_gyes rfl (wantF (by exact rfl)) (by exact (fun h => h (stK_ok (by omega)))) ?_
    refine r_op rfl rfl rfl (run_mv (v := .slice _ _ _) rfl (by exact rfl)) ?_
    have hxl9 := hx5.lt
    refine r_gyes rfl (wantF (by exact rfl)) (by exact (fun h => h (stK_ok (by omega)))) ?_
    refine r_opcall rfl rfl rfl (run_callf (vs := [(.pointer (some ⟨bx6, 0, none⟩)), .int _ _, .slice _ _ _]) rfl (by exact rfl) Try.func10 rfl (by kernel_rfl)) (ixadd_calls hx6 hR11 (fun x hx => Nat.le_trans (hel.2.1 x hx) (by decide)) (by omega)) ?_
    rintro e w13 ⟨F13, rfl, hE13, hx13, hF13⟩
    refine ⟨_, rfl, ?_⟩
    have hs_w13 := (hE13).size
    replace hV := evo_steps hV hE13 (fun b9 hb9 => .inl (by have := hFhx6 b9 hb9; omega))
    replace hB := evo_steps hB hE13 (fun b9 hb9 => .inl (by have := hFhx6 b9 hb9; omega))
    replace hl := hl0 _ hV
    replace hm := hm0 _ hV
    replace hr4 := hr40.now hB
    replace hx5 := hx5.evo hE13 (fun g hg => hxy g hg)
    replace hxy := fun g hg hm => (hF13 g hm).elim (hxy g hg) (fun h => by have := hxl9 g hg; omega)
    replace hx6 := hx13; replace hFhx6 := fun g hg => (hF13 g hg).elim (hFhx6 g) (fun h => by omega)
    refine r_gyes rfl (wantF (by exact rfl)) (by exact (fun h => h (stK_ok (by omega)))) ?_
    refine r_op rfl rfl rfl (run_not rfl (by exact rfl)) ?_
    refine r_op rfl rfl rfl (run_pick_or rfl (by exact rfl) rfl (fun _ => (by exact rfl))) ?_
    refine r_op rfl rfl rfl (run_mv (v := .bool _) rfl (by exact rfl)) ?_
    refine r_gyes rfl (wantF (by exact rfl)) (by exact (fun h => h.elim (fun h => h (stK_ok (by omega))) (fun h => h ok100))) ?_
    refine r_op rfl rfl rfl (run_mv (v := (.pointer (some ⟨bx6, 0, none⟩))) rfl (by exact rfl)) ?_
    have hxl9 := hx5.lt
    refine r_gyes rfl (wantF (by exact rfl)) (by exact (fun h => h.elim (fun h => h (stK_ok (by omega))) (fun h => h ok100))) ?_
    refine r_opcall rfl rfl rfl (run_callf (vs := [(.pointer (some ⟨bx6, 0, none⟩)), .int _ _]) rfl (by exact rfl) Try.func17 rfl (by kernel_rfl)) (ixrem_calls hx6) ?_
    rintro e w14 ⟨F14, rfl, hE14, hx14, hF14⟩
    refine ⟨_, rfl, ?_⟩
    have hs_w14 := (hE14).size
    replace hV := evo_steps hV hE14 (fun b9 hb9 => .inl (by have := hFhx6 b9 hb9; omega))
    replace hB := evo_steps hB hE14 (fun b9 hb9 => .inl (by have := hFhx6 b9 hb9; omega))
    replace hl := hl0 _ hV
    replace hm := hm0 _ hV
    replace hr4 := hr40.now hB
    replace hx5 := hx5.evo hE14 (fun g hg => hxy g hg)
    replace hxy := fun g hg hm => (hF14 g hm).elim (hxy g hg) (fun h => by have := hxl9 g hg; omega)
    replace hx6 := hx14; replace hFhx6 := fun g hg => (hF14 g hg).elim (hFhx6 g) (fun h => by omega)
    refine r_gyes rfl (wantF (by exact rfl)) (by exact (fun h => h.elim (fun h => h (stK_ok (by omega))) (fun h => h ok100))) ?_
    refine r_op rfl rfl rfl (run_not rfl (by exact rfl)) ?_
    refine r_op rfl rfl rfl (run_pick_or rfl (by exact rfl) rfl (fun _ => (by exact rfl))) ?_
    refine r_nil ?_
    refine r_cond (by exact rfl) (fun hc15 => ?_) (fun hc15 => ?_)
    ·skip
     exact absurd hc15 (fun h => h.elim (fun h => h.elim (fun h => h (stK_ok (by omega))) (fun h => h ok100)) (fun h => h in100))
    ·skip
     refine r_skip ?_
     refine r_blk ?_
     refine r_region ?_
     refine r_op rfl rfl rfl (run_add rfl (by exact rfl) (by exact rfl) (by omega) (by omega)) ?_
     refine r_op rfl rfl rfl (run_mv (v := .int _ _) rfl (by exact rfl)) ?_
     refine r_nil ?_
     refine r_again (k + 1) ?_ ?_ ?_
     ·first | omega | (dsimp only; omega)
     ·refine ⟨_, _, (by first | exact rfl | exact congrArg (Value.int _) (by omega) | exact congrArg (Value.int _) (by dsimp only; omega) | exact congrArg (Value.int _) (by simp) | exact congrArg S (by simp)), (by first | assumption | omega | (dsimp only; omega) | (simp; done)), (by rw [stK_succ, ← addA_yes (stK_ok (by omega))]; exact hx5), (by rw [← wo100 (t := (al3.getD k default))]; exact hx6), hFhx5, hFhx6, hxy, (by first | assumption | omega | (dsimp only; omega) | (simp; done)), hV, hB⟩
     ·repeat (first | (with_reducible exact Agree.merge _ _ _) | (with_reducible exact Agree.refl _ _) | (with_reducible refine Agree.upd ?_ _ _ rfl) | ((with_reducible refine Agree.inner ?_ ?_); (kernel_rfl)))
   ·skip
    refine r_exit rfl ?_
    refine r_seq ?_
    refine r_seq ?_
    refine r_region ?_
    refine r_op rfl rfl rfl (run_mv (v := .slice _ _ _) rfl (by exact rfl)) ?_
    refine r_op rfl rfl rfl (run_lenSl rfl (by exact rfl) Try.underlying24) ?_
    refine r_op rfl rfl rfl (run_sub rfl (by exact rfl) (by exact rfl) (by omega) (by omega)) ?_
    refine r_op rfl rfl rfl (run_asg (v := .int _ _) rfl (by exact rfl)) ?_
    refine r_nil ?_
    refine r_block ?_
    obtain rfl : k = al3.length := by omega
    refine r_loop (α := Nat) [6, 12, 55, 56, 57, 58, 59, 60, 61, 62, 63, 64, 65, 66] (fun j g w => ∃ Fy : List Nat, g 12 = .int .i64 (((al3.length : Nat) : Int) - 1 - (j : Int)) ∧ Idx w bx5 (stK al3 al3.length) Fx ∧ Idx w bx6 (stR al3 al3.length j) Fy ∧ (∀ g ∈ Fx, w3.heap.size ≤ g) ∧ (∀ g ∈ Fy, w3.heap.size ≤ g) ∧ (∀ g ∈ Fx, g ∉ Fy) ∧ j ≤ al3.length ∧ w8.heap.size ≤ w.heap.size ∧ Evo w0 w [] ∧ Evo w3 w []) (fun j => al3.length - j) 0 ?_ ?_
    ·refine ⟨_, (congrArg (Value.int _) (by omega)), hx5, hx6, hFhx5, hFhx6, hxy, (by first | assumption | omega | (dsimp only; omega) | (simp; done)), (by first | assumption | omega | (dsimp only; omega) | (simp; done)), hV, hB⟩
    ·rintro j g w17 ⟨Fy, hj18, hx5, hx6, hFhx5, hFhx6, hxy, hj, hzl16, hV, hB⟩
     have hs_w17hV := hV.size
     have hs_w17hB := hB.size
     replace hl := hl0 _ hV
     replace hm := hm0 _ hV
     replace hr4 := hr40.now hB
     refine r_know (i := 12) (v := .int .i64 (((al3.length : Nat) : Int) - 1 - (j : Int))) (by exact hj18) ?_
     refine r_seq ?_
     refine r_seq ?_
     refine r_region ?_
     refine r_op rfl rfl rfl (run_mv (v := .int _ _) rfl (by exact rfl)) ?_
     refine r_op rfl rfl rfl (run_geq rfl (by exact rfl) (by exact rfl)) ?_
     refine r_nil ?_
     refine r_cond (by exact rfl) (fun hc19 => ?_) (fun hc19 => ?_)
     ·skip
      refine r_skip ?_
      refine r_seq ?_
      refine r_block ?_
      refine r_seq ?_
      have hjl : j < al3.length := (by omega); have hid9 : ((al3.length : Nat) : Int) - 1 - (j : Int) = (((al3.length - 1 - j) : Nat) : Int) := (by omega); have hel := hba3.at (by omega) (show (al3.length - 1 - j) < al3.length by omega)
      refine r_region ?_
      refine r_op rfl rfl rfl (run_mv (v := (.pointer (some ⟨bx6, 0, none⟩))) rfl (by exact rfl)) ?_
      refine r_op rfl rfl rfl (run_mv (v := .int _ _) rfl (by exact rfl)) ?_
      refine r_op rfl rfl rfl (run_mv (v := .slice _ _ _) rfl (by exact rfl)) ?_
      refine r_op rfl rfl rfl (run_mv (v := .int _ _) rfl (by exact rfl)) ?_
      refine r_op rfl rfl rfl (run_ix ((al3.length - 1 - j)) rfl Try.underlying24 ty_28 (by exact rfl) (by exact rfl) (by omega) (by omega) (hr4.addr (i := (al3.length - 1 - j)) (by omega))) ?_
      obtain ⟨ao20, b20, off20, cap20, hX⟩ := sl_atK hr40 ((al3.length - 1 - j)) (by omega)
      have hA200 := fun (w' : World) (h : Evo w3 w' []) => (hX w' h).1
      have hA20 := hA200 _ hB
      have hR200 := fun (w' : World) (h : Evo w3 w' []) => (hX w' h).2
      have hR20 := hR200 _ hB
      clear hX
      have hbd_hR20 := hR20.bd
      refine r_op rfl rfl rfl (run_ld1 rfl ag_28 (by exact rfl) (hA20.cell 0 (by exact rfl))) ?_
      have hxl9 := hx5.lt
      refine r_opcall rfl rfl rfl (run_callf (vs := [(.pointer (some ⟨bx6, 0, none⟩)), .int _ _, .slice _ _ _]) rfl (by exact rfl) Try.func10 rfl (by kernel_rfl)) (ixadd_calls hx6 hR20 (fun x hx => Nat.le_trans (hel.2.1 x hx) (by decide)) (by omega)) ?_
      rintro e w21 ⟨F21, rfl, hE21, hx21, hF21⟩
      refine ⟨_, rfl, ?_⟩
      have hs_w21 := (hE21).size
      replace hV := evo_steps hV hE21 (fun b9 hb9 => .inl (by have := hFhx6 b9 hb9; omega))
      replace hB := evo_steps hB hE21 (fun b9 hb9 => .inl (by have := hFhx6 b9 hb9; omega))
      replace hl := hl0 _ hV
      replace hm := hm0 _ hV
      replace hr4 := hr40.now hB
      replace hx5 := hx5.evo hE21 (fun g hg => hxy g hg)
      replace hxy := fun g hg hm => (hF21 g hm).elim (hxy g hg) (fun h => by have := hxl9 g hg; omega)
      replace hx6 := hx21; replace hFhx6 := fun g hg => (hF21 g hg).elim (hFhx6 g) (fun h => by omega)
      refine r_op rfl rfl rfl (run_not rfl (by exact rfl)) ?_
      refine r_nil ?_
      refine r_cond (by exact rfl) (fun hc22 => ?_) (fun hc22 => ?_)
      ·skip
       exact absurd (by rw [hid9]; exact stR_ok (by omega) (by omega)) hc22
      ·skip
       refine r_skip ?_
       refine r_blk ?_
       refine r_region ?_
       refine r_op rfl rfl rfl (run_mv (v := .int _ _) rfl (by exact rfl)) ?_
       refine r_op rfl rfl rfl (run_sub rfl (by exact rfl) (by exact rfl) (by omega) (by omega)) ?_
       refine r_op rfl rfl rfl (run_asg (v := .int _ _) rfl (by exact rfl)) ?_
       refine r_nil ?_
       refine r_again (j + 1) ?_ ?_ ?_
       ·first | omega | (dsimp only; omega)
       ·refine ⟨_, (congrArg (Value.int _) (by omega)), hx5, (by rw [stR_succ, ← addA_yes (stR_ok (by omega) (by omega))]; rw [hid9] at hx6; exact hx6), hFhx5, hFhx6, hxy, (by first | assumption | omega | (dsimp only; omega) | (simp; done)), (by first | assumption | omega | (dsimp only; omega) | (simp; done)), hV, hB⟩
       ·repeat (first | (with_reducible exact Agree.merge _ _ _) | (with_reducible exact Agree.refl _ _) | (with_reducible refine Agree.upd ?_ _ _ rfl) | ((with_reducible refine Agree.inner ?_ ?_); (kernel_rfl)))
     ·skip
      refine r_exit rfl ?_
      refine r_seq ?_
      refine r_region ?_
      refine r_op rfl rfl rfl (run_mv (v := .slice _ _ _) rfl (by exact rfl)) ?_
      refine r_opcall rfl rfl rfl (run_callf (vs := [.slice _ _ _, .int _ _]) rfl (by exact rfl) Try.func16 rfl (by kernel_rfl)) (made15_calls (n := 14) hm) ?_
      rintro e w23 ⟨vm23, tm23, rfl, hE23, hom23, hml23, hmt23⟩
      refine ⟨_, rfl, ?_⟩
      have hs_w23 := (hE23).size
      replace hV := evo_step0 hV hE23
      replace hB := evo_step0 hB hE23
      replace hl := hl0 _ hV
      replace hm := hm0 _ hV
      replace hr4 := hr40.now hB
      replace hx5 := hx5.evo0 hE23
      replace hx6 := hx6.evo0 hE23
      refine r_op rfl rfl rfl (run_asg (v := vm23) rfl (by exact rfl)) ?_
      refine r_nil ?_
      refine r_seq ?_
      refine r_region ?_
      refine r_op rfl rfl rfl (run_mv (v := .int _ _) rfl (by exact rfl)) ?_
      refine r_opcall rfl rfl rfl (run_callf (vs := [.int _ _, .int _ _]) rfl (by exact rfl) Try.func12 rfl (by kernel_rfl)) (place_calls _ _ (by omega) (by omega)) ?_
      rintro e w24 ⟨rfl, rfl⟩
      refine ⟨_, rfl, ?_⟩
      refine r_op rfl rfl rfl (run_asg (v := .int _ _) rfl (by exact rfl)) ?_
      refine r_nil ?_
      refine r_seq ?_
      obtain rfl : j = al3.length := by omega
      have hpp0 := Int.emod_nonneg percent (show (103 : Int) ≠ 0 by decide); have hpp1 := Int.emod_lt_of_pos percent (show (0 : Int) < 103 by decide)
      have hst : ∀ q ∈ stK al3 al3.length, q.2.length ≤ 1000000 := fun q hq => by obtain ⟨i, hi, rfl⟩ := stK_mem.1 hq; have := (hba3.at (by omega) (show i < al3.length by omega)).1; show List.length (al3.getD i default) ≤ _; omega
      have hpm9 := stR_perm al3 al3.length; have hst2 : ∀ q ∈ stR al3 al3.length al3.length, q.2.length ≤ 1000000 := fun q hq => hst q (hpm9.mem_iff.2 hq); have hsl := stK_len al3 al3.length; have hsr := stR_len al3 al3.length al3.length
      have he0 : (((stK al3 al3.length).length : Nat) : Int) = ((stR al3 al3.length al3.length).length : Nat) := by rw [hsl, hsr]
      have hQ : Evo w23 w23 [] := Evo.refl _ _
      obtain ⟨ao25, g25, cp25, hv25, hr25, hg25⟩ := hom23.rowOf
      subst hv25
      have hr250 := keepE hr25
      refine r_region ?_
      refine r_op rfl rfl rfl (run_mv (v := (.pointer (some ⟨bx5, 0, none⟩))) rfl (by exact rfl)) ?_
      refine r_opcall rfl rfl rfl (run_callf (vs := [(.pointer (some ⟨bx5, 0, none⟩))]) rfl (by exact rfl) Try.func18 rfl (by kernel_rfl)) (ixlen_calls hx5) ?_
      rintro e w26 ⟨rfl, hE26⟩
      refine ⟨_, rfl, ?_⟩
      have hs_w26 := (hE26).size
      replace hV := evo_step0 hV hE26
      replace hB := evo_step0 hB hE26
      replace hQ := evo_step0 hQ hE26
      replace hl := hl0 _ hV
      replace hm := hm0 _ hV
      replace hr4 := hr40.now hB
      replace hx5 := hx5.evo0 hE26
      replace hx6 := hx6.evo0 hE26
      replace hom23 := hom23.evo0 hE26
      replace hr25 := hr250 _ hQ
      refine r_op rfl rfl rfl (run_mv (v := (.pointer (some ⟨bx6, 0, none⟩))) rfl (by exact rfl)) ?_
      refine r_opcall rfl rfl rfl (run_callf (vs := [(.pointer (some ⟨bx6, 0, none⟩))]) rfl (by exact rfl) Try.func18 rfl (by kernel_rfl)) (ixlen_calls hx6) ?_
      rintro e w27 ⟨rfl, hE27⟩
      refine ⟨_, rfl, ?_⟩
      have hs_w27 := (hE27).size
      replace hV := evo_step0 hV hE27
      replace hB := evo_step0 hB hE27
      replace hQ := evo_step0 hQ hE27
      replace hl := hl0 _ hV
      replace hm := hm0 _ hV
      replace hr4 := hr40.now hB
      replace hx5 := hx5.evo0 hE27
      replace hx6 := hx6.evo0 hE27
      replace hom23 := hom23.evo0 hE27
      replace hr25 := hr250 _ hQ
      refine r_op rfl rfl rfl (run_eql rfl (by exact rfl) (by exact rfl)) ?_
      refine r_op rfl rfl rfl (run_mv (v := .bool _) rfl (by exact rfl)) ?_
      refine r_gyes rfl (wantT (by exact rfl)) (by exact he0) ?_
      refine r_op rfl rfl rfl (run_mv (v := (.pointer (some ⟨bx5, 0, none⟩))) rfl (by exact rfl)) ?_
      refine r_gyes rfl (wantT (by exact rfl)) (by exact he0) ?_
      refine r_op rfl rfl rfl (run_mv (v := .slice _ _ _) rfl (by exact rfl)) ?_
      refine r_gyes rfl (wantT (by exact rfl)) (by exact he0) ?_
      refine r_op rfl rfl rfl (run_mv (v := .int _ _) rfl (by exact rfl)) ?_
      refine r_gyes rfl (wantT (by exact rfl)) (by exact he0) ?_
      refine r_opcall rfl rfl rfl (run_callf (vs := [(.pointer (some ⟨bx5, 0, none⟩)), .slice _ _ _, .int _ _]) rfl (by exact rfl) Try.func13 rfl (by kernel_rfl)) (ixcand_calls hx5 hr25 (fun x hx => Nat.le_trans (hmt23 x hx) (by decide)) (by omega) (by omega)  hst) ?_
      rintro e w28 ⟨vr28, r28, rfl, hE28, hor28, hcr28⟩
      refine ⟨_, rfl, ?_⟩
      have hs_w28 := (hE28).size
      replace hV := evo_step0 hV hE28
      replace hB := evo_step0 hB hE28
      replace hQ := evo_step0 hQ hE28
      replace hl := hl0 _ hV
      replace hm := hm0 _ hV
      replace hr4 := hr40.now hB
      replace hx5 := hx5.evo0 hE28
      replace hx6 := hx6.evo0 hE28
      replace hom23 := hom23.evo0 hE28
      replace hr25 := hr250 _ hQ
      have hc80 := hcr28
      refine r_gyes rfl (wantT (by exact rfl)) (by exact he0) ?_
      refine r_op rfl rfl rfl (run_mv (v := (.pointer (some ⟨bx6, 0, none⟩))) rfl (by exact rfl)) ?_
      refine r_gyes rfl (wantT (by exact rfl)) (by exact he0) ?_
      refine r_op rfl rfl rfl (run_mv (v := .slice _ _ _) rfl (by exact rfl)) ?_
      refine r_gyes rfl (wantT (by exact rfl)) (by exact he0) ?_
      refine r_op rfl rfl rfl (run_mv (v := .int _ _) rfl (by exact rfl)) ?_
      refine r_gyes rfl (wantT (by exact rfl)) (by exact he0) ?_
      refine r_opcall rfl rfl rfl (run_callf (vs := [(.pointer (some ⟨bx6, 0, none⟩)), .slice _ _ _, .int _ _]) rfl (by exact rfl) Try.func13 rfl (by kernel_rfl)) (ixcand_calls hx6 hr25 (fun x hx => Nat.le_trans (hmt23 x hx) (by decide)) (by omega) (by omega)  hst2) ?_
      rintro e w29 ⟨vr29, r29, rfl, hE29, hor29, hcr29⟩
      refine ⟨_, rfl, ?_⟩
      have hs_w29 := (hE29).size
      replace hV := evo_step0 hV hE29
      replace hB := evo_step0 hB hE29
      replace hQ := evo_step0 hQ hE29
      replace hl := hl0 _ hV
      replace hm := hm0 _ hV
      replace hr4 := hr40.now hB
      replace hx5 := hx5.evo0 hE29
      replace hx6 := hx6.evo0 hE29
      replace hom23 := hom23.evo0 hE29
      replace hr25 := hr250 _ hQ
      replace hor28 := hor28.evo0 hE29
      have he1 := candR_eq hc80 hcr29 hpm9
      refine r_gyes rfl (wantT (by exact rfl)) (by exact he0) ?_
      obtain ⟨ao30, g30, cp30, hv30, hr30, hg30⟩ := hor28.rowOf
      subst hv30
      obtain ⟨ao31, g31, cp31, hv31, hr31, hg31⟩ := hor29.rowOf
      subst hv31
      refine r_opcall rfl rfl rfl (run_callf (vs := [.slice _ _ _, .slice _ _ _]) rfl (by exact rfl) Try.func19 rfl (by kernel_rfl)) (sameints_calls hr30 hr31) ?_
      rintro e w32 ⟨rfl, hE32⟩
      refine ⟨_, rfl, ?_⟩
      have hs_w32 := (hE32).size
      replace hV := evo_step0 hV hE32
      replace hB := evo_step0 hB hE32
      replace hQ := evo_step0 hQ hE32
      replace hl := hl0 _ hV
      replace hm := hm0 _ hV
      replace hr4 := hr40.now hB
      replace hx5 := hx5.evo0 hE32
      replace hx6 := hx6.evo0 hE32
      replace hom23 := hom23.evo0 hE32
      replace hr25 := hr250 _ hQ
      replace hor28 := hor28.evo0 hE32
      replace hor29 := hor29.evo0 hE32
      replace hr30 := hr30.evo0 hE32
      replace hr31 := hr31.evo0 hE32
      refine r_op rfl rfl rfl (run_pick_and rfl (by exact rfl) (fun _ => (by exact rfl)) rfl) ?_
      refine r_op rfl rfl rfl (run_mv (v := .bool _) rfl (by exact rfl)) ?_
      refine r_gyes rfl (wantT (by exact rfl)) (by exact ⟨he0, he1⟩) ?_
      refine r_opcall rfl rfl rfl (run_callf (vs := []) rfl (by exact rfl) Try.func7 rfl (by kernel_rfl)) known15_calls ?_
      rintro e w33 ⟨rfl, hE33⟩
      refine ⟨_, rfl, ?_⟩
      have hs_w33 := (hE33).size
      replace hV := evo_step0 hV hE33
      replace hB := evo_step0 hB hE33
      replace hQ := evo_step0 hQ hE33
      replace hl := hl0 _ hV
      replace hm := hm0 _ hV
      replace hr4 := hr40.now hB
      replace hx5 := hx5.evo0 hE33
      replace hx6 := hx6.evo0 hE33
      replace hom23 := hom23.evo0 hE33
      replace hr25 := hr250 _ hQ
      replace hor28 := hor28.evo0 hE33
      replace hor29 := hor29.evo0 hE33
      replace hr30 := hr30.evo0 hE33
      replace hr31 := hr31.evo0 hE33
      refine r_op rfl rfl rfl (run_pick_andB rfl (by exact rfl) (fun _ => (by exact rfl)) rfl) ?_
      refine r_op rfl rfl rfl (run_asg (v := .bool _) rfl (by exact rfl)) ?_
      refine r_nil ?_
      refine r_ret (res1 (v := .bool _) rfl (by exact rfl)) ?_
      first | exact ⟨rfl, hV⟩ | exact ⟨ret_bool (decide_eq_true ⟨⟨he0, he1⟩, rfl⟩), hV⟩
end Go.Proofs.Ythbcklajlmcifaa
