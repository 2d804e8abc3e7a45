/-
  Library, plain laws and walks that the statements reach (joined by a program out of smaller texts).
-/
import Derived.Test.YthbcklajlmcifaaGreatQe
import Derived.Test.YthbcklajlmcifaaGreatQb
import Derived.Test.YthbcklajlmcifaaGreatQc
import Derived.Test.YthbcklajlmcifaaGreatQd
set_option linter.unusedVariables false
set_option linter.unusedSimpArgs false
namespace Go.Proofs.YthbcklajlmcifaaGreat
open Go.RowKit Go.Vc
theorem ag_23 : aggP Tryz.prog 23 = some false := by kernel_rfl
theorem ty_23 : tyP Tryz.prog 23 = some (1, 24, some (.slice none 0 0)) := by kernel_rfl
theorem sl_oneT {α : Type} [Enc α] (w : World) (cs : List Value) (x : List α) (h : Rep.rep w cs x) : oneCells cs = true := by
  obtain ⟨ao, b, off, cap, rfl, _⟩ := h; rfl
def BaseR (k : Nat) (all : List (List Vc.Item)) : Prop := all.length ≤ k ∧ ∀ t ∈ all, t.length ≤ 14 * 2 ^ k ∧ ∀ x ∈ t, x.text.length ≤ 240 + 4 * k
theorem pow_le8 {k : Nat} (h : k ≤ 8) : 14 * 2 ^ k ≤ 3584 := by
  have := Nat.pow_le_pow_right (show 0 < 2 by decide) h
  omega
theorem BaseR.up {k : Nat} {all : List (List Vc.Item)} (h : BaseR k all) {t : List Vc.Item} (ht : t.length ≤ 14 * 2 ^ (k + 1)) (hx : ∀ x ∈ t, x.text.length ≤ 240 + 4 * (k + 1)) : BaseR (k + 1) (all ++ [t]) := by
  refine ⟨by rw [List.length_append]; have := h.1; simp; omega, fun u hu => ?_⟩
  rcases List.mem_append.1 hu with hu | hu
  · have h1 := h.2 u hu
    exact ⟨by rw [Nat.pow_succ]; omega, fun x hx => by have := h1.2 x hx; omega⟩
  · have e : u = t := by simpa using hu
    rw [e]; exact ⟨ht, hx⟩
theorem BaseR.skip {k : Nat} {all : List (List Vc.Item)} (h : BaseR k all) : BaseR (k + 1) all :=
  ⟨by have := h.1; omega, fun u hu => by have h1 := h.2 u hu; exact ⟨by rw [Nat.pow_succ]; omega, fun x hx => by have := h1.2 x hx; omega⟩⟩
theorem BaseR.to8 {k : Nat} {all : List (List Vc.Item)} (h : BaseR k all) : ∀ j, k + j = 8 → BaseR 8 all
  | 0, e => by rw [Nat.add_zero] at e; exact e ▸ h
  | j + 1, e => BaseR.to8 h.skip j (by omega)
theorem BaseR.at {k j : Nat} {all : List (List Vc.Item)} (h : BaseR k all) (hk : k ≤ 8) (hj : j < all.length) : (all.getD j default).length ≤ 3584 ∧ (∀ x ∈ all.getD j default, x.text.length ≤ 240 + 4 * k) ∧ (all.getD j default).length ≤ 14 * 2 ^ k := by
  have h1 := h.2 _ (getD_in hj)
  have := pow_le8 hk
  exact ⟨by omega, h1.2, h1.1⟩
theorem BaseR.near {k j : Nat} {all : List (List Vc.Item)} {lo : List Vc.Item} (h : BaseR k all) (hk : k ≤ 8) (hj : j < all.length) (hn : NR (240 + 4 * k) (all.getD j default).length lo) : BaseR (k + 1) (all ++ [lo]) := by
  have h1 := h.at hk hj
  exact h.up (by have := hn.1; rw [Nat.pow_succ]; omega) (fun x hx => by have := hn.2 x hx; omega)
theorem BaseR.new {k : Nat} {all : List (List Vc.Item)} {t : List Vc.Item} (h : BaseR k all) (ht : t.length ≤ 14) (hx : ∀ x ∈ t, x.text.length ≤ 240) : BaseR (k + 1) (all ++ [t]) :=
  h.up (by have := Nat.one_le_two_pow (n := k + 1); omega) (fun x hx2 => by have := hx x hx2; omega)
theorem BaseR.nil : BaseR 0 [] := ⟨by simp, by simp⟩
theorem BaseR.mem {all : List (List Vc.Item)} (h : BaseR 8 all) {t : List Vc.Item} (ht : t ∈ all) : t.length ≤ 3584 ∧ ∀ x ∈ t, x.text.length ≤ 272 := ⟨(h.2 t ht).1, (h.2 t ht).2⟩
set_option maxHeartbeats 1000000 in
theorem base15_calls {ao : Option Addr} {b off cap : Nat} {l : List Int} {Y : List Nat} {w0 : World} (hl : RowE w0 ao b off cap l) (hY : ∀ y ∈ Y, y < w0.heap.size) :
    Calls Tryz.prog 7 #[.slice ao l.length cap] w0 fun e w' => ∃ v, ∃ all : List (List Vc.Item), e = .returned v ∧ Evo w0 w' [] ∧ OwnR w' w0.heap.size 23 Y v all ∧ BaseR 8 all := by
 refine calls_enter (n := 56) (args := [.slice ao l.length cap]) Tryz.func7 rfl Tryz.ntmps7 rfl ?_
 have hV : Evo w0 w0 [] := Evo.refl _ _
 have hl0 := keepE hl
 have hbd_hl := hl.bd
 refine r_seq ?_
 refine r_region ?_
 refine r_op rfl rfl rfl (run_asg (v := .slice _ _ _) rfl (by exact rfl)) ?_
 refine r_nil ?_
 refine r_seq ?_
 refine r_region ?_
 refine r_op rfl rfl rfl (run_mv (v := .slice _ _ _) rfl (by exact rfl)) ?_
 refine r_op rfl rfl rfl (run_bld (pv := [(0, .slice _ _ _)]) (zs := [_, _]) (cells := [_, _]) rfl ty_33 (by exact rfl) pl_33 (by exact rfl) (by exact rfl)) ?_
 refine r_box (vs := [_, _]) (by exact rfl) (by exact rfl) rfl ?_
 intro b1 w2 heb1 hEw2 hbb1 hzb1
 have hs_w2 := (hEw2).size
 replace hV := evo_step0 hV hEw2
 replace hl := hl0 _ hV
 have hAb1 := hbb1.at
 refine r_op rfl rfl rfl (run_asg (v := .pointer _) rfl (by exact rfl)) ?_
 refine r_nil ?_
 refine r_seq ?_
 refine r_region ?_
 refine r_op rfl rfl rfl (run_asg (v := .slice _ _ _) rfl (by exact rfl)) ?_
 refine r_nil ?_
 refine r_seq ?_
 refine r_seq ?_
 replace hbb1 : Blk _ _ _ [_, .int .i64 ((0 : Nat) : Int)] := hbb1
 refine r_region ?_
 refine r_op rfl rfl rfl (run_mv (v := .pointer _) rfl (by exact rfl)) ?_
 refine r_opcall rfl rfl rfl (run_callf (vs := [.pointer _, .int _ _]) rfl (by exact rfl) Tryz.func16 rfl (by kernel_rfl)) (nx_calls hbb1 hl (by omega) (by omega) (by omega)) ?_
 rintro e w3 ⟨nx3, rfl, hx3, hE3, hn3⟩
 refine ⟨_, rfl, ?_⟩
 have hs_w3 := (hE3).size
 replace hV := evo_step1 hV hE3 (by first | exact .inl (by omega) | exact .inr (by simp))
 replace hl := hl0 _ hV
 replace hbb1 := hn3
 clear hn3
 have hAb1 := hbb1.at
 refine r_op rfl rfl rfl (run_asg (v := .int _ _) rfl (by exact rfl)) ?_
 refine r_nil ?_
 refine r_block ?_
 obtain ⟨n0, hn0⟩ : ∃ n0 : Nat, nx3 = (n0 : Int) := ⟨nx3.toNat, by omega⟩; subst hn0; have hb3 := hbb1.lt
 refine r_loop (α := Nat) [4, 5, 6, 12, 13, 14, 15, 16, 17, 18, 19, 20, 21, 22, 23, 24, 25, 26, 27, 28, 29, 30, 31, 32, 33, 34, 35, 36, 37, 38, 39, 40, 41, 42, 43, 44, 45, 46, 47, 48, 49, 50, 51, 52, 53, 54] (fun k g w => ∃ vo : Value, ∃ all : List (List Vc.Item), ∃ N : Nat, g 5 = .int .i64 ((n0 : Int) - (k : Int)) ∧ g 4 = vo ∧ Blk w b1 33 [.slice ao l.length cap, .int .i64 ((N : Nat) : Int)] ∧ At w b1 0 [.slice ao l.length cap, .int .i64 ((N : Nat) : Int)] ∧ OwnR w w3.heap.size 23 (b1 :: Y) vo all ∧ BaseR k all ∧ (k ≤ n0 ∧ N ≤ 10 + 2100 * k) ∧ w3.heap.size ≤ w.heap.size ∧ Evo w0 w []) (fun k => n0 - k) 0 ?_ ?_
 ·refine ⟨_, [], _, (congrArg (Value.int _) (by omega)), rfl, hbb1, hAb1, (OwnR.nil _ _ _ _), BaseR.nil, (by first | assumption | omega | (dsimp only; omega) | (simp; done)), (by first | assumption | omega | (dsimp only; omega) | (simp; done)), hV⟩
 ·rintro k g w5 ⟨vo, all, N, hj6, hj7, hbb1, hAb1, hoo, hba, hk, hzl4, hV⟩
  have hs_w5hV := hV.size
  have hlt8 := hbb1.lt
  replace hl := hl0 _ hV
  refine r_know (i := 5) (v := .int .i64 ((n0 : Int) - (k : Int))) (by exact hj6) ?_
  refine r_know (i := 4) (v := vo) (by exact hj7) ?_
  refine r_seq ?_
  refine r_seq ?_
  refine r_region ?_
  refine r_op rfl rfl rfl (run_mv (v := .int _ _) rfl (by exact rfl)) ?_
  refine r_op rfl rfl rfl (run_gtr rfl (by exact rfl) (by exact rfl)) ?_
  refine r_nil ?_
  refine r_cond (by exact rfl) (fun hc9 => ?_) (fun hc9 => ?_)
  ·skip
   refine r_skip ?_
   refine r_seq ?_
   refine r_block ?_
   refine r_seq ?_
   refine r_seq ?_
   refine r_region ?_
   refine r_op rfl rfl rfl (run_mv (v := vo) rfl (by exact rfl)) ?_
   refine r_op rfl rfl rfl (run_lenOR rfl (by exact rfl) Tryz.underlying28 hoo) ?_
   refine r_op rfl rfl rfl (run_gtr rfl (by exact rfl) (by exact rfl)) ?_
   refine r_op rfl rfl rfl (run_mv (v := .bool _) rfl (by exact rfl)) ?_
   refine r_g rfl (wantT (by exact rfl)) rfl (fun hg => run_mv (v := .pointer _) rfl (by exact rfl)) ?_
   refine r_gnext rfl (wantT (by exact rfl)) rfl (fun hg => run_callf rfl (argcons (v := .pointer _) (glv (by exact rfl) (fun h => h) hg) (argcons (v := .int _ _) (by exact rfl) (rfl))) Tryz.func16 rfl (by kernel_rfl)) (fun hg => (nx_calls hbb1 hl (by omega) (by omega) (by omega))) hbb1 ?_
   intro nx11 w10 Ng11 hx11 hE11 hna11 hnb11 hbn
   have hs_w10 := (hE11).size
   replace hV := evo_step1 hV hE11 (by first | exact .inl (by omega) | exact .inr (by simp))
   replace hl := hl0 _ hV
   replace hoo := hoo.evo hE11 (by simp) (by intro g hg hm; simp at hm; subst hm; have := hoo.block hg; omega)
   replace hbb1 := hbn
   clear hbn
   have hAb1 := hbb1.at
   refine r_g rfl (wantT (by exact rfl)) rfl (fun hg => run_eql rfl (glv (by exact rfl) (fun h => h) hg) (by exact rfl)) ?_
   refine r_op rfl rfl rfl (run_pick_and rfl (by exact rfl) (fun hq => glv (by exact rfl) (fun h => h) hq) rfl) ?_
   refine r_nil ?_
   refine r_cond (by exact rfl) (fun hc12 => ?_) (fun hc12 => ?_)
   ·skip
    refine r_seq ?_
    have hal := hba.1; have hgo := hc12; have hobO := fun g hg => (hoo.block (g := g) hg)
    obtain ⟨aoA, gA, cpA, hvA, hra0⟩ := hoo.rowK (fun y hy => (List.mem_cons.1 hy).elim (fun h => by omega) (fun h => by have := hY y h; omega))
    subst hvA
    have hB : Evo w10 w10 (b1 :: Y) := Evo.refl _ _
    have hra := hra0.now hB
    have hbb1_q := hbb1
    have hAb1_q := hAb1
    have hV_q := hV
    have hB_q := hB
    refine h_region ([b1]) (by kernel_rfl) ?_
    intro w13 hE14 hC7
    have hs_w13 := (hE14).size
    replace hV := evo_step0 hV hE14
    replace hB := evo_step0 hB hE14
    replace hl := hl0 _ hV
    replace hoo := hoo.evo0 hE14
    replace hbb1 := hbb1.evo0 hE14
    replace hAb1 := hAb1.evo0 hE14
    replace hra := hra0.now hB
    refine h_take (i := 0) (by exact rfl) rfl rfl rfl (by kernel_rfl) (fun w' hC => run_mv (v := .slice _ _ _) rfl (by exact rfl)) hC7 ?_
    refine h_take (i := 1) (by exact rfl) rfl rfl rfl (by kernel_rfl) (fun w' hC => run_mv (v := .slice _ _ _) rfl (by exact rfl)) hC7 ?_
    refine h_take (i := 2) (by exact rfl) rfl rfl rfl (by kernel_rfl) (fun w' hC => run_mv (v := .pointer _) rfl (by exact rfl)) hC7 ?_
    refine h_take (i := 3) (by exact rfl) rfl rfl rfl (by kernel_rfl) (fun w' hC => run_mv (v := .slice _ _ _) rfl (by exact rfl)) hC7 ?_
    refine h_take (i := 4) (by exact rfl) rfl rfl rfl (by kernel_rfl) (fun w' hC => run_lenSl rfl (by exact rfl) Tryz.underlying28) hC7 ?_
    refine h_take (i := 8) (by exact rfl) rfl rfl rfl (by kernel_rfl) (fun w' hC => run_mv (v := .pointer _) rfl (by exact rfl)) hC7 ?_
    refine h_take (i := 10) (by exact rfl) rfl rfl rfl (by kernel_rfl) (fun w' hC => run_mv (v := .pointer _) rfl (by exact rfl)) hC7 ?_
    refine h_take (i := 12) (by exact rfl) rfl rfl rfl (by kernel_rfl) (fun w' hC => run_mv (v := .pointer _) rfl (by exact rfl)) hC7 ?_
    refine h_take (i := 14) (by exact rfl) rfl rfl rfl (by kernel_rfl) (fun w' hC => run_mv (v := .pointer _) rfl (by exact rfl)) hC7 ?_
    refine h_one (i := 5) (by kernel_rfl) ?_
    refine h_do (by exact rfl) ?_
    refine r_opcall rfl rfl rfl (run_callf (vs := [.pointer _, .int _ _]) rfl (by exact rfl) Tryz.func16 rfl (by kernel_rfl)) (nx_calls hbb1 hl (by omega) (by omega) (by omega)) ?_
    rintro e w15 ⟨nx15, rfl, hx15, hE15, hn15⟩
    refine ⟨_, rfl, ?_⟩
    have hs_w15 := (hE15).size
    replace hV := evo_step1 hV hE15 (by first | exact .inl (by omega) | exact .inr (by simp))
    replace hB := evo_step1 hB hE15 (by first | exact .inl (by omega) | exact .inr (by simp))
    replace hC7 := evo_step1 hC7 hE15 (by first | exact .inl (by omega) | exact .inr (by simp))
    replace hl := hl0 _ hV
    replace hoo := hoo.evo hE15 (by simp) (by intro g hg hm; simp at hm; subst hm; have := hoo.block hg; omega)
    replace hra := hra0.now hB
    replace hbb1 := hn15
    clear hn15
    have hAb1 := hbb1.at
    have hjj : nx15.toNat < all.length := (by omega); have hel := hba.at (by omega) hjj
    refine h_next hC7 ?_
    refine h_take (i := 6) (by exact rfl) rfl rfl rfl (by kernel_rfl) (fun w' hC => run_ix (nx15.toNat) rfl Tryz.underlying28 ty_23 (by exact rfl) (by exact rfl) (by omega) (by omega) (hra.addr (i := nx15.toNat) (by omega))) hC7 ?_
    obtain ⟨ao16, b16, off16, cap16, hX⟩ := sl_atK hra0 (nx15.toNat) (by omega)
    have hA160 := fun (w' : World) (h : Evo w10 w' (b1 :: Y)) => (hX w' h).1
    have hA16 := hA160 _ hB
    have hR160 := fun (w' : World) (h : Evo w10 w' (b1 :: Y)) => (hX w' h).2
    have hR16 := hR160 _ hB
    clear hX
    have hbd_hR16 := hR16.bd
    refine h_take (i := 7) (by exact rfl) rfl rfl rfl (by kernel_rfl) (fun w' hC => run_ld1 rfl ag_23 (by exact rfl) ((hA160 _ (evo_step1 hB_q hC (by first | exact .inl (by omega) | exact .inr (by simp)))).cell 0 (by exact rfl))) hC7 ?_
    refine h_one (i := 9) (by kernel_rfl) ?_
    refine h_do (by exact rfl) ?_
    refine r_opcall rfl rfl rfl (run_callf (vs := [.pointer _, .int _ _]) rfl (by exact rfl) Tryz.func16 rfl (by kernel_rfl)) (nx_calls hbb1 hl (by omega) (by omega) (by omega)) ?_
    rintro e w17 ⟨nx17, rfl, hx17, hE17, hn17⟩
    refine ⟨_, rfl, ?_⟩
    have hs_w17 := (hE17).size
    replace hV := evo_step1 hV hE17 (by first | exact .inl (by omega) | exact .inr (by simp))
    replace hB := evo_step1 hB hE17 (by first | exact .inl (by omega) | exact .inr (by simp))
    replace hC7 := evo_step1 hC7 hE17 (by first | exact .inl (by omega) | exact .inr (by simp))
    replace hl := hl0 _ hV
    replace hoo := hoo.evo hE17 (by simp) (by intro g hg hm; simp at hm; subst hm; have := hoo.block hg; omega)
    replace hra := hra0.now hB
    replace hR16 := hR160 _ hB
    replace hbb1 := hn17
    clear hn17
    have hAb1 := hbb1.at
    refine h_next hC7 ?_
    refine h_one (i := 11) (by kernel_rfl) ?_
    refine h_do (by exact rfl) ?_
    refine r_opcall rfl rfl rfl (run_callf (vs := [.pointer _, .int _ _]) rfl (by exact rfl) Tryz.func16 rfl (by kernel_rfl)) (nx_calls hbb1 hl (by omega) (by omega) (by omega)) ?_
    rintro e w18 ⟨nx18, rfl, hx18, hE18, hn18⟩
    refine ⟨_, rfl, ?_⟩
    have hs_w18 := (hE18).size
    replace hV := evo_step1 hV hE18 (by first | exact .inl (by omega) | exact .inr (by simp))
    replace hB := evo_step1 hB hE18 (by first | exact .inl (by omega) | exact .inr (by simp))
    replace hC7 := evo_step1 hC7 hE18 (by first | exact .inl (by omega) | exact .inr (by simp))
    replace hl := hl0 _ hV
    replace hoo := hoo.evo hE18 (by simp) (by intro g hg hm; simp at hm; subst hm; have := hoo.block hg; omega)
    replace hra := hra0.now hB
    replace hR16 := hR160 _ hB
    replace hbb1 := hn18
    clear hn18
    have hAb1 := hbb1.at
    refine h_next hC7 ?_
    refine h_one (i := 13) (by kernel_rfl) ?_
    refine h_do (by exact rfl) ?_
    refine r_opcall rfl rfl rfl (run_callf (vs := [.pointer _, .int _ _]) rfl (by exact rfl) Tryz.func16 rfl (by kernel_rfl)) (nx_calls hbb1 hl (by omega) (by omega) (by omega)) ?_
    rintro e w19 ⟨nx19, rfl, hx19, hE19, hn19⟩
    refine ⟨_, rfl, ?_⟩
    have hs_w19 := (hE19).size
    replace hV := evo_step1 hV hE19 (by first | exact .inl (by omega) | exact .inr (by simp))
    replace hB := evo_step1 hB hE19 (by first | exact .inl (by omega) | exact .inr (by simp))
    replace hC7 := evo_step1 hC7 hE19 (by first | exact .inl (by omega) | exact .inr (by simp))
    replace hl := hl0 _ hV
    replace hoo := hoo.evo hE19 (by simp) (by intro g hg hm; simp at hm; subst hm; have := hoo.block hg; omega)
    replace hra := hra0.now hB
    replace hR16 := hR160 _ hB
    replace hbb1 := hn19
    clear hn19
    have hAb1 := hbb1.at
    refine h_next hC7 ?_
    refine h_one (i := 15) (by kernel_rfl) ?_
    refine h_do (by exact rfl) ?_
    refine r_opcall rfl rfl rfl (run_callf (vs := [.pointer _, .int _ _]) rfl (by exact rfl) Tryz.func16 rfl (by kernel_rfl)) (nx_calls hbb1 hl (by omega) (by omega) (by omega)) ?_
    rintro e w20 ⟨nx20, rfl, hx20, hE20, hn20⟩
    refine ⟨_, rfl, ?_⟩
    have hs_w20 := (hE20).size
    replace hV := evo_step1 hV hE20 (by first | exact .inl (by omega) | exact .inr (by simp))
    replace hB := evo_step1 hB hE20 (by first | exact .inl (by omega) | exact .inr (by simp))
    replace hC7 := evo_step1 hC7 hE20 (by first | exact .inl (by omega) | exact .inr (by simp))
    replace hl := hl0 _ hV
    replace hoo := hoo.evo hE20 (by simp) (by intro g hg hm; simp at hm; subst hm; have := hoo.block hg; omega)
    replace hra := hra0.now hB
    replace hR16 := hR160 _ hB
    replace hbb1 := hn20
    clear hn20
    have hAb1 := hbb1.at
    refine h_next hC7 ?_
    refine h_one (i := 16) (by kernel_rfl) ?_
    refine h_do (by exact rfl) ?_
    refine r_bslice (pv := [(0, .int _ _), (1, .int _ _), (2, .int _ _), (3, .int _ _), (4, .int _ _)]) (zs := [_]) (cs := [_, _, _, _, _]) Tryz.underlying22 ty_3 (by exact rfl) rfl (by exact rfl) rfl (by exact rfl) ?_
    intro b21 w22 heb21 hEw22 hbb21 hzb21
    have hs_w22 := (hEw22).size
    replace hV := evo_step0 hV hEw22
    replace hB := evo_step0 hB hEw22
    replace hC7 := evo_step0 hC7 hEw22
    replace hl := hl0 _ hV
    replace hoo := hoo.evo0 hEw22
    replace hra := hra0.now hB
    replace hR16 := hR160 _ hB
    replace hbb1 := hbb1.evo0 hEw22
    replace hAb1 := hAb1.evo0 hEw22
    have hAb21 := hbb21.at
    have hrb21 := rowLit (α := Int) [_, _, _, _, _] hbb21 (by show [_, _, _, _, _] = [_, _, _, _, _]; first | (dsimp only; done) | exact rfl | (dsimp only; exact rfl)) rfl
    refine h_next hC7 ?_
    refine h_one (i := 17) (by kernel_rfl) ?_
    refine h_do (by exact rfl) ?_
    refine r_opcall rfl rfl rfl (run_callf (vs := [.slice _ _ _, .slice (some ⟨b21, 0, none⟩) _ _]) rfl (by exact rfl) Tryz.func17 rfl (by kernel_rfl)) (near15_calls hR16 hrb21 hel.2.1 (by omega) (by omega)) ?_
    rintro e w23 ⟨vn23, ln23, rfl, hE23, hon23, hnr23⟩
    refine ⟨_, rfl, ?_⟩
    have hs_w23 := (hE23).size
    replace hV := evo_step0 hV hE23
    replace hB := evo_step0 hB hE23
    replace hC7 := evo_step0 hC7 hE23
    replace hl := hl0 _ hV
    replace hoo := hoo.evo0 hE23
    replace hra := hra0.now hB
    replace hbb1 := hbb1.evo0 hE23
    replace hAb1 := hAb1.evo0 hE23
    replace hrb21 := hrb21.evo0 hE23
    have hnr9 := hnr23; have hobN := fun g hg => (hon23.block (g := g) hg)
    obtain ⟨ao24, g24, cp24, hv24, hr24, hg24⟩ := hon23.rowOf
    subst hv24
    refine h_next hC7 ?_
    refine h_one (i := 18) (by kernel_rfl) ?_
    refine h_do (by exact rfl) ?_
    refine r_bslice (pv := [(0, .slice _ _ _)]) (zs := [_]) (cs := [_]) Tryz.underlying28 ty_23 (by exact rfl) rfl (by exact rfl) rfl (by exact rfl) ?_
    intro b25 w26 heb25 hEw26 hbb25 hzb25
    have hs_w26 := (hEw26).size
    replace hV := evo_step0 hV hEw26
    replace hB := evo_step0 hB hEw26
    replace hC7 := evo_step0 hC7 hEw26
    replace hl := hl0 _ hV
    replace hoo := hoo.evo0 hEw26
    replace hra := hra0.now hB
    replace hbb1 := hbb1.evo0 hEw26
    replace hAb1 := hAb1.evo0 hEw26
    replace hrb21 := hrb21.evo0 hEw26
    replace hon23 := hon23.evo0 hEw26
    replace hr24 := hr24.evo0 hEw26
    have hAb25 := hbb25.at
    have hKb25 : Evo w26 w26 ((b1 :: Y) ++ (Value.slice aoA all.length cpA).ownBlock.toList) := Evo.refl _ _
    have hrb250 := rowLitRK ((b1 :: Y) ++ (Value.slice aoA all.length cpA).ownBlock.toList) hbb25 (fun hm => by rcases List.mem_append.1 hm with h8 | h8; (rcases List.mem_cons.1 h8 with h6 | h6; omega; (have := hY _ h6; omega)); (have h7 := hobO _ (Option.mem_toList.1 h8); omega)) (fun w9 h9 => sl_rep (row_keep hr24 h9 (fun hne hm => by have h2 := (hg24 hne).2; rcases List.mem_append.1 hm with h8 | h8; (rcases List.mem_cons.1 h8 with h6 | h6; omega; (have := hY _ h6; omega)); (have h7 := hobO _ (Option.mem_toList.1 h8); omega)))) (x := ln23)
    have hrb25 := hrb250.now hKb25
    have hbd_hrb25 := hrb25.bd
    refine h_next hC7 ?_
    refine h_one (i := 19) (by kernel_rfl) ?_
    refine h_do (by exact rfl) ?_
    refine r_appendR (w1 := w26) (E' := (b1 :: Y) ++ (Value.slice aoA all.length cpA).ownBlock.toList) rfl Tryz.underlying28 ty_23 (by exact rfl) sl_oneT hoo (by exact rfl) (by exact rfl) hrb250 ((fun w9 h9 => Evo.trans hKb25 h9 (fun x hx hlt => hx))) rfl (by simp only [List.length_singleton]; omega) (by simp only [List.length_singleton]; omega) (by omega) ?_
    intro v27 w28 hEw28 hov27 hlv27
    have hs_w28 := (hEw28).size
    replace hV := evo_stepo hV hEw28 (fun g hg => .inl (by first | exact (hoo.block hg).1 | (have := hoo.block hg; omega)))
    replace hKb25 := evo_stepo hKb25 hEw28 (fun g hg => .inr (List.mem_append_right _ (Option.mem_toList.2 hg)))
    replace hl := hl0 _ hV
    replace hbb1 := hbb1.evo hEw28 (by intro hm; have hm2 := Option.mem_toList.1 hm; first | (have := hoo.block hm2; omega) | (simp [Value.ownBlock] at hm2; omega))
    replace hAb1 := hAb1.evo hEw28 (by intro hm; have hm2 := Option.mem_toList.1 hm; first | (have := hoo.block hm2; omega) | (simp [Value.ownBlock] at hm2; omega))
    replace hrb25 := hrb250.now hKb25
    refine h_last (by kernel_rfl) ?_
    refine h_one (i := 20) (by kernel_rfl) ?_
    refine h_do (by exact rfl) ?_
    refine r_op rfl rfl rfl (run_asg (v := v27) rfl (by exact rfl)) ?_
    refine h_last (by kernel_rfl) ?_
    refine h_done (by kernel_rfl) ?_
    refine r_exit rfl ?_
    refine r_region ?_
    refine r_op rfl rfl rfl (run_mv (v := .int _ _) rfl (by exact rfl)) ?_
    refine r_op rfl rfl rfl (run_sub rfl (by exact rfl) (by exact rfl) (by omega) (by omega)) ?_
    refine r_op rfl rfl rfl (run_asg (v := .int _ _) rfl (by exact rfl)) ?_
    refine r_nil ?_
    refine r_again (k + 1) ?_ ?_ ?_
    ·first | omega | (dsimp only; omega)
    ·refine ⟨_, _, _, (congrArg (Value.int _) (by omega)), rfl, hbb1, hAb1, hov27, (by first | exact hba.near (by omega) hjj hnr9 | exact hba.new (by rw [List.length_take]; omega) (fun x hx => by have := toks_text (List.mem_of_mem_take hx); omega)), (by first | assumption | omega | (dsimp only; omega) | (simp; done)), (by first | assumption | omega | (dsimp only; omega) | (simp; done)), hV⟩
    ·repeat (first | (with_reducible exact Agree.merge _ _ _) | (with_reducible exact Agree.refl _ _) | (with_reducible refine Agree.upd ?_ _ _ rfl) | ((with_reducible refine Agree.inner ?_ ?_); (kernel_rfl)))
   ·skip
    refine r_skip ?_
    refine r_seq ?_
    have hobO := fun g hg => (hoo.block (g := g) hg)
    refine r_region ?_
    refine r_op rfl rfl rfl (run_mv (v := .pointer _) rfl (by exact rfl)) ?_
    refine r_opcall rfl rfl rfl (run_callf (vs := [.pointer _, .int _ _, .bool _, .bool _]) rfl (by exact rfl) Tryz.func18 rfl (by kernel_rfl)) (fragment_calls hbb1 (fun w9 h9 => hl0 _ (evo_step1 hV h9 (.inl (by omega)))) (by omega) (by omega) (by omega)) ?_
    rintro e w29 ⟨vf29, f29, Nf29, rfl, hf29, hNf29, hE29, hn29, hof29⟩
    refine ⟨_, rfl, ?_⟩
    have hs_w29 := (hE29).size
    replace hV := evo_step1 hV hE29 (by first | exact .inl (by omega) | exact .inr (by simp))
    replace hl := hl0 _ hV
    replace hoo := hoo.evo hE29 (by simp) (by intro g hg hm; simp at hm; subst hm; have := hoo.block hg; omega)
    replace hbb1 := hn29
    clear hn29
    have hAb1 := hbb1.at
    have hfl9 : fLen f29 ≤ 240 := by have h9 := hf29.2.2.1; rw [fLen_size]; omega
    have hfn9 : f29.length ≤ 16 := by have h9 := hf29.2.1; omega
    have htl9 := toks_len f29
    obtain ⟨ao30, g30, cp30, hv30, hr30, hg30⟩ := hof29.rowOf
    subst hv30
    refine r_opcall rfl rfl rfl (run_callf (vs := [.slice _ _ _]) rfl (by exact rfl) Tryz.func14 rfl (by kernel_rfl)) (rtokens_calls hr30 (by omega)) ?_
    rintro e w31 ⟨vt31, rfl, hE31, hot31⟩
    refine ⟨_, rfl, ?_⟩
    have hs_w31 := (hE31).size
    replace hV := evo_step0 hV hE31
    replace hl := hl0 _ hV
    replace hoo := hoo.evo0 hE31
    replace hbb1 := hbb1.evo0 hE31
    replace hAb1 := hAb1.evo0 hE31
    replace hof29 := hof29.evo0 hE31
    replace hr30 := hr30.evo0 hE31
    refine r_op rfl rfl rfl (run_asg (v := vt31) rfl (by exact rfl)) ?_
    refine r_nil ?_
    refine r_region ?_
    refine r_op rfl rfl rfl (run_mv (v := vo) rfl (by exact rfl)) ?_
    refine r_op rfl rfl rfl (run_mv (v := vt31) rfl (by exact rfl)) ?_
    refine r_op rfl rfl rfl (run_mv (v := vt31) rfl (by exact rfl)) ?_
    refine r_op rfl rfl rfl (run_lenOE rfl (by exact rfl) Tryz.underlying23 hot31) ?_
    refine r_op rfl rfl rfl (run_min rfl (by exact rfl) (by exact rfl)) ?_
    refine r_cutOwn0 (min (toks f29).length 14) rfl Tryz.underlying23 ty_43 hot31 (by exact rfl) (hi1 (by exact rfl) (by omega)) (by omega) ?_
    intro v32 hov32 hlv32
    obtain ⟨ao33, g33, cp33, hv33, hr33, hg33⟩ := hov32.rowOf
    subst hv33
    refine r_append1R (u := .slice _ _ _) (us := [_]) rfl rfl Tryz.underlying28 ty_23 (by exact rfl) rfl rfl hoo (fun _ => (by exact rfl)) (by exact rfl) (by exact rfl) rfl (by exact rfl) (fun w9 h9 => sl_rep (row_keep hr33 h9 (fun hne hm => by have h2 := (hg33 hne).2; rcases List.mem_append.1 hm with h8 | h8; (rcases List.mem_cons.1 h8 with h6 | h6; omega; (have := hY _ h6; omega)); (have h7 := hobO _ (Option.mem_toList.1 h8); omega)))) ((by have := hba.1; omega)) ((by have := hba.1; omega)) (by omega) ?_
    intro q_v34 v34 w35 hEw35 hov34 hlv34
    have hs_w35 := (hEw35).size
    replace hV := evo_stepo hV hEw35 (fun g hg => .inl (by first | exact (hoo.block hg).1 | (have := hoo.block hg; omega)))
    replace hl := hl0 _ hV
    replace hbb1 := hbb1.evo hEw35 (by intro hm; have hm2 := Option.mem_toList.1 hm; first | (have := hoo.block hm2; omega) | (simp [Value.ownBlock] at hm2; omega))
    replace hAb1 := hAb1.evo hEw35 (by intro hm; have hm2 := Option.mem_toList.1 hm; first | (have := hoo.block hm2; omega) | (simp [Value.ownBlock] at hm2; omega))
    refine r_op rfl rfl rfl (run_asg (v := v34) rfl (by exact rfl)) ?_
    refine r_nil ?_
    refine r_blk ?_
    refine r_region ?_
    refine r_op rfl rfl rfl (run_mv (v := .int _ _) rfl (by exact rfl)) ?_
    refine r_op rfl rfl rfl (run_sub rfl (by exact rfl) (by exact rfl) (by omega) (by omega)) ?_
    refine r_op rfl rfl rfl (run_asg (v := .int _ _) rfl (by exact rfl)) ?_
    refine r_nil ?_
    refine r_again (k + 1) ?_ ?_ ?_
    ·first | omega | (dsimp only; omega)
    ·refine ⟨_, _, _, (congrArg (Value.int _) (by omega)), rfl, hbb1, hAb1, hov34, (by first | exact hba.near (by omega) hjj hnr9 | exact hba.new (by rw [List.length_take]; omega) (fun x hx => by have := toks_text (List.mem_of_mem_take hx); omega)), (by first | assumption | omega | (dsimp only; omega) | (simp; done)), (by first | assumption | omega | (dsimp only; omega) | (simp; done)), hV⟩
    ·repeat (first | (with_reducible exact Agree.merge _ _ _) | (with_reducible exact Agree.refl _ _) | (with_reducible refine Agree.upd ?_ _ _ rfl) | ((with_reducible refine Agree.inner ?_ ?_); (kernel_rfl)))
  ·skip
   refine r_exit rfl ?_
   refine r_seq ?_
   refine r_region ?_
   refine r_op rfl rfl rfl (run_mv (v := vo) rfl (by exact rfl)) ?_
   refine r_op rfl rfl rfl (run_asg (v := vo) rfl (by exact rfl)) ?_
   refine r_nil ?_
   refine r_ret (res1 (v := vo) rfl (by exact rfl)) ?_
   exact ⟨_, _, rfl, hV, hoo.sub (by omega) (fun y hy => List.mem_cons_of_mem _ hy), hba.to8 (8 - k) (by omega)⟩
end Go.Proofs.YthbcklajlmcifaaGreat
namespace Go.Vc
open Go Go.RowKit
structure Hdr where
  ao : Option Addr
  len : Nat
  cap : Nat
instance : Inhabited Hdr := ⟨⟨none, 0, 0⟩⟩
instance : Enc Hdr := ⟨1, fun x => [.slice x.ao x.len x.cap], fun _ => rfl, fun _ => rfl, by decide⟩
structure SV where
  id : Int
  ao : Option Addr
  len : Nat
  cap : Nat
instance : Inhabited SV := ⟨⟨0, none, 0, 0⟩⟩
instance : Enc SV := ⟨2, fun x => [.int .i64 x.id, .slice x.ao x.len x.cap], fun _ => rfl, fun _ => rfl, by decide⟩
def HRow (w : World) (h : Hdr) (t : List Item) : Prop := ∃ b off, RowE w h.ao b off h.cap t ∧ h.len = t.length
def hdOf : List Value → Hdr
  | [.slice ao n c] => ⟨ao, n, c⟩
  | _ => default
theorem hdr_rows {w : World} {E : List Nat} {ao : Option Addr} {g off cap : Nat} {all : List (List Item)} (h : RowRK w E ao g off cap all) :
    ∃ H : List Hdr, H.length = all.length ∧ (∀ w', Evo w w' E → RowE w' ao g off cap H) ∧ ∀ w', Evo w w' E → ∀ j, j < all.length → HRow w' (H.getD j default) (all.getD j default) := by
  obtain ⟨css, h1⟩ := h
  have h0 := (h1 w (Evo.refl _ _)).2
  have key : ∀ cs ∈ css, Enc.enc (hdOf cs) = cs := fun cs hcs => by
    obtain ⟨i, hi, rfl⟩ := List.getElem_of_mem hcs
    have hi2 : i < all.length := by rw [← h0.1]; exact hi
    obtain ⟨ao', b', off', cap', e, _⟩ := h0.2 i css[i] all[i] (by simp [hi]) (by simp [hi2])
    rw [e]; rfl
  have hm : (css.map hdOf).map Enc.enc = css := by
    rw [List.map_map]
    exact (List.map_congr_left key).trans (List.map_id _)
  refine ⟨css.map hdOf, by rw [List.length_map, h0.1], fun w' he => ?_, fun w' he j hj => ?_⟩
  · have := (h1 w' he).1
    unfold RowE
    rw [hm]; exact this
  · have hj2 : j < css.length := by rw [h0.1]; exact hj
    obtain ⟨ao', b', off', cap', e, hr⟩ := (h1 w' he).2.2 j css[j] all[j] (by simp [hj2]) (by simp [hj])
    have e2 : (css.map hdOf).getD j default = ⟨ao', all[j].length, cap'⟩ := by
      have e3 : (css.map hdOf).getD j default = hdOf css[j] := by simp [List.getD, hj2]
      rw [e3, e]; rfl
    have e4 : all.getD j default = all[j] := by simp [List.getD, hj]
    rw [e2, e4]
    exact ⟨b', off', hr, rfl⟩
theorem own_rowS {α : Type} [Enc α] {w : World} {base : Nat} {E : TypeId} {ao : Option Addr} {len cap : Nat} {l : List α} {X : List Nat} (h : OwnE w base E (.slice ao len cap) l) (hX : ∀ g, (Value.slice ao len cap).ownBlock = some g → g ∉ X) : ∃ g, ∀ w', Evo w w' X → RowE w' ao g 0 cap l := by
  obtain ⟨_, g, h2, h3⟩ := h.row_of
  exact ⟨g, fun w' he => row_keep h2 he (fun hne => hX g (h3 hne).1)⟩
theorem hq_rows {w : World} {ao : Option Addr} {b off cap : Nat} {q : List Item} {H : List Hdr} {al : List (List Item)} (hq : RowE w ao b off cap q) (he : ∀ j, j < al.length → HRow w (H.getD j default) (al.getD j default)) : ∀ j, j < (q :: al).length → HRow w (([(⟨ao, q.length, cap⟩ : Hdr)] ++ H).getD j default) ((q :: al).getD j default)
  | 0, _ => ⟨b, off, hq, rfl⟩
  | j + 1, h => he j (by simpa using h)
end Go.Vc
namespace Go.Proofs.YthbcklajlmcifaaGreat
open Go Go.RowKit Go.Vc
abbrev Told := List (Int × Nat)
def stH (H : List Hdr) (S : Told) : List SV := S.map fun x => ⟨x.1, (H.getD x.2 default).ao, (H.getD x.2 default).len, (H.getD x.2 default).cap⟩
def stA (all : List (List Vc.Item)) (S : Told) : Stored := S.map fun x => (x.1, all.getD x.2 default)
def OkS (n : Nat) (S : Told) : Prop := (∀ x ∈ S, x.2 < n) ∧ (S.map (·.1)).Nodup
theorem OkS.nil {n : Nat} : OkS n [] := ⟨by simp, by simp⟩
theorem stH_len (H : List Hdr) (S : Told) : (stH H S).length = S.length := List.length_map _
theorem stA_len (all : List (List Vc.Item)) (S : Told) : (stA all S).length = S.length := List.length_map _
theorem stA_ids (all : List (List Vc.Item)) (S : Told) : (stA all S).map (·.1) = S.map (·.1) := by unfold stA; rw [List.map_map]; rfl
theorem stH_id {H : List Hdr} {S : Told} {k : Nat} (hk : k < S.length) : ((stH H S).getD k default).id = (S.getD k default).1 := by simp [stH, List.getD, hk]
theorem stH_at {H : List Hdr} {S : Told} {k : Nat} (hk : k < S.length) : (stH H S).getD k default = ⟨(S.getD k default).1, (H.getD (S.getD k default).2 default).ao, (H.getD (S.getD k default).2 default).len, (H.getD (S.getD k default).2 default).cap⟩ := by simp [stH, List.getD, hk]
theorem stA_mem {all : List (List Vc.Item)} {S : Told} {n : Nat} (h : OkS n S) (hn : n ≤ all.length) {q : Int × List Vc.Item} (hq : q ∈ stA all S) : q.2 ∈ all := by
  obtain ⟨x, hx, rfl⟩ := List.mem_map.1 hq
  have := h.1 x hx
  exact getD_in (show x.2 < all.length by omega)
def atK (S : Told) (id : Int) : Nat → Int
  | 0 => -1
  | k + 1 => if (S.getD k default).1 = id then (k : Int) else atK S id k
theorem atK_yes {S : Told} {id : Int} {k : Nat} (h : (S.getD k default).1 = id) : (k : Int) = atK S id (k + 1) := (if_pos h).symm
theorem atK_no {S : Told} {id : Int} {k : Nat} (h : ¬ (S.getD k default).1 = id) : atK S id k = atK S id (k + 1) := (if_neg h).symm
theorem atK_bd (S : Told) (id : Int) : ∀ k : Nat, -1 ≤ atK S id k ∧ atK S id k < (k : Int)
  | 0 => by unfold atK; omega
  | k + 1 => by
    have := atK_bd S id k
    unfold atK
    by_cases h : (S.getD k default).1 = id
    · rw [if_pos h]; omega
    · rw [if_neg h]; omega
theorem atK_id {S : Told} {id : Int} : ∀ {k : Nat}, 0 ≤ atK S id k → (S.getD (atK S id k).toNat default).1 = id
  | 0, h => by unfold atK at h; omega
  | k + 1, h => by
    unfold atK at h ⊢
    by_cases h2 : (S.getD k default).1 = id
    · rw [if_pos h2]; simpa using h2
    · rw [if_neg h2] at h ⊢; exact atK_id h
theorem atK_none {S : Told} {id : Int} : ∀ {k : Nat}, k ≤ S.length → atK S id k < 0 → id ∉ (S.take k).map (·.1)
  | 0, _, _ => by simp
  | k + 1, hk, h => by
    have h1 := h
    unfold atK at h1
    by_cases h2 : (S.getD k default).1 = id
    · rw [if_pos h2] at h1; omega
    · rw [if_neg h2] at h1
      have ih := atK_none (by omega) h1
      rw [take_succD S k (by omega), List.map_append, List.mem_append]
      rintro (h3 | h3)
      · exact ih h3
      · have h4 : id = (S.getD k default).1 := by simpa using h3
        exact h2 h4.symm
theorem atK_iff {S : Told} {id : Int} : 0 ≤ atK S id S.length ↔ id ∈ S.map (·.1) := by
  have hb := atK_bd S id S.length
  constructor
  · intro h
    have h1 := atK_id h
    have h2 := getD_in (l := S) (k := (atK S id S.length).toNat) (by omega)
    rw [← h1]
    exact List.mem_map_of_mem h2
  · intro h
    refine Classical.byContradiction fun h2 => ?_
    have h3 := atK_none (Nat.le_refl S.length) (by omega : atK S id S.length < 0)
    rw [List.take_of_length_le (Nat.le_refl _)] at h3
    exact h3 h
def cutS (S : Told) (j : Nat) : Told := S.take j ++ S.drop (j + 1)
theorem split_at {S : Told} {j : Nat} (hj : j < S.length) : S = S.take j ++ S.getD j default :: S.drop (j + 1) := by
  have e : S.getD j default = S[j] := by simp [List.getD, hj]
  rw [e, List.getElem_cons_drop, List.take_append_drop]
theorem cut_ok {n : Nat} {S : Told} {j : Nat} (h : OkS n S) (hj : j < S.length) : OkS n (cutS S j) := by
  have hs : (cutS S j).Sublist S := by
    have e := split_at hj
    unfold cutS
    conv => rhs; rw [e]
    exact List.Sublist.append (List.Sublist.refl _) (List.sublist_cons_self _ _)
  exact ⟨fun x hx => h.1 x (hs.subset hx), List.Sublist.nodup (hs.map _) h.2⟩
theorem cut_without {all : List (List Vc.Item)} {n : Nat} {S : Told} {j : Nat} {id : Int} (h : OkS n S) (hj : j < S.length) (hid : (S.getD j default).1 = id) : without (stA all S) id = stA all (cutS S j) := by
  have e := split_at hj
  have hn := h.2
  rw [e, List.map_append, List.map_cons, hid] at hn
  have hn2 := List.nodup_append.1 hn
  have h1 : ∀ x ∈ S.take j, ¬ x.1 = id := fun x hx e9 => hn2.2.2 x.1 (List.mem_map_of_mem hx) id List.mem_cons_self e9
  have h2 : ∀ x ∈ S.drop (j + 1), ¬ x.1 = id := fun x hx e9 => (List.nodup_cons.1 hn2.2.1).1 (e9 ▸ List.mem_map_of_mem hx)
  have key : ∀ L : Told, (∀ x ∈ L, ¬ x.1 = id) → without (stA all L) id = stA all L := fun L hL => without_no (by
    rw [stA_ids]
    intro h9
    obtain ⟨x, hx, e9⟩ := List.mem_map.1 h9
    exact hL x hx e9)
  have e3 : stA all S = stA all (S.take j) ++ (id, all.getD (S.getD j default).2 default) :: stA all (S.drop (j + 1)) := by
    conv => lhs; rw [e]
    unfold stA
    rw [List.map_append, List.map_cons, hid]
  rw [e3]
  unfold without at key ⊢
  rw [List.filter_append, List.filter_cons_of_neg (by simp), key _ h1, key _ h2]
  unfold cutS stA
  rw [List.map_append]
theorem cut_stH {H : List Hdr} {S : Told} {j : Nat} : (stH H S).take j ++ (stH H S).drop (j + 1) = stH H (cutS S j) := by
  unfold stH cutS
  rw [List.map_append, List.map_take, List.map_drop]
theorem cutS_len {S : Told} {j : Nat} (hj : j < S.length) : (cutS S j).length + 1 = S.length := by
  unfold cutS
  rw [List.length_append, List.length_take, List.length_drop]; omega
theorem add_ok {n : Nat} {S : Told} {id : Int} {j : Nat} (h : OkS n S) (hid : id ∉ S.map (·.1)) (hj : j < n) : OkS n (S ++ [(id, j)]) := by
  refine ⟨fun x hx => ?_, ?_⟩
  · rcases List.mem_append.1 hx with h1 | h1
    · exact h.1 x h1
    · have e : x = (id, j) := by simpa using h1
      rw [e]; exact hj
  · rw [List.map_append]
    exact List.nodup_append.2 ⟨h.2, by simp, fun a ha b hb e => by
      have e2 : b = id := by simpa using hb
      exact hid (e2 ▸ e ▸ ha)⟩
theorem add_stA {all : List (List Vc.Item)} {S : Told} {id : Int} {j : Nat} : stA all S ++ [(id, all.getD j default)] = stA all (S ++ [(id, j)]) := by unfold stA; rw [List.map_append]; rfl
theorem add_stH {H : List Hdr} {S : Told} {id : Int} {j : Nat} {ao : Option Addr} {n cap : Nat} (h : H.getD j default = ⟨ao, n, cap⟩) : stH H S ++ [⟨id, ao, n, cap⟩] = stH H (S ++ [(id, j)]) := by unfold stH; rw [List.map_append, List.map_singleton, h]
theorem told_ok {all : List (List Vc.Item)} {S : Told} {id : Int} (hl : S.length < 1024) : addOk (stA all S) id ↔ atK S id S.length < 0 := by
  unfold addOk
  rw [stA_ids, stA_len, ← atK_iff]; omega
theorem told_in {all : List (List Vc.Item)} {S : Told} {id : Int} : id ∈ (stA all S).map (·.1) ↔ 0 ≤ atK S id S.length := by rw [stA_ids, atK_iff]
theorem candR_nil {l : List Vc.Item} {p : Int} : CandR [] l p [] := ⟨List.Perm.refl _, List.Pairwise.nil⟩
theorem candR_ins {A : Stored} {l : List Vc.Item} {p : Int} {r : List Int} {id : Int} {t : List Vc.Item} {k : Nat} (h : CandR A l p r) (hs : boundL l t ≤ allowL (max (totT l) (totT t)) p) (hk : k ≤ r.length) (h1 : ∀ j, j < k → r.getD j default < id) (h2 : k < r.length → ¬ r.getD k default < id) : CandR (A ++ [(id, t)]) l p (r.take k ++ ([id] ++ r.drop k)) := by
  have hd : r.take k ++ r.drop k = r := List.take_append_drop k r
  refine ⟨?_, ?_⟩
  · have hsel : selA l p (id, t) = true := decide_eq_true hs
    rw [List.filter_append, List.filter_cons_of_pos hsel, List.map_append]
    refine List.Perm.trans ?_ ((h.1.append_right [id]))
    conv => rhs; rw [← hd]
    rw [List.append_assoc]
    exact List.Perm.append_left _ List.perm_append_comm
  · have hp := h.2
    rw [← hd] at hp
    have hp2 := List.pairwise_append.1 hp
    have low : ∀ x ∈ r.take k, x < id := fun x hx => by
      obtain ⟨i, hi, rfl⟩ := List.getElem_of_mem hx
      have hi2 : i < k := by rw [List.length_take] at hi; omega
      have := h1 i hi2
      have e : r.getD i default = (r.take k)[i] := by rw [List.getElem_take]; simp [List.getD, show i < r.length by omega]
      rw [← e]; exact this
    have high : ∀ x ∈ r.drop k, id ≤ x := fun x hx => by
      rcases Nat.lt_or_ge k r.length with hkl | hkl
      · have h3 := h2 hkl
        have e : r.drop k = r.getD k default :: r.drop (k + 1) := by
          have e9 : r.getD k default = r[k] := by simp [List.getD, hkl]
          rw [e9, List.getElem_cons_drop]
        have hp3 := hp2.2.1
        rw [e] at hp3 hx
        have h4 := (List.pairwise_cons.1 hp3).1
        rcases List.mem_cons.1 hx with h5 | h5
        · omega
        · have := h4 x h5; omega
      · rw [List.drop_eq_nil_of_le hkl] at hx; cases hx
    refine List.pairwise_append.2 ⟨hp2.1, List.pairwise_cons.2 ⟨high, hp2.2.1⟩, fun a ha b hb => ?_⟩
    have ha2 := low a ha
    rcases List.mem_cons.1 hb with h5 | h5
    · omega
    · have := high b h5; omega
theorem candR_skip {A : Stored} {l : List Vc.Item} {p : Int} {r : List Int} {id : Int} {t : List Vc.Item} (h : CandR A l p r) (hs : allowL (max (totT l) (totT t)) p < boundL l t) : CandR (A ++ [(id, t)]) l p r := by
  refine ⟨?_, h.2⟩
  rw [List.filter_append, List.filter_cons_of_neg (p := selA l p) (by unfold selA; simp; omega)]
  simpa using h.1
theorem stA_snoc {all : List (List Vc.Item)} {S : Told} {i : Nat} (h : i < S.length) : stA all (S.take (i + 1)) = stA all (S.take i) ++ [((S.getD i default).1, all.getD (S.getD i default).2 default)] := by
  rw [take_succD S i h]; unfold stA; rw [List.map_append]; rfl
theorem stH_enc {H : List Hdr} {S : Told} {i : Nat} {t : List Vc.Item} (h : i < S.length) (hn : (H.getD (S.getD i default).2 default).len = t.length) : Enc.enc ((stH H S).getD i default) = [.int .i64 (S.getD i default).1, .slice (H.getD (S.getD i default).2 default).ao t.length (H.getD (S.getD i default).2 default).cap] := by
  rw [stH_at h]
  show [Value.int .i64 (S.getD i default).1, Value.slice (H.getD (S.getD i default).2 default).ao (H.getD (S.getD i default).2 default).len (H.getD (S.getD i default).2 default).cap] = _
  rw [hn]
theorem candR_same {A : Stored} {l : List Vc.Item} {p : Int} {r r' : List Int} (h : CandR A l p r) (h' : CandR A l p r') : r = r' := candR_eq h h' (List.Perm.refl _)
theorem candR_le {A : Stored} {l : List Vc.Item} {p : Int} {r : List Int} (h : CandR A l p r) : r.length ≤ A.length := by rw [candR_len h]; exact List.length_filter_le _ _
end Go.Proofs.YthbcklajlmcifaaGreat
namespace Go.Proofs.YthbcklajlmcifaaGreat
open Go.RowKit Go.Vc
theorem ag_57 : aggP Tryz.prog 57 = some true := by kernel_rfl
theorem fo_57_0 : fieldP Tryz.prog 57 0 = some 0 := by kernel_rfl
theorem fo_57_1 : fieldP Tryz.prog 57 1 = some 1 := by kernel_rfl
theorem ty_57 : tyP Tryz.prog 57 = some (2, 32, some (.agg #[(.int .i64 0), (.slice none 0 0)])) := by kernel_rfl
theorem rallowed_calls {t p : Int} {w0 : World}  :
    Calls Tryz.prog 26 #[.int .i64 t, .int .i64 p] w0 fun e w' => e = .returned (.int .i64 (allowL t p)) ∧ Evo w0 w' [] := by
 refine calls_enter (n := 21) (args := [.int .i64 t, .int .i64 p]) Tryz.func26 rfl Tryz.ntmps26 rfl ?_
 have hV : Evo w0 w0 [] := Evo.refl _ _
 refine r_seq ?_
 refine r_region ?_
 refine r_op rfl rfl rfl (run_asg (v := .int _ _) rfl (by exact rfl)) ?_
 refine r_nil ?_
 refine r_seq ?_
 refine r_block ?_
 refine r_seq ?_
 refine r_region ?_
 refine r_op rfl rfl rfl (run_mv (v := .int _ _) rfl (by exact rfl)) ?_
 refine r_op rfl rfl rfl (run_gtr rfl (by exact rfl) (by exact rfl)) ?_
 refine r_op rfl rfl rfl (run_asg (v := .bool _) rfl (by exact rfl)) ?_
 refine r_nil ?_
 refine r_cond (by exact rfl) (fun hc1 => ?_) (fun hc1 => ?_)
 ·skip
  refine r_seq ?_
  refine r_region ?_
  refine r_op rfl rfl rfl (run_asg (v := .int _ _) rfl (by exact rfl)) ?_
  refine r_nil ?_
  refine r_ret (res1 (v := .int _ _) rfl (by exact rfl)) ?_
  exact ⟨ret_int (allow_a (by omega)), hV⟩
 ·skip
  refine r_seq ?_
  refine r_region ?_
  refine r_op rfl rfl rfl (run_mv (v := .int _ _) rfl (by exact rfl)) ?_
  refine r_op rfl rfl rfl (run_lss rfl (by exact rfl) (by exact rfl)) ?_
  refine r_op rfl rfl rfl (run_mv (v := .bool _) rfl (by exact rfl)) ?_
  refine r_g rfl (wantF (by exact rfl)) rfl (fun hg => run_mv (v := .int _ _) rfl (by exact rfl)) ?_
  refine r_g rfl (wantF (by exact rfl)) rfl (fun hg => run_lss rfl (glv (by exact rfl) (fun h => h) hg) (by exact rfl)) ?_
  refine r_op rfl rfl rfl (run_pick_or rfl (by exact rfl) rfl (fun hq => glv (by exact rfl) (fun h => h) hq)) ?_
  refine r_op rfl rfl rfl (run_asg (v := .bool _) rfl (by exact rfl)) ?_
  refine r_nil ?_
  refine r_cond (by exact rfl) (fun hc2 => ?_) (fun hc2 => ?_)
  ·skip
   refine r_seq ?_
   refine r_region ?_
   refine r_op rfl rfl rfl (run_asg (v := .int _ _) rfl (by exact rfl)) ?_
   refine r_nil ?_
   refine r_ret (res1 (v := .int _ _) rfl (by exact rfl)) ?_
   exact ⟨ret_int (allow_b (by omega) (by omega)), hV⟩
  ·skip
   refine r_skip ?_
   refine r_blk ?_
   refine r_seq ?_
   have hmu := allow_mul (t := t) (p := p) (by omega) (by omega); have htd := Int.tdiv_eq_ediv_of_nonneg (b := 100) hmu.1
   refine r_region ?_
   refine r_op rfl rfl rfl (run_mv (v := .int _ _) rfl (by exact rfl)) ?_
   refine r_op rfl rfl rfl (run_min rfl (by exact rfl) (by exact rfl)) ?_
   refine r_op rfl rfl rfl (run_mv (v := .int _ _) rfl (by exact rfl)) ?_
   refine r_op rfl rfl rfl (run_sub rfl (by exact rfl) (by exact rfl) (by omega) (by omega)) ?_
   refine r_op rfl rfl rfl (run_mul rfl (by exact rfl) (by exact rfl) (by omega) (by omega)) ?_
   refine r_op rfl rfl rfl (run_quo rfl (by exact rfl) (by exact rfl) (by omega) (by omega) (by omega)) ?_
   refine r_op rfl rfl rfl (run_asg (v := .int _ _) rfl (by exact rfl)) ?_
   refine r_nil ?_
   refine r_ret (res1 (v := .int _ _) rfl (by exact rfl)) ?_
   exact ⟨ret_int (allow_c (by omega) (by omega)), hV⟩
theorem small15_calls {ao : Option Addr} {b off cap : Nat} {l : List Vc.Item} {n : Int} {w0 : World} (hl : RowE w0 ao b off cap l) (hT : ∀ k, (l.getD k default).text.length ≤ 140737488355328) (hn : n ≤ 60) :
    Calls Tryz.prog 4 #[.slice ao l.length cap, .int .i64 n] w0 fun e w' => ∃ x, e = .returned (.bool x) ∧ (x = true → (l.length : Int) ≤ n ∧ fLen l ≤ 300) ∧ Evo w0 w' [] := by
 refine calls_enter (n := 29) (args := [.slice ao l.length cap, .int .i64 n]) Tryz.func4 rfl Tryz.ntmps4 rfl ?_
 have hV : Evo w0 w0 [] := Evo.refl _ _
 have hl0 := keepE hl
 have hbd_hl := hl.bd
 refine r_seq ?_
 refine r_region ?_
 refine r_op rfl rfl rfl (run_asg (v := .bool _) rfl (by exact rfl)) ?_
 refine r_nil ?_
 refine r_seq ?_
 refine r_region ?_
 refine r_op rfl rfl rfl (run_asg (v := .int _ _) rfl (by exact rfl)) ?_
 refine r_nil ?_
 refine r_seq ?_
 refine r_seq ?_
 refine r_region ?_
 refine r_op rfl rfl rfl (run_mv (v := .slice _ _ _) rfl (by exact rfl)) ?_
 refine r_op rfl rfl rfl (run_lenSl rfl (by exact rfl) Tryz.underlying23) ?_
 refine r_op rfl rfl rfl (run_mv (v := .int _ _) rfl (by exact rfl)) ?_
 refine r_nil ?_
 refine r_block ?_
 refine r_loop (α := Nat) [5, 6, 9, 10, 11, 12, 13, 14, 15, 16, 17, 18, 19, 20] (fun k g w => ∃ z : Int, g 9 = .int .i64 (k : Nat) ∧ g 5 = .int .i64 z ∧ k ≤ l.length ∧ (k ≤ 60 → z = (fLen (l.take k) : Nat) ∧ z ≤ 140737488355328 * (k : Int)) ∧ w0.heap.size ≤ w.heap.size ∧ Evo w0 w []) (fun k => l.length - k) 0 ?_ ?_
 ·refine ⟨0, (by first | exact rfl | exact congrArg (Value.int _) (by omega) | exact congrArg (Value.int _) (by dsimp only; omega) | exact congrArg (Value.int _) (by simp) | exact congrArg S (by simp)), (by first | exact rfl | exact congrArg (Value.int _) (by omega) | exact congrArg (Value.int _) (by dsimp only; omega) | exact congrArg (Value.int _) (by simp) | exact congrArg S (by simp)), (by first | assumption | omega | (dsimp only; omega) | (simp; done)), (fun _ => ⟨rfl, by omega⟩), (by first | assumption | omega | (dsimp only; omega) | (simp; done)), hV⟩
 ·rintro k g w2 ⟨z, hj3, hj4, hk_k, hz, hzl1, hV⟩
  have hs_w2hV := hV.size
  replace hl := hl0 _ hV
  refine r_know (i := 9) (v := .int .i64 (k : Nat)) (by exact hj3) ?_
  refine r_know (i := 5) (v := .int .i64 z) (by exact hj4) ?_
  refine r_seq ?_
  refine r_region ?_
  refine r_op rfl rfl rfl (run_lss rfl (by exact rfl) (by exact rfl)) ?_
  refine r_nil ?_
  refine r_seq ?_
  refine r_cond (by exact rfl) (fun hc5 => ?_) (fun hc5 => ?_)
  ·skip
   refine r_skip ?_
   refine r_seq ?_
   refine r_block ?_
   refine r_seq ?_
   refine r_region ?_
   refine r_op rfl rfl rfl (run_mv (v := .int _ _) rfl (by exact rfl)) ?_
   refine r_op rfl rfl rfl (run_asg (v := .int _ _) rfl (by exact rfl)) ?_
   refine r_nil ?_
   have hb4 := hT k; have hb2 := fLen_takeS (l := l) (k := k) (by omega)
   refine r_region ?_
   refine r_op rfl rfl rfl (run_mv (v := .int _ _) rfl (by exact rfl)) ?_
   refine r_op rfl rfl rfl (run_mv (v := .slice _ _ _) rfl (by exact rfl)) ?_
   refine r_op rfl rfl rfl (run_mv (v := .int _ _) rfl (by exact rfl)) ?_
   refine r_op rfl rfl rfl (run_ix (k) rfl Tryz.underlying23 ty_43 (by exact rfl) (by exact rfl) (by first | exact rfl | omega) (by omega) (hl.addr (i := k) (by omega))) ?_
   have hA60 := fun (w' : World) (h : Evo w0 w' []) => (hl0 w' h).atD (k) (by omega)
   have hA6 := hA60 _ hV
   refine r_op rfl rfl rfl (run_fa rfl (by exact rfl) fo_43_1) ?_
   refine r_op rfl rfl rfl (run_ld1 rfl ag_9 (by exact rfl) (hA6.cell 1 (by exact rfl))) ?_
   refine r_op rfl rfl rfl (run_lenS rfl (by exact rfl) Tryz.underlying9) ?_
   refine r_op rfl rfl rfl (run_addw rfl (by exact rfl) (by exact rfl)) ?_
   refine r_op rfl rfl rfl (run_asg (v := .int _ _) rfl (by exact rfl)) ?_
   refine r_nil ?_
   refine r_blk ?_
   refine r_region ?_
   refine r_op rfl rfl rfl (run_add rfl (by exact rfl) (by exact rfl) (by omega) (by omega)) ?_
   refine r_op rfl rfl rfl (run_mv (v := .int _ _) rfl (by exact rfl)) ?_
   refine r_nil ?_
   refine r_again (k + 1) ?_ ?_ ?_
   ·first | omega | (dsimp only; omega)
   ·refine ⟨_, (by first | exact rfl | exact congrArg (Value.int _) (by omega) | exact congrArg (Value.int _) (by dsimp only; omega) | exact congrArg (Value.int _) (by simp) | exact congrArg S (by simp)), rfl, (by first | assumption | omega | (dsimp only; omega) | (simp; done)), (fun h => by have := hz (by omega); rw [wrap_in (by omega) (by omega), hb2]; omega), (by first | assumption | omega | (dsimp only; omega) | (simp; done)), hV⟩
   ·repeat (first | (with_reducible exact Agree.merge _ _ _) | (with_reducible exact Agree.refl _ _) | (with_reducible refine Agree.upd ?_ _ _ rfl) | ((with_reducible refine Agree.inner ?_ ?_); (kernel_rfl)))
  ·skip
   refine r_exit rfl ?_
   refine r_seq ?_
   refine r_region ?_
   refine r_op rfl rfl rfl (run_mv (v := .slice _ _ _) rfl (by exact rfl)) ?_
   refine r_op rfl rfl rfl (run_lenSl rfl (by exact rfl) Tryz.underlying23) ?_
   refine r_op rfl rfl rfl (run_mv (v := .int _ _) rfl (by exact rfl)) ?_
   refine r_op rfl rfl rfl (run_leq rfl (by exact rfl) (by exact rfl)) ?_
   refine r_op rfl rfl rfl (run_mv (v := .bool _) rfl (by exact rfl)) ?_
   refine r_g rfl (wantT (by exact rfl)) rfl (fun hg => run_mv (v := .int _ _) rfl (by exact rfl)) ?_
   refine r_g rfl (wantT (by exact rfl)) rfl (fun hg => run_leq rfl (glv (by exact rfl) (fun h => h) hg) (by exact rfl)) ?_
   refine r_op rfl rfl rfl (run_pick_and rfl (by exact rfl) (fun hq => glv (by exact rfl) (fun h => h) hq) rfl) ?_
   refine r_op rfl rfl rfl (run_asg (v := .bool _) rfl (by exact rfl)) ?_
   refine r_nil ?_
   refine r_ret (res1 (v := .bool _) rfl (by exact rfl)) ?_
   exact ⟨_, rfl, fun h => by have h9 := of_decide_eq_true h; have := hz (by omega); rw [List.take_of_length_le (by omega)] at this; omega, hV⟩
set_option maxHeartbeats 1000000 in
theorem rcand_calls {aos : Option Addr} {bs offs caps : Nat} {S : Told} {H : List Hdr} {all : List (List Vc.Item)} {ao : Option Addr} {b off cap : Nat} {l : List Vc.Item} {percent : Int} {w0 : World} (hst : RowE w0 aos bs offs caps (stH H S)) (hl : RowE w0 ao b off cap l) (he : ∀ w', Evo w0 w' [] → ∀ j, j < all.length → HRow w' (H.getD j default) (all.getD j default)) (hS : OkS all.length S) (hSl : S.length ≤ 1000) (hb9 : ∀ t ∈ all, t.length ≤ 10000 ∧ ∀ x ∈ t, x.text.length ≤ 140737488355328) (hq : ∀ x ∈ l, x.text.length ≤ 140737488355328) (hs : l.length ≤ 10000) :
    Calls Tryz.prog 13 #[.slice aos (stH H S).length caps, .slice ao l.length cap, .int .i64 percent] w0 fun e w' => ∃ v r, e = .returned v ∧ Evo w0 w' [] ∧ OwnE w' w0.heap.size 3 v r ∧ CandR (stA all S) l percent r := by
 refine calls_enter (n := 59) (args := [.slice aos (stH H S).length caps, .slice ao l.length cap, .int .i64 percent]) Tryz.func13 rfl Tryz.ntmps13 rfl ?_
 have hV : Evo w0 w0 [] := Evo.refl _ _
 have hst0 := keepE hst
 have hbd_hst := hst.bd
 have hl0 := keepE hl
 have hbd_hl := hl.bd
 refine r_seq ?_
 refine r_region ?_
 refine r_op rfl rfl rfl (run_asg (v := .slice _ _ _) rfl (by exact rfl)) ?_
 refine r_nil ?_
 refine r_seq ?_
 refine r_region ?_
 refine r_op rfl rfl rfl (run_asg (v := .slice _ _ _) rfl (by exact rfl)) ?_
 refine r_nil ?_
 refine r_seq ?_
 refine r_seq ?_
 refine r_region ?_
 refine r_op rfl rfl rfl (run_mv (v := .slice _ _ _) rfl (by exact rfl)) ?_
 refine r_op rfl rfl rfl (run_lenSl rfl (by exact rfl) Tryz.underlying30) ?_
 refine r_op rfl rfl rfl (run_mv (v := .int _ _) rfl (by exact rfl)) ?_
 refine r_nil ?_
 refine r_block ?_
 refine r_loop (α := Nat) [7, 9, 10, 11, 14, 15, 16, 17, 18, 19, 20, 21, 22, 23, 24, 25, 26, 27, 28, 29, 30, 31, 32, 33, 34, 35, 36, 37, 38, 39, 40, 41, 42, 43, 44, 45, 46, 47, 48, 49, 50, 51, 52, 53, 54, 55, 56, 57] (fun i g w => ∃ vo : Value, ∃ r : List Int, g 14 = .int .i64 (i : Nat) ∧ g 7 = vo ∧ i ≤ (stH H S).length ∧ OwnE w w0.heap.size 3 vo r ∧ CandR (stA all (S.take i)) l percent r ∧ w0.heap.size ≤ w.heap.size ∧ Evo w0 w []) (fun i => (stH H S).length - i) 0 ?_ ?_
 ·refine ⟨_, [], (by first | exact rfl | exact congrArg (Value.int _) (by omega) | exact congrArg (Value.int _) (by dsimp only; omega) | exact congrArg (Value.int _) (by simp) | exact congrArg S (by simp)), rfl, (by first | assumption | omega | (dsimp only; omega) | (simp; done)), (OwnE.nil _ _ _), candR_nil, (by first | assumption | omega | (dsimp only; omega) | (simp; done)), hV⟩
 ·rintro i g w2 ⟨vo, r, hj3, hj4, hk_i, hoo, hcr, hzl1, hV⟩
  have hs_w2hV := hV.size
  replace hst := hst0 _ hV
  replace hl := hl0 _ hV
  refine r_know (i := 14) (v := .int .i64 (i : Nat)) (by exact hj3) ?_
  refine r_know (i := 7) (v := vo) (by exact hj4) ?_
  have hcl := candR_le hcr; have hSk := stA_len all (S.take i); have hStk := List.length_take_le i S
  refine r_seq ?_
  refine r_region ?_
  refine r_op rfl rfl rfl (run_lss rfl (by exact rfl) (by exact rfl)) ?_
  refine r_nil ?_
  refine r_seq ?_
  refine r_cond (by exact rfl) (fun hc5 => ?_) (fun hc5 => ?_)
  ·skip
   refine r_skip ?_
   refine r_seq ?_
   refine r_block ?_
   refine r_seq ?_
   have hobO := fun g hg => (hoo.block (g := g) hg).2
   refine r_region ?_
   refine r_op rfl rfl rfl (run_ix (i) rfl Tryz.underlying30 ty_57 (by exact rfl) (by exact rfl) (by first | exact rfl | omega) (by omega) (hst.addr (i := i) (by omega))) ?_
   have hA60 := fun (w' : World) (h : Evo w0 w' []) => (hst0 w' h).atD (i) (by omega)
   have hA6 := hA60 _ hV
   refine r_op rfl rfl rfl (run_ldN rfl ag_57 ty_57 (by exact rfl) rfl hA6) ?_
   have hob7 := fun g hg => (hoo.block (g := g) hg).2
   refine r_var (zs := [_, _]) (vs := [_, _]) ty_57 (by exact rfl) rfl (by exact rfl) (fun _ => rfl) (by exact rfl) rfl rfl (by exact rfl) ?_
   intro b8 w9 heb8 hEw9 hbb8 hzb8
   have hs_w9 := (hEw9).size
   replace hV := evo_step0 hV hEw9
   replace hst := hst0 _ hV
   replace hl := hl0 _ hV
   replace hoo := hoo.evo0 hEw9
   have hAb8 := hbb8.at
   refine r_nil ?_
   refine r_seq ?_
   refine r_seq ?_
   have hi9 : i < S.length := by rw [← stH_len H S]; omega
   obtain ⟨b9, o9, hr9, hn9⟩ := he _ hV (S.getD i default).2 (hS.1 _ (getD_in hi9)); have hbt := hb9 _ (getD_in (hS.1 _ (getD_in hi9)))
   replace hbb8 : Blk w9 b8 57 [.int .i64 (S.getD i default).1, .slice (H.getD (S.getD i default).2 default).ao (all.getD (S.getD i default).2 default).length (H.getD (S.getD i default).2 default).cap] := by rw [← stH_enc hi9 hn9]; exact hbb8
   replace hAb8 : At w9 b8 0 [.int .i64 (S.getD i default).1, .slice (H.getD (S.getD i default).2 default).ao (all.getD (S.getD i default).2 default).length (H.getD (S.getD i default).2 default).cap] := by rw [← stH_enc hi9 hn9]; exact hAb8
   refine r_qregion (by kernel_rfl) (by kernel_rfl) ?_
   refine q_op rfl rfl rfl (fun w' hC => run_mv (v := .slice _ _ _) rfl (by exact rfl)) ?_
   refine q_op rfl rfl rfl (fun w' hC => run_fa rfl (by exact rfl) fo_57_1) ?_
   refine q_op rfl rfl rfl (fun w' hC => run_ld1 rfl ag_23 (by exact rfl) ((hAb8.evo0 hC).cell 1 (by exact rfl))) ?_
   refine q_call rfl rfl rfl (fun w' hC => run_callf rfl (argcons (v := .slice _ _ _) (by exact rfl) (argcons (v := .slice (H.getD (S.getD i default).2 default).ao (all.getD (S.getD i default).2 default).length (H.getD (S.getD i default).2 default).cap) (by exact rfl) (rfl))) Tryz.func25 rfl (by kernel_rfl)) (fun w' hC => (rbound_calls (hl.evo0 hC) (hr9.evo0 hC) hq hbt.2 (by omega) (by omega)).mono (fun e w'' h => ⟨h.1, evo_step0 hC h.2⟩)) ?_
   refine q_op rfl rfl rfl (fun w' hC => run_mv (v := .slice _ _ _) rfl (by exact rfl)) ?_
   refine q_op rfl rfl rfl (fun w' hC => run_fa rfl (by exact rfl) fo_57_1) ?_
   refine q_op rfl rfl rfl (fun w' hC => run_ld1 rfl ag_23 (by exact rfl) ((hAb8.evo0 hC).cell 1 (by exact rfl))) ?_
   refine q_call rfl rfl rfl (fun w' hC => run_callf rfl (argcons (v := .slice _ _ _) (by exact rfl) (argcons (v := .slice (H.getD (S.getD i default).2 default).ao (all.getD (S.getD i default).2 default).length (H.getD (S.getD i default).2 default).cap) (by exact rfl) (rfl))) Tryz.func27 rfl (by kernel_rfl)) (fun w' hC => (rboth_calls (hl.evo0 hC) (hr9.evo0 hC) (by omega) (by omega)).mono (fun e w'' h => ⟨h.1, evo_step0 hC h.2⟩)) ?_
   refine q_op rfl rfl rfl (fun w' hC => run_mv (v := .int _ _) rfl (by exact rfl)) ?_
   refine q_call rfl rfl rfl (fun w' hC => run_callf rfl (argcons (v := .int _ _) (by exact rfl) (argcons (v := .int _ _) (by exact rfl) (rfl))) Tryz.func26 rfl (by kernel_rfl)) (fun w' hC => (rallowed_calls ).mono (fun e w'' h => ⟨h.1, evo_step0 hC h.2⟩)) ?_
   refine q_op rfl rfl rfl (fun w' hC => run_gtr rfl (by exact rfl) (by exact rfl)) ?_
   refine q_nil (fun w10 hE11 => ?_)
   have hs_w10 := (hE11).size
   replace hV := evo_step0 hV hE11
   replace hst := hst0 _ hV
   replace hl := hl0 _ hV
   replace hoo := hoo.evo0 hE11
   replace hbb8 := hbb8.evo0 hE11
   replace hAb8 := hAb8.evo0 hE11
   replace hr9 := hr9.evo0 hE11
   refine r_cond (by exact rfl) (fun hc12 => ?_) (fun hc12 => ?_)
   ·skip
    refine r_exit rfl ?_
    refine r_region ?_
    refine r_op rfl rfl rfl (run_add rfl (by exact rfl) (by exact rfl) (by omega) (by omega)) ?_
    refine r_op rfl rfl rfl (run_mv (v := .int _ _) rfl (by exact rfl)) ?_
    refine r_nil ?_
    refine r_again (i + 1) ?_ ?_ ?_
    ·first | omega | (dsimp only; omega)
    ·refine ⟨_, _, (by first | exact rfl | exact congrArg (Value.int _) (by omega) | exact congrArg (Value.int _) (by dsimp only; omega) | exact congrArg (Value.int _) (by simp) | exact congrArg S (by simp)), rfl, (by first | assumption | omega | (dsimp only; omega) | (simp; done)), (hoo.base_le (by omega)), (by rw [stA_snoc hi9]; first | exact candR_skip hcr (by omega) | exact candR_ins hcr (by omega) hk1 hltp (fun q q2 => hx9 ⟨by omega, q2⟩)), (by first | assumption | omega | (dsimp only; omega) | (simp; done)), hV⟩
    ·repeat (first | (with_reducible exact Agree.merge _ _ _) | (with_reducible exact Agree.refl _ _) | (with_reducible refine Agree.upd ?_ _ _ rfl) | ((with_reducible refine Agree.inner ?_ ?_); (kernel_rfl)))
   ·skip
    refine r_skip ?_
    refine r_seq ?_
    refine r_region ?_
    refine r_op rfl rfl rfl (run_asg (v := .int _ _) rfl (by exact rfl)) ?_
    refine r_nil ?_
    refine r_seq ?_
    refine r_block ?_
    refine r_loop (α := Nat) [10, 29, 30, 31, 32, 33, 34, 35, 36, 37, 38, 39, 40, 41, 42, 43] (fun k g w => g 10 = .int .i64 (k : Nat) ∧ k ≤ r.length ∧ OwnE w w0.heap.size 3 vo r ∧ Blk w b8 57 [.int .i64 (S.getD i default).1, .slice (H.getD (S.getD i default).2 default).ao (all.getD (S.getD i default).2 default).length (H.getD (S.getD i default).2 default).cap] ∧ At w b8 0 [.int .i64 (S.getD i default).1, .slice (H.getD (S.getD i default).2 default).ao (all.getD (S.getD i default).2 default).length (H.getD (S.getD i default).2 default).cap] ∧ (∀ j, j < k → r.getD j default < (S.getD i default).1) ∧ w10.heap.size ≤ w.heap.size ∧ Evo w0 w []) (fun k => r.length - k) 0 ?_ ?_
    ·refine ⟨rfl, (by first | assumption | omega | (dsimp only; omega) | (simp; done)), hoo, hbb8, hAb8, (fun j h => by omega), (by first | assumption | omega | (dsimp only; omega) | (simp; done)), hV⟩
    ·rintro k g w14 ⟨hj15, hk1, hoo, hbb8, hAb8, hltp, hzl13, hV⟩
     have hs_w14hV := hV.size
     have hlt16 := hbb8.lt
     replace hst := hst0 _ hV
     replace hl := hl0 _ hV
     replace hA6 := hA60 _ hV
     refine r_know (i := 10) (v := .int .i64 (k : Nat)) (by exact hj15) ?_
     refine r_seq ?_
     refine r_seq ?_
     obtain ⟨ao17, g17, cp17, hv17, hr17, hg17⟩ := hoo.rowOf
     subst hv17
     refine r_qregion (by kernel_rfl) (by kernel_rfl) ?_
     refine q_op rfl rfl rfl (fun w' hC => run_mv (v := .int _ _) rfl (by exact rfl)) ?_
     refine q_op rfl rfl rfl (fun w' hC => run_mv (v := .slice _ _ _) rfl (by exact rfl)) ?_
     refine q_op rfl rfl rfl (fun w' hC => run_lenSl rfl (by exact rfl) Tryz.underlying22) ?_
     refine q_op rfl rfl rfl (fun w' hC => run_lss rfl (by exact rfl) (by exact rfl)) ?_
     refine q_op rfl rfl rfl (fun w' hC => run_mv (v := .bool _) rfl (by exact rfl)) ?_
     refine q_g rfl (wantT (by exact rfl)) rfl (fun hg w' hC => run_mv (v := .slice _ _ _) rfl (by exact rfl)) ?_
     refine q_g rfl (wantT (by exact rfl)) rfl (fun hg w' hC => run_mv (v := .int _ _) rfl (by exact rfl)) ?_
     refine q_g rfl (wantT (by exact rfl)) rfl (fun hg w' hC => run_ix (k) rfl Tryz.underlying22 ty_3 (glv (by exact rfl) (fun h => h) hg) (glv (by exact rfl) (fun h => h) hg) (by first | exact rfl | omega) (by omega) (hr17.addr (i := k) (by omega))) ?_
     refine q_g rfl (wantT (by exact rfl)) rfl (fun hg w' hC => run_ld1 rfl ag_3 (glv (by exact rfl) (fun h => h) hg) (((hr17.atD (k) (by omega)).evo0 hC).cell 0 (by exact rfl))) ?_
     refine q_g rfl (wantT (by exact rfl)) rfl (fun hg w' hC => run_fa rfl (by exact rfl) fo_57_0) ?_
     refine q_g rfl (wantT (by exact rfl)) rfl (fun hg w' hC => run_ld1 rfl ag_3 (glv (by exact rfl) (fun h => h) hg) ((hAb8.evo0 hC).cell 0 (by exact rfl))) ?_
     refine q_g rfl (wantT (by exact rfl)) rfl (fun hg w' hC => run_lss rfl (glv (by exact rfl) (fun h => h) hg) (glv (by exact rfl) (fun h => h) hg)) ?_
     refine q_op rfl rfl rfl (fun w' hC => run_pick_and rfl (by exact rfl) (fun hq => glv (by exact rfl) (fun h => h) hq) rfl) ?_
     refine q_nil (fun w18 hE19 => ?_)
     have hs_w18 := (hE19).size
     replace hV := evo_step0 hV hE19
     replace hst := hst0 _ hV
     replace hl := hl0 _ hV
     replace hoo := hoo.evo0 hE19
     replace hbb8 := hbb8.evo0 hE19
     replace hAb8 := hAb8.evo0 hE19
     replace hr17 := hr17.evo0 hE19
     refine r_cond (by exact rfl) (fun hc20 => ?_) (fun hc20 => ?_)
     ·skip
      refine r_skip ?_
      refine r_block ?_
      refine r_region ?_
      refine r_op rfl rfl rfl (run_mv (v := .int _ _) rfl (by exact rfl)) ?_
      refine r_op rfl rfl rfl (run_add rfl (by exact rfl) (by exact rfl) (by omega) (by omega)) ?_
      refine r_op rfl rfl rfl (run_asg (v := .int _ _) rfl (by exact rfl)) ?_
      refine r_nil ?_
      refine r_blk ?_
      refine r_again (k + 1) ?_ ?_ ?_
      ·first | omega | (dsimp only; omega)
      ·refine ⟨(congrArg (Value.int _) (by omega)), (by first | assumption | omega | (dsimp only; omega) | (simp; done)), hoo, hbb8, hAb8, (upto0 hltp hc20.2), (by first | assumption | omega | (dsimp only; omega) | (simp; done)), hV⟩
      ·repeat (first | (with_reducible exact Agree.merge _ _ _) | (with_reducible exact Agree.refl _ _) | (with_reducible refine Agree.upd ?_ _ _ rfl) | ((with_reducible refine Agree.inner ?_ ?_); (kernel_rfl)))
     ·skip
      refine r_exit rfl ?_
      refine r_seq ?_
      have hx9 := hc20
      have hI9 : Evo w18 w18 [] := Evo.refl _ _
      have hr170 := keepE hr17
      have hbb8_q := hbb8
      have hAb8_q := hAb8
      have hV_q := hV
      have hI9_q := hI9
      refine h_region ([]) (by kernel_rfl) ?_
      intro w21 hE22 hCst9
      have hs_w21 := (hE22).size
      replace hV := evo_step0 hV hE22
      replace hI9 := evo_step0 hI9 hE22
      replace hst := hst0 _ hV
      replace hl := hl0 _ hV
      replace hbb8 := hbb8.evo0 hE22
      replace hAb8 := hAb8.evo0 hE22
      replace hr17 := hr170 _ hI9
      refine h_take (i := 0) (by exact rfl) rfl rfl rfl (by kernel_rfl) (fun w' hC => run_fa rfl (by exact rfl) fo_57_0) hCst9 ?_
      refine h_take (i := 1) (by exact rfl) rfl rfl rfl (by kernel_rfl) (fun w' hC => run_ld1 rfl ag_3 (by exact rfl) ((hAb8_q.evo0 hC).cell 0 (by exact rfl))) hCst9 ?_
      refine h_take (i := 3) (by exact rfl) rfl rfl rfl (by kernel_rfl) (fun w' hC => run_mv (v := .slice _ _ _) rfl (by exact rfl)) hCst9 ?_
      refine h_take (i := 4) (by exact rfl) rfl rfl rfl (by kernel_rfl) (fun w' hC => run_mv (v := .int _ _) rfl (by exact rfl)) hCst9 ?_
      refine h_take (i := 5) (by exact rfl) rfl rfl rfl (by kernel_rfl) (fun w' hC => by exact run_slE0 (k) rfl Tryz.underlying22 ty_3 rfl (by exact rfl) (hr170 _ (evo_step0 hI9_q hC)) (at1 (by exact rfl) (by omega)) (by first | omega | (simp; omega))) hCst9 ?_
      have hS230 := fun (w' : World) (h : Evo w18 w' []) => (hr170 w' h).drop (k)
      have hS23 := hr17.drop (k)
      have hbd_hS23 := hS23.bd
      refine h_one (i := 2) (by kernel_rfl) ?_
      refine h_do (by exact rfl) ?_
      refine r_bslice (pv := [(0, .int _ _)]) (zs := [_]) (cs := [_]) Tryz.underlying22 ty_3 (by exact rfl) rfl (by exact rfl) rfl (by exact rfl) ?_
      intro b24 w25 heb24 hEw25 hbb24 hzb24
      have hs_w25 := (hEw25).size
      replace hV := evo_step0 hV hEw25
      replace hI9 := evo_step0 hI9 hEw25
      replace hCst9 := evo_step0 hCst9 hEw25
      replace hst := hst0 _ hV
      replace hl := hl0 _ hV
      replace hr17 := hr170 _ hI9
      replace hS23 := hS230 _ hI9
      have hAb24 := hbb24.at
      have hob24 : OwnE w25 w18.heap.size 3 (.slice (some ⟨b24, 0, none⟩) 1 1) (([(S.getD i default).1] : List Int)) := ownE_lit (([(S.getD i default).1] : List Int)) hbb24 rfl (by omega) (by simp)
      refine h_next hCst9 ?_
      refine h_one (i := 6) (by kernel_rfl) ?_
      refine h_do (by exact rfl) ?_
      refine r_appendE rfl Tryz.underlying22 ty_3 (by exact rfl) hob24 (by exact rfl) (by exact rfl) hS23 rfl (by simp; omega) (by simp; omega) (by omega) ?_
      intro v26 w27 hEw27 hov26 hlv26
      have hs_w27 := (hEw27).size
      replace hV := evo_stepo hV hEw27 (fun g hg => .inl (by first | exact (hob24.block hg).1 | (have := hob24.block hg; omega)))
      replace hI9 := evo_stepo hI9 hEw27 (fun g hg => .inl (by first | exact (hob24.block hg).1 | (have := hob24.block hg; omega)))
      replace hCst9 := evo_stepo hCst9 hEw27 (fun g hg => .inl (by first | exact (hob24.block hg).1 | (have := hob24.block hg; omega)))
      replace hst := hst0 _ hV
      replace hl := hl0 _ hV
      replace hr17 := hr170 _ hI9
      refine h_next hCst9 ?_
      refine h_take (i := 7) (by exact rfl) rfl rfl rfl (by kernel_rfl) (fun w' hC => run_asg (v := v26) rfl (by exact rfl)) hCst9 ?_
      refine h_done (by kernel_rfl) ?_
      refine r_region ?_
      refine r_op rfl rfl rfl (run_mv (v := .slice _ _ _) rfl (by exact rfl)) ?_
      refine r_op rfl rfl rfl (run_mv (v := .int _ _) rfl (by exact rfl)) ?_
      refine r_op rfl rfl rfl (by exact run_slE (0) (k) rfl Tryz.underlying22 ty_3 (by exact rfl) hr17 lo0 (at1 (by exact rfl) (by omega)) (by first | omega | (simp; omega)) (by first | omega | (simp; omega)) List.drop_zero) ?_
      have hS280 := fun (w' : World) (h : Evo w18 w' []) => (by have h9 := ((hr170 w' h).take (k)).drop (0); rw [List.drop_zero] at h9; exact h9)
      have hS28 := (by have h9 := (hr17.take (k)).drop (0); rw [List.drop_zero] at h9; exact h9)
      have hbd_hS28 := hS28.bd
      refine r_appendE rfl Tryz.underlying22 ty_3 (by exact rfl) (OwnE.nil (α := Int) _ w18.heap.size _) (by exact rfl) (by exact rfl) hS28 rfl (by simp; omega) (by simp; omega) (by omega) ?_
      intro v29 w30 hEw30 hov29 hlv29
      have hs_w30 := (hEw30).size
      replace hV := evo_step0 hV hEw30
      replace hI9 := evo_step0 hI9 hEw30
      replace hst := hst0 _ hV
      replace hl := hl0 _ hV
      replace hr17 := hr170 _ hI9
      replace hov26 := hov26.evo0 hEw30
      refine r_op rfl rfl rfl (run_mv (v := v26) rfl (by exact rfl)) ?_
      obtain ⟨ao31, g31, cp31, hv31, hr31, hg31⟩ := hov26.rowOf
      subst hv31
      refine r_appendE rfl Tryz.underlying22 ty_3 (by exact rfl) hov29 (by exact rfl) (by exact rfl) hr31 rfl (by simp; omega) (by simp; omega) (by omega) ?_
      intro v32 w33 hEw33 hov32 hlv32
      have hs_w33 := (hEw33).size
      replace hV := evo_stepo hV hEw33 (fun g hg => .inl (by first | exact (hov29.block hg).1 | (have := hov29.block hg; omega)))
      replace hI9 := evo_stepo hI9 hEw33 (fun g hg => .inl (by first | exact (hov29.block hg).1 | (have := hov29.block hg; omega)))
      replace hst := hst0 _ hV
      replace hl := hl0 _ hV
      replace hr17 := hr170 _ hI9
      refine r_op rfl rfl rfl (run_asg (v := v32) rfl (by exact rfl)) ?_
      refine r_nil ?_
      refine r_blk ?_
      refine r_region ?_
      refine r_op rfl rfl rfl (run_add rfl (by exact rfl) (by exact rfl) (by omega) (by omega)) ?_
      refine r_op rfl rfl rfl (run_mv (v := .int _ _) rfl (by exact rfl)) ?_
      refine r_nil ?_
      refine r_again (i + 1) ?_ ?_ ?_
      ·first | omega | (dsimp only; omega)
      ·refine ⟨_, _, (by first | exact rfl | exact congrArg (Value.int _) (by omega) | exact congrArg (Value.int _) (by dsimp only; omega) | exact congrArg (Value.int _) (by simp) | exact congrArg S (by simp)), rfl, (by first | assumption | omega | (dsimp only; omega) | (simp; done)), (hov32.base_le (by omega)), (by rw [stA_snoc hi9]; first | exact candR_skip hcr (by omega) | exact candR_ins hcr (by omega) hk1 hltp (fun q q2 => hx9 ⟨by omega, q2⟩)), (by first | assumption | omega | (dsimp only; omega) | (simp; done)), hV⟩
      ·repeat (first | (with_reducible exact Agree.merge _ _ _) | (with_reducible exact Agree.refl _ _) | (with_reducible refine Agree.upd ?_ _ _ rfl) | ((with_reducible refine Agree.inner ?_ ?_); (kernel_rfl)))
  ·skip
   refine r_exit rfl ?_
   refine r_seq ?_
   refine r_region ?_
   refine r_op rfl rfl rfl (run_mv (v := vo) rfl (by exact rfl)) ?_
   refine r_op rfl rfl rfl (run_asg (v := vo) rfl (by exact rfl)) ?_
   refine r_nil ?_
   refine r_ret (res1 (v := vo) rfl (by exact rfl)) ?_
   exact ⟨_, _, rfl, hV, hoo, by rw [List.take_of_length_le (by rw [← stH_len H S]; omega)] at hcr; exact hcr⟩
end Go.Proofs.YthbcklajlmcifaaGreat
namespace Go.Proofs.YthbcklajlmcifaaGreat
open Go.RowKit Go.Vc
theorem pl_57 : placesP Tryz.prog 57 = some [(0, 1), (1, 1)] := by kernel_rfl
set_option maxHeartbeats 1000000 in
theorem step15s_calls {bs : Nat} {ao : Option Addr} {b off cap : Nat} {l : List Int} {N : Nat} {bx : Nat} {S : Told} {H : List Hdr} {all : List (List Vc.Item)} {F : List Nat} {aoA : Option Addr} {bA offA capA base : Nat} {aoS : Option Addr} {capS : Nat} {w0 : World} (hx : Idx w0 bx (stA all S) F) (hst : OwnE w0 base 57 (.slice aoS (stH H S).length capS) (stH H S)) (hb : Blk w0 bs 33 [.slice ao l.length cap, .int .i64 (N : Nat)]) (hl : ∀ w', Evo w0 w' (bs :: F) → RowE w' ao b off cap l) (hA : ∀ w', Evo w0 w' (bs :: F) → RowE w' aoA bA offA capA H) (he : ∀ w', Evo w0 w' (bs :: F) → ∀ j, j < all.length → HRow w' (H.getD j default) (all.getD j default)) (hS : OkS all.length S) (hSl : S.length ≤ 1000) (hN : N ≤ 1000) (hHl : H.length = all.length) (hal : all.length ≤ 1000) (hb9 : ∀ t ∈ all, t.length ≤ 10000 ∧ ∀ x ∈ t, x.text.length ≤ 140737488355328) (hbF : bs ∉ F) (hsF : ∀ g, (Value.slice aoS (stH H S).length capS).ownBlock = some g → g ∉ bs :: F) (hb0 : base ≤ w0.heap.size) :
    Calls Tryz.prog 9 #[.pointer (some ⟨bx, 0, none⟩), .slice aoS (stH H S).length capS, .pointer (some ⟨bs, 0, none⟩), .slice aoA H.length capA] w0 fun e w' => ∃ v' S' F', ∃ N' : Nat, e = .returned (.tuple #[v', .bool true]) ∧ Evo w0 w' (bs :: F) ∧ N' ≤ N + 3 ∧ Blk w' bs 33 [.slice ao l.length cap, .int .i64 (N' : Nat)] ∧ Idx w' bx (stA all S') F' ∧ (∀ g ∈ F', g ∈ F ∨ w0.heap.size ≤ g) ∧ OwnE w' base 57 v' (stH H S') ∧ OkS all.length S' ∧ S'.length ≤ S.length + 1 ∧ (∀ g, v'.ownBlock = some g → g ∉ bs :: F') := by
 obtain ⟨gS, hrs⟩ := own_rowS hst hsF
 have hAs := hb.at; have hbslt := hb.lt; have hSH := stH_len H S; have hFhx : ∀ g ∈ F, g ∈ F ∨ w0.heap.size ≤ g := fun g hg => .inl hg
 have hbx0 := hx.lt; have hsB := fun g (hg : (Value.slice aoS (stH H S).length capS).ownBlock = some g) => (hst.block hg).2
 refine calls_enter (n := 81) (args := [.pointer (some ⟨bx, 0, none⟩), .slice aoS (stH H S).length capS, .pointer (some ⟨bs, 0, none⟩), .slice aoA H.length capA]) Tryz.func9 rfl Tryz.ntmps9 rfl ?_
 have hV : Evo w0 w0 (bs :: F) := Evo.refl _ _
 have hl0 := hl
 replace hl := hl0 _ hV
 have hbd_hl := hl.bd
 have hA0 := hA
 replace hA := hA0 _ hV
 have hbd_hA := hA.bd
 have hrs0 := hrs
 replace hrs := hrs0 _ hV
 have hbd_hrs := hrs.bd
 refine r_seq ?_
 refine r_region ?_
 refine r_op rfl rfl rfl (run_asg (v := .slice _ _ _) rfl (by exact rfl)) ?_
 refine r_op rfl rfl rfl (run_asg (v := .bool _) rfl (by exact rfl)) ?_
 refine r_nil ?_
 refine r_seq ?_
 refine r_region ?_
 refine r_op rfl rfl rfl (run_mv (v := .pointer _) rfl (by exact rfl)) ?_
 refine r_opcall rfl rfl rfl (run_callf (vs := [.pointer _, .int _ _]) rfl (by exact rfl) Tryz.func16 rfl (by kernel_rfl)) (nx_calls hb hl (by omega) (by omega) (by omega)) ?_
 rintro e w1 ⟨nx1, rfl, hx_1, hE1, hn1⟩
 refine ⟨_, rfl, ?_⟩
 have hs_w1 := (hE1).size
 replace hV := evo_step1 hV hE1 (.inr (by simp))
 replace hl := hl0 _ hV
 replace hA := hA0 _ hV
 replace hrs := hrs0 _ hV
 replace hx := hx.evo hE1 (fun g hg hm => hbF (by have h9 : g = bs := (by simpa using hm); exact h9 ▸ hg))
 replace hb := hn1
 clear hn1
 have hAs := hb.at
 refine r_op rfl rfl rfl (run_sub rfl (by exact rfl) (by exact rfl) (by omega) (by omega)) ?_
 refine r_op rfl rfl rfl (run_asg (v := .int _ _) rfl (by exact rfl)) ?_
 refine r_nil ?_
 refine r_seq ?_
 refine r_region ?_
 refine r_op rfl rfl rfl (run_asg (v := .int _ _) rfl (by exact rfl)) ?_
 refine r_nil ?_
 refine r_seq ?_
 refine r_seq ?_
 refine r_region ?_
 refine r_op rfl rfl rfl (run_mv (v := (.slice aoS (stH H S).length capS)) rfl (by exact rfl)) ?_
 refine r_op rfl rfl rfl (run_lenSl rfl (by exact rfl) Tryz.underlying30) ?_
 refine r_op rfl rfl rfl (run_mv (v := .int _ _) rfl (by exact rfl)) ?_
 refine r_nil ?_
 refine r_block ?_
 refine r_loop (α := Nat) [11, 12, 19, 20, 21, 22, 23, 24, 25, 26, 27, 28, 29, 30] (fun k g w => g 19 = .int .i64 (k : Nat) ∧ g 11 = .int .i64 (atK S (nx1 - 2) k) ∧ k ≤ (stH H S).length ∧ Blk w bs 33 [.slice ao l.length cap, .int .i64 ((N + 1 : Nat) : Int)] ∧ At w bs 0 [.slice ao l.length cap, .int .i64 ((N + 1 : Nat) : Int)] ∧ Idx w bx (stA all S) F ∧ w1.heap.size ≤ w.heap.size ∧ Evo w0 w (bs :: F)) (fun k => (stH H S).length - k) 0 ?_ ?_
 ·refine ⟨(by first | exact rfl | exact congrArg (Value.int _) (by omega) | exact congrArg (Value.int _) (by dsimp only; omega) | exact congrArg (Value.int _) (by simp) | exact congrArg S (by simp)), rfl, (by first | assumption | omega | (dsimp only; omega) | (simp; done)), (by first | assumption | omega | (dsimp only; omega) | (simp; done)), (by first | assumption | omega | (dsimp only; omega) | (simp; done)), (by first | assumption | omega | (dsimp only; omega) | (simp; done)), (by first | assumption | omega | (dsimp only; omega) | (simp; done)), hV⟩
 ·rintro k g w3 ⟨hj4, hj5, hk_k, hb, hAs, hx, hzl2, hV⟩
  have hs_w3hV := hV.size
  have hlt6 := hb.lt
  replace hl := hl0 _ hV
  replace hA := hA0 _ hV
  replace hrs := hrs0 _ hV
  refine r_know (i := 19) (v := .int .i64 (k : Nat)) (by exact hj4) ?_
  refine r_know (i := 11) (v := .int .i64 (atK S (nx1 - 2) k)) (by exact hj5) ?_
  refine r_seq ?_
  refine r_region ?_
  refine r_op rfl rfl rfl (run_lss rfl (by exact rfl) (by exact rfl)) ?_
  refine r_nil ?_
  refine r_seq ?_
  refine r_cond (by exact rfl) (fun hc7 => ?_) (fun hc7 => ?_)
  ·skip
   refine r_skip ?_
   refine r_seq ?_
   refine r_block ?_
   refine r_seq ?_
   refine r_region ?_
   refine r_op rfl rfl rfl (run_mv (v := .int _ _) rfl (by exact rfl)) ?_
   refine r_op rfl rfl rfl (run_asg (v := .int _ _) rfl (by exact rfl)) ?_
   refine r_nil ?_
   refine r_seq ?_
   refine r_region ?_
   refine r_op rfl rfl rfl (run_mv (v := (.slice aoS (stH H S).length capS)) rfl (by exact rfl)) ?_
   refine r_op rfl rfl rfl (run_mv (v := .int _ _) rfl (by exact rfl)) ?_
   refine r_op rfl rfl rfl (run_ix (k) rfl Tryz.underlying30 ty_57 (by exact rfl) (by exact rfl) (by first | exact rfl | omega) (by omega) (hrs.addr (i := k) (by omega))) ?_
   have hA80 := fun (w' : World) (h : Evo w0 w' (bs :: F)) => (hrs0 w' h).atD (k) (by omega)
   have hA8 := hA80 _ hV
   refine r_op rfl rfl rfl (run_fa rfl (by exact rfl) fo_57_0) ?_
   refine r_op rfl rfl rfl (run_ld1 rfl ag_3 (by exact rfl) (hA8.cell 0 (by exact rfl))) ?_
   refine r_op rfl rfl rfl (run_mv (v := .int _ _) rfl (by exact rfl)) ?_
   refine r_op rfl rfl rfl (run_eql rfl (by exact rfl) (by exact rfl)) ?_
   refine r_nil ?_
   refine r_cond (by exact rfl) (fun hc9 => ?_) (fun hc9 => ?_)
   ·skip
    refine r_region ?_
    refine r_op rfl rfl rfl (run_mv (v := .int _ _) rfl (by exact rfl)) ?_
    refine r_op rfl rfl rfl (run_asg (v := .int _ _) rfl (by exact rfl)) ?_
    refine r_nil ?_
    refine r_blk ?_
    refine r_region ?_
    refine r_op rfl rfl rfl (run_add rfl (by exact rfl) (by exact rfl) (by omega) (by omega)) ?_
    refine r_op rfl rfl rfl (run_mv (v := .int _ _) rfl (by exact rfl)) ?_
    refine r_nil ?_
    refine r_again (k + 1) ?_ ?_ ?_
    ·first | omega | (dsimp only; omega)
    ·refine ⟨(by first | exact rfl | exact congrArg (Value.int _) (by omega) | exact congrArg (Value.int _) (by dsimp only; omega) | exact congrArg (Value.int _) (by simp) | exact congrArg S (by simp)), (congrArg (Value.int _) (by have h9 := hc9; rw [stH_id (by omega)] at h9; first | exact atK_yes h9 | exact atK_no h9)), (by first | assumption | omega | (dsimp only; omega) | (simp; done)), (by first | assumption | omega | (dsimp only; omega) | (simp; done)), (by first | assumption | omega | (dsimp only; omega) | (simp; done)), (by first | assumption | omega | (dsimp only; omega) | (simp; done)), (by first | assumption | omega | (dsimp only; omega) | (simp; done)), hV⟩
    ·repeat (first | (with_reducible exact Agree.merge _ _ _) | (with_reducible exact Agree.refl _ _) | (with_reducible refine Agree.upd ?_ _ _ rfl) | ((with_reducible refine Agree.inner ?_ ?_); (kernel_rfl)))
   ·skip
    refine r_skip ?_
    refine r_blk ?_
    refine r_region ?_
    refine r_op rfl rfl rfl (run_add rfl (by exact rfl) (by exact rfl) (by omega) (by omega)) ?_
    refine r_op rfl rfl rfl (run_mv (v := .int _ _) rfl (by exact rfl)) ?_
    refine r_nil ?_
    refine r_again (k + 1) ?_ ?_ ?_
    ·first | omega | (dsimp only; omega)
    ·refine ⟨(by first | exact rfl | exact congrArg (Value.int _) (by omega) | exact congrArg (Value.int _) (by dsimp only; omega) | exact congrArg (Value.int _) (by simp) | exact congrArg S (by simp)), (congrArg (Value.int _) (by have h9 := hc9; rw [stH_id (by omega)] at h9; first | exact atK_yes h9 | exact atK_no h9)), (by first | assumption | omega | (dsimp only; omega) | (simp; done)), (by first | assumption | omega | (dsimp only; omega) | (simp; done)), (by first | assumption | omega | (dsimp only; omega) | (simp; done)), (by first | assumption | omega | (dsimp only; omega) | (simp; done)), (by first | assumption | omega | (dsimp only; omega) | (simp; done)), hV⟩
    ·repeat (first | (with_reducible exact Agree.merge _ _ _) | (with_reducible exact Agree.refl _ _) | (with_reducible refine Agree.upd ?_ _ _ rfl) | ((with_reducible refine Agree.inner ?_ ?_); (kernel_rfl)))
  ·skip
   refine r_exit rfl ?_
   refine r_seq ?_
   refine r_seq ?_
   obtain rfl : k = S.length := by omega
   have hat := atK_bd S (nx1 - 2) S.length
   refine r_region ?_
   refine r_op rfl rfl rfl (run_mv (v := .pointer _) rfl (by exact rfl)) ?_
   refine r_opcall rfl rfl rfl (run_callf (vs := [.pointer _, .int _ _]) rfl (by exact rfl) Tryz.func16 rfl (by kernel_rfl)) (nx_calls hb hl (by omega) (by omega) (by omega)) ?_
   rintro e w10 ⟨nx10, rfl, hx_10, hE10, hn10⟩
   refine ⟨_, rfl, ?_⟩
   have hs_w10 := (hE10).size
   replace hV := evo_step1 hV hE10 (.inr (by simp))
   replace hl := hl0 _ hV
   replace hA := hA0 _ hV
   replace hrs := hrs0 _ hV
   replace hx := hx.evo hE10 (fun g hg hm => hbF (by have h9 : g = bs := (by simpa using hm); exact h9 ▸ hg))
   replace hb := hn10
   clear hn10
   have hAs := hb.at
   refine r_op rfl rfl rfl (run_eql rfl (by exact rfl) (by exact rfl)) ?_
   refine r_op rfl rfl rfl (run_mv (v := .bool _) rfl (by exact rfl)) ?_
   refine r_g rfl (wantF (by exact rfl)) rfl (fun hg => run_mv (v := (.slice aoA H.length capA)) rfl (by exact rfl)) ?_
   refine r_g rfl (wantF (by exact rfl)) rfl (fun hg => run_lenSl rfl (glv (by exact rfl) (fun h => h) hg) Tryz.underlying28) ?_
   refine r_g rfl (wantF (by exact rfl)) rfl (fun hg => run_eql rfl (glv (by exact rfl) (fun h => h) hg) (by exact rfl)) ?_
   refine r_op rfl rfl rfl (run_pick_or rfl (by exact rfl) rfl (fun hq => glv (by exact rfl) (fun h => h) hq)) ?_
   refine r_nil ?_
   refine r_cond (by exact rfl) (fun hc11 => ?_) (fun hc11 => ?_)
   ·skip
    refine r_seq ?_
    refine r_seq ?_
    refine r_region ?_
    refine r_op rfl rfl rfl (run_mv (v := (.pointer (some ⟨bx, 0, none⟩))) rfl (by exact rfl)) ?_
    refine r_op rfl rfl rfl (run_mv (v := .int _ _) rfl (by exact rfl)) ?_
    refine r_opcall rfl rfl rfl (run_callf (vs := [(.pointer (some ⟨bx, 0, none⟩)), .int _ _]) rfl (by exact rfl) Tryz.func19 rfl (by kernel_rfl)) (ixrem_calls hx) ?_
    rintro e w12 ⟨F12, rfl, hE12, hx12, hF12⟩
    refine ⟨_, rfl, ?_⟩
    have hs_w12 := (hE12).size
    replace hV := evo_steps hV hE12 (fun b9 hb9 => (.inr (List.mem_cons_of_mem _ hb9)))
    replace hl := hl0 _ hV
    replace hA := hA0 _ hV
    replace hrs := hrs0 _ hV
    skip
    replace hb := hb.evo hE12 (hbF)
    replace hx := hx12; have hxl := hx.lt; replace hFhx := fun g hg => (hF12 g hg).elim (hFhx g) (fun h => .inr (by omega))
    refine r_op rfl rfl rfl (run_mv (v := .int _ _) rfl (by exact rfl)) ?_
    refine r_op rfl rfl rfl (run_geq rfl (by exact rfl) (by exact rfl)) ?_
    refine r_op rfl rfl rfl (run_bneq rfl Tryz.underlying4 (by exact rfl) (by exact rfl)) ?_
    refine r_nil ?_
    refine r_cond (by exact rfl) (fun hc13 => ?_) (fun hc13 => ?_)
    ·skip
     exact absurd hc13 (by simp [told_in])
    ·skip
     refine r_skip ?_
     refine r_seq ?_
     refine r_seq ?_
     refine r_region ?_
     refine r_op rfl rfl rfl (run_mv (v := .int _ _) rfl (by exact rfl)) ?_
     refine r_op rfl rfl rfl (run_geq rfl (by exact rfl) (by exact rfl)) ?_
     refine r_nil ?_
     refine r_cond (by exact rfl) (fun hc14 => ?_) (fun hc14 => ?_)
     ·skip
      obtain ⟨j9, hj9⟩ : ∃ j9 : Nat, atK S (nx1 - 2) S.length = (j9 : Int) := ⟨(atK S (nx1 - 2) S.length).toNat, by omega⟩
      have hjl : j9 < S.length := (by omega); have hji : (S.getD j9 default).1 = (nx1 - 2) := (by have h9 := atK_id (S := S) (id := (nx1 - 2)) (k := S.length) (by omega); rw [hj9] at h9; exact h9)
      refine r_know (i := 11) (v := .int .i64 (j9 : Nat)) (congrArg (Value.int _) hj9) ?_
      have hb_q := hb
      have hV_q := hV
      refine h_region ([]) (by kernel_rfl) ?_
      intro w15 hE16 hCst13
      have hs_w15 := (hE16).size
      replace hV := evo_step0 hV hE16
      replace hl := hl0 _ hV
      replace hA := hA0 _ hV
      replace hrs := hrs0 _ hV
      replace hx := hx.evo0 hE16
      replace hb := hb.evo0 hE16
      refine h_take (i := 0) (by exact rfl) rfl rfl rfl (by kernel_rfl) (fun w' hC => run_mv (v := (.slice aoS (stH H S).length capS)) rfl (by exact rfl)) hCst13 ?_
      refine h_take (i := 1) (by exact rfl) rfl rfl rfl (by kernel_rfl) (fun w' hC => run_mv (v := .int _ _) rfl (by exact rfl)) hCst13 ?_
      refine h_take (i := 2) (by exact rfl) rfl rfl rfl (by kernel_rfl) (fun w' hC => by exact run_slE (0) (j9) rfl Tryz.underlying30 ty_57 (by exact rfl) (hrs0 _ (evo_step0 hV_q hC)) lo0 (at1 (by exact rfl) (by omega)) (by first | omega | (simp; omega)) (by first | omega | (simp; omega)) List.drop_zero) hCst13 ?_
      have hS170 := fun (w' : World) (h : Evo w0 w' (bs :: F)) => (by have h9 := ((hrs0 w' h).take (j9)).drop (0); rw [List.drop_zero] at h9; exact h9)
      have hS17 := (by have h9 := (hrs.take (j9)).drop (0); rw [List.drop_zero] at h9; exact h9)
      have hbd_hS17 := hS17.bd
      refine h_take (i := 4) (by exact rfl) rfl rfl rfl (by kernel_rfl) (fun w' hC => run_mv (v := (.slice aoS (stH H S).length capS)) rfl (by exact rfl)) hCst13 ?_
      refine h_take (i := 5) (by exact rfl) rfl rfl rfl (by kernel_rfl) (fun w' hC => run_mv (v := .int _ _) rfl (by exact rfl)) hCst13 ?_
      refine h_take (i := 6) (by exact rfl) rfl rfl rfl (by kernel_rfl) (fun w' hC => run_add rfl (by exact rfl) (by exact rfl) (by omega) (by omega)) hCst13 ?_
      refine h_take (i := 7) (by exact rfl) rfl rfl rfl (by kernel_rfl) (fun w' hC => by exact run_slE0 ((j9 + 1)) rfl Tryz.underlying30 ty_57 rfl (by exact rfl) (hrs0 _ (evo_step0 hV_q hC)) (at1 (by exact rfl) (by omega)) (by first | omega | (simp; omega))) hCst13 ?_
      have hS180 := fun (w' : World) (h : Evo w0 w' (bs :: F)) => (hrs0 w' h).drop ((j9 + 1))
      have hS18 := hrs.drop ((j9 + 1))
      have hbd_hS18 := hS18.bd
      refine h_one (i := 3) (by kernel_rfl) ?_
      refine h_do (by exact rfl) ?_
      refine r_appendE rfl Tryz.underlying30 ty_57 (by exact rfl) (OwnE.nil (α := SV) _ w12.heap.size _) (by exact rfl) (by exact rfl) hS17 rfl (by simp; omega) (by simp; omega) (by omega) ?_
      intro v19 w20 hEw20 hov19 hlv19
      have hs_w20 := (hEw20).size
      replace hV := evo_step0 hV hEw20
      replace hCst13 := evo_step0 hCst13 hEw20
      replace hl := hl0 _ hV
      replace hA := hA0 _ hV
      replace hrs := hrs0 _ hV
      replace hx := hx.evo0 hEw20
      replace hb := hb.evo0 hEw20
      replace hS18 := hS180 _ hV
      refine h_next hCst13 ?_
      refine h_one (i := 8) (by kernel_rfl) ?_
      refine h_do (by exact rfl) ?_
      refine r_appendE rfl Tryz.underlying30 ty_57 (by exact rfl) hov19 (by exact rfl) (by exact rfl) hS18 rfl (by simp; omega) (by simp; omega) (by omega) ?_
      intro v21 w22 hEw22 hov21 hlv21
      have hs_w22 := (hEw22).size
      replace hV := evo_stepo hV hEw22 (fun g hg => .inl (by first | exact (hov19.block hg).1 | (have := hov19.block hg; omega)))
      replace hCst13 := evo_stepo hCst13 hEw22 (fun g hg => .inl (by first | exact (hov19.block hg).1 | (have := hov19.block hg; omega)))
      replace hl := hl0 _ hV
      replace hA := hA0 _ hV
      replace hrs := hrs0 _ hV
      replace hx := hx.evo hEw22 (fun g hg hm => by have h1 := (hov19.block (Option.mem_toList.1 hm)).1; have := hxl g hg; omega)
      replace hb := hb.evo hEw22 (by intro hm; have hm2 := Option.mem_toList.1 hm; first | (have := hov19.block hm2; omega) | (simp [Value.ownBlock] at hm2; omega))
      refine h_next hCst13 ?_
      refine h_take (i := 9) (by exact rfl) rfl rfl rfl (by kernel_rfl) (fun w' hC => run_asg (v := v21) rfl (by exact rfl)) hCst13 ?_
      refine h_done (by kernel_rfl) ?_
      refine r_seq ?_
      refine r_region ?_
      refine r_op rfl rfl rfl (run_mv (v := v21) rfl (by exact rfl)) ?_
      refine r_op rfl rfl rfl (run_asg (v := v21) rfl (by exact rfl)) ?_
      refine r_op rfl rfl rfl (run_asg (v := .bool _) rfl (by exact rfl)) ?_
      refine r_nil ?_
      refine r_ret (res2 (v := v21) (u := .bool _) rfl (by exact rfl) (by exact rfl)) ?_
      exact ⟨_, cutS S j9, _, _, rfl, hV, by omega, hb, by rw [← cut_without hS hjl hji]; exact hx, hFhx, (by rw [← cut_stH]; exact hov21.base_le (by omega)), cut_ok hS hjl, by have := cutS_len hjl; omega, (fun g hg hm => by have h1 := (hov21.block hg).1; rcases List.mem_cons.1 hm with h2 | h2; omega; (have := hxl g h2; omega))⟩
     ·skip
      refine r_skip ?_
      refine r_seq ?_
      refine r_region ?_
      refine r_op rfl rfl rfl (run_mv (v := (.slice aoS (stH H S).length capS)) rfl (by exact rfl)) ?_
      refine r_op rfl rfl rfl (run_asg (v := (.slice aoS (stH H S).length capS)) rfl (by exact rfl)) ?_
      refine r_op rfl rfl rfl (run_asg (v := .bool _) rfl (by exact rfl)) ?_
      refine r_nil ?_
      refine r_ret (res2 (v := (.slice aoS (stH H S).length capS)) (u := .bool _) rfl (by exact rfl) (by exact rfl)) ?_
      exact ⟨_, S, _, _, rfl, hV, by omega, hb, by rw [← without_no (A := stA all S) (id := (nx1 - 2)) (fun h => hc14 (told_in.1 h))]; exact hx, hFhx, (hst.evo hV (fun g hg => hsF g hg)), hS, by omega, (fun g hg hm => by rcases List.mem_cons.1 hm with h2 | h2; exact hsF g hg (h2 ▸ List.mem_cons_self); (rcases hFhx g h2 with h3 | h3; exact hsF g hg (List.mem_cons_of_mem _ h3); (have := hsB g hg; omega)))⟩
   ·skip
    refine r_skip ?_
    refine r_seq ?_
    refine r_region ?_
    refine r_op rfl rfl rfl (run_mv (v := (.slice aoA H.length capA)) rfl (by exact rfl)) ?_
    refine r_op rfl rfl rfl (run_mv (v := .pointer _) rfl (by exact rfl)) ?_
    refine r_op rfl rfl rfl (run_mv (v := (.slice aoA H.length capA)) rfl (by exact rfl)) ?_
    refine r_op rfl rfl rfl (run_lenSl rfl (by exact rfl) Tryz.underlying28) ?_
    refine r_opcall rfl rfl rfl (run_callf (vs := [.pointer _, .int _ _]) rfl (by exact rfl) Tryz.func16 rfl (by kernel_rfl)) (nx_calls hb hl (by omega) (by omega) (by omega)) ?_
    rintro e w23 ⟨nx23, rfl, hx_23, hE23, hn23⟩
    refine ⟨_, rfl, ?_⟩
    have hs_w23 := (hE23).size
    replace hV := evo_step1 hV hE23 (.inr (by simp))
    replace hl := hl0 _ hV
    replace hA := hA0 _ hV
    replace hrs := hrs0 _ hV
    replace hx := hx.evo hE23 (fun g hg hm => hbF (by have h9 : g = bs := (by simpa using hm); exact h9 ▸ hg))
    replace hb := hn23
    clear hn23
    have hAs := hb.at
    refine r_op rfl rfl rfl (run_ix (nx23.toNat) rfl Tryz.underlying28 ty_23 (by exact rfl) (by exact rfl) (by omega) (by omega) (hA.addr (i := nx23.toNat) (by omega))) ?_
    have hA240 := fun (w' : World) (h : Evo w0 w' (bs :: F)) => (hA0 w' h).atD (nx23.toNat) (by omega)
    have hA24 := hA240 _ hV
    refine r_op rfl rfl rfl (run_ld1 rfl ag_23 (by exact rfl) (hA24.cell 0 (by exact rfl))) ?_
    refine r_op rfl rfl rfl (run_asg (v := .slice _ _ _) rfl (by exact rfl)) ?_
    refine r_nil ?_
    refine r_seq ?_
    refine r_seq ?_
    have hjl : nx23.toNat < all.length := (by omega)
    obtain ⟨b9, o9, hr9, hn9⟩ := he _ hV nx23.toNat hjl; have hbt := hb9 _ (getD_in hjl)
    refine r_know (i := 13) (v := .slice (H.getD nx23.toNat default).ao (all.getD nx23.toNat default).length (H.getD nx23.toNat default).cap) (congrArg (fun n => Value.slice (H.getD nx23.toNat default).ao n (H.getD nx23.toNat default).cap) hn9) ?_
    refine r_region ?_
    refine r_op rfl rfl rfl (run_mv (v := (.pointer (some ⟨bx, 0, none⟩))) rfl (by exact rfl)) ?_
    refine r_op rfl rfl rfl (run_mv (v := .int _ _) rfl (by exact rfl)) ?_
    refine r_op rfl rfl rfl (run_mv (v := .slice (H.getD nx23.toNat default).ao (all.getD nx23.toNat default).length (H.getD nx23.toNat default).cap) rfl (by exact rfl)) ?_
    refine r_opcall rfl rfl rfl (run_callf (vs := [(.pointer (some ⟨bx, 0, none⟩)), .int _ _, .slice (H.getD nx23.toNat default).ao (all.getD nx23.toNat default).length (H.getD nx23.toNat default).cap]) rfl (by exact rfl) Tryz.func15 rfl (by kernel_rfl)) (ixadd_calls hx hr9 hbt.2 (by omega)) ?_
    rintro e w25 ⟨F25, rfl, hE25, hx25, hF25⟩
    refine ⟨_, rfl, ?_⟩
    have hs_w25 := (hE25).size
    replace hV := evo_steps hV hE25 (fun b9 hb9 => (.inr (List.mem_cons_of_mem _ hb9)))
    replace hl := hl0 _ hV
    replace hA := hA0 _ hV
    replace hrs := hrs0 _ hV
    skip
    replace hb := hb.evo hE25 (hbF)
    replace hx := hx25; have hxl := hx.lt; replace hFhx := fun g hg => (hF25 g hg).elim (hFhx g) (fun h => .inr (by omega))
    refine r_op rfl rfl rfl (run_mv (v := .int _ _) rfl (by exact rfl)) ?_
    refine r_op rfl rfl rfl (run_lss rfl (by exact rfl) (by exact rfl)) ?_
    refine r_op rfl rfl rfl (run_bneq rfl Tryz.underlying4 (by exact rfl) (by exact rfl)) ?_
    refine r_nil ?_
    refine r_cond (by exact rfl) (fun hc26 => ?_) (fun hc26 => ?_)
    ·skip
     exact absurd hc26 (by simp [told_ok (show S.length < 1024 by omega)])
    ·skip
     refine r_skip ?_
     refine r_seq ?_
     refine r_seq ?_
     refine r_region ?_
     refine r_op rfl rfl rfl (run_mv (v := .int _ _) rfl (by exact rfl)) ?_
     refine r_op rfl rfl rfl (run_lss rfl (by exact rfl) (by exact rfl)) ?_
     refine r_nil ?_
     refine r_cond (by exact rfl) (fun hc27 => ?_) (fun hc27 => ?_)
     ·skip
      refine r_region ?_
      refine r_op rfl rfl rfl (run_mv (v := (.slice aoS (stH H S).length capS)) rfl (by exact rfl)) ?_
      refine r_appendE rfl Tryz.underlying30 ty_57 (by exact rfl) (OwnE.nil (α := SV) _ w25.heap.size _) (by exact rfl) (by exact rfl) hrs rfl (by simp; omega) (by simp; omega) (by omega) ?_
      intro v28 w29 hEw29 hov28 hlv28
      have hs_w29 := (hEw29).size
      replace hV := evo_step0 hV hEw29
      replace hl := hl0 _ hV
      replace hA := hA0 _ hV
      replace hrs := hrs0 _ hV
      replace hx := hx.evo0 hEw29
      replace hb := hb.evo0 hEw29
      refine r_op rfl rfl rfl (run_mv (v := .int _ _) rfl (by exact rfl)) ?_
      refine r_op rfl rfl rfl (run_mv (v := .slice (H.getD nx23.toNat default).ao (all.getD nx23.toNat default).length (H.getD nx23.toNat default).cap) rfl (by exact rfl)) ?_
      refine r_op rfl rfl rfl (run_bld (pv := [(0, .int _ _), (1, .slice (H.getD nx23.toNat default).ao (all.getD nx23.toNat default).length (H.getD nx23.toNat default).cap)]) (zs := [_, _]) (cells := [_, _]) rfl ty_57 (by exact rfl) pl_57 (by exact rfl) (by exact rfl)) ?_
      refine r_append1E (u := .agg _) (y := ⟨_, _, _, _⟩) rfl rfl Tryz.underlying30 ty_57 (by exact rfl) hov28 (fun _ => (by exact rfl)) (by exact rfl) (by first | exact rfl | (show _ = List.toArray [_, _]; first | (dsimp only; done) | exact rfl | (dsimp only; exact rfl))) ((by first | omega | (simp; omega))) ((by first | omega | (simp; omega))) (by omega) ?_
      intro q_v30 v30 w31 hEw31 hov30 hlv30
      have hs_w31 := (hEw31).size
      replace hV := evo_stepo hV hEw31 (fun g hg => .inl (by first | exact (hov28.block hg).1 | (have := hov28.block hg; omega)))
      replace hl := hl0 _ hV
      replace hA := hA0 _ hV
      replace hrs := hrs0 _ hV
      replace hx := hx.evo hEw31 (fun g hg hm => by have h1 := (hov28.block (Option.mem_toList.1 hm)).1; have := hxl g hg; omega)
      replace hb := hb.evo hEw31 (by intro hm; have hm2 := Option.mem_toList.1 hm; first | (have := hov28.block hm2; omega) | (simp [Value.ownBlock] at hm2; omega))
      refine r_op rfl rfl rfl (run_asg (v := v30) rfl (by exact rfl)) ?_
      refine r_nil ?_
      refine r_seq ?_
      refine r_region ?_
      refine r_op rfl rfl rfl (run_mv (v := v30) rfl (by exact rfl)) ?_
      refine r_op rfl rfl rfl (run_asg (v := v30) rfl (by exact rfl)) ?_
      refine r_op rfl rfl rfl (run_asg (v := .bool _) rfl (by exact rfl)) ?_
      refine r_nil ?_
      refine r_ret (res2 (v := v30) (u := .bool _) rfl (by exact rfl) (by exact rfl)) ?_
      exact ⟨_, S ++ [((nx1 - 2), nx23.toNat)], _, _, rfl, hV, by omega, hb, by rw [← add_stA, ← addA_yes ((told_ok (by omega)).2 hc27)]; exact hx, hFhx, (by rw [← add_stH (show (H.getD nx23.toNat default) = ⟨(H.getD nx23.toNat default).ao, (all.getD nx23.toNat default).length, (H.getD nx23.toNat default).cap⟩ by rw [← hn9])]; exact hov30.base_le (by omega)), add_ok hS (fun h => by have h8 := atK_iff.2 h; have h9 := hc27; omega) hjl, by rw [List.length_append]; exact Nat.le_refl _, (fun g hg hm => by have h1 := (hov30.block hg).1; rcases List.mem_cons.1 hm with h2 | h2; omega; (have := hxl g h2; omega))⟩
     ·skip
      refine r_skip ?_
      refine r_seq ?_
      refine r_region ?_
      refine r_op rfl rfl rfl (run_mv (v := (.slice aoS (stH H S).length capS)) rfl (by exact rfl)) ?_
      refine r_op rfl rfl rfl (run_asg (v := (.slice aoS (stH H S).length capS)) rfl (by exact rfl)) ?_
      refine r_op rfl rfl rfl (run_asg (v := .bool _) rfl (by exact rfl)) ?_
      refine r_nil ?_
      refine r_ret (res2 (v := (.slice aoS (stH H S).length capS)) (u := .bool _) rfl (by exact rfl) (by exact rfl)) ?_
      exact ⟨_, S, _, _, rfl, hV, by omega, hb, by rw [← addA_no (l := (all.getD nx23.toNat default)) (fun h => hc27 ((told_ok (by omega)).1 h))]; exact hx, hFhx, (hst.evo hV (fun g hg => hsF g hg)), hS, by omega, (fun g hg hm => by rcases List.mem_cons.1 hm with h2 | h2; exact hsF g hg (h2 ▸ List.mem_cons_self); (rcases hFhx g h2 with h3 | h3; exact hsF g hg (List.mem_cons_of_mem _ h3); (have := hsB g hg; omega)))⟩
theorem step15_calls {bs : Nat} {ao : Option Addr} {b off cap : Nat} {l : List Int} {N : Nat} {bx : Nat} {S : Told} {H : List Hdr} {all : List (List Vc.Item)} {F : List Nat} {aoA : Option Addr} {bA offA capA base : Nat} {vs : Value} {w0 : World} (hx : Idx w0 bx (stA all S) F) (hst : OwnE w0 base 57 (vs) (stH H S)) (hb : Blk w0 bs 33 [.slice ao l.length cap, .int .i64 (N : Nat)]) (hl : ∀ w', Evo w0 w' (bs :: F) → RowE w' ao b off cap l) (hA : ∀ w', Evo w0 w' (bs :: F) → RowE w' aoA bA offA capA H) (he : ∀ w', Evo w0 w' (bs :: F) → ∀ j, j < all.length → HRow w' (H.getD j default) (all.getD j default)) (hS : OkS all.length S) (hSl : S.length ≤ 1000) (hN : N ≤ 1000) (hHl : H.length = all.length) (hal : all.length ≤ 1000) (hb9 : ∀ t ∈ all, t.length ≤ 10000 ∧ ∀ x ∈ t, x.text.length ≤ 140737488355328) (hbF : bs ∉ F) (hsF : ∀ g, (vs).ownBlock = some g → g ∉ bs :: F) (hb0 : base ≤ w0.heap.size) : Calls Tryz.prog 9 #[.pointer (some ⟨bx, 0, none⟩), vs, .pointer (some ⟨bs, 0, none⟩), .slice aoA H.length capA] w0 fun e w' => ∃ v' S' F', ∃ N' : Nat, e = .returned (.tuple #[v', .bool true]) ∧ Evo w0 w' (bs :: F) ∧ N' ≤ N + 3 ∧ Blk w' bs 33 [.slice ao l.length cap, .int .i64 (N' : Nat)] ∧ Idx w' bx (stA all S') F' ∧ (∀ g ∈ F', g ∈ F ∨ w0.heap.size ≤ g) ∧ OwnE w' base 57 v' (stH H S') ∧ OkS all.length S' ∧ S'.length ≤ S.length + 1 ∧ (∀ g, v'.ownBlock = some g → g ∉ bs :: F') := by
  obtain ⟨aoS, capS, rfl⟩ := hst.shape
  exact step15s_calls hx hst hb hl hA he hS hSl hN hHl hal hb9 hbF hsF hb0
end Go.Proofs.YthbcklajlmcifaaGreat
namespace Go.Proofs.YthbcklajlmcifaaGreat
open Go.RowKit Go.Vc
set_option maxHeartbeats 2000000 in
theorem plays_law {aol : Option Addr} {bl offl capl : Nat} {l : List Int} {aom : Option Addr} {bm offm capm : Nat} {m : List Int} {aoq : Option Addr} {bq offq capq : Nat} {q : List Vc.Item} {percent : Int} {w0 : World} (hl : RowE w0 aol bl offl capl l) (hm : RowE w0 aom bm offm capm m) (hq : RowE w0 aoq bq offq capq q) (hqq : ∀ x ∈ q, x.text.length ≤ 140737488351232) :
    Calls Tryz.prog 3 #[.slice aol l.length capl, .slice aom m.length capm, .slice aoq q.length capq, .int .i64 percent] w0 fun e w' => e = .returned (.bool true) ∧ Evo w0 w' [] := by
 refine calls_enter (n := 98) (args := [.slice aol l.length capl, .slice aom m.length capm, .slice aoq q.length capq, .int .i64 percent]) Tryz.func3 rfl Tryz.ntmps3 rfl ?_
 have hV : Evo w0 w0 [] := Evo.refl _ _
 have hl0 := keepE hl
 have hbd_hl := hl.bd
 have hm0 := keepE hm
 have hbd_hm := hm.bd
 have hq0 := keepE hq
 have hbd_hq := hq.bd
 refine r_seq ?_
 refine r_region ?_
 refine r_op rfl rfl rfl (run_asg (v := .bool _) rfl (by exact rfl)) ?_
 refine r_nil ?_
 refine r_seq ?_
 refine r_seq ?_
 refine r_region ?_
 refine r_op rfl rfl rfl (run_mv (v := .slice _ _ _) rfl (by exact rfl)) ?_
 refine r_op rfl rfl rfl (run_lenSl rfl (by exact rfl) Tryz.underlying22) ?_
 refine r_op rfl rfl rfl (run_gtr rfl (by exact rfl) (by exact rfl)) ?_
 refine r_op rfl rfl rfl (run_mv (v := .bool _) rfl (by exact rfl)) ?_
 refine r_g rfl (wantF (by exact rfl)) rfl (fun hg => run_mv (v := .slice _ _ _) rfl (by exact rfl)) ?_
 refine r_g rfl (wantF (by exact rfl)) rfl (fun hg => run_lenSl rfl (glv (by exact rfl) (fun h => h) hg) Tryz.underlying22) ?_
 refine r_g rfl (wantF (by exact rfl)) rfl (fun hg => run_gtr rfl (glv (by exact rfl) (fun h => h) hg) (by exact rfl)) ?_
 refine r_op rfl rfl rfl (run_pick_or rfl (by exact rfl) rfl (fun hq => glv (by exact rfl) (fun h => h) hq)) ?_
 refine r_op rfl rfl rfl (run_mv (v := .bool _) rfl (by exact rfl)) ?_
 refine r_g rfl (wantF (by exact rfl)) rfl (fun hg => run_mv (v := .slice _ _ _) rfl (by exact rfl)) ?_
 refine r_gcallB rfl (wantF (by exact rfl)) rfl (fun hg => run_callf rfl (argcons (v := .slice _ _ _) (glv (by exact rfl) (fun h => h) hg) (argcons (v := .int _ _) (by exact rfl) (rfl))) Tryz.func4 rfl (by kernel_rfl)) (fun hg => (small15_calls hq (getD_text (fun x hx => Nat.le_trans (hqq x hx) (by decide))) (by decide))) ?_
 intro gx3 w1 hgx3 hE2
 have hs_w1 := (hE2).size
 replace hV := evo_step0 hV hE2
 replace hl := hl0 _ hV
 replace hm := hm0 _ hV
 replace hq := hq0 _ hV
 refine r_g rfl (wantF (by exact rfl)) rfl (fun hg => run_not rfl (glv (by exact rfl) (fun h => h) hg)) ?_
 refine r_op rfl rfl rfl (run_pick_or rfl (by exact rfl) rfl (fun hq => glv (by exact rfl) (fun h => h) hq)) ?_
 refine r_nil ?_
 refine r_cond (by exact rfl) (fun hc4 => ?_) (fun hc4 => ?_)
 ·skip
  refine r_seq ?_
  refine r_region ?_
  refine r_opcall rfl rfl rfl (run_callf (vs := []) rfl (by exact rfl) Tryz.func5 rfl (by kernel_rfl)) known15_calls ?_
  rintro e w5 ⟨rfl, hE5⟩
  refine ⟨_, rfl, ?_⟩
  have hs_w5 := (hE5).size
  replace hV := evo_step0 hV hE5
  replace hl := hl0 _ hV
  replace hm := hm0 _ hV
  replace hq := hq0 _ hV
  refine r_op rfl rfl rfl (run_asg (v := .bool _) rfl (by exact rfl)) ?_
  refine r_nil ?_
  refine r_ret (res1 (v := .bool _) rfl (by exact rfl)) ?_
  first | exact ⟨rfl, hV⟩ | exact ⟨ret_bool (decide_eq_true ⟨he1, rfl⟩), hV⟩
 ·skip
  refine r_skip ?_
  refine r_seq ?_
  refine r_region ?_
  refine r_opcall rfl rfl rfl (run_callf (vs := []) rfl (by exact rfl) Tryz.func6 rfl (by kernel_rfl)) ixnew_calls ?_
  rintro e w6 ⟨bx6, fx6, rfl, hE6, hx6, hfx6⟩
  refine ⟨_, rfl, ?_⟩
  have hs_w6 := (hE6).size
  replace hV := evo_step0 hV hE6
  replace hl := hl0 _ hV
  replace hm := hm0 _ hV
  replace hq := hq0 _ hV
  have hfl9 := hx6.lt; have hfx9 := hfx6
  refine r_op rfl rfl rfl (run_mv (v := .slice _ _ _) rfl (by exact rfl)) ?_
  refine r_opcall rfl rfl rfl (run_callf (vs := [.slice _ _ _]) rfl (by exact rfl) Tryz.func7 rfl (by kernel_rfl)) (base15_calls hl (Y := fx6) hfl9) ?_
  rintro e w7 ⟨va7, al7, rfl, hE7, hoa7, hba7⟩
  refine ⟨_, rfl, ?_⟩
  have hs_w7 := (hE7).size
  replace hV := evo_step0 hV hE7
  replace hl := hl0 _ hV
  replace hm := hm0 _ hV
  replace hq := hq0 _ hV
  replace hx6 := hx6.evo0 hE7
  refine r_op rfl rfl rfl (run_asg (v := (.pointer (some ⟨bx6, 0, none⟩))) rfl (by exact rfl)) ?_
  refine r_op rfl rfl rfl (run_asg (v := va7) rfl (by exact rfl)) ?_
  refine r_nil ?_
  refine r_seq ?_
  have hal8 := hba7.1; have hb9 : ∀ t ∈ al7, t.length ≤ 10000 ∧ ∀ x ∈ t, x.text.length ≤ 140737488355328 := fun t ht => ⟨Nat.le_trans (hba7.mem ht).1 (by decide), fun x hx => Nat.le_trans ((hba7.mem ht).2 x hx) (by decide)⟩
  obtain ⟨aoA, gA, cpA, hvA, hra⟩ := hoa7.rowK (fun y hy => hfl9 y hy)
  subst hvA
  obtain ⟨H, hHl, hA0, he0⟩ := hdr_rows hra
  refine r_know (i := 10) (v := .slice aoA H.length cpA) (congrArg (fun n => Value.slice aoA n cpA) hHl.symm) ?_
  have hB : Evo w7 w7 fx6 := Evo.refl _ _; have hA := hA0 _ hB; have hbd_hA := hA.bd
  have b2 := hgx3 (by simp_all) (by simp_all)
  have hqt : ∀ x ∈ q, x.text.length ≤ 140737488355328 := fun x hx => Nat.le_trans (hqq x hx) (by decide)
  refine r_region ?_
  refine r_op rfl rfl rfl (run_asg (v := .slice _ _ _) rfl (by exact rfl)) ?_
  refine r_nil ?_
  refine r_seq ?_
  refine r_region ?_
  refine r_op rfl rfl rfl (run_mv (v := .slice _ _ _) rfl (by exact rfl)) ?_
  refine r_op rfl rfl rfl (run_bld (pv := [(0, .slice _ _ _)]) (zs := [_, _]) (cells := [_, _]) rfl ty_33 (by exact rfl) pl_33 (by exact rfl) (by exact rfl)) ?_
  refine r_box (vs := [_, _]) (by exact rfl) (by exact rfl) rfl ?_
  intro b8 w9 heb8 hEw9 hbb8 hzb8
  have hs_w9 := (hEw9).size
  replace hV := evo_step0 hV hEw9
  replace hB := evo_step0 hB hEw9
  replace hl := hl0 _ hV
  replace hm := hm0 _ hV
  replace hq := hq0 _ hV
  replace hx6 := hx6.evo0 hEw9
  replace hA := hA0 _ hB
  have hAb8 := hbb8.at
  refine r_op rfl rfl rfl (run_asg (v := .pointer _) rfl (by exact rfl)) ?_
  refine r_nil ?_
  refine r_seq ?_
  replace hbb8 : Blk _ _ _ [_, .int .i64 ((0 : Nat) : Int)] := hbb8; have hlt12 := hbb8.lt
  have htd3 : ((m.length : Nat) : Int).tdiv 3 = (m.length : Int) / 3 := Int.tdiv_eq_ediv_of_nonneg (by omega)
  refine r_region ?_
  refine r_op rfl rfl rfl (run_mv (v := .int _ _) rfl (by exact rfl)) ?_
  refine r_opcall rfl rfl rfl (run_callf (vs := [.int _ _, .int _ _]) rfl (by exact rfl) Tryz.func8 rfl (by kernel_rfl)) (place_calls _ _ (by omega) (by omega)) ?_
  rintro e w10 ⟨rfl, rfl⟩
  refine ⟨_, rfl, ?_⟩
  refine r_op rfl rfl rfl (run_asg (v := .int _ _) rfl (by exact rfl)) ?_
  refine r_nil ?_
  refine r_seq ?_
  refine r_seq ?_
  refine r_region ?_
  refine r_op rfl rfl rfl (run_asg (v := .int _ _) rfl (by exact rfl)) ?_
  refine r_nil ?_
  refine r_block ?_
  have hxl7 := hx6.lt
  refine r_loop (α := Nat) [8, 11, 14, 15, 16, 41, 42, 43, 44, 45, 46, 47, 48, 49, 50, 51, 52, 53, 54, 55, 56, 57, 58, 59, 60, 61, 62, 63, 64, 65] (fun k g w => ∃ vo : Value, ∃ S : Told, ∃ F : List Nat, ∃ N : Nat, g 14 = .int .i64 (k : Nat) ∧ g 11 = vo ∧ Blk w b8 33 [.slice aom m.length capm, .int .i64 ((N : Nat) : Int)] ∧ At w b8 0 [.slice aom m.length capm, .int .i64 ((N : Nat) : Int)] ∧ Idx w bx6 (stA al7 S) F ∧ OwnE w w9.heap.size 57 vo (stH H S) ∧ OkS al7.length S ∧ (S.length ≤ k ∧ N ≤ 3 * k ∧ k ≤ m.length) ∧ (∀ g ∈ F, w0.heap.size ≤ g) ∧ (∀ g ∈ F, w7.heap.size ≤ g ∨ g ∈ fx6) ∧ b8 ∉ F ∧ (∀ g, vo.ownBlock = some g → g ∉ b8 :: F) ∧ w9.heap.size ≤ w.heap.size ∧ Evo w0 w [] ∧ Evo w7 w fx6) (fun k => m.length - k) 0 ?_ ?_
  ·refine ⟨(.slice none 0 0), [], _, 0, rfl, rfl, hbb8, hAb8, hx6, (OwnE.nil _ _ _), OkS.nil, ⟨Nat.le_refl _, Nat.zero_le _, Nat.zero_le _⟩, (fun g hg => by have := hfx9 g hg; omega), (fun g hg => .inr hg), (fun h => by have := hfl9 _ h; omega), (fun g hg => by simp [Value.ownBlock] at hg), (by first | assumption | omega | (dsimp only; omega) | (simp; done)), hV, hB⟩
  ·rintro k g w12 ⟨vo, S, F, N, hj13, hj14, hbb8, hAb8, hx6, hoo, hS, hSN, hFB, hFJ, hbF, hsF, hzl11, hV, hB⟩
   have hs_w12hV := hV.size
   have hs_w12hB := hB.size
   have hlt15 := hbb8.lt
   replace hl := hl0 _ hV
   replace hm := hm0 _ hV
   replace hq := hq0 _ hV
   replace hA := hA0 _ hB
   refine r_know (i := 14) (v := .int .i64 (k : Nat)) (by exact hj13) ?_
   refine r_know (i := 11) (v := vo) (by exact hj14) ?_
   refine r_seq ?_
   refine r_seq ?_
   refine r_region ?_
   refine r_op rfl rfl rfl (run_mv (v := .int _ _) rfl (by exact rfl)) ?_
   refine r_op rfl rfl rfl (run_mv (v := .slice _ _ _) rfl (by exact rfl)) ?_
   refine r_op rfl rfl rfl (run_lenSl rfl (by exact rfl) Tryz.underlying22) ?_
   refine r_op rfl rfl rfl (run_quo rfl (by exact rfl) (by exact rfl) (by omega) (by omega) (by omega)) ?_
   refine r_op rfl rfl rfl (run_lss rfl (by exact rfl) (by exact rfl)) ?_
   refine r_nil ?_
   refine r_cond (by exact rfl) (fun hc16 => ?_) (fun hc16 => ?_)
   ·skip
    refine r_skip ?_
    refine r_seq ?_
    refine r_block ?_
    refine r_seq ?_
    refine r_region ?_
    refine r_op rfl rfl rfl (run_mv (v := (.pointer (some ⟨bx6, 0, none⟩))) rfl (by exact rfl)) ?_
    refine r_op rfl rfl rfl (run_mv (v := vo) rfl (by exact rfl)) ?_
    refine r_op rfl rfl rfl (run_mv (v := .pointer _) rfl (by exact rfl)) ?_
    refine r_op rfl rfl rfl (run_mv (v := (.slice aoA H.length cpA)) rfl (by exact rfl)) ?_
    refine r_opcall rfl rfl rfl (run_callf (vs := [(.pointer (some ⟨bx6, 0, none⟩)), vo, .pointer _, (.slice aoA H.length cpA)]) rfl (by exact rfl) Tryz.func9 rfl (by kernel_rfl)) (step15_calls (bs := b8) hx6 hoo hbb8 (fun w9 h9 => hm0 _ (evo_steps hV h9 (fun b9 hb9 => .inl (by rcases List.mem_cons.1 hb9 with h2 | h2; omega; (have := hFB b9 h2; omega))))) (fun w9 h9 => hA0 _ (evo_steps hB h9 (fun b9 hb9 => (by rcases List.mem_cons.1 hb9 with h2 | h2; exact .inl (by omega); exact hFJ b9 h2)))) (fun w9 h9 => he0 _ (evo_steps hB h9 (fun b9 hb9 => (by rcases List.mem_cons.1 hb9 with h2 | h2; exact .inl (by omega); exact hFJ b9 h2)))) hS (by omega) (by omega) hHl (by omega) hb9 hbF hsF (by omega)) ?_
    rintro e w17 ⟨v17, S17, F17, N17, rfl, hE17, hN17, hb17, hx17, hF17, hst17, hS17, hSl17, hsF17⟩
    refine ⟨_, rfl, ?_⟩
    have hs_w17 := (hE17).size
    replace hV := evo_steps hV hE17 (fun b9 hb9 => .inl (by rcases List.mem_cons.1 hb9 with h2 | h2; omega; (have := hFB b9 h2; omega)))
    replace hB := evo_steps hB hE17 (fun b9 hb9 => (by rcases List.mem_cons.1 hb9 with h2 | h2; exact .inl (by omega); exact hFJ b9 h2))
    replace hl := hl0 _ hV
    replace hm := hm0 _ hV
    replace hq := hq0 _ hV
    replace hA := hA0 _ hB
    replace hx6 := hx17; replace hbb8 := hb17; have hAb8 := hbb8.at
    refine r_op rfl rfl rfl (run_mv (v := .tuple _) rfl (by exact rfl)) ?_
    refine r_op rfl rfl rfl (run_extract (v := v17) rfl (by exact rfl) (by exact rfl)) ?_
    refine r_op rfl rfl rfl (run_extract (v := (.bool true)) rfl (by exact rfl) (by exact rfl)) ?_
    refine r_op rfl rfl rfl (run_asg (v := v17) rfl (by exact rfl)) ?_
    refine r_op rfl rfl rfl (run_asg (v := (.bool true)) rfl (by exact rfl)) ?_
    refine r_nil ?_
    refine r_seq ?_
    refine r_seq ?_
    refine r_know (i := 16) (v := .bool (decide True)) (by exact rfl) ?_
    refine r_region ?_
    refine r_op rfl rfl rfl (run_mv (v := .bool _) rfl (by exact rfl)) ?_
    refine r_op rfl rfl rfl (run_not rfl (by exact rfl)) ?_
    refine r_op rfl rfl rfl (run_mv (v := .bool _) rfl (by exact rfl)) ?_
    refine r_gyes rfl (wantF (by exact rfl)) (by exact (by simp)) ?_
    refine r_op rfl rfl rfl (run_mv (v := (.pointer (some ⟨bx6, 0, none⟩))) rfl (by exact rfl)) ?_
    refine r_gyes rfl (wantF (by exact rfl)) (by exact (by simp)) ?_
    refine r_opcall rfl rfl rfl (run_callf (vs := [(.pointer (some ⟨bx6, 0, none⟩))]) rfl (by exact rfl) Tryz.func10 rfl (by kernel_rfl)) (ixlen_calls hx6) ?_
    rintro e w18 ⟨rfl, hE18⟩
    refine ⟨_, rfl, ?_⟩
    have hs_w18 := (hE18).size
    replace hV := evo_step0 hV hE18
    replace hB := evo_step0 hB hE18
    replace hl := hl0 _ hV
    replace hm := hm0 _ hV
    replace hq := hq0 _ hV
    replace hA := hA0 _ hB
    replace hx6 := hx6.evo0 hE18
    replace hbb8 := hbb8.evo0 hE18
    replace hAb8 := hAb8.evo0 hE18
    replace hst17 := hst17.evo0 hE18
    refine r_gyes rfl (wantF (by exact rfl)) (by exact (by simp)) ?_
    refine r_op rfl rfl rfl (run_mv (v := v17) rfl (by exact rfl)) ?_
    refine r_gyes rfl (wantF (by exact rfl)) (by exact (by simp)) ?_
    refine r_op rfl rfl rfl (run_lenOE rfl (by exact rfl) Tryz.underlying30 hst17) ?_
    refine r_gyes rfl (wantF (by exact rfl)) (by exact (by simp)) ?_
    refine r_op rfl rfl rfl (run_neq rfl (by exact rfl) (by exact rfl)) ?_
    refine r_op rfl rfl rfl (run_pick_or rfl (by exact rfl) rfl (fun _ => (by exact rfl))) ?_
    refine r_nil ?_
    refine r_cond (by exact rfl) (fun hc19 => ?_) (fun hc19 => ?_)
    ·skip
     exact absurd hc19 (by simp [stA_len, stH_len])
    ·skip
     refine r_skip ?_
     refine r_region ?_
     refine r_op rfl rfl rfl (run_mv (v := v17) rfl (by exact rfl)) ?_
     refine r_op rfl rfl rfl (run_asg (v := v17) rfl (by exact rfl)) ?_
     refine r_nil ?_
     refine r_blk ?_
     refine r_region ?_
     refine r_op rfl rfl rfl (run_mv (v := .int _ _) rfl (by exact rfl)) ?_
     refine r_op rfl rfl rfl (run_add rfl (by exact rfl) (by exact rfl) (by omega) (by omega)) ?_
     refine r_op rfl rfl rfl (run_asg (v := .int _ _) rfl (by exact rfl)) ?_
     refine r_nil ?_
     refine r_again (k + 1) ?_ ?_ ?_
     ·first | omega | (dsimp only; omega)
     ·refine ⟨_, _, _, _, (congrArg (Value.int _) (by omega)), rfl, hbb8, hAb8, hx6, hst17, hS17, (by omega), (fun g hg => (hF17 g hg).elim (hFB g) (fun h => by omega)), (fun g hg => (hF17 g hg).elim (hFJ g) (fun h => .inl (by omega))), (fun h => (hF17 _ h).elim hbF (fun h => by omega)), hsF17, (by first | assumption | omega | (dsimp only; omega) | (simp; done)), hV, hB⟩
     ·repeat (first | (with_reducible exact Agree.merge _ _ _) | (with_reducible exact Agree.refl _ _) | (with_reducible refine Agree.upd ?_ _ _ rfl) | ((with_reducible refine Agree.inner ?_ ?_); (kernel_rfl)))
   ·skip
    refine r_exit rfl ?_
    refine r_seq ?_
    refine r_seq ?_
    have hsl := stA_len al7 S; have hst9 : ∀ z ∈ stA al7 S, z.2.length ≤ 1000000 := fun z hz => Nat.le_trans (hb9 _ (stA_mem hS (Nat.le_refl _) hz)).1 (by decide)
    have hQ1 : Evo w12 w12 [] := Evo.refl _ _
    obtain ⟨ao20, g20, cp20, hv20, hr20, hg20⟩ := hoo.rowOf
    subst hv20
    have hr200 := keepE hr20
    have hxl8 := hx6.lt
    refine r_region ?_
    refine r_op rfl rfl rfl (run_mv (v := .slice _ _ _) rfl (by exact rfl)) ?_
    refine r_bslice (pv := [(0, .slice _ _ _)]) (zs := [_]) (cs := [_]) Tryz.underlying28 ty_23 (by exact rfl) rfl (by exact rfl) rfl (by exact rfl) ?_
    intro b21 w22 heb21 hEw22 hbb21 hzb21
    have hs_w22 := (hEw22).size
    replace hV := evo_step0 hV hEw22
    replace hB := evo_step0 hB hEw22
    replace hQ1 := evo_step0 hQ1 hEw22
    replace hl := hl0 _ hV
    replace hm := hm0 _ hV
    replace hq := hq0 _ hV
    replace hA := hA0 _ hB
    replace hbb8 := hbb8.evo0 hEw22
    replace hAb8 := hAb8.evo0 hEw22
    replace hx6 := hx6.evo0 hEw22
    replace hr20 := hr200 _ hQ1
    have hAb21 := hbb21.at
    have hob21 : OwnE w22 w12.heap.size 23 (.slice (some ⟨b21, 0, none⟩) 1 1) (([⟨aoq, q.length, capq⟩] : List Hdr)) := ownE_lit (([⟨aoq, q.length, capq⟩] : List Hdr)) hbb21 rfl (by omega) (by simp)
    refine r_op rfl rfl rfl (run_mv (v := (.slice aoA H.length cpA)) rfl (by exact rfl)) ?_
    refine r_appendE rfl Tryz.underlying28 ty_23 (by exact rfl) hob21 (by exact rfl) (by exact rfl) hA rfl (by simp; omega) (by simp; omega) (by omega) ?_
    intro v23 w24 hEw24 hov23 hlv23
    have hs_w24 := (hEw24).size
    replace hV := evo_stepo hV hEw24 (fun g hg => .inl (by first | exact (hob21.block hg).1 | (have := hob21.block hg; omega)))
    replace hB := evo_stepo hB hEw24 (fun g hg => .inl (by first | exact (hob21.block hg).1 | (have := hob21.block hg; omega)))
    replace hQ1 := evo_stepo hQ1 hEw24 (fun g hg => .inl (by first | exact (hob21.block hg).1 | (have := hob21.block hg; omega)))
    replace hl := hl0 _ hV
    replace hm := hm0 _ hV
    replace hq := hq0 _ hV
    replace hA := hA0 _ hB
    replace hbb8 := hbb8.evo hEw24 (by intro hm; have hm2 := Option.mem_toList.1 hm; first | (have := hob21.block hm2; omega) | (simp [Value.ownBlock] at hm2; omega))
    replace hAb8 := hAb8.evo hEw24 (by intro hm; have hm2 := Option.mem_toList.1 hm; first | (have := hob21.block hm2; omega) | (simp [Value.ownBlock] at hm2; omega))
    replace hx6 := hx6.evo hEw24 (fun g hg hm => by have h1 := (hob21.block (Option.mem_toList.1 hm)).1; have := hxl8 g hg; omega)
    replace hr20 := hr200 _ hQ1
    refine r_op rfl rfl rfl (run_lenOE rfl (by exact rfl) Tryz.underlying28 hov23) ?_
    refine r_op rfl rfl rfl (run_mv (v := .int _ _) rfl (by exact rfl)) ?_
    refine r_nil ?_
    refine r_block ?_
    have hQ : Evo w24 w24 [] := Evo.refl _ _
    obtain ⟨ao25, g25, cp25, hv25, hr25, hg25⟩ := hov23.rowOf
    subst hv25
    have hr250 := keepE hr25
    have hq9 : ∀ t ∈ (q :: al7), t.length ≤ 10000 ∧ ∀ x ∈ t, x.text.length ≤ 140737488355328 := fun t ht => (List.mem_cons.1 ht).elim (fun h => h ▸ ⟨by omega, hqt⟩) (hb9 t)
    have hQ8 : (q :: al7).length ≤ 9 := by rw [List.length_cons]; omega
    have hQl : ([(⟨aoq, q.length, capq⟩ : Hdr)] ++ H).length = (q :: al7).length := by rw [List.length_append, hHl, List.length_cons]; simp; omega
    refine r_loop (α := Nat) [8, 18, 71, 72, 73, 74, 75, 76, 77, 78, 79, 80, 81, 82, 83, 84, 85] (fun j g w => g 71 = .int .i64 (j : Nat) ∧ j ≤ ([(⟨aoq, q.length, capq⟩ : Hdr)] ++ H).length ∧ Idx w bx6 (stA al7 S) F ∧ w24.heap.size ≤ w.heap.size ∧ Evo w0 w [] ∧ Evo w7 w fx6 ∧ Evo w12 w [] ∧ Evo w24 w []) (fun j => ([(⟨aoq, q.length, capq⟩ : Hdr)] ++ H).length - j) 0 ?_ ?_
    ·refine ⟨(by first | exact rfl | exact congrArg (Value.int _) (by omega) | exact congrArg (Value.int _) (by dsimp only; omega) | exact congrArg (Value.int _) (by simp) | exact congrArg S (by simp)), (by first | assumption | omega | (dsimp only; omega) | (simp; done)), hx6, (by first | assumption | omega | (dsimp only; omega) | (simp; done)), hV, hB, hQ1, hQ⟩
    ·rintro j g w27 ⟨hj28, hk_j, hx6, hzl26, hV, hB, hQ1, hQ⟩
     have hs_w27hV := hV.size
     have hs_w27hB := hB.size
     have hs_w27hQ1 := hQ1.size
     have hs_w27hQ := hQ.size
     replace hl := hl0 _ hV
     replace hm := hm0 _ hV
     replace hq := hq0 _ hV
     replace hA := hA0 _ hB
     replace hr20 := hr200 _ hQ1
     replace hr25 := hr250 _ hQ
     refine r_know (i := 71) (v := .int .i64 (j : Nat)) (by exact hj28) ?_
     refine r_seq ?_
     refine r_region ?_
     refine r_op rfl rfl rfl (run_lss rfl (by exact rfl) (by exact rfl)) ?_
     refine r_nil ?_
     refine r_seq ?_
     refine r_cond (by exact rfl) (fun hc29 => ?_) (fun hc29 => ?_)
     ·skip
      refine r_skip ?_
      refine r_seq ?_
      refine r_block ?_
      refine r_seq ?_
      refine r_region ?_
      refine r_op rfl rfl rfl (run_ix (j) rfl Tryz.underlying28 ty_23 (by exact rfl) (by exact rfl) (by first | exact rfl | omega) (by omega) (hr25.addr (i := j) (by omega))) ?_
      have hA300 := fun (w' : World) (h : Evo w24 w' []) => (hr250 w' h).atD (j) (by omega)
      have hA30 := hA300 _ hQ
      refine r_op rfl rfl rfl (run_ld1 rfl ag_23 (by exact rfl) (hA30.cell 0 (by exact rfl))) ?_
      refine r_op rfl rfl rfl (run_asg (v := .slice _ _ _) rfl (by exact rfl)) ?_
      refine r_nil ?_
      refine r_seq ?_
      have hjq : j < (q :: al7).length := (by omega); obtain ⟨b9, o9, hr9, hn9⟩ := hq_rows hq (he0 _ hB) j hjq; have hbt := hq9 _ (getD_in hjq)
      refine r_know (i := 18) (v := .slice (([(⟨aoq, q.length, capq⟩ : Hdr)] ++ H).getD j default).ao ((q :: al7).getD j default).length (([(⟨aoq, q.length, capq⟩ : Hdr)] ++ H).getD j default).cap) (congrArg (fun n => Value.slice (([(⟨aoq, q.length, capq⟩ : Hdr)] ++ H).getD j default).ao n (([(⟨aoq, q.length, capq⟩ : Hdr)] ++ H).getD j default).cap) hn9) ?_
      refine r_region ?_
      refine r_op rfl rfl rfl (run_mv (v := (.pointer (some ⟨bx6, 0, none⟩))) rfl (by exact rfl)) ?_
      refine r_op rfl rfl rfl (run_mv (v := (.slice (([(⟨aoq, q.length, capq⟩ : Hdr)] ++ H).getD j default).ao ((q :: al7).getD j default).length (([(⟨aoq, q.length, capq⟩ : Hdr)] ++ H).getD j default).cap)) rfl (by exact rfl)) ?_
      refine r_op rfl rfl rfl (run_mv (v := .int _ _) rfl (by exact rfl)) ?_
      refine r_opcall rfl rfl rfl (run_callf (vs := [(.pointer (some ⟨bx6, 0, none⟩)), (.slice (([(⟨aoq, q.length, capq⟩ : Hdr)] ++ H).getD j default).ao ((q :: al7).getD j default).length (([(⟨aoq, q.length, capq⟩ : Hdr)] ++ H).getD j default).cap), .int _ _]) rfl (by exact rfl) Tryz.func12 rfl (by kernel_rfl)) (ixcand_calls hx6 hr9 hbt.2 (by omega) (by omega) hst9) ?_
      rintro e w31 ⟨vr31, r31, rfl, hE31, hor31, hcr31⟩
      refine ⟨_, rfl, ?_⟩
      have hs_w31 := (hE31).size
      replace hV := evo_step0 hV hE31
      replace hB := evo_step0 hB hE31
      replace hQ1 := evo_step0 hQ1 hE31
      replace hQ := evo_step0 hQ hE31
      replace hl := hl0 _ hV
      replace hm := hm0 _ hV
      replace hq := hq0 _ hV
      replace hA := hA0 _ hB
      replace hr20 := hr200 _ hQ1
      replace hr25 := hr250 _ hQ
      replace hx6 := hx6.evo0 hE31
      replace hr9 := hr9.evo0 hE31
      have hc78 := hcr31
      refine r_op rfl rfl rfl (run_mv (v := .slice _ _ _) rfl (by exact rfl)) ?_
      refine r_op rfl rfl rfl (run_mv (v := (.slice (([(⟨aoq, q.length, capq⟩ : Hdr)] ++ H).getD j default).ao ((q :: al7).getD j default).length (([(⟨aoq, q.length, capq⟩ : Hdr)] ++ H).getD j default).cap)) rfl (by exact rfl)) ?_
      refine r_op rfl rfl rfl (run_mv (v := .int _ _) rfl (by exact rfl)) ?_
      refine r_opcall rfl rfl rfl (run_callf (vs := [.slice _ _ _, (.slice (([(⟨aoq, q.length, capq⟩ : Hdr)] ++ H).getD j default).ao ((q :: al7).getD j default).length (([(⟨aoq, q.length, capq⟩ : Hdr)] ++ H).getD j default).cap), .int _ _]) rfl (by exact rfl) Tryz.func13 rfl (by kernel_rfl)) (rcand_calls hr20 hr9 (fun w9 h9 => he0 _ (evo_step0 hB h9)) hS (by omega) hb9 hbt.2 hbt.1) ?_
      rintro e w32 ⟨vr32, r32, rfl, hE32, hor32, hcr32⟩
      refine ⟨_, rfl, ?_⟩
      have hs_w32 := (hE32).size
      replace hV := evo_step0 hV hE32
      replace hB := evo_step0 hB hE32
      replace hQ1 := evo_step0 hQ1 hE32
      replace hQ := evo_step0 hQ hE32
      replace hl := hl0 _ hV
      replace hm := hm0 _ hV
      replace hq := hq0 _ hV
      replace hA := hA0 _ hB
      replace hr20 := hr200 _ hQ1
      replace hr25 := hr250 _ hQ
      replace hx6 := hx6.evo0 hE32
      replace hr9 := hr9.evo0 hE32
      replace hor31 := hor31.evo0 hE32
      have hc82 := hcr32
      obtain ⟨ao33, g33, cp33, hv33, hr33, hg33⟩ := hor31.rowOf
      subst hv33
      obtain ⟨ao34, g34, cp34, hv34, hr34, hg34⟩ := hor32.rowOf
      subst hv34
      refine r_opcall rfl rfl rfl (run_callf (vs := [.slice _ _ _, .slice _ _ _]) rfl (by exact rfl) Tryz.func11 rfl (by kernel_rfl)) (sameints_calls hr33 hr34) ?_
      rintro e w35 ⟨rfl, hE35⟩
      refine ⟨_, rfl, ?_⟩
      have hs_w35 := (hE35).size
      replace hV := evo_step0 hV hE35
      replace hB := evo_step0 hB hE35
      replace hQ1 := evo_step0 hQ1 hE35
      replace hQ := evo_step0 hQ hE35
      replace hl := hl0 _ hV
      replace hm := hm0 _ hV
      replace hq := hq0 _ hV
      replace hA := hA0 _ hB
      replace hr20 := hr200 _ hQ1
      replace hr25 := hr250 _ hQ
      replace hx6 := hx6.evo0 hE35
      replace hr9 := hr9.evo0 hE35
      replace hor31 := hor31.evo0 hE35
      replace hor32 := hor32.evo0 hE35
      replace hr33 := hr33.evo0 hE35
      replace hr34 := hr34.evo0 hE35
      refine r_op rfl rfl rfl (run_not rfl (by exact rfl)) ?_
      refine r_nil ?_
      refine r_cond (by exact rfl) (fun hc36 => ?_) (fun hc36 => ?_)
      ·skip
       exact absurd (candR_same hc78 hc82) hc36
      ·skip
       refine r_skip ?_
       refine r_blk ?_
       refine r_region ?_
       refine r_op rfl rfl rfl (run_add rfl (by exact rfl) (by exact rfl) (by omega) (by omega)) ?_
       refine r_op rfl rfl rfl (run_mv (v := .int _ _) rfl (by exact rfl)) ?_
       refine r_nil ?_
       refine r_again (j + 1) ?_ ?_ ?_
       ·first | omega | (dsimp only; omega)
       ·refine ⟨(by first | exact rfl | exact congrArg (Value.int _) (by omega) | exact congrArg (Value.int _) (by dsimp only; omega) | exact congrArg (Value.int _) (by simp) | exact congrArg S (by simp)), (by first | assumption | omega | (dsimp only; omega) | (simp; done)), hx6, (by first | assumption | omega | (dsimp only; omega) | (simp; done)), hV, hB, hQ1, hQ⟩
       ·repeat (first | (with_reducible exact Agree.merge _ _ _) | (with_reducible exact Agree.refl _ _) | (with_reducible refine Agree.upd ?_ _ _ rfl) | ((with_reducible refine Agree.inner ?_ ?_); (kernel_rfl)))
     ·skip
      refine r_exit rfl ?_
      refine r_seq ?_
      refine r_region ?_
      refine r_op rfl rfl rfl (run_mv (v := (.pointer (some ⟨bx6, 0, none⟩))) rfl (by exact rfl)) ?_
      refine r_op rfl rfl rfl (run_mv (v := .slice _ _ _) rfl (by exact rfl)) ?_
      refine r_op rfl rfl rfl (run_mv (v := .int _ _) rfl (by exact rfl)) ?_
      refine r_opcall rfl rfl rfl (run_callf (vs := [(.pointer (some ⟨bx6, 0, none⟩)), .slice _ _ _, .int _ _]) rfl (by exact rfl) Tryz.func12 rfl (by kernel_rfl)) (ixcand_calls hx6 hq hqt (by omega) (by omega) hst9) ?_
      rintro e w37 ⟨vr37, r37, rfl, hE37, hor37, hcr37⟩
      refine ⟨_, rfl, ?_⟩
      have hs_w37 := (hE37).size
      replace hV := evo_step0 hV hE37
      replace hB := evo_step0 hB hE37
      replace hQ1 := evo_step0 hQ1 hE37
      replace hQ := evo_step0 hQ hE37
      replace hl := hl0 _ hV
      replace hm := hm0 _ hV
      replace hq := hq0 _ hV
      replace hA := hA0 _ hB
      replace hr20 := hr200 _ hQ1
      replace hr25 := hr250 _ hQ
      replace hx6 := hx6.evo0 hE37
      have hc89 := hcr37
      refine r_op rfl rfl rfl (run_mv (v := .slice _ _ _) rfl (by exact rfl)) ?_
      refine r_op rfl rfl rfl (run_mv (v := .slice _ _ _) rfl (by exact rfl)) ?_
      refine r_op rfl rfl rfl (run_mv (v := .int _ _) rfl (by exact rfl)) ?_
      refine r_opcall rfl rfl rfl (run_callf (vs := [.slice _ _ _, .slice _ _ _, .int _ _]) rfl (by exact rfl) Tryz.func13 rfl (by kernel_rfl)) (rcand_calls hr20 hq (fun w9 h9 => he0 _ (evo_step0 hB h9)) hS (by omega) hb9 hqt (by omega)) ?_
      rintro e w38 ⟨vr38, r38, rfl, hE38, hor38, hcr38⟩
      refine ⟨_, rfl, ?_⟩
      have hs_w38 := (hE38).size
      replace hV := evo_step0 hV hE38
      replace hB := evo_step0 hB hE38
      replace hQ1 := evo_step0 hQ1 hE38
      replace hQ := evo_step0 hQ hE38
      replace hl := hl0 _ hV
      replace hm := hm0 _ hV
      replace hq := hq0 _ hV
      replace hA := hA0 _ hB
      replace hr20 := hr200 _ hQ1
      replace hr25 := hr250 _ hQ
      replace hx6 := hx6.evo0 hE38
      replace hor37 := hor37.evo0 hE38
      have hc93 := hcr38; have he1 := candR_same hc89 hc93
      obtain ⟨ao39, g39, cp39, hv39, hr39, hg39⟩ := hor37.rowOf
      subst hv39
      obtain ⟨ao40, g40, cp40, hv40, hr40, hg40⟩ := hor38.rowOf
      subst hv40
      refine r_opcall rfl rfl rfl (run_callf (vs := [.slice _ _ _, .slice _ _ _]) rfl (by exact rfl) Tryz.func11 rfl (by kernel_rfl)) (sameints_calls hr39 hr40) ?_
      rintro e w41 ⟨rfl, hE41⟩
      refine ⟨_, rfl, ?_⟩
      have hs_w41 := (hE41).size
      replace hV := evo_step0 hV hE41
      replace hB := evo_step0 hB hE41
      replace hQ1 := evo_step0 hQ1 hE41
      replace hQ := evo_step0 hQ hE41
      replace hl := hl0 _ hV
      replace hm := hm0 _ hV
      replace hq := hq0 _ hV
      replace hA := hA0 _ hB
      replace hr20 := hr200 _ hQ1
      replace hr25 := hr250 _ hQ
      replace hx6 := hx6.evo0 hE41
      replace hor37 := hor37.evo0 hE41
      replace hor38 := hor38.evo0 hE41
      replace hr39 := hr39.evo0 hE41
      replace hr40 := hr40.evo0 hE41
      refine r_op rfl rfl rfl (run_mv (v := .bool _) rfl (by exact rfl)) ?_
      refine r_gyes rfl (wantT (by exact rfl)) (by exact he1) ?_
      refine r_opcall rfl rfl rfl (run_callf (vs := []) rfl (by exact rfl) Tryz.func5 rfl (by kernel_rfl)) known15_calls ?_
      rintro e w42 ⟨rfl, hE42⟩
      refine ⟨_, rfl, ?_⟩
      have hs_w42 := (hE42).size
      replace hV := evo_step0 hV hE42
      replace hB := evo_step0 hB hE42
      replace hQ1 := evo_step0 hQ1 hE42
      replace hQ := evo_step0 hQ hE42
      replace hl := hl0 _ hV
      replace hm := hm0 _ hV
      replace hq := hq0 _ hV
      replace hA := hA0 _ hB
      replace hr20 := hr200 _ hQ1
      replace hr25 := hr250 _ hQ
      replace hx6 := hx6.evo0 hE42
      replace hor37 := hor37.evo0 hE42
      replace hor38 := hor38.evo0 hE42
      replace hr39 := hr39.evo0 hE42
      replace hr40 := hr40.evo0 hE42
      refine r_op rfl rfl rfl (run_pick_andB rfl (by exact rfl) (fun _ => (by exact rfl)) rfl) ?_
      refine r_op rfl rfl rfl (run_asg (v := .bool _) rfl (by exact rfl)) ?_
      refine r_nil ?_
      refine r_ret (res1 (v := .bool _) rfl (by exact rfl)) ?_
      first | exact ⟨rfl, hV⟩ | exact ⟨ret_bool (decide_eq_true ⟨he1, rfl⟩), hV⟩
end Go.Proofs.YthbcklajlmcifaaGreat
