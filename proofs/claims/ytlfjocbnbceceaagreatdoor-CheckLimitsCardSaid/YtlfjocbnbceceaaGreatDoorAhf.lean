/-
  Library, plain laws and walks that the statements reach (joined by a program out of smaller texts).
-/
import Derived.Test.YtlfjocbnbceceaaGreatDoorAhe
import Derived.Test.YtlfjocbnbceceaaGreatDoorAha
import Derived.Deep.Strs
import Derived.OpenShut
set_option linter.unusedVariables false
set_option linter.unusedSimpArgs false
namespace Go.Proofs.YtlfjocbnbceceaaGreatDoor
open Go.RowKit Go.Vc
theorem tdiv4 (x : Int) : -((x.natAbs / 4 : Nat) : Int) ≤ x.tdiv 4 ∧ x.tdiv 4 ≤ ((x.natAbs / 4 : Nat) : Int) := by
  have h := Int.natAbs_tdiv x 4
  have h2 : x.natAbs.div (Int.natAbs 4) = x.natAbs / 4 := rfl
  omega
def limG (n : Nat) : List Vc.Item := if n = 0 then [] else [⟨1, ([120, 120, 120, 120, 120, 120, 120, 120, 120, 120, 120, 120, 120, 120, 120, 120, 120, 120, 120, 120, 120, 120, 120, 120] : Str).take n, 0⟩]
theorem limG_tiny (n : Nat) : Tiny (limG n) := by
  have h : (([120, 120, 120, 120, 120, 120, 120, 120, 120, 120, 120, 120, 120, 120, 120, 120, 120, 120, 120, 120, 120, 120, 120, 120] : Str).take n).length ≤ 24 := List.length_take_le' _ _
  unfold limG; split
  · exact k_tiny.2.2.2
  · exact ⟨by show 1 ≤ 1000; decide, by unfold sizeL; simp only [List.map_cons, List.map_nil, List.sum_cons, List.sum_nil]; omega⟩
theorem limG_no (n : Nat) : ∀ x ∈ tagsL (limG n), InR x := by
  unfold limG; split
  · exact fun x hx => absurd hx List.not_mem_nil
  · intro x hx; exact absurd hx (by unfold tagsL isTag; simp)
theorem limS_tiny : Tiny ([⟨1, ([121, 121, 121, 121, 121, 121, 121, 121, 121, 121] : Str), 0⟩] : List Vc.Item) := by unfold Tiny; decide
theorem limS_no : ∀ x ∈ tagsL ([⟨1, ([121, 121, 121, 121, 121, 121, 121, 121, 121, 121] : Str), 0⟩] : List Vc.Item), InR x := by
  intro x hx; exact absurd hx (by unfold tagsL isTag; simp)
theorem lim_all {n : Nat} (hn : n < 24) : runF dLim ([⟨1, ([121, 121, 121, 121, 121, 121, 121, 121, 121, 121] : Str), 0⟩] : List Vc.Item) (limG n) = if n = 0 ∨ (5 ≤ n ∧ n ≤ 20) then [] else if n < 5 then [⟨12, shortW, 0⟩] else [⟨12, longW, 0⟩] := by
  unfold limG
  by_cases h : n = 0
  · rw [if_pos h, if_pos (.inl h)]; exact lim_nil _
  · rw [if_neg h, lim_run (by decide)]
    have hl : (([120, 120, 120, 120, 120, 120, 120, 120, 120, 120, 120, 120, 120, 120, 120, 120, 120, 120, 120, 120, 120, 120, 120, 120] : Str).take n).length = n := by rw [List.length_take]; show min n 24 = n; omega
    rw [hl]
    by_cases h1 : 20 < n
    · rw [if_pos h1, if_neg (by omega), if_neg (by omega)]
    · rw [if_neg h1]
      by_cases h2 : n < 5
      · rw [if_pos h2, if_neg (by omega), if_pos h2]
      · rw [if_neg h2, if_pos (by omega)]
set_option maxHeartbeats 8000000 in
theorem klimits_law {sh9 lo9 lv9 sz9 : Int} {w0 : World} (htab : Tab w0) (hlv : -9223372036854775808 ≤ lv9 ∧ lv9 ≤ 9223372036854775807) :
    Calls Tryz.prog 3 #[.int .i64 sh9, .int .i64 lo9, .int .i64 lv9, .int .i64 sz9] w0 fun e w' => e = .returned (.bool true) ∧ Evo w0 w' [] := by
 refine calls_enter (n := 90) Tryz.func3 rfl Tryz.ntmps3 rfl ?_
 have hV : Evo w0 w0 [] := Evo.refl _ _
 refine Zs ?_
 refine Zn rfl (asB rfl) ?_
 refine r_seq ?_
 have e1 := (⟨Int.emod_nonneg (sh9) (show (4 : Int) ≠ 0 by decide), Int.emod_lt_of_pos (sh9) (show (0 : Int) < 4 by decide)⟩ : 0 ≤ (sh9) % 4 ∧ (sh9) % 4 < 4); have e2 := (⟨Int.emod_nonneg (lo9) (show (6 : Int) ≠ 0 by decide), Int.emod_lt_of_pos (lo9) (show (0 : Int) < 6 by decide)⟩ : 0 ≤ (lo9) % 6 ∧ (lo9) % 6 < 6); have e3 := (⟨Int.emod_nonneg (lv9) (show (4 : Int) ≠ 0 by decide), Int.emod_lt_of_pos (lv9) (show (0 : Int) < 4 by decide)⟩ : 0 ≤ (lv9) % 4 ∧ (lv9) % 4 < 4); have e4 := (⟨Int.emod_nonneg (sz9) (show (24 : Int) ≠ 0 by decide), Int.emod_lt_of_pos (sz9) (show (0 : Int) < 24 by decide)⟩ : 0 ≤ (sz9) % 24 ∧ (sz9) % 24 < 24)
 refine r_cut [9, 14, 15, 16, 17, 18, 19, 20, 21, 22, 23, 24] (fun g w => ∃ bq : Nat, ∃ sx : Int, ∃ lx : Int, g 9 = .pointer (some ⟨bq, 0, none⟩) ∧ Blk w bq 28 [.int .i64 0, .int .i64 0, .int .i64 0, .int .i64 0, .int .i64 0, .int .i64 0, .int .i64 0, .int .i64 0, .int .i64 0, .int .i64 0, .int .i64 0, .int .i64 0, .int .i64 0, .int .i64 sx, .int .i64 lx, .slice none 0 0, .slice none 0 0] ∧ At w bq 0 [.int .i64 0, .int .i64 0, .int .i64 0, .int .i64 0, .int .i64 0, .int .i64 0, .int .i64 0, .int .i64 0, .int .i64 0, .int .i64 0, .int .i64 0, .int .i64 0, .int .i64 0, .int .i64 sx, .int .i64 lx, .slice none 0 0, .slice none 0 0] ∧ w0.heap.size ≤ bq ∧ w0.heap.size ≤ w.heap.size ∧ Evo w0 w []) ?_ ?_
 ·skip
  have hV_q := hV
  refine h_region ([]) (by kernel_rfl) ?_
  intro w2 hE3 hCst1
  have Q2 := hE3.size
  replace hV := Z0 hV hE3
  refine h_take (i := 1) rfl rfl rfl rfl (by kernel_rfl) (fun w' hC => run_mv (v := .int _ _) rfl rfl) hCst1 ?_
  refine h_takeC (i := 2) rfl rfl rfl rfl (by kernel_rfl) (fun w' hC => ⟨_, _, run_callf (vs := [.int _ _, .int _ _]) rfl (by exact rfl) Tryz.func11 rfl (by kernel_rfl), (place_calls _ _ (by omega) (by omega)).mono (fun e w'' h => ⟨h.1, h.2.symm⟩)⟩) hCst1 ?_
  refine h_take (i := 6) rfl rfl rfl rfl (by kernel_rfl) (fun w' hC => run_mv (v := .int _ _) rfl rfl) hCst1 ?_
  refine h_takeC (i := 7) rfl rfl rfl rfl (by kernel_rfl) (fun w' hC => ⟨_, _, run_callf (vs := [.int _ _, .int _ _]) rfl (by exact rfl) Tryz.func11 rfl (by kernel_rfl), (place_calls _ _ (by omega) (by omega)).mono (fun e w'' h => ⟨h.1, h.2.symm⟩)⟩) hCst1 ?_
  refine h_three (i := 0) (j := 5) (p := 11) (by kernel_rfl) ?_ ?_ ?_
  ·skip
   refine h_do rfl ?_
   refine r_bslice (pv := [(0, .int _ _), (1, .int _ _), (2, .int _ _), (3, .int _ _)]) (zs := [_]) (cs := [_, _, _, _]) Tryz.underlying22 ty_3 rfl rfl rfl rfl rfl ?_
   intro b4 w5 J4 E5 B4 Y4
   have Q5 := E5.size
   replace hV := Z0 hV E5
   replace hCst1 := Z0 hCst1 E5
   have hrb4 : RowE w5 (some ⟨b4, 0, none⟩) b4 0 4 ([-1, 0, 100, 101] : List Int) := rowLit ([-1, 0, 100, 101] : List Int) B4 rfl rfl
   refine h_next hCst1 ?_
   refine h_take (i := 3) rfl rfl rfl rfl (by kernel_rfl) (fun w' hC => run_ix ((sh9 % 4).toNat) rfl Tryz.underlying22 ty_3 rfl rfl (by omega) (by show _ < 4; omega) (hrb4.addr (i := (sh9 % 4).toNat) (by show _ < 4; omega))) hCst1 ?_
   have hA6 := hrb4.atD ((sh9 % 4).toNat) (by show _ < 4; omega)
   refine h_three (i := 4) (j := 5) (p := 11) (by kernel_rfl) ?_ ?_ ?_
   ·skip
    refine h_do rfl ?_
    refine Zo rfl (run_ld1 rfl ag_3 rfl (hA6.cell 0 rfl)) ?_
    refine h_next hCst1 ?_
    refine h_two (i := 5) (j := 11) (by kernel_rfl) ?_ ?_
    ·skip
     refine h_do rfl ?_
     refine r_bslice (pv := [(0, .int _ _), (1, .int _ _), (2, .int _ _), (3, .int _ _), (4, .int _ _), (5, .int _ _)]) (zs := [_]) (cs := [_, _, _, _, _, _]) Tryz.underlying22 ty_3 rfl rfl rfl rfl rfl ?_
     intro b7 w8 J7 E8 B7 Y7
     have Q8 := E8.size
     replace hV := Z0 hV E8
     replace hCst1 := Z0 hCst1 E8
     replace hrb4 := hrb4.evo0 E8
     have hrb7 : RowE w8 (some ⟨b7, 0, none⟩) b7 0 6 ([-1, 0, 99, 100, 10000, 10001] : List Int) := rowLit ([-1, 0, 99, 100, 10000, 10001] : List Int) B7 rfl rfl
     refine h_next hCst1 ?_
     refine h_take (i := 8) rfl rfl rfl rfl (by kernel_rfl) (fun w' hC => run_ix ((lo9 % 6).toNat) rfl Tryz.underlying22 ty_3 rfl rfl (by omega) (by show _ < 6; omega) (hrb7.addr (i := (lo9 % 6).toNat) (by show _ < 6; omega))) hCst1 ?_
     have hA9 := hrb7.atD ((lo9 % 6).toNat) (by show _ < 6; omega)
     refine h_two (i := 9) (j := 11) (by kernel_rfl) ?_ ?_
     ·skip
      refine h_do rfl ?_
      refine Zo rfl (run_ld1 rfl ag_3 rfl (hA9.cell 0 rfl)) ?_
      refine h_next hCst1 ?_
      refine h_take (i := 10) rfl rfl rfl rfl (by kernel_rfl) (fun w' hC => run_bld (pv := [(1, .int _ _), (2, .int _ _)]) (zs := [_, _, _, _, _, _, _, _, _, _, _, _, _, _, _, _, _]) (cells := [_, _, _, _, _, _, _, _, _, _, _, _, _, _, _, _, _]) rfl ty_28 rfl pl_28 rfl rfl) hCst1 ?_
      refine h_one (i := 11) (by kernel_rfl) ?_
      refine h_do rfl ?_
      refine r_alloc (zs := [_, _, _, _, _, _, _, _, _, _, _, _, _, _, _, _, _]) ty_28 rfl rfl ?_
      intro b10 w11 J10 E11 B10 Y10
      have Q11 := E11.size
      replace hV := Z0 hV E11
      replace hCst1 := Z0 hCst1 E11
      replace hrb4 := hrb4.evo0 E11
      replace hrb7 := hrb7.evo0 E11
      refine h_next hCst1 ?_
      refine h_one (i := 12) (by kernel_rfl) ?_
      refine h_do rfl ?_
      refine r_store (v := .agg _) (vs := [_, _, _, _, _, _, _, _, _, _, _, _, _, _, _, _, _]) (cs' := [_, _, _, _, _, _, _, _, _, _, _, _, _, _, _, _, _]) rfl rfl B10 ty_28 rfl rfl rfl rfl rfl ?_
      intro w12 E12 V12 hb_new
      have Q12 := E12.size
      replace hV := Z1 hV E12 (by first | exact .inl (by omega) | exact .inr (by simp))
      replace B10 := hb_new
      clear hb_new
      refine h_last (by kernel_rfl) ?_
      refine h_done (by kernel_rfl) ?_
      refine r_cut_end ?_ ?_
      ·refine ⟨_, _, _, rfl, B10, B10.at, (by omega), (by first | assumption | omega | (dsimp only; omega) | (simp; done)), hV⟩
      repeat (first | (with_reducible exact Agree.merge _ _ _) | (with_reducible exact Agree.refl _ _) | (with_reducible refine Agree.upd ?_ _ _ rfl) | ((with_reducible refine Agree.inner ?_ ?_); (kernel_rfl)))
     refine h_do rfl ?_
     refine r_alloc (zs := [_, _, _, _, _, _, _, _, _, _, _, _, _, _, _, _, _]) ty_28 rfl rfl ?_
     intro b13 w14 J13 E14 B13 Y13
     have Q14 := E14.size
     replace hV := Z0 hV E14
     replace hCst1 := Z0 hCst1 E14
     replace hrb4 := hrb4.evo0 E14
     replace hrb7 := hrb7.evo0 E14
     replace hA9 := hA9.evo0 E14
     refine h_next hCst1 ?_
     refine h_one (i := 9) (by kernel_rfl) ?_
     refine h_do rfl ?_
     refine Zo rfl (run_ld1 rfl ag_3 rfl (hA9.cell 0 rfl)) ?_
     refine h_next hCst1 ?_
     refine h_take (i := 10) rfl rfl rfl rfl (by kernel_rfl) (fun w' hC => run_bld (pv := [(1, .int _ _), (2, .int _ _)]) (zs := [_, _, _, _, _, _, _, _, _, _, _, _, _, _, _, _, _]) (cells := [_, _, _, _, _, _, _, _, _, _, _, _, _, _, _, _, _]) rfl ty_28 rfl pl_28 rfl rfl) hCst1 ?_
     refine h_one (i := 12) (by kernel_rfl) ?_
     refine h_do rfl ?_
     refine r_store (v := .agg _) (vs := [_, _, _, _, _, _, _, _, _, _, _, _, _, _, _, _, _]) (cs' := [_, _, _, _, _, _, _, _, _, _, _, _, _, _, _, _, _]) rfl rfl B13 ty_28 rfl rfl rfl rfl rfl ?_
     intro w15 E15 V15 hb_new
     have Q15 := E15.size
     replace hV := Z1 hV E15 (by first | exact .inl (by omega) | exact .inr (by simp))
     replace B13 := hb_new
     clear hb_new
     refine h_last (by kernel_rfl) ?_
     refine h_done (by kernel_rfl) ?_
     refine r_cut_end ?_ ?_
     ·refine ⟨_, _, _, rfl, B13, B13.at, (by omega), (by first | assumption | omega | (dsimp only; omega) | (simp; done)), hV⟩
     repeat (first | (with_reducible exact Agree.merge _ _ _) | (with_reducible exact Agree.refl _ _) | (with_reducible refine Agree.upd ?_ _ _ rfl) | ((with_reducible refine Agree.inner ?_ ?_); (kernel_rfl)))
    refine h_do rfl ?_
    refine r_alloc (zs := [_, _, _, _, _, _, _, _, _, _, _, _, _, _, _, _, _]) ty_28 rfl rfl ?_
    intro b16 w17 J16 E17 B16 Y16
    have Q17 := E17.size
    replace hV := Z0 hV E17
    replace hCst1 := Z0 hCst1 E17
    replace hrb4 := hrb4.evo0 E17
    refine h_next hCst1 ?_
    refine h_one (i := 5) (by kernel_rfl) ?_
    refine h_do rfl ?_
    refine r_bslice (pv := [(0, .int _ _), (1, .int _ _), (2, .int _ _), (3, .int _ _), (4, .int _ _), (5, .int _ _)]) (zs := [_]) (cs := [_, _, _, _, _, _]) Tryz.underlying22 ty_3 rfl rfl rfl rfl rfl ?_
    intro b18 w19 J18 E19 B18 Y18
    have Q19 := E19.size
    replace hV := Z0 hV E19
    replace hCst1 := Z0 hCst1 E19
    replace hrb4 := hrb4.evo0 E19
    replace B16 := B16.evo0 E19
    have hrb18 : RowE w19 (some ⟨b18, 0, none⟩) b18 0 6 ([-1, 0, 99, 100, 10000, 10001] : List Int) := rowLit ([-1, 0, 99, 100, 10000, 10001] : List Int) B18 rfl rfl
    refine h_next hCst1 ?_
    refine h_take (i := 8) rfl rfl rfl rfl (by kernel_rfl) (fun w' hC => run_ix ((lo9 % 6).toNat) rfl Tryz.underlying22 ty_3 rfl rfl (by omega) (by show _ < 6; omega) (hrb18.addr (i := (lo9 % 6).toNat) (by show _ < 6; omega))) hCst1 ?_
    have hA20 := hrb18.atD ((lo9 % 6).toNat) (by show _ < 6; omega)
    refine h_one (i := 9) (by kernel_rfl) ?_
    refine h_do rfl ?_
    refine Zo rfl (run_ld1 rfl ag_3 rfl (hA20.cell 0 rfl)) ?_
    refine h_next hCst1 ?_
    refine h_take (i := 10) rfl rfl rfl rfl (by kernel_rfl) (fun w' hC => run_bld (pv := [(1, .int _ _), (2, .int _ _)]) (zs := [_, _, _, _, _, _, _, _, _, _, _, _, _, _, _, _, _]) (cells := [_, _, _, _, _, _, _, _, _, _, _, _, _, _, _, _, _]) rfl ty_28 rfl pl_28 rfl rfl) hCst1 ?_
    refine h_one (i := 12) (by kernel_rfl) ?_
    refine h_do rfl ?_
    refine r_store (v := .agg _) (vs := [_, _, _, _, _, _, _, _, _, _, _, _, _, _, _, _, _]) (cs' := [_, _, _, _, _, _, _, _, _, _, _, _, _, _, _, _, _]) rfl rfl B16 ty_28 rfl rfl rfl rfl rfl ?_
    intro w21 E21 V21 hb_new
    have Q21 := E21.size
    replace hV := Z1 hV E21 (by first | exact .inl (by omega) | exact .inr (by simp))
    replace B16 := hb_new
    clear hb_new
    refine h_last (by kernel_rfl) ?_
    refine h_done (by kernel_rfl) ?_
    refine r_cut_end ?_ ?_
    ·refine ⟨_, _, _, rfl, B16, B16.at, (by omega), (by first | assumption | omega | (dsimp only; omega) | (simp; done)), hV⟩
    repeat (first | (with_reducible exact Agree.merge _ _ _) | (with_reducible exact Agree.refl _ _) | (with_reducible refine Agree.upd ?_ _ _ rfl) | ((with_reducible refine Agree.inner ?_ ?_); (kernel_rfl)))
   ·skip
    refine h_do rfl ?_
    refine r_bslice (pv := [(0, .int _ _), (1, .int _ _), (2, .int _ _), (3, .int _ _), (4, .int _ _), (5, .int _ _)]) (zs := [_]) (cs := [_, _, _, _, _, _]) Tryz.underlying22 ty_3 rfl rfl rfl rfl rfl ?_
    intro b22 w23 J22 E23 B22 Y22
    have Q23 := E23.size
    replace hV := Z0 hV E23
    replace hCst1 := Z0 hCst1 E23
    replace hrb4 := hrb4.evo0 E23
    replace hA6 := hA6.evo0 E23
    have hrb22 : RowE w23 (some ⟨b22, 0, none⟩) b22 0 6 ([-1, 0, 99, 100, 10000, 10001] : List Int) := rowLit ([-1, 0, 99, 100, 10000, 10001] : List Int) B22 rfl rfl
    refine h_next hCst1 ?_
    refine h_take (i := 8) rfl rfl rfl rfl (by kernel_rfl) (fun w' hC => run_ix ((lo9 % 6).toNat) rfl Tryz.underlying22 ty_3 rfl rfl (by omega) (by show _ < 6; omega) (hrb22.addr (i := (lo9 % 6).toNat) (by show _ < 6; omega))) hCst1 ?_
    have hA24 := hrb22.atD ((lo9 % 6).toNat) (by show _ < 6; omega)
    refine h_three (i := 4) (j := 9) (p := 11) (by kernel_rfl) ?_ ?_ ?_
    ·skip
     refine h_do rfl ?_
     refine Zo rfl (run_ld1 rfl ag_3 rfl (hA6.cell 0 rfl)) ?_
     refine h_next hCst1 ?_
     refine h_two (i := 9) (j := 11) (by kernel_rfl) ?_ ?_
     ·skip
      refine h_do rfl ?_
      refine Zo rfl (run_ld1 rfl ag_3 rfl (hA24.cell 0 rfl)) ?_
      refine h_next hCst1 ?_
      refine h_take (i := 10) rfl rfl rfl rfl (by kernel_rfl) (fun w' hC => run_bld (pv := [(1, .int _ _), (2, .int _ _)]) (zs := [_, _, _, _, _, _, _, _, _, _, _, _, _, _, _, _, _]) (cells := [_, _, _, _, _, _, _, _, _, _, _, _, _, _, _, _, _]) rfl ty_28 rfl pl_28 rfl rfl) hCst1 ?_
      refine h_one (i := 11) (by kernel_rfl) ?_
      refine h_do rfl ?_
      refine r_alloc (zs := [_, _, _, _, _, _, _, _, _, _, _, _, _, _, _, _, _]) ty_28 rfl rfl ?_
      intro b25 w26 J25 E26 B25 Y25
      have Q26 := E26.size
      replace hV := Z0 hV E26
      replace hCst1 := Z0 hCst1 E26
      replace hrb4 := hrb4.evo0 E26
      replace hrb22 := hrb22.evo0 E26
      refine h_next hCst1 ?_
      refine h_one (i := 12) (by kernel_rfl) ?_
      refine h_do rfl ?_
      refine r_store (v := .agg _) (vs := [_, _, _, _, _, _, _, _, _, _, _, _, _, _, _, _, _]) (cs' := [_, _, _, _, _, _, _, _, _, _, _, _, _, _, _, _, _]) rfl rfl B25 ty_28 rfl rfl rfl rfl rfl ?_
      intro w27 E27 V27 hb_new
      have Q27 := E27.size
      replace hV := Z1 hV E27 (by first | exact .inl (by omega) | exact .inr (by simp))
      replace B25 := hb_new
      clear hb_new
      refine h_last (by kernel_rfl) ?_
      refine h_done (by kernel_rfl) ?_
      refine r_cut_end ?_ ?_
      ·refine ⟨_, _, _, rfl, B25, B25.at, (by omega), (by first | assumption | omega | (dsimp only; omega) | (simp; done)), hV⟩
      repeat (first | (with_reducible exact Agree.merge _ _ _) | (with_reducible exact Agree.refl _ _) | (with_reducible refine Agree.upd ?_ _ _ rfl) | ((with_reducible refine Agree.inner ?_ ?_); (kernel_rfl)))
     refine h_do rfl ?_
     refine r_alloc (zs := [_, _, _, _, _, _, _, _, _, _, _, _, _, _, _, _, _]) ty_28 rfl rfl ?_
     intro b28 w29 J28 E29 B28 Y28
     have Q29 := E29.size
     replace hV := Z0 hV E29
     replace hCst1 := Z0 hCst1 E29
     replace hrb4 := hrb4.evo0 E29
     replace hrb22 := hrb22.evo0 E29
     replace hA24 := hA24.evo0 E29
     refine h_next hCst1 ?_
     refine h_one (i := 9) (by kernel_rfl) ?_
     refine h_do rfl ?_
     refine Zo rfl (run_ld1 rfl ag_3 rfl (hA24.cell 0 rfl)) ?_
     refine h_next hCst1 ?_
     refine h_take (i := 10) rfl rfl rfl rfl (by kernel_rfl) (fun w' hC => run_bld (pv := [(1, .int _ _), (2, .int _ _)]) (zs := [_, _, _, _, _, _, _, _, _, _, _, _, _, _, _, _, _]) (cells := [_, _, _, _, _, _, _, _, _, _, _, _, _, _, _, _, _]) rfl ty_28 rfl pl_28 rfl rfl) hCst1 ?_
     refine h_one (i := 12) (by kernel_rfl) ?_
     refine h_do rfl ?_
     refine r_store (v := .agg _) (vs := [_, _, _, _, _, _, _, _, _, _, _, _, _, _, _, _, _]) (cs' := [_, _, _, _, _, _, _, _, _, _, _, _, _, _, _, _, _]) rfl rfl B28 ty_28 rfl rfl rfl rfl rfl ?_
     intro w30 E30 V30 hb_new
     have Q30 := E30.size
     replace hV := Z1 hV E30 (by first | exact .inl (by omega) | exact .inr (by simp))
     replace B28 := hb_new
     clear hb_new
     refine h_last (by kernel_rfl) ?_
     refine h_done (by kernel_rfl) ?_
     refine r_cut_end ?_ ?_
     ·refine ⟨_, _, _, rfl, B28, B28.at, (by omega), (by first | assumption | omega | (dsimp only; omega) | (simp; done)), hV⟩
     repeat (first | (with_reducible exact Agree.merge _ _ _) | (with_reducible exact Agree.refl _ _) | (with_reducible refine Agree.upd ?_ _ _ rfl) | ((with_reducible refine Agree.inner ?_ ?_); (kernel_rfl)))
    ·skip
     refine h_do rfl ?_
     refine Zo rfl (run_ld1 rfl ag_3 rfl (hA24.cell 0 rfl)) ?_
     refine h_next hCst1 ?_
     refine h_two (i := 4) (j := 11) (by kernel_rfl) ?_ ?_
     ·skip
      refine h_do rfl ?_
      refine Zo rfl (run_ld1 rfl ag_3 rfl (hA6.cell 0 rfl)) ?_
      refine h_next hCst1 ?_
      refine h_take (i := 10) rfl rfl rfl rfl (by kernel_rfl) (fun w' hC => run_bld (pv := [(1, .int _ _), (2, .int _ _)]) (zs := [_, _, _, _, _, _, _, _, _, _, _, _, _, _, _, _, _]) (cells := [_, _, _, _, _, _, _, _, _, _, _, _, _, _, _, _, _]) rfl ty_28 rfl pl_28 rfl rfl) hCst1 ?_
      refine h_one (i := 11) (by kernel_rfl) ?_
      refine h_do rfl ?_
      refine r_alloc (zs := [_, _, _, _, _, _, _, _, _, _, _, _, _, _, _, _, _]) ty_28 rfl rfl ?_
      intro b31 w32 J31 E32 B31 Y31
      have Q32 := E32.size
      replace hV := Z0 hV E32
      replace hCst1 := Z0 hCst1 E32
      replace hrb4 := hrb4.evo0 E32
      replace hrb22 := hrb22.evo0 E32
      refine h_next hCst1 ?_
      refine h_one (i := 12) (by kernel_rfl) ?_
      refine h_do rfl ?_
      refine r_store (v := .agg _) (vs := [_, _, _, _, _, _, _, _, _, _, _, _, _, _, _, _, _]) (cs' := [_, _, _, _, _, _, _, _, _, _, _, _, _, _, _, _, _]) rfl rfl B31 ty_28 rfl rfl rfl rfl rfl ?_
      intro w33 E33 V33 hb_new
      have Q33 := E33.size
      replace hV := Z1 hV E33 (by first | exact .inl (by omega) | exact .inr (by simp))
      replace B31 := hb_new
      clear hb_new
      refine h_last (by kernel_rfl) ?_
      refine h_done (by kernel_rfl) ?_
      refine r_cut_end ?_ ?_
      ·refine ⟨_, _, _, rfl, B31, B31.at, (by omega), (by first | assumption | omega | (dsimp only; omega) | (simp; done)), hV⟩
      repeat (first | (with_reducible exact Agree.merge _ _ _) | (with_reducible exact Agree.refl _ _) | (with_reducible refine Agree.upd ?_ _ _ rfl) | ((with_reducible refine Agree.inner ?_ ?_); (kernel_rfl)))
     refine h_do rfl ?_
     refine r_alloc (zs := [_, _, _, _, _, _, _, _, _, _, _, _, _, _, _, _, _]) ty_28 rfl rfl ?_
     intro b34 w35 J34 E35 B34 Y34
     have Q35 := E35.size
     replace hV := Z0 hV E35
     replace hCst1 := Z0 hCst1 E35
     replace hrb4 := hrb4.evo0 E35
     replace hA6 := hA6.evo0 E35
     replace hrb22 := hrb22.evo0 E35
     refine h_next hCst1 ?_
     refine h_one (i := 4) (by kernel_rfl) ?_
     refine h_do rfl ?_
     refine Zo rfl (run_ld1 rfl ag_3 rfl (hA6.cell 0 rfl)) ?_
     refine h_next hCst1 ?_
     refine h_take (i := 10) rfl rfl rfl rfl (by kernel_rfl) (fun w' hC => run_bld (pv := [(1, .int _ _), (2, .int _ _)]) (zs := [_, _, _, _, _, _, _, _, _, _, _, _, _, _, _, _, _]) (cells := [_, _, _, _, _, _, _, _, _, _, _, _, _, _, _, _, _]) rfl ty_28 rfl pl_28 rfl rfl) hCst1 ?_
     refine h_one (i := 12) (by kernel_rfl) ?_
     refine h_do rfl ?_
     refine r_store (v := .agg _) (vs := [_, _, _, _, _, _, _, _, _, _, _, _, _, _, _, _, _]) (cs' := [_, _, _, _, _, _, _, _, _, _, _, _, _, _, _, _, _]) rfl rfl B34 ty_28 rfl rfl rfl rfl rfl ?_
     intro w36 E36 V36 hb_new
     have Q36 := E36.size
     replace hV := Z1 hV E36 (by first | exact .inl (by omega) | exact .inr (by simp))
     replace B34 := hb_new
     clear hb_new
     refine h_last (by kernel_rfl) ?_
     refine h_done (by kernel_rfl) ?_
     refine r_cut_end ?_ ?_
     ·refine ⟨_, _, _, rfl, B34, B34.at, (by omega), (by first | assumption | omega | (dsimp only; omega) | (simp; done)), hV⟩
     repeat (first | (with_reducible exact Agree.merge _ _ _) | (with_reducible exact Agree.refl _ _) | (with_reducible refine Agree.upd ?_ _ _ rfl) | ((with_reducible refine Agree.inner ?_ ?_); (kernel_rfl)))
    refine h_do rfl ?_
    refine r_alloc (zs := [_, _, _, _, _, _, _, _, _, _, _, _, _, _, _, _, _]) ty_28 rfl rfl ?_
    intro b37 w38 J37 E38 B37 Y37
    have Q38 := E38.size
    replace hV := Z0 hV E38
    replace hCst1 := Z0 hCst1 E38
    replace hrb4 := hrb4.evo0 E38
    replace hA6 := hA6.evo0 E38
    replace hrb22 := hrb22.evo0 E38
    replace hA24 := hA24.evo0 E38
    refine h_next hCst1 ?_
    refine h_two (i := 4) (j := 9) (by kernel_rfl) ?_ ?_
    ·skip
     refine h_do rfl ?_
     refine Zo rfl (run_ld1 rfl ag_3 rfl (hA6.cell 0 rfl)) ?_
     refine h_next hCst1 ?_
     refine h_one (i := 9) (by kernel_rfl) ?_
     refine h_do rfl ?_
     refine Zo rfl (run_ld1 rfl ag_3 rfl (hA24.cell 0 rfl)) ?_
     refine h_next hCst1 ?_
     refine h_take (i := 10) rfl rfl rfl rfl (by kernel_rfl) (fun w' hC => run_bld (pv := [(1, .int _ _), (2, .int _ _)]) (zs := [_, _, _, _, _, _, _, _, _, _, _, _, _, _, _, _, _]) (cells := [_, _, _, _, _, _, _, _, _, _, _, _, _, _, _, _, _]) rfl ty_28 rfl pl_28 rfl rfl) hCst1 ?_
     refine h_one (i := 12) (by kernel_rfl) ?_
     refine h_do rfl ?_
     refine r_store (v := .agg _) (vs := [_, _, _, _, _, _, _, _, _, _, _, _, _, _, _, _, _]) (cs' := [_, _, _, _, _, _, _, _, _, _, _, _, _, _, _, _, _]) rfl rfl B37 ty_28 rfl rfl rfl rfl rfl ?_
     intro w39 E39 V39 hb_new
     have Q39 := E39.size
     replace hV := Z1 hV E39 (by first | exact .inl (by omega) | exact .inr (by simp))
     replace B37 := hb_new
     clear hb_new
     refine h_last (by kernel_rfl) ?_
     refine h_done (by kernel_rfl) ?_
     refine r_cut_end ?_ ?_
     ·refine ⟨_, _, _, rfl, B37, B37.at, (by omega), (by first | assumption | omega | (dsimp only; omega) | (simp; done)), hV⟩
     repeat (first | (with_reducible exact Agree.merge _ _ _) | (with_reducible exact Agree.refl _ _) | (with_reducible refine Agree.upd ?_ _ _ rfl) | ((with_reducible refine Agree.inner ?_ ?_); (kernel_rfl)))
    refine h_do rfl ?_
    refine Zo rfl (run_ld1 rfl ag_3 rfl (hA24.cell 0 rfl)) ?_
    refine h_next hCst1 ?_
    refine h_one (i := 4) (by kernel_rfl) ?_
    refine h_do rfl ?_
    refine Zo rfl (run_ld1 rfl ag_3 rfl (hA6.cell 0 rfl)) ?_
    refine h_next hCst1 ?_
    refine h_take (i := 10) rfl rfl rfl rfl (by kernel_rfl) (fun w' hC => run_bld (pv := [(1, .int _ _), (2, .int _ _)]) (zs := [_, _, _, _, _, _, _, _, _, _, _, _, _, _, _, _, _]) (cells := [_, _, _, _, _, _, _, _, _, _, _, _, _, _, _, _, _]) rfl ty_28 rfl pl_28 rfl rfl) hCst1 ?_
    refine h_one (i := 12) (by kernel_rfl) ?_
    refine h_do rfl ?_
    refine r_store (v := .agg _) (vs := [_, _, _, _, _, _, _, _, _, _, _, _, _, _, _, _, _]) (cs' := [_, _, _, _, _, _, _, _, _, _, _, _, _, _, _, _, _]) rfl rfl B37 ty_28 rfl rfl rfl rfl rfl ?_
    intro w40 E40 V40 hb_new
    have Q40 := E40.size
    replace hV := Z1 hV E40 (by first | exact .inl (by omega) | exact .inr (by simp))
    replace B37 := hb_new
    clear hb_new
    refine h_last (by kernel_rfl) ?_
    refine h_done (by kernel_rfl) ?_
    refine r_cut_end ?_ ?_
    ·refine ⟨_, _, _, rfl, B37, B37.at, (by omega), (by first | assumption | omega | (dsimp only; omega) | (simp; done)), hV⟩
    repeat (first | (with_reducible exact Agree.merge _ _ _) | (with_reducible exact Agree.refl _ _) | (with_reducible refine Agree.upd ?_ _ _ rfl) | ((with_reducible refine Agree.inner ?_ ?_); (kernel_rfl)))
   refine h_do rfl ?_
   refine r_alloc (zs := [_, _, _, _, _, _, _, _, _, _, _, _, _, _, _, _, _]) ty_28 rfl rfl ?_
   intro b41 w42 J41 E42 B41 Y41
   have Q42 := E42.size
   replace hV := Z0 hV E42
   replace hCst1 := Z0 hCst1 E42
   replace hrb4 := hrb4.evo0 E42
   replace hA6 := hA6.evo0 E42
   refine h_next hCst1 ?_
   refine h_two (i := 4) (j := 5) (by kernel_rfl) ?_ ?_
   ·skip
    refine h_do rfl ?_
    refine Zo rfl (run_ld1 rfl ag_3 rfl (hA6.cell 0 rfl)) ?_
    refine h_next hCst1 ?_
    refine h_one (i := 5) (by kernel_rfl) ?_
    refine h_do rfl ?_
    refine r_bslice (pv := [(0, .int _ _), (1, .int _ _), (2, .int _ _), (3, .int _ _), (4, .int _ _), (5, .int _ _)]) (zs := [_]) (cs := [_, _, _, _, _, _]) Tryz.underlying22 ty_3 rfl rfl rfl rfl rfl ?_
    intro b43 w44 J43 E44 B43 Y43
    have Q44 := E44.size
    replace hV := Z0 hV E44
    replace hCst1 := Z0 hCst1 E44
    replace hrb4 := hrb4.evo0 E44
    replace B41 := B41.evo0 E44
    have hrb43 : RowE w44 (some ⟨b43, 0, none⟩) b43 0 6 ([-1, 0, 99, 100, 10000, 10001] : List Int) := rowLit ([-1, 0, 99, 100, 10000, 10001] : List Int) B43 rfl rfl
    refine h_next hCst1 ?_
    refine h_take (i := 8) rfl rfl rfl rfl (by kernel_rfl) (fun w' hC => run_ix ((lo9 % 6).toNat) rfl Tryz.underlying22 ty_3 rfl rfl (by omega) (by show _ < 6; omega) (hrb43.addr (i := (lo9 % 6).toNat) (by show _ < 6; omega))) hCst1 ?_
    have hA45 := hrb43.atD ((lo9 % 6).toNat) (by show _ < 6; omega)
    refine h_one (i := 9) (by kernel_rfl) ?_
    refine h_do rfl ?_
    refine Zo rfl (run_ld1 rfl ag_3 rfl (hA45.cell 0 rfl)) ?_
    refine h_next hCst1 ?_
    refine h_take (i := 10) rfl rfl rfl rfl (by kernel_rfl) (fun w' hC => run_bld (pv := [(1, .int _ _), (2, .int _ _)]) (zs := [_, _, _, _, _, _, _, _, _, _, _, _, _, _, _, _, _]) (cells := [_, _, _, _, _, _, _, _, _, _, _, _, _, _, _, _, _]) rfl ty_28 rfl pl_28 rfl rfl) hCst1 ?_
    refine h_one (i := 12) (by kernel_rfl) ?_
    refine h_do rfl ?_
    refine r_store (v := .agg _) (vs := [_, _, _, _, _, _, _, _, _, _, _, _, _, _, _, _, _]) (cs' := [_, _, _, _, _, _, _, _, _, _, _, _, _, _, _, _, _]) rfl rfl B41 ty_28 rfl rfl rfl rfl rfl ?_
    intro w46 E46 V46 hb_new
    have Q46 := E46.size
    replace hV := Z1 hV E46 (by first | exact .inl (by omega) | exact .inr (by simp))
    replace B41 := hb_new
    clear hb_new
    refine h_last (by kernel_rfl) ?_
    refine h_done (by kernel_rfl) ?_
    refine r_cut_end ?_ ?_
    ·refine ⟨_, _, _, rfl, B41, B41.at, (by omega), (by first | assumption | omega | (dsimp only; omega) | (simp; done)), hV⟩
    repeat (first | (with_reducible exact Agree.merge _ _ _) | (with_reducible exact Agree.refl _ _) | (with_reducible refine Agree.upd ?_ _ _ rfl) | ((with_reducible refine Agree.inner ?_ ?_); (kernel_rfl)))
   refine h_do rfl ?_
   refine r_bslice (pv := [(0, .int _ _), (1, .int _ _), (2, .int _ _), (3, .int _ _), (4, .int _ _), (5, .int _ _)]) (zs := [_]) (cs := [_, _, _, _, _, _]) Tryz.underlying22 ty_3 rfl rfl rfl rfl rfl ?_
   intro b47 w48 J47 E48 B47 Y47
   have Q48 := E48.size
   replace hV := Z0 hV E48
   replace hCst1 := Z0 hCst1 E48
   replace hrb4 := hrb4.evo0 E48
   replace hA6 := hA6.evo0 E48
   replace B41 := B41.evo0 E48
   have hrb47 : RowE w48 (some ⟨b47, 0, none⟩) b47 0 6 ([-1, 0, 99, 100, 10000, 10001] : List Int) := rowLit ([-1, 0, 99, 100, 10000, 10001] : List Int) B47 rfl rfl
   refine h_next hCst1 ?_
   refine h_take (i := 8) rfl rfl rfl rfl (by kernel_rfl) (fun w' hC => run_ix ((lo9 % 6).toNat) rfl Tryz.underlying22 ty_3 rfl rfl (by omega) (by show _ < 6; omega) (hrb47.addr (i := (lo9 % 6).toNat) (by show _ < 6; omega))) hCst1 ?_
   have hA49 := hrb47.atD ((lo9 % 6).toNat) (by show _ < 6; omega)
   refine h_two (i := 4) (j := 9) (by kernel_rfl) ?_ ?_
   ·skip
    refine h_do rfl ?_
    refine Zo rfl (run_ld1 rfl ag_3 rfl (hA6.cell 0 rfl)) ?_
    refine h_next hCst1 ?_
    refine h_one (i := 9) (by kernel_rfl) ?_
    refine h_do rfl ?_
    refine Zo rfl (run_ld1 rfl ag_3 rfl (hA49.cell 0 rfl)) ?_
    refine h_next hCst1 ?_
    refine h_take (i := 10) rfl rfl rfl rfl (by kernel_rfl) (fun w' hC => run_bld (pv := [(1, .int _ _), (2, .int _ _)]) (zs := [_, _, _, _, _, _, _, _, _, _, _, _, _, _, _, _, _]) (cells := [_, _, _, _, _, _, _, _, _, _, _, _, _, _, _, _, _]) rfl ty_28 rfl pl_28 rfl rfl) hCst1 ?_
    refine h_one (i := 12) (by kernel_rfl) ?_
    refine h_do rfl ?_
    refine r_store (v := .agg _) (vs := [_, _, _, _, _, _, _, _, _, _, _, _, _, _, _, _, _]) (cs' := [_, _, _, _, _, _, _, _, _, _, _, _, _, _, _, _, _]) rfl rfl B41 ty_28 rfl rfl rfl rfl rfl ?_
    intro w50 E50 V50 hb_new
    have Q50 := E50.size
    replace hV := Z1 hV E50 (by first | exact .inl (by omega) | exact .inr (by simp))
    replace B41 := hb_new
    clear hb_new
    refine h_last (by kernel_rfl) ?_
    refine h_done (by kernel_rfl) ?_
    refine r_cut_end ?_ ?_
    ·refine ⟨_, _, _, rfl, B41, B41.at, (by omega), (by first | assumption | omega | (dsimp only; omega) | (simp; done)), hV⟩
    repeat (first | (with_reducible exact Agree.merge _ _ _) | (with_reducible exact Agree.refl _ _) | (with_reducible refine Agree.upd ?_ _ _ rfl) | ((with_reducible refine Agree.inner ?_ ?_); (kernel_rfl)))
   refine h_do rfl ?_
   refine Zo rfl (run_ld1 rfl ag_3 rfl (hA49.cell 0 rfl)) ?_
   refine h_next hCst1 ?_
   refine h_one (i := 4) (by kernel_rfl) ?_
   refine h_do rfl ?_
   refine Zo rfl (run_ld1 rfl ag_3 rfl (hA6.cell 0 rfl)) ?_
   refine h_next hCst1 ?_
   refine h_take (i := 10) rfl rfl rfl rfl (by kernel_rfl) (fun w' hC => run_bld (pv := [(1, .int _ _), (2, .int _ _)]) (zs := [_, _, _, _, _, _, _, _, _, _, _, _, _, _, _, _, _]) (cells := [_, _, _, _, _, _, _, _, _, _, _, _, _, _, _, _, _]) rfl ty_28 rfl pl_28 rfl rfl) hCst1 ?_
   refine h_one (i := 12) (by kernel_rfl) ?_
   refine h_do rfl ?_
   refine r_store (v := .agg _) (vs := [_, _, _, _, _, _, _, _, _, _, _, _, _, _, _, _, _]) (cs' := [_, _, _, _, _, _, _, _, _, _, _, _, _, _, _, _, _]) rfl rfl B41 ty_28 rfl rfl rfl rfl rfl ?_
   intro w51 E51 V51 hb_new
   have Q51 := E51.size
   replace hV := Z1 hV E51 (by first | exact .inl (by omega) | exact .inr (by simp))
   replace B41 := hb_new
   clear hb_new
   refine h_last (by kernel_rfl) ?_
   refine h_done (by kernel_rfl) ?_
   refine r_cut_end ?_ ?_
   ·refine ⟨_, _, _, rfl, B41, B41.at, (by omega), (by first | assumption | omega | (dsimp only; omega) | (simp; done)), hV⟩
   repeat (first | (with_reducible exact Agree.merge _ _ _) | (with_reducible exact Agree.refl _ _) | (with_reducible refine Agree.upd ?_ _ _ rfl) | ((with_reducible refine Agree.inner ?_ ?_); (kernel_rfl)))
  ·skip
   refine h_do rfl ?_
   refine r_bslice (pv := [(0, .int _ _), (1, .int _ _), (2, .int _ _), (3, .int _ _), (4, .int _ _), (5, .int _ _)]) (zs := [_]) (cs := [_, _, _, _, _, _]) Tryz.underlying22 ty_3 rfl rfl rfl rfl rfl ?_
   intro b52 w53 J52 E53 B52 Y52
   have Q53 := E53.size
   replace hV := Z0 hV E53
   replace hCst1 := Z0 hCst1 E53
   have hrb52 : RowE w53 (some ⟨b52, 0, none⟩) b52 0 6 ([-1, 0, 99, 100, 10000, 10001] : List Int) := rowLit ([-1, 0, 99, 100, 10000, 10001] : List Int) B52 rfl rfl
   refine h_next hCst1 ?_
   refine h_take (i := 8) rfl rfl rfl rfl (by kernel_rfl) (fun w' hC => run_ix ((lo9 % 6).toNat) rfl Tryz.underlying22 ty_3 rfl rfl (by omega) (by show _ < 6; omega) (hrb52.addr (i := (lo9 % 6).toNat) (by show _ < 6; omega))) hCst1 ?_
   have hA54 := hrb52.atD ((lo9 % 6).toNat) (by show _ < 6; omega)
   refine h_three (i := 0) (j := 9) (p := 11) (by kernel_rfl) ?_ ?_ ?_
   ·skip
    refine h_do rfl ?_
    refine r_bslice (pv := [(0, .int _ _), (1, .int _ _), (2, .int _ _), (3, .int _ _)]) (zs := [_]) (cs := [_, _, _, _]) Tryz.underlying22 ty_3 rfl rfl rfl rfl rfl ?_
    intro b55 w56 J55 E56 B55 Y55
    have Q56 := E56.size
    replace hV := Z0 hV E56
    replace hCst1 := Z0 hCst1 E56
    replace hrb52 := hrb52.evo0 E56
    replace hA54 := hA54.evo0 E56
    have hrb55 : RowE w56 (some ⟨b55, 0, none⟩) b55 0 4 ([-1, 0, 100, 101] : List Int) := rowLit ([-1, 0, 100, 101] : List Int) B55 rfl rfl
    refine h_next hCst1 ?_
    refine h_take (i := 3) rfl rfl rfl rfl (by kernel_rfl) (fun w' hC => run_ix ((sh9 % 4).toNat) rfl Tryz.underlying22 ty_3 rfl rfl (by omega) (by show _ < 4; omega) (hrb55.addr (i := (sh9 % 4).toNat) (by show _ < 4; omega))) hCst1 ?_
    have hA57 := hrb55.atD ((sh9 % 4).toNat) (by show _ < 4; omega)
    refine h_three (i := 4) (j := 9) (p := 11) (by kernel_rfl) ?_ ?_ ?_
    ·skip
     refine h_do rfl ?_
     refine Zo rfl (run_ld1 rfl ag_3 rfl (hA57.cell 0 rfl)) ?_
     refine h_next hCst1 ?_
     refine h_two (i := 9) (j := 11) (by kernel_rfl) ?_ ?_
     ·skip
      refine h_do rfl ?_
      refine Zo rfl (run_ld1 rfl ag_3 rfl (hA54.cell 0 rfl)) ?_
      refine h_next hCst1 ?_
      refine h_take (i := 10) rfl rfl rfl rfl (by kernel_rfl) (fun w' hC => run_bld (pv := [(1, .int _ _), (2, .int _ _)]) (zs := [_, _, _, _, _, _, _, _, _, _, _, _, _, _, _, _, _]) (cells := [_, _, _, _, _, _, _, _, _, _, _, _, _, _, _, _, _]) rfl ty_28 rfl pl_28 rfl rfl) hCst1 ?_
      refine h_one (i := 11) (by kernel_rfl) ?_
      refine h_do rfl ?_
      refine r_alloc (zs := [_, _, _, _, _, _, _, _, _, _, _, _, _, _, _, _, _]) ty_28 rfl rfl ?_
      intro b58 w59 J58 E59 B58 Y58
      have Q59 := E59.size
      replace hV := Z0 hV E59
      replace hCst1 := Z0 hCst1 E59
      replace hrb52 := hrb52.evo0 E59
      replace hrb55 := hrb55.evo0 E59
      refine h_next hCst1 ?_
      refine h_one (i := 12) (by kernel_rfl) ?_
      refine h_do rfl ?_
      refine r_store (v := .agg _) (vs := [_, _, _, _, _, _, _, _, _, _, _, _, _, _, _, _, _]) (cs' := [_, _, _, _, _, _, _, _, _, _, _, _, _, _, _, _, _]) rfl rfl B58 ty_28 rfl rfl rfl rfl rfl ?_
      intro w60 E60 V60 hb_new
      have Q60 := E60.size
      replace hV := Z1 hV E60 (by first | exact .inl (by omega) | exact .inr (by simp))
      replace B58 := hb_new
      clear hb_new
      refine h_last (by kernel_rfl) ?_
      refine h_done (by kernel_rfl) ?_
      refine r_cut_end ?_ ?_
      ·refine ⟨_, _, _, rfl, B58, B58.at, (by omega), (by first | assumption | omega | (dsimp only; omega) | (simp; done)), hV⟩
      repeat (first | (with_reducible exact Agree.merge _ _ _) | (with_reducible exact Agree.refl _ _) | (with_reducible refine Agree.upd ?_ _ _ rfl) | ((with_reducible refine Agree.inner ?_ ?_); (kernel_rfl)))
     refine h_do rfl ?_
     refine r_alloc (zs := [_, _, _, _, _, _, _, _, _, _, _, _, _, _, _, _, _]) ty_28 rfl rfl ?_
     intro b61 w62 J61 E62 B61 Y61
     have Q62 := E62.size
     replace hV := Z0 hV E62
     replace hCst1 := Z0 hCst1 E62
     replace hrb52 := hrb52.evo0 E62
     replace hA54 := hA54.evo0 E62
     replace hrb55 := hrb55.evo0 E62
     refine h_next hCst1 ?_
     refine h_one (i := 9) (by kernel_rfl) ?_
     refine h_do rfl ?_
     refine Zo rfl (run_ld1 rfl ag_3 rfl (hA54.cell 0 rfl)) ?_
     refine h_next hCst1 ?_
     refine h_take (i := 10) rfl rfl rfl rfl (by kernel_rfl) (fun w' hC => run_bld (pv := [(1, .int _ _), (2, .int _ _)]) (zs := [_, _, _, _, _, _, _, _, _, _, _, _, _, _, _, _, _]) (cells := [_, _, _, _, _, _, _, _, _, _, _, _, _, _, _, _, _]) rfl ty_28 rfl pl_28 rfl rfl) hCst1 ?_
     refine h_one (i := 12) (by kernel_rfl) ?_
     refine h_do rfl ?_
     refine r_store (v := .agg _) (vs := [_, _, _, _, _, _, _, _, _, _, _, _, _, _, _, _, _]) (cs' := [_, _, _, _, _, _, _, _, _, _, _, _, _, _, _, _, _]) rfl rfl B61 ty_28 rfl rfl rfl rfl rfl ?_
     intro w63 E63 V63 hb_new
     have Q63 := E63.size
     replace hV := Z1 hV E63 (by first | exact .inl (by omega) | exact .inr (by simp))
     replace B61 := hb_new
     clear hb_new
     refine h_last (by kernel_rfl) ?_
     refine h_done (by kernel_rfl) ?_
     refine r_cut_end ?_ ?_
     ·refine ⟨_, _, _, rfl, B61, B61.at, (by omega), (by first | assumption | omega | (dsimp only; omega) | (simp; done)), hV⟩
     repeat (first | (with_reducible exact Agree.merge _ _ _) | (with_reducible exact Agree.refl _ _) | (with_reducible refine Agree.upd ?_ _ _ rfl) | ((with_reducible refine Agree.inner ?_ ?_); (kernel_rfl)))
    ·skip
     refine h_do rfl ?_
     refine Zo rfl (run_ld1 rfl ag_3 rfl (hA54.cell 0 rfl)) ?_
     refine h_next hCst1 ?_
     refine h_two (i := 4) (j := 11) (by kernel_rfl) ?_ ?_
     ·skip
      refine h_do rfl ?_
      refine Zo rfl (run_ld1 rfl ag_3 rfl (hA57.cell 0 rfl)) ?_
      refine h_next hCst1 ?_
      refine h_take (i := 10) rfl rfl rfl rfl (by kernel_rfl) (fun w' hC => run_bld (pv := [(1, .int _ _), (2, .int _ _)]) (zs := [_, _, _, _, _, _, _, _, _, _, _, _, _, _, _, _, _]) (cells := [_, _, _, _, _, _, _, _, _, _, _, _, _, _, _, _, _]) rfl ty_28 rfl pl_28 rfl rfl) hCst1 ?_
      refine h_one (i := 11) (by kernel_rfl) ?_
      refine h_do rfl ?_
      refine r_alloc (zs := [_, _, _, _, _, _, _, _, _, _, _, _, _, _, _, _, _]) ty_28 rfl rfl ?_
      intro b64 w65 J64 E65 B64 Y64
      have Q65 := E65.size
      replace hV := Z0 hV E65
      replace hCst1 := Z0 hCst1 E65
      replace hrb52 := hrb52.evo0 E65
      replace hrb55 := hrb55.evo0 E65
      refine h_next hCst1 ?_
      refine h_one (i := 12) (by kernel_rfl) ?_
      refine h_do rfl ?_
      refine r_store (v := .agg _) (vs := [_, _, _, _, _, _, _, _, _, _, _, _, _, _, _, _, _]) (cs' := [_, _, _, _, _, _, _, _, _, _, _, _, _, _, _, _, _]) rfl rfl B64 ty_28 rfl rfl rfl rfl rfl ?_
      intro w66 E66 V66 hb_new
      have Q66 := E66.size
      replace hV := Z1 hV E66 (by first | exact .inl (by omega) | exact .inr (by simp))
      replace B64 := hb_new
      clear hb_new
      refine h_last (by kernel_rfl) ?_
      refine h_done (by kernel_rfl) ?_
      refine r_cut_end ?_ ?_
      ·refine ⟨_, _, _, rfl, B64, B64.at, (by omega), (by first | assumption | omega | (dsimp only; omega) | (simp; done)), hV⟩
      repeat (first | (with_reducible exact Agree.merge _ _ _) | (with_reducible exact Agree.refl _ _) | (with_reducible refine Agree.upd ?_ _ _ rfl) | ((with_reducible refine Agree.inner ?_ ?_); (kernel_rfl)))
     refine h_do rfl ?_
     refine r_alloc (zs := [_, _, _, _, _, _, _, _, _, _, _, _, _, _, _, _, _]) ty_28 rfl rfl ?_
     intro b67 w68 J67 E68 B67 Y67
     have Q68 := E68.size
     replace hV := Z0 hV E68
     replace hCst1 := Z0 hCst1 E68
     replace hrb52 := hrb52.evo0 E68
     replace hrb55 := hrb55.evo0 E68
     replace hA57 := hA57.evo0 E68
     refine h_next hCst1 ?_
     refine h_one (i := 4) (by kernel_rfl) ?_
     refine h_do rfl ?_
     refine Zo rfl (run_ld1 rfl ag_3 rfl (hA57.cell 0 rfl)) ?_
     refine h_next hCst1 ?_
     refine h_take (i := 10) rfl rfl rfl rfl (by kernel_rfl) (fun w' hC => run_bld (pv := [(1, .int _ _), (2, .int _ _)]) (zs := [_, _, _, _, _, _, _, _, _, _, _, _, _, _, _, _, _]) (cells := [_, _, _, _, _, _, _, _, _, _, _, _, _, _, _, _, _]) rfl ty_28 rfl pl_28 rfl rfl) hCst1 ?_
     refine h_one (i := 12) (by kernel_rfl) ?_
     refine h_do rfl ?_
     refine r_store (v := .agg _) (vs := [_, _, _, _, _, _, _, _, _, _, _, _, _, _, _, _, _]) (cs' := [_, _, _, _, _, _, _, _, _, _, _, _, _, _, _, _, _]) rfl rfl B67 ty_28 rfl rfl rfl rfl rfl ?_
     intro w69 E69 V69 hb_new
     have Q69 := E69.size
     replace hV := Z1 hV E69 (by first | exact .inl (by omega) | exact .inr (by simp))
     replace B67 := hb_new
     clear hb_new
     refine h_last (by kernel_rfl) ?_
     refine h_done (by kernel_rfl) ?_
     refine r_cut_end ?_ ?_
     ·refine ⟨_, _, _, rfl, B67, B67.at, (by omega), (by first | assumption | omega | (dsimp only; omega) | (simp; done)), hV⟩
     repeat (first | (with_reducible exact Agree.merge _ _ _) | (with_reducible exact Agree.refl _ _) | (with_reducible refine Agree.upd ?_ _ _ rfl) | ((with_reducible refine Agree.inner ?_ ?_); (kernel_rfl)))
    refine h_do rfl ?_
    refine r_alloc (zs := [_, _, _, _, _, _, _, _, _, _, _, _, _, _, _, _, _]) ty_28 rfl rfl ?_
    intro b70 w71 J70 E71 B70 Y70
    have Q71 := E71.size
    replace hV := Z0 hV E71
    replace hCst1 := Z0 hCst1 E71
    replace hrb52 := hrb52.evo0 E71
    replace hA54 := hA54.evo0 E71
    replace hrb55 := hrb55.evo0 E71
    replace hA57 := hA57.evo0 E71
    refine h_next hCst1 ?_
    refine h_two (i := 4) (j := 9) (by kernel_rfl) ?_ ?_
    ·skip
     refine h_do rfl ?_
     refine Zo rfl (run_ld1 rfl ag_3 rfl (hA57.cell 0 rfl)) ?_
     refine h_next hCst1 ?_
     refine h_one (i := 9) (by kernel_rfl) ?_
     refine h_do rfl ?_
     refine Zo rfl (run_ld1 rfl ag_3 rfl (hA54.cell 0 rfl)) ?_
     refine h_next hCst1 ?_
     refine h_take (i := 10) rfl rfl rfl rfl (by kernel_rfl) (fun w' hC => run_bld (pv := [(1, .int _ _), (2, .int _ _)]) (zs := [_, _, _, _, _, _, _, _, _, _, _, _, _, _, _, _, _]) (cells := [_, _, _, _, _, _, _, _, _, _, _, _, _, _, _, _, _]) rfl ty_28 rfl pl_28 rfl rfl) hCst1 ?_
     refine h_one (i := 12) (by kernel_rfl) ?_
     refine h_do rfl ?_
     refine r_store (v := .agg _) (vs := [_, _, _, _, _, _, _, _, _, _, _, _, _, _, _, _, _]) (cs' := [_, _, _, _, _, _, _, _, _, _, _, _, _, _, _, _, _]) rfl rfl B70 ty_28 rfl rfl rfl rfl rfl ?_
     intro w72 E72 V72 hb_new
     have Q72 := E72.size
     replace hV := Z1 hV E72 (by first | exact .inl (by omega) | exact .inr (by simp))
     replace B70 := hb_new
     clear hb_new
     refine h_last (by kernel_rfl) ?_
     refine h_done (by kernel_rfl) ?_
     refine r_cut_end ?_ ?_
     ·refine ⟨_, _, _, rfl, B70, B70.at, (by omega), (by first | assumption | omega | (dsimp only; omega) | (simp; done)), hV⟩
     repeat (first | (with_reducible exact Agree.merge _ _ _) | (with_reducible exact Agree.refl _ _) | (with_reducible refine Agree.upd ?_ _ _ rfl) | ((with_reducible refine Agree.inner ?_ ?_); (kernel_rfl)))
    refine h_do rfl ?_
    refine Zo rfl (run_ld1 rfl ag_3 rfl (hA54.cell 0 rfl)) ?_
    refine h_next hCst1 ?_
    refine h_one (i := 4) (by kernel_rfl) ?_
    refine h_do rfl ?_
    refine Zo rfl (run_ld1 rfl ag_3 rfl (hA57.cell 0 rfl)) ?_
    refine h_next hCst1 ?_
    refine h_take (i := 10) rfl rfl rfl rfl (by kernel_rfl) (fun w' hC => run_bld (pv := [(1, .int _ _), (2, .int _ _)]) (zs := [_, _, _, _, _, _, _, _, _, _, _, _, _, _, _, _, _]) (cells := [_, _, _, _, _, _, _, _, _, _, _, _, _, _, _, _, _]) rfl ty_28 rfl pl_28 rfl rfl) hCst1 ?_
    refine h_one (i := 12) (by kernel_rfl) ?_
    refine h_do rfl ?_
    refine r_store (v := .agg _) (vs := [_, _, _, _, _, _, _, _, _, _, _, _, _, _, _, _, _]) (cs' := [_, _, _, _, _, _, _, _, _, _, _, _, _, _, _, _, _]) rfl rfl B70 ty_28 rfl rfl rfl rfl rfl ?_
    intro w73 E73 V73 hb_new
    have Q73 := E73.size
    replace hV := Z1 hV E73 (by first | exact .inl (by omega) | exact .inr (by simp))
    replace B70 := hb_new
    clear hb_new
    refine h_last (by kernel_rfl) ?_
    refine h_done (by kernel_rfl) ?_
    refine r_cut_end ?_ ?_
    ·refine ⟨_, _, _, rfl, B70, B70.at, (by omega), (by first | assumption | omega | (dsimp only; omega) | (simp; done)), hV⟩
    repeat (first | (with_reducible exact Agree.merge _ _ _) | (with_reducible exact Agree.refl _ _) | (with_reducible refine Agree.upd ?_ _ _ rfl) | ((with_reducible refine Agree.inner ?_ ?_); (kernel_rfl)))
   ·skip
    refine h_do rfl ?_
    refine Zo rfl (run_ld1 rfl ag_3 rfl (hA54.cell 0 rfl)) ?_
    refine h_next hCst1 ?_
    refine h_two (i := 0) (j := 11) (by kernel_rfl) ?_ ?_
    ·skip
     refine h_do rfl ?_
     refine r_bslice (pv := [(0, .int _ _), (1, .int _ _), (2, .int _ _), (3, .int _ _)]) (zs := [_]) (cs := [_, _, _, _]) Tryz.underlying22 ty_3 rfl rfl rfl rfl rfl ?_
     intro b74 w75 J74 E75 B74 Y74
     have Q75 := E75.size
     replace hV := Z0 hV E75
     replace hCst1 := Z0 hCst1 E75
     replace hrb52 := hrb52.evo0 E75
     have hrb74 : RowE w75 (some ⟨b74, 0, none⟩) b74 0 4 ([-1, 0, 100, 101] : List Int) := rowLit ([-1, 0, 100, 101] : List Int) B74 rfl rfl
     refine h_next hCst1 ?_
     refine h_take (i := 3) rfl rfl rfl rfl (by kernel_rfl) (fun w' hC => run_ix ((sh9 % 4).toNat) rfl Tryz.underlying22 ty_3 rfl rfl (by omega) (by show _ < 4; omega) (hrb74.addr (i := (sh9 % 4).toNat) (by show _ < 4; omega))) hCst1 ?_
     have hA76 := hrb74.atD ((sh9 % 4).toNat) (by show _ < 4; omega)
     refine h_two (i := 4) (j := 11) (by kernel_rfl) ?_ ?_
     ·skip
      refine h_do rfl ?_
      refine Zo rfl (run_ld1 rfl ag_3 rfl (hA76.cell 0 rfl)) ?_
      refine h_next hCst1 ?_
      refine h_take (i := 10) rfl rfl rfl rfl (by kernel_rfl) (fun w' hC => run_bld (pv := [(1, .int _ _), (2, .int _ _)]) (zs := [_, _, _, _, _, _, _, _, _, _, _, _, _, _, _, _, _]) (cells := [_, _, _, _, _, _, _, _, _, _, _, _, _, _, _, _, _]) rfl ty_28 rfl pl_28 rfl rfl) hCst1 ?_
      refine h_one (i := 11) (by kernel_rfl) ?_
      refine h_do rfl ?_
      refine r_alloc (zs := [_, _, _, _, _, _, _, _, _, _, _, _, _, _, _, _, _]) ty_28 rfl rfl ?_
      intro b77 w78 J77 E78 B77 Y77
      have Q78 := E78.size
      replace hV := Z0 hV E78
      replace hCst1 := Z0 hCst1 E78
      replace hrb52 := hrb52.evo0 E78
      replace hrb74 := hrb74.evo0 E78
      refine h_next hCst1 ?_
      refine h_one (i := 12) (by kernel_rfl) ?_
      refine h_do rfl ?_
      refine r_store (v := .agg _) (vs := [_, _, _, _, _, _, _, _, _, _, _, _, _, _, _, _, _]) (cs' := [_, _, _, _, _, _, _, _, _, _, _, _, _, _, _, _, _]) rfl rfl B77 ty_28 rfl rfl rfl rfl rfl ?_
      intro w79 E79 V79 hb_new
      have Q79 := E79.size
      replace hV := Z1 hV E79 (by first | exact .inl (by omega) | exact .inr (by simp))
      replace B77 := hb_new
      clear hb_new
      refine h_last (by kernel_rfl) ?_
      refine h_done (by kernel_rfl) ?_
      refine r_cut_end ?_ ?_
      ·refine ⟨_, _, _, rfl, B77, B77.at, (by omega), (by first | assumption | omega | (dsimp only; omega) | (simp; done)), hV⟩
      repeat (first | (with_reducible exact Agree.merge _ _ _) | (with_reducible exact Agree.refl _ _) | (with_reducible refine Agree.upd ?_ _ _ rfl) | ((with_reducible refine Agree.inner ?_ ?_); (kernel_rfl)))
     refine h_do rfl ?_
     refine r_alloc (zs := [_, _, _, _, _, _, _, _, _, _, _, _, _, _, _, _, _]) ty_28 rfl rfl ?_
     intro b80 w81 J80 E81 B80 Y80
     have Q81 := E81.size
     replace hV := Z0 hV E81
     replace hCst1 := Z0 hCst1 E81
     replace hrb52 := hrb52.evo0 E81
     replace hrb74 := hrb74.evo0 E81
     replace hA76 := hA76.evo0 E81
     refine h_next hCst1 ?_
     refine h_one (i := 4) (by kernel_rfl) ?_
     refine h_do rfl ?_
     refine Zo rfl (run_ld1 rfl ag_3 rfl (hA76.cell 0 rfl)) ?_
     refine h_next hCst1 ?_
     refine h_take (i := 10) rfl rfl rfl rfl (by kernel_rfl) (fun w' hC => run_bld (pv := [(1, .int _ _), (2, .int _ _)]) (zs := [_, _, _, _, _, _, _, _, _, _, _, _, _, _, _, _, _]) (cells := [_, _, _, _, _, _, _, _, _, _, _, _, _, _, _, _, _]) rfl ty_28 rfl pl_28 rfl rfl) hCst1 ?_
     refine h_one (i := 12) (by kernel_rfl) ?_
     refine h_do rfl ?_
     refine r_store (v := .agg _) (vs := [_, _, _, _, _, _, _, _, _, _, _, _, _, _, _, _, _]) (cs' := [_, _, _, _, _, _, _, _, _, _, _, _, _, _, _, _, _]) rfl rfl B80 ty_28 rfl rfl rfl rfl rfl ?_
     intro w82 E82 V82 hb_new
     have Q82 := E82.size
     replace hV := Z1 hV E82 (by first | exact .inl (by omega) | exact .inr (by simp))
     replace B80 := hb_new
     clear hb_new
     refine h_last (by kernel_rfl) ?_
     refine h_done (by kernel_rfl) ?_
     refine r_cut_end ?_ ?_
     ·refine ⟨_, _, _, rfl, B80, B80.at, (by omega), (by first | assumption | omega | (dsimp only; omega) | (simp; done)), hV⟩
     repeat (first | (with_reducible exact Agree.merge _ _ _) | (with_reducible exact Agree.refl _ _) | (with_reducible refine Agree.upd ?_ _ _ rfl) | ((with_reducible refine Agree.inner ?_ ?_); (kernel_rfl)))
    refine h_do rfl ?_
    refine r_alloc (zs := [_, _, _, _, _, _, _, _, _, _, _, _, _, _, _, _, _]) ty_28 rfl rfl ?_
    intro b83 w84 J83 E84 B83 Y83
    have Q84 := E84.size
    replace hV := Z0 hV E84
    replace hCst1 := Z0 hCst1 E84
    replace hrb52 := hrb52.evo0 E84
    refine h_next hCst1 ?_
    refine h_one (i := 0) (by kernel_rfl) ?_
    refine h_do rfl ?_
    refine r_bslice (pv := [(0, .int _ _), (1, .int _ _), (2, .int _ _), (3, .int _ _)]) (zs := [_]) (cs := [_, _, _, _]) Tryz.underlying22 ty_3 rfl rfl rfl rfl rfl ?_
    intro b85 w86 J85 E86 B85 Y85
    have Q86 := E86.size
    replace hV := Z0 hV E86
    replace hCst1 := Z0 hCst1 E86
    replace hrb52 := hrb52.evo0 E86
    replace B83 := B83.evo0 E86
    have hrb85 : RowE w86 (some ⟨b85, 0, none⟩) b85 0 4 ([-1, 0, 100, 101] : List Int) := rowLit ([-1, 0, 100, 101] : List Int) B85 rfl rfl
    refine h_next hCst1 ?_
    refine h_take (i := 3) rfl rfl rfl rfl (by kernel_rfl) (fun w' hC => run_ix ((sh9 % 4).toNat) rfl Tryz.underlying22 ty_3 rfl rfl (by omega) (by show _ < 4; omega) (hrb85.addr (i := (sh9 % 4).toNat) (by show _ < 4; omega))) hCst1 ?_
    have hA87 := hrb85.atD ((sh9 % 4).toNat) (by show _ < 4; omega)
    refine h_one (i := 4) (by kernel_rfl) ?_
    refine h_do rfl ?_
    refine Zo rfl (run_ld1 rfl ag_3 rfl (hA87.cell 0 rfl)) ?_
    refine h_next hCst1 ?_
    refine h_take (i := 10) rfl rfl rfl rfl (by kernel_rfl) (fun w' hC => run_bld (pv := [(1, .int _ _), (2, .int _ _)]) (zs := [_, _, _, _, _, _, _, _, _, _, _, _, _, _, _, _, _]) (cells := [_, _, _, _, _, _, _, _, _, _, _, _, _, _, _, _, _]) rfl ty_28 rfl pl_28 rfl rfl) hCst1 ?_
    refine h_one (i := 12) (by kernel_rfl) ?_
    refine h_do rfl ?_
    refine r_store (v := .agg _) (vs := [_, _, _, _, _, _, _, _, _, _, _, _, _, _, _, _, _]) (cs' := [_, _, _, _, _, _, _, _, _, _, _, _, _, _, _, _, _]) rfl rfl B83 ty_28 rfl rfl rfl rfl rfl ?_
    intro w88 E88 V88 hb_new
    have Q88 := E88.size
    replace hV := Z1 hV E88 (by first | exact .inl (by omega) | exact .inr (by simp))
    replace B83 := hb_new
    clear hb_new
    refine h_last (by kernel_rfl) ?_
    refine h_done (by kernel_rfl) ?_
    refine r_cut_end ?_ ?_
    ·refine ⟨_, _, _, rfl, B83, B83.at, (by omega), (by first | assumption | omega | (dsimp only; omega) | (simp; done)), hV⟩
    repeat (first | (with_reducible exact Agree.merge _ _ _) | (with_reducible exact Agree.refl _ _) | (with_reducible refine Agree.upd ?_ _ _ rfl) | ((with_reducible refine Agree.inner ?_ ?_); (kernel_rfl)))
   refine h_do rfl ?_
   refine r_alloc (zs := [_, _, _, _, _, _, _, _, _, _, _, _, _, _, _, _, _]) ty_28 rfl rfl ?_
   intro b89 w90 J89 E90 B89 Y89
   have Q90 := E90.size
   replace hV := Z0 hV E90
   replace hCst1 := Z0 hCst1 E90
   replace hrb52 := hrb52.evo0 E90
   replace hA54 := hA54.evo0 E90
   refine h_next hCst1 ?_
   refine h_two (i := 0) (j := 9) (by kernel_rfl) ?_ ?_
   ·skip
    refine h_do rfl ?_
    refine r_bslice (pv := [(0, .int _ _), (1, .int _ _), (2, .int _ _), (3, .int _ _)]) (zs := [_]) (cs := [_, _, _, _]) Tryz.underlying22 ty_3 rfl rfl rfl rfl rfl ?_
    intro b91 w92 J91 E92 B91 Y91
    have Q92 := E92.size
    replace hV := Z0 hV E92
    replace hCst1 := Z0 hCst1 E92
    replace hrb52 := hrb52.evo0 E92
    replace hA54 := hA54.evo0 E92
    replace B89 := B89.evo0 E92
    have hrb91 : RowE w92 (some ⟨b91, 0, none⟩) b91 0 4 ([-1, 0, 100, 101] : List Int) := rowLit ([-1, 0, 100, 101] : List Int) B91 rfl rfl
    refine h_next hCst1 ?_
    refine h_take (i := 3) rfl rfl rfl rfl (by kernel_rfl) (fun w' hC => run_ix ((sh9 % 4).toNat) rfl Tryz.underlying22 ty_3 rfl rfl (by omega) (by show _ < 4; omega) (hrb91.addr (i := (sh9 % 4).toNat) (by show _ < 4; omega))) hCst1 ?_
    have hA93 := hrb91.atD ((sh9 % 4).toNat) (by show _ < 4; omega)
    refine h_two (i := 4) (j := 9) (by kernel_rfl) ?_ ?_
    ·skip
     refine h_do rfl ?_
     refine Zo rfl (run_ld1 rfl ag_3 rfl (hA93.cell 0 rfl)) ?_
     refine h_next hCst1 ?_
     refine h_one (i := 9) (by kernel_rfl) ?_
     refine h_do rfl ?_
     refine Zo rfl (run_ld1 rfl ag_3 rfl (hA54.cell 0 rfl)) ?_
     refine h_next hCst1 ?_
     refine h_take (i := 10) rfl rfl rfl rfl (by kernel_rfl) (fun w' hC => run_bld (pv := [(1, .int _ _), (2, .int _ _)]) (zs := [_, _, _, _, _, _, _, _, _, _, _, _, _, _, _, _, _]) (cells := [_, _, _, _, _, _, _, _, _, _, _, _, _, _, _, _, _]) rfl ty_28 rfl pl_28 rfl rfl) hCst1 ?_
     refine h_one (i := 12) (by kernel_rfl) ?_
     refine h_do rfl ?_
     refine r_store (v := .agg _) (vs := [_, _, _, _, _, _, _, _, _, _, _, _, _, _, _, _, _]) (cs' := [_, _, _, _, _, _, _, _, _, _, _, _, _, _, _, _, _]) rfl rfl B89 ty_28 rfl rfl rfl rfl rfl ?_
     intro w94 E94 V94 hb_new
     have Q94 := E94.size
     replace hV := Z1 hV E94 (by first | exact .inl (by omega) | exact .inr (by simp))
     replace B89 := hb_new
     clear hb_new
     refine h_last (by kernel_rfl) ?_
     refine h_done (by kernel_rfl) ?_
     refine r_cut_end ?_ ?_
     ·refine ⟨_, _, _, rfl, B89, B89.at, (by omega), (by first | assumption | omega | (dsimp only; omega) | (simp; done)), hV⟩
     repeat (first | (with_reducible exact Agree.merge _ _ _) | (with_reducible exact Agree.refl _ _) | (with_reducible refine Agree.upd ?_ _ _ rfl) | ((with_reducible refine Agree.inner ?_ ?_); (kernel_rfl)))
    refine h_do rfl ?_
    refine Zo rfl (run_ld1 rfl ag_3 rfl (hA54.cell 0 rfl)) ?_
    refine h_next hCst1 ?_
    refine h_one (i := 4) (by kernel_rfl) ?_
    refine h_do rfl ?_
    refine Zo rfl (run_ld1 rfl ag_3 rfl (hA93.cell 0 rfl)) ?_
    refine h_next hCst1 ?_
    refine h_take (i := 10) rfl rfl rfl rfl (by kernel_rfl) (fun w' hC => run_bld (pv := [(1, .int _ _), (2, .int _ _)]) (zs := [_, _, _, _, _, _, _, _, _, _, _, _, _, _, _, _, _]) (cells := [_, _, _, _, _, _, _, _, _, _, _, _, _, _, _, _, _]) rfl ty_28 rfl pl_28 rfl rfl) hCst1 ?_
    refine h_one (i := 12) (by kernel_rfl) ?_
    refine h_do rfl ?_
    refine r_store (v := .agg _) (vs := [_, _, _, _, _, _, _, _, _, _, _, _, _, _, _, _, _]) (cs' := [_, _, _, _, _, _, _, _, _, _, _, _, _, _, _, _, _]) rfl rfl B89 ty_28 rfl rfl rfl rfl rfl ?_
    intro w95 E95 V95 hb_new
    have Q95 := E95.size
    replace hV := Z1 hV E95 (by first | exact .inl (by omega) | exact .inr (by simp))
    replace B89 := hb_new
    clear hb_new
    refine h_last (by kernel_rfl) ?_
    refine h_done (by kernel_rfl) ?_
    refine r_cut_end ?_ ?_
    ·refine ⟨_, _, _, rfl, B89, B89.at, (by omega), (by first | assumption | omega | (dsimp only; omega) | (simp; done)), hV⟩
    repeat (first | (with_reducible exact Agree.merge _ _ _) | (with_reducible exact Agree.refl _ _) | (with_reducible refine Agree.upd ?_ _ _ rfl) | ((with_reducible refine Agree.inner ?_ ?_); (kernel_rfl)))
   refine h_do rfl ?_
   refine Zo rfl (run_ld1 rfl ag_3 rfl (hA54.cell 0 rfl)) ?_
   refine h_next hCst1 ?_
   refine h_one (i := 0) (by kernel_rfl) ?_
   refine h_do rfl ?_
   refine r_bslice (pv := [(0, .int _ _), (1, .int _ _), (2, .int _ _), (3, .int _ _)]) (zs := [_]) (cs := [_, _, _, _]) Tryz.underlying22 ty_3 rfl rfl rfl rfl rfl ?_
   intro b96 w97 J96 E97 B96 Y96
   have Q97 := E97.size
   replace hV := Z0 hV E97
   replace hCst1 := Z0 hCst1 E97
   replace hrb52 := hrb52.evo0 E97
   replace B89 := B89.evo0 E97
   have hrb96 : RowE w97 (some ⟨b96, 0, none⟩) b96 0 4 ([-1, 0, 100, 101] : List Int) := rowLit ([-1, 0, 100, 101] : List Int) B96 rfl rfl
   refine h_next hCst1 ?_
   refine h_take (i := 3) rfl rfl rfl rfl (by kernel_rfl) (fun w' hC => run_ix ((sh9 % 4).toNat) rfl Tryz.underlying22 ty_3 rfl rfl (by omega) (by show _ < 4; omega) (hrb96.addr (i := (sh9 % 4).toNat) (by show _ < 4; omega))) hCst1 ?_
   have hA98 := hrb96.atD ((sh9 % 4).toNat) (by show _ < 4; omega)
   refine h_one (i := 4) (by kernel_rfl) ?_
   refine h_do rfl ?_
   refine Zo rfl (run_ld1 rfl ag_3 rfl (hA98.cell 0 rfl)) ?_
   refine h_next hCst1 ?_
   refine h_take (i := 10) rfl rfl rfl rfl (by kernel_rfl) (fun w' hC => run_bld (pv := [(1, .int _ _), (2, .int _ _)]) (zs := [_, _, _, _, _, _, _, _, _, _, _, _, _, _, _, _, _]) (cells := [_, _, _, _, _, _, _, _, _, _, _, _, _, _, _, _, _]) rfl ty_28 rfl pl_28 rfl rfl) hCst1 ?_
   refine h_one (i := 12) (by kernel_rfl) ?_
   refine h_do rfl ?_
   refine r_store (v := .agg _) (vs := [_, _, _, _, _, _, _, _, _, _, _, _, _, _, _, _, _]) (cs' := [_, _, _, _, _, _, _, _, _, _, _, _, _, _, _, _, _]) rfl rfl B89 ty_28 rfl rfl rfl rfl rfl ?_
   intro w99 E99 V99 hb_new
   have Q99 := E99.size
   replace hV := Z1 hV E99 (by first | exact .inl (by omega) | exact .inr (by simp))
   replace B89 := hb_new
   clear hb_new
   refine h_last (by kernel_rfl) ?_
   refine h_done (by kernel_rfl) ?_
   refine r_cut_end ?_ ?_
   ·refine ⟨_, _, _, rfl, B89, B89.at, (by omega), (by first | assumption | omega | (dsimp only; omega) | (simp; done)), hV⟩
   repeat (first | (with_reducible exact Agree.merge _ _ _) | (with_reducible exact Agree.refl _ _) | (with_reducible refine Agree.upd ?_ _ _ rfl) | ((with_reducible refine Agree.inner ?_ ?_); (kernel_rfl)))
  refine h_do rfl ?_
  refine r_alloc (zs := [_, _, _, _, _, _, _, _, _, _, _, _, _, _, _, _, _]) ty_28 rfl rfl ?_
  intro b100 w101 J100 E101 B100 Y100
  have Q101 := E101.size
  replace hV := Z0 hV E101
  replace hCst1 := Z0 hCst1 E101
  refine h_next hCst1 ?_
  refine h_two (i := 0) (j := 5) (by kernel_rfl) ?_ ?_
  ·skip
   refine h_do rfl ?_
   refine r_bslice (pv := [(0, .int _ _), (1, .int _ _), (2, .int _ _), (3, .int _ _)]) (zs := [_]) (cs := [_, _, _, _]) Tryz.underlying22 ty_3 rfl rfl rfl rfl rfl ?_
   intro b102 w103 J102 E103 B102 Y102
   have Q103 := E103.size
   replace hV := Z0 hV E103
   replace hCst1 := Z0 hCst1 E103
   replace B100 := B100.evo0 E103
   have hrb102 : RowE w103 (some ⟨b102, 0, none⟩) b102 0 4 ([-1, 0, 100, 101] : List Int) := rowLit ([-1, 0, 100, 101] : List Int) B102 rfl rfl
   refine h_next hCst1 ?_
   refine h_take (i := 3) rfl rfl rfl rfl (by kernel_rfl) (fun w' hC => run_ix ((sh9 % 4).toNat) rfl Tryz.underlying22 ty_3 rfl rfl (by omega) (by show _ < 4; omega) (hrb102.addr (i := (sh9 % 4).toNat) (by show _ < 4; omega))) hCst1 ?_
   have hA104 := hrb102.atD ((sh9 % 4).toNat) (by show _ < 4; omega)
   refine h_two (i := 4) (j := 5) (by kernel_rfl) ?_ ?_
   ·skip
    refine h_do rfl ?_
    refine Zo rfl (run_ld1 rfl ag_3 rfl (hA104.cell 0 rfl)) ?_
    refine h_next hCst1 ?_
    refine h_one (i := 5) (by kernel_rfl) ?_
    refine h_do rfl ?_
    refine r_bslice (pv := [(0, .int _ _), (1, .int _ _), (2, .int _ _), (3, .int _ _), (4, .int _ _), (5, .int _ _)]) (zs := [_]) (cs := [_, _, _, _, _, _]) Tryz.underlying22 ty_3 rfl rfl rfl rfl rfl ?_
    intro b105 w106 J105 E106 B105 Y105
    have Q106 := E106.size
    replace hV := Z0 hV E106
    replace hCst1 := Z0 hCst1 E106
    replace B100 := B100.evo0 E106
    replace hrb102 := hrb102.evo0 E106
    have hrb105 : RowE w106 (some ⟨b105, 0, none⟩) b105 0 6 ([-1, 0, 99, 100, 10000, 10001] : List Int) := rowLit ([-1, 0, 99, 100, 10000, 10001] : List Int) B105 rfl rfl
    refine h_next hCst1 ?_
    refine h_take (i := 8) rfl rfl rfl rfl (by kernel_rfl) (fun w' hC => run_ix ((lo9 % 6).toNat) rfl Tryz.underlying22 ty_3 rfl rfl (by omega) (by show _ < 6; omega) (hrb105.addr (i := (lo9 % 6).toNat) (by show _ < 6; omega))) hCst1 ?_
    have hA107 := hrb105.atD ((lo9 % 6).toNat) (by show _ < 6; omega)
    refine h_one (i := 9) (by kernel_rfl) ?_
    refine h_do rfl ?_
    refine Zo rfl (run_ld1 rfl ag_3 rfl (hA107.cell 0 rfl)) ?_
    refine h_next hCst1 ?_
    refine h_take (i := 10) rfl rfl rfl rfl (by kernel_rfl) (fun w' hC => run_bld (pv := [(1, .int _ _), (2, .int _ _)]) (zs := [_, _, _, _, _, _, _, _, _, _, _, _, _, _, _, _, _]) (cells := [_, _, _, _, _, _, _, _, _, _, _, _, _, _, _, _, _]) rfl ty_28 rfl pl_28 rfl rfl) hCst1 ?_
    refine h_one (i := 12) (by kernel_rfl) ?_
    refine h_do rfl ?_
    refine r_store (v := .agg _) (vs := [_, _, _, _, _, _, _, _, _, _, _, _, _, _, _, _, _]) (cs' := [_, _, _, _, _, _, _, _, _, _, _, _, _, _, _, _, _]) rfl rfl B100 ty_28 rfl rfl rfl rfl rfl ?_
    intro w108 E108 V108 hb_new
    have Q108 := E108.size
    replace hV := Z1 hV E108 (by first | exact .inl (by omega) | exact .inr (by simp))
    replace B100 := hb_new
    clear hb_new
    refine h_last (by kernel_rfl) ?_
    refine h_done (by kernel_rfl) ?_
    refine r_cut_end ?_ ?_
    ·refine ⟨_, _, _, rfl, B100, B100.at, (by omega), (by first | assumption | omega | (dsimp only; omega) | (simp; done)), hV⟩
    repeat (first | (with_reducible exact Agree.merge _ _ _) | (with_reducible exact Agree.refl _ _) | (with_reducible refine Agree.upd ?_ _ _ rfl) | ((with_reducible refine Agree.inner ?_ ?_); (kernel_rfl)))
   refine h_do rfl ?_
   refine r_bslice (pv := [(0, .int _ _), (1, .int _ _), (2, .int _ _), (3, .int _ _), (4, .int _ _), (5, .int _ _)]) (zs := [_]) (cs := [_, _, _, _, _, _]) Tryz.underlying22 ty_3 rfl rfl rfl rfl rfl ?_
   intro b109 w110 J109 E110 B109 Y109
   have Q110 := E110.size
   replace hV := Z0 hV E110
   replace hCst1 := Z0 hCst1 E110
   replace B100 := B100.evo0 E110
   replace hrb102 := hrb102.evo0 E110
   replace hA104 := hA104.evo0 E110
   have hrb109 : RowE w110 (some ⟨b109, 0, none⟩) b109 0 6 ([-1, 0, 99, 100, 10000, 10001] : List Int) := rowLit ([-1, 0, 99, 100, 10000, 10001] : List Int) B109 rfl rfl
   refine h_next hCst1 ?_
   refine h_take (i := 8) rfl rfl rfl rfl (by kernel_rfl) (fun w' hC => run_ix ((lo9 % 6).toNat) rfl Tryz.underlying22 ty_3 rfl rfl (by omega) (by show _ < 6; omega) (hrb109.addr (i := (lo9 % 6).toNat) (by show _ < 6; omega))) hCst1 ?_
   have hA111 := hrb109.atD ((lo9 % 6).toNat) (by show _ < 6; omega)
   refine h_two (i := 4) (j := 9) (by kernel_rfl) ?_ ?_
   ·skip
    refine h_do rfl ?_
    refine Zo rfl (run_ld1 rfl ag_3 rfl (hA104.cell 0 rfl)) ?_
    refine h_next hCst1 ?_
    refine h_one (i := 9) (by kernel_rfl) ?_
    refine h_do rfl ?_
    refine Zo rfl (run_ld1 rfl ag_3 rfl (hA111.cell 0 rfl)) ?_
    refine h_next hCst1 ?_
    refine h_take (i := 10) rfl rfl rfl rfl (by kernel_rfl) (fun w' hC => run_bld (pv := [(1, .int _ _), (2, .int _ _)]) (zs := [_, _, _, _, _, _, _, _, _, _, _, _, _, _, _, _, _]) (cells := [_, _, _, _, _, _, _, _, _, _, _, _, _, _, _, _, _]) rfl ty_28 rfl pl_28 rfl rfl) hCst1 ?_
    refine h_one (i := 12) (by kernel_rfl) ?_
    refine h_do rfl ?_
    refine r_store (v := .agg _) (vs := [_, _, _, _, _, _, _, _, _, _, _, _, _, _, _, _, _]) (cs' := [_, _, _, _, _, _, _, _, _, _, _, _, _, _, _, _, _]) rfl rfl B100 ty_28 rfl rfl rfl rfl rfl ?_
    intro w112 E112 V112 hb_new
    have Q112 := E112.size
    replace hV := Z1 hV E112 (by first | exact .inl (by omega) | exact .inr (by simp))
    replace B100 := hb_new
    clear hb_new
    refine h_last (by kernel_rfl) ?_
    refine h_done (by kernel_rfl) ?_
    refine r_cut_end ?_ ?_
    ·refine ⟨_, _, _, rfl, B100, B100.at, (by omega), (by first | assumption | omega | (dsimp only; omega) | (simp; done)), hV⟩
    repeat (first | (with_reducible exact Agree.merge _ _ _) | (with_reducible exact Agree.refl _ _) | (with_reducible refine Agree.upd ?_ _ _ rfl) | ((with_reducible refine Agree.inner ?_ ?_); (kernel_rfl)))
   refine h_do rfl ?_
   refine Zo rfl (run_ld1 rfl ag_3 rfl (hA111.cell 0 rfl)) ?_
   refine h_next hCst1 ?_
   refine h_one (i := 4) (by kernel_rfl) ?_
   refine h_do rfl ?_
   refine Zo rfl (run_ld1 rfl ag_3 rfl (hA104.cell 0 rfl)) ?_
   refine h_next hCst1 ?_
   refine h_take (i := 10) rfl rfl rfl rfl (by kernel_rfl) (fun w' hC => run_bld (pv := [(1, .int _ _), (2, .int _ _)]) (zs := [_, _, _, _, _, _, _, _, _, _, _, _, _, _, _, _, _]) (cells := [_, _, _, _, _, _, _, _, _, _, _, _, _, _, _, _, _]) rfl ty_28 rfl pl_28 rfl rfl) hCst1 ?_
   refine h_one (i := 12) (by kernel_rfl) ?_
   refine h_do rfl ?_
   refine r_store (v := .agg _) (vs := [_, _, _, _, _, _, _, _, _, _, _, _, _, _, _, _, _]) (cs' := [_, _, _, _, _, _, _, _, _, _, _, _, _, _, _, _, _]) rfl rfl B100 ty_28 rfl rfl rfl rfl rfl ?_
   intro w113 E113 V113 hb_new
   have Q113 := E113.size
   replace hV := Z1 hV E113 (by first | exact .inl (by omega) | exact .inr (by simp))
   replace B100 := hb_new
   clear hb_new
   refine h_last (by kernel_rfl) ?_
   refine h_done (by kernel_rfl) ?_
   refine r_cut_end ?_ ?_
   ·refine ⟨_, _, _, rfl, B100, B100.at, (by omega), (by first | assumption | omega | (dsimp only; omega) | (simp; done)), hV⟩
   repeat (first | (with_reducible exact Agree.merge _ _ _) | (with_reducible exact Agree.refl _ _) | (with_reducible refine Agree.upd ?_ _ _ rfl) | ((with_reducible refine Agree.inner ?_ ?_); (kernel_rfl)))
  refine h_do rfl ?_
  refine r_bslice (pv := [(0, .int _ _), (1, .int _ _), (2, .int _ _), (3, .int _ _), (4, .int _ _), (5, .int _ _)]) (zs := [_]) (cs := [_, _, _, _, _, _]) Tryz.underlying22 ty_3 rfl rfl rfl rfl rfl ?_
  intro b114 w115 J114 E115 B114 Y114
  have Q115 := E115.size
  replace hV := Z0 hV E115
  replace hCst1 := Z0 hCst1 E115
  replace B100 := B100.evo0 E115
  have hrb114 : RowE w115 (some ⟨b114, 0, none⟩) b114 0 6 ([-1, 0, 99, 100, 10000, 10001] : List Int) := rowLit ([-1, 0, 99, 100, 10000, 10001] : List Int) B114 rfl rfl
  refine h_next hCst1 ?_
  refine h_take (i := 8) rfl rfl rfl rfl (by kernel_rfl) (fun w' hC => run_ix ((lo9 % 6).toNat) rfl Tryz.underlying22 ty_3 rfl rfl (by omega) (by show _ < 6; omega) (hrb114.addr (i := (lo9 % 6).toNat) (by show _ < 6; omega))) hCst1 ?_
  have hA116 := hrb114.atD ((lo9 % 6).toNat) (by show _ < 6; omega)
  refine h_two (i := 0) (j := 9) (by kernel_rfl) ?_ ?_
  ·skip
   refine h_do rfl ?_
   refine r_bslice (pv := [(0, .int _ _), (1, .int _ _), (2, .int _ _), (3, .int _ _)]) (zs := [_]) (cs := [_, _, _, _]) Tryz.underlying22 ty_3 rfl rfl rfl rfl rfl ?_
   intro b117 w118 J117 E118 B117 Y117
   have Q118 := E118.size
   replace hV := Z0 hV E118
   replace hCst1 := Z0 hCst1 E118
   replace B100 := B100.evo0 E118
   replace hrb114 := hrb114.evo0 E118
   replace hA116 := hA116.evo0 E118
   have hrb117 : RowE w118 (some ⟨b117, 0, none⟩) b117 0 4 ([-1, 0, 100, 101] : List Int) := rowLit ([-1, 0, 100, 101] : List Int) B117 rfl rfl
   refine h_next hCst1 ?_
   refine h_take (i := 3) rfl rfl rfl rfl (by kernel_rfl) (fun w' hC => run_ix ((sh9 % 4).toNat) rfl Tryz.underlying22 ty_3 rfl rfl (by omega) (by show _ < 4; omega) (hrb117.addr (i := (sh9 % 4).toNat) (by show _ < 4; omega))) hCst1 ?_
   have hA119 := hrb117.atD ((sh9 % 4).toNat) (by show _ < 4; omega)
   refine h_two (i := 4) (j := 9) (by kernel_rfl) ?_ ?_
   ·skip
    refine h_do rfl ?_
    refine Zo rfl (run_ld1 rfl ag_3 rfl (hA119.cell 0 rfl)) ?_
    refine h_next hCst1 ?_
    refine h_one (i := 9) (by kernel_rfl) ?_
    refine h_do rfl ?_
    refine Zo rfl (run_ld1 rfl ag_3 rfl (hA116.cell 0 rfl)) ?_
    refine h_next hCst1 ?_
    refine h_take (i := 10) rfl rfl rfl rfl (by kernel_rfl) (fun w' hC => run_bld (pv := [(1, .int _ _), (2, .int _ _)]) (zs := [_, _, _, _, _, _, _, _, _, _, _, _, _, _, _, _, _]) (cells := [_, _, _, _, _, _, _, _, _, _, _, _, _, _, _, _, _]) rfl ty_28 rfl pl_28 rfl rfl) hCst1 ?_
    refine h_one (i := 12) (by kernel_rfl) ?_
    refine h_do rfl ?_
    refine r_store (v := .agg _) (vs := [_, _, _, _, _, _, _, _, _, _, _, _, _, _, _, _, _]) (cs' := [_, _, _, _, _, _, _, _, _, _, _, _, _, _, _, _, _]) rfl rfl B100 ty_28 rfl rfl rfl rfl rfl ?_
    intro w120 E120 V120 hb_new
    have Q120 := E120.size
    replace hV := Z1 hV E120 (by first | exact .inl (by omega) | exact .inr (by simp))
    replace B100 := hb_new
    clear hb_new
    refine h_last (by kernel_rfl) ?_
    refine h_done (by kernel_rfl) ?_
    refine r_cut_end ?_ ?_
    ·refine ⟨_, _, _, rfl, B100, B100.at, (by omega), (by first | assumption | omega | (dsimp only; omega) | (simp; done)), hV⟩
    repeat (first | (with_reducible exact Agree.merge _ _ _) | (with_reducible exact Agree.refl _ _) | (with_reducible refine Agree.upd ?_ _ _ rfl) | ((with_reducible refine Agree.inner ?_ ?_); (kernel_rfl)))
   refine h_do rfl ?_
   refine Zo rfl (run_ld1 rfl ag_3 rfl (hA116.cell 0 rfl)) ?_
   refine h_next hCst1 ?_
   refine h_one (i := 4) (by kernel_rfl) ?_
   refine h_do rfl ?_
   refine Zo rfl (run_ld1 rfl ag_3 rfl (hA119.cell 0 rfl)) ?_
   refine h_next hCst1 ?_
   refine h_take (i := 10) rfl rfl rfl rfl (by kernel_rfl) (fun w' hC => run_bld (pv := [(1, .int _ _), (2, .int _ _)]) (zs := [_, _, _, _, _, _, _, _, _, _, _, _, _, _, _, _, _]) (cells := [_, _, _, _, _, _, _, _, _, _, _, _, _, _, _, _, _]) rfl ty_28 rfl pl_28 rfl rfl) hCst1 ?_
   refine h_one (i := 12) (by kernel_rfl) ?_
   refine h_do rfl ?_
   refine r_store (v := .agg _) (vs := [_, _, _, _, _, _, _, _, _, _, _, _, _, _, _, _, _]) (cs' := [_, _, _, _, _, _, _, _, _, _, _, _, _, _, _, _, _]) rfl rfl B100 ty_28 rfl rfl rfl rfl rfl ?_
   intro w121 E121 V121 hb_new
   have Q121 := E121.size
   replace hV := Z1 hV E121 (by first | exact .inl (by omega) | exact .inr (by simp))
   replace B100 := hb_new
   clear hb_new
   refine h_last (by kernel_rfl) ?_
   refine h_done (by kernel_rfl) ?_
   refine r_cut_end ?_ ?_
   ·refine ⟨_, _, _, rfl, B100, B100.at, (by omega), (by first | assumption | omega | (dsimp only; omega) | (simp; done)), hV⟩
   repeat (first | (with_reducible exact Agree.merge _ _ _) | (with_reducible exact Agree.refl _ _) | (with_reducible refine Agree.upd ?_ _ _ rfl) | ((with_reducible refine Agree.inner ?_ ?_); (kernel_rfl)))
  refine h_do rfl ?_
  refine Zo rfl (run_ld1 rfl ag_3 rfl (hA116.cell 0 rfl)) ?_
  refine h_next hCst1 ?_
  refine h_one (i := 0) (by kernel_rfl) ?_
  refine h_do rfl ?_
  refine r_bslice (pv := [(0, .int _ _), (1, .int _ _), (2, .int _ _), (3, .int _ _)]) (zs := [_]) (cs := [_, _, _, _]) Tryz.underlying22 ty_3 rfl rfl rfl rfl rfl ?_
  intro b122 w123 J122 E123 B122 Y122
  have Q123 := E123.size
  replace hV := Z0 hV E123
  replace hCst1 := Z0 hCst1 E123
  replace B100 := B100.evo0 E123
  replace hrb114 := hrb114.evo0 E123
  have hrb122 : RowE w123 (some ⟨b122, 0, none⟩) b122 0 4 ([-1, 0, 100, 101] : List Int) := rowLit ([-1, 0, 100, 101] : List Int) B122 rfl rfl
  refine h_next hCst1 ?_
  refine h_take (i := 3) rfl rfl rfl rfl (by kernel_rfl) (fun w' hC => run_ix ((sh9 % 4).toNat) rfl Tryz.underlying22 ty_3 rfl rfl (by omega) (by show _ < 4; omega) (hrb122.addr (i := (sh9 % 4).toNat) (by show _ < 4; omega))) hCst1 ?_
  have hA124 := hrb122.atD ((sh9 % 4).toNat) (by show _ < 4; omega)
  refine h_one (i := 4) (by kernel_rfl) ?_
  refine h_do rfl ?_
  refine Zo rfl (run_ld1 rfl ag_3 rfl (hA124.cell 0 rfl)) ?_
  refine h_next hCst1 ?_
  refine h_take (i := 10) rfl rfl rfl rfl (by kernel_rfl) (fun w' hC => run_bld (pv := [(1, .int _ _), (2, .int _ _)]) (zs := [_, _, _, _, _, _, _, _, _, _, _, _, _, _, _, _, _]) (cells := [_, _, _, _, _, _, _, _, _, _, _, _, _, _, _, _, _]) rfl ty_28 rfl pl_28 rfl rfl) hCst1 ?_
  refine h_one (i := 12) (by kernel_rfl) ?_
  refine h_do rfl ?_
  refine r_store (v := .agg _) (vs := [_, _, _, _, _, _, _, _, _, _, _, _, _, _, _, _, _]) (cs' := [_, _, _, _, _, _, _, _, _, _, _, _, _, _, _, _, _]) rfl rfl B100 ty_28 rfl rfl rfl rfl rfl ?_
  intro w125 E125 V125 hb_new
  have Q125 := E125.size
  replace hV := Z1 hV E125 (by first | exact .inl (by omega) | exact .inr (by simp))
  replace B100 := hb_new
  clear hb_new
  refine h_last (by kernel_rfl) ?_
  refine h_done (by kernel_rfl) ?_
  refine r_cut_end ?_ ?_
  ·refine ⟨_, _, _, rfl, B100, B100.at, (by omega), (by first | assumption | omega | (dsimp only; omega) | (simp; done)), hV⟩
  repeat (first | (with_reducible exact Agree.merge _ _ _) | (with_reducible exact Agree.refl _ _) | (with_reducible refine Agree.upd ?_ _ _ rfl) | ((with_reducible refine Agree.inner ?_ ?_); (kernel_rfl)))
 rintro g w126 ⟨bq, sx, lx, hj127, hbq, hAq, hbq9, hzl1, hV⟩
 have hs_w126hV := hV.size
 have hlt128 := hbq.lt
 refine Zk 9 (v := .pointer (some ⟨bq, 0, none⟩)) (by exact hj127) ?_
 refine r_seq ?_
 replace hbq : Blk _ _ _ ((List.replicate 13 (0 : Int)).map (Value.int .i64) ++ [.int .i64 sx, .int .i64 lx, .slice none 0 0, .slice none 0 0]) := hbq; have hAq := hbq.at
 have hl13 : (List.replicate 13 (0 : Int)).length = 13 := rfl
 refine r_region ?_
 refine Zo rfl (mvI rfl) ?_
 refine Zo rfl (run_quo rfl rfl rfl (by omega) (by have h9 := tdiv4 lv9; omega) (by have h9 := tdiv4 lv9; omega)) ?_
 have e5 := (⟨Int.emod_nonneg (lv9.tdiv 4) (show (13 : Int) ≠ 0 by decide), Int.emod_lt_of_pos (lv9.tdiv 4) (show (0 : Int) < 13 by decide)⟩ : 0 ≤ (lv9.tdiv 4) % 13 ∧ (lv9.tdiv 4) % 13 < 13)
 refine r_opcall rfl rfl rfl (run_callf (vs := [.int _ _, .int _ _]) rfl (by exact rfl) Tryz.func11 rfl (by kernel_rfl)) (place_calls _ _ (by omega) (by omega)) ?_
 rintro e w129 ⟨rfl, rfl⟩
 refine ⟨_, rfl, ?_⟩
 refine r_bslice (pv := [(0, .int _ _), (1, .int _ _), (2, .int _ _), (3, .int _ _)]) (zs := [_]) (cs := [_, _, _, _]) Tryz.underlying22 ty_3 rfl rfl rfl rfl rfl ?_
 intro b130 w131 J130 E131 B130 Y130
 have Q131 := E131.size
 replace hV := Z0 hV E131
 replace hbq := hbq.evo0 E131
 replace hAq := hAq.evo0 E131
 have hrb130 : RowE w131 (some ⟨b130, 0, none⟩) b130 0 4 ([-1, 0, 2, 3] : List Int) := rowLit ([-1, 0, 2, 3] : List Int) B130 rfl rfl
 refine Zo rfl (mvI rfl) ?_
 refine r_opcall rfl rfl rfl (run_callf (vs := [.int _ _, .int _ _]) rfl (by exact rfl) Tryz.func11 rfl (by kernel_rfl)) (place_calls _ _ (by omega) (by omega)) ?_
 rintro e w132 ⟨rfl, rfl⟩
 refine ⟨_, rfl, ?_⟩
 refine Zo rfl (run_ix ((lv9 % 4).toNat) rfl Tryz.underlying22 ty_3 rfl rfl (by omega) (by show _ < 4; omega) (hrb130.addr (i := (lv9 % 4).toNat) (by show _ < 4; omega))) ?_
 have hA133 := hrb130.atD ((lv9 % 4).toNat) (by show _ < 4; omega)
 refine Zo rfl (run_ld1 rfl ag_3 rfl (hA133.cell 0 rfl)) ?_
 refine Zo rfl (run_fa rfl rfl fo_28_0) ?_
 refine Zo rfl (run_ixP (((lv9.tdiv 4) % 13).toNat) rfl Tryz.underlying24 ty_3 rfl rfl (by omega) (by omega)) ?_
 refine r_store (v := .int .i64 (([-1, 0, 2, 3] : List Int).getD (lv9 % 4).toNat default)) (vs := [.int .i64 (([-1, 0, 2, 3] : List Int).getD (lv9 % 4).toNat default)]) (cs' := ((((List.replicate 13 (0 : Int))).set ((lv9.tdiv 4) % 13).toNat ((([-1, 0, 2, 3] : List Int).getD (lv9 % 4).toNat default))).map (Value.int .i64) ++ [.int .i64 sx, .int .i64 lx, .slice none 0 0, .slice none 0 0])) rfl rfl hbq ty_3 rfl rfl rfl (by simp only [Nat.zero_add, Nat.mul_one]; exact lev_fit rfl (by omega)) (by simp only [Nat.zero_add, Nat.mul_one]; exact lev_set (by omega)) ?_
 intro w134 E134 V134 hb_new
 have Q134 := E134.size
 replace hV := Z1 hV E134 (by first | exact .inl (by omega) | exact .inr (by simp))
 replace hbq := hb_new
 have hAq := hbq.at
 clear hb_new
 have hlz : (((List.replicate 13 (0 : Int))).set ((lv9.tdiv 4) % 13).toNat ((([-1, 0, 2, 3] : List Int).getD (lv9 % 4).toNat default))).length = ((List.replicate 13 (0 : Int))).length := List.length_set
 refine r_nil ?_
 refine r_seq ?_
 refine r_seq ?_
 obtain ⟨a0, a1, a2, a3, a4, a5, a6, a7, a8, a9, a10, a11, a12, hls⟩ := list13 (l := (List.replicate 13 (0 : Int)).set ((lv9.tdiv 4) % 13).toNat (([-1, 0, 2, 3] : List Int).getD (lv9 % 4).toNat default)) (by rw [List.length_set]; rfl)
 rw [hls] at hbq; replace hbq : Blk _ _ _ [.int .i64 a0, .int .i64 a1, .int .i64 a2, .int .i64 a3, .int .i64 a4, .int .i64 a5, .int .i64 a6, .int .i64 a7, .int .i64 a8, .int .i64 a9, .int .i64 a10, .int .i64 a11, .int .i64 a12, .int .i64 sx, .int .i64 lx, .slice none 0 0, .slice none 0 0] := hbq; have hAq := hbq.at
 have hbq_q := hbq
 have hAq_q := hAq
 have hV_q := hV
 refine h_region ([]) (by kernel_rfl) ?_
 intro w135 hE136 hCst3
 have Q135 := hE136.size
 replace hV := Z0 hV hE136
 replace hbq := hbq.evo0 hE136
 replace hAq := hAq.evo0 hE136
 refine h_take (i := 0) rfl rfl rfl rfl (by kernel_rfl) (fun w' hC => run_ldN rfl ag_28 ty_28 rfl rfl (hAq_q.evo0 hC)) hCst3 ?_
 refine h_take (i := 2) rfl rfl rfl rfl (by kernel_rfl) (fun w' hC => run_ldN rfl ag_28 ty_28 rfl rfl (hAq_q.evo0 hC)) hCst3 ?_
 refine h_one (i := 1) (by kernel_rfl) ?_
 refine h_do rfl ?_
 refine r_opcall rfl rfl rfl (run_callf (vs := [.agg _]) rfl (by exact rfl) Tryz.func12 rfl (by kernel_rfl)) (kvalidate_calls (RowR.nil _ _ 0 0 _) (RowR.nil _ _ 0 0 _)) ?_
 rintro e w137 ⟨rfl, hE137⟩
 refine ⟨_, rfl, ?_⟩
 have Q137 := hE137.size
 replace hV := Z0 hV hE137
 replace hCst3 := Z0 hCst3 hE137
 replace hbq := hbq.evo0 hE137
 replace hAq := hAq.evo0 hE137
 refine h_next hCst3 ?_
 refine h_one (i := 3) (by kernel_rfl) ?_
 refine h_do rfl ?_
 refine r_opcall rfl rfl rfl (run_callf (vs := [.agg _]) rfl (by exact rfl) Tryz.func13 rfl (by kernel_rfl)) (rkvalidate_calls (RowR.nil _ _ 0 0 _) (RowR.nil _ _ 0 0 _) (fun x hx => absurd hx List.not_mem_nil)) ?_
 rintro e w138 ⟨rfl, hE138⟩
 refine ⟨_, rfl, ?_⟩
 have Q138 := hE138.size
 replace hV := Z0 hV hE138
 replace hCst3 := Z0 hCst3 hE138
 refine h_next hCst3 ?_
 refine h_take (i := 4) rfl rfl rfl rfl (by kernel_rfl) (fun w' hC => run_neq rfl rfl rfl) hCst3 ?_
 refine h_done (by kernel_rfl) ?_
 refine r_cond rfl (fun hc139 => ?_) (fun hc139 => ?_)
 ·skip
  exfalso; exact hc139 rfl
 refine r_skip ?_
 refine Zs ?_
 refine Zo rfl (run_bld (pv := [(1, .int _ _), (2, .int _ _)]) (zs := [_, _, _, _, _, _, _, _, _, _, _, _, _, _, _, _, _]) (cells := [_, _, _, _, _, _, _, _, _, _, _, _, _, _, _, _, _]) rfl ty_28 rfl pl_28 rfl rfl) ?_
 refine r_var (zs := [_, _, _, _, _, _, _, _, _, _, _, _, _, _, _, _, _]) (vs := [_, _, _, _, _, _, _, _, _, _, _, _, _, _, _, _, _]) ty_28 rfl rfl rfl (fun _ => rfl) rfl rfl rfl rfl ?_
 intro b140 w141 J140 E141 B140 Y140
 have Q141 := E141.size
 replace hV := Z0 hV E141
 have hAb140 := B140.at
 refine r_nil ?_
 refine Zs ?_
 refine Zo rfl (run_fa rfl rfl fo_28_0) ?_
 refine Zo rfl (run_ixP (12) rfl Tryz.underlying24 ty_3 rfl rfl rfl (by omega)) ?_
 refine r_store (v := .int _ _) (vs := [_]) (cs' := [_, _, _, _, _, _, _, _, _, _, _, _, _, _, _, _, _]) rfl rfl B140 ty_3 rfl rfl rfl rfl rfl ?_
 intro w142 E142 V142 hb_new
 have Q142 := E142.size
 replace hV := Z1 hV E142 (by first | exact .inl (by omega) | exact .inr (by simp))
 replace B140 := hb_new
 have hAb140 := B140.at
 clear hb_new
 refine r_nil ?_
 refine Zs ?_
 refine Zo rfl (mvI rfl) ?_
 refine r_opcall rfl rfl rfl (run_callf (vs := [.int _ _, .int _ _]) rfl (by exact rfl) Tryz.func11 rfl (by kernel_rfl)) (place_calls _ _ (by omega) (by omega)) ?_
 rintro e w143 ⟨rfl, rfl⟩
 refine ⟨_, rfl, ?_⟩
 refine Zn rfl (asI rfl) ?_
 refine Zs ?_
 refine Zo rfl (mvI rfl) ?_
 refine Zo rfl (by exact run_slS (0) ((sz9 % 24).toNat) rfl Tryz.underlying9 rfl lo0 (at1 rfl (by omega)) (by first | omega | (simp; omega)) (by show _ ≤ 24; omega)) ?_
 refine Zo rfl (run_bld (pv := [(0, .int _ _), (1, S _)]) (zs := [_, _, _]) (cells := [_, _, _]) rfl ty_32 rfl pl_32 rfl rfl) ?_
 refine r_bslice (pv := [(0, .agg _)]) (zs := [_, _, _]) (cs := [_, _, _]) Tryz.underlying33 ty_32 rfl rfl rfl rfl rfl ?_
 intro b144 w145 J144 E145 B144 Y144
 have Q145 := E145.size
 replace hV := Z0 hV E145
 replace B140 := B140.evo0 E145
 replace hAb140 := hAb140.evo0 E145
 have hrb144 : RowE w145 (some ⟨b144, 0, none⟩) b144 0 1 ([⟨1, ([120, 120, 120, 120, 120, 120, 120, 120, 120, 120, 120, 120, 120, 120, 120, 120, 120, 120, 120, 120, 120, 120, 120, 120] : Str).take (sz9 % 24).toNat, 0⟩] : List Vc.Item) := rowLit ([⟨1, ([120, 120, 120, 120, 120, 120, 120, 120, 120, 120, 120, 120, 120, 120, 120, 120, 120, 120, 120, 120, 120, 120, 120, 120] : Str).take (sz9 % 24).toNat, 0⟩] : List Vc.Item) B144 rfl rfl
 refine Zn rfl (run_asg (v := .slice (some ⟨b144, 0, none⟩) _ _) rfl rfl) ?_
 refine r_seq ?_
 refine r_seq ?_
 have hx24 : (([120, 120, 120, 120, 120, 120, 120, 120, 120, 120, 120, 120, 120, 120, 120, 120, 120, 120, 120, 120, 120, 120, 120, 120] : Str).take (sz9 % 24).toNat).length ≤ 24 := List.length_take_le' _ _
 refine r_region ?_
 refine Zo rfl (mvI rfl) ?_
 refine Zn rfl (run_eql rfl rfl rfl) ?_
 refine r_cut [12] (fun g w => ∃ aoG : Option Addr, ∃ bG : Nat, ∃ ofG : Nat, ∃ cpG : Nat, g 12 = .slice aoG (limG (sz9 % 24).toNat).length cpG ∧ RowE w aoG bG ofG cpG (limG (sz9 % 24).toNat) ∧ Blk w b140 28 [.int .i64 0, .int .i64 0, .int .i64 0, .int .i64 0, .int .i64 0, .int .i64 0, .int .i64 0, .int .i64 0, .int .i64 0, .int .i64 0, .int .i64 0, .int .i64 0, .int .i64 1, .int .i64 50, .int .i64 200, .slice none 0 0, .slice none 0 0] ∧ At w b140 0 [.int .i64 0, .int .i64 0, .int .i64 0, .int .i64 0, .int .i64 0, .int .i64 0, .int .i64 0, .int .i64 0, .int .i64 0, .int .i64 0, .int .i64 0, .int .i64 0, .int .i64 1, .int .i64 50, .int .i64 200, .slice none 0 0, .slice none 0 0] ∧ w145.heap.size ≤ w.heap.size ∧ Evo w0 w []) ?_ ?_
 ·skip
  refine r_cond rfl (fun hc147 => ?_) (fun hc147 => ?_)
  ·skip
   refine r_region ?_
   refine Zn rfl (asS rfl) ?_
   refine r_cut_end ?_ ?_
   ·refine ⟨_, _, _, _, (by first | (rw [show limG (sz9 % 24).toNat = [] from if_pos (by omega)]; exact rfl) | (rw [show limG (sz9 % 24).toNat = ([⟨1, ([120, 120, 120, 120, 120, 120, 120, 120, 120, 120, 120, 120, 120, 120, 120, 120, 120, 120, 120, 120, 120, 120, 120, 120] : Str).take (sz9 % 24).toNat, 0⟩] : List Vc.Item) from if_neg (by omega)]; exact rfl)), (by first | (rw [show limG (sz9 % 24).toNat = [] from if_pos (by omega)]; exact RowE.nil _ none 0 0 0) | (rw [show limG (sz9 % 24).toNat = ([⟨1, ([120, 120, 120, 120, 120, 120, 120, 120, 120, 120, 120, 120, 120, 120, 120, 120, 120, 120, 120, 120, 120, 120, 120, 120] : Str).take (sz9 % 24).toNat, 0⟩] : List Vc.Item) from if_neg (by omega)]; exact (RowE.nil _ none 0 0 0))), B140, B140.at, (by first | assumption | omega | (dsimp only; omega) | (simp; done)), hV⟩
   repeat (first | (with_reducible exact Agree.merge _ _ _) | (with_reducible exact Agree.refl _ _) | (with_reducible refine Agree.upd ?_ _ _ rfl) | ((with_reducible refine Agree.inner ?_ ?_); (kernel_rfl)))
  refine r_skip ?_
  refine r_cut_end ?_ ?_
  ·refine ⟨_, _, _, _, (by first | (rw [show limG (sz9 % 24).toNat = [] from if_pos (by omega)]; exact rfl) | (rw [show limG (sz9 % 24).toNat = ([⟨1, ([120, 120, 120, 120, 120, 120, 120, 120, 120, 120, 120, 120, 120, 120, 120, 120, 120, 120, 120, 120, 120, 120, 120, 120] : Str).take (sz9 % 24).toNat, 0⟩] : List Vc.Item) from if_neg (by omega)]; exact rfl)), (by first | (rw [show limG (sz9 % 24).toNat = [] from if_pos (by omega)]; exact RowE.nil _ none 0 0 0) | (rw [show limG (sz9 % 24).toNat = ([⟨1, ([120, 120, 120, 120, 120, 120, 120, 120, 120, 120, 120, 120, 120, 120, 120, 120, 120, 120, 120, 120, 120, 120, 120, 120] : Str).take (sz9 % 24).toNat, 0⟩] : List Vc.Item) from if_neg (by omega)]; exact hrb144)), B140, B140.at, (by first | assumption | omega | (dsimp only; omega) | (simp; done)), hV⟩
  repeat (first | (with_reducible exact Agree.merge _ _ _) | (with_reducible exact Agree.refl _ _) | (with_reducible refine Agree.upd ?_ _ _ rfl) | ((with_reducible refine Agree.inner ?_ ?_); (kernel_rfl)))
 rintro g w148 ⟨aoG, bG, ofG, cpG, hj149, hG, B140, hAb140, hzl146, hV⟩
 have hs_w148hV := hV.size
 have hlt150 := B140.lt
 refine Zk 12 (v := .slice aoG (limG (sz9 % 24).toNat).length cpG) (by exact hj149) ?_
 refine Zs ?_
 refine Zo rfl (run_ldN rfl ag_28 ty_28 rfl rfl hAb140) ?_
 refine Zo rfl (run_bld (pv := [(0, .int _ _), (1, S _)]) (zs := [_, _, _]) (cells := [_, _, _]) rfl ty_32 rfl pl_32 rfl rfl) ?_
 refine r_bslice (pv := [(0, .agg _)]) (zs := [_, _, _]) (cs := [_, _, _]) Tryz.underlying33 ty_32 rfl rfl rfl rfl rfl ?_
 intro b151 w152 J151 E152 B151 Y151
 have Q152 := E152.size
 replace hV := Z0 hV E152
 replace hG := hG.evo0 E152
 have hrb151 : RowE w152 (some ⟨b151, 0, none⟩) b151 0 1 ([⟨1, ([121, 121, 121, 121, 121, 121, 121, 121, 121, 121] : Str), 0⟩] : List Vc.Item) := rowLit ([⟨1, ([121, 121, 121, 121, 121, 121, 121, 121, 121, 121] : Str), 0⟩] : List Vc.Item) B151 rfl rfl
 refine Zo rfl (mvS rfl) ?_
 refine r_opcall rfl rfl rfl (run_callf (vs := [.agg _, .slice (some ⟨b151, 0, none⟩) _ _, .slice _ _ _]) rfl (by exact rfl) Tryz.func14 rfl (by kernel_rfl)) (run_calls (RowR.nil _ _ 0 0 _) (RowR.nil _ _ 0 0 _) hrb151 hG limS_tiny (limG_tiny _) limS_no (limG_no _) (Nat.zero_le _) (fun x hx => absurd hx List.not_mem_nil) (htab.evo0 hV)) ?_
 rintro e w153 ⟨vo153, rfl, hE153, hoo153⟩
 refine ⟨_, rfl, ?_⟩
 have Q153 := hE153.size
 replace hV := Z0 hV hE153
 have hla := lim_all (n := (sz9 % 24).toNat) (by omega); replace hoo153 := own_cast hoo153 hla
 refine Zn rfl (run_asg (v := vo153) rfl rfl) ?_
 refine r_seq ?_
 refine r_block ?_
 refine Zs ?_
 refine Zo rfl (mvI rfl) ?_
 refine Zo rfl (run_eql rfl rfl rfl) ?_
 refine Zo rfl (mvB rfl) ?_
 refine r_g rfl (wantF rfl) rfl (fun hg => run_mv (v := .int _ _) rfl rfl) ?_
 refine r_g rfl (wantF rfl) rfl (fun hg => run_geq rfl (glv rfl (fun h => h) hg) rfl) ?_
 refine r_g rfl (wantF rfl) rfl (fun hg => run_mv (v := .bool _) rfl (glv rfl (fun h => h) hg)) ?_
 refine r_g rfl (wantTg rfl) rfl (fun hg => run_mv (v := .int _ _) rfl rfl) ?_
 refine r_g rfl (wantTg rfl) rfl (fun hg => run_leq rfl (glv rfl (fun h => h) hg) rfl) ?_
 refine r_g rfl (wantF rfl) rfl (fun hg => run_pick_and rfl (glv rfl (fun h => h) hg) (fun hq => glv rfl (fun h => h) (And.intro hg hq)) rfl) ?_
 refine Zo rfl (run_pick_or rfl rfl rfl (fun hq => glv rfl (fun h => h) hq)) ?_
 refine Zn rfl (asB rfl) ?_
 refine r_cond rfl (fun hc154 => ?_) (fun hc154 => ?_)
 ·skip
  refine r_seq ?_
  have hre : (if (sz9 % 24).toNat = 0 ∨ (5 ≤ (sz9 % 24).toNat ∧ (sz9 % 24).toNat ≤ 20) then [] else if (sz9 % 24).toNat < 5 then [⟨12, shortW, 0⟩] else [⟨12, longW, 0⟩] : List Vc.Item) = [] := if_pos (by have h9 := hc154; omega)
  rw [hre] at hoo153
  refine r_region ?_
  refine Zo rfl (run_mv (v := vo153) rfl rfl) ?_
  refine Zo rfl (run_lenOE rfl rfl Tryz.underlying34 hoo153) ?_
  refine Zo rfl (run_eql rfl rfl rfl) ?_
  refine Zo rfl (mvB rfl) ?_
  refine r_gyes rfl (wantT rfl) rfl ?_
  refine r_opcall rfl rfl rfl (run_callf (vs := []) rfl (by exact rfl) Tryz.func15 rfl (by kernel_rfl)) (kknown_calls (htab.evo0 hV)) ?_
  rintro e w155 ⟨rfl, hE155⟩
  refine ⟨_, rfl, ?_⟩
  have Q155 := hE155.size
  replace hV := Z0 hV hE155
  refine Zo rfl (run_pick_andB rfl rfl (fun _ => rfl) rfl) ?_
  refine Zn rfl (asB rfl) ?_
  refine r_ret (res1 (v := .bool _) rfl rfl) ?_
  exact ⟨ret_bool (decide_eq_true ⟨rfl, rfl⟩), hV⟩
 refine Zs ?_
 refine Zo rfl (mvI rfl) ?_
 refine Zo rfl (run_lss rfl rfl rfl) ?_
 refine Zn rfl (asB rfl) ?_
 refine r_cond rfl (fun hc156 => ?_) (fun hc156 => ?_)
 ·skip
  refine r_seq ?_
  have hre : (if (sz9 % 24).toNat = 0 ∨ (5 ≤ (sz9 % 24).toNat ∧ (sz9 % 24).toNat ≤ 20) then [] else if (sz9 % 24).toNat < 5 then [⟨12, shortW, 0⟩] else [⟨12, longW, 0⟩] : List Vc.Item) = [⟨12, shortW, 0⟩] := (if_neg (by omega)).trans (if_pos (by omega))
  rw [hre] at hoo153
  refine r_region ?_
  refine Zo rfl (run_mv (v := vo153) rfl rfl) ?_
  refine Zo rfl (run_bld (pv := [(0, .int _ _), (1, S _)]) (zs := [_, _, _]) (cells := [_, _, _]) rfl ty_39 rfl pl_39 rfl rfl) ?_
  refine r_bslice (pv := [(0, .agg _)]) (zs := [_, _, _]) (cs := [_, _, _]) Tryz.underlying34 ty_39 rfl rfl rfl rfl rfl ?_
  intro b157 w158 J157 E158 B157 Y157
  have Q158 := E158.size
  replace hV := Z0 hV E158
  replace hoo153 := hoo153.evo0 E158
  have hrb157 : RowE w158 (some ⟨b157, 0, none⟩) b157 0 1 ([⟨12, shortW, 0⟩] : List Vc.Item) := rowLit ([⟨12, shortW, 0⟩] : List Vc.Item) B157 rfl rfl
  obtain ⟨ao159, g159, cp159, hv159, hr159, hg159⟩ := hoo153.rowOf
  subst hv159
  refine r_opcall rfl rfl rfl (run_callf (vs := [.slice _ _ _, .slice (some ⟨b157, 0, none⟩) _ _]) rfl (by exact rfl) Tryz.func16 rfl (by kernel_rfl)) (ksame_calls hr159 hrb157) ?_
  rintro e w160 ⟨rfl, hE160⟩
  refine ⟨_, rfl, ?_⟩
  have Q160 := hE160.size
  replace hV := Z0 hV hE160
  refine Zo rfl (run_mvb rfl rfl) ?_
  refine r_gyes rfl (wantT rfl) (by exact (decide_eq_true rfl)) ?_
  refine r_opcall rfl rfl rfl (run_callf (vs := []) rfl (by exact rfl) Tryz.func15 rfl (by kernel_rfl)) (kknown_calls (htab.evo0 hV)) ?_
  rintro e w161 ⟨rfl, hE161⟩
  refine ⟨_, rfl, ?_⟩
  have Q161 := hE161.size
  replace hV := Z0 hV hE161
  refine Zo rfl (run_pick_andB rfl rfl (fun _ => rfl) rfl) ?_
  refine Zn rfl (asB rfl) ?_
  refine r_ret (res1 (v := .bool _) rfl rfl) ?_
  exact ⟨ret_bool (decide_eq_true ⟨rfl, rfl⟩), hV⟩
 refine r_skip ?_
 refine r_blk ?_
 refine r_seq ?_
 have hre : (if (sz9 % 24).toNat = 0 ∨ (5 ≤ (sz9 % 24).toNat ∧ (sz9 % 24).toNat ≤ 20) then [] else if (sz9 % 24).toNat < 5 then [⟨12, shortW, 0⟩] else [⟨12, longW, 0⟩] : List Vc.Item) = [⟨12, longW, 0⟩] := (if_neg (by omega)).trans (if_neg (by omega))
 rw [hre] at hoo153
 refine r_region ?_
 refine Zo rfl (run_mv (v := vo153) rfl rfl) ?_
 refine Zo rfl (run_bld (pv := [(0, .int _ _), (1, S _)]) (zs := [_, _, _]) (cells := [_, _, _]) rfl ty_39 rfl pl_39 rfl rfl) ?_
 refine r_bslice (pv := [(0, .agg _)]) (zs := [_, _, _]) (cs := [_, _, _]) Tryz.underlying34 ty_39 rfl rfl rfl rfl rfl ?_
 intro b162 w163 J162 E163 B162 Y162
 have Q163 := E163.size
 replace hV := Z0 hV E163
 replace hoo153 := hoo153.evo0 E163
 have hrb162 : RowE w163 (some ⟨b162, 0, none⟩) b162 0 1 ([⟨12, longW, 0⟩] : List Vc.Item) := rowLit ([⟨12, longW, 0⟩] : List Vc.Item) B162 rfl rfl
 obtain ⟨ao164, g164, cp164, hv164, hr164, hg164⟩ := hoo153.rowOf
 subst hv164
 refine r_opcall rfl rfl rfl (run_callf (vs := [.slice _ _ _, .slice (some ⟨b162, 0, none⟩) _ _]) rfl (by exact rfl) Tryz.func16 rfl (by kernel_rfl)) (ksame_calls hr164 hrb162) ?_
 rintro e w165 ⟨rfl, hE165⟩
 refine ⟨_, rfl, ?_⟩
 have Q165 := hE165.size
 replace hV := Z0 hV hE165
 refine Zo rfl (run_mvb rfl rfl) ?_
 refine r_gyes rfl (wantT rfl) (by exact (decide_eq_true rfl)) ?_
 refine r_opcall rfl rfl rfl (run_callf (vs := []) rfl (by exact rfl) Tryz.func15 rfl (by kernel_rfl)) (kknown_calls (htab.evo0 hV)) ?_
 rintro e w166 ⟨rfl, hE166⟩
 refine ⟨_, rfl, ?_⟩
 have Q166 := hE166.size
 replace hV := Z0 hV hE166
 refine Zo rfl (run_pick_andB rfl rfl (fun _ => rfl) rfl) ?_
 refine Zn rfl (asB rfl) ?_
 refine r_ret (res1 (v := .bool _) rfl rfl) ?_
 exact ⟨ret_bool (decide_eq_true ⟨rfl, rfl⟩), hV⟩
end Go.Proofs.YtlfjocbnbceceaaGreatDoor
