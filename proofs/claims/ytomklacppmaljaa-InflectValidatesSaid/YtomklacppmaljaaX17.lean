import Derived.Test.YtomklacppmaljaaX16
import Derived.Test.YtomklacppmaljaaCl9
namespace Go.Proofs.Ytomklacppmaljaa
open Go.RowKit Go.Vc
theorem ty_41 : tyP Try.prog 41 = some (1, 24, some (.slice none 0 0)) := by kernel_rfl
theorem ee_46 : ∀ (w : World) (x y : Ende), (Op.equalIn 10000 46 (.agg (Enc.enc x).toArray) (.agg (Enc.enc y).toArray)).run Try.prog w = .ok (decide (x = y)) w := fun w x y => equalIn_ende 9998 Try.underlying46 Try.stoodInHeld46 (by decide) (by decide) rfl rfl Try.underlying9 Try.underlying9 ag_9 ag_9 x y
theorem mem_takeS {α : Type} [Inhabited α] {x : α} {l : List α} {k : Nat} (h : k < l.length) : (x ∈ l.take k ∨ x = l.getD k default) ↔ x ∈ l.take (k + 1) := by
  rw [take_succD l k h, List.mem_append, List.mem_singleton]

set_option maxHeartbeats 4000000 in
theorem classes_calls {T bs : Nat} {ao : Option Addr} {b off cap : Nat} {l : List Int} {N : Nat} {n : Int} {w0 : World} (hb : Blk w0 bs T [.slice ao l.length cap, .int .i64 (N : Nat)]) (hl : ∀ w', Evo w0 w' [bs] → RowE w' ao b off cap l) (hN : N ≤ 800000) (hn0 : 0 ≤ n) (hn9 : n ≤ 8) :
    Calls Try.prog 24 #[.pointer (some ⟨bs, 0, none⟩), .int .i64 n] w0 fun e w' => ∃ v, ∃ cl : List Clas, ∃ m N' : Nat, e = .returned v ∧ (MadeP cl m 0 ∧ (m : Int) ≤ n) ∧ (N ≤ N' ∧ N' ≤ N + 100) ∧ Evo w0 w' [bs] ∧ Blk w' bs T [.slice ao l.length cap, .int .i64 (N' : Nat)] ∧ OwnR w' w0.heap.size 43 [] v cl := by
 have hAs := hb.at; have hbslt := hb.lt
 refine calls_enter (n := 69) (args := [.pointer (some ⟨bs, 0, none⟩), .int .i64 n]) Try.func24 rfl Try.ntmps24 rfl ?_
 have hV : Evo w0 w0 [bs] := Evo.refl _ _
 have hl0 := hl
 replace hl := hl0 _ hV
 have hbd_hl := hl.bd
 refine r_seq ?_
 refine r_region ?_
 refine r_op rfl rfl rfl (run_asg (v := .slice _ _ _) rfl (by exact rfl)) ?_
 refine r_nil ?_
 refine r_seq ?_
 refine r_region ?_
 refine r_op rfl rfl rfl (run_asg (v := .slice _ _ _) rfl (by exact rfl)) ?_
 refine r_nil ?_
 refine r_seq ?_
 refine r_seq ?_
 refine r_region ?_
 refine r_op rfl rfl rfl (run_mv (v := .pointer _) rfl (by exact rfl)) ?_
 refine r_op rfl rfl rfl (run_mv (v := .int _ _) rfl (by exact rfl)) ?_
 refine r_op rfl rfl rfl (run_add rfl (by exact rfl) (by exact rfl) (by omega) (by omega)) ?_
 refine r_opcall rfl rfl rfl (run_callf (vs := [.pointer _, .int _ _]) rfl (by exact rfl) Try.func67 rfl (by kernel_rfl)) (nx_calls hb hl (by omega) (by omega) (by omega)) ?_
 rintro e w1 ⟨nx1, rfl, hx1, hE1, hn1⟩
 refine ⟨_, rfl, ?_⟩
 have hs_w1 := (hE1).size
 replace hV := evo_step1 hV hE1 (.inr (by simp))
 replace hl := hl0 _ hV
 replace hb := hn1
 clear hn1
 have hAs := hb.at
 refine r_op rfl rfl rfl (run_asg (v := .int _ _) rfl (by exact rfl)) ?_
 refine r_nil ?_
 refine r_block ?_
 refine r_loop (α := Nat) [5, 6, 7, 8, 9, 10, 12, 17, 18, 19, 20, 21, 22, 23, 24, 25, 26, 27, 28, 29, 30, 31, 32, 33, 34, 35, 36, 37, 38, 39, 40, 41, 42, 43, 44, 45, 46, 47, 48, 49, 50, 51, 52, 53, 54, 55, 56, 57, 58, 59, 60, 61, 62, 63, 64, 65, 66, 67] (fun i g w => ∃ vo : Value, ∃ cl : List Clas, ∃ N1 : Nat, g 6 = .int .i64 (i : Nat) ∧ g 5 = vo ∧ OwnR w w0.heap.size 43 [bs] vo cl ∧ Blk w bs T [.slice ao l.length cap, .int .i64 (N1 : Nat)] ∧ At w bs 0 [.slice ao l.length cap, .int .i64 (N1 : Nat)] ∧ MadeP cl nx1.toNat i ∧ (N + 1 ≤ N1 ∧ N1 + 7 * i ≤ N + 1 + 7 * nx1.toNat) ∧ w1.heap.size ≤ w.heap.size ∧ Evo w0 w [bs]) (fun i => i) nx1.toNat ?_ ?_
 ·refine ⟨_, [], _, (congrArg (Value.int _) (by omega)), rfl, (OwnR.nil _ _ _ _), hb, hb.at, (MadeP.nil _), (by first | assumption | omega | (dsimp only; omega) | (simp; done)), (by first | assumption | omega | (dsimp only; omega) | (simp; done)), hV⟩
 ·rintro i g w3 ⟨vo, cl, N1, hj4, hj5, hoR, hb, hAs, hMP, hN1, hzl2, hV⟩
  have hs_w3hV := hV.size
  have hlt6 := hb.lt
  replace hl := hl0 _ hV
  refine r_know (i := 6) (v := .int .i64 (i : Nat)) (by exact hj4) ?_
  refine r_know (i := 5) (v := vo) (by exact hj5) ?_
  refine r_seq ?_
  refine r_seq ?_
  refine r_region ?_
  refine r_op rfl rfl rfl (run_mv (v := .int _ _) rfl (by exact rfl)) ?_
  refine r_op rfl rfl rfl (run_gtr rfl (by exact rfl) (by exact rfl)) ?_
  refine r_nil ?_
  refine r_cond (by exact rfl) (fun hc7 => ?_) (fun hc7 => ?_)
  ·skip
   refine r_skip ?_
   refine r_seq ?_
   refine r_block ?_
   refine r_seq ?_
   have hdl9 := decW_len 0 i [] (by omega); simp only [List.length_nil] at hdl9; have hcl9 := hMP.1
   have hI : Evo w3 w3 [bs] := Evo.refl _ _
   have hoR0 := hoR
   have hobR := fun g hg => (hoR.block (g := g) hg).2
   refine r_region ?_
   refine r_op rfl rfl rfl (run_mv (v := .int _ _) rfl (by exact rfl)) ?_
   refine r_opcall rfl rfl rfl (run_callf (vs := [.int _ _]) rfl (by exact rfl) Try.func36 rfl (by kernel_rfl)) (Decimal_calls (by omega)) ?_
   rintro e w8 ⟨rfl, hE8⟩
   refine ⟨_, rfl, ?_⟩
   have hs_w8 := (hE8).size
   replace hV := evo_step0 hV hE8
   replace hI := evo_step0 hI hE8
   replace hl := hl0 _ hV
   replace hb := hb.evo0 hE8
   replace hAs := hAs.evo0 hE8
   refine r_op rfl rfl rfl (run_sadd rfl (by exact rfl) (by exact rfl) (by first | omega | (simp; omega))) ?_
   refine r_op rfl rfl rfl (run_bld (pv := [(0, S _)]) (zs := [_, _]) (cells := [_, _]) rfl ty_43 (by exact rfl) pl_43 (by exact rfl) (by exact rfl)) ?_
   refine r_var (zs := [_, _]) (vs := [_, _]) ty_43 (by exact rfl) rfl (by exact rfl) (fun _ => rfl) (by exact rfl) rfl rfl (by exact rfl) ?_
   intro b9 w10 heb9 hEw10 hbb9 hzb9
   have hs_w10 := (hEw10).size
   replace hV := evo_step0 hV hEw10
   replace hI := evo_step0 hI hEw10
   replace hl := hl0 _ hV
   replace hb := hb.evo0 hEw10
   replace hAs := hAs.evo0 hEw10
   have hAb9 := hbb9.at
   refine r_nil ?_
   refine r_seq ?_
   refine r_seq ?_
   refine r_region ?_
   refine r_op rfl rfl rfl (run_mv (v := .pointer _) rfl (by exact rfl)) ?_
   refine r_opcall rfl rfl rfl (run_callf (vs := [.pointer _, .int _ _]) rfl (by exact rfl) Try.func67 rfl (by kernel_rfl)) (nx_calls hb hl (by omega) (by omega) (by omega)) ?_
   rintro e w11 ⟨nx11, rfl, hx11, hE11, hn11⟩
   refine ⟨_, rfl, ?_⟩
   have hs_w11 := (hE11).size
   replace hV := evo_step1 hV hE11 (.inr (by simp))
   replace hI := evo_step1 hI hE11 (by first | exact .inl (by omega) | exact .inr (by simp))
   replace hl := hl0 _ hV
   replace hbb9 := hbb9.evo hE11 (by simp; omega)
   replace hAb9 := hAb9.evo hE11 (by simp; omega)
   replace hb := hn11
   clear hn11
   have hAs := hb.at
   refine r_op rfl rfl rfl (run_asg (v := .int _ _) rfl (by exact rfl)) ?_
   refine r_nil ?_
   refine r_block ?_
   refine r_loop (α := Nat) [8, 9, 10, 12, 27, 28, 29, 30, 31, 32, 33, 34, 35, 36, 37, 38, 39, 40, 41, 42, 43, 44, 45, 46, 47, 48, 49, 50, 51, 52, 53, 54, 55, 56, 57, 58, 59, 60, 61, 62, 63] (fun kk g w => ∃ vs : Value, ∃ es : List Ende, ∃ N2 : Nat, g 8 = .int .i64 (kk : Nat) ∧ OwnE w w10.heap.size 46 vs es ∧ Blk w b9 43 [S (99 :: decW i []), vs] ∧ At w b9 0 [S (99 :: decW i []), vs] ∧ Blk w bs T [.slice ao l.length cap, .int .i64 (N2 : Nat)] ∧ At w bs 0 [.slice ao l.length cap, .int .i64 (N2 : Nat)] ∧ MadeE es ∧ (es.length + kk ≤ 3 ∧ N1 + 1 ≤ N2 ∧ N2 + 2 * kk ≤ N1 + 1 + 2 * nx11.toNat) ∧ w11.heap.size ≤ w.heap.size ∧ Evo w0 w [bs] ∧ Evo w3 w [bs]) (fun kk => kk) nx11.toNat ?_ ?_
   ·refine ⟨_, [], _, (congrArg (Value.int _) (by omega)), (OwnE.nil _ _ _), hbb9, hbb9.at, hb, hb.at, MadeE.nil, (by simp; omega), (by first | assumption | omega | (dsimp only; omega) | (simp; done)), hV, hI⟩
   ·rintro kk g w13 ⟨vs, es, N2, hj14, hos, hbb9, hAb9, hb, hAs, hME, hek, hzl12, hV, hI⟩
    have hs_w13hV := hV.size
    have hs_w13hI := hI.size
    have hlt15 := hbb9.lt
    have hlt16 := hb.lt
    replace hl := hl0 _ hV
    refine r_know (i := 8) (v := .int .i64 (kk : Nat)) (by exact hj14) ?_
    refine r_seq ?_
    refine r_seq ?_
    refine r_region ?_
    refine r_op rfl rfl rfl (run_mv (v := .int _ _) rfl (by exact rfl)) ?_
    refine r_op rfl rfl rfl (run_gtr rfl (by exact rfl) (by exact rfl)) ?_
    refine r_nil ?_
    refine r_cond (by exact rfl) (fun hc17 => ?_) (fun hc17 => ?_)
    ·skip
     refine r_skip ?_
     refine r_seq ?_
     refine r_block ?_
     refine r_seq ?_
     refine r_cut [9, 31, 32, 33, 34, 35, 36, 37, 38, 39, 40, 41] (fun g w => ∃ bx : Nat, ∃ sx : Str, ∃ tx : Str, g 9 = .pointer (some ⟨bx, 0, none⟩) ∧ Blk w bx 46 (Enc.enc (⟨sx, tx⟩ : Ende)) ∧ At w bx 0 (Enc.enc (⟨sx, tx⟩ : Ende)) ∧ OwnE w w10.heap.size 46 vs es ∧ Blk w b9 43 [S (99 :: decW i []), vs] ∧ At w b9 0 [S (99 :: decW i []), vs] ∧ Blk w bs T [.slice ao l.length cap, .int .i64 (N2 + 2 : Nat)] ∧ At w bs 0 [.slice ao l.length cap, .int .i64 (N2 + 2 : Nat)] ∧ sx ∈ stripsL ∧ tx ∈ addsL ∧ w13.heap.size ≤ w.heap.size ∧ Evo w0 w [bs] ∧ Evo w3 w [bs]) ?_ ?_
     ·skip
      have hbsz : bs < w13.heap.size := by omega
      refine h_rgm M9 (I9 w13 bs 46 T N2 (.slice ao l.length cap)) (by kernel_rfl) (by kernel_rfl) (fun w1 he => I9.init (he.mono (by simp)) (hb.evo0 he)) ?_ ?_
      ·skip
       intro g w20 hI9
       obtain ⟨hE19, hbz, bx, sx, tx, hbx1, hj9, hbx, hsx, htx⟩ := hI9.done
       refine r_know (i := 9) (v := .pointer (some ⟨bx, 0, none⟩)) (by exact hj9) ?_
       have hs_w20 := (hE19).size
       replace hV := evo_step1 hV hE19 (.inr (by simp))
       replace hI := evo_step1 hI hE19 (by first | exact .inl (by omega) | exact .inr (by simp))
       replace hl := hl0 _ hV
       replace hos := hos.evo hE19 (by intro g hg hm; simp at hm; subst hm; have := hos.block hg; omega)
       replace hbb9 := hbb9.evo hE19 (by simp; omega)
       replace hAb9 := hAb9.evo hE19 (by simp; omega)
       have hb := hbz; have hAs := hb.at; have hAx := hbx.at
       refine r_cut_end ?_ ?_
       ·refine ⟨_, _, _, rfl, hbx, hbx.at, hos, hbb9, hbb9.at, hb, hb.at, hsx, htx, (by first | assumption | omega | (dsimp only; omega) | (simp; done)), hV, hI⟩
       ·repeat (first | (with_reducible exact Agree.merge _ _ _) | (with_reducible exact Agree.refl _ _) | (with_reducible refine Agree.upd ?_ _ _ rfl) | ((with_reducible refine Agree.inner ?_ ?_); (kernel_rfl)))
      refine ⟨fun l9 g w hu hd ⟨hI9, hA9⟩ => ?_, ?_⟩
      ·skip
       obtain ⟨hE, hb, h12, hP⟩ := hI9.deps (by omega) hu
       refine rg_step hA9 ?_
       have hE1 : Evo w w [bs] := Evo.refl _ _
       have hcn := cn9_le l9
       have hszE := hE.size
       have hAs := hb.at
       refine r_bslice (pv := [(0, S _), (1, S _), (2, S _), (3, S _), (4, S _)]) (zs := [_]) (cs := [_, _, _, _, _]) Try.underlying34 ty_9 (by exact rfl) rfl (by exact rfl) rfl (by exact rfl) ?_
       intro b21 w22 heb21 hEw22 hbb21 hzb21
       have hs_w22 := (hEw22).size
       replace hE := evo_step0 hE hEw22
       replace hE1 := evo_step0 hE1 hEw22
       replace hb := hb.evo0 hEw22
       replace hAs := hAs.evo0 hEw22
       have hAb21 := hbb21.at
       have hrb21 : RowE w22 (some ⟨b21, 0, none⟩) b21 0 5 stripsL := rowLit stripsL hbb21 rfl rfl
       refine rg_end (And.intro ?_ ?_)
       ·exact I9.step (i := 0) (by omega) hu hbsz h12 hP hE1 hE (by rw [cn9_set (by decide) (by decide)]; exact hb) (same_put (same_merge (M := M9))) ⟨_, by omega, rfl, hrb21⟩
       ·repeat (first | (with_reducible exact Agree.merge _ _ _) | (with_reducible exact Agree.refl _ _) | (with_reducible refine Agree.upd ?_ _ _ rfl) | ((with_reducible refine Agree.inner ?_ ?_); (kernel_rfl)))
      refine ⟨fun l9 g w hu hd ⟨hI9, hA9⟩ => ?_, ?_⟩
      ·skip
       obtain ⟨hE, hb, h12, hP⟩ := hI9.deps (by omega) hu
       refine rg_step hA9 ?_
       have hE1 : Evo w w [bs] := Evo.refl _ _
       have hcn := cn9_le l9
       have hszE := hE.size
       have hAs := hb.at
       refine r_op rfl rfl rfl (run_mv (v := .pointer _) rfl (by exact rfl)) ?_
       refine rg_end (And.intro ?_ ?_)
       ·exact I9.step (i := 1) (by omega) hu hbsz h12 hP hE1 hE (by rw [cn9_set (by decide) (by decide)]; exact hb) (same_put (same_merge (M := M9))) rfl
       ·repeat (first | (with_reducible exact Agree.merge _ _ _) | (with_reducible exact Agree.refl _ _) | (with_reducible refine Agree.upd ?_ _ _ rfl) | ((with_reducible refine Agree.inner ?_ ?_); (kernel_rfl)))
      refine ⟨fun l9 g w hu hd ⟨hI9, hA9⟩ => ?_, ?_⟩
      ·skip
       obtain ⟨hE, hb, h12, hP⟩ := hI9.deps (by omega) hu
       refine rg_step hA9 ?_
       have hE1 : Evo w w [bs] := Evo.refl _ _
       have hcn := cn9_le l9
       have hszE := hE.size
       have hAs := hb.at
       have hj1 := hP 1 (dep_of hd 1 (by kernel_rfl))
       have hl := hl0 _ (Evo.trans hV hE (fun x hx _ => hx))
       refine r_knowL (i := 32) (v := .pointer (some ⟨bs, 0, none⟩)) (by exact hj1) ?_
       refine r_opcall rfl rfl rfl (run_callf (vs := [.pointer _, .int _ _]) rfl (by exact rfl) Try.func67 rfl (by kernel_rfl)) (nx_calls hb hl (by omega) (by omega) (by omega)) ?_
       rintro e w23 ⟨nx23, rfl, hx23, hE23, hn23⟩
       refine ⟨_, rfl, ?_⟩
       have hs_w23 := (hE23).size
       replace hE := evo_step1 hE hE23 (by first | exact .inl (by omega) | exact .inr (by simp))
       replace hE1 := evo_step1 hE1 hE23 (by first | exact .inl (by omega) | exact .inr (by simp))
       replace hb := hn23
       clear hn23
       have hAs := hb.at
       refine rg_end (And.intro ?_ ?_)
       ·exact I9.step (i := 2) (by omega) hu hbsz h12 hP hE1 hE (by rw [cn9_2 hu]; exact hb) (same_put (same_know (same_merge (M := M9)) hj1)) ⟨_, rfl, hx23⟩
       ·repeat (first | (with_reducible exact Agree.merge _ _ _) | (with_reducible exact Agree.refl _ _) | (with_reducible refine Agree.upd ?_ _ _ rfl) | ((with_reducible refine Agree.inner ?_ ?_); (kernel_rfl)))
      refine ⟨fun l9 g w hu hd ⟨hI9, hA9⟩ => ?_, ?_⟩
      ·skip
       obtain ⟨hE, hb, h12, hP⟩ := hI9.deps (by omega) hu
       refine rg_step hA9 ?_
       have hE1 : Evo w w [bs] := Evo.refl _ _
       have hcn := cn9_le l9
       have hszE := hE.size
       have hAs := hb.at
       obtain ⟨bz, hbz1, hj1, hrz⟩ := hP 0 (dep_of hd 0 (by kernel_rfl))
       obtain ⟨rz, hj2, hr0, hr5⟩ := hP 2 (dep_of hd 2 (by kernel_rfl))
       refine r_knowL (i := 31) (v := .slice (some ⟨bz, 0, none⟩) 5 5) (by exact hj1) ?_
       refine r_knowL (i := 33) (v := .int .i64 rz) (by exact hj2) ?_
       refine r_op rfl rfl rfl (run_ix (rz.toNat) rfl Try.underlying34 ty_9 (by exact rfl) (by exact rfl) (by omega) (by show _ < 5; omega) (hrz.addr (i := rz.toNat) (by show _ < 5; omega))) ?_
       have hA24 := hrz.atD (rz.toNat) (by show _ < 5; omega)
       refine rg_end (And.intro ?_ ?_)
       ·exact I9.step (i := 3) (by omega) hu hbsz h12 hP hE1 hE (by rw [cn9_set (by decide) (by decide)]; exact hb) (same_put (same_know (same_know (same_merge (M := M9)) hj1) hj2)) (by obtain ⟨sq, hq1, hq2⟩ := elem_in hrz (show rz.toNat < _ by show _ < 5; omega) rfl; exact ⟨_, _, sq, by omega, rfl, hq1, hq2⟩)
       ·repeat (first | (with_reducible exact Agree.merge _ _ _) | (with_reducible exact Agree.refl _ _) | (with_reducible refine Agree.upd ?_ _ _ rfl) | ((with_reducible refine Agree.inner ?_ ?_); (kernel_rfl)))
      refine ⟨fun l9 g w hu hd ⟨hI9, hA9⟩ => ?_, ?_⟩
      ·skip
       obtain ⟨hE, hb, h12, hP⟩ := hI9.deps (by omega) hu
       refine rg_step hA9 ?_
       have hE1 : Evo w w [bs] := Evo.refl _ _
       have hcn := cn9_le l9
       have hszE := hE.size
       have hAs := hb.at
       obtain ⟨bz, jz, sz, hbz1, hj1, haz, hsz⟩ := hP 3 (dep_of hd 3 (by kernel_rfl))
       refine r_knowL (i := 34) (v := .pointer (some ⟨bz, jz, none⟩)) (by exact hj1) ?_
       refine r_op rfl rfl rfl (run_ld1 rfl ag_9 (by exact rfl) (haz.cell 0 (by exact rfl))) ?_
       refine rg_end (And.intro ?_ ?_)
       ·exact I9.step (i := 4) (by omega) hu hbsz h12 hP hE1 hE (by rw [cn9_set (by decide) (by decide)]; exact hb) (same_put (same_know (same_merge (M := M9)) hj1)) ⟨_, rfl, hsz⟩
       ·repeat (first | (with_reducible exact Agree.merge _ _ _) | (with_reducible exact Agree.refl _ _) | (with_reducible refine Agree.upd ?_ _ _ rfl) | ((with_reducible refine Agree.inner ?_ ?_); (kernel_rfl)))
      refine ⟨fun l9 g w hu hd ⟨hI9, hA9⟩ => ?_, ?_⟩
      ·skip
       obtain ⟨hE, hb, h12, hP⟩ := hI9.deps (by omega) hu
       refine rg_step hA9 ?_
       have hE1 : Evo w w [bs] := Evo.refl _ _
       have hcn := cn9_le l9
       have hszE := hE.size
       have hAs := hb.at
       refine r_bslice (pv := [(0, S _), (1, S _), (2, S _), (3, S _), (4, S _), (5, S _)]) (zs := [_]) (cs := [_, _, _, _, _, _]) Try.underlying34 ty_9 (by exact rfl) rfl (by exact rfl) rfl (by exact rfl) ?_
       intro b25 w26 heb25 hEw26 hbb25 hzb25
       have hs_w26 := (hEw26).size
       replace hE := evo_step0 hE hEw26
       replace hE1 := evo_step0 hE1 hEw26
       replace hb := hb.evo0 hEw26
       replace hAs := hAs.evo0 hEw26
       have hAb25 := hbb25.at
       have hrb25 : RowE w26 (some ⟨b25, 0, none⟩) b25 0 6 addsL := rowLit addsL hbb25 rfl rfl
       refine rg_end (And.intro ?_ ?_)
       ·exact I9.step (i := 5) (by omega) hu hbsz h12 hP hE1 hE (by rw [cn9_set (by decide) (by decide)]; exact hb) (same_put (same_merge (M := M9))) ⟨_, by omega, rfl, hrb25⟩
       ·repeat (first | (with_reducible exact Agree.merge _ _ _) | (with_reducible exact Agree.refl _ _) | (with_reducible refine Agree.upd ?_ _ _ rfl) | ((with_reducible refine Agree.inner ?_ ?_); (kernel_rfl)))
      refine ⟨fun l9 g w hu hd ⟨hI9, hA9⟩ => ?_, ?_⟩
      ·skip
       obtain ⟨hE, hb, h12, hP⟩ := hI9.deps (by omega) hu
       refine rg_step hA9 ?_
       have hE1 : Evo w w [bs] := Evo.refl _ _
       have hcn := cn9_le l9
       have hszE := hE.size
       have hAs := hb.at
       refine r_op rfl rfl rfl (run_mv (v := .pointer _) rfl (by exact rfl)) ?_
       refine rg_end (And.intro ?_ ?_)
       ·exact I9.step (i := 6) (by omega) hu hbsz h12 hP hE1 hE (by rw [cn9_set (by decide) (by decide)]; exact hb) (same_put (same_merge (M := M9))) rfl
       ·repeat (first | (with_reducible exact Agree.merge _ _ _) | (with_reducible exact Agree.refl _ _) | (with_reducible refine Agree.upd ?_ _ _ rfl) | ((with_reducible refine Agree.inner ?_ ?_); (kernel_rfl)))
      refine ⟨fun l9 g w hu hd ⟨hI9, hA9⟩ => ?_, ?_⟩
      ·skip
       obtain ⟨hE, hb, h12, hP⟩ := hI9.deps (by omega) hu
       refine rg_step hA9 ?_
       have hE1 : Evo w w [bs] := Evo.refl _ _
       have hcn := cn9_le l9
       have hszE := hE.size
       have hAs := hb.at
       have hj1 := hP 6 (dep_of hd 6 (by kernel_rfl))
       have hl := hl0 _ (Evo.trans hV hE (fun x hx _ => hx))
       refine r_knowL (i := 37) (v := .pointer (some ⟨bs, 0, none⟩)) (by exact hj1) ?_
       refine r_opcall rfl rfl rfl (run_callf (vs := [.pointer _, .int _ _]) rfl (by exact rfl) Try.func67 rfl (by kernel_rfl)) (nx_calls hb hl (by omega) (by omega) (by omega)) ?_
       rintro e w27 ⟨nx27, rfl, hx27, hE27, hn27⟩
       refine ⟨_, rfl, ?_⟩
       have hs_w27 := (hE27).size
       replace hE := evo_step1 hE hE27 (by first | exact .inl (by omega) | exact .inr (by simp))
       replace hE1 := evo_step1 hE1 hE27 (by first | exact .inl (by omega) | exact .inr (by simp))
       replace hb := hn27
       clear hn27
       have hAs := hb.at
       refine rg_end (And.intro ?_ ?_)
       ·exact I9.step (i := 7) (by omega) hu hbsz h12 hP hE1 hE (by rw [cn9_7 hu]; exact hb) (same_put (same_know (same_merge (M := M9)) hj1)) ⟨_, rfl, hx27⟩
       ·repeat (first | (with_reducible exact Agree.merge _ _ _) | (with_reducible exact Agree.refl _ _) | (with_reducible refine Agree.upd ?_ _ _ rfl) | ((with_reducible refine Agree.inner ?_ ?_); (kernel_rfl)))
      refine ⟨fun l9 g w hu hd ⟨hI9, hA9⟩ => ?_, ?_⟩
      ·skip
       obtain ⟨hE, hb, h12, hP⟩ := hI9.deps (by omega) hu
       refine rg_step hA9 ?_
       have hE1 : Evo w w [bs] := Evo.refl _ _
       have hcn := cn9_le l9
       have hszE := hE.size
       have hAs := hb.at
       obtain ⟨bz, hbz1, hj1, hrz⟩ := hP 5 (dep_of hd 5 (by kernel_rfl))
       obtain ⟨rz, hj2, hr0, hr5⟩ := hP 7 (dep_of hd 7 (by kernel_rfl))
       refine r_knowL (i := 36) (v := .slice (some ⟨bz, 0, none⟩) 6 6) (by exact hj1) ?_
       refine r_knowL (i := 38) (v := .int .i64 rz) (by exact hj2) ?_
       refine r_op rfl rfl rfl (run_ix (rz.toNat) rfl Try.underlying34 ty_9 (by exact rfl) (by exact rfl) (by omega) (by show _ < 6; omega) (hrz.addr (i := rz.toNat) (by show _ < 6; omega))) ?_
       have hA28 := hrz.atD (rz.toNat) (by show _ < 6; omega)
       refine rg_end (And.intro ?_ ?_)
       ·exact I9.step (i := 8) (by omega) hu hbsz h12 hP hE1 hE (by rw [cn9_set (by decide) (by decide)]; exact hb) (same_put (same_know (same_know (same_merge (M := M9)) hj1) hj2)) (by obtain ⟨sq, hq1, hq2⟩ := elem_in hrz (show rz.toNat < _ by show _ < 6; omega) rfl; exact ⟨_, _, sq, by omega, rfl, hq1, hq2⟩)
       ·repeat (first | (with_reducible exact Agree.merge _ _ _) | (with_reducible exact Agree.refl _ _) | (with_reducible refine Agree.upd ?_ _ _ rfl) | ((with_reducible refine Agree.inner ?_ ?_); (kernel_rfl)))
      refine ⟨fun l9 g w hu hd ⟨hI9, hA9⟩ => ?_, ?_⟩
      ·skip
       obtain ⟨hE, hb, h12, hP⟩ := hI9.deps (by omega) hu
       refine rg_step hA9 ?_
       have hE1 : Evo w w [bs] := Evo.refl _ _
       have hcn := cn9_le l9
       have hszE := hE.size
       have hAs := hb.at
       obtain ⟨bz, jz, sz, hbz1, hj1, haz, hsz⟩ := hP 8 (dep_of hd 8 (by kernel_rfl))
       refine r_knowL (i := 39) (v := .pointer (some ⟨bz, jz, none⟩)) (by exact hj1) ?_
       refine r_op rfl rfl rfl (run_ld1 rfl ag_9 (by exact rfl) (haz.cell 0 (by exact rfl))) ?_
       refine rg_end (And.intro ?_ ?_)
       ·exact I9.step (i := 9) (by omega) hu hbsz h12 hP hE1 hE (by rw [cn9_set (by decide) (by decide)]; exact hb) (same_put (same_know (same_merge (M := M9)) hj1)) ⟨_, rfl, hsz⟩
       ·repeat (first | (with_reducible exact Agree.merge _ _ _) | (with_reducible exact Agree.refl _ _) | (with_reducible refine Agree.upd ?_ _ _ rfl) | ((with_reducible refine Agree.inner ?_ ?_); (kernel_rfl)))
      refine ⟨fun l9 g w hu hd ⟨hI9, hA9⟩ => ?_, ?_⟩
      ·skip
       obtain ⟨hE, hb, h12, hP⟩ := hI9.deps (by omega) hu
       refine rg_step hA9 ?_
       have hE1 : Evo w w [bs] := Evo.refl _ _
       have hcn := cn9_le l9
       have hszE := hE.size
       have hAs := hb.at
       obtain ⟨sz, hj1, hsz⟩ := hP 4 (dep_of hd 4 (by kernel_rfl))
       obtain ⟨tz, hj2, htz⟩ := hP 9 (dep_of hd 9 (by kernel_rfl))
       refine r_knowL (i := 35) (v := S sz) (by exact hj1) ?_
       refine r_knowL (i := 40) (v := S tz) (by exact hj2) ?_
       refine r_op rfl rfl rfl (run_bld (pv := [(0, S _), (1, S _)]) (zs := [_, _]) (cells := [_, _]) rfl ty_46 (by exact rfl) pl_46 (by exact rfl) (by exact rfl)) ?_
       refine rg_end (And.intro ?_ ?_)
       ·exact I9.step (i := 10) (by omega) hu hbsz h12 hP hE1 hE (by rw [cn9_set (by decide) (by decide)]; exact hb) (same_put (same_know (same_know (same_merge (M := M9)) hj1) hj2)) ⟨_, _, rfl, hsz, htz⟩
       ·repeat (first | (with_reducible exact Agree.merge _ _ _) | (with_reducible exact Agree.refl _ _) | (with_reducible refine Agree.upd ?_ _ _ rfl) | ((with_reducible refine Agree.inner ?_ ?_); (kernel_rfl)))
      refine ⟨fun l9 g w hu hd ⟨hI9, hA9⟩ => ?_, ?_⟩
      ·skip
       obtain ⟨hE, hb, h12, hP⟩ := hI9.deps (by omega) hu
       refine rg_step hA9 ?_
       have hE1 : Evo w w [bs] := Evo.refl _ _
       have hcn := cn9_le l9
       have hszE := hE.size
       have hAs := hb.at
       refine r_alloc (zs := [_, _]) ty_46 (by exact rfl) rfl ?_
       intro b29 w30 heb29 hEw30 hbb29 hzb29
       have hs_w30 := (hEw30).size
       replace hE := evo_step0 hE hEw30
       replace hE1 := evo_step0 hE1 hEw30
       replace hb := hb.evo0 hEw30
       replace hAs := hAs.evo0 hEw30
       have hAb29 := hbb29.at
       refine rg_end (And.intro ?_ ?_)
       ·exact I9.step (i := 11) (by omega) hu hbsz h12 hP hE1 hE (by rw [cn9_set (by decide) (by decide)]; exact hb) (same_put (same_merge (M := M9))) ⟨_, by omega, rfl, [], [], hbb29⟩
       ·repeat (first | (with_reducible exact Agree.merge _ _ _) | (with_reducible exact Agree.refl _ _) | (with_reducible refine Agree.upd ?_ _ _ rfl) | ((with_reducible refine Agree.inner ?_ ?_); (kernel_rfl)))
      refine ⟨fun l9 g w hu hd ⟨hI9, hA9⟩ => ?_, ?_⟩
      ·skip
       obtain ⟨hE, hb, h12, hP⟩ := hI9.deps (by omega) hu
       refine rg_step hA9 ?_
       have hE1 : Evo w w [bs] := Evo.refl _ _
       have hcn := cn9_le l9
       have hszE := hE.size
       have hAs := hb.at
       obtain ⟨bz, hbz1, hj1, sy, ty, hbx⟩ := hP 11 (dep_of hd 11 (by kernel_rfl))
       have hax := hbx.at
       obtain ⟨sz, tz, hj2, hsz, htz⟩ := hP 10 (dep_of hd 10 (by kernel_rfl))
       refine r_knowL (i := 9) (v := .pointer (some ⟨bz, 0, none⟩)) (by exact hj1) ?_
       refine r_knowL (i := 41) (v := .agg #[S sz, S tz]) (by exact hj2) ?_
       refine r_store (v := .agg _) (vs := [_, _]) (cs' := [_, _]) (by exact rfl) (by exact rfl) hbx ty_46 (by exact rfl) rfl (by exact rfl) rfl (by exact rfl) ?_
       intro w31 hEw31 hzw31 hb_new
       have hs_w31 := (hEw31).size
       replace hE := evo_step1 hE hEw31 (by first | exact .inl (by omega) | exact .inr (by simp))
       replace hb := hb.evo hEw31 (by simp; omega)
       replace hAs := hAs.evo hEw31 (by simp; omega)
       replace hbx := hb_new
       have hax := hbx.at
       clear hb_new
       refine rg_end (And.intro ?_ ?_)
       ·exact I9.last hu (deps_all hd (by kernel_rfl)) hE (by rw [cn9_set (by decide) (by decide)]; exact hb) ⟨bz, sz, tz, by omega, rfl, hbx, hsz, htz⟩
       ·repeat (first | (with_reducible exact Agree.merge _ _ _) | (with_reducible exact Agree.refl _ _) | (with_reducible refine Agree.upd ?_ _ _ rfl) | ((with_reducible refine Agree.inner ?_ ?_); (kernel_rfl)))
      exact trivial
     ·rintro g w32 ⟨bx, sx, tx, hj33, hbx, hAx, hos, hbb9, hAb9, hb, hAs, hsx, htx, hzl18, hV, hI⟩
      have hs_w32hV := hV.size
      have hs_w32hI := hI.size
      have hlt34 := hbx.lt
      have hlt35 := hbb9.lt
      have hlt36 := hb.lt
      replace hl := hl0 _ hV
      refine r_know (i := 9) (v := .pointer (some ⟨bx, 0, none⟩)) (by exact hj33) ?_
      refine r_seq ?_
      refine r_region ?_
      refine r_op rfl rfl rfl (run_asg (v := .bool _) rfl (by exact rfl)) ?_
      refine r_nil ?_
      refine r_seq ?_
      refine r_seq ?_
      refine r_region ?_
      refine r_op rfl rfl rfl (run_fa rfl (by exact rfl) fo_43_1) ?_
      refine r_op rfl rfl rfl (run_ld1 rfl ag_41 (by exact rfl) (hAb9.cell 1 (by exact rfl))) ?_
      refine r_op rfl rfl rfl (run_lenOE rfl (by exact rfl) Try.underlying41 hos) ?_
      refine r_op rfl rfl rfl (run_mv (v := .int _ _) rfl (by exact rfl)) ?_
      refine r_nil ?_
      refine r_block ?_
      have hbdo := hos.bd
      obtain ⟨ao37, g37, cp37, hv37, hr37, hg37⟩ := hos.rowOf
      subst hv37
      refine r_loop (α := Nat) [10, 12, 45, 46, 47, 48, 49, 50, 51, 52, 53, 54, 55] (fun k g w => g 45 = .int .i64 (k : Nat) ∧ g 10 = .bool (decide ((⟨sx, tx⟩ : Ende) ∈ es.take k)) ∧ k ≤ es.length ∧ RowE w ao37 g37 0 cp37 es ∧ OwnE w w10.heap.size 46 (.slice ao37 es.length cp37) es ∧ Blk w b9 43 [S (99 :: decW i []), .slice ao37 es.length cp37] ∧ At w b9 0 [S (99 :: decW i []), .slice ao37 es.length cp37] ∧ Blk w bs T [.slice ao l.length cap, .int .i64 (N2 + 2 : Nat)] ∧ At w bs 0 [.slice ao l.length cap, .int .i64 (N2 + 2 : Nat)] ∧ Blk w bx 46 (Enc.enc (⟨sx, tx⟩ : Ende)) ∧ At w bx 0 (Enc.enc (⟨sx, tx⟩ : Ende)) ∧ w32.heap.size ≤ w.heap.size ∧ Evo w0 w [bs] ∧ Evo w3 w [bs]) (fun k => es.length - k) 0 ?_ ?_
      ·refine ⟨(by first | exact rfl | exact congrArg (Value.int _) (by omega) | exact congrArg (Value.int _) (by dsimp only; omega) | exact congrArg (Value.int _) (by simp) | exact congrArg S (by simp)), (congrArg Value.bool (by simp)), (by first | assumption | omega | (dsimp only; omega) | (simp; done)), hr37, (by first | assumption | omega | (dsimp only; omega) | (simp; done)), (by first | assumption | omega | (dsimp only; omega) | (simp; done)), (by first | assumption | omega | (dsimp only; omega) | (simp; done)), (by first | assumption | omega | (dsimp only; omega) | (simp; done)), (by first | assumption | omega | (dsimp only; omega) | (simp; done)), (by first | assumption | omega | (dsimp only; omega) | (simp; done)), (by first | assumption | omega | (dsimp only; omega) | (simp; done)), (by first | assumption | omega | (dsimp only; omega) | (simp; done)), hV, hI⟩
      ·rintro k g w39 ⟨hj40, hj41, hk_k, hro, hos, hbb9, hAb9, hb, hAs, hbx, hAx, hzl38, hV, hI⟩
       have hs_w39hV := hV.size
       have hs_w39hI := hI.size
       have hlt42 := hbb9.lt
       have hlt43 := hb.lt
       have hlt44 := hbx.lt
       replace hl := hl0 _ hV
       refine r_know (i := 45) (v := .int .i64 (k : Nat)) (by exact hj40) ?_
       refine r_know (i := 10) (v := .bool (decide ((⟨sx, tx⟩ : Ende) ∈ es.take k))) (by exact hj41) ?_
       refine r_seq ?_
       refine r_region ?_
       refine r_op rfl rfl rfl (run_lss rfl (by exact rfl) (by exact rfl)) ?_
       refine r_nil ?_
       refine r_seq ?_
       refine r_cond (by exact rfl) (fun hc45 => ?_) (fun hc45 => ?_)
       ·skip
        refine r_skip ?_
        refine r_seq ?_
        refine r_block ?_
        refine r_seq ?_
        refine r_region ?_
        refine r_op rfl rfl rfl (run_ix (k) rfl Try.underlying41 ty_46 (by exact rfl) (by exact rfl) (by first | exact rfl | omega) (by omega) (hro.addr (i := k) (by omega))) ?_
        have hA46 := hro.atD (k) (by omega)
        refine r_op rfl rfl rfl (run_ldN rfl ag_46 ty_46 (by exact rfl) rfl hA46) ?_
        have hob47 := fun g hg => (hos.block (g := g) hg).2
        refine r_var (zs := [_, _]) (vs := [_, _]) ty_46 (by exact rfl) rfl (by exact rfl) (fun _ => rfl) (by exact rfl) rfl rfl (by exact rfl) ?_
        intro b48 w49 heb48 hEw49 hbb48 hzb48
        have hs_w49 := (hEw49).size
        replace hV := evo_step0 hV hEw49
        replace hI := evo_step0 hI hEw49
        replace hl := hl0 _ hV
        replace hro := hro.evo0 hEw49
        replace hos := hos.evo0 hEw49
        replace hbb9 := hbb9.evo0 hEw49
        replace hAb9 := hAb9.evo0 hEw49
        replace hb := hb.evo0 hEw49
        replace hAs := hAs.evo0 hEw49
        replace hbx := hbx.evo0 hEw49
        replace hAx := hAx.evo0 hEw49
        have hAb48 := hbb48.at
        refine r_nil ?_
        refine r_region ?_
        refine r_op rfl rfl rfl (run_mvb rfl (by exact rfl)) ?_
        refine r_op rfl rfl rfl (run_mv (v := .bool _) rfl (by exact rfl)) ?_
        refine r_g rfl (wantF (by exact rfl)) rfl (fun hg => run_ldN rfl ag_46 ty_46 (by exact rfl) rfl hAx) ?_
        refine r_g rfl (wantF (by exact rfl)) rfl (fun hg => run_ldN rfl ag_46 ty_46 (by exact rfl) rfl hAb48) ?_
        refine r_g rfl (wantF (by exact rfl)) rfl (fun hg => run_eqlG (α := Ende) _ _ rfl Try.eqGuardType46 ee_46 (glv (by exact rfl) (fun h => h) hg) (glv (by exact rfl) (fun h => h) hg)) ?_
        refine r_op rfl rfl rfl (run_pick_or rfl (by exact rfl) rfl (fun hq => glv (by exact rfl) (fun h => h) hq)) ?_
        refine r_op rfl rfl rfl (run_asg (v := .bool _) rfl (by exact rfl)) ?_
        refine r_nil ?_
        refine r_blk ?_
        refine r_region ?_
        refine r_op rfl rfl rfl (run_add rfl (by exact rfl) (by exact rfl) (by omega) (by omega)) ?_
        refine r_op rfl rfl rfl (run_mv (v := .int _ _) rfl (by exact rfl)) ?_
        refine r_nil ?_
        refine r_again (k + 1) ?_ ?_ ?_
        ·first | omega | (dsimp only; omega)
        ·refine ⟨(by first | exact rfl | exact congrArg (Value.int _) (by omega) | exact congrArg (Value.int _) (by dsimp only; omega) | exact congrArg (Value.int _) (by simp) | exact congrArg S (by simp)), (congrArg Value.bool (decide_eq_decide.2 ((or_congr_left decide_eq_true_iff).trans (mem_takeS (x := (⟨sx, tx⟩ : Ende)) (l := es) (k := k) (by omega))))), (by first | assumption | omega | (dsimp only; omega) | (simp; done)), hro, hos, hbb9, hAb9, hb, hAs, hbx, hAx, (by first | assumption | omega | (dsimp only; omega) | (simp; done)), hV, hI⟩
        ·repeat (first | (with_reducible exact Agree.merge _ _ _) | (with_reducible exact Agree.refl _ _) | (with_reducible refine Agree.upd ?_ _ _ rfl) | ((with_reducible refine Agree.inner ?_ ?_); (kernel_rfl)))
       ·skip
        refine r_exit rfl ?_
        refine r_seq ?_
        refine r_region ?_
        refine r_op rfl rfl rfl (run_mvb rfl (by exact rfl)) ?_
        refine r_op rfl rfl rfl (run_not rfl (by exact rfl)) ?_
        refine r_nil ?_
        refine r_cond (by exact rfl) (fun hc50 => ?_) (fun hc50 => ?_)
        ·skip
         refine r_region ?_
         refine r_op rfl rfl rfl (run_fa rfl (by exact rfl) fo_43_1) ?_
         refine r_op rfl rfl rfl (run_ld1 rfl ag_41 (by exact rfl) (hAb9.cell 1 (by exact rfl))) ?_
         refine r_op rfl rfl rfl (run_ldN rfl ag_46 ty_46 (by exact rfl) rfl hAx) ?_
         refine r_append1E (u := .agg _) (y := (⟨sx, tx⟩ : Ende)) rfl rfl Try.underlying41 ty_46 (by exact rfl) hos (fun _ => (by exact rfl)) (by exact rfl) (by first | exact rfl | (show _ = List.toArray [_, _]; first | (dsimp only; done) | exact rfl | (dsimp only; exact rfl))) ((by first | omega | (simp; omega))) ((by first | omega | (simp; omega))) (by omega) ?_
         intro q_v51 v51 w52 hEw52 hov51 hlv51
         have hs_w52 := (hEw52).size
         replace hV := evo_stepo hV hEw52 (fun g hg => .inl (by first | exact (hos.block hg).1 | (have := hos.block hg; omega)))
         replace hI := evo_stepo hI hEw52 (fun g hg => .inl (by first | exact (hos.block hg).1 | (have := hos.block hg; omega)))
         replace hl := hl0 _ hV
         replace hbb9 := hbb9.evo hEw52 (by intro hm; have hm2 := Option.mem_toList.1 hm; have := hos.block hm2; omega)
         replace hAb9 := hAb9.evo hEw52 (by intro hm; have hm2 := Option.mem_toList.1 hm; have := hos.block hm2; omega)
         replace hb := hb.evo hEw52 (by intro hm; have hm2 := Option.mem_toList.1 hm; have := hos.block hm2; omega)
         have hos := hov51
         refine r_op rfl rfl rfl (run_fa rfl (by exact rfl) fo_43_1) ?_
         obtain ⟨ao53, cp53, hv53⟩ := hos.shape
         subst hv53
         refine r_store (v := .slice _ _ _) (vs := [_]) (cs' := [_, _]) (by exact rfl) (by exact rfl) hbb9 ty_41 (by exact rfl) rfl (by exact rfl) rfl (by exact rfl) ?_
         intro w54 hEw54 hzw54 hb_new
         have hs_w54 := (hEw54).size
         replace hV := evo_step1 hV hEw54 (by first | exact .inl (by omega) | exact .inr (by simp))
         replace hI := evo_step1 hI hEw54 (by first | exact .inl (by omega) | exact .inr (by simp))
         replace hl := hl0 _ hV
         replace hb := hb.evo hEw54 (by simp; omega)
         replace hos := hos.evo hEw54 (by intro g hg hm; simp at hm; subst hm; have := hos.block hg; omega)
         replace hbb9 := hb_new
         have hAb9 := hbb9.at
         clear hb_new
         refine r_nil ?_
         refine r_blk ?_
         refine r_region ?_
         refine r_op rfl rfl rfl (run_mv (v := .int _ _) rfl (by exact rfl)) ?_
         refine r_op rfl rfl rfl (run_sub rfl (by exact rfl) (by exact rfl) (by omega) (by omega)) ?_
         refine r_op rfl rfl rfl (run_asg (v := .int _ _) rfl (by exact rfl)) ?_
         refine r_nil ?_
         refine r_again (kk - 1) ?_ ?_ ?_
         ·first | omega | (dsimp only; omega)
         ·refine ⟨_, _, _, (by first | exact rfl | exact congrArg (Value.int _) (by omega) | exact congrArg (Value.int _) (by dsimp only; omega) | exact congrArg (Value.int _) (by simp) | exact congrArg S (by simp)), hos, hbb9, hbb9.at, hb, hb.at, (by first | exact hME | exact hME.snoc (by have h8 := hc50; rw [List.take_of_length_le (by omega)] at h8; exact fun h9 => h8 (decide_eq_true h9)) hsx htx), (by first | omega | (simp; omega)), (by first | assumption | omega | (dsimp only; omega) | (simp; done)), hV, hI⟩
         ·repeat (first | (with_reducible exact Agree.merge _ _ _) | (with_reducible exact Agree.refl _ _) | (with_reducible refine Agree.upd ?_ _ _ rfl) | ((with_reducible refine Agree.inner ?_ ?_); (kernel_rfl)))
        ·skip
         refine r_skip ?_
         refine r_blk ?_
         refine r_region ?_
         refine r_op rfl rfl rfl (run_mv (v := .int _ _) rfl (by exact rfl)) ?_
         refine r_op rfl rfl rfl (run_sub rfl (by exact rfl) (by exact rfl) (by omega) (by omega)) ?_
         refine r_op rfl rfl rfl (run_asg (v := .int _ _) rfl (by exact rfl)) ?_
         refine r_nil ?_
         refine r_again (kk - 1) ?_ ?_ ?_
         ·first | omega | (dsimp only; omega)
         ·refine ⟨_, _, _, (by first | exact rfl | exact congrArg (Value.int _) (by omega) | exact congrArg (Value.int _) (by dsimp only; omega) | exact congrArg (Value.int _) (by simp) | exact congrArg S (by simp)), hos, hbb9, hbb9.at, hb, hb.at, (by first | exact hME | exact hME.snoc (by have h8 := hc50; rw [List.take_of_length_le (by omega)] at h8; exact fun h9 => h8 (decide_eq_true h9)) hsx htx), (by first | omega | (simp; omega)), (by first | assumption | omega | (dsimp only; omega) | (simp; done)), hV, hI⟩
         ·repeat (first | (with_reducible exact Agree.merge _ _ _) | (with_reducible exact Agree.refl _ _) | (with_reducible refine Agree.upd ?_ _ _ rfl) | ((with_reducible refine Agree.inner ?_ ?_); (kernel_rfl)))
    ·skip
     refine r_exit rfl ?_
     have hoR := hoR0.evoY hI (by simp; omega)
     clear hoR0
     obtain ⟨aoS, cpS, hvS⟩ := hos.shape
     subst hvS
     refine r_region ?_
     refine r_op rfl rfl rfl (run_mv (v := vo) rfl (by exact rfl)) ?_
     refine r_op rfl rfl rfl (run_ldN rfl ag_43 ty_43 (by exact rfl) rfl hAb9) ?_
     refine r_append1R (u := .agg _) (us := [_, _]) rfl rfl Try.underlying22 ty_43 (by exact rfl) rfl rfl hoR (fun _ => (by exact rfl)) (by exact rfl) (by exact rfl) rfl (by exact rfl) (clas_own _ hos (by simp; omega) (fun g hg => by have := hobR g hg; omega) (made_bdC hME (by omega) (by omega))) ((by first | omega | (simp; omega))) ((by first | omega | (simp; omega))) (by omega) ?_
     intro q_v55 v55 w56 hEw56 hov55 hlv55
     have hs_w56 := (hEw56).size
     replace hV := evo_stepo hV hEw56 (fun g hg => .inl (by first | exact (hoR.block hg).1 | (have := hoR.block hg; omega)))
     replace hl := hl0 _ hV
     replace hb := hb.evo hEw56 (by intro hm; have hm2 := Option.mem_toList.1 hm; have := hoR.block hm2; omega)
     refine r_op rfl rfl rfl (run_asg (v := v55) rfl (by exact rfl)) ?_
     refine r_nil ?_
     refine r_blk ?_
     refine r_region ?_
     refine r_op rfl rfl rfl (run_mv (v := .int _ _) rfl (by exact rfl)) ?_
     refine r_op rfl rfl rfl (run_sub rfl (by exact rfl) (by exact rfl) (by omega) (by omega)) ?_
     refine r_op rfl rfl rfl (run_asg (v := .int _ _) rfl (by exact rfl)) ?_
     refine r_nil ?_
     refine r_again (i - 1) ?_ ?_ ?_
     ·first | omega | (dsimp only; omega)
     ·refine ⟨_, _, _, (by first | exact rfl | exact congrArg (Value.int _) (by omega) | exact congrArg (Value.int _) (by dsimp only; omega) | exact congrArg (Value.int _) (by simp) | exact congrArg S (by simp)), rfl, hov55, hb, hb.at, (hMP.snoc (by omega) rfl hME (by omega)), (by first | assumption | omega | (dsimp only; omega) | (simp; done)), (by first | assumption | omega | (dsimp only; omega) | (simp; done)), hV⟩
     ·repeat (first | (with_reducible exact Agree.merge _ _ _) | (with_reducible exact Agree.refl _ _) | (with_reducible refine Agree.upd ?_ _ _ rfl) | ((with_reducible refine Agree.inner ?_ ?_); (kernel_rfl)))
  ·skip
   refine r_exit rfl ?_
   refine r_seq ?_
   refine r_region ?_
   refine r_op rfl rfl rfl (run_mv (v := vo) rfl (by exact rfl)) ?_
   refine r_op rfl rfl rfl (run_asg (v := vo) rfl (by exact rfl)) ?_
   refine r_nil ?_
   refine r_ret (res1 (v := vo) rfl (by exact rfl)) ?_
   exact ⟨_, cl, _, N1, rfl, ⟨(by rw [show i = 0 by omega] at hMP; exact hMP), by omega⟩, by omega, hV, hb, hoR.sub (by omega) (by simp)⟩

end Go.Proofs.Ytomklacppmaljaa
