/-
  Library, plain laws and walks that the statements reach (joined by a program out of smaller texts).
-/
import Derived.Test.YthbcklajlmcifaaGreatQb
import Derived.Test.YthbcklajlmcifaaGreatQa
import Derived.Shelf.Sort.Plain
import Derived.Ground.Names2Prog
import Derived.Shelf.Slices.SearchI
import Derived.Shelf.Slices.In.SortNone
import Derived.Test.YthbcklajlmcifaaGreatProg
import Derived.Shelf.SlSortCmp.NoneTotal
set_option linter.unusedVariables false
set_option linter.unusedSimpArgs false
namespace Go.Proofs.YthbcklajlmcifaaGreat
open Go.RowKit Go.Vc
set_option maxHeartbeats 4000000 in
theorem fragment_calls {T bs : Nat} {ao : Option Addr} {b off cap : Nat} {l : List Int} {N : Nat} {n : Int} {tags nested : Bool} {w0 : World} (hb : Blk w0 bs T [.slice ao l.length cap, .int .i64 (N : Nat)]) (hl : ∀ w', Evo w0 w' [bs] → RowE w' ao b off cap l) (hN : N ≤ 100000) (hn0 : 0 ≤ n) (hn9 : n ≤ 100) :
    Calls Tryz.prog 18 #[.pointer (some ⟨bs, 0, none⟩), .int .i64 n, .bool tags, .bool nested] w0 fun e w' => ∃ v, ∃ f : List Vc.Item, ∃ N', e = .returned v ∧ (valGo [] f = 0 ∧ (f.length : Int) ≤ 2 * n ∧ (sizeL f : Int) ≤ 30 * n ∧ (nested = true → shapeL f = some ([], []))) ∧ (N ≤ N' ∧ N' ≤ N + 2000) ∧ Evo w0 w' [bs] ∧ Blk w' bs T [.slice ao l.length cap, .int .i64 (N' : Nat)] ∧ OwnE w' w0.heap.size 45 v f := by
 have hAs := hb.at; have hbslt := hb.lt
 refine calls_enter (n := 141) (args := [.pointer (some ⟨bs, 0, none⟩), .int .i64 n, .bool tags, .bool nested]) Tryz.func18 rfl Tryz.ntmps18 rfl ?_
 have hV : Evo w0 w0 [bs] := Evo.refl _ _
 have hl0 := hl
 replace hl := hl0 _ hV
 have hbd_hl := hl.bd
 refine r_seq ?_
 refine r_region ?_
 refine r_op rfl rfl rfl (run_asg (v := .slice _ _ _) rfl (by exact rfl)) ?_
 refine r_nil ?_
 refine r_seq ?_
 refine r_region ?_
 refine r_op rfl rfl rfl (run_asg (v := .slice _ _ _) rfl (by exact rfl)) ?_
 refine r_op rfl rfl rfl (run_asg (v := .slice _ _ _) rfl (by exact rfl)) ?_
 refine r_nil ?_
 refine r_seq ?_
 refine r_region ?_
 refine r_op rfl rfl rfl (run_asg (v := .int _ _) rfl (by exact rfl)) ?_
 refine r_nil ?_
 refine r_seq ?_
 refine r_seq ?_
 refine r_region ?_
 refine r_op rfl rfl rfl (run_mv (v := .pointer _) rfl (by exact rfl)) ?_
 refine r_op rfl rfl rfl (run_mv (v := .int _ _) rfl (by exact rfl)) ?_
 refine r_op rfl rfl rfl (run_add rfl (by exact rfl) (by exact rfl) (by omega) (by omega)) ?_
 refine r_opcall rfl rfl rfl (run_callf (vs := [.pointer _, .int _ _]) rfl (by exact rfl) Tryz.func16 rfl (by kernel_rfl)) (inx_calls hb hl (by omega) (by omega) (by omega)) ?_
 rintro e w1 ⟨nx1, rfl, hx1, hE1, hn1⟩
 refine ⟨_, rfl, ?_⟩
 have hs_w1 := (hE1).size
 replace hV := evo_step1 hV hE1 (.inr (by simp))
 replace hl := hl0 _ hV
 replace hb := hn1
 clear hn1
 have hAs := hb.at
 refine r_op rfl rfl rfl (run_asg (v := .int _ _) rfl (by exact rfl)) ?_
 refine r_nil ?_
 refine r_block ?_
 refine r_loop (α := Nat) [9, 10, 11, 12, 13, 14, 20, 21, 22, 23, 24, 25, 26, 27, 28, 29, 30, 31, 32, 33, 34, 35, 36, 37, 38, 39, 40, 41, 42, 43, 44, 45, 46, 47, 48, 49, 50, 51, 52, 53, 54, 55, 56, 57, 58, 59, 60, 61, 62, 63, 64, 65, 66, 67, 68, 69, 70, 71, 72, 73, 74, 75, 76, 77, 78, 79, 80, 81, 82, 83, 84, 85, 86, 87, 88, 89, 90, 91, 92, 93, 94, 95, 96, 97, 98, 99, 100, 101, 102, 103, 104, 105, 106, 107, 108, 109, 110, 111, 112, 113, 114] (fun i g w => ∃ vf : Value, ∃ vo : Value, ∃ f : List Vc.Item, ∃ op : List Vc.Item, ∃ idn : Int, ∃ N1 : Nat, g 12 = .int .i64 (i : Nat) ∧ g 9 = vf ∧ g 10 = vo ∧ g 11 = .int .i64 idn ∧ OwnE w w0.heap.size 45 vf f ∧ OwnE w w0.heap.size 45 vo op ∧ Blk w bs T [.slice ao l.length cap, .int .i64 (N1 : Nat)] ∧ At w bs 0 [.slice ao l.length cap, .int .i64 (N1 : Nat)] ∧ FI f op idn ∧ NS nested f op ∧ (f.length + i ≤ nx1.toNat ∧ sizeL f + 18 * i ≤ 18 * nx1.toNat ∧ op.length + i ≤ nx1.toNat ∧ idn + i ≤ nx1.toNat ∧ N + 1 ≤ N1 ∧ N1 + 11 * i ≤ N + 1 + 11 * nx1.toNat) ∧ (∀ g, vf.ownBlock = some g → ∀ h, vo.ownBlock = some h → g ≠ h) ∧ (∀ o ∈ op, o.text.length ≤ 5) ∧ w1.heap.size ≤ w.heap.size ∧ Evo w0 w [bs]) (fun i => i) nx1.toNat ?_ ?_
 ·refine ⟨_, _, [], [], _, _, (congrArg (Value.int _) (by omega)), rfl, rfl, rfl, (OwnE.nil _ _ _), (OwnE.nil _ _ _), hb, hb.at, FI.nil, (NS.nil _), (by first | (simp [sizeL]; done) | (simp [sizeL]; omega)), (fun g hg => by have h9 : (none : Option Nat) = some g := hg; cases h9), (by simp), (by first | assumption | omega | (dsimp only; omega) | (simp; done)), hV⟩
 ·rintro i g w3 ⟨vf, vo, f, op, idn, N1, hj4, hj5, hj6, hj7, hof, hop, hb, hAs, hFI, hNS, hsz, hsep, hopt, hzl2, hV⟩
  have hs_w3hV := hV.size
  have hlt8 := hb.lt
  replace hl := hl0 _ hV
  refine r_know (i := 12) (v := .int .i64 (i : Nat)) (by exact hj4) ?_
  refine r_know (i := 9) (v := vf) (by exact hj5) ?_
  refine r_know (i := 10) (v := vo) (by exact hj6) ?_
  refine r_know (i := 11) (v := .int .i64 idn) (by exact hj7) ?_
  refine r_seq ?_
  refine r_seq ?_
  refine r_region ?_
  refine r_op rfl rfl rfl (run_mv (v := .int _ _) rfl (by exact rfl)) ?_
  refine r_op rfl rfl rfl (run_gtr rfl (by exact rfl) (by exact rfl)) ?_
  refine r_nil ?_
  refine r_cond (by exact rfl) (fun hc9 => ?_) (fun hc9 => ?_)
  ·skip
   refine r_skip ?_
   refine r_seq ?_
   refine r_block ?_
   refine r_seq ?_
   have hpos := hFI.pos; have hobF := fun g hg => (hof.block (g := g) hg).2; have hobP := fun g hg => (hop.block (g := g) hg).2
   refine r_region ?_
   refine r_op rfl rfl rfl (run_mv (v := .pointer _) rfl (by exact rfl)) ?_
   refine r_opcall rfl rfl rfl (run_callf (vs := [.pointer _, .int _ _]) rfl (by exact rfl) Tryz.func29 rfl (by kernel_rfl)) (line_calls hb (fun w9 h9 => hl0 _ (Evo.trans hV h9 (fun x hx _ => hx))) (by omega) (by omega) (by omega) (by omega)) ?_
   rintro e w10 ⟨tl10, Nl10, rfl, htl10, hNl10, hE10, hn10⟩
   refine ⟨_, rfl, ?_⟩
   have hs_w10 := (hE10).size
   replace hV := evo_step1 hV hE10 (.inr (by simp))
   replace hl := hl0 _ hV
   replace hof := hof.evo hE10 (by intro g hg hm; simp at hm; subst hm; have := hof.block hg; omega)
   replace hop := hop.evo hE10 (by intro g hg hm; simp at hm; subst hm; have := hop.block hg; omega)
   replace hb := hn10
   clear hn10
   have hAs := hb.at
   refine r_op rfl rfl rfl (run_bld (pv := [(0, .int _ _), (1, S _)]) (zs := [_, _, _]) (cells := [_, _, _]) rfl ty_45 (by exact rfl) pl_45 (by exact rfl) (by exact rfl)) ?_
   have hob11 := fun g hg => (hof.block (g := g) hg).2
   have hob12 := fun g hg => (hop.block (g := g) hg).2
   refine r_var (zs := [_, _, _]) (vs := [_, _, _]) ty_45 (by exact rfl) rfl (by exact rfl) (fun _ => rfl) (by exact rfl) rfl rfl (by exact rfl) ?_
   intro b13 w14 heb13 hEw14 hbb13 hzb13
   have hs_w14 := (hEw14).size
   replace hV := evo_step0 hV hEw14
   replace hl := hl0 _ hV
   replace hof := hof.evo0 hEw14
   replace hop := hop.evo0 hEw14
   replace hb := hb.evo0 hEw14
   replace hAs := hAs.evo0 hEw14
   have hAb13 := hbb13.at
   refine r_nil ?_
   refine r_seq ?_
   refine r_seq ?_
   have hofx : ∀ g, vf.ownBlock = some g → g ≠ b13 := fun g hg h => by have := hobF g hg; omega
   have hopx : ∀ g, vo.ownBlock = some g → g ≠ b13 := fun g hg h => by have := hobP g hg; omega
   refine r_region ?_
   refine r_op rfl rfl rfl (run_mv (v := .pointer _) rfl (by exact rfl)) ?_
   refine r_opcall rfl rfl rfl (run_callf (vs := [.pointer _, .int _ _]) rfl (by exact rfl) Tryz.func16 rfl (by kernel_rfl)) (inx_calls hb hl (by omega) (by omega) (by omega)) ?_
   rintro e w15 ⟨nx15, rfl, hx15, hE15, hn15⟩
   refine ⟨_, rfl, ?_⟩
   have hs_w15 := (hE15).size
   replace hV := evo_step1 hV hE15 (.inr (by simp))
   replace hl := hl0 _ hV
   replace hof := hof.evo hE15 (by intro g hg hm; simp at hm; subst hm; have := hof.block hg; omega)
   replace hop := hop.evo hE15 (by intro g hg hm; simp at hm; subst hm; have := hop.block hg; omega)
   replace hbb13 := hbb13.evo hE15 (by simp; omega)
   replace hAb13 := hAb13.evo hE15 (by simp; omega)
   replace hb := hn15
   clear hn15
   have hAs := hb.at
   refine r_nil ?_
   refine r_block ?_
   refine r_seq ?_
   refine r_seq ?_
   refine r_region ?_
   refine r_op rfl rfl rfl (run_eql rfl (by exact rfl) (by exact rfl)) ?_
   refine r_op rfl rfl rfl (run_asg (v := .bool _) rfl (by exact rfl)) ?_
   refine r_nil ?_
   refine r_cond (by exact rfl) (fun hc16 => ?_) (fun hc16 => ?_)
   ·skip
    refine r_skip ?_
    refine r_cut [10, 11, 14, 32, 33, 34, 35, 36, 37, 38, 39, 40, 41, 42, 43, 44, 45, 46, 47, 48, 49, 50, 51, 52, 53, 54, 55, 56, 57, 58, 59, 60, 61, 62, 63, 64, 65, 66, 67, 68, 69, 70, 71, 72, 73, 74, 75, 76, 77, 78, 79, 80, 81, 82, 83, 84, 85, 86, 87, 88, 89, 90, 91, 92, 93, 94, 95, 96, 97, 98, 99, 100, 101, 102, 103, 104, 105, 106, 107, 108, 109, 110] (fun g w => ∃ vo2 : Value, ∃ op2 : List Vc.Item, ∃ idn2 : Int, ∃ N2 : Nat, ∃ kx : Int, ∃ tx : Str, ∃ ix : Int, g 10 = vo2 ∧ g 11 = .int .i64 idn2 ∧ OwnE w w0.heap.size 45 vf f ∧ OwnE w w0.heap.size 45 vo2 op2 ∧ Blk w b13 45 [.int .i64 kx, S tx, .int .i64 ix] ∧ At w b13 0 [.int .i64 kx, S tx, .int .i64 ix] ∧ Blk w bs T [.slice ao l.length cap, .int .i64 (N2 : Nat)] ∧ At w bs 0 [.slice ao l.length cap, .int .i64 (N2 : Nat)] ∧ (FI (normStep f ⟨kx, tx, ix⟩) op2 idn2) ∧ (NS nested (normStep f ⟨kx, tx, ix⟩) op2) ∧ (tx.length ≤ 18 ∧ op2.length ≤ op.length + 1 ∧ idn2 ≤ idn + 1 ∧ N1 ≤ N2 ∧ N2 ≤ N1 + 11) ∧ (∀ o ∈ op2, o.text.length ≤ 5) ∧ w15.heap.size ≤ w.heap.size ∧ Evo w0 w [bs]) ?_ ?_
    ·skip
     refine r_condT (by exact rfl) hc16 ?_
     refine r_region ?_
     refine r_bslice (pv := [(0, S _), (1, S _), (2, S _)]) (zs := [_]) (cs := [_, _, _]) Tryz.underlying81 ty_9 (by exact rfl) rfl (by exact rfl) rfl (by exact rfl) ?_
     intro b18 w19 heb18 hEw19 hbb18 hzb18
     have hs_w19 := (hEw19).size
     replace hV := evo_step0 hV hEw19
     replace hl := hl0 _ hV
     replace hof := hof.evo0 hEw19
     replace hop := hop.evo0 hEw19
     replace hbb13 := hbb13.evo0 hEw19
     replace hAb13 := hAb13.evo0 hEw19
     replace hb := hb.evo0 hEw19
     replace hAs := hAs.evo0 hEw19
     have hAb18 := hbb18.at
     have hrb18 : RowE w19 (some ⟨b18, 0, none⟩) b18 0 3 slotW := rowLit slotW hbb18 rfl rfl
     refine r_op rfl rfl rfl (run_mv (v := .pointer _) rfl (by exact rfl)) ?_
     refine r_opcall rfl rfl rfl (run_callf (vs := [.pointer _, .int _ _]) rfl (by exact rfl) Tryz.func16 rfl (by kernel_rfl)) (inx_calls hb hl (by omega) (by omega) (by omega)) ?_
     rintro e w20 ⟨nx20, rfl, hx20, hE20, hn20⟩
     refine ⟨_, rfl, ?_⟩
     have hs_w20 := (hE20).size
     replace hV := evo_step1 hV hE20 (.inr (by simp))
     replace hl := hl0 _ hV
     replace hof := hof.evo hE20 (by intro g hg hm; simp at hm; subst hm; have := hof.block hg; omega)
     replace hop := hop.evo hE20 (by intro g hg hm; simp at hm; subst hm; have := hop.block hg; omega)
     replace hbb13 := hbb13.evo hE20 (by simp; omega)
     replace hAb13 := hAb13.evo hE20 (by simp; omega)
     replace hrb18 := hrb18.evo hE20 (by simp; omega)
     replace hb := hn20
     clear hn20
     have hAs := hb.at
     refine r_op rfl rfl rfl (run_ix (nx20.toNat) rfl Tryz.underlying81 ty_9 (by exact rfl) (by exact rfl) (by omega) (by show _ < 3; omega) (hrb18.addr (i := nx20.toNat) (by show _ < 3; omega))) ?_
     have hA21 := hrb18.atD (nx20.toNat) (by show _ < 3; omega)
     refine r_op rfl rfl rfl (run_ld1 rfl ag_9 (by exact rfl) (hA21.cell 0 (by exact rfl))) ?_
     refine r_op rfl rfl rfl (run_bld (pv := [(0, .int _ _), (1, S _)]) (zs := [_, _, _]) (cells := [_, _, _]) rfl ty_45 (by exact rfl) pl_45 (by exact rfl) (by exact rfl)) ?_
     refine r_store (v := .agg _) (vs := [_, _, _]) (cs' := [_, _, _]) (by exact rfl) (by exact rfl) hbb13 ty_45 (by exact rfl) rfl (by exact rfl) rfl (by exact rfl) ?_
     intro w22 hEw22 hzw22 hb_new
     have hs_w22 := (hEw22).size
     replace hV := evo_step1 hV hEw22 (by first | exact .inl (by omega) | exact .inr (by simp))
     replace hl := hl0 _ hV
     replace hof := hof.evo hEw22 (by intro g hg hm; simp at hm; subst hm; exact hofx _ hg rfl)
     replace hop := hop.evo hEw22 (by intro g hg hm; simp at hm; subst hm; exact hopx _ hg rfl)
     replace hb := hb.evo hEw22 (by simp; omega)
     replace hbb13 := hb_new
     have hAb13 := hbb13.at
     clear hb_new
     refine r_nil ?_
     refine r_cut_end ?_ ?_
     ·refine ⟨_, _, _, _, _, _, _, rfl, rfl, hof, (hop.base_le (by omega)), hbb13, hbb13.at, hb, hb.at, (by first | exact hFI.text _ | exact hFI.slot (slotW_ok _ (by omega)).1 | exact hFI.empty (emptyW_ok _ (by omega)).1 (by omega) | exact hFI.open_ (openW_ok _ (by omega)).1 (by omega) | exact hFI.close (by omega) (by omega) | exact hFI.closeNew (by decide) (by omega)), (by first | exact hNS.otherB rfl rfl | exact hNS.open_ _ _ | exact hNS.close (by omega) (fun h9 => by first | rfl | exact absurd h9 hc16) _ | exact NS.closeNew (hc16).2), ⟨by first | omega | exact Nat.le_trans (slotW_ok _ (by omega)).2 (by decide) | exact Nat.le_trans (emptyW_ok _ (by omega)).2 (by decide) | exact Nat.le_trans (openW_ok _ (by omega)).2 (by decide) | exact Nat.le_trans (nameL_len _) (Nat.le_trans (text5 hopt _) (by decide)) | decide, by first | omega | (simp; done) | (simp; omega), by omega, by omega, by omega⟩, (by first | exact hopt | exact (fun o ho => (List.mem_append.1 ho).elim (hopt o) (fun h => by simp at h; subst h; exact (openW_ok _ (by omega)).2)) | exact (fun o ho => (List.mem_append.1 ho).elim (fun h => hopt o (List.mem_of_mem_take h)) (fun h => hopt o (List.mem_of_mem_drop h)))), (by first | assumption | omega | (dsimp only; omega) | (simp; done)), hV⟩
     ·repeat (first | (with_reducible exact Agree.merge _ _ _) | (with_reducible exact Agree.refl _ _) | (with_reducible refine Agree.upd ?_ _ _ rfl) | ((with_reducible refine Agree.inner ?_ ?_); (kernel_rfl)))
    ·rintro g w23 ⟨vo2, op2, idn2, N2, kx, tx, ix, hj24, hj25, hof, hop, hbb13, hAb13, hb, hAs, hFX, hNX, hsz2, hop2, hzl17, hV⟩
     have hs_w23hV := hV.size
     have hlt26 := hbb13.lt
     have hlt27 := hb.lt
     replace hl := hl0 _ hV
     refine r_know (i := 10) (v := vo2) (by exact hj24) ?_
     refine r_know (i := 11) (v := .int .i64 idn2) (by exact hj25) ?_
     refine r_blk ?_
     have hobZ := fun g hg => (hop.block (g := g) hg).2
     have s32 : Small (f ++ [⟨kx, tx, ix⟩]) := ⟨by rw [List.length_append]; simp; omega, by rw [sizeL_append, sizeL_one]; simp; omega⟩
     refine r_region ?_
     refine r_op rfl rfl rfl (run_mv (v := vf) rfl (by exact rfl)) ?_
     refine r_op rfl rfl rfl (run_ldN rfl ag_45 ty_45 (by exact rfl) rfl hAb13) ?_
     refine r_bslice (pv := [(0, .agg _)]) (zs := [_, _, _]) (cs := [_, _, _]) Tryz.underlying46 ty_45 (by exact rfl) rfl (by exact rfl) rfl (by exact rfl) ?_
     intro b28 w29 heb28 hEw29 hbb28 hzb28
     have hs_w29 := (hEw29).size
     replace hV := evo_step0 hV hEw29
     replace hl := hl0 _ hV
     replace hof := hof.evo0 hEw29
     replace hop := hop.evo0 hEw29
     replace hb := hb.evo0 hEw29
     have hAb28 := hbb28.at
     have hrb28 : RowE w29 (some ⟨b28, 0, none⟩) b28 0 1 ([⟨kx, tx, ix⟩] : List Vc.Item) := rowLit ([⟨kx, tx, ix⟩] : List Vc.Item) hbb28 rfl rfl
     obtain ⟨ao30, g30, cp30, hv30, hr30, hg30⟩ := hof.rowOf
     subst hv30
     refine r_opcall rfl rfl rfl (run_callf (vs := [.slice _ _ _, .slice (some ⟨b28, 0, none⟩) _ _]) rfl (by exact rfl) Tryz.func31 rfl (by kernel_rfl)) (rconcat_calls hr30 hrb28 (by assumption)) ?_
     rintro e w31 ⟨vn31, rfl, hE31, hon31⟩
     refine ⟨_, rfl, ?_⟩
     have hs_w31 := (hE31).size
     replace hV := evo_step0 hV hE31
     replace hl := hl0 _ hV
     replace hof := hof.evo0 hE31
     replace hop := hop.evo0 hE31
     replace hb := hb.evo0 hE31
     replace hrb28 := hrb28.evo0 hE31
     replace hr30 := hr30.evo0 hE31
     refine r_op rfl rfl rfl (run_asg (v := vn31) rfl (by exact rfl)) ?_
     refine r_nil ?_
     refine r_blk ?_
     refine r_region ?_
     refine r_op rfl rfl rfl (run_mv (v := .int _ _) rfl (by exact rfl)) ?_
     refine r_op rfl rfl rfl (run_sub rfl (by exact rfl) (by exact rfl) (by omega) (by omega)) ?_
     refine r_op rfl rfl rfl (run_asg (v := .int _ _) rfl (by exact rfl)) ?_
     refine r_nil ?_
     refine r_again (i - 1) ?_ ?_ ?_
     ·first | omega | (dsimp only; omega)
     ·refine ⟨_, _, _, _, _, _, (by first | exact rfl | exact congrArg (Value.int _) (by omega) | exact congrArg (Value.int _) (by dsimp only; omega) | exact congrArg (Value.int _) (by simp) | exact congrArg S (by simp)), rfl, rfl, rfl, (hon31.base_le (by omega)), hop, hb, hb.at, (by rw [hFI.norm]; exact hFX), (by rw [hFI.norm]; exact hNX), (by have h1 := normL_len (f ++ [⟨kx, tx, ix⟩]); have h2 := normL_size (f ++ [⟨kx, tx, ix⟩]); rw [List.length_append] at h1; rw [sizeL_append, sizeL_one] at h2; simp at h1 h2; omega), (fun g hg h hh => by have h1 := (hon31).block (g := g) hg; have h2 := hobZ h hh; omega), hop2, (by first | assumption | omega | (dsimp only; omega) | (simp; done)), hV⟩
     ·repeat (first | (with_reducible exact Agree.merge _ _ _) | (with_reducible exact Agree.refl _ _) | (with_reducible refine Agree.upd ?_ _ _ rfl) | ((with_reducible refine Agree.inner ?_ ?_); (kernel_rfl)))
   ·skip
    refine r_region ?_
    refine r_op rfl rfl rfl (run_eql rfl (by exact rfl) (by exact rfl)) ?_
    refine r_op rfl rfl rfl (run_asg (v := .bool _) rfl (by exact rfl)) ?_
    refine r_nil ?_
    refine r_cut [10, 11, 14, 32, 33, 34, 35, 36, 37, 38, 39, 40, 41, 42, 43, 44, 45, 46, 47, 48, 49, 50, 51, 52, 53, 54, 55, 56, 57, 58, 59, 60, 61, 62, 63, 64, 65, 66, 67, 68, 69, 70, 71, 72, 73, 74, 75, 76, 77, 78, 79, 80, 81, 82, 83, 84, 85, 86, 87, 88, 89, 90, 91, 92, 93, 94, 95, 96, 97, 98, 99, 100, 101, 102, 103, 104, 105, 106, 107, 108, 109, 110] (fun g w => ∃ vo2 : Value, ∃ op2 : List Vc.Item, ∃ idn2 : Int, ∃ N2 : Nat, ∃ kx : Int, ∃ tx : Str, ∃ ix : Int, g 10 = vo2 ∧ g 11 = .int .i64 idn2 ∧ OwnE w w0.heap.size 45 vf f ∧ OwnE w w0.heap.size 45 vo2 op2 ∧ Blk w b13 45 [.int .i64 kx, S tx, .int .i64 ix] ∧ At w b13 0 [.int .i64 kx, S tx, .int .i64 ix] ∧ Blk w bs T [.slice ao l.length cap, .int .i64 (N2 : Nat)] ∧ At w bs 0 [.slice ao l.length cap, .int .i64 (N2 : Nat)] ∧ (FI (normStep f ⟨kx, tx, ix⟩) op2 idn2) ∧ (NS nested (normStep f ⟨kx, tx, ix⟩) op2) ∧ (tx.length ≤ 18 ∧ op2.length ≤ op.length + 1 ∧ idn2 ≤ idn + 1 ∧ N1 ≤ N2 ∧ N2 ≤ N1 + 11) ∧ (∀ o ∈ op2, o.text.length ≤ 5) ∧ w15.heap.size ≤ w.heap.size ∧ Evo w0 w [bs]) ?_ ?_
    ·skip
     refine r_cond (by exact rfl) (fun hc33 => ?_) (fun hc33 => ?_)
     ·skip
      refine r_region ?_
      refine r_bslice (pv := [(0, S _), (1, S _), (2, S _)]) (zs := [_]) (cs := [_, _, _]) Tryz.underlying81 ty_9 (by exact rfl) rfl (by exact rfl) rfl (by exact rfl) ?_
      intro b34 w35 heb34 hEw35 hbb34 hzb34
      have hs_w35 := (hEw35).size
      replace hV := evo_step0 hV hEw35
      replace hl := hl0 _ hV
      replace hof := hof.evo0 hEw35
      replace hop := hop.evo0 hEw35
      replace hbb13 := hbb13.evo0 hEw35
      replace hAb13 := hAb13.evo0 hEw35
      replace hb := hb.evo0 hEw35
      replace hAs := hAs.evo0 hEw35
      have hAb34 := hbb34.at
      have hrb34 : RowE w35 (some ⟨b34, 0, none⟩) b34 0 3 slotW := rowLit slotW hbb34 rfl rfl
      refine r_op rfl rfl rfl (run_mv (v := .pointer _) rfl (by exact rfl)) ?_
      refine r_opcall rfl rfl rfl (run_callf (vs := [.pointer _, .int _ _]) rfl (by exact rfl) Tryz.func16 rfl (by kernel_rfl)) (inx_calls hb hl (by omega) (by omega) (by omega)) ?_
      rintro e w36 ⟨nx36, rfl, hx36, hE36, hn36⟩
      refine ⟨_, rfl, ?_⟩
      have hs_w36 := (hE36).size
      replace hV := evo_step1 hV hE36 (.inr (by simp))
      replace hl := hl0 _ hV
      replace hof := hof.evo hE36 (by intro g hg hm; simp at hm; subst hm; have := hof.block hg; omega)
      replace hop := hop.evo hE36 (by intro g hg hm; simp at hm; subst hm; have := hop.block hg; omega)
      replace hbb13 := hbb13.evo hE36 (by simp; omega)
      replace hAb13 := hAb13.evo hE36 (by simp; omega)
      replace hrb34 := hrb34.evo hE36 (by simp; omega)
      replace hb := hn36
      clear hn36
      have hAs := hb.at
      refine r_op rfl rfl rfl (run_ix (nx36.toNat) rfl Tryz.underlying81 ty_9 (by exact rfl) (by exact rfl) (by omega) (by show _ < 3; omega) (hrb34.addr (i := nx36.toNat) (by show _ < 3; omega))) ?_
      have hA37 := hrb34.atD (nx36.toNat) (by show _ < 3; omega)
      refine r_op rfl rfl rfl (run_ld1 rfl ag_9 (by exact rfl) (hA37.cell 0 (by exact rfl))) ?_
      refine r_op rfl rfl rfl (run_bld (pv := [(0, .int _ _), (1, S _)]) (zs := [_, _, _]) (cells := [_, _, _]) rfl ty_45 (by exact rfl) pl_45 (by exact rfl) (by exact rfl)) ?_
      refine r_store (v := .agg _) (vs := [_, _, _]) (cs' := [_, _, _]) (by exact rfl) (by exact rfl) hbb13 ty_45 (by exact rfl) rfl (by exact rfl) rfl (by exact rfl) ?_
      intro w38 hEw38 hzw38 hb_new
      have hs_w38 := (hEw38).size
      replace hV := evo_step1 hV hEw38 (by first | exact .inl (by omega) | exact .inr (by simp))
      replace hl := hl0 _ hV
      replace hof := hof.evo hEw38 (by intro g hg hm; simp at hm; subst hm; exact hofx _ hg rfl)
      replace hop := hop.evo hEw38 (by intro g hg hm; simp at hm; subst hm; exact hopx _ hg rfl)
      replace hb := hb.evo hEw38 (by simp; omega)
      replace hbb13 := hb_new
      have hAb13 := hbb13.at
      clear hb_new
      refine r_nil ?_
      refine r_cut_end ?_ ?_
      ·refine ⟨_, _, _, _, _, _, _, rfl, rfl, hof, (hop.base_le (by omega)), hbb13, hbb13.at, hb, hb.at, (by first | exact hFI.text _ | exact hFI.slot (slotW_ok _ (by omega)).1 | exact hFI.empty (emptyW_ok _ (by omega)).1 (by omega) | exact hFI.open_ (openW_ok _ (by omega)).1 (by omega) | exact hFI.close (by omega) (by omega) | exact hFI.closeNew (by decide) (by omega)), (by first | exact hNS.otherB rfl rfl | exact hNS.open_ _ _ | exact hNS.close (by omega) (fun h9 => by first | rfl | exact absurd h9 hc33) _ | exact NS.closeNew (hc33).2), ⟨by first | omega | exact Nat.le_trans (slotW_ok _ (by omega)).2 (by decide) | exact Nat.le_trans (emptyW_ok _ (by omega)).2 (by decide) | exact Nat.le_trans (openW_ok _ (by omega)).2 (by decide) | exact Nat.le_trans (nameL_len _) (Nat.le_trans (text5 hopt _) (by decide)) | decide, by first | omega | (simp; done) | (simp; omega), by omega, by omega, by omega⟩, (by first | exact hopt | exact (fun o ho => (List.mem_append.1 ho).elim (hopt o) (fun h => by simp at h; subst h; exact (openW_ok _ (by omega)).2)) | exact (fun o ho => (List.mem_append.1 ho).elim (fun h => hopt o (List.mem_of_mem_take h)) (fun h => hopt o (List.mem_of_mem_drop h)))), (by first | assumption | omega | (dsimp only; omega) | (simp; done)), hV⟩
      ·repeat (first | (with_reducible exact Agree.merge _ _ _) | (with_reducible exact Agree.refl _ _) | (with_reducible refine Agree.upd ?_ _ _ rfl) | ((with_reducible refine Agree.inner ?_ ?_); (kernel_rfl)))
     ·skip
      refine r_seq ?_
      refine r_region ?_
      refine r_op rfl rfl rfl (run_eql rfl (by exact rfl) (by exact rfl)) ?_
      refine r_op rfl rfl rfl (run_asg (v := .bool _) rfl (by exact rfl)) ?_
      refine r_nil ?_
      refine r_cond (by exact rfl) (fun hc39 => ?_) (fun hc39 => ?_)
      ·skip
       refine r_seq ?_
       refine r_region ?_
       refine r_op rfl rfl rfl (run_mvb rfl (by exact rfl)) ?_
       refine r_nil ?_
       refine r_cond (by exact rfl) (fun hc40 => ?_) (fun hc40 => ?_)
       ·skip
        refine r_seq ?_
        refine r_region ?_
        refine r_op rfl rfl rfl (run_mv (v := .int _ _) rfl (by exact rfl)) ?_
        refine r_op rfl rfl rfl (run_add rfl (by exact rfl) (by exact rfl) (by omega) (by omega)) ?_
        refine r_op rfl rfl rfl (run_asg (v := .int _ _) rfl (by exact rfl)) ?_
        refine r_nil ?_
        refine r_region ?_
        refine r_bslice (pv := [(0, S _), (1, S _)]) (zs := [_]) (cs := [_, _]) Tryz.underlying81 ty_9 (by exact rfl) rfl (by exact rfl) rfl (by exact rfl) ?_
        intro b41 w42 heb41 hEw42 hbb41 hzb41
        have hs_w42 := (hEw42).size
        replace hV := evo_step0 hV hEw42
        replace hl := hl0 _ hV
        replace hof := hof.evo0 hEw42
        replace hop := hop.evo0 hEw42
        replace hbb13 := hbb13.evo0 hEw42
        replace hAb13 := hAb13.evo0 hEw42
        replace hb := hb.evo0 hEw42
        replace hAs := hAs.evo0 hEw42
        have hAb41 := hbb41.at
        have hrb41 : RowE w42 (some ⟨b41, 0, none⟩) b41 0 2 emptyW := rowLit emptyW hbb41 rfl rfl
        refine r_op rfl rfl rfl (run_mv (v := .pointer _) rfl (by exact rfl)) ?_
        refine r_opcall rfl rfl rfl (run_callf (vs := [.pointer _, .int _ _]) rfl (by exact rfl) Tryz.func16 rfl (by kernel_rfl)) (inx_calls hb hl (by omega) (by omega) (by omega)) ?_
        rintro e w43 ⟨nx43, rfl, hx43, hE43, hn43⟩
        refine ⟨_, rfl, ?_⟩
        have hs_w43 := (hE43).size
        replace hV := evo_step1 hV hE43 (.inr (by simp))
        replace hl := hl0 _ hV
        replace hof := hof.evo hE43 (by intro g hg hm; simp at hm; subst hm; have := hof.block hg; omega)
        replace hop := hop.evo hE43 (by intro g hg hm; simp at hm; subst hm; have := hop.block hg; omega)
        replace hbb13 := hbb13.evo hE43 (by simp; omega)
        replace hAb13 := hAb13.evo hE43 (by simp; omega)
        replace hrb41 := hrb41.evo hE43 (by simp; omega)
        replace hb := hn43
        clear hn43
        have hAs := hb.at
        refine r_op rfl rfl rfl (run_ix (nx43.toNat) rfl Tryz.underlying81 ty_9 (by exact rfl) (by exact rfl) (by omega) (by show _ < 2; omega) (hrb41.addr (i := nx43.toNat) (by show _ < 2; omega))) ?_
        have hA44 := hrb41.atD (nx43.toNat) (by show _ < 2; omega)
        refine r_op rfl rfl rfl (run_ld1 rfl ag_9 (by exact rfl) (hA44.cell 0 (by exact rfl))) ?_
        refine r_op rfl rfl rfl (run_mv (v := .int _ _) rfl (by exact rfl)) ?_
        refine r_op rfl rfl rfl (run_bld (pv := [(0, .int _ _), (1, S _), (2, .int _ _)]) (zs := [_, _, _]) (cells := [_, _, _]) rfl ty_45 (by exact rfl) pl_45 (by exact rfl) (by exact rfl)) ?_
        refine r_store (v := .agg _) (vs := [_, _, _]) (cs' := [_, _, _]) (by exact rfl) (by exact rfl) hbb13 ty_45 (by exact rfl) rfl (by exact rfl) rfl (by exact rfl) ?_
        intro w45 hEw45 hzw45 hb_new
        have hs_w45 := (hEw45).size
        replace hV := evo_step1 hV hEw45 (by first | exact .inl (by omega) | exact .inr (by simp))
        replace hl := hl0 _ hV
        replace hof := hof.evo hEw45 (by intro g hg hm; simp at hm; subst hm; exact hofx _ hg rfl)
        replace hop := hop.evo hEw45 (by intro g hg hm; simp at hm; subst hm; exact hopx _ hg rfl)
        replace hb := hb.evo hEw45 (by simp; omega)
        replace hbb13 := hb_new
        have hAb13 := hbb13.at
        clear hb_new
        refine r_nil ?_
        refine r_cut_end ?_ ?_
        ·refine ⟨_, _, _, _, _, _, _, rfl, rfl, hof, (hop.base_le (by omega)), hbb13, hbb13.at, hb, hb.at, (by first | exact hFI.text _ | exact hFI.slot (slotW_ok _ (by omega)).1 | exact hFI.empty (emptyW_ok _ (by omega)).1 (by omega) | exact hFI.open_ (openW_ok _ (by omega)).1 (by omega) | exact hFI.close (by omega) (by omega) | exact hFI.closeNew (by decide) (by omega)), (by first | exact hNS.otherB rfl rfl | exact hNS.open_ _ _ | exact hNS.close (by omega) (fun h9 => by first | rfl | exact absurd h9 hc40) _ | exact NS.closeNew (hc40).2), ⟨by first | omega | exact Nat.le_trans (slotW_ok _ (by omega)).2 (by decide) | exact Nat.le_trans (emptyW_ok _ (by omega)).2 (by decide) | exact Nat.le_trans (openW_ok _ (by omega)).2 (by decide) | exact Nat.le_trans (nameL_len _) (Nat.le_trans (text5 hopt _) (by decide)) | decide, by first | omega | (simp; done) | (simp; omega), by omega, by omega, by omega⟩, (by first | exact hopt | exact (fun o ho => (List.mem_append.1 ho).elim (hopt o) (fun h => by simp at h; subst h; exact (openW_ok _ (by omega)).2)) | exact (fun o ho => (List.mem_append.1 ho).elim (fun h => hopt o (List.mem_of_mem_take h)) (fun h => hopt o (List.mem_of_mem_drop h)))), (by first | assumption | omega | (dsimp only; omega) | (simp; done)), hV⟩
        ·repeat (first | (with_reducible exact Agree.merge _ _ _) | (with_reducible exact Agree.refl _ _) | (with_reducible refine Agree.upd ?_ _ _ rfl) | ((with_reducible refine Agree.inner ?_ ?_); (kernel_rfl)))
       ·skip
        refine r_skip ?_
        refine r_cut_end ?_ ?_
        ·refine ⟨_, _, _, _, _, _, _, rfl, rfl, hof, (hop.base_le (by omega)), hbb13, hbb13.at, hb, hb.at, (by first | exact hFI.text _ | exact hFI.slot (slotW_ok _ (by omega)).1 | exact hFI.empty (emptyW_ok _ (by omega)).1 (by omega) | exact hFI.open_ (openW_ok _ (by omega)).1 (by omega) | exact hFI.close (by omega) (by omega) | exact hFI.closeNew (by decide) (by omega)), (by first | exact hNS.otherB rfl rfl | exact hNS.open_ _ _ | exact hNS.close (by omega) (fun h9 => by first | rfl | exact absurd h9 hc40) _ | exact NS.closeNew (hc40).2), ⟨by first | omega | exact Nat.le_trans (slotW_ok _ (by omega)).2 (by decide) | exact Nat.le_trans (emptyW_ok _ (by omega)).2 (by decide) | exact Nat.le_trans (openW_ok _ (by omega)).2 (by decide) | exact Nat.le_trans (nameL_len _) (Nat.le_trans (text5 hopt _) (by decide)) | decide, by first | omega | (simp; done) | (simp; omega), by omega, by omega, by omega⟩, (by first | exact hopt | exact (fun o ho => (List.mem_append.1 ho).elim (hopt o) (fun h => by simp at h; subst h; exact (openW_ok _ (by omega)).2)) | exact (fun o ho => (List.mem_append.1 ho).elim (fun h => hopt o (List.mem_of_mem_take h)) (fun h => hopt o (List.mem_of_mem_drop h)))), (by first | assumption | omega | (dsimp only; omega) | (simp; done)), hV⟩
        ·repeat (first | (with_reducible exact Agree.merge _ _ _) | (with_reducible exact Agree.refl _ _) | (with_reducible refine Agree.upd ?_ _ _ rfl) | ((with_reducible refine Agree.inner ?_ ?_); (kernel_rfl)))
      ·skip
       refine r_seq ?_
       refine r_seq ?_
       refine r_region ?_
       refine r_op rfl rfl rfl (run_eql rfl (by exact rfl) (by exact rfl)) ?_
       refine r_op rfl rfl rfl (run_asg (v := .bool _) rfl (by exact rfl)) ?_
       refine r_nil ?_
       refine r_cond (by exact rfl) (fun hc46 => ?_) (fun hc46 => ?_)
       ·skip
        refine r_skip ?_
        refine r_condT (by exact rfl) hc46 ?_
        refine r_seq ?_
        refine r_region ?_
        refine r_op rfl rfl rfl (run_mvb rfl (by exact rfl)) ?_
        refine r_nil ?_
        refine r_cond (by exact rfl) (fun hc47 => ?_) (fun hc47 => ?_)
        ·skip
         refine r_seq ?_
         refine r_region ?_
         refine r_op rfl rfl rfl (run_mv (v := .int _ _) rfl (by exact rfl)) ?_
         refine r_op rfl rfl rfl (run_add rfl (by exact rfl) (by exact rfl) (by omega) (by omega)) ?_
         refine r_op rfl rfl rfl (run_asg (v := .int _ _) rfl (by exact rfl)) ?_
         refine r_nil ?_
         refine r_seq ?_
         refine r_region ?_
         refine r_bslice (pv := [(0, S _), (1, S _), (2, S _)]) (zs := [_]) (cs := [_, _, _]) Tryz.underlying81 ty_9 (by exact rfl) rfl (by exact rfl) rfl (by exact rfl) ?_
         intro b48 w49 heb48 hEw49 hbb48 hzb48
         have hs_w49 := (hEw49).size
         replace hV := evo_step0 hV hEw49
         replace hl := hl0 _ hV
         replace hof := hof.evo0 hEw49
         replace hop := hop.evo0 hEw49
         replace hbb13 := hbb13.evo0 hEw49
         replace hAb13 := hAb13.evo0 hEw49
         replace hb := hb.evo0 hEw49
         replace hAs := hAs.evo0 hEw49
         have hAb48 := hbb48.at
         have hrb48 : RowE w49 (some ⟨b48, 0, none⟩) b48 0 3 openW := rowLit openW hbb48 rfl rfl
         refine r_op rfl rfl rfl (run_mv (v := .pointer _) rfl (by exact rfl)) ?_
         refine r_opcall rfl rfl rfl (run_callf (vs := [.pointer _, .int _ _]) rfl (by exact rfl) Tryz.func16 rfl (by kernel_rfl)) (inx_calls hb hl (by omega) (by omega) (by omega)) ?_
         rintro e w50 ⟨nx50, rfl, hx50, hE50, hn50⟩
         refine ⟨_, rfl, ?_⟩
         have hs_w50 := (hE50).size
         replace hV := evo_step1 hV hE50 (.inr (by simp))
         replace hl := hl0 _ hV
         replace hof := hof.evo hE50 (by intro g hg hm; simp at hm; subst hm; have := hof.block hg; omega)
         replace hop := hop.evo hE50 (by intro g hg hm; simp at hm; subst hm; have := hop.block hg; omega)
         replace hbb13 := hbb13.evo hE50 (by simp; omega)
         replace hAb13 := hAb13.evo hE50 (by simp; omega)
         replace hrb48 := hrb48.evo hE50 (by simp; omega)
         replace hb := hn50
         clear hn50
         have hAs := hb.at
         refine r_op rfl rfl rfl (run_ix (nx50.toNat) rfl Tryz.underlying81 ty_9 (by exact rfl) (by exact rfl) (by omega) (by show _ < 3; omega) (hrb48.addr (i := nx50.toNat) (by show _ < 3; omega))) ?_
         have hA51 := hrb48.atD (nx50.toNat) (by show _ < 3; omega)
         refine r_op rfl rfl rfl (run_ld1 rfl ag_9 (by exact rfl) (hA51.cell 0 (by exact rfl))) ?_
         refine r_op rfl rfl rfl (run_mv (v := .int _ _) rfl (by exact rfl)) ?_
         refine r_op rfl rfl rfl (run_bld (pv := [(0, .int _ _), (1, S _), (2, .int _ _)]) (zs := [_, _, _]) (cells := [_, _, _]) rfl ty_45 (by exact rfl) pl_45 (by exact rfl) (by exact rfl)) ?_
         refine r_store (v := .agg _) (vs := [_, _, _]) (cs' := [_, _, _]) (by exact rfl) (by exact rfl) hbb13 ty_45 (by exact rfl) rfl (by exact rfl) rfl (by exact rfl) ?_
         intro w52 hEw52 hzw52 hb_new
         have hs_w52 := (hEw52).size
         replace hV := evo_step1 hV hEw52 (by first | exact .inl (by omega) | exact .inr (by simp))
         replace hl := hl0 _ hV
         replace hof := hof.evo hEw52 (by intro g hg hm; simp at hm; subst hm; exact hofx _ hg rfl)
         replace hop := hop.evo hEw52 (by intro g hg hm; simp at hm; subst hm; exact hopx _ hg rfl)
         replace hb := hb.evo hEw52 (by simp; omega)
         replace hbb13 := hb_new
         have hAb13 := hbb13.at
         clear hb_new
         refine r_nil ?_
         refine r_region ?_
         refine r_op rfl rfl rfl (run_mv (v := vo) rfl (by exact rfl)) ?_
         refine r_op rfl rfl rfl (run_ldN rfl ag_45 ty_45 (by exact rfl) rfl hAb13) ?_
         refine r_append1E (u := .agg _) (y := ⟨_, _, _⟩) rfl rfl Tryz.underlying46 ty_45 (by exact rfl) hop (fun _ => (by exact rfl)) (by exact rfl) (by first | exact rfl | (show _ = List.toArray [_, _, _]; first | (dsimp only; done) | exact rfl | (dsimp only; exact rfl))) ((by first | omega | (simp; omega))) ((by first | omega | (simp; omega))) (by omega) ?_
         intro q_v53 v53 w54 hEw54 hov53 hlv53
         have hs_w54 := (hEw54).size
         replace hV := evo_stepo hV hEw54 (fun g hg => .inl (by first | exact (hop.block hg).1 | (have := hop.block hg; omega)))
         replace hl := hl0 _ hV
         replace hof := hof.evo hEw54 (by intro g hg hm; exact hsep g hg _ (Option.mem_toList.1 hm) rfl)
         replace hb := hb.evo hEw54 (by intro hm; have hm2 := Option.mem_toList.1 hm; have := hop.block hm2; omega)
         replace hbb13 := hbb13.evo hEw54 (by intro hm; have hm2 := Option.mem_toList.1 hm; have := hob12 _ hm2; omega)
         replace hAb13 := hAb13.evo hEw54 (by intro hm; have hm2 := Option.mem_toList.1 hm; have := hob12 _ hm2; omega)
         refine r_op rfl rfl rfl (run_asg (v := v53) rfl (by exact rfl)) ?_
         refine r_nil ?_
         refine r_cut_end ?_ ?_
         ·refine ⟨_, _, _, _, _, _, _, rfl, rfl, hof, (hov53.base_le (by omega)), hbb13, hbb13.at, hb, hb.at, (by first | exact hFI.text _ | exact hFI.slot (slotW_ok _ (by omega)).1 | exact hFI.empty (emptyW_ok _ (by omega)).1 (by omega) | exact hFI.open_ (openW_ok _ (by omega)).1 (by omega) | exact hFI.close (by omega) (by omega) | exact hFI.closeNew (by decide) (by omega)), (by first | exact hNS.otherB rfl rfl | exact hNS.open_ _ _ | exact hNS.close (by omega) (fun h9 => by first | rfl | exact absurd h9 hc47) _ | exact NS.closeNew (hc47).2), ⟨by first | omega | exact Nat.le_trans (slotW_ok _ (by omega)).2 (by decide) | exact Nat.le_trans (emptyW_ok _ (by omega)).2 (by decide) | exact Nat.le_trans (openW_ok _ (by omega)).2 (by decide) | exact Nat.le_trans (nameL_len _) (Nat.le_trans (text5 hopt _) (by decide)) | decide, by first | omega | (simp; done) | (simp; omega), by omega, by omega, by omega⟩, (by first | exact hopt | exact (fun o ho => (List.mem_append.1 ho).elim (hopt o) (fun h => by simp at h; subst h; exact (openW_ok _ (by omega)).2)) | exact (fun o ho => (List.mem_append.1 ho).elim (fun h => hopt o (List.mem_of_mem_take h)) (fun h => hopt o (List.mem_of_mem_drop h)))), (by first | assumption | omega | (dsimp only; omega) | (simp; done)), hV⟩
         ·repeat (first | (with_reducible exact Agree.merge _ _ _) | (with_reducible exact Agree.refl _ _) | (with_reducible refine Agree.upd ?_ _ _ rfl) | ((with_reducible refine Agree.inner ?_ ?_); (kernel_rfl)))
        ·skip
         refine r_skip ?_
         refine r_cut_end ?_ ?_
         ·refine ⟨_, _, _, _, _, _, _, rfl, rfl, hof, (hop.base_le (by omega)), hbb13, hbb13.at, hb, hb.at, (by first | exact hFI.text _ | exact hFI.slot (slotW_ok _ (by omega)).1 | exact hFI.empty (emptyW_ok _ (by omega)).1 (by omega) | exact hFI.open_ (openW_ok _ (by omega)).1 (by omega) | exact hFI.close (by omega) (by omega) | exact hFI.closeNew (by decide) (by omega)), (by first | exact hNS.otherB rfl rfl | exact hNS.open_ _ _ | exact hNS.close (by omega) (fun h9 => by first | rfl | exact absurd h9 hc47) _ | exact NS.closeNew (hc47).2), ⟨by first | omega | exact Nat.le_trans (slotW_ok _ (by omega)).2 (by decide) | exact Nat.le_trans (emptyW_ok _ (by omega)).2 (by decide) | exact Nat.le_trans (openW_ok _ (by omega)).2 (by decide) | exact Nat.le_trans (nameL_len _) (Nat.le_trans (text5 hopt _) (by decide)) | decide, by first | omega | (simp; done) | (simp; omega), by omega, by omega, by omega⟩, (by first | exact hopt | exact (fun o ho => (List.mem_append.1 ho).elim (hopt o) (fun h => by simp at h; subst h; exact (openW_ok _ (by omega)).2)) | exact (fun o ho => (List.mem_append.1 ho).elim (fun h => hopt o (List.mem_of_mem_take h)) (fun h => hopt o (List.mem_of_mem_drop h)))), (by first | assumption | omega | (dsimp only; omega) | (simp; done)), hV⟩
         ·repeat (first | (with_reducible exact Agree.merge _ _ _) | (with_reducible exact Agree.refl _ _) | (with_reducible refine Agree.upd ?_ _ _ rfl) | ((with_reducible refine Agree.inner ?_ ?_); (kernel_rfl)))
       ·skip
        refine r_region ?_
        refine r_op rfl rfl rfl (run_eql rfl (by exact rfl) (by exact rfl)) ?_
        refine r_op rfl rfl rfl (run_asg (v := .bool _) rfl (by exact rfl)) ?_
        refine r_nil ?_
        refine r_cond (by exact rfl) (fun hc55 => ?_) (fun hc55 => ?_)
        ·skip
         refine r_seq ?_
         refine r_region ?_
         refine r_op rfl rfl rfl (run_mvb rfl (by exact rfl)) ?_
         refine r_nil ?_
         refine r_cond (by exact rfl) (fun hc56 => ?_) (fun hc56 => ?_)
         ·skip
          refine r_seq ?_
          refine r_region ?_
          refine r_op rfl rfl rfl (run_mv (v := .int _ _) rfl (by exact rfl)) ?_
          refine r_op rfl rfl rfl (run_add rfl (by exact rfl) (by exact rfl) (by omega) (by omega)) ?_
          refine r_op rfl rfl rfl (run_asg (v := .int _ _) rfl (by exact rfl)) ?_
          refine r_nil ?_
          refine r_seq ?_
          refine r_region ?_
          refine r_bslice (pv := [(0, S _), (1, S _), (2, S _)]) (zs := [_]) (cs := [_, _, _]) Tryz.underlying81 ty_9 (by exact rfl) rfl (by exact rfl) rfl (by exact rfl) ?_
          intro b57 w58 heb57 hEw58 hbb57 hzb57
          have hs_w58 := (hEw58).size
          replace hV := evo_step0 hV hEw58
          replace hl := hl0 _ hV
          replace hof := hof.evo0 hEw58
          replace hop := hop.evo0 hEw58
          replace hbb13 := hbb13.evo0 hEw58
          replace hAb13 := hAb13.evo0 hEw58
          replace hb := hb.evo0 hEw58
          replace hAs := hAs.evo0 hEw58
          have hAb57 := hbb57.at
          have hrb57 : RowE w58 (some ⟨b57, 0, none⟩) b57 0 3 openW := rowLit openW hbb57 rfl rfl
          refine r_op rfl rfl rfl (run_mv (v := .pointer _) rfl (by exact rfl)) ?_
          refine r_opcall rfl rfl rfl (run_callf (vs := [.pointer _, .int _ _]) rfl (by exact rfl) Tryz.func16 rfl (by kernel_rfl)) (inx_calls hb hl (by omega) (by omega) (by omega)) ?_
          rintro e w59 ⟨nx59, rfl, hx59, hE59, hn59⟩
          refine ⟨_, rfl, ?_⟩
          have hs_w59 := (hE59).size
          replace hV := evo_step1 hV hE59 (.inr (by simp))
          replace hl := hl0 _ hV
          replace hof := hof.evo hE59 (by intro g hg hm; simp at hm; subst hm; have := hof.block hg; omega)
          replace hop := hop.evo hE59 (by intro g hg hm; simp at hm; subst hm; have := hop.block hg; omega)
          replace hbb13 := hbb13.evo hE59 (by simp; omega)
          replace hAb13 := hAb13.evo hE59 (by simp; omega)
          replace hrb57 := hrb57.evo hE59 (by simp; omega)
          replace hb := hn59
          clear hn59
          have hAs := hb.at
          refine r_op rfl rfl rfl (run_ix (nx59.toNat) rfl Tryz.underlying81 ty_9 (by exact rfl) (by exact rfl) (by omega) (by show _ < 3; omega) (hrb57.addr (i := nx59.toNat) (by show _ < 3; omega))) ?_
          have hA60 := hrb57.atD (nx59.toNat) (by show _ < 3; omega)
          refine r_op rfl rfl rfl (run_ld1 rfl ag_9 (by exact rfl) (hA60.cell 0 (by exact rfl))) ?_
          refine r_op rfl rfl rfl (run_mv (v := .int _ _) rfl (by exact rfl)) ?_
          refine r_op rfl rfl rfl (run_bld (pv := [(0, .int _ _), (1, S _), (2, .int _ _)]) (zs := [_, _, _]) (cells := [_, _, _]) rfl ty_45 (by exact rfl) pl_45 (by exact rfl) (by exact rfl)) ?_
          refine r_store (v := .agg _) (vs := [_, _, _]) (cs' := [_, _, _]) (by exact rfl) (by exact rfl) hbb13 ty_45 (by exact rfl) rfl (by exact rfl) rfl (by exact rfl) ?_
          intro w61 hEw61 hzw61 hb_new
          have hs_w61 := (hEw61).size
          replace hV := evo_step1 hV hEw61 (by first | exact .inl (by omega) | exact .inr (by simp))
          replace hl := hl0 _ hV
          replace hof := hof.evo hEw61 (by intro g hg hm; simp at hm; subst hm; exact hofx _ hg rfl)
          replace hop := hop.evo hEw61 (by intro g hg hm; simp at hm; subst hm; exact hopx _ hg rfl)
          replace hb := hb.evo hEw61 (by simp; omega)
          replace hbb13 := hb_new
          have hAb13 := hbb13.at
          clear hb_new
          refine r_nil ?_
          refine r_region ?_
          refine r_op rfl rfl rfl (run_mv (v := vo) rfl (by exact rfl)) ?_
          refine r_op rfl rfl rfl (run_ldN rfl ag_45 ty_45 (by exact rfl) rfl hAb13) ?_
          refine r_append1E (u := .agg _) (y := ⟨_, _, _⟩) rfl rfl Tryz.underlying46 ty_45 (by exact rfl) hop (fun _ => (by exact rfl)) (by exact rfl) (by first | exact rfl | (show _ = List.toArray [_, _, _]; first | (dsimp only; done) | exact rfl | (dsimp only; exact rfl))) ((by first | omega | (simp; omega))) ((by first | omega | (simp; omega))) (by omega) ?_
          intro q_v62 v62 w63 hEw63 hov62 hlv62
          have hs_w63 := (hEw63).size
          replace hV := evo_stepo hV hEw63 (fun g hg => .inl (by first | exact (hop.block hg).1 | (have := hop.block hg; omega)))
          replace hl := hl0 _ hV
          replace hof := hof.evo hEw63 (by intro g hg hm; exact hsep g hg _ (Option.mem_toList.1 hm) rfl)
          replace hb := hb.evo hEw63 (by intro hm; have hm2 := Option.mem_toList.1 hm; have := hop.block hm2; omega)
          replace hbb13 := hbb13.evo hEw63 (by intro hm; have hm2 := Option.mem_toList.1 hm; have := hob12 _ hm2; omega)
          replace hAb13 := hAb13.evo hEw63 (by intro hm; have hm2 := Option.mem_toList.1 hm; have := hob12 _ hm2; omega)
          refine r_op rfl rfl rfl (run_asg (v := v62) rfl (by exact rfl)) ?_
          refine r_nil ?_
          refine r_cut_end ?_ ?_
          ·refine ⟨_, _, _, _, _, _, _, rfl, rfl, hof, (hov62.base_le (by omega)), hbb13, hbb13.at, hb, hb.at, (by first | exact hFI.text _ | exact hFI.slot (slotW_ok _ (by omega)).1 | exact hFI.empty (emptyW_ok _ (by omega)).1 (by omega) | exact hFI.open_ (openW_ok _ (by omega)).1 (by omega) | exact hFI.close (by omega) (by omega) | exact hFI.closeNew (by decide) (by omega)), (by first | exact hNS.otherB rfl rfl | exact hNS.open_ _ _ | exact hNS.close (by omega) (fun h9 => by first | rfl | exact absurd h9 hc56) _ | exact NS.closeNew (hc56).2), ⟨by first | omega | exact Nat.le_trans (slotW_ok _ (by omega)).2 (by decide) | exact Nat.le_trans (emptyW_ok _ (by omega)).2 (by decide) | exact Nat.le_trans (openW_ok _ (by omega)).2 (by decide) | exact Nat.le_trans (nameL_len _) (Nat.le_trans (text5 hopt _) (by decide)) | decide, by first | omega | (simp; done) | (simp; omega), by omega, by omega, by omega⟩, (by first | exact hopt | exact (fun o ho => (List.mem_append.1 ho).elim (hopt o) (fun h => by simp at h; subst h; exact (openW_ok _ (by omega)).2)) | exact (fun o ho => (List.mem_append.1 ho).elim (fun h => hopt o (List.mem_of_mem_take h)) (fun h => hopt o (List.mem_of_mem_drop h)))), (by first | assumption | omega | (dsimp only; omega) | (simp; done)), hV⟩
          ·repeat (first | (with_reducible exact Agree.merge _ _ _) | (with_reducible exact Agree.refl _ _) | (with_reducible refine Agree.upd ?_ _ _ rfl) | ((with_reducible refine Agree.inner ?_ ?_); (kernel_rfl)))
         ·skip
          refine r_skip ?_
          refine r_cut_end ?_ ?_
          ·refine ⟨_, _, _, _, _, _, _, rfl, rfl, hof, (hop.base_le (by omega)), hbb13, hbb13.at, hb, hb.at, (by first | exact hFI.text _ | exact hFI.slot (slotW_ok _ (by omega)).1 | exact hFI.empty (emptyW_ok _ (by omega)).1 (by omega) | exact hFI.open_ (openW_ok _ (by omega)).1 (by omega) | exact hFI.close (by omega) (by omega) | exact hFI.closeNew (by decide) (by omega)), (by first | exact hNS.otherB rfl rfl | exact hNS.open_ _ _ | exact hNS.close (by omega) (fun h9 => by first | rfl | exact absurd h9 hc56) _ | exact NS.closeNew (hc56).2), ⟨by first | omega | exact Nat.le_trans (slotW_ok _ (by omega)).2 (by decide) | exact Nat.le_trans (emptyW_ok _ (by omega)).2 (by decide) | exact Nat.le_trans (openW_ok _ (by omega)).2 (by decide) | exact Nat.le_trans (nameL_len _) (Nat.le_trans (text5 hopt _) (by decide)) | decide, by first | omega | (simp; done) | (simp; omega), by omega, by omega, by omega⟩, (by first | exact hopt | exact (fun o ho => (List.mem_append.1 ho).elim (hopt o) (fun h => by simp at h; subst h; exact (openW_ok _ (by omega)).2)) | exact (fun o ho => (List.mem_append.1 ho).elim (fun h => hopt o (List.mem_of_mem_take h)) (fun h => hopt o (List.mem_of_mem_drop h)))), (by first | assumption | omega | (dsimp only; omega) | (simp; done)), hV⟩
          ·repeat (first | (with_reducible exact Agree.merge _ _ _) | (with_reducible exact Agree.refl _ _) | (with_reducible refine Agree.upd ?_ _ _ rfl) | ((with_reducible refine Agree.inner ?_ ?_); (kernel_rfl)))
        ·skip
         refine r_seq ?_
         refine r_seq ?_
         refine r_region ?_
         refine r_op rfl rfl rfl (run_eql rfl (by exact rfl) (by exact rfl)) ?_
         refine r_op rfl rfl rfl (run_asg (v := .bool _) rfl (by exact rfl)) ?_
         refine r_nil ?_
         refine r_cond (by exact rfl) (fun hc64 => ?_) (fun hc64 => ?_)
         ·skip
          refine r_skip ?_
          refine r_condT (by exact rfl) hc64 ?_
          refine r_seq ?_
          refine r_region ?_
          refine r_op rfl rfl rfl (run_mv (v := vo) rfl (by exact rfl)) ?_
          refine r_op rfl rfl rfl (run_lenOE rfl (by exact rfl) Tryz.underlying46 hop) ?_
          refine r_op rfl rfl rfl (run_sub rfl (by exact rfl) (by exact rfl) (by omega) (by omega)) ?_
          refine r_op rfl rfl rfl (run_asg (v := .int _ _) rfl (by exact rfl)) ?_
          refine r_nil ?_
          refine r_seq ?_
          refine r_region ?_
          refine r_op rfl rfl rfl (run_mv (v := .int _ _) rfl (by exact rfl)) ?_
          refine r_op rfl rfl rfl (run_geq rfl (by exact rfl) (by exact rfl)) ?_
          refine r_nil ?_
          refine r_cond (by exact rfl) (fun hc65 => ?_) (fun hc65 => ?_)
          ·skip
           refine r_seq ?_
           refine r_seq ?_
           refine r_region ?_
           refine r_op rfl rfl rfl (run_mvb rfl (by exact rfl)) ?_
           refine r_op rfl rfl rfl (run_not rfl (by exact rfl)) ?_
           refine r_nil ?_
           refine r_cond (by exact rfl) (fun hc66 => ?_) (fun hc66 => ?_)
           ·skip
            refine r_region ?_
            refine r_op rfl rfl rfl (run_mv (v := .pointer _) rfl (by exact rfl)) ?_
            refine r_op rfl rfl rfl (run_mv (v := .int _ _) rfl (by exact rfl)) ?_
            refine r_op rfl rfl rfl (run_add rfl (by exact rfl) (by exact rfl) (by omega) (by omega)) ?_
            refine r_opcall rfl rfl rfl (run_callf (vs := [.pointer _, .int _ _]) rfl (by exact rfl) Tryz.func16 rfl (by kernel_rfl)) (inx_calls hb hl (by omega) (by omega) (by omega)) ?_
            rintro e w67 ⟨nx67, rfl, hx67, hE67, hn67⟩
            refine ⟨_, rfl, ?_⟩
            have hs_w67 := (hE67).size
            replace hV := evo_step1 hV hE67 (.inr (by simp))
            replace hl := hl0 _ hV
            replace hof := hof.evo hE67 (by intro g hg hm; simp at hm; subst hm; have := hof.block hg; omega)
            replace hop := hop.evo hE67 (by intro g hg hm; simp at hm; subst hm; have := hop.block hg; omega)
            replace hbb13 := hbb13.evo hE67 (by simp; omega)
            replace hAb13 := hAb13.evo hE67 (by simp; omega)
            replace hb := hn67
            clear hn67
            have hAs := hb.at
            refine r_op rfl rfl rfl (run_asg (v := .int _ _) rfl (by exact rfl)) ?_
            refine r_nil ?_
            refine r_seq ?_
            obtain ⟨ao68, g68, cp68, hv68, hr68, hg68⟩ := hop.rowOf
            subst hv68
            have hk5 := text5 hopt nx67.toNat
            have hbb13_q := hbb13
            have hAb13_q := hAb13
            have hr68_q := hr68
            have hV_q := hV
            refine h_region ([]) (by kernel_rfl) ?_
            intro w69 hE70 hC71
            have hs_w69 := (hE70).size
            replace hV := evo_step0 hV hE70
            replace hl := hl0 _ hV
            replace hof := hof.evo0 hE70
            replace hop := hop.evo0 hE70
            replace hbb13 := hbb13.evo0 hE70
            replace hAb13 := hAb13.evo0 hE70
            replace hb := hb.evo0 hE70
            replace hr68 := hr68.evo0 hE70
            refine h_take (i := 0) (by exact rfl) rfl rfl rfl (by kernel_rfl) (fun w' hC => run_mv (v := .slice _ _ _) rfl (by exact rfl)) hC71 ?_
            refine h_take (i := 1) (by exact rfl) rfl rfl rfl (by kernel_rfl) (fun w' hC => run_mv (v := .int _ _) rfl (by exact rfl)) hC71 ?_
            refine h_take (i := 2) (by exact rfl) rfl rfl rfl (by kernel_rfl) (fun w' hC => run_ix (nx67.toNat) rfl Tryz.underlying46 ty_45 (by exact rfl) (by exact rfl) (by omega) (by omega) (hr68.addr (i := nx67.toNat) (by omega))) hC71 ?_
            have hA72 := hr68.atD (nx67.toNat) (by omega)
            have hA72_q := hr68_q.atD (nx67.toNat) (by omega)
            refine h_take (i := 3) (by exact rfl) rfl rfl rfl (by kernel_rfl) (fun w' hC => run_fa rfl (by exact rfl) fo_45_1) hC71 ?_
            refine h_take (i := 4) (by exact rfl) rfl rfl rfl (by kernel_rfl) (fun w' hC => run_ld1 rfl ag_9 (by exact rfl) ((hA72_q.evo0 hC).cell 1 (by exact rfl))) hC71 ?_
            refine h_take (i := 6) (by exact rfl) rfl rfl rfl (by kernel_rfl) (fun w' hC => run_mv (v := .slice _ _ _) rfl (by exact rfl)) hC71 ?_
            refine h_take (i := 7) (by exact rfl) rfl rfl rfl (by kernel_rfl) (fun w' hC => run_mv (v := .int _ _) rfl (by exact rfl)) hC71 ?_
            refine h_take (i := 8) (by exact rfl) rfl rfl rfl (by kernel_rfl) (fun w' hC => run_ix (nx67.toNat) rfl Tryz.underlying46 ty_45 (by exact rfl) (by exact rfl) (by omega) (by omega) (hr68.addr (i := nx67.toNat) (by omega))) hC71 ?_
            have hA73 := hr68.atD (nx67.toNat) (by omega)
            have hA73_q := hr68_q.atD (nx67.toNat) (by omega)
            refine h_take (i := 9) (by exact rfl) rfl rfl rfl (by kernel_rfl) (fun w' hC => run_fa rfl (by exact rfl) fo_45_2) hC71 ?_
            refine h_take (i := 10) (by exact rfl) rfl rfl rfl (by kernel_rfl) (fun w' hC => run_ld1 rfl ag_3 (by exact rfl) ((hA73_q.evo0 hC).cell 2 (by exact rfl))) hC71 ?_
            refine h_one (i := 5) (by kernel_rfl) ?_
            refine h_do (by exact rfl) ?_
            refine r_opcall rfl rfl rfl (run_callf (vs := [S _]) rfl (by exact rfl) Tryz.func30 rfl (by kernel_rfl)) (rname_calls (by omega)) ?_
            rintro e w74 ⟨rfl, hE74⟩
            refine ⟨_, rfl, ?_⟩
            have hs_w74 := (hE74).size
            replace hV := evo_step0 hV hE74
            replace hC71 := evo_step0 hC71 hE74
            replace hl := hl0 _ hV
            replace hof := hof.evo0 hE74
            replace hop := hop.evo0 hE74
            replace hbb13 := hbb13.evo0 hE74
            replace hAb13 := hAb13.evo0 hE74
            replace hb := hb.evo0 hE74
            replace hr68 := hr68.evo0 hE74
            refine h_next hC71 ?_
            refine h_take (i := 11) (by exact rfl) rfl rfl rfl (by kernel_rfl) (fun w' hC => run_bld (pv := [(0, .int _ _), (1, S _), (2, .int _ _)]) (zs := [_, _, _]) (cells := [_, _, _]) rfl ty_45 (by exact rfl) pl_45 (by exact rfl) (by exact rfl)) hC71 ?_
            refine h_one (i := 12) (by kernel_rfl) ?_
            refine h_do (by exact rfl) ?_
            refine r_store (v := .agg _) (vs := [_, _, _]) (cs' := [_, _, _]) (by exact rfl) (by exact rfl) hbb13 ty_45 (by exact rfl) rfl (by exact rfl) rfl (by exact rfl) ?_
            intro w75 hEw75 hzw75 hb_new
            have hs_w75 := (hEw75).size
            replace hV := evo_step1 hV hEw75 (by first | exact .inl (by omega) | exact .inr (by simp))
            replace hl := hl0 _ hV
            replace hof := hof.evo hEw75 (by intro g hg hm; simp at hm; subst hm; exact hofx _ hg rfl)
            replace hop := hop.evo hEw75 (by intro g hg hm; simp at hm; subst hm; exact hopx _ hg rfl)
            replace hb := hb.evo hEw75 (by simp; omega)
            replace hbb13 := hb_new
            have hAb13 := hbb13.at
            clear hb_new
            refine h_last (by kernel_rfl) ?_
            refine h_done (by kernel_rfl) ?_
            obtain ⟨ao76, g76, cp76, hv76, hr76, hg76⟩ := hop.rowOf
            injection hv76 with ha76 hx76 hc76
            subst ha76; subst hc76
            have hobQ := fun g hg => (hop.block (g := g) hg).2; have hobQF := fun g hg => (hof.block (g := g) hg).2
            have hbb13_q := hbb13
            have hAb13_q := hAb13
            have hr76_q := hr76
            have hV_q := hV
            refine h_region ([]) (by kernel_rfl) ?_
            intro w77 hE78 hC79
            have hs_w77 := (hE78).size
            replace hV := evo_step0 hV hE78
            replace hl := hl0 _ hV
            replace hof := hof.evo0 hE78
            replace hop := hop.evo0 hE78
            replace hb := hb.evo0 hE78
            replace hbb13 := hbb13.evo0 hE78
            replace hAb13 := hAb13.evo0 hE78
            replace hr76 := hr76.evo0 hE78
            refine h_take (i := 0) (by exact rfl) rfl rfl rfl (by kernel_rfl) (fun w' hC => run_mv (v := .slice _ _ _) rfl (by exact rfl)) hC79 ?_
            refine h_take (i := 1) (by exact rfl) rfl rfl rfl (by kernel_rfl) (fun w' hC => run_mv (v := .int _ _) rfl (by exact rfl)) hC79 ?_
            refine h_take (i := 2) (by exact rfl) rfl rfl rfl (by kernel_rfl) (fun w' hC => by exact run_slE (0) (nx67.toNat) rfl Tryz.underlying46 ty_45 (by exact rfl) (hr76_q.evo0 hC) lo0 (at1 (by exact rfl) (by omega)) (by first | omega | (simp; omega)) (by first | omega | (simp; omega)) List.drop_zero) hC79 ?_
            have hS80 := (by have h9 := (hr76.take (nx67.toNat)).drop (0); rw [List.drop_zero] at h9; exact h9)
            have hbd_hS80 := hS80.bd
            refine h_take (i := 4) (by exact rfl) rfl rfl rfl (by kernel_rfl) (fun w' hC => run_mv (v := .slice _ _ _) rfl (by exact rfl)) hC79 ?_
            refine h_take (i := 5) (by exact rfl) rfl rfl rfl (by kernel_rfl) (fun w' hC => run_mv (v := .int _ _) rfl (by exact rfl)) hC79 ?_
            refine h_take (i := 6) (by exact rfl) rfl rfl rfl (by kernel_rfl) (fun w' hC => run_add rfl (by exact rfl) (by exact rfl) (by omega) (by omega)) hC79 ?_
            refine h_take (i := 7) (by exact rfl) rfl rfl rfl (by kernel_rfl) (fun w' hC => by exact run_slE0 ((nx67.toNat + 1)) rfl Tryz.underlying46 ty_45 rfl (by exact rfl) (hr76_q.evo0 hC) (at1 (by exact rfl) (by omega)) (by first | omega | (simp; omega))) hC79 ?_
            have hS81 := hr76.drop ((nx67.toNat + 1))
            have hbd_hS81 := hS81.bd
            refine h_one (i := 3) (by kernel_rfl) ?_
            refine h_do (by exact rfl) ?_
            refine r_appendE rfl Tryz.underlying46 ty_45 (by exact rfl) (OwnE.nil (α := Vc.Item) _ w75.heap.size _) (by exact rfl) (by exact rfl) hS80 rfl ((by first | omega | (simp; omega))) ((by first | omega | (simp; omega))) (by omega) ?_
            intro v82 w83 hEw83 hov82 hlv82
            have hs_w83 := (hEw83).size
            replace hV := evo_step0 hV hEw83
            replace hC79 := evo_step0 hC79 hEw83
            replace hl := hl0 _ hV
            replace hof := hof.evo0 hEw83
            replace hop := hop.evo0 hEw83
            replace hb := hb.evo0 hEw83
            replace hbb13 := hbb13.evo0 hEw83
            replace hAb13 := hAb13.evo0 hEw83
            replace hr76 := hr76.evo0 hEw83
            replace hS80 := hS80.evo0 hEw83
            replace hS81 := hS81.evo0 hEw83
            refine h_next hC79 ?_
            refine h_one (i := 8) (by kernel_rfl) ?_
            refine h_do (by exact rfl) ?_
            refine r_appendE rfl Tryz.underlying46 ty_45 (by exact rfl) hov82 (by exact rfl) (by exact rfl) hS81 rfl ((by first | omega | (simp; omega))) ((by first | omega | (simp; omega))) (by omega) ?_
            intro v84 w85 hEw85 hov84 hlv84
            have hs_w85 := (hEw85).size
            replace hV := evo_stepo hV hEw85 (fun g hg => .inl (by first | exact (hov82.block hg).1 | (have := hov82.block hg; omega)))
            replace hl := hl0 _ hV
            replace hof := hof.evo hEw85 (by intro g hg hm; have hm2 := Option.mem_toList.1 hm; have h1 := hov82.block hm2; have h2 := hobQF g hg; omega)
            replace hop := hop.evo hEw85 (by intro g hg hm; have hm2 := Option.mem_toList.1 hm; have h1 := hov82.block hm2; have h2 := hobQ g hg; omega)
            replace hb := hb.evo hEw85 (by intro hm; have hm2 := Option.mem_toList.1 hm; have := hov82.block hm2; omega)
            replace hbb13 := hbb13.evo hEw85 (by intro hm; have hm2 := Option.mem_toList.1 hm; have := hov82.block hm2; omega)
            replace hAb13 := hAb13.evo hEw85 (by intro hm; have hm2 := Option.mem_toList.1 hm; have := hov82.block hm2; omega)
            refine h_last (by kernel_rfl) ?_
            refine h_one (i := 9) (by kernel_rfl) ?_
            refine h_do (by exact rfl) ?_
            refine r_op rfl rfl rfl (run_asg (v := v84) rfl (by exact rfl)) ?_
            refine h_last (by kernel_rfl) ?_
            refine h_done (by kernel_rfl) ?_
            refine r_cut_end ?_ ?_
            ·refine ⟨_, _, _, _, _, _, _, rfl, rfl, hof, (hov84.base_le (by omega)), hbb13, hbb13.at, hb, hb.at, (by first | exact hFI.text _ | exact hFI.slot (slotW_ok _ (by omega)).1 | exact hFI.empty (emptyW_ok _ (by omega)).1 (by omega) | exact hFI.open_ (openW_ok _ (by omega)).1 (by omega) | exact hFI.close (by omega) (by omega) | exact hFI.closeNew (by decide) (by omega)), (by first | exact hNS.otherB rfl rfl | exact hNS.open_ _ _ | exact hNS.close (by omega) (fun h9 => by first | rfl | exact absurd h9 hc66) _ | exact NS.closeNew (hc66).2), ⟨by first | omega | exact Nat.le_trans (slotW_ok _ (by omega)).2 (by decide) | exact Nat.le_trans (emptyW_ok _ (by omega)).2 (by decide) | exact Nat.le_trans (openW_ok _ (by omega)).2 (by decide) | exact Nat.le_trans (nameL_len _) (Nat.le_trans (text5 hopt _) (by decide)) | decide, by first | omega | (simp; done) | (simp; omega), by omega, by omega, by omega⟩, (by first | exact hopt | exact (fun o ho => (List.mem_append.1 ho).elim (hopt o) (fun h => by simp at h; subst h; exact (openW_ok _ (by omega)).2)) | exact (fun o ho => (List.mem_append.1 ho).elim (fun h => hopt o (List.mem_of_mem_take h)) (fun h => hopt o (List.mem_of_mem_drop h)))), (by first | assumption | omega | (dsimp only; omega) | (simp; done)), hV⟩
            ·repeat (first | (with_reducible exact Agree.merge _ _ _) | (with_reducible exact Agree.refl _ _) | (with_reducible refine Agree.upd ?_ _ _ rfl) | ((with_reducible refine Agree.inner ?_ ?_); (kernel_rfl)))
           ·skip
            refine r_skip ?_
            refine r_seq ?_
            obtain ⟨ao86, g86, cp86, hv86, hr86, hg86⟩ := hop.rowOf
            subst hv86
            have hk5 := text5 hopt (op.length - 1)
            have hbb13_q := hbb13
            have hAb13_q := hAb13
            have hr86_q := hr86
            have hV_q := hV
            refine h_region ([]) (by kernel_rfl) ?_
            intro w87 hE88 hC89
            have hs_w87 := (hE88).size
            replace hV := evo_step0 hV hE88
            replace hl := hl0 _ hV
            replace hof := hof.evo0 hE88
            replace hop := hop.evo0 hE88
            replace hbb13 := hbb13.evo0 hE88
            replace hAb13 := hAb13.evo0 hE88
            replace hb := hb.evo0 hE88
            replace hr86 := hr86.evo0 hE88
            refine h_take (i := 0) (by exact rfl) rfl rfl rfl (by kernel_rfl) (fun w' hC => run_mv (v := .slice _ _ _) rfl (by exact rfl)) hC89 ?_
            refine h_take (i := 1) (by exact rfl) rfl rfl rfl (by kernel_rfl) (fun w' hC => run_mv (v := .int _ _) rfl (by exact rfl)) hC89 ?_
            refine h_take (i := 2) (by exact rfl) rfl rfl rfl (by kernel_rfl) (fun w' hC => run_ix ((op.length - 1)) rfl Tryz.underlying46 ty_45 (by exact rfl) (by exact rfl) (by omega) (by omega) (hr86.addr (i := (op.length - 1)) (by omega))) hC89 ?_
            have hA90 := hr86.atD ((op.length - 1)) (by omega)
            have hA90_q := hr86_q.atD ((op.length - 1)) (by omega)
            refine h_take (i := 3) (by exact rfl) rfl rfl rfl (by kernel_rfl) (fun w' hC => run_fa rfl (by exact rfl) fo_45_1) hC89 ?_
            refine h_take (i := 4) (by exact rfl) rfl rfl rfl (by kernel_rfl) (fun w' hC => run_ld1 rfl ag_9 (by exact rfl) ((hA90_q.evo0 hC).cell 1 (by exact rfl))) hC89 ?_
            refine h_take (i := 6) (by exact rfl) rfl rfl rfl (by kernel_rfl) (fun w' hC => run_mv (v := .slice _ _ _) rfl (by exact rfl)) hC89 ?_
            refine h_take (i := 7) (by exact rfl) rfl rfl rfl (by kernel_rfl) (fun w' hC => run_mv (v := .int _ _) rfl (by exact rfl)) hC89 ?_
            refine h_take (i := 8) (by exact rfl) rfl rfl rfl (by kernel_rfl) (fun w' hC => run_ix ((op.length - 1)) rfl Tryz.underlying46 ty_45 (by exact rfl) (by exact rfl) (by omega) (by omega) (hr86.addr (i := (op.length - 1)) (by omega))) hC89 ?_
            have hA91 := hr86.atD ((op.length - 1)) (by omega)
            have hA91_q := hr86_q.atD ((op.length - 1)) (by omega)
            refine h_take (i := 9) (by exact rfl) rfl rfl rfl (by kernel_rfl) (fun w' hC => run_fa rfl (by exact rfl) fo_45_2) hC89 ?_
            refine h_take (i := 10) (by exact rfl) rfl rfl rfl (by kernel_rfl) (fun w' hC => run_ld1 rfl ag_3 (by exact rfl) ((hA91_q.evo0 hC).cell 2 (by exact rfl))) hC89 ?_
            refine h_one (i := 5) (by kernel_rfl) ?_
            refine h_do (by exact rfl) ?_
            refine r_opcall rfl rfl rfl (run_callf (vs := [S _]) rfl (by exact rfl) Tryz.func30 rfl (by kernel_rfl)) (rname_calls (by omega)) ?_
            rintro e w92 ⟨rfl, hE92⟩
            refine ⟨_, rfl, ?_⟩
            have hs_w92 := (hE92).size
            replace hV := evo_step0 hV hE92
            replace hC89 := evo_step0 hC89 hE92
            replace hl := hl0 _ hV
            replace hof := hof.evo0 hE92
            replace hop := hop.evo0 hE92
            replace hbb13 := hbb13.evo0 hE92
            replace hAb13 := hAb13.evo0 hE92
            replace hb := hb.evo0 hE92
            replace hr86 := hr86.evo0 hE92
            refine h_next hC89 ?_
            refine h_take (i := 11) (by exact rfl) rfl rfl rfl (by kernel_rfl) (fun w' hC => run_bld (pv := [(0, .int _ _), (1, S _), (2, .int _ _)]) (zs := [_, _, _]) (cells := [_, _, _]) rfl ty_45 (by exact rfl) pl_45 (by exact rfl) (by exact rfl)) hC89 ?_
            refine h_one (i := 12) (by kernel_rfl) ?_
            refine h_do (by exact rfl) ?_
            refine r_store (v := .agg _) (vs := [_, _, _]) (cs' := [_, _, _]) (by exact rfl) (by exact rfl) hbb13 ty_45 (by exact rfl) rfl (by exact rfl) rfl (by exact rfl) ?_
            intro w93 hEw93 hzw93 hb_new
            have hs_w93 := (hEw93).size
            replace hV := evo_step1 hV hEw93 (by first | exact .inl (by omega) | exact .inr (by simp))
            replace hl := hl0 _ hV
            replace hof := hof.evo hEw93 (by intro g hg hm; simp at hm; subst hm; exact hofx _ hg rfl)
            replace hop := hop.evo hEw93 (by intro g hg hm; simp at hm; subst hm; exact hopx _ hg rfl)
            replace hb := hb.evo hEw93 (by simp; omega)
            replace hbb13 := hb_new
            have hAb13 := hbb13.at
            clear hb_new
            refine h_last (by kernel_rfl) ?_
            refine h_done (by kernel_rfl) ?_
            obtain ⟨ao94, g94, cp94, hv94, hr94, hg94⟩ := hop.rowOf
            injection hv94 with ha94 hx94 hc94
            subst ha94; subst hc94
            have hobQ := fun g hg => (hop.block (g := g) hg).2; have hobQF := fun g hg => (hof.block (g := g) hg).2
            have hbb13_q := hbb13
            have hAb13_q := hAb13
            have hr94_q := hr94
            have hV_q := hV
            refine h_region ([]) (by kernel_rfl) ?_
            intro w95 hE96 hC97
            have hs_w95 := (hE96).size
            replace hV := evo_step0 hV hE96
            replace hl := hl0 _ hV
            replace hof := hof.evo0 hE96
            replace hop := hop.evo0 hE96
            replace hb := hb.evo0 hE96
            replace hbb13 := hbb13.evo0 hE96
            replace hAb13 := hAb13.evo0 hE96
            replace hr94 := hr94.evo0 hE96
            refine h_take (i := 0) (by exact rfl) rfl rfl rfl (by kernel_rfl) (fun w' hC => run_mv (v := .slice _ _ _) rfl (by exact rfl)) hC97 ?_
            refine h_take (i := 1) (by exact rfl) rfl rfl rfl (by kernel_rfl) (fun w' hC => run_mv (v := .int _ _) rfl (by exact rfl)) hC97 ?_
            refine h_take (i := 2) (by exact rfl) rfl rfl rfl (by kernel_rfl) (fun w' hC => by exact run_slE (0) ((op.length - 1)) rfl Tryz.underlying46 ty_45 (by exact rfl) (hr94_q.evo0 hC) lo0 (at1 (by exact rfl) (by omega)) (by first | omega | (simp; omega)) (by first | omega | (simp; omega)) List.drop_zero) hC97 ?_
            have hS98 := (by have h9 := (hr94.take ((op.length - 1))).drop (0); rw [List.drop_zero] at h9; exact h9)
            have hbd_hS98 := hS98.bd
            refine h_take (i := 4) (by exact rfl) rfl rfl rfl (by kernel_rfl) (fun w' hC => run_mv (v := .slice _ _ _) rfl (by exact rfl)) hC97 ?_
            refine h_take (i := 5) (by exact rfl) rfl rfl rfl (by kernel_rfl) (fun w' hC => run_mv (v := .int _ _) rfl (by exact rfl)) hC97 ?_
            refine h_take (i := 6) (by exact rfl) rfl rfl rfl (by kernel_rfl) (fun w' hC => run_add rfl (by exact rfl) (by exact rfl) (by omega) (by omega)) hC97 ?_
            refine h_take (i := 7) (by exact rfl) rfl rfl rfl (by kernel_rfl) (fun w' hC => by exact run_slE0 (((op.length - 1) + 1)) rfl Tryz.underlying46 ty_45 rfl (by exact rfl) (hr94_q.evo0 hC) (at1 (by exact rfl) (by omega)) (by first | omega | (simp; omega))) hC97 ?_
            have hS99 := hr94.drop (((op.length - 1) + 1))
            have hbd_hS99 := hS99.bd
            refine h_one (i := 3) (by kernel_rfl) ?_
            refine h_do (by exact rfl) ?_
            refine r_appendE rfl Tryz.underlying46 ty_45 (by exact rfl) (OwnE.nil (α := Vc.Item) _ w93.heap.size _) (by exact rfl) (by exact rfl) hS98 rfl ((by first | omega | (simp; omega))) ((by first | omega | (simp; omega))) (by omega) ?_
            intro v100 w101 hEw101 hov100 hlv100
            have hs_w101 := (hEw101).size
            replace hV := evo_step0 hV hEw101
            replace hC97 := evo_step0 hC97 hEw101
            replace hl := hl0 _ hV
            replace hof := hof.evo0 hEw101
            replace hop := hop.evo0 hEw101
            replace hb := hb.evo0 hEw101
            replace hbb13 := hbb13.evo0 hEw101
            replace hAb13 := hAb13.evo0 hEw101
            replace hr94 := hr94.evo0 hEw101
            replace hS98 := hS98.evo0 hEw101
            replace hS99 := hS99.evo0 hEw101
            refine h_next hC97 ?_
            refine h_one (i := 8) (by kernel_rfl) ?_
            refine h_do (by exact rfl) ?_
            refine r_appendE rfl Tryz.underlying46 ty_45 (by exact rfl) hov100 (by exact rfl) (by exact rfl) hS99 rfl ((by first | omega | (simp; omega))) ((by first | omega | (simp; omega))) (by omega) ?_
            intro v102 w103 hEw103 hov102 hlv102
            have hs_w103 := (hEw103).size
            replace hV := evo_stepo hV hEw103 (fun g hg => .inl (by first | exact (hov100.block hg).1 | (have := hov100.block hg; omega)))
            replace hl := hl0 _ hV
            replace hof := hof.evo hEw103 (by intro g hg hm; have hm2 := Option.mem_toList.1 hm; have h1 := hov100.block hm2; have h2 := hobQF g hg; omega)
            replace hop := hop.evo hEw103 (by intro g hg hm; have hm2 := Option.mem_toList.1 hm; have h1 := hov100.block hm2; have h2 := hobQ g hg; omega)
            replace hb := hb.evo hEw103 (by intro hm; have hm2 := Option.mem_toList.1 hm; have := hov100.block hm2; omega)
            replace hbb13 := hbb13.evo hEw103 (by intro hm; have hm2 := Option.mem_toList.1 hm; have := hov100.block hm2; omega)
            replace hAb13 := hAb13.evo hEw103 (by intro hm; have hm2 := Option.mem_toList.1 hm; have := hov100.block hm2; omega)
            refine h_last (by kernel_rfl) ?_
            refine h_one (i := 9) (by kernel_rfl) ?_
            refine h_do (by exact rfl) ?_
            refine r_op rfl rfl rfl (run_asg (v := v102) rfl (by exact rfl)) ?_
            refine h_last (by kernel_rfl) ?_
            refine h_done (by kernel_rfl) ?_
            refine r_cut_end ?_ ?_
            ·refine ⟨_, _, _, _, _, _, _, rfl, rfl, hof, (hov102.base_le (by omega)), hbb13, hbb13.at, hb, hb.at, (by first | exact hFI.text _ | exact hFI.slot (slotW_ok _ (by omega)).1 | exact hFI.empty (emptyW_ok _ (by omega)).1 (by omega) | exact hFI.open_ (openW_ok _ (by omega)).1 (by omega) | exact hFI.close (by omega) (by omega) | exact hFI.closeNew (by decide) (by omega)), (by first | exact hNS.otherB rfl rfl | exact hNS.open_ _ _ | exact hNS.close (by omega) (fun h9 => by first | rfl | exact absurd h9 hc66) _ | exact NS.closeNew (hc66).2), ⟨by first | omega | exact Nat.le_trans (slotW_ok _ (by omega)).2 (by decide) | exact Nat.le_trans (emptyW_ok _ (by omega)).2 (by decide) | exact Nat.le_trans (openW_ok _ (by omega)).2 (by decide) | exact Nat.le_trans (nameL_len _) (Nat.le_trans (text5 hopt _) (by decide)) | decide, by first | omega | (simp; done) | (simp; omega), by omega, by omega, by omega⟩, (by first | exact hopt | exact (fun o ho => (List.mem_append.1 ho).elim (hopt o) (fun h => by simp at h; subst h; exact (openW_ok _ (by omega)).2)) | exact (fun o ho => (List.mem_append.1 ho).elim (fun h => hopt o (List.mem_of_mem_take h)) (fun h => hopt o (List.mem_of_mem_drop h)))), (by first | assumption | omega | (dsimp only; omega) | (simp; done)), hV⟩
            ·repeat (first | (with_reducible exact Agree.merge _ _ _) | (with_reducible exact Agree.refl _ _) | (with_reducible refine Agree.upd ?_ _ _ rfl) | ((with_reducible refine Agree.inner ?_ ?_); (kernel_rfl)))
          ·skip
           refine r_seq ?_
           refine r_region ?_
           refine r_op rfl rfl rfl (run_mvb rfl (by exact rfl)) ?_
           refine r_op rfl rfl rfl (run_mv (v := .bool _) rfl (by exact rfl)) ?_
           refine r_g rfl (wantT (by exact rfl)) rfl (fun hg => run_mvb rfl (by exact rfl)) ?_
           refine r_g rfl (wantT (by exact rfl)) rfl (fun hg => run_not rfl (glv (by exact rfl) (fun h => h) hg)) ?_
           refine r_op rfl rfl rfl (run_pick_and rfl (by exact rfl) (fun hq => glv (by exact rfl) (fun h => h) hq) rfl) ?_
           refine r_nil ?_
           refine r_cond (by exact rfl) (fun hc104 => ?_) (fun hc104 => ?_)
           ·skip
            refine r_seq ?_
            refine r_region ?_
            refine r_op rfl rfl rfl (run_mv (v := .int _ _) rfl (by exact rfl)) ?_
            refine r_op rfl rfl rfl (run_add rfl (by exact rfl) (by exact rfl) (by omega) (by omega)) ?_
            refine r_op rfl rfl rfl (run_asg (v := .int _ _) rfl (by exact rfl)) ?_
            refine r_nil ?_
            refine r_region ?_
            refine r_op rfl rfl rfl (run_mv (v := .int _ _) rfl (by exact rfl)) ?_
            refine r_op rfl rfl rfl (run_bld (pv := [(0, .int _ _), (1, S _), (2, .int _ _)]) (zs := [_, _, _]) (cells := [_, _, _]) rfl ty_45 (by exact rfl) pl_45 (by exact rfl) (by exact rfl)) ?_
            refine r_store (v := .agg _) (vs := [_, _, _]) (cs' := [_, _, _]) (by exact rfl) (by exact rfl) hbb13 ty_45 (by exact rfl) rfl (by exact rfl) rfl (by exact rfl) ?_
            intro w105 hEw105 hzw105 hb_new
            have hs_w105 := (hEw105).size
            replace hV := evo_step1 hV hEw105 (by first | exact .inl (by omega) | exact .inr (by simp))
            replace hl := hl0 _ hV
            replace hof := hof.evo hEw105 (by intro g hg hm; simp at hm; subst hm; exact hofx _ hg rfl)
            replace hop := hop.evo hEw105 (by intro g hg hm; simp at hm; subst hm; exact hopx _ hg rfl)
            replace hb := hb.evo hEw105 (by simp; omega)
            replace hbb13 := hb_new
            have hAb13 := hbb13.at
            clear hb_new
            refine r_nil ?_
            refine r_cut_end ?_ ?_
            ·refine ⟨_, _, _, _, _, _, _, rfl, rfl, hof, (hop.base_le (by omega)), hbb13, hbb13.at, hb, hb.at, (by first | exact hFI.text _ | exact hFI.slot (slotW_ok _ (by omega)).1 | exact hFI.empty (emptyW_ok _ (by omega)).1 (by omega) | exact hFI.open_ (openW_ok _ (by omega)).1 (by omega) | exact hFI.close (by omega) (by omega) | exact hFI.closeNew (by decide) (by omega)), (by first | exact hNS.otherB rfl rfl | exact hNS.open_ _ _ | exact hNS.close (by omega) (fun h9 => by first | rfl | exact absurd h9 hc104) _ | exact NS.closeNew (hc104).2), ⟨by first | omega | exact Nat.le_trans (slotW_ok _ (by omega)).2 (by decide) | exact Nat.le_trans (emptyW_ok _ (by omega)).2 (by decide) | exact Nat.le_trans (openW_ok _ (by omega)).2 (by decide) | exact Nat.le_trans (nameL_len _) (Nat.le_trans (text5 hopt _) (by decide)) | decide, by first | omega | (simp; done) | (simp; omega), by omega, by omega, by omega⟩, (by first | exact hopt | exact (fun o ho => (List.mem_append.1 ho).elim (hopt o) (fun h => by simp at h; subst h; exact (openW_ok _ (by omega)).2)) | exact (fun o ho => (List.mem_append.1 ho).elim (fun h => hopt o (List.mem_of_mem_take h)) (fun h => hopt o (List.mem_of_mem_drop h)))), (by first | assumption | omega | (dsimp only; omega) | (simp; done)), hV⟩
            ·repeat (first | (with_reducible exact Agree.merge _ _ _) | (with_reducible exact Agree.refl _ _) | (with_reducible refine Agree.upd ?_ _ _ rfl) | ((with_reducible refine Agree.inner ?_ ?_); (kernel_rfl)))
           ·skip
            refine r_skip ?_
            refine r_cut_end ?_ ?_
            ·refine ⟨_, _, _, _, _, _, _, rfl, rfl, hof, (hop.base_le (by omega)), hbb13, hbb13.at, hb, hb.at, (by first | exact hFI.text _ | exact hFI.slot (slotW_ok _ (by omega)).1 | exact hFI.empty (emptyW_ok _ (by omega)).1 (by omega) | exact hFI.open_ (openW_ok _ (by omega)).1 (by omega) | exact hFI.close (by omega) (by omega) | exact hFI.closeNew (by decide) (by omega)), (by first | exact hNS.otherB rfl rfl | exact hNS.open_ _ _ | exact hNS.close (by omega) (fun h9 => by first | rfl | exact absurd h9 hc104) _ | exact NS.closeNew (hc104).2), ⟨by first | omega | exact Nat.le_trans (slotW_ok _ (by omega)).2 (by decide) | exact Nat.le_trans (emptyW_ok _ (by omega)).2 (by decide) | exact Nat.le_trans (openW_ok _ (by omega)).2 (by decide) | exact Nat.le_trans (nameL_len _) (Nat.le_trans (text5 hopt _) (by decide)) | decide, by first | omega | (simp; done) | (simp; omega), by omega, by omega, by omega⟩, (by first | exact hopt | exact (fun o ho => (List.mem_append.1 ho).elim (hopt o) (fun h => by simp at h; subst h; exact (openW_ok _ (by omega)).2)) | exact (fun o ho => (List.mem_append.1 ho).elim (fun h => hopt o (List.mem_of_mem_take h)) (fun h => hopt o (List.mem_of_mem_drop h)))), (by first | assumption | omega | (dsimp only; omega) | (simp; done)), hV⟩
            ·repeat (first | (with_reducible exact Agree.merge _ _ _) | (with_reducible exact Agree.refl _ _) | (with_reducible refine Agree.upd ?_ _ _ rfl) | ((with_reducible refine Agree.inner ?_ ?_); (kernel_rfl)))
         ·skip
          refine r_region ?_
          refine r_op rfl rfl rfl (run_eql rfl (by exact rfl) (by exact rfl)) ?_
          refine r_op rfl rfl rfl (run_asg (v := .bool _) rfl (by exact rfl)) ?_
          refine r_nil ?_
          refine r_cond (by exact rfl) (fun hc106 => ?_) (fun hc106 => ?_)
          ·skip
           refine r_seq ?_
           refine r_region ?_
           refine r_op rfl rfl rfl (run_mv (v := vo) rfl (by exact rfl)) ?_
           refine r_op rfl rfl rfl (run_lenOE rfl (by exact rfl) Tryz.underlying46 hop) ?_
           refine r_op rfl rfl rfl (run_sub rfl (by exact rfl) (by exact rfl) (by omega) (by omega)) ?_
           refine r_op rfl rfl rfl (run_asg (v := .int _ _) rfl (by exact rfl)) ?_
           refine r_nil ?_
           refine r_seq ?_
           refine r_region ?_
           refine r_op rfl rfl rfl (run_mv (v := .int _ _) rfl (by exact rfl)) ?_
           refine r_op rfl rfl rfl (run_geq rfl (by exact rfl) (by exact rfl)) ?_
           refine r_nil ?_
           refine r_cond (by exact rfl) (fun hc107 => ?_) (fun hc107 => ?_)
           ·skip
            refine r_seq ?_
            refine r_seq ?_
            refine r_region ?_
            refine r_op rfl rfl rfl (run_mvb rfl (by exact rfl)) ?_
            refine r_op rfl rfl rfl (run_not rfl (by exact rfl)) ?_
            refine r_nil ?_
            refine r_cond (by exact rfl) (fun hc108 => ?_) (fun hc108 => ?_)
            ·skip
             refine r_region ?_
             refine r_op rfl rfl rfl (run_mv (v := .pointer _) rfl (by exact rfl)) ?_
             refine r_op rfl rfl rfl (run_mv (v := .int _ _) rfl (by exact rfl)) ?_
             refine r_op rfl rfl rfl (run_add rfl (by exact rfl) (by exact rfl) (by omega) (by omega)) ?_
             refine r_opcall rfl rfl rfl (run_callf (vs := [.pointer _, .int _ _]) rfl (by exact rfl) Tryz.func16 rfl (by kernel_rfl)) (inx_calls hb hl (by omega) (by omega) (by omega)) ?_
             rintro e w109 ⟨nx109, rfl, hx109, hE109, hn109⟩
             refine ⟨_, rfl, ?_⟩
             have hs_w109 := (hE109).size
             replace hV := evo_step1 hV hE109 (.inr (by simp))
             replace hl := hl0 _ hV
             replace hof := hof.evo hE109 (by intro g hg hm; simp at hm; subst hm; have := hof.block hg; omega)
             replace hop := hop.evo hE109 (by intro g hg hm; simp at hm; subst hm; have := hop.block hg; omega)
             replace hbb13 := hbb13.evo hE109 (by simp; omega)
             replace hAb13 := hAb13.evo hE109 (by simp; omega)
             replace hb := hn109
             clear hn109
             have hAs := hb.at
             refine r_op rfl rfl rfl (run_asg (v := .int _ _) rfl (by exact rfl)) ?_
             refine r_nil ?_
             refine r_seq ?_
             obtain ⟨ao110, g110, cp110, hv110, hr110, hg110⟩ := hop.rowOf
             subst hv110
             have hk5 := text5 hopt nx109.toNat
             have hbb13_q := hbb13
             have hAb13_q := hAb13
             have hr110_q := hr110
             have hV_q := hV
             refine h_region ([]) (by kernel_rfl) ?_
             intro w111 hE112 hC113
             have hs_w111 := (hE112).size
             replace hV := evo_step0 hV hE112
             replace hl := hl0 _ hV
             replace hof := hof.evo0 hE112
             replace hop := hop.evo0 hE112
             replace hbb13 := hbb13.evo0 hE112
             replace hAb13 := hAb13.evo0 hE112
             replace hb := hb.evo0 hE112
             replace hr110 := hr110.evo0 hE112
             refine h_take (i := 0) (by exact rfl) rfl rfl rfl (by kernel_rfl) (fun w' hC => run_mv (v := .slice _ _ _) rfl (by exact rfl)) hC113 ?_
             refine h_take (i := 1) (by exact rfl) rfl rfl rfl (by kernel_rfl) (fun w' hC => run_mv (v := .int _ _) rfl (by exact rfl)) hC113 ?_
             refine h_take (i := 2) (by exact rfl) rfl rfl rfl (by kernel_rfl) (fun w' hC => run_ix (nx109.toNat) rfl Tryz.underlying46 ty_45 (by exact rfl) (by exact rfl) (by omega) (by omega) (hr110.addr (i := nx109.toNat) (by omega))) hC113 ?_
             have hA114 := hr110.atD (nx109.toNat) (by omega)
             have hA114_q := hr110_q.atD (nx109.toNat) (by omega)
             refine h_take (i := 3) (by exact rfl) rfl rfl rfl (by kernel_rfl) (fun w' hC => run_fa rfl (by exact rfl) fo_45_1) hC113 ?_
             refine h_take (i := 4) (by exact rfl) rfl rfl rfl (by kernel_rfl) (fun w' hC => run_ld1 rfl ag_9 (by exact rfl) ((hA114_q.evo0 hC).cell 1 (by exact rfl))) hC113 ?_
             refine h_take (i := 6) (by exact rfl) rfl rfl rfl (by kernel_rfl) (fun w' hC => run_mv (v := .slice _ _ _) rfl (by exact rfl)) hC113 ?_
             refine h_take (i := 7) (by exact rfl) rfl rfl rfl (by kernel_rfl) (fun w' hC => run_mv (v := .int _ _) rfl (by exact rfl)) hC113 ?_
             refine h_take (i := 8) (by exact rfl) rfl rfl rfl (by kernel_rfl) (fun w' hC => run_ix (nx109.toNat) rfl Tryz.underlying46 ty_45 (by exact rfl) (by exact rfl) (by omega) (by omega) (hr110.addr (i := nx109.toNat) (by omega))) hC113 ?_
             have hA115 := hr110.atD (nx109.toNat) (by omega)
             have hA115_q := hr110_q.atD (nx109.toNat) (by omega)
             refine h_take (i := 9) (by exact rfl) rfl rfl rfl (by kernel_rfl) (fun w' hC => run_fa rfl (by exact rfl) fo_45_2) hC113 ?_
             refine h_take (i := 10) (by exact rfl) rfl rfl rfl (by kernel_rfl) (fun w' hC => run_ld1 rfl ag_3 (by exact rfl) ((hA115_q.evo0 hC).cell 2 (by exact rfl))) hC113 ?_
             refine h_one (i := 5) (by kernel_rfl) ?_
             refine h_do (by exact rfl) ?_
             refine r_opcall rfl rfl rfl (run_callf (vs := [S _]) rfl (by exact rfl) Tryz.func30 rfl (by kernel_rfl)) (rname_calls (by omega)) ?_
             rintro e w116 ⟨rfl, hE116⟩
             refine ⟨_, rfl, ?_⟩
             have hs_w116 := (hE116).size
             replace hV := evo_step0 hV hE116
             replace hC113 := evo_step0 hC113 hE116
             replace hl := hl0 _ hV
             replace hof := hof.evo0 hE116
             replace hop := hop.evo0 hE116
             replace hbb13 := hbb13.evo0 hE116
             replace hAb13 := hAb13.evo0 hE116
             replace hb := hb.evo0 hE116
             replace hr110 := hr110.evo0 hE116
             refine h_next hC113 ?_
             refine h_take (i := 11) (by exact rfl) rfl rfl rfl (by kernel_rfl) (fun w' hC => run_bld (pv := [(0, .int _ _), (1, S _), (2, .int _ _)]) (zs := [_, _, _]) (cells := [_, _, _]) rfl ty_45 (by exact rfl) pl_45 (by exact rfl) (by exact rfl)) hC113 ?_
             refine h_one (i := 12) (by kernel_rfl) ?_
             refine h_do (by exact rfl) ?_
             refine r_store (v := .agg _) (vs := [_, _, _]) (cs' := [_, _, _]) (by exact rfl) (by exact rfl) hbb13 ty_45 (by exact rfl) rfl (by exact rfl) rfl (by exact rfl) ?_
             intro w117 hEw117 hzw117 hb_new
             have hs_w117 := (hEw117).size
             replace hV := evo_step1 hV hEw117 (by first | exact .inl (by omega) | exact .inr (by simp))
             replace hl := hl0 _ hV
             replace hof := hof.evo hEw117 (by intro g hg hm; simp at hm; subst hm; exact hofx _ hg rfl)
             replace hop := hop.evo hEw117 (by intro g hg hm; simp at hm; subst hm; exact hopx _ hg rfl)
             replace hb := hb.evo hEw117 (by simp; omega)
             replace hbb13 := hb_new
             have hAb13 := hbb13.at
             clear hb_new
             refine h_last (by kernel_rfl) ?_
             refine h_done (by kernel_rfl) ?_
             obtain ⟨ao118, g118, cp118, hv118, hr118, hg118⟩ := hop.rowOf
             injection hv118 with ha118 hx118 hc118
             subst ha118; subst hc118
             have hobQ := fun g hg => (hop.block (g := g) hg).2; have hobQF := fun g hg => (hof.block (g := g) hg).2
             have hbb13_q := hbb13
             have hAb13_q := hAb13
             have hr118_q := hr118
             have hV_q := hV
             refine h_region ([]) (by kernel_rfl) ?_
             intro w119 hE120 hC121
             have hs_w119 := (hE120).size
             replace hV := evo_step0 hV hE120
             replace hl := hl0 _ hV
             replace hof := hof.evo0 hE120
             replace hop := hop.evo0 hE120
             replace hb := hb.evo0 hE120
             replace hbb13 := hbb13.evo0 hE120
             replace hAb13 := hAb13.evo0 hE120
             replace hr118 := hr118.evo0 hE120
             refine h_take (i := 0) (by exact rfl) rfl rfl rfl (by kernel_rfl) (fun w' hC => run_mv (v := .slice _ _ _) rfl (by exact rfl)) hC121 ?_
             refine h_take (i := 1) (by exact rfl) rfl rfl rfl (by kernel_rfl) (fun w' hC => run_mv (v := .int _ _) rfl (by exact rfl)) hC121 ?_
             refine h_take (i := 2) (by exact rfl) rfl rfl rfl (by kernel_rfl) (fun w' hC => by exact run_slE (0) (nx109.toNat) rfl Tryz.underlying46 ty_45 (by exact rfl) (hr118_q.evo0 hC) lo0 (at1 (by exact rfl) (by omega)) (by first | omega | (simp; omega)) (by first | omega | (simp; omega)) List.drop_zero) hC121 ?_
             have hS122 := (by have h9 := (hr118.take (nx109.toNat)).drop (0); rw [List.drop_zero] at h9; exact h9)
             have hbd_hS122 := hS122.bd
             refine h_take (i := 4) (by exact rfl) rfl rfl rfl (by kernel_rfl) (fun w' hC => run_mv (v := .slice _ _ _) rfl (by exact rfl)) hC121 ?_
             refine h_take (i := 5) (by exact rfl) rfl rfl rfl (by kernel_rfl) (fun w' hC => run_mv (v := .int _ _) rfl (by exact rfl)) hC121 ?_
             refine h_take (i := 6) (by exact rfl) rfl rfl rfl (by kernel_rfl) (fun w' hC => run_add rfl (by exact rfl) (by exact rfl) (by omega) (by omega)) hC121 ?_
             refine h_take (i := 7) (by exact rfl) rfl rfl rfl (by kernel_rfl) (fun w' hC => by exact run_slE0 ((nx109.toNat + 1)) rfl Tryz.underlying46 ty_45 rfl (by exact rfl) (hr118_q.evo0 hC) (at1 (by exact rfl) (by omega)) (by first | omega | (simp; omega))) hC121 ?_
             have hS123 := hr118.drop ((nx109.toNat + 1))
             have hbd_hS123 := hS123.bd
             refine h_one (i := 3) (by kernel_rfl) ?_
             refine h_do (by exact rfl) ?_
             refine r_appendE rfl Tryz.underlying46 ty_45 (by exact rfl) (OwnE.nil (α := Vc.Item) _ w117.heap.size _) (by exact rfl) (by exact rfl) hS122 rfl ((by first | omega | (simp; omega))) ((by first | omega | (simp; omega))) (by omega) ?_
             intro v124 w125 hEw125 hov124 hlv124
             have hs_w125 := (hEw125).size
             replace hV := evo_step0 hV hEw125
             replace hC121 := evo_step0 hC121 hEw125
             replace hl := hl0 _ hV
             replace hof := hof.evo0 hEw125
             replace hop := hop.evo0 hEw125
             replace hb := hb.evo0 hEw125
             replace hbb13 := hbb13.evo0 hEw125
             replace hAb13 := hAb13.evo0 hEw125
             replace hr118 := hr118.evo0 hEw125
             replace hS122 := hS122.evo0 hEw125
             replace hS123 := hS123.evo0 hEw125
             refine h_next hC121 ?_
             refine h_one (i := 8) (by kernel_rfl) ?_
             refine h_do (by exact rfl) ?_
             refine r_appendE rfl Tryz.underlying46 ty_45 (by exact rfl) hov124 (by exact rfl) (by exact rfl) hS123 rfl ((by first | omega | (simp; omega))) ((by first | omega | (simp; omega))) (by omega) ?_
             intro v126 w127 hEw127 hov126 hlv126
             have hs_w127 := (hEw127).size
             replace hV := evo_stepo hV hEw127 (fun g hg => .inl (by first | exact (hov124.block hg).1 | (have := hov124.block hg; omega)))
             replace hl := hl0 _ hV
             replace hof := hof.evo hEw127 (by intro g hg hm; have hm2 := Option.mem_toList.1 hm; have h1 := hov124.block hm2; have h2 := hobQF g hg; omega)
             replace hop := hop.evo hEw127 (by intro g hg hm; have hm2 := Option.mem_toList.1 hm; have h1 := hov124.block hm2; have h2 := hobQ g hg; omega)
             replace hb := hb.evo hEw127 (by intro hm; have hm2 := Option.mem_toList.1 hm; have := hov124.block hm2; omega)
             replace hbb13 := hbb13.evo hEw127 (by intro hm; have hm2 := Option.mem_toList.1 hm; have := hov124.block hm2; omega)
             replace hAb13 := hAb13.evo hEw127 (by intro hm; have hm2 := Option.mem_toList.1 hm; have := hov124.block hm2; omega)
             refine h_last (by kernel_rfl) ?_
             refine h_one (i := 9) (by kernel_rfl) ?_
             refine h_do (by exact rfl) ?_
             refine r_op rfl rfl rfl (run_asg (v := v126) rfl (by exact rfl)) ?_
             refine h_last (by kernel_rfl) ?_
             refine h_done (by kernel_rfl) ?_
             refine r_cut_end ?_ ?_
             ·refine ⟨_, _, _, _, _, _, _, rfl, rfl, hof, (hov126.base_le (by omega)), hbb13, hbb13.at, hb, hb.at, (by first | exact hFI.text _ | exact hFI.slot (slotW_ok _ (by omega)).1 | exact hFI.empty (emptyW_ok _ (by omega)).1 (by omega) | exact hFI.open_ (openW_ok _ (by omega)).1 (by omega) | exact hFI.close (by omega) (by omega) | exact hFI.closeNew (by decide) (by omega)), (by first | exact hNS.otherB rfl rfl | exact hNS.open_ _ _ | exact hNS.close (by omega) (fun h9 => by first | rfl | exact absurd h9 hc108) _ | exact NS.closeNew (hc108).2), ⟨by first | omega | exact Nat.le_trans (slotW_ok _ (by omega)).2 (by decide) | exact Nat.le_trans (emptyW_ok _ (by omega)).2 (by decide) | exact Nat.le_trans (openW_ok _ (by omega)).2 (by decide) | exact Nat.le_trans (nameL_len _) (Nat.le_trans (text5 hopt _) (by decide)) | decide, by first | omega | (simp; done) | (simp; omega), by omega, by omega, by omega⟩, (by first | exact hopt | exact (fun o ho => (List.mem_append.1 ho).elim (hopt o) (fun h => by simp at h; subst h; exact (openW_ok _ (by omega)).2)) | exact (fun o ho => (List.mem_append.1 ho).elim (fun h => hopt o (List.mem_of_mem_take h)) (fun h => hopt o (List.mem_of_mem_drop h)))), (by first | assumption | omega | (dsimp only; omega) | (simp; done)), hV⟩
             ·repeat (first | (with_reducible exact Agree.merge _ _ _) | (with_reducible exact Agree.refl _ _) | (with_reducible refine Agree.upd ?_ _ _ rfl) | ((with_reducible refine Agree.inner ?_ ?_); (kernel_rfl)))
            ·skip
             refine r_skip ?_
             refine r_seq ?_
             obtain ⟨ao128, g128, cp128, hv128, hr128, hg128⟩ := hop.rowOf
             subst hv128
             have hk5 := text5 hopt (op.length - 1)
             have hbb13_q := hbb13
             have hAb13_q := hAb13
             have hr128_q := hr128
             have hV_q := hV
             refine h_region ([]) (by kernel_rfl) ?_
             intro w129 hE130 hC131
             have hs_w129 := (hE130).size
             replace hV := evo_step0 hV hE130
             replace hl := hl0 _ hV
             replace hof := hof.evo0 hE130
             replace hop := hop.evo0 hE130
             replace hbb13 := hbb13.evo0 hE130
             replace hAb13 := hAb13.evo0 hE130
             replace hb := hb.evo0 hE130
             replace hr128 := hr128.evo0 hE130
             refine h_take (i := 0) (by exact rfl) rfl rfl rfl (by kernel_rfl) (fun w' hC => run_mv (v := .slice _ _ _) rfl (by exact rfl)) hC131 ?_
             refine h_take (i := 1) (by exact rfl) rfl rfl rfl (by kernel_rfl) (fun w' hC => run_mv (v := .int _ _) rfl (by exact rfl)) hC131 ?_
             refine h_take (i := 2) (by exact rfl) rfl rfl rfl (by kernel_rfl) (fun w' hC => run_ix ((op.length - 1)) rfl Tryz.underlying46 ty_45 (by exact rfl) (by exact rfl) (by omega) (by omega) (hr128.addr (i := (op.length - 1)) (by omega))) hC131 ?_
             have hA132 := hr128.atD ((op.length - 1)) (by omega)
             have hA132_q := hr128_q.atD ((op.length - 1)) (by omega)
             refine h_take (i := 3) (by exact rfl) rfl rfl rfl (by kernel_rfl) (fun w' hC => run_fa rfl (by exact rfl) fo_45_1) hC131 ?_
             refine h_take (i := 4) (by exact rfl) rfl rfl rfl (by kernel_rfl) (fun w' hC => run_ld1 rfl ag_9 (by exact rfl) ((hA132_q.evo0 hC).cell 1 (by exact rfl))) hC131 ?_
             refine h_take (i := 6) (by exact rfl) rfl rfl rfl (by kernel_rfl) (fun w' hC => run_mv (v := .slice _ _ _) rfl (by exact rfl)) hC131 ?_
             refine h_take (i := 7) (by exact rfl) rfl rfl rfl (by kernel_rfl) (fun w' hC => run_mv (v := .int _ _) rfl (by exact rfl)) hC131 ?_
             refine h_take (i := 8) (by exact rfl) rfl rfl rfl (by kernel_rfl) (fun w' hC => run_ix ((op.length - 1)) rfl Tryz.underlying46 ty_45 (by exact rfl) (by exact rfl) (by omega) (by omega) (hr128.addr (i := (op.length - 1)) (by omega))) hC131 ?_
             have hA133 := hr128.atD ((op.length - 1)) (by omega)
             have hA133_q := hr128_q.atD ((op.length - 1)) (by omega)
             refine h_take (i := 9) (by exact rfl) rfl rfl rfl (by kernel_rfl) (fun w' hC => run_fa rfl (by exact rfl) fo_45_2) hC131 ?_
             refine h_take (i := 10) (by exact rfl) rfl rfl rfl (by kernel_rfl) (fun w' hC => run_ld1 rfl ag_3 (by exact rfl) ((hA133_q.evo0 hC).cell 2 (by exact rfl))) hC131 ?_
             refine h_one (i := 5) (by kernel_rfl) ?_
             refine h_do (by exact rfl) ?_
             refine r_opcall rfl rfl rfl (run_callf (vs := [S _]) rfl (by exact rfl) Tryz.func30 rfl (by kernel_rfl)) (rname_calls (by omega)) ?_
             rintro e w134 ⟨rfl, hE134⟩
             refine ⟨_, rfl, ?_⟩
             have hs_w134 := (hE134).size
             replace hV := evo_step0 hV hE134
             replace hC131 := evo_step0 hC131 hE134
             replace hl := hl0 _ hV
             replace hof := hof.evo0 hE134
             replace hop := hop.evo0 hE134
             replace hbb13 := hbb13.evo0 hE134
             replace hAb13 := hAb13.evo0 hE134
             replace hb := hb.evo0 hE134
             replace hr128 := hr128.evo0 hE134
             refine h_next hC131 ?_
             refine h_take (i := 11) (by exact rfl) rfl rfl rfl (by kernel_rfl) (fun w' hC => run_bld (pv := [(0, .int _ _), (1, S _), (2, .int _ _)]) (zs := [_, _, _]) (cells := [_, _, _]) rfl ty_45 (by exact rfl) pl_45 (by exact rfl) (by exact rfl)) hC131 ?_
             refine h_one (i := 12) (by kernel_rfl) ?_
             refine h_do (by exact rfl) ?_
             refine r_store (v := .agg _) (vs := [_, _, _]) (cs' := [_, _, _]) (by exact rfl) (by exact rfl) hbb13 ty_45 (by exact rfl) rfl (by exact rfl) rfl (by exact rfl) ?_
             intro w135 hEw135 hzw135 hb_new
             have hs_w135 := (hEw135).size
             replace hV := evo_step1 hV hEw135 (by first | exact .inl (by omega) | exact .inr (by simp))
             replace hl := hl0 _ hV
             replace hof := hof.evo hEw135 (by intro g hg hm; simp at hm; subst hm; exact hofx _ hg rfl)
             replace hop := hop.evo hEw135 (by intro g hg hm; simp at hm; subst hm; exact hopx _ hg rfl)
             replace hb := hb.evo hEw135 (by simp; omega)
             replace hbb13 := hb_new
             have hAb13 := hbb13.at
             clear hb_new
             refine h_last (by kernel_rfl) ?_
             refine h_done (by kernel_rfl) ?_
             obtain ⟨ao136, g136, cp136, hv136, hr136, hg136⟩ := hop.rowOf
             injection hv136 with ha136 hx136 hc136
             subst ha136; subst hc136
             have hobQ := fun g hg => (hop.block (g := g) hg).2; have hobQF := fun g hg => (hof.block (g := g) hg).2
             have hbb13_q := hbb13
             have hAb13_q := hAb13
             have hr136_q := hr136
             have hV_q := hV
             refine h_region ([]) (by kernel_rfl) ?_
             intro w137 hE138 hC139
             have hs_w137 := (hE138).size
             replace hV := evo_step0 hV hE138
             replace hl := hl0 _ hV
             replace hof := hof.evo0 hE138
             replace hop := hop.evo0 hE138
             replace hb := hb.evo0 hE138
             replace hbb13 := hbb13.evo0 hE138
             replace hAb13 := hAb13.evo0 hE138
             replace hr136 := hr136.evo0 hE138
             refine h_take (i := 0) (by exact rfl) rfl rfl rfl (by kernel_rfl) (fun w' hC => run_mv (v := .slice _ _ _) rfl (by exact rfl)) hC139 ?_
             refine h_take (i := 1) (by exact rfl) rfl rfl rfl (by kernel_rfl) (fun w' hC => run_mv (v := .int _ _) rfl (by exact rfl)) hC139 ?_
             refine h_take (i := 2) (by exact rfl) rfl rfl rfl (by kernel_rfl) (fun w' hC => by exact run_slE (0) ((op.length - 1)) rfl Tryz.underlying46 ty_45 (by exact rfl) (hr136_q.evo0 hC) lo0 (at1 (by exact rfl) (by omega)) (by first | omega | (simp; omega)) (by first | omega | (simp; omega)) List.drop_zero) hC139 ?_
             have hS140 := (by have h9 := (hr136.take ((op.length - 1))).drop (0); rw [List.drop_zero] at h9; exact h9)
             have hbd_hS140 := hS140.bd
             refine h_take (i := 4) (by exact rfl) rfl rfl rfl (by kernel_rfl) (fun w' hC => run_mv (v := .slice _ _ _) rfl (by exact rfl)) hC139 ?_
             refine h_take (i := 5) (by exact rfl) rfl rfl rfl (by kernel_rfl) (fun w' hC => run_mv (v := .int _ _) rfl (by exact rfl)) hC139 ?_
             refine h_take (i := 6) (by exact rfl) rfl rfl rfl (by kernel_rfl) (fun w' hC => run_add rfl (by exact rfl) (by exact rfl) (by omega) (by omega)) hC139 ?_
             refine h_take (i := 7) (by exact rfl) rfl rfl rfl (by kernel_rfl) (fun w' hC => by exact run_slE0 (((op.length - 1) + 1)) rfl Tryz.underlying46 ty_45 rfl (by exact rfl) (hr136_q.evo0 hC) (at1 (by exact rfl) (by omega)) (by first | omega | (simp; omega))) hC139 ?_
             have hS141 := hr136.drop (((op.length - 1) + 1))
             have hbd_hS141 := hS141.bd
             refine h_one (i := 3) (by kernel_rfl) ?_
             refine h_do (by exact rfl) ?_
             refine r_appendE rfl Tryz.underlying46 ty_45 (by exact rfl) (OwnE.nil (α := Vc.Item) _ w135.heap.size _) (by exact rfl) (by exact rfl) hS140 rfl ((by first | omega | (simp; omega))) ((by first | omega | (simp; omega))) (by omega) ?_
             intro v142 w143 hEw143 hov142 hlv142
             have hs_w143 := (hEw143).size
             replace hV := evo_step0 hV hEw143
             replace hC139 := evo_step0 hC139 hEw143
             replace hl := hl0 _ hV
             replace hof := hof.evo0 hEw143
             replace hop := hop.evo0 hEw143
             replace hb := hb.evo0 hEw143
             replace hbb13 := hbb13.evo0 hEw143
             replace hAb13 := hAb13.evo0 hEw143
             replace hr136 := hr136.evo0 hEw143
             replace hS140 := hS140.evo0 hEw143
             replace hS141 := hS141.evo0 hEw143
             refine h_next hC139 ?_
             refine h_one (i := 8) (by kernel_rfl) ?_
             refine h_do (by exact rfl) ?_
             refine r_appendE rfl Tryz.underlying46 ty_45 (by exact rfl) hov142 (by exact rfl) (by exact rfl) hS141 rfl ((by first | omega | (simp; omega))) ((by first | omega | (simp; omega))) (by omega) ?_
             intro v144 w145 hEw145 hov144 hlv144
             have hs_w145 := (hEw145).size
             replace hV := evo_stepo hV hEw145 (fun g hg => .inl (by first | exact (hov142.block hg).1 | (have := hov142.block hg; omega)))
             replace hl := hl0 _ hV
             replace hof := hof.evo hEw145 (by intro g hg hm; have hm2 := Option.mem_toList.1 hm; have h1 := hov142.block hm2; have h2 := hobQF g hg; omega)
             replace hop := hop.evo hEw145 (by intro g hg hm; have hm2 := Option.mem_toList.1 hm; have h1 := hov142.block hm2; have h2 := hobQ g hg; omega)
             replace hb := hb.evo hEw145 (by intro hm; have hm2 := Option.mem_toList.1 hm; have := hov142.block hm2; omega)
             replace hbb13 := hbb13.evo hEw145 (by intro hm; have hm2 := Option.mem_toList.1 hm; have := hov142.block hm2; omega)
             replace hAb13 := hAb13.evo hEw145 (by intro hm; have hm2 := Option.mem_toList.1 hm; have := hov142.block hm2; omega)
             refine h_last (by kernel_rfl) ?_
             refine h_one (i := 9) (by kernel_rfl) ?_
             refine h_do (by exact rfl) ?_
             refine r_op rfl rfl rfl (run_asg (v := v144) rfl (by exact rfl)) ?_
             refine h_last (by kernel_rfl) ?_
             refine h_done (by kernel_rfl) ?_
             refine r_cut_end ?_ ?_
             ·refine ⟨_, _, _, _, _, _, _, rfl, rfl, hof, (hov144.base_le (by omega)), hbb13, hbb13.at, hb, hb.at, (by first | exact hFI.text _ | exact hFI.slot (slotW_ok _ (by omega)).1 | exact hFI.empty (emptyW_ok _ (by omega)).1 (by omega) | exact hFI.open_ (openW_ok _ (by omega)).1 (by omega) | exact hFI.close (by omega) (by omega) | exact hFI.closeNew (by decide) (by omega)), (by first | exact hNS.otherB rfl rfl | exact hNS.open_ _ _ | exact hNS.close (by omega) (fun h9 => by first | rfl | exact absurd h9 hc108) _ | exact NS.closeNew (hc108).2), ⟨by first | omega | exact Nat.le_trans (slotW_ok _ (by omega)).2 (by decide) | exact Nat.le_trans (emptyW_ok _ (by omega)).2 (by decide) | exact Nat.le_trans (openW_ok _ (by omega)).2 (by decide) | exact Nat.le_trans (nameL_len _) (Nat.le_trans (text5 hopt _) (by decide)) | decide, by first | omega | (simp; done) | (simp; omega), by omega, by omega, by omega⟩, (by first | exact hopt | exact (fun o ho => (List.mem_append.1 ho).elim (hopt o) (fun h => by simp at h; subst h; exact (openW_ok _ (by omega)).2)) | exact (fun o ho => (List.mem_append.1 ho).elim (fun h => hopt o (List.mem_of_mem_take h)) (fun h => hopt o (List.mem_of_mem_drop h)))), (by first | assumption | omega | (dsimp only; omega) | (simp; done)), hV⟩
             ·repeat (first | (with_reducible exact Agree.merge _ _ _) | (with_reducible exact Agree.refl _ _) | (with_reducible refine Agree.upd ?_ _ _ rfl) | ((with_reducible refine Agree.inner ?_ ?_); (kernel_rfl)))
           ·skip
            refine r_seq ?_
            refine r_region ?_
            refine r_op rfl rfl rfl (run_mvb rfl (by exact rfl)) ?_
            refine r_op rfl rfl rfl (run_mv (v := .bool _) rfl (by exact rfl)) ?_
            refine r_g rfl (wantT (by exact rfl)) rfl (fun hg => run_mvb rfl (by exact rfl)) ?_
            refine r_g rfl (wantT (by exact rfl)) rfl (fun hg => run_not rfl (glv (by exact rfl) (fun h => h) hg)) ?_
            refine r_op rfl rfl rfl (run_pick_and rfl (by exact rfl) (fun hq => glv (by exact rfl) (fun h => h) hq) rfl) ?_
            refine r_nil ?_
            refine r_cond (by exact rfl) (fun hc146 => ?_) (fun hc146 => ?_)
            ·skip
             refine r_seq ?_
             refine r_region ?_
             refine r_op rfl rfl rfl (run_mv (v := .int _ _) rfl (by exact rfl)) ?_
             refine r_op rfl rfl rfl (run_add rfl (by exact rfl) (by exact rfl) (by omega) (by omega)) ?_
             refine r_op rfl rfl rfl (run_asg (v := .int _ _) rfl (by exact rfl)) ?_
             refine r_nil ?_
             refine r_region ?_
             refine r_op rfl rfl rfl (run_mv (v := .int _ _) rfl (by exact rfl)) ?_
             refine r_op rfl rfl rfl (run_bld (pv := [(0, .int _ _), (1, S _), (2, .int _ _)]) (zs := [_, _, _]) (cells := [_, _, _]) rfl ty_45 (by exact rfl) pl_45 (by exact rfl) (by exact rfl)) ?_
             refine r_store (v := .agg _) (vs := [_, _, _]) (cs' := [_, _, _]) (by exact rfl) (by exact rfl) hbb13 ty_45 (by exact rfl) rfl (by exact rfl) rfl (by exact rfl) ?_
             intro w147 hEw147 hzw147 hb_new
             have hs_w147 := (hEw147).size
             replace hV := evo_step1 hV hEw147 (by first | exact .inl (by omega) | exact .inr (by simp))
             replace hl := hl0 _ hV
             replace hof := hof.evo hEw147 (by intro g hg hm; simp at hm; subst hm; exact hofx _ hg rfl)
             replace hop := hop.evo hEw147 (by intro g hg hm; simp at hm; subst hm; exact hopx _ hg rfl)
             replace hb := hb.evo hEw147 (by simp; omega)
             replace hbb13 := hb_new
             have hAb13 := hbb13.at
             clear hb_new
             refine r_nil ?_
             refine r_cut_end ?_ ?_
             ·refine ⟨_, _, _, _, _, _, _, rfl, rfl, hof, (hop.base_le (by omega)), hbb13, hbb13.at, hb, hb.at, (by first | exact hFI.text _ | exact hFI.slot (slotW_ok _ (by omega)).1 | exact hFI.empty (emptyW_ok _ (by omega)).1 (by omega) | exact hFI.open_ (openW_ok _ (by omega)).1 (by omega) | exact hFI.close (by omega) (by omega) | exact hFI.closeNew (by decide) (by omega)), (by first | exact hNS.otherB rfl rfl | exact hNS.open_ _ _ | exact hNS.close (by omega) (fun h9 => by first | rfl | exact absurd h9 hc146) _ | exact NS.closeNew (hc146).2), ⟨by first | omega | exact Nat.le_trans (slotW_ok _ (by omega)).2 (by decide) | exact Nat.le_trans (emptyW_ok _ (by omega)).2 (by decide) | exact Nat.le_trans (openW_ok _ (by omega)).2 (by decide) | exact Nat.le_trans (nameL_len _) (Nat.le_trans (text5 hopt _) (by decide)) | decide, by first | omega | (simp; done) | (simp; omega), by omega, by omega, by omega⟩, (by first | exact hopt | exact (fun o ho => (List.mem_append.1 ho).elim (hopt o) (fun h => by simp at h; subst h; exact (openW_ok _ (by omega)).2)) | exact (fun o ho => (List.mem_append.1 ho).elim (fun h => hopt o (List.mem_of_mem_take h)) (fun h => hopt o (List.mem_of_mem_drop h)))), (by first | assumption | omega | (dsimp only; omega) | (simp; done)), hV⟩
             ·repeat (first | (with_reducible exact Agree.merge _ _ _) | (with_reducible exact Agree.refl _ _) | (with_reducible refine Agree.upd ?_ _ _ rfl) | ((with_reducible refine Agree.inner ?_ ?_); (kernel_rfl)))
            ·skip
             refine r_skip ?_
             refine r_cut_end ?_ ?_
             ·refine ⟨_, _, _, _, _, _, _, rfl, rfl, hof, (hop.base_le (by omega)), hbb13, hbb13.at, hb, hb.at, (by first | exact hFI.text _ | exact hFI.slot (slotW_ok _ (by omega)).1 | exact hFI.empty (emptyW_ok _ (by omega)).1 (by omega) | exact hFI.open_ (openW_ok _ (by omega)).1 (by omega) | exact hFI.close (by omega) (by omega) | exact hFI.closeNew (by decide) (by omega)), (by first | exact hNS.otherB rfl rfl | exact hNS.open_ _ _ | exact hNS.close (by omega) (fun h9 => by first | rfl | exact absurd h9 hc146) _ | exact NS.closeNew (hc146).2), ⟨by first | omega | exact Nat.le_trans (slotW_ok _ (by omega)).2 (by decide) | exact Nat.le_trans (emptyW_ok _ (by omega)).2 (by decide) | exact Nat.le_trans (openW_ok _ (by omega)).2 (by decide) | exact Nat.le_trans (nameL_len _) (Nat.le_trans (text5 hopt _) (by decide)) | decide, by first | omega | (simp; done) | (simp; omega), by omega, by omega, by omega⟩, (by first | exact hopt | exact (fun o ho => (List.mem_append.1 ho).elim (hopt o) (fun h => by simp at h; subst h; exact (openW_ok _ (by omega)).2)) | exact (fun o ho => (List.mem_append.1 ho).elim (fun h => hopt o (List.mem_of_mem_take h)) (fun h => hopt o (List.mem_of_mem_drop h)))), (by first | assumption | omega | (dsimp only; omega) | (simp; done)), hV⟩
             ·repeat (first | (with_reducible exact Agree.merge _ _ _) | (with_reducible exact Agree.refl _ _) | (with_reducible refine Agree.upd ?_ _ _ rfl) | ((with_reducible refine Agree.inner ?_ ?_); (kernel_rfl)))
          ·skip
           refine r_skip ?_
           refine r_cut_end ?_ ?_
           ·refine ⟨_, _, _, _, _, _, _, rfl, rfl, hof, (hop.base_le (by omega)), hbb13, hbb13.at, hb, hb.at, (by first | exact hFI.text _ | exact hFI.slot (slotW_ok _ (by omega)).1 | exact hFI.empty (emptyW_ok _ (by omega)).1 (by omega) | exact hFI.open_ (openW_ok _ (by omega)).1 (by omega) | exact hFI.close (by omega) (by omega) | exact hFI.closeNew (by decide) (by omega)), (by first | exact hNS.otherB rfl rfl | exact hNS.open_ _ _ | exact hNS.close (by omega) (fun h9 => by first | rfl | exact absurd h9 hc106) _ | exact NS.closeNew (hc106).2), ⟨by first | omega | exact Nat.le_trans (slotW_ok _ (by omega)).2 (by decide) | exact Nat.le_trans (emptyW_ok _ (by omega)).2 (by decide) | exact Nat.le_trans (openW_ok _ (by omega)).2 (by decide) | exact Nat.le_trans (nameL_len _) (Nat.le_trans (text5 hopt _) (by decide)) | decide, by first | omega | (simp; done) | (simp; omega), by omega, by omega, by omega⟩, (by first | exact hopt | exact (fun o ho => (List.mem_append.1 ho).elim (hopt o) (fun h => by simp at h; subst h; exact (openW_ok _ (by omega)).2)) | exact (fun o ho => (List.mem_append.1 ho).elim (fun h => hopt o (List.mem_of_mem_take h)) (fun h => hopt o (List.mem_of_mem_drop h)))), (by first | assumption | omega | (dsimp only; omega) | (simp; done)), hV⟩
           ·repeat (first | (with_reducible exact Agree.merge _ _ _) | (with_reducible exact Agree.refl _ _) | (with_reducible refine Agree.upd ?_ _ _ rfl) | ((with_reducible refine Agree.inner ?_ ?_); (kernel_rfl)))
    ·rintro g w148 ⟨vo2, op2, idn2, N2, kx, tx, ix, hj149, hj150, hof, hop, hbb13, hAb13, hb, hAs, hFX, hNX, hsz2, hop2, hzl32, hV⟩
     have hs_w148hV := hV.size
     have hlt151 := hbb13.lt
     have hlt152 := hb.lt
     replace hl := hl0 _ hV
     refine r_know (i := 10) (v := vo2) (by exact hj149) ?_
     refine r_know (i := 11) (v := .int .i64 idn2) (by exact hj150) ?_
     refine r_blk ?_
     have hobZ := fun g hg => (hop.block (g := g) hg).2
     have s32 : Small (f ++ [⟨kx, tx, ix⟩]) := ⟨by rw [List.length_append]; simp; omega, by rw [sizeL_append, sizeL_one]; simp; omega⟩
     refine r_region ?_
     refine r_op rfl rfl rfl (run_mv (v := vf) rfl (by exact rfl)) ?_
     refine r_op rfl rfl rfl (run_ldN rfl ag_45 ty_45 (by exact rfl) rfl hAb13) ?_
     refine r_bslice (pv := [(0, .agg _)]) (zs := [_, _, _]) (cs := [_, _, _]) Tryz.underlying46 ty_45 (by exact rfl) rfl (by exact rfl) rfl (by exact rfl) ?_
     intro b153 w154 heb153 hEw154 hbb153 hzb153
     have hs_w154 := (hEw154).size
     replace hV := evo_step0 hV hEw154
     replace hl := hl0 _ hV
     replace hof := hof.evo0 hEw154
     replace hop := hop.evo0 hEw154
     replace hb := hb.evo0 hEw154
     have hAb153 := hbb153.at
     have hrb153 : RowE w154 (some ⟨b153, 0, none⟩) b153 0 1 ([⟨kx, tx, ix⟩] : List Vc.Item) := rowLit ([⟨kx, tx, ix⟩] : List Vc.Item) hbb153 rfl rfl
     obtain ⟨ao155, g155, cp155, hv155, hr155, hg155⟩ := hof.rowOf
     subst hv155
     refine r_opcall rfl rfl rfl (run_callf (vs := [.slice _ _ _, .slice (some ⟨b153, 0, none⟩) _ _]) rfl (by exact rfl) Tryz.func31 rfl (by kernel_rfl)) (rconcat_calls hr155 hrb153 (by assumption)) ?_
     rintro e w156 ⟨vn156, rfl, hE156, hon156⟩
     refine ⟨_, rfl, ?_⟩
     have hs_w156 := (hE156).size
     replace hV := evo_step0 hV hE156
     replace hl := hl0 _ hV
     replace hof := hof.evo0 hE156
     replace hop := hop.evo0 hE156
     replace hb := hb.evo0 hE156
     replace hrb153 := hrb153.evo0 hE156
     replace hr155 := hr155.evo0 hE156
     refine r_op rfl rfl rfl (run_asg (v := vn156) rfl (by exact rfl)) ?_
     refine r_nil ?_
     refine r_blk ?_
     refine r_region ?_
     refine r_op rfl rfl rfl (run_mv (v := .int _ _) rfl (by exact rfl)) ?_
     refine r_op rfl rfl rfl (run_sub rfl (by exact rfl) (by exact rfl) (by omega) (by omega)) ?_
     refine r_op rfl rfl rfl (run_asg (v := .int _ _) rfl (by exact rfl)) ?_
     refine r_nil ?_
     refine r_again (i - 1) ?_ ?_ ?_
     ·first | omega | (dsimp only; omega)
     ·refine ⟨_, _, _, _, _, _, (by first | exact rfl | exact congrArg (Value.int _) (by omega) | exact congrArg (Value.int _) (by dsimp only; omega) | exact congrArg (Value.int _) (by simp) | exact congrArg S (by simp)), rfl, rfl, rfl, (hon156.base_le (by omega)), hop, hb, hb.at, (by rw [hFI.norm]; exact hFX), (by rw [hFI.norm]; exact hNX), (by have h1 := normL_len (f ++ [⟨kx, tx, ix⟩]); have h2 := normL_size (f ++ [⟨kx, tx, ix⟩]); rw [List.length_append] at h1; rw [sizeL_append, sizeL_one] at h2; simp at h1 h2; omega), (fun g hg h hh => by have h1 := (hon156).block (g := g) hg; have h2 := hobZ h hh; omega), hop2, (by first | assumption | omega | (dsimp only; omega) | (simp; done)), hV⟩
     ·repeat (first | (with_reducible exact Agree.merge _ _ _) | (with_reducible exact Agree.refl _ _) | (with_reducible refine Agree.upd ?_ _ _ rfl) | ((with_reducible refine Agree.inner ?_ ?_); (kernel_rfl)))
  ·skip
   refine r_exit rfl ?_
   refine r_seq ?_
   refine r_seq ?_
   refine r_region ?_
   refine r_op rfl rfl rfl (run_mv (v := vo) rfl (by exact rfl)) ?_
   refine r_op rfl rfl rfl (run_lenOE rfl (by exact rfl) Tryz.underlying46 hop) ?_
   refine r_op rfl rfl rfl (run_sub rfl (by exact rfl) (by exact rfl) (by omega) (by omega)) ?_
   refine r_op rfl rfl rfl (run_asg (v := .int _ _) rfl (by exact rfl)) ?_
   refine r_nil ?_
   refine r_block ?_
   obtain ⟨ao157, g157, cp157, hv157, hr157, hg157⟩ := hop.rowOf
   subst hv157
   refine r_loop (α := Nat) [9, 15, 118, 119, 120, 121, 122, 123, 124, 125, 126, 127, 128, 129, 130, 131, 132, 133, 134, 135, 136, 137, 138, 139] (fun j g w => ∃ vf2 : Value, ∃ f2 : List Vc.Item, g 15 = .int .i64 ((j : Nat) - 1) ∧ g 9 = vf2 ∧ OwnE w w0.heap.size 45 vf2 f2 ∧ RowE w ao157 g157 0 cp157 op ∧ Blk w bs T [.slice ao l.length cap, .int .i64 (N1 : Nat)] ∧ At w bs 0 [.slice ao l.length cap, .int .i64 (N1 : Nat)] ∧ FI f2 (op.take j) idn ∧ NS nested f2 (op.take j) ∧ (f2.length + j ≤ f.length + op.length ∧ sizeL f2 + 5 * j ≤ sizeL f + 5 * op.length ∧ j ≤ op.length) ∧ (op ≠ [] → ∀ g, vf2.ownBlock = some g → g ≠ g157) ∧ (op ≠ [] → g157 < w.heap.size) ∧ w3.heap.size ≤ w.heap.size ∧ Evo w0 w [bs]) (fun j => j) op.length ?_ ?_
   ·refine ⟨_, _, rfl, rfl, hof, hr157, hb, hb.at, (by rw [List.take_of_length_le (Nat.le_refl _)]; exact hFI), (by rw [List.take_of_length_le (Nat.le_refl _)]; exact hNS), (by first | assumption | omega | (dsimp only; omega) | (simp; done)), (fun hne g hg => hsep g hg _ (hg157 hne).1), (fun hne => (hg157 hne).2.2), (by first | assumption | omega | (dsimp only; omega) | (simp; done)), hV⟩
   ·rintro j g w159 ⟨vf2, f2, hj160, hj161, hof2, hro, hb, hAs, hFI2, hNS2, hsz3, hsep2, hgo, hzl158, hV⟩
    have hs_w159hV := hV.size
    have hlt162 := hb.lt
    replace hl := hl0 _ hV
    refine r_know (i := 15) (v := .int .i64 ((j : Nat) - 1)) (by exact hj160) ?_
    refine r_know (i := 9) (v := vf2) (by exact hj161) ?_
    refine r_seq ?_
    refine r_seq ?_
    refine r_region ?_
    refine r_op rfl rfl rfl (run_mv (v := .int _ _) rfl (by exact rfl)) ?_
    refine r_op rfl rfl rfl (run_geq rfl (by exact rfl) (by exact rfl)) ?_
    refine r_op rfl rfl rfl (run_mv (v := .bool _) rfl (by exact rfl)) ?_
    refine r_g rfl (wantT (by exact rfl)) rfl (fun hg => run_mvb rfl (by exact rfl)) ?_
    refine r_op rfl rfl rfl (run_pick_and rfl (by exact rfl) (fun hq => glv (by exact rfl) (fun h => h) hq) rfl) ?_
    refine r_nil ?_
    refine r_cond (by exact rfl) (fun hc163 => ?_) (fun hc163 => ?_)
    ·skip
     refine r_skip ?_
     refine r_seq ?_
     refine r_block ?_
     have hk5 := text5 hopt (j - 1)
     have hV_q := hV
     refine h_region ([]) (by kernel_rfl) ?_
     intro w164 hE165 hC166
     have hs_w164 := (hE165).size
     replace hV := evo_step0 hV hE165
     replace hl := hl0 _ hV
     replace hof2 := hof2.evo0 hE165
     replace hro := hro.evo0 hE165
     replace hb := hb.evo0 hE165
     refine h_take (i := 0) (by exact rfl) rfl rfl rfl (by kernel_rfl) (fun w' hC => run_mv (v := vf2) rfl (by exact rfl)) hC166 ?_
     refine h_take (i := 1) (by exact rfl) rfl rfl rfl (by kernel_rfl) (fun w' hC => run_mv (v := .slice _ _ _) rfl (by exact rfl)) hC166 ?_
     refine h_take (i := 2) (by exact rfl) rfl rfl rfl (by kernel_rfl) (fun w' hC => run_mv (v := .int _ _) rfl (by exact rfl)) hC166 ?_
     refine h_take (i := 3) (by exact rfl) rfl rfl rfl (by kernel_rfl) (fun w' hC => run_ix ((j - 1)) rfl Tryz.underlying46 ty_45 (by exact rfl) (by exact rfl) (by omega) (by omega) (hro.addr (i := (j - 1)) (by omega))) hC166 ?_
     have hA167 := hro.atD ((j - 1)) (by omega)
     refine h_take (i := 4) (by exact rfl) rfl rfl rfl (by kernel_rfl) (fun w' hC => run_fa rfl (by exact rfl) fo_45_1) hC166 ?_
     refine h_take (i := 7) (by exact rfl) rfl rfl rfl (by kernel_rfl) (fun w' hC => run_mv (v := .slice _ _ _) rfl (by exact rfl)) hC166 ?_
     refine h_take (i := 8) (by exact rfl) rfl rfl rfl (by kernel_rfl) (fun w' hC => run_mv (v := .int _ _) rfl (by exact rfl)) hC166 ?_
     refine h_take (i := 9) (by exact rfl) rfl rfl rfl (by kernel_rfl) (fun w' hC => run_ix ((j - 1)) rfl Tryz.underlying46 ty_45 (by exact rfl) (by exact rfl) (by omega) (by omega) (hro.addr (i := (j - 1)) (by omega))) hC166 ?_
     have hA168 := hro.atD ((j - 1)) (by omega)
     refine h_take (i := 10) (by exact rfl) rfl rfl rfl (by kernel_rfl) (fun w' hC => run_fa rfl (by exact rfl) fo_45_2) hC166 ?_
     refine h_two (i := 5) (j := 11) (by kernel_rfl) ?_ ?_
     ·skip
      refine h_do (by exact rfl) ?_
      refine r_op rfl rfl rfl (run_ld1 rfl ag_9 (by exact rfl) (hA167.cell 1 (by exact rfl))) ?_
      refine h_next hC166 ?_
      refine h_two (i := 6) (j := 11) (by kernel_rfl) ?_ ?_
      ·skip
       refine h_do (by exact rfl) ?_
       refine r_opcall rfl rfl rfl (run_callf (vs := [S _]) rfl (by exact rfl) Tryz.func30 rfl (by kernel_rfl)) (rname_calls (by omega)) ?_
       rintro e w169 ⟨rfl, hE169⟩
       refine ⟨_, rfl, ?_⟩
       have hs_w169 := (hE169).size
       replace hV := evo_step0 hV hE169
       replace hC166 := evo_step0 hC166 hE169
       replace hl := hl0 _ hV
       replace hof2 := hof2.evo0 hE169
       replace hro := hro.evo0 hE169
       replace hb := hb.evo0 hE169
       replace hA168 := hA168.evo0 hE169
       refine h_next hC166 ?_
       refine h_one (i := 11) (by kernel_rfl) ?_
       refine h_do (by exact rfl) ?_
       refine r_op rfl rfl rfl (run_ld1 rfl ag_3 (by exact rfl) (hA168.cell 2 (by exact rfl))) ?_
       refine h_next hC166 ?_
       refine h_take (i := 12) (by exact rfl) rfl rfl rfl (by kernel_rfl) (fun w' hC => run_bld (pv := [(0, .int _ _), (1, S _), (2, .int _ _)]) (zs := [_, _, _]) (cells := [_, _, _]) rfl ty_45 (by exact rfl) pl_45 (by exact rfl) (by exact rfl)) hC166 ?_
       refine h_one (i := 13) (by kernel_rfl) ?_
       refine h_do (by exact rfl) ?_
       refine r_bslice (pv := [(0, .agg _)]) (zs := [_, _, _]) (cs := [_, _, _]) Tryz.underlying46 ty_45 (by exact rfl) rfl (by exact rfl) rfl (by exact rfl) ?_
       intro b170 w171 heb170 hEw171 hbb170 hzb170
       have hs_w171 := (hEw171).size
       replace hV := evo_step0 hV hEw171
       replace hC166 := evo_step0 hC166 hEw171
       replace hl := hl0 _ hV
       replace hof2 := hof2.evo0 hEw171
       replace hro := hro.evo0 hEw171
       replace hb := hb.evo0 hEw171
       have hAb170 := hbb170.at
       have hrb170 := rowLit (α := Vc.Item) [⟨_, _, _⟩] hbb170 (by show [_, _, _] = [_, _, _]; first | (dsimp only; done) | exact rfl | (dsimp only; exact rfl)) rfl
       refine h_next hC166 ?_
       refine h_one (i := 14) (by kernel_rfl) ?_
       refine h_do (by exact rfl) ?_
       refine r_appendE rfl Tryz.underlying46 ty_45 (by exact rfl) hof2 (by exact rfl) (by exact rfl) hrb170 rfl ((by first | omega | (simp; omega))) ((by first | omega | (simp; omega))) (by omega) ?_
       intro v172 w173 hEw173 hov172 hlv172
       have hs_w173 := (hEw173).size
       replace hV := evo_stepo hV hEw173 (fun g hg => .inl (by first | exact (hof2.block hg).1 | (have := hof2.block hg; omega)))
       replace hl := hl0 _ hV
       replace hro := row_keep hro hEw173 (fun hne hm => hsep2 hne _ (Option.mem_toList.1 hm) rfl)
       replace hb := hb.evo hEw173 (by intro hm; have hm2 := Option.mem_toList.1 hm; have := hof2.block hm2; omega)
       refine h_last (by kernel_rfl) ?_
       refine h_one (i := 15) (by kernel_rfl) ?_
       refine h_do (by exact rfl) ?_
       refine r_op rfl rfl rfl (run_asg (v := v172) rfl (by exact rfl)) ?_
       refine h_last (by kernel_rfl) ?_
       refine h_done (by kernel_rfl) ?_
       refine r_blk ?_
       refine r_region ?_
       refine r_op rfl rfl rfl (run_mv (v := .int _ _) rfl (by exact rfl)) ?_
       refine r_op rfl rfl rfl (run_sub rfl (by exact rfl) (by exact rfl) (by omega) (by omega)) ?_
       refine r_op rfl rfl rfl (run_asg (v := .int _ _) rfl (by exact rfl)) ?_
       refine r_nil ?_
       refine r_again (j - 1) ?_ ?_ ?_
       ·first | omega | (dsimp only; omega)
       ·refine ⟨_, _, (by first | exact rfl | exact congrArg (Value.int _) (by omega) | exact congrArg (Value.int _) (by dsimp only; omega) | exact congrArg (Value.int _) (by simp) | exact congrArg S (by simp)), rfl, hov172, hro, hb, hb.at, (hFI2.closeLast (by omega) (by omega) (by omega)), (hNS2.closeLast (by omega) (by omega) _), (by rw [List.length_append, sizeL_append, sizeL_one]; have h1 := nameL_len (op.getD (j - 1) default).text; have h2 := text5 hopt (j - 1); simp only [List.length_cons, List.length_nil]; omega), (fun hne g hg => hlv172.elim (fun h => hsep2 hne g (h.symm.trans hg)) (fun h => by have h7 := hgo hne; have h8 := Option.some.inj (h.symm.trans hg); omega)), (fun hne => by have h7 := hgo hne; omega), (by first | assumption | omega | (dsimp only; omega) | (simp; done)), hV⟩
       ·repeat (first | (with_reducible exact Agree.merge _ _ _) | (with_reducible exact Agree.refl _ _) | (with_reducible refine Agree.upd ?_ _ _ rfl) | ((with_reducible refine Agree.inner ?_ ?_); (kernel_rfl)))
      ·skip
       refine h_do (by exact rfl) ?_
       refine r_op rfl rfl rfl (run_ld1 rfl ag_3 (by exact rfl) (hA168.cell 2 (by exact rfl))) ?_
       refine h_next hC166 ?_
       refine h_one (i := 6) (by kernel_rfl) ?_
       refine h_do (by exact rfl) ?_
       refine r_opcall rfl rfl rfl (run_callf (vs := [S _]) rfl (by exact rfl) Tryz.func30 rfl (by kernel_rfl)) (rname_calls (by omega)) ?_
       rintro e w174 ⟨rfl, hE174⟩
       refine ⟨_, rfl, ?_⟩
       have hs_w174 := (hE174).size
       replace hV := evo_step0 hV hE174
       replace hC166 := evo_step0 hC166 hE174
       replace hl := hl0 _ hV
       replace hof2 := hof2.evo0 hE174
       replace hro := hro.evo0 hE174
       replace hb := hb.evo0 hE174
       refine h_next hC166 ?_
       refine h_take (i := 12) (by exact rfl) rfl rfl rfl (by kernel_rfl) (fun w' hC => run_bld (pv := [(0, .int _ _), (1, S _), (2, .int _ _)]) (zs := [_, _, _]) (cells := [_, _, _]) rfl ty_45 (by exact rfl) pl_45 (by exact rfl) (by exact rfl)) hC166 ?_
       refine h_one (i := 13) (by kernel_rfl) ?_
       refine h_do (by exact rfl) ?_
       refine r_bslice (pv := [(0, .agg _)]) (zs := [_, _, _]) (cs := [_, _, _]) Tryz.underlying46 ty_45 (by exact rfl) rfl (by exact rfl) rfl (by exact rfl) ?_
       intro b175 w176 heb175 hEw176 hbb175 hzb175
       have hs_w176 := (hEw176).size
       replace hV := evo_step0 hV hEw176
       replace hC166 := evo_step0 hC166 hEw176
       replace hl := hl0 _ hV
       replace hof2 := hof2.evo0 hEw176
       replace hro := hro.evo0 hEw176
       replace hb := hb.evo0 hEw176
       have hAb175 := hbb175.at
       have hrb175 := rowLit (α := Vc.Item) [⟨_, _, _⟩] hbb175 (by show [_, _, _] = [_, _, _]; first | (dsimp only; done) | exact rfl | (dsimp only; exact rfl)) rfl
       refine h_next hC166 ?_
       refine h_one (i := 14) (by kernel_rfl) ?_
       refine h_do (by exact rfl) ?_
       refine r_appendE rfl Tryz.underlying46 ty_45 (by exact rfl) hof2 (by exact rfl) (by exact rfl) hrb175 rfl ((by first | omega | (simp; omega))) ((by first | omega | (simp; omega))) (by omega) ?_
       intro v177 w178 hEw178 hov177 hlv177
       have hs_w178 := (hEw178).size
       replace hV := evo_stepo hV hEw178 (fun g hg => .inl (by first | exact (hof2.block hg).1 | (have := hof2.block hg; omega)))
       replace hl := hl0 _ hV
       replace hro := row_keep hro hEw178 (fun hne hm => hsep2 hne _ (Option.mem_toList.1 hm) rfl)
       replace hb := hb.evo hEw178 (by intro hm; have hm2 := Option.mem_toList.1 hm; have := hof2.block hm2; omega)
       refine h_last (by kernel_rfl) ?_
       refine h_one (i := 15) (by kernel_rfl) ?_
       refine h_do (by exact rfl) ?_
       refine r_op rfl rfl rfl (run_asg (v := v177) rfl (by exact rfl)) ?_
       refine h_last (by kernel_rfl) ?_
       refine h_done (by kernel_rfl) ?_
       refine r_blk ?_
       refine r_region ?_
       refine r_op rfl rfl rfl (run_mv (v := .int _ _) rfl (by exact rfl)) ?_
       refine r_op rfl rfl rfl (run_sub rfl (by exact rfl) (by exact rfl) (by omega) (by omega)) ?_
       refine r_op rfl rfl rfl (run_asg (v := .int _ _) rfl (by exact rfl)) ?_
       refine r_nil ?_
       refine r_again (j - 1) ?_ ?_ ?_
       ·first | omega | (dsimp only; omega)
       ·refine ⟨_, _, (by first | exact rfl | exact congrArg (Value.int _) (by omega) | exact congrArg (Value.int _) (by dsimp only; omega) | exact congrArg (Value.int _) (by simp) | exact congrArg S (by simp)), rfl, hov177, hro, hb, hb.at, (hFI2.closeLast (by omega) (by omega) (by omega)), (hNS2.closeLast (by omega) (by omega) _), (by rw [List.length_append, sizeL_append, sizeL_one]; have h1 := nameL_len (op.getD (j - 1) default).text; have h2 := text5 hopt (j - 1); simp only [List.length_cons, List.length_nil]; omega), (fun hne g hg => hlv177.elim (fun h => hsep2 hne g (h.symm.trans hg)) (fun h => by have h7 := hgo hne; have h8 := Option.some.inj (h.symm.trans hg); omega)), (fun hne => by have h7 := hgo hne; omega), (by first | assumption | omega | (dsimp only; omega) | (simp; done)), hV⟩
       ·repeat (first | (with_reducible exact Agree.merge _ _ _) | (with_reducible exact Agree.refl _ _) | (with_reducible refine Agree.upd ?_ _ _ rfl) | ((with_reducible refine Agree.inner ?_ ?_); (kernel_rfl)))
     ·skip
      refine h_do (by exact rfl) ?_
      refine r_op rfl rfl rfl (run_ld1 rfl ag_3 (by exact rfl) (hA168.cell 2 (by exact rfl))) ?_
      refine h_next hC166 ?_
      refine h_one (i := 5) (by kernel_rfl) ?_
      refine h_do (by exact rfl) ?_
      refine r_op rfl rfl rfl (run_ld1 rfl ag_9 (by exact rfl) (hA167.cell 1 (by exact rfl))) ?_
      refine h_next hC166 ?_
      refine h_one (i := 6) (by kernel_rfl) ?_
      refine h_do (by exact rfl) ?_
      refine r_opcall rfl rfl rfl (run_callf (vs := [S _]) rfl (by exact rfl) Tryz.func30 rfl (by kernel_rfl)) (rname_calls (by omega)) ?_
      rintro e w179 ⟨rfl, hE179⟩
      refine ⟨_, rfl, ?_⟩
      have hs_w179 := (hE179).size
      replace hV := evo_step0 hV hE179
      replace hC166 := evo_step0 hC166 hE179
      replace hl := hl0 _ hV
      replace hof2 := hof2.evo0 hE179
      replace hro := hro.evo0 hE179
      replace hb := hb.evo0 hE179
      refine h_next hC166 ?_
      refine h_take (i := 12) (by exact rfl) rfl rfl rfl (by kernel_rfl) (fun w' hC => run_bld (pv := [(0, .int _ _), (1, S _), (2, .int _ _)]) (zs := [_, _, _]) (cells := [_, _, _]) rfl ty_45 (by exact rfl) pl_45 (by exact rfl) (by exact rfl)) hC166 ?_
      refine h_one (i := 13) (by kernel_rfl) ?_
      refine h_do (by exact rfl) ?_
      refine r_bslice (pv := [(0, .agg _)]) (zs := [_, _, _]) (cs := [_, _, _]) Tryz.underlying46 ty_45 (by exact rfl) rfl (by exact rfl) rfl (by exact rfl) ?_
      intro b180 w181 heb180 hEw181 hbb180 hzb180
      have hs_w181 := (hEw181).size
      replace hV := evo_step0 hV hEw181
      replace hC166 := evo_step0 hC166 hEw181
      replace hl := hl0 _ hV
      replace hof2 := hof2.evo0 hEw181
      replace hro := hro.evo0 hEw181
      replace hb := hb.evo0 hEw181
      have hAb180 := hbb180.at
      have hrb180 := rowLit (α := Vc.Item) [⟨_, _, _⟩] hbb180 (by show [_, _, _] = [_, _, _]; first | (dsimp only; done) | exact rfl | (dsimp only; exact rfl)) rfl
      refine h_next hC166 ?_
      refine h_one (i := 14) (by kernel_rfl) ?_
      refine h_do (by exact rfl) ?_
      refine r_appendE rfl Tryz.underlying46 ty_45 (by exact rfl) hof2 (by exact rfl) (by exact rfl) hrb180 rfl ((by first | omega | (simp; omega))) ((by first | omega | (simp; omega))) (by omega) ?_
      intro v182 w183 hEw183 hov182 hlv182
      have hs_w183 := (hEw183).size
      replace hV := evo_stepo hV hEw183 (fun g hg => .inl (by first | exact (hof2.block hg).1 | (have := hof2.block hg; omega)))
      replace hl := hl0 _ hV
      replace hro := row_keep hro hEw183 (fun hne hm => hsep2 hne _ (Option.mem_toList.1 hm) rfl)
      replace hb := hb.evo hEw183 (by intro hm; have hm2 := Option.mem_toList.1 hm; have := hof2.block hm2; omega)
      refine h_last (by kernel_rfl) ?_
      refine h_one (i := 15) (by kernel_rfl) ?_
      refine h_do (by exact rfl) ?_
      refine r_op rfl rfl rfl (run_asg (v := v182) rfl (by exact rfl)) ?_
      refine h_last (by kernel_rfl) ?_
      refine h_done (by kernel_rfl) ?_
      refine r_blk ?_
      refine r_region ?_
      refine r_op rfl rfl rfl (run_mv (v := .int _ _) rfl (by exact rfl)) ?_
      refine r_op rfl rfl rfl (run_sub rfl (by exact rfl) (by exact rfl) (by omega) (by omega)) ?_
      refine r_op rfl rfl rfl (run_asg (v := .int _ _) rfl (by exact rfl)) ?_
      refine r_nil ?_
      refine r_again (j - 1) ?_ ?_ ?_
      ·first | omega | (dsimp only; omega)
      ·refine ⟨_, _, (by first | exact rfl | exact congrArg (Value.int _) (by omega) | exact congrArg (Value.int _) (by dsimp only; omega) | exact congrArg (Value.int _) (by simp) | exact congrArg S (by simp)), rfl, hov182, hro, hb, hb.at, (hFI2.closeLast (by omega) (by omega) (by omega)), (hNS2.closeLast (by omega) (by omega) _), (by rw [List.length_append, sizeL_append, sizeL_one]; have h1 := nameL_len (op.getD (j - 1) default).text; have h2 := text5 hopt (j - 1); simp only [List.length_cons, List.length_nil]; omega), (fun hne g hg => hlv182.elim (fun h => hsep2 hne g (h.symm.trans hg)) (fun h => by have h7 := hgo hne; have h8 := Option.some.inj (h.symm.trans hg); omega)), (fun hne => by have h7 := hgo hne; omega), (by first | assumption | omega | (dsimp only; omega) | (simp; done)), hV⟩
      ·repeat (first | (with_reducible exact Agree.merge _ _ _) | (with_reducible exact Agree.refl _ _) | (with_reducible refine Agree.upd ?_ _ _ rfl) | ((with_reducible refine Agree.inner ?_ ?_); (kernel_rfl)))
    ·skip
     refine r_exit rfl ?_
     refine r_seq ?_
     refine r_region ?_
     refine r_op rfl rfl rfl (run_mv (v := vf2) rfl (by exact rfl)) ?_
     refine r_op rfl rfl rfl (run_asg (v := vf2) rfl (by exact rfl)) ?_
     refine r_nil ?_
     refine r_ret (res1 (v := vf2) rfl (by exact rfl)) ?_
     exact ⟨_, _, N1, rfl, ⟨hFI2.val, by omega, by omega, hNS2.done hc163⟩, by omega, hV, hb, hof2⟩
end Go.Proofs.YthbcklajlmcifaaGreat
namespace Go.Vc
open Go Go.RowKit
section
variable {w w' : World} {base bt : Nat} {T E : TypeId} {s n m lo : Nat} {rb : Nat → Nat} {c : Nat → Nat → List Value} {X : List Nat}
end
def gP (q : Int × Nat × Nat) : List Value := [.int .i64 q.1]
def gS (q : Int × Nat × Nat) : List Value := [.int .i64 (q.2.1 : Nat), .int .i64 (q.2.2 : Nat)]
section
variable {w w' : World} {base bt : Nat} {T E : TypeId} {s n m lo : Nat} {rb : Nat → Nat} {a b : List Side} {i j : Nat} {g : Int × Nat × Nat → List Value} {X : List Nat} {o o' : Int × Nat × Nat}
end
end Go.Vc
namespace Go.Proofs
open Go.Shelf
def Tryz.lays189_ren : Go.Shelf.Ren := ⟨fun | 189 => 24 | 125 => 40 | 257 => 39 | 128 => 68 | 129 => 69 | 294 => 59 | 295 => 60 | 296 => 61 | 297 => 62 | 298 => 63 | 299 => 64 | 216 => 65 | 300 => 66 | 301 => 67 | 328 => 81 | 329 => 82 | 330 => 83 | 331 => 84 | 332 => 85 | 215 => 86 | 343 => 99 | n => n, fun | 28 => 22 | 3 => 3 | 46 => 94 | 0 => 0 | 51 => 119 | 53 => 121 | 4 => 4 | 183 => 111 | 182 => 110 | 131 => 116 | 5 => 5 | 9 => 9 | 218 => 128 | 222 => 132 | 228 => 142 | 229 => 143 | n => n, fun | n => n⟩
theorem Tryz.lays189 : Go.Proofs.Lays.n189 Tryz.prog Tryz.lays189_ren := {
  mixed := by kernel_rfl
  f125 := Tryz.func40.trans (congrArg some (by kernel_rfl))
  f128 := Tryz.func68.trans (congrArg some (by kernel_rfl))
  f129 := Tryz.func69.trans (congrArg some (by kernel_rfl))
  f189 := Tryz.func24.trans (congrArg some (by kernel_rfl))
  f215 := Tryz.func86.trans (congrArg some (by kernel_rfl))
  f216 := Tryz.func65.trans (congrArg some (by kernel_rfl))
  f257 := Tryz.func39.trans (congrArg some (by kernel_rfl))
  f294 := Tryz.func59.trans (congrArg some (by kernel_rfl))
  f295 := Tryz.func60.trans (congrArg some (by kernel_rfl))
  f296 := Tryz.func61.trans (congrArg some (by kernel_rfl))
  f297 := Tryz.func62.trans (congrArg some (by kernel_rfl))
  f298 := Tryz.func63.trans (congrArg some (by kernel_rfl))
  f299 := Tryz.func64.trans (congrArg some (by kernel_rfl))
  f300 := Tryz.func66.trans (congrArg some (by kernel_rfl))
  f301 := Tryz.func67.trans (congrArg some (by kernel_rfl))
  f328 := Tryz.func81.trans (congrArg some (by kernel_rfl))
  f329 := Tryz.func82.trans (congrArg some (by kernel_rfl))
  f330 := Tryz.func83.trans (congrArg some (by kernel_rfl))
  f331 := Tryz.func84.trans (congrArg some (by kernel_rfl))
  f332 := Tryz.func85.trans (congrArg some (by kernel_rfl))
  f343 := Tryz.func99.trans (congrArg some (by kernel_rfl))
  t0 := Tryz.underlying0
  a0 := Tryz.isAgg0
  z0 := Tryz.sizeOf0
  v0 := Tryz.zeroValue0
  t3 := Tryz.underlying3
  a3 := Tryz.isAgg3
  z3 := Tryz.sizeOf3
  v3 := Tryz.zeroValue3
  t4 := Tryz.underlying4
  a4 := Tryz.isAgg4
  z4 := Tryz.sizeOf4
  v4 := Tryz.zeroValue4
  t5 := Tryz.underlying5
  a5 := Tryz.isAgg5
  z5 := Tryz.sizeOf5
  v5 := Tryz.zeroValue5
  t9 := Tryz.underlying9
  a9 := Tryz.isAgg9
  z9 := Tryz.sizeOf9
  v9 := Tryz.zeroValue9
  t28 := Tryz.underlying22
  a28 := Tryz.isAgg22
  z28 := Tryz.sizeOf22
  v28 := Tryz.zeroValue22
  t46 := Tryz.underlying94
  a46 := Tryz.isAgg94
  z46 := Tryz.sizeOf94
  v46 := Tryz.zeroValue94
  t51 := Tryz.underlying119
  a51 := Tryz.isAgg119
  z51 := Tryz.sizeOf119
  v51 := Tryz.zeroValue119
  t53 := Tryz.underlying121
  a53 := Tryz.isAgg121
  z53 := Tryz.sizeOf121
  v53 := Tryz.zeroValue121
  t131 := Tryz.underlying116
  a131 := Tryz.isAgg116
  z131 := Tryz.sizeOf116
  v131 := Tryz.zeroValue116
  t182 := Tryz.underlying110
  a182 := Tryz.isAgg110
  z182 := Tryz.sizeOf110
  v182 := Tryz.zeroValue110
  t183 := Tryz.underlying111
  a183 := Tryz.isAgg111
  z183 := Tryz.sizeOf111
  v183 := Tryz.zeroValue111
  t218 := Tryz.underlying128
  a218 := Tryz.isAgg128
  z218 := Tryz.sizeOf128
  v218 := Tryz.zeroValue128
  t222 := Tryz.underlying132
  a222 := Tryz.isAgg132
  z222 := Tryz.sizeOf132
  v222 := Tryz.zeroValue132
  t228 := Tryz.underlying142
  a228 := Tryz.isAgg142
  z228 := Tryz.sizeOf142
  v228 := Tryz.zeroValue142
  t229 := Tryz.underlying143
  a229 := Tryz.isAgg143
  z229 := Tryz.sizeOf143
  v229 := Tryz.zeroValue143 }
open Go.Sort Go.RowKit in
theorem Tryz.slices_Sort_int (blk off cap : Nat) (zs : List Int) (w : World) (hH : Holds (Value.int .i64) w blk off zs.toArray) (hblk : blk < w.heap.size) (hsz : zs.length < 4611686018427387904) :
    Calls Tryz.prog 24 #[.slice (some ⟨blk, off, none⟩) zs.length cap] w fun e w' =>
      e = .returned (.tuple #[]) ∧ ∃ n os, w' = grow (putRow (Value.int .i64) (Sort.ahead w n) blk off (zs.mergeSort fun x y => decide (x ≤ y)).toArray) os := Any.slices_Sort_int Tryz.lays189 blk off cap zs w hH hblk hsz
open Go.RowKit Go.Sort in
theorem Tryz.slices_Sort_int_none (p : Option Addr) (cap : Nat) (w : World) :
    Calls Tryz.prog 24 #[.slice p 0 cap] w fun e w' => e = .returned (.tuple #[]) ∧ w' = w := Any.slices_Sort_int_none Tryz.lays189 p cap w
end Go.Proofs
namespace Go.Vc
open Go Go.RowKit Go.IntWalk
theorem rowLitRK {α : Type} [Rep α] {w : World} {b : Nat} {T : TypeId} {cs : List Value} {x : α} (E : List Nat) (h : Blk w b T cs) (hb : b ∉ E) (hr : ∀ w', Evo w w' E → Rep.rep w' cs x) : RowRK w E (some ⟨b, 0, none⟩) b 0 1 [x] := by
  refine ⟨[cs], fun w' he => ⟨⟨by simp, fun _ => rfl, fun i c hi => ?_⟩, RepL.one (hr w' he)⟩⟩
  cases i with
  | zero =>
    simp at hi; subst hi
    refine ⟨Rep.len (hr w' he), ?_⟩
    have := (h.evo he hb).at
    simpa using this
  | succ i => simp at hi
end Go.Vc
namespace Go.Vc
open Go Go.RowKit Go.IntWalk Go.Sort
section
variable {P : Program} {B : Exit → Act → World → Prop} {n : Nat} {k : List Kont} {f : Fr} {w : World} {ops : Array Oper} {rest : List Oper}
theorem r_boxD {T d : Nat} {t : TypeId} {pos : String} {aft : Array Edge} {x : Operand} {v : Value} {vs : List Value} (hx : opv f x = v) (hv : v.cells = vs.toArray) (hd : Nat.blt d n = true)
    (h : ∀ b w', b = w.heap.size → Evo w w' [] → Blk w' b T vs → w'.heap.size = b + 1 → w.drawn ≤ w'.drawn → KL P B n ops k rest (upd f d (.pointer (some ⟨b, 0, none⟩))) w') :
    KL P B n ops k (⟨some d, .box T x, t, pos, aft, none⟩ :: rest) f w := by
  refine r_op (v := .pointer (some ⟨w.heap.size, 0, none⟩)) (w' := w.alloc (.cells vs.toArray T)) rfl rfl hd ?_ (h _ _ rfl (Evo.alloc _ _ _) (heap_alloc_new w _) (by simp) (Nat.le_refl _))
  simp [execOp, hx, Instr.box, newVar, newRow, hv]
theorem h_regionD {id : Nat} {l : List Oper} (E : List Nat) (hm : P.follows .mixedOrders = true) (h : ∀ w1, Evo w w1 [] → Evo w w1 E → w.drawn ≤ w1.drawn → HA P B n k (fun w' => Evo w w' E) l.toArray l.toArray.size [] f w1) : KF P B n (.code (.region id l.toArray true) :: k) f w := by
  intro a ha
  show (Code.region id l.toArray true).wp P (Kx P B k) a w
  exact wp_region_noPanic (wp_region_any hm (any_of_F _ _ _ _ (h _ (Evo.drew _ _) (Evo.drew _ _) (Nat.le_succ _) a ha)))
theorem r_bsliceD {T E d len m bb : Nat} {t : TypeId} {pos : String} {aft : Array Edge} {ps : List (Nat × Operand)} {pv : List (Nat × Value)} {z : Value} {zs cs : List Value}
    (hu : P.underlying T = some (.slice E)) (ht : tyP P E = some (m, bb, some z)) (hz : z.cells = zs.toArray) (hd : Nat.blt d n = true) (hps : (ps.map fun p => (p.1, opv f p.2)) = pv) (hlen : (Nat.beq zs.length m && Nat.ble 1 m && Nat.ble (len * m) 10000) = true)
    (hf : fillL (fun i => some (i * m, m)) (List.replicate len zs).flatten pv = some cs)
    (h : ∀ b w', b = w.heap.size → Evo w w' [] → Blk w' b E cs → w'.heap.size = b + 1 → w.drawn ≤ w'.drawn → KL P B n ops k rest (upd f d (.slice (some ⟨b, 0, none⟩) len len)) w') :
    KL P B n ops k (⟨some d, .buildSlice T len ps.toArray, t, pos, aft, none⟩ :: rest) f w := by
  refine r_op (v := .slice (some ⟨w.heap.size, 0, none⟩) len len) (w' := w.alloc (.cells cs.toArray E)) rfl rfl hd ?_ (h _ _ rfl (Evo.alloc _ _ _) (heap_alloc_new w _) (by simp) (Nat.le_refl _))
  unfold execOp
  simp only []
  rw [map_parts, hps]
  simp only [Bool.and_eq_true, Nat.ble_eq] at hlen
  have hzl := Nat.eq_of_beq_eq_true hlen.1.1
  have h24 : ¬ (2 ^ 24 < len * m) := by have : (2:Nat) ^ 24 = 16777216 := by decide
                                        omega
  have hfill := fill_of _ _ _ hf
  rw [← zeros_cells hz hzl (by omega) len] at hfill
  by_cases h0 : len * m = 0
  · have hl0 : len = 0 := by
      rcases Nat.mul_eq_zero.1 h0 with h1 | h1
      · exact h1
      · omega
    subst hl0
    have e0 : ∀ g : Nat → Value, (Array.range 0).map g = #[] := fun g => Array.eq_empty_of_size_eq_zero (by simp)
    have hfill' : Instr.fill (fun i => some (i * m, m)) #[] pv = some cs.toArray := by
      rw [show 0 * m = 0 by omega, e0] at hfill
      exact hfill
    simp [Instr.buildSlice, run_underlying hu, run_sizeOf ht, newRow, e0, hfill']
  · simp [Instr.buildSlice, run_underlying hu, run_sizeOf ht, run_zero ht, h24, h0, newRow]
    rw [hfill]
    simp
end
theorem growD_of {w w' : World} (h : Evo w w' []) (hd : w.drawn ≤ w'.drawn) : ∃ q os', w' = grow (w.drewN q) os' := by
  obtain ⟨h1, h2, h3, h4, h5⟩ := h
  refine ⟨w'.drawn - w.drawn, w'.heap.extract w.heap.size w'.heap.size, ?_⟩
  have hh : w'.heap = w.heap ++ w'.heap.extract w.heap.size w'.heap.size := by
    apply Array.ext_getElem?
    intro i
    rcases Nat.lt_or_ge i w.heap.size with hi | hi
    · rw [Array.getElem?_append_left hi]; exact h5 i hi (by simp)
    · rw [Array.getElem?_append_right hi, Array.getElem?_extract]
      split
      · congr 1; omega
      · rw [Array.getElem?_eq_none (by omega)]
  cases w; cases w'
  simp only [grow, World.drewN] at *
  subst h1; subst h2; subst h3
  simp only [World.mk.injEq, true_and]
  refine ⟨hh, ?_, trivial⟩
  omega
theorem ownE_lit {α : Type} [Enc α] {w : World} {b base : Nat} {E : TypeId} {cs : List Value} (L : List α) (h : Blk w b E cs) (hc : cs = (L.map Enc.enc).flatten) (hb : base ≤ b) (hl : L.length ≤ 10000) : OwnE w base E (.slice (some ⟨b, 0, none⟩) L.length L.length) L := by
  subst hc
  have hall : ∀ cs ∈ L.map (Enc.enc : α → List Value), cs.length = Enc.n α := fun cs hcs => by
    obtain ⟨x, _, rfl⟩ := List.mem_map.1 hcs; exact Enc.len x
  have hfl := flatten_length _ _ hall
  refine ⟨⟨hfl, .inr ⟨b, L.length, _, by rw [List.length_map], hb, h, by simp, by unfold maxLen; omega, ?_, ?_⟩⟩, hall, by rw [List.length_map]; omega⟩
  · rw [List.length_map] at hfl; simpa using hfl
  · show List.take _ ((L.map Enc.enc).flatten.toArray).toList = _
    rw [← hfl]; exact List.take_length
theorem resC2 {P : Program} {n : Nat} {f : Fr} {w : World} {fn : Func} {s t : Nat} {T : TypeId} {b : Nat} {m bb : Nat} {z : Option Value} {cs : List Value} {u : Value} (h : fn.results = #[.cell s T, .tmp t]) (ha : aggP P T = some true) (ht : tyP P T = some (m, bb, z)) (hs : f s = .pointer (some ⟨b, 0, none⟩)) (hn : cs.length = m) (hc : At w b 0 cs) (hu : f t = u) :
    ∀ a, Is n f a → (results fn a.tmps).run P w = .ok (.tuple #[.agg cs.toArray, u]) w := fun a hi => by
  have h1 := run_loadN (P := P) (w := w) ha ht hn hc
  have h2 : (loadVar T ⟨b, 0, none⟩).run P w = .ok (.agg cs.toArray) w := by
    simpa [Instr.loadAt, Instr.sureAddr] using h1
  simp [results, h, hi.get, hs, hu, asAddr, h2]
end Go.Vc
namespace Go.Vc
open Go Go.RowKit Go.IntWalk Go.Sort Go.Proofs
section
variable {α : Type} [Enc α] [Inhabited α] {w : World} {base : Nat} {E : TypeId} {v : Value} {l : List α}
theorem flatK_list (l : List α) : (flatK (Enc.enc : α → List Value) (Enc.n α) l.toArray).toList = (l.map Enc.enc).flatten := by
  have hall : ∀ cs ∈ l.map (Enc.enc : α → List Value), cs.length = Enc.n α := fun cs hcs => by
    obtain ⟨x, _, rfl⟩ := List.mem_map.1 hcs; exact Enc.len x
  have hp := Enc.pos (α := α)
  have hfl := flatten_length _ _ hall
  rw [List.length_map] at hfl
  apply List.ext_getElem?
  intro t
  rcases Nat.lt_or_ge t (l.length * Enc.n α) with ht | ht
  · have hi : t / Enc.n α < l.length := (Nat.div_lt_iff_lt_mul hp).2 ht
    have hj : t % Enc.n α < Enc.n α := Nat.mod_lt _ hp
    have h1 := flatten_at (l.map Enc.enc) (Enc.n α) (t / Enc.n α) (t % Enc.n α) (Enc.enc l[t / Enc.n α]) hall (by simp [hi]) hj
    have e : t / Enc.n α * Enc.n α + t % Enc.n α = t := by rw [Nat.mul_comm]; exact Nat.div_add_mod _ _
    rw [e] at h1
    rw [h1, Array.getElem?_toList]
    have hlen : (Enc.enc l[t / Enc.n α]).length = Enc.n α := Enc.len _
    simp [flatK, ht, hi, getElem!_pos, hlen, hj]
  · rw [List.getElem?_eq_none (by simpa using ht), List.getElem?_eq_none (by rw [hfl]; exact ht)]
theorem holdsK_of {g cur : _} (hb : w.heap[g]? = some (.cells cur E (0, 0))) (ht : cur.toList.take (l.length * Enc.n α) = (l.map Enc.enc).flatten) : HoldsK (Enc.enc : α → List Value) (Enc.n α) w g 0 l.toArray := by
  intro j hj
  have hj' : j < l.length * Enc.n α := by simpa using hj
  refine ⟨?_, by simp [World.frozen?, hb]⟩
  have h1 : (cur.toList.take (l.length * Enc.n α))[j]? = (flatK (Enc.enc : α → List Value) (Enc.n α) l.toArray).toList[j]? := by rw [ht, flatK_list]
  rw [List.getElem?_take_of_lt hj'] at h1
  simp only [World.cell?, hb, Nat.zero_add]
  simp only [Option.isSome_none, Bool.false_eq_true, if_false]
  rw [← Array.getElem?_toList, h1, Array.getElem?_toList]
  simp [hj']
theorem heap_sortedK {g n : Nat} {os : Array Obj} {cur : Array Value} (d : Array α) (hb : w.heap[g]? = some (.cells cur E (0, 0))) :
    (sortWorldK (Enc.enc : α → List Value) (Enc.n α) w g 0 n d os).heap[g]? = some (.cells (putCells id 0 (flatK Enc.enc (Enc.n α) d) cur) E (0, 0)) := by
  have hg : g < w.heap.size := (Array.getElem?_eq_some_iff.1 hb).1
  unfold sortWorldK putRowK
  rw [heap_grow_old _ _ (by simpa [putRow, mapBlock, Sort.ahead] using hg)]
  simp [putRow, mapBlock, Sort.ahead, Array.getElem?_modify, hb, onCells]
theorem evo_sortedK {g n : Nat} {os : Array Obj} (d : Array α) : Evo w (sortWorldK (Enc.enc : α → List Value) (Enc.n α) w g 0 n d os) [g] := by
  unfold sortWorldK putRowK
  refine ⟨rfl, rfl, rfl, by simp [putRow, mapBlock, Sort.ahead], fun k hk hne => ?_⟩
  rw [heap_grow_old _ _ (by simpa [putRow, mapBlock, Sort.ahead] using hk)]
  have : g ≠ k := fun e => hne (by simp [e])
  simp [putRow, mapBlock, Sort.ahead, Array.getElem?_modify, this]
theorem take_putK (cur : Array Value) (F : Array Value) (h : F.size ≤ cur.size) : (putCells id 0 F cur).toList.take F.size = F.toList := by
  apply List.ext_getElem?
  intro j
  by_cases hj : j < F.size
  · rw [List.getElem?_take_of_lt hj, Array.getElem?_toList]
    simp [putCells, hj, show j < cur.size by omega]
  · rw [List.getElem?_take_eq_none (by omega), List.getElem?_eq_none (by simp; omega)]
theorem own_sortedK {g n cap : Nat} {os : Array Obj} {cur : Array Value} {l' : List α} (hl : l'.length = l.length) (hb : base ≤ g) (hg : w.heap[g]? = some (.cells cur E (0, 0))) (h1 : l.length ≤ cap) (h2 : cap ≤ maxLen) (h3 : cur.size = cap * Enc.n α) (hbd : l.length ≤ 140737488355328) :
    OwnE (sortWorldK (Enc.enc : α → List Value) (Enc.n α) w g 0 n l'.toArray os) base E (.slice (some ⟨g, 0, none⟩) l.length cap) l' := by
  have hall : ∀ cs ∈ l'.map (Enc.enc : α → List Value), cs.length = Enc.n α := fun cs hcs => by
    obtain ⟨x, _, rfl⟩ := List.mem_map.1 hcs; exact Enc.len x
  have hle : l.length * Enc.n α ≤ cap * Enc.n α := Nat.mul_le_mul_right _ h1
  refine ⟨⟨?_, .inr ⟨g, cap, _, by rw [List.length_map, hl], hb, heap_sortedK _ hg, by rw [List.length_map, hl]; exact h1, h2, by simp [putCells, h3], ?_⟩⟩, hall, by rw [List.length_map, hl]; exact hbd⟩
  · rw [flatten_length _ _ hall]
  · rw [List.length_map, hl, ← flatK_list]
    have hs : (flatK (Enc.enc : α → List Value) (Enc.n α) l'.toArray).size = l.length * Enc.n α := by simp [hl]
    rw [← hs]
    exact take_putK cur _ (by rw [hs, h3]; exact hle)
theorem sortf_of {P : Program} {fn g : FuncId} {cb : Array Value} {R : List α → List α → Prop} (hs : ∀ l l', R l l' → l'.length = l.length) (hs0 : R [] [])
    (c : ∀ (blk off cap : Nat) (d : Array α) (w : World), HoldsK (Enc.enc : α → List Value) (Enc.n α) w blk off d → blk < w.heap.size → d.size < 4611686018427387904 →
      Calls P fn #[.slice (some ⟨blk, off, none⟩) d.size cap, .func (.func g) #[] cb] w fun e w' => e = .returned (.tuple #[]) ∧ ∃ (d' : Array α) (n : Nat) (os : Array Obj), R d.toList d'.toList ∧ w' = sortWorldK (Enc.enc : α → List Value) (Enc.n α) w blk off n d' os)
    (c0 : ∀ w : World, Calls P fn #[.slice none 0 0, .func (.func g) #[] cb] w fun e w' => e = .returned (.tuple #[]) ∧ w' = w)
    (h : OwnE w base E v l) : Calls P fn #[v, .func (.func g) #[] cb] w fun e w' => e = .returned (.tuple #[]) ∧ Evo w w' v.ownBlock.toList ∧ ∃ l', R l l' ∧ OwnE w' base E v l' := by
  have h0 : Own w base E (Enc.n α) v (l.map Enc.enc) := h
  rcases h0.row.2 with ⟨hv, hl⟩ | ⟨g2, cap, cur, hv, hb, hg, h2, h3, h4, h5⟩
  · have hln : l = [] := List.eq_nil_of_length_eq_zero (by simpa using hl)
    subst hln; subst hv
    refine (c0 w).mono ?_
    rintro e w' ⟨rfl, rfl⟩
    exact ⟨rfl, Evo.refl _ _, [], hs0, h⟩
  · rw [List.length_map] at hv h2 h5
    have hbd := h.bd
    subst hv
    refine (c g2 0 cap l.toArray w (holdsK_of hg h5) (Array.getElem?_eq_some_iff.1 hg).1 (by simp; omega)).mono ?_
    rintro e w' ⟨rfl, d', n, os, hR, rfl⟩
    exact ⟨rfl, evo_sortedK _, d'.toList, hR, own_sortedK (l' := d'.toList) (hs _ _ hR) hb hg h2 h3 h4 hbd⟩
end
def SortR {α : Type} (lt : α → α → Bool) (l l' : List α) : Prop := l'.Perm l ∧ l'.Pairwise (fun x y => lt y x = false)
theorem sortR_of {α : Type} [Inhabited α] {lt : α → α → Bool} {d d' : Array α} (hp : PermIn 0 d.size d d') (hs : SortedIn lt 0 d.size d') : SortR lt d.toList d'.toList := by
  obtain ⟨h1, _, h2⟩ := hp
  refine ⟨?_, List.pairwise_iff_getElem.2 fun i j hi hj hij => ?_⟩
  · have e : d'.extract 0 d.size = d' := by rw [← h1]; simp
    rw [e] at h2; simpa using h2
  · have := hs i j (Nat.zero_le _) hij (by rw [← h1]; simpa using hj)
    simp at hi hj
    rwa [getElem!_pos d' j hj, getElem!_pos d' i hi] at this
end Go.Vc
namespace Go.Vc
open Go Go.RowKit Go.IntWalk Go.Proofs
section
variable {P : Program} {f : Fr} {w : World} {o : Oper}
theorem run_sgtrD {t t2 : TypeId} {x y : Operand} {a b : List UInt8} (ho : o.op = .binOp .gtr t x y t2) (hx : opv f x = S a) (hy : opv f y = S b) :
    (execOp (opv f) o).run P w = .ok (.value (.bool (decide (¬ (blt a b || a == b) = true)))) w := run_binS ho hx hy (by
  simp only [Op.stringOp, toList_S, blt, Sem.run_pure]
  congr 2
  rw [Bool.eq_iff_iff]; simp)
end
def cmpS (a b : Str) : Int := if a < b then -1 else if b < a then 1 else 0
def orI (a b : Int) : Int := if ¬ a = 0 then a else b
def cmpG (x y : Gram) : Int := orI (cmpS x.fst y.fst) (cmpS x.snd y.snd)
theorem slt_irrefl (a : Str) : ¬ a < a := List.lt_irrefl a
theorem slt_trans {a b c : Str} (h : a < b) (h2 : b < c) : a < c := List.lt_trans h h2
theorem slt_tri {a b : Str} (h : ¬ a < b) (h2 : ¬ b < a) : a = b := List.le_antisymm (List.not_lt.1 h2) (List.not_lt.1 h)
def ltP (x y : Str × Str) : Prop := x.1 < y.1 ∨ (x.1 = y.1 ∧ x.2 < y.2)
instance (x y : Str × Str) : Decidable (ltP x y) := by unfold ltP; infer_instance
def prG (x : Gram) : Str × Str := (x.fst, x.snd)
theorem ltP_irrefl (x : Str × Str) : ¬ ltP x x := fun h => by rcases h with h | h; exact slt_irrefl _ h; exact slt_irrefl _ h.2
theorem ltP_trans {x y z : Str × Str} (h : ltP x y) (h2 : ltP y z) : ltP x z := by
  rcases h with h | ⟨h, h'⟩ <;> rcases h2 with h2 | ⟨h2, h2'⟩
  · exact .inl (slt_trans h h2)
  · exact .inl (h2 ▸ h)
  · exact .inl (h ▸ h2)
  · exact .inr ⟨h.trans h2, slt_trans h' h2'⟩
theorem ltP_tri {x y : Str × Str} (h : ¬ ltP x y) (h2 : ¬ ltP y x) : x = y := by
  have e1 : x.1 = y.1 := slt_tri (fun q => h (.inl q)) (fun q => h2 (.inl q))
  have e2 : x.2 = y.2 := slt_tri (fun q => h (.inr ⟨e1, q⟩)) (fun q => h2 (.inr ⟨e1.symm, q⟩))
  exact Prod.ext e1 e2
theorem cmpS_neg {a b : Str} : cmpS a b < 0 ↔ a < b := by
  unfold cmpS
  by_cases h : a < b
  · simp [h]
  · by_cases h2 : b < a <;> simp [h, h2]
theorem cmpS_zero {a b : Str} : cmpS a b = 0 ↔ a = b := by
  unfold cmpS
  by_cases h : a < b
  · simp [h]; intro e; exact slt_irrefl _ (e ▸ h)
  · by_cases h2 : b < a
    · simp [h, h2]; intro e; exact slt_irrefl _ (e ▸ h2)
    · simp [h, h2]; exact slt_tri h h2
theorem cmpG_neg {x y : Gram} : cmpG x y < 0 ↔ ltP (prG x) (prG y) := by
  unfold cmpG orI ltP prG
  by_cases h : cmpS x.fst y.fst = 0
  · rw [if_neg (by simpa using h), cmpS_neg]
    have e := cmpS_zero.1 h
    constructor
    · exact fun h2 => .inr ⟨e, h2⟩
    · rintro (h2 | h2)
      · exact absurd (e ▸ h2) (slt_irrefl _)
      · exact h2.2
  · rw [if_pos h, cmpS_neg]
    constructor
    · exact fun h2 => .inl h2
    · rintro (h2 | h2)
      · exact h2
      · exact absurd (cmpS_zero.2 h2.1) h
theorem ltOf_G (x y : Gram) : ltOf cmpG x y = decide (ltP (prG x) (prG y)) := by unfold ltOf; exact decide_eq_decide.2 cmpG_neg
theorem swo_G : Go.Sort.SWO (ltOf cmpG) where
  irrefl x := by rw [ltOf_G]; simpa using ltP_irrefl _
  trans x y z h1 h2 := by rw [ltOf_G] at *; simp only [decide_eq_true_eq] at *; exact ltP_trans h1 h2
  ntrans x y z h1 h2 := by
    rw [ltOf_G] at *
    simp only [decide_eq_false_iff_not] at *
    intro h3
    by_cases h4 : ltP (prG y) (prG x)
    · exact h2 (ltP_trans h4 h3)
    · have e := ltP_tri h1 h4
      rw [e] at h3; exact h2 h3
end Go.Vc
namespace Go.Proofs.YthbcklajlmcifaaGreat
open Go.RowKit Go.Vc
theorem fo_74_0 : fieldP Tryz.prog 74 0 = some 0 := by kernel_rfl
theorem fo_74_1 : fieldP Tryz.prog 74 1 = some 1 := by kernel_rfl
theorem cmpS_gt {s t : Str} (h : ¬ blt s t = true) (h2 : ¬ (blt s t || s == t) = true) : cmpS s t = 1 := by
  have h1 : ¬ s < t := fun q => h ((slt_iff _ _).2 q)
  have h3 : ¬ s = t := fun q => h2 (by simp [q])
  unfold cmpS
  rw [if_neg h1]
  by_cases h4 : t < s
  · rw [if_pos h4]
  · exact absurd (slt_tri h1 h4) h3
theorem or_at {p q : Int} {k : Nat} (hk : k < 2) (hno : ∀ j, j < k → ([p, q] : List Int).getD j default = 0) (hc : ¬ ([p, q] : List Int).getD k default = 0) : ([p, q] : List Int).getD k default = orI p q := by
  unfold orI
  match k, hk with
  | 0, _ => exact (if_pos hc).symm
  | 1, _ => have h0 : p = 0 := hno 0 (by omega)
            rw [if_neg (by simpa using h0)]; rfl
theorem or_none {p q : Int} (hno : ∀ j, j < 2 → ([p, q] : List Int).getD j default = 0) : (0 : Int) = orI p q := by
  have h0 : p = 0 := hno 0 (by omega)
  have h1 : q = 0 := hno 1 (by omega)
  unfold orI; rw [if_neg (by simpa using h0), h1]
theorem cmpS_eq {s t : Str} (h : ¬ blt s t = true) (h2 : ¬ ¬ (blt s t || s == t) = true) : cmpS s t = 0 := by
  have h3 : s = t := by
    simpa [h] using h2
  exact cmpS_zero.2 h3
theorem isnan_calls {s : Str} {w0 : World}  :
    Calls Tryz.prog 79 #[S s] w0 fun e w' => e = .returned (.bool false) ∧ w0 = w' := by
 refine calls_enter (n := 6) (args := [S s]) Tryz.func79 rfl Tryz.ntmps79 rfl ?_
 have hV : Evo w0 w0 [] := Evo.refl _ _
 refine r_seq ?_
 refine r_region ?_
 refine r_op rfl rfl rfl (run_asg (v := .bool _) rfl (by exact rfl)) ?_
 refine r_nil ?_
 refine r_seq ?_
 refine r_region ?_
 refine r_op rfl rfl rfl (run_mv (v := S _) rfl (by exact rfl)) ?_
 refine r_op rfl rfl rfl (run_mv (v := S _) rfl (by exact rfl)) ?_
 refine r_op rfl rfl rfl (run_sneq rfl (by exact rfl) (by exact rfl)) ?_
 refine r_op rfl rfl rfl (run_asg (v := .bool _) rfl (by exact rfl)) ?_
 refine r_nil ?_
 refine r_ret (res1 (v := .bool _) rfl (by exact rfl)) ?_
 exact ⟨ret_bool (by simp), rfl⟩
theorem cmps_calls {s t : Str} {w0 : World}  :
    Calls Tryz.prog 56 #[S s, S t] w0 fun e w' => e = .returned (.int .i64 (cmpS s t)) ∧ w0 = w' := by
 refine calls_enter (n := 20) (args := [S s, S t]) Tryz.func56 rfl Tryz.ntmps56 rfl ?_
 have hV : Evo w0 w0 [] := Evo.refl _ _
 refine r_seq ?_
 refine r_region ?_
 refine r_op rfl rfl rfl (run_asg (v := .int _ _) rfl (by exact rfl)) ?_
 refine r_nil ?_
 refine r_seq ?_
 refine r_region ?_
 refine r_op rfl rfl rfl (run_mv (v := S _) rfl (by exact rfl)) ?_
 refine r_opcall rfl rfl rfl (run_callf (vs := [S _]) rfl (by exact rfl) Tryz.func79 rfl (by kernel_rfl)) isnan_calls ?_
 rintro e w1 ⟨rfl, rfl⟩
 refine ⟨_, rfl, ?_⟩
 refine r_op rfl rfl rfl (run_asg (v := .bool _) rfl (by exact rfl)) ?_
 refine r_nil ?_
 refine r_seq ?_
 refine r_region ?_
 refine r_op rfl rfl rfl (run_mv (v := S _) rfl (by exact rfl)) ?_
 refine r_opcall rfl rfl rfl (run_callf (vs := [S _]) rfl (by exact rfl) Tryz.func79 rfl (by kernel_rfl)) isnan_calls ?_
 rintro e w2 ⟨rfl, rfl⟩
 refine ⟨_, rfl, ?_⟩
 refine r_op rfl rfl rfl (run_asg (v := .bool _) rfl (by exact rfl)) ?_
 refine r_nil ?_
 refine r_seq ?_
 refine r_seq ?_
 refine r_region ?_
 refine r_op rfl rfl rfl (run_mv (v := .bool _) rfl (by exact rfl)) ?_
 refine r_nil ?_
 refine r_cond_no (by exact rfl) ?_
 refine r_skip ?_
 refine r_seq ?_
 refine r_seq ?_
 refine r_region ?_
 refine r_op rfl rfl rfl (run_mv (v := .bool _) rfl (by exact rfl)) ?_
 refine r_nil ?_
 refine r_cond_no (by exact rfl) ?_
 refine r_skip ?_
 refine r_seq ?_
 refine r_seq ?_
 refine r_region ?_
 refine r_op rfl rfl rfl (run_mv (v := S _) rfl (by exact rfl)) ?_
 refine r_op rfl rfl rfl (run_mv (v := S _) rfl (by exact rfl)) ?_
 refine r_op rfl rfl rfl (run_slssD rfl (by exact rfl) (by exact rfl)) ?_
 refine r_nil ?_
 refine r_cond (by exact rfl) (fun hc3 => ?_) (fun hc3 => ?_)
 ·skip
  refine r_seq ?_
  refine r_region ?_
  refine r_op rfl rfl rfl (run_asg (v := .int _ _) rfl (by exact rfl)) ?_
  refine r_nil ?_
  refine r_ret (res1 (v := .int _ _) rfl (by exact rfl)) ?_
  exact ⟨ret_int (by unfold cmpS; rw [if_pos ((slt_iff _ _).1 hc3)]), rfl⟩
 ·skip
  refine r_skip ?_
  refine r_seq ?_
  refine r_seq ?_
  have hc1 := hc3
  refine r_region ?_
  refine r_op rfl rfl rfl (run_mv (v := S _) rfl (by exact rfl)) ?_
  refine r_op rfl rfl rfl (run_mv (v := S _) rfl (by exact rfl)) ?_
  refine r_op rfl rfl rfl (run_sgtrD rfl (by exact rfl) (by exact rfl)) ?_
  refine r_nil ?_
  refine r_cond (by exact rfl) (fun hc4 => ?_) (fun hc4 => ?_)
  ·skip
   refine r_seq ?_
   refine r_region ?_
   refine r_op rfl rfl rfl (run_asg (v := .int _ _) rfl (by exact rfl)) ?_
   refine r_nil ?_
   refine r_ret (res1 (v := .int _ _) rfl (by exact rfl)) ?_
   exact ⟨ret_int (cmpS_gt hc1 hc4).symm, rfl⟩
  ·skip
   refine r_skip ?_
   refine r_seq ?_
   refine r_region ?_
   refine r_op rfl rfl rfl (run_asg (v := .int _ _) rfl (by exact rfl)) ?_
   refine r_nil ?_
   refine r_ret (res1 (v := .int _ _) rfl (by exact rfl)) ?_
   exact ⟨ret_int (cmpS_eq hc1 hc4).symm, rfl⟩
theorem or_calls {ao : Option Addr} {b off cap : Nat} {p q : Int} {w0 : World} (hl : RowE w0 ao b off cap ([p, q] : List Int)) :
    Calls Tryz.prog 55 #[.slice ao ([p, q] : List Int).length cap] w0 fun e w' => e = .returned (.int .i64 (orI p q)) ∧ w0 = w' := by
 refine calls_enter (n := 18) (args := [.slice ao ([p, q] : List Int).length cap]) Tryz.func55 rfl Tryz.ntmps55 rfl ?_
 have hV : Evo w0 w0 [] := Evo.refl _ _
 have hbd_hl := hl.bd
 refine r_seq ?_
 refine r_region ?_
 refine r_op rfl rfl rfl (run_asg (v := .int _ _) rfl (by exact rfl)) ?_
 refine r_nil ?_
 refine r_seq ?_
 refine r_region ?_
 refine r_op rfl rfl rfl (run_asg (v := .int _ _) rfl (by exact rfl)) ?_
 refine r_nil ?_
 refine r_seq ?_
 refine r_seq ?_
 refine r_region ?_
 refine r_op rfl rfl rfl (run_mv (v := .slice _ _ _) rfl (by exact rfl)) ?_
 refine r_op rfl rfl rfl (run_lenSl rfl (by exact rfl) Tryz.underlying22) ?_
 refine r_op rfl rfl rfl (run_mv (v := .int _ _) rfl (by exact rfl)) ?_
 refine r_nil ?_
 refine r_block ?_
 refine r_loop (α := Nat) [2, 5, 8, 9, 10, 11, 12, 13, 14, 15, 16] (fun k g w => g 8 = .int .i64 (k : Nat) ∧ k ≤ ([p, q] : List Int).length ∧ w = w0 ∧ (∀ j, j < k → ([p, q] : List Int).getD j default = 0) ∧ w0.heap.size ≤ w.heap.size ∧ Evo w0 w []) (fun k => ([p, q] : List Int).length - k) 0 ?_ ?_
 ·refine ⟨(by first | exact rfl | exact congrArg (Value.int _) (by omega) | exact congrArg (Value.int _) (by dsimp only; omega) | exact congrArg (Value.int _) (by simp) | exact congrArg S (by simp)), (by first | assumption | omega | (dsimp only; omega) | (simp; done)), rfl, (fun j h => by omega), (by first | assumption | omega | (dsimp only; omega) | (simp; done)), hV⟩
 ·rintro k g w2 ⟨hj3, hk_k, hw, hno, hzl1, hV⟩
  have hs_w2hV := hV.size
  refine r_know (i := 8) (v := .int .i64 (k : Nat)) (by exact hj3) ?_
  replace hw := hw.symm; subst hw
  refine r_seq ?_
  refine r_region ?_
  refine r_op rfl rfl rfl (run_lss rfl (by exact rfl) (by exact rfl)) ?_
  refine r_nil ?_
  refine r_seq ?_
  refine r_cond (by exact rfl) (fun hc4 => ?_) (fun hc4 => ?_)
  ·skip
   refine r_skip ?_
   refine r_seq ?_
   refine r_block ?_
   refine r_seq ?_
   refine r_region ?_
   refine r_op rfl rfl rfl (run_ix (k) rfl Tryz.underlying22 ty_3 (by exact rfl) (by exact rfl) (by first | exact rfl | omega) (by omega) (hl.addr (i := k) (by omega))) ?_
   have hA5 := hl.atD (k) (by omega)
   refine r_op rfl rfl rfl (run_ld1 rfl ag_3 (by exact rfl) (hA5.cell 0 (by exact rfl))) ?_
   refine r_op rfl rfl rfl (run_asg (v := .int _ _) rfl (by exact rfl)) ?_
   refine r_nil ?_
   refine r_seq ?_
   refine r_region ?_
   refine r_op rfl rfl rfl (run_mv (v := .int _ _) rfl (by exact rfl)) ?_
   refine r_op rfl rfl rfl (run_mv (v := .int _ _) rfl (by exact rfl)) ?_
   refine r_op rfl rfl rfl (run_neq rfl (by exact rfl) (by exact rfl)) ?_
   refine r_nil ?_
   refine r_cond (by exact rfl) (fun hc6 => ?_) (fun hc6 => ?_)
   ·skip
    refine r_seq ?_
    refine r_region ?_
    refine r_op rfl rfl rfl (run_mv (v := .int _ _) rfl (by exact rfl)) ?_
    refine r_op rfl rfl rfl (run_asg (v := .int _ _) rfl (by exact rfl)) ?_
    refine r_nil ?_
    refine r_ret (res1 (v := .int _ _) rfl (by exact rfl)) ?_
    exact ⟨ret_int (or_at (by simp at hc4; omega) hno (by simpa using hc6)), rfl⟩
   ·skip
    refine r_skip ?_
    refine r_blk ?_
    refine r_region ?_
    refine r_op rfl rfl rfl (run_add rfl (by exact rfl) (by exact rfl) (by omega) (by omega)) ?_
    refine r_op rfl rfl rfl (run_mv (v := .int _ _) rfl (by exact rfl)) ?_
    refine r_nil ?_
    refine r_again (k + 1) ?_ ?_ ?_
    ·first | omega | (dsimp only; omega)
    ·refine ⟨(by first | exact rfl | exact congrArg (Value.int _) (by omega) | exact congrArg (Value.int _) (by dsimp only; omega) | exact congrArg (Value.int _) (by simp) | exact congrArg S (by simp)), (by first | assumption | omega | (dsimp only; omega) | (simp; done)), rfl, (upto0 hno (by simpa using hc6)), (by first | assumption | omega | (dsimp only; omega) | (simp; done)), hV⟩
    ·repeat (first | (with_reducible exact Agree.merge _ _ _) | (with_reducible exact Agree.refl _ _) | (with_reducible refine Agree.upd ?_ _ _ rfl) | ((with_reducible refine Agree.inner ?_ ?_); (kernel_rfl)))
  ·skip
   refine r_exit rfl ?_
   refine r_seq ?_
   refine r_region ?_
   refine r_op rfl rfl rfl (run_mv (v := .int _ _) rfl (by exact rfl)) ?_
   refine r_op rfl rfl rfl (run_asg (v := .int _ _) rfl (by exact rfl)) ?_
   refine r_nil ?_
   refine r_ret (res1 (v := .int _ _) rfl (by exact rfl)) ?_
   exact ⟨ret_int (or_none (fun j hj => hno j (by simp at hc4; omega))), rfl⟩
theorem cmpg_calls {x y : Gram} {w0 : World}  :
    Calls Tryz.prog 54 #[(.agg (Enc.enc x).toArray), (.agg (Enc.enc y).toArray)] w0 fun e w' => e = .returned (.int .i64 (cmpG x y)) ∧ Evo w0 w' [] ∧ w0.drawn ≤ w'.drawn := by
 refine calls_enter (n := 17) (args := [(.agg (Enc.enc x).toArray), (.agg (Enc.enc y).toArray)]) Tryz.func54 rfl Tryz.ntmps54 rfl ?_
 have hV : Evo w0 w0 [] := Evo.refl _ _
 refine r_seq ?_
 refine r_region ?_
 refine r_boxD (vs := [_, _, _]) (by exact rfl) (by exact rfl) rfl ?_
 intro b1 w2 heb1 hEw2 hbb1 hzb1 hdr_0
 have hs_w2 := (hEw2).size
 replace hV := evo_step0 hV hEw2
 have hAb1 := hbb1.at
 refine r_boxD (vs := [_, _, _]) (by exact rfl) (by exact rfl) rfl ?_
 intro b3 w4 heb3 hEw4 hbb3 hzb3 hdr_1
 have hs_w4 := (hEw4).size
 replace hV := evo_step0 hV hEw4
 replace hbb1 := hbb1.evo0 hEw4
 replace hAb1 := hAb1.evo0 hEw4
 have hAb3 := hbb3.at
 refine r_op rfl rfl rfl (run_asg (v := .int _ _) rfl (by exact rfl)) ?_
 refine r_nil ?_
 refine r_seq ?_
 have hbb1_q := hbb1
 have hAb1_q := hAb1
 have hbb3_q := hbb3
 have hAb3_q := hAb3
 have hV_q := hV
 refine h_regionD ([]) (by kernel_rfl) ?_
 intro w5 hE6 hCst1 hdr_2
 have hs_w5 := (hE6).size
 replace hV := evo_step0 hV hE6
 replace hbb1 := hbb1.evo0 hE6
 replace hAb1 := hAb1.evo0 hE6
 replace hbb3 := hbb3.evo0 hE6
 replace hAb3 := hAb3.evo0 hE6
 refine h_take (i := 0) (by exact rfl) rfl rfl rfl (by kernel_rfl) (fun w' hC => run_fa rfl (by exact rfl) fo_74_0) hCst1 ?_
 refine h_take (i := 1) (by exact rfl) rfl rfl rfl (by kernel_rfl) (fun w' hC => run_ld1 rfl ag_9 (by exact rfl) ((hAb1_q.evo0 hC).cell 0 (by exact rfl))) hCst1 ?_
 refine h_take (i := 2) (by exact rfl) rfl rfl rfl (by kernel_rfl) (fun w' hC => run_fa rfl (by exact rfl) fo_74_0) hCst1 ?_
 refine h_take (i := 3) (by exact rfl) rfl rfl rfl (by kernel_rfl) (fun w' hC => run_ld1 rfl ag_9 (by exact rfl) ((hAb3_q.evo0 hC).cell 0 (by exact rfl))) hCst1 ?_
 refine h_takeC (i := 4) (by exact rfl) rfl rfl rfl (by kernel_rfl) (fun w' hC => ⟨_, _, run_callf (vs := [S _, S _]) rfl (by exact rfl) Tryz.func56 rfl (by kernel_rfl), cmps_calls.mono (fun e w'' h => ⟨h.1, h.2.symm⟩)⟩) hCst1 ?_
 refine h_take (i := 5) (by exact rfl) rfl rfl rfl (by kernel_rfl) (fun w' hC => run_fa rfl (by exact rfl) fo_74_1) hCst1 ?_
 refine h_take (i := 6) (by exact rfl) rfl rfl rfl (by kernel_rfl) (fun w' hC => run_ld1 rfl ag_9 (by exact rfl) ((hAb1_q.evo0 hC).cell 1 (by exact rfl))) hCst1 ?_
 refine h_take (i := 7) (by exact rfl) rfl rfl rfl (by kernel_rfl) (fun w' hC => run_fa rfl (by exact rfl) fo_74_1) hCst1 ?_
 refine h_take (i := 8) (by exact rfl) rfl rfl rfl (by kernel_rfl) (fun w' hC => run_ld1 rfl ag_9 (by exact rfl) ((hAb3_q.evo0 hC).cell 1 (by exact rfl))) hCst1 ?_
 refine h_takeC (i := 9) (by exact rfl) rfl rfl rfl (by kernel_rfl) (fun w' hC => ⟨_, _, run_callf (vs := [S _, S _]) rfl (by exact rfl) Tryz.func56 rfl (by kernel_rfl), cmps_calls.mono (fun e w'' h => ⟨h.1, h.2.symm⟩)⟩) hCst1 ?_
 refine h_one (i := 10) (by kernel_rfl) ?_
 refine h_do (by exact rfl) ?_
 refine r_bsliceD (pv := [(0, .int _ _), (1, .int _ _)]) (zs := [_]) (cs := [_, _]) Tryz.underlying22 ty_3 (by exact rfl) rfl (by exact rfl) rfl (by exact rfl) ?_
 intro b7 w8 heb7 hEw8 hbb7 hzb7 hdr_3
 have hs_w8 := (hEw8).size
 replace hV := evo_step0 hV hEw8
 replace hCst1 := evo_step0 hCst1 hEw8
 have hAb7 := hbb7.at
 have hrb7 : RowE w8 (some ⟨b7, 0, none⟩) b7 0 2 ([cmpS x.fst y.fst, cmpS x.snd y.snd] : List Int) := rowLit ([cmpS x.fst y.fst, cmpS x.snd y.snd] : List Int) hbb7 rfl rfl
 refine h_next hCst1 ?_
 refine h_one (i := 11) (by kernel_rfl) ?_
 refine h_do (by exact rfl) ?_
 refine r_opcall rfl rfl rfl (run_callf (vs := [.slice (some ⟨b7, 0, none⟩) _ _]) rfl (by exact rfl) Tryz.func55 rfl (by kernel_rfl)) (or_calls hrb7) ?_
 rintro e w9 ⟨rfl, rfl⟩
 refine ⟨_, rfl, ?_⟩
 refine h_next hCst1 ?_
 refine h_take (i := 12) (by exact rfl) rfl rfl rfl (by kernel_rfl) (fun w' hC => run_asg (v := .int _ _) rfl (by exact rfl)) hCst1 ?_
 refine h_done (by kernel_rfl) ?_
 refine r_ret (res1 (v := .int _ _) rfl (by exact rfl)) ?_
 exact ⟨rfl, hV, by omega⟩
end Go.Proofs.YthbcklajlmcifaaGreat
namespace Go.Proofs
open Go.Shelf
def Tryz.sortGram_ren : Go.Shelf.Ren := ⟨fun | 6 => 53 | 15 => 40 | 14 => 78 | 28 => 68 | 29 => 69 | 20 => 91 | 21 => 92 | 22 => 93 | 23 => 94 | 24 => 95 | 25 => 96 | 26 => 97 | 27 => 98 | 46 => 101 | 47 => 82 | 48 => 83 | 49 => 102 | 50 => 103 | 57 => 104 | n => n, fun | 22 => 59 | 24 => 74 | 25 => 107 | 3 => 3 | 39 => 94 | 0 => 0 | 53 => 119 | 55 => 121 | 4 => 4 | 46 => 111 | 45 => 110 | 50 => 116 | 5 => 5 | 9 => 9 | 66 => 128 | 70 => 132 | 76 => 142 | 77 => 143 | n => n, fun | n => n⟩
theorem Tryz.sortGram : Go.Proofs.SlLaysF0.n6 Tryz.prog Tryz.sortGram_ren := {
  mixed := by kernel_rfl
  f6 := ⟨Tryz.f53.name, by decide, Tryz.func53.trans (congrArg some (by kernel_rfl))⟩
  f14 := ⟨Tryz.f78.name, by decide, Tryz.func78.trans (congrArg some (by kernel_rfl))⟩
  f15 := Tryz.func40.trans (congrArg some (by kernel_rfl))
  f20 := ⟨Tryz.f91.name, by decide, Tryz.func91.trans (congrArg some (by kernel_rfl))⟩
  f21 := ⟨Tryz.f92.name, by decide, Tryz.func92.trans (congrArg some (by kernel_rfl))⟩
  f22 := ⟨Tryz.f93.name, by decide, Tryz.func93.trans (congrArg some (by kernel_rfl))⟩
  f23 := ⟨Tryz.f94.name, by decide, Tryz.func94.trans (congrArg some (by kernel_rfl))⟩
  f24 := ⟨Tryz.f95.name, by decide, Tryz.func95.trans (congrArg some (by kernel_rfl))⟩
  f25 := ⟨Tryz.f96.name, by decide, Tryz.func96.trans (congrArg some (by kernel_rfl))⟩
  f26 := ⟨Tryz.f97.name, by decide, Tryz.func97.trans (congrArg some (by kernel_rfl))⟩
  f27 := ⟨Tryz.f98.name, by decide, Tryz.func98.trans (congrArg some (by kernel_rfl))⟩
  f28 := Tryz.func68.trans (congrArg some (by kernel_rfl))
  f29 := Tryz.func69.trans (congrArg some (by kernel_rfl))
  f46 := ⟨Tryz.f101.name, by decide, Tryz.func101.trans (congrArg some (by kernel_rfl))⟩
  f47 := Tryz.func82.trans (congrArg some (by kernel_rfl))
  f48 := Tryz.func83.trans (congrArg some (by kernel_rfl))
  f49 := ⟨Tryz.f102.name, by decide, Tryz.func102.trans (congrArg some (by kernel_rfl))⟩
  f50 := ⟨Tryz.f103.name, by decide, Tryz.func103.trans (congrArg some (by kernel_rfl))⟩
  f57 := ⟨Tryz.f104.name, by decide, Tryz.func104.trans (congrArg some (by kernel_rfl))⟩
  t0 := Tryz.underlying0
  a0 := Tryz.isAgg0
  z0 := Tryz.sizeOf0
  v0 := Tryz.zeroValue0
  t3 := Tryz.underlying3
  a3 := Tryz.isAgg3
  z3 := Tryz.sizeOf3
  v3 := Tryz.zeroValue3
  t4 := Tryz.underlying4
  a4 := Tryz.isAgg4
  z4 := Tryz.sizeOf4
  v4 := Tryz.zeroValue4
  t5 := Tryz.underlying5
  a5 := Tryz.isAgg5
  z5 := Tryz.sizeOf5
  v5 := Tryz.zeroValue5
  t9 := Tryz.underlying9
  a9 := Tryz.isAgg9
  z9 := Tryz.sizeOf9
  v9 := Tryz.zeroValue9
  t22 := Tryz.underlying59
  a22 := Tryz.isAgg59
  z22 := Tryz.sizeOf59
  v22 := Tryz.zeroValue59
  t25 := Tryz.underlying107
  a25 := Tryz.isAgg107
  z25 := Tryz.sizeOf107
  v25 := Tryz.zeroValue107
  t39 := Tryz.underlying94
  a39 := Tryz.isAgg94
  z39 := Tryz.sizeOf94
  v39 := Tryz.zeroValue94
  t45 := Tryz.underlying110
  a45 := Tryz.isAgg110
  z45 := Tryz.sizeOf110
  v45 := Tryz.zeroValue110
  t46 := Tryz.underlying111
  a46 := Tryz.isAgg111
  z46 := Tryz.sizeOf111
  v46 := Tryz.zeroValue111
  t50 := Tryz.underlying116
  a50 := Tryz.isAgg116
  z50 := Tryz.sizeOf116
  v50 := Tryz.zeroValue116
  t53 := Tryz.underlying119
  a53 := Tryz.isAgg119
  z53 := Tryz.sizeOf119
  v53 := Tryz.zeroValue119
  t55 := Tryz.underlying121
  a55 := Tryz.isAgg121
  z55 := Tryz.sizeOf121
  v55 := Tryz.zeroValue121
  t66 := Tryz.underlying128
  a66 := Tryz.isAgg128
  z66 := Tryz.sizeOf128
  v66 := Tryz.zeroValue128
  t70 := Tryz.underlying132
  a70 := Tryz.isAgg132
  z70 := Tryz.sizeOf132
  v70 := Tryz.zeroValue132
  t76 := Tryz.underlying142
  a76 := Tryz.isAgg142
  z76 := Tryz.sizeOf142
  v76 := Tryz.zeroValue142
  t77 := Tryz.underlying143
  a77 := Tryz.isAgg143
  z77 := Tryz.sizeOf143
  v77 := Tryz.zeroValue143 }
end Go.Proofs
namespace Go.Vc
open Go
def pairsL : Str → List Str → List (Str × Str)
  | l, [] => [(l, [])]
  | l, w :: r => (l, w) :: pairsL w r
theorem pairs_len : ∀ (l : Str) (ws : List Str), (pairsL l ws).length = ws.length + 1
  | _, [] => rfl
  | _, w :: r => by simp [pairsL, pairs_len w r]
def insG : List Gram → Str × Str → List Gram
  | [], p => [⟨p.1, p.2, 1⟩]
  | x :: r, p => if ltP (prG x) p then x :: insG r p else if prG x = p then ⟨x.fst, x.snd, x.count + 1⟩ :: r else ⟨p.1, p.2, 1⟩ :: x :: r
def gramsOf (ps : List (Str × Str)) : List Gram := ps.foldl insG []
def gramsL (ws : List Str) : List Gram := gramsOf (pairsL [] ws)
def AscG (g : List Gram) : Prop := g.Pairwise (fun x y => ltP (prG x) (prG y))
def GramsOk (ps : List (Str × Str)) (g : List Gram) : Prop := AscG g ∧ (∀ x ∈ g, 0 < ps.count (prG x) ∧ x.count = ((ps.count (prG x) : Nat) : Int)) ∧ ∀ p ∈ ps, ∃ x ∈ g, prG x = p
theorem gram_ext {x y : Gram} (h : prG x = prG y) (h2 : x.count = y.count) : x = y := by
  cases x; cases y; simp only [prG, Prod.mk.injEq] at h; simp_all
theorem asc_mem_ext : ∀ {g g' : List Gram}, AscG g → AscG g' → (∀ x, x ∈ g ↔ x ∈ g') → g = g'
  | [], [], _, _, _ => rfl
  | [], y :: r, _, _, h => absurd ((h y).2 (by simp)) (by simp)
  | x :: r, [], _, _, h => absurd ((h x).1 (by simp)) (by simp)
  | x :: r, y :: s, h1, h2, h => by
    unfold AscG at h1 h2
    rw [List.pairwise_cons] at h1 h2
    have e : x = y := by
      rcases List.mem_cons.1 ((h x).1 (by simp)) with e | hx
      · exact e
      · rcases List.mem_cons.1 ((h y).2 (by simp)) with e | hy
        · exact e.symm
        · exact absurd (ltP_trans (h1.1 y hy) (h2.1 x hx)) (ltP_irrefl _)
    subst e
    congr 1
    refine asc_mem_ext h1.2 h2.2 fun z => ⟨fun hz => ?_, fun hz => ?_⟩
    · rcases List.mem_cons.1 ((h z).1 (by simp [hz])) with e | hz'
      · subst e; exact absurd (h1.1 z hz) (ltP_irrefl _)
      · exact hz'
    · rcases List.mem_cons.1 ((h z).2 (by simp [hz])) with e | hz'
      · subst e; exact absurd (h2.1 z hz) (ltP_irrefl _)
      · exact hz'
theorem grams_unique {ps : List (Str × Str)} {g g' : List Gram} (h : GramsOk ps g) (h' : GramsOk ps g') : g = g' := by
  refine asc_mem_ext h.1 h'.1 fun x => ⟨fun hx => ?_, fun hx => ?_⟩
  · have h1 := h.2.1 x hx
    obtain ⟨y, hy, e⟩ := h'.2.2 (prG x) (List.count_pos_iff.1 h1.1)
    have h2 := h'.2.1 y hy
    rw [e] at h2
    rwa [gram_ext e.symm (h1.2.trans h2.2.symm)]
  · have h1 := h'.2.1 x hx
    obtain ⟨y, hy, e⟩ := h.2.2 (prG x) (List.count_pos_iff.1 h1.1)
    have h2 := h.2.1 y hy
    rw [e] at h2
    rwa [gram_ext e.symm (h1.2.trans h2.2.symm)]
theorem insG_pr {p : Str × Str} : ∀ {g : List Gram} {x : Gram}, x ∈ insG g p → prG x = p ∨ x ∈ g
  | [], x, h => by simp [insG] at h; subst h; exact .inl rfl
  | y :: r, x, h => by
    unfold insG at h
    split at h
    · rcases List.mem_cons.1 h with e | h
      · exact .inr (by simp [e])
      · rcases insG_pr h with e | h
        · exact .inl e
        · exact .inr (by simp [h])
    · split at h
      · rename_i _ e
        rcases List.mem_cons.1 h with e2 | h
        · subst e2; exact .inl e
        · exact .inr (by simp [h])
      · rcases List.mem_cons.1 h with e | h
        · subst e; exact .inl rfl
        · exact .inr h
theorem insG_asc {p : Str × Str} : ∀ {g : List Gram}, AscG g → AscG (insG g p)
  | [], _ => by unfold AscG insG; simp
  | y :: r, h => by
    unfold AscG at h ⊢
    rw [List.pairwise_cons] at h
    unfold insG
    split
    · rename_i h1
      rw [List.pairwise_cons]
      refine ⟨fun z hz => ?_, insG_asc h.2⟩
      rcases insG_pr hz with e | hz
      · rw [e]; exact h1
      · exact h.1 z hz
    · rename_i h1
      split
      · rename_i e
        rw [List.pairwise_cons]
        exact ⟨fun z hz => h.1 z hz, h.2⟩
      · rename_i h2
        have h3 : ltP p (prG y) := Classical.not_not.1 fun q => h2 (ltP_tri h1 q)
        rw [List.pairwise_cons]
        refine ⟨fun z hz => ?_, by rw [List.pairwise_cons]; exact h⟩
        rcases List.mem_cons.1 hz with e | hz
        · subst e; exact h3
        · exact ltP_trans h3 (h.1 z hz)
theorem insG_mem {p : Str × Str} : ∀ {g : List Gram}, AscG g → ∀ x, x ∈ insG g p ↔ (x ∈ g ∧ prG x ≠ p) ∨ (prG x = p ∧ ((∃ y ∈ g, prG y = p ∧ x.count = y.count + 1) ∨ (x.count = 1 ∧ ∀ y ∈ g, prG y ≠ p)))
  | [], _, x => by
    simp only [insG, List.mem_singleton, List.not_mem_nil, false_and, false_or, not_false_eq_true, exists_false, implies_true, and_true]
    constructor
    · rintro rfl; exact ⟨rfl, by simp⟩
    · rintro ⟨h1, h2⟩
      have h3 : x.count = 1 := by simpa using h2
      exact gram_ext (y := ⟨p.1, p.2, 1⟩) h1 h3
  | y :: r, h, x => by
    unfold AscG at h
    rw [List.pairwise_cons] at h
    have ih := insG_mem (p := p) (g := r) h.2 x
    unfold insG
    split
    · rename_i h1
      have hy : prG y ≠ p := fun e => ltP_irrefl p (e ▸ h1)
      rw [List.mem_cons, ih]
      constructor
      · rintro (rfl | h2)
        · exact .inl ⟨by simp, hy⟩
        · rcases h2 with ⟨h2, h3⟩ | ⟨h2, ⟨z, h3, h4⟩ | ⟨h3, h4⟩⟩
          · exact .inl ⟨by simp [h2], h3⟩
          · exact .inr ⟨h2, .inl ⟨z, by simp [h3], h4⟩⟩
          · refine .inr ⟨h2, .inr ⟨h3, fun z hz => ?_⟩⟩
            rcases List.mem_cons.1 hz with e | hz
            · subst e; exact hy
            · exact h4 z hz
      · rintro (⟨h2, h3⟩ | ⟨h2, ⟨z, h3, h4, h5⟩ | ⟨h3, h4⟩⟩)
        · rcases List.mem_cons.1 h2 with e | h2
          · exact .inl e
          · exact .inr (.inl ⟨h2, h3⟩)
        · rcases List.mem_cons.1 h3 with e | h3
          · subst e; exact absurd h4 hy
          · exact .inr (.inr ⟨h2, .inl ⟨z, h3, h4, h5⟩⟩)
        · exact .inr (.inr ⟨h2, .inr ⟨h3, fun z hz => h4 z (by simp [hz])⟩⟩)
    · rename_i h1
      split
      · rename_i e
        have hr : ∀ z ∈ r, prG z ≠ p := fun z hz e2 => ltP_irrefl p (by have := h.1 z hz; rwa [e, e2] at this)
        rw [List.mem_cons]
        constructor
        · rintro (rfl | h2)
          · exact .inr ⟨e, .inl ⟨y, by simp, e, rfl⟩⟩
          · exact .inl ⟨by simp [h2], hr x h2⟩
        · rintro (⟨h2, h3⟩ | ⟨h2, ⟨z, h3, h4, h5⟩ | ⟨h3, h4⟩⟩)
          · rcases List.mem_cons.1 h2 with e2 | h2
            · subst e2; exact absurd e h3
            · exact .inr h2
          · rcases List.mem_cons.1 h3 with e2 | h3
            · subst e2
              exact .inl (gram_ext (y := ⟨z.fst, z.snd, z.count + 1⟩) (h2.trans h4.symm) h5)
            · exact absurd h4 (hr z h3)
          · exact absurd e (h4 y (by simp))
      · rename_i h2
        have h3 : ltP p (prG y) := Classical.not_not.1 fun q => h2 (ltP_tri h1 q)
        have hr : ∀ z ∈ y :: r, prG z ≠ p := fun z hz e2 => by
          rcases List.mem_cons.1 hz with e3 | hz
          · subst e3; exact h2 e2
          · exact ltP_irrefl p (by have := ltP_trans h3 (h.1 z hz); rwa [e2] at this)
        rw [List.mem_cons]
        constructor
        · rintro (rfl | h4)
          · exact .inr ⟨rfl, .inr ⟨rfl, hr⟩⟩
          · exact .inl ⟨h4, hr x h4⟩
        · rintro (⟨h4, h5⟩ | ⟨h4, ⟨z, h5, h6, h7⟩ | ⟨h5, h6⟩⟩)
          · exact .inr h4
          · exact absurd h6 (hr z h5)
          · exact .inl (gram_ext (y := ⟨p.1, p.2, 1⟩) h4 h5)
theorem GramsOk.nil : GramsOk [] [] := ⟨List.Pairwise.nil, by simp, by simp⟩
theorem GramsOk.ins {ps : List (Str × Str)} {g : List Gram} {p : Str × Str} (h : GramsOk ps g) : GramsOk (ps ++ [p]) (insG g p) := by
  have hm := insG_mem (p := p) h.1
  refine ⟨insG_asc h.1, fun x hx => ?_, fun q hq => ?_⟩
  · rcases (hm x).1 hx with ⟨h1, h2⟩ | ⟨h1, ⟨y, h2, h3, h4⟩ | ⟨h2, h3⟩⟩
    · have h3 := h.2.1 x h1
      have e : (ps ++ [p]).count (prG x) = ps.count (prG x) := by rw [List.count_append, List.count_singleton]; simp [Ne.symm h2]
      rw [e]; exact h3
    · have h5 := h.2.1 y h2
      rw [h3] at h5
      rw [h1, List.count_append, List.count_singleton, h4, h5.2]
      simp
    · have h5 : ps.count p = 0 := List.count_eq_zero.2 fun hp => by
        obtain ⟨y, hy, e⟩ := h.2.2 p hp
        exact h3 y hy e
      rw [h1, List.count_append, List.count_singleton, h2, h5]
      simp
  · rcases List.mem_append.1 hq with h1 | h1
    · obtain ⟨x, hx, e⟩ := h.2.2 q h1
      by_cases hp : q = p
      · subst hp
        exact ⟨⟨q.1, q.2, x.count + 1⟩, (hm _).2 (.inr ⟨rfl, .inl ⟨x, hx, e, rfl⟩⟩), rfl⟩
      · exact ⟨x, (hm x).2 (.inl ⟨hx, by rw [e]; exact hp⟩), e⟩
    · have e : q = p := by simpa using h1
      subst e
      by_cases h2 : ∃ y ∈ g, prG y = q
      · obtain ⟨y, hy, e⟩ := h2
        exact ⟨⟨q.1, q.2, y.count + 1⟩, (hm _).2 (.inr ⟨rfl, .inl ⟨y, hy, e, rfl⟩⟩), rfl⟩
      · exact ⟨⟨q.1, q.2, 1⟩, (hm _).2 (.inr ⟨rfl, .inr ⟨rfl, fun y hy e => h2 ⟨y, hy, e⟩⟩⟩), rfl⟩
theorem gramsOk_fold : ∀ (qs ps : List (Str × Str)) (g : List Gram), GramsOk ps g → GramsOk (ps ++ qs) (qs.foldl insG g)
  | [], ps, g, h => by simpa using h
  | q :: qs, ps, g, h => by
    have := gramsOk_fold qs (ps ++ [q]) (insG g q) h.ins
    simpa using this
theorem gramsOk_of (ps : List (Str × Str)) : GramsOk ps (gramsOf ps) := by have := gramsOk_fold ps [] [] GramsOk.nil; simpa [gramsOf] using this
theorem gramsOk_sort {ps : List (Str × Str)} {g g' : List Gram} (hs : SortR (Go.Proofs.ltOf cmpG) g g') (hn : (g.map prG).Nodup) (h1 : ∀ x ∈ g, 0 < ps.count (prG x) ∧ x.count = ((ps.count (prG x) : Nat) : Int)) (h2 : ∀ p ∈ ps, ∃ x ∈ g, prG x = p) : GramsOk ps g' := by
  obtain ⟨hp, hw⟩ := hs
  have hn' : (g'.map prG).Nodup := (hp.map prG).nodup_iff.2 hn
  refine ⟨?_, fun x hx => h1 x (hp.mem_iff.1 hx), fun p hp' => ?_⟩
  · unfold AscG
    have hne : g'.Pairwise (fun x y => prG x ≠ prG y) := List.pairwise_map.1 hn'
    refine (hw.and hne).imp fun {x y} h => ?_
    have h3 := h.1
    rw [ltOf_G] at h3
    have h4 : ¬ ltP (prG y) (prG x) := by simpa using h3
    exact Classical.not_not.1 fun q => h.2 (ltP_tri q h4)
  · obtain ⟨x, hx, e⟩ := h2 p hp'
    exact ⟨x, hp.mem_iff.2 hx, e⟩
end Go.Vc
namespace Go.Vc
open Go Go.RowKit Go.IntWalk
open Go.ChangeMaps (setBlock)
theorem asking_hit {P : Program} {K : TypeId} {α : Type} [DecidableEq α] {ek : α → Value} (heq : ∀ (w : World) (x y : α), (Op.equal K (ek x) (ek y)).run P w = .ok (decide (x = y)) w) (x : α) (w : World) :
    ∀ (es : List MapEntry) (i k : Nat) (e : MapEntry), (∀ e ∈ es, ∃ y, e.key = ek y) → es[i]? = some e → e.key = ek x → (∀ j e', j < i → es[j]? = some e' → e'.key ≠ ek x) → (Instr.findAsking K (ek x) es k).run P w = .ok (some (k + i, e.val)) w
  | [], i, k, e, _, h, _, _ => by simp at h
  | a :: es, 0, k, e, _, h, hk, _ => by
    simp at h; subst h
    simp only [Instr.findAsking, Sem.run_bind, hk, heq, Result.andThen_ok, decide_true, if_true, Sem.run_pure, Nat.add_zero]
  | a :: es, i + 1, k, e, hall, h, hk, hne => by
    obtain ⟨y, hy⟩ := hall a (by simp)
    have h0 := hne 0 a (by omega) (by simp)
    have ih := asking_hit heq x w es i (k + 1) e (fun e he => hall e (by simp [he])) (by simpa using h) hk (fun j e' hj he' => hne (j + 1) e' (by omega) (by simpa using he'))
    have hd : decide (x = y) = false := by simp; intro h; exact h0 (by rw [hy, h])
    simp only [Instr.findAsking, Sem.run_bind, hy, heq, hd, Result.andThen_ok, Bool.false_eq_true, if_false]
    rw [ih, show k + 1 + i = k + (i + 1) by omega]
theorem asking_miss {P : Program} {K : TypeId} {α : Type} [DecidableEq α] {ek : α → Value} (heq : ∀ (w : World) (x y : α), (Op.equal K (ek x) (ek y)).run P w = .ok (decide (x = y)) w) (x : α) (w : World) :
    ∀ (es : List MapEntry) (k : Nat), (∀ e ∈ es, ∃ y, e.key = ek y) → (∀ e ∈ es, e.key ≠ ek x) → (Instr.findAsking K (ek x) es k).run P w = .ok none w
  | [], _, _, _ => rfl
  | a :: es, k, hall, hne => by
    obtain ⟨y, hy⟩ := hall a (by simp)
    have h0 := hne a (by simp)
    have ih := asking_miss heq x w es (k + 1) (fun e he => hall e (by simp [he])) (fun e he => hne e (by simp [he]))
    have hd : decide (x = y) = false := by simp; intro h; exact h0 (by rw [hy, h])
    simp only [Instr.findAsking, Sem.run_bind, hy, heq, hd, Result.andThen_ok, Bool.false_eq_true, if_false]
    exact ih
theorem KeyLaw.asked {P : Program} {K : TypeId} {D : TypeDesc} {α : Type} [DecidableEq α] {ek : α → Value} (hu : P.underlying K = some D) (inj : ∀ x y, ek x = ek y → x = y) (hno : ∀ x y, Instr.sameNow D (ek x) (ek y) = none)
    (heq : ∀ (w : World) (x y : α), (Op.equal K (ek x) (ek y)).run P w = .ok (decide (x = y)) w) (check : ∀ w e x, (Instr.checkKey e 10000 K (ek x)).run P w = .ok () w) (same : ∀ x, Instr.sameBits 10000 (ek x) (ek x) = true) : KeyLaw P K ek where
  inj := inj
  check := check
  same := same
  hit w x es i e hall h hk hne := by
    have h1 := asking_hit heq x w es i 0 e hall h hk hne
    rw [Nat.zero_add] at h1
    cases es with
    | nil => simp at h
    | cons a es =>
      obtain ⟨y, hy⟩ := hall a (by simp)
      have h2 : Instr.findNow D (ek x) (a :: es) 0 = none := by simp only [Instr.findNow, hy, hno]
      simp only [Instr.findKey, Sem.run_bind, run_underlying hu, Result.andThen_ok, h2]
      exact h1
  miss w x es hall hne := by
    have h1 := asking_miss heq x w es 0 hall hne
    cases es with
    | nil => simp only [Instr.findKey, Sem.run_bind, run_underlying hu, Result.andThen_ok, Instr.findNow]; rfl
    | cons a es =>
      obtain ⟨y, hy⟩ := hall a (by simp)
      have h2 : Instr.findNow D (ek x) (a :: es) 0 = none := by simp only [Instr.findNow, hy, hno]
      simp only [Instr.findKey, Sem.run_bind, run_underlying hu, Result.andThen_ok, h2]
      exact h1
theorem key_item {P : Program} {T : TypeId} {f0 f1 f2 : Field} (hu : P.underlying T = some (.struct #[f0, f1, f2])) (n0 : f0.name ≠ "_") (n1 : f1.name ≠ "_") (n2 : f2.name ≠ "_")
    (o0 : f0.offset = 0) (o1 : f1.offset = 1) (o2 : f2.offset = 2) (u0 : P.underlying f0.type = some (.int .i64)) (u1 : P.underlying f1.type = some .string) (u2 : P.underlying f2.type = some (.int .i64))
    (a0 : aggP P f0.type = some false) (a1 : aggP P f1.type = some false) (a2 : aggP P f2.type = some false)
    (he : ∀ (w : World) (x y : Item), (Op.equalIn 10000 T (.agg (Enc.enc x).toArray) (.agg (Enc.enc y).toArray)).run P w = .ok (decide (x = y)) w) : KeyLaw P T (fun x : Item => Value.agg (Enc.enc x).toArray) := by
  refine KeyLaw.asked hu (fun x y h => ?_) (fun x y => rfl) (fun w x y => he w x y) (fun w e x => ?_) (fun x => ?_)
  · obtain ⟨k1, t1, i1⟩ := x
    obtain ⟨k2, t2, i2⟩ := y
    have h1 : [Value.int .i64 k1, S t1, Value.int .i64 i1] = [Value.int .i64 k2, S t2, Value.int .i64 i2] := by
      have h2 := Value.agg.inj h
      exact List.toArray_inj h2
    simp only [List.cons.injEq, Value.int.injEq, true_and, and_true] at h1
    rw [h1.1, S_inj h1.2.1, h1.2.2]
  · have p0 : ∀ (z : Item), (part f0.type (Enc.enc z).toArray 0).run P w = .ok (.int .i64 z.kind) w := fun z => run_part1 a0 rfl
    have p1 : ∀ (z : Item), (part f1.type (Enc.enc z).toArray 1).run P w = .ok (S z.text) w := fun z => run_part1 a1 rfl
    have p2 : ∀ (z : Item), (part f2.type (Enc.enc z).toArray 2).run P w = .ok (.int .i64 z.id) w := fun z => run_part1 a2 rfl
    have c0 := check_scalar u0 w e 9998 (.int .i64 x.kind) (.inr ⟨_, _, rfl, rfl⟩)
    have c1 := check_scalar u1 w e 9998 (S x.text) (.inl ⟨rfl, _, rfl⟩)
    have c2 := check_scalar u2 w e 9998 (.int .i64 x.id) (.inr ⟨_, _, rfl, rfl⟩)
    unfold Instr.checkKey
    simp only [Sem.run_bind, run_underlying hu, Result.andThen_ok]
    simp [n0, n1, n2, o0, o1, o2, p0, p1, p2, c0, c1, c2, Sem.run_bind]
  · show Instr.sameBits 10000 (.agg #[.int .i64 x.kind, S x.text, .int .i64 x.id]) (.agg #[.int .i64 x.kind, S x.text, .int .i64 x.id]) = true
    have h1 := bits_str 9999 ⟨x.text.toArray⟩
    have h0 := bits_int 9999 .i64 x.kind
    have h2 := bits_int 9999 .i64 x.id
    unfold Instr.sameBits
    simp only [S] at *
    simp [h0, h1, h2]
def StampIs {α : Type} (w : World) (b : Nat) (ek : α → Value) (a : α) (s : Int) : Prop := ∃ (es : Array MapEntry) (clock i : Nat) (e : MapEntry), w.heap[b]? = some (.map es clock) ∧ es[i]? = some e ∧ (e.born : Int) = s ∧ e.key = ek a
section
variable {P : Program} {B : Exit → Act → World → Prop} {n : Nat} {k : List Kont} {f : Fr} {w : World} {ops : Array Oper} {rest : List Oper}
variable {α β : Type} {ek : α → Value} {ev : β → Value} {b : Nat} {m : List (α × β)} {K E : TypeId}
theorem StampIs.evo {w' : World} {a : α} {s : Int} {X : List Nat} (h : StampIs w b ek a s) (he : Evo w w' X) (hb : b < w.heap.size) (hn : b ∉ X) : StampIs w' b ek a s := by
  obtain ⟨es, c, i, e, h1, h2⟩ := h
  exact ⟨es, c, i, e, (he.same b hb hn).trans h1, h2⟩
theorem run_mapEntry [DecidableEq α] (L : KeyLaw P K ek) {T : TypeId} {z : β} {s0 bb : Nat} (hu : P.underlying T = some (.map K E)) (hz : tyP P E = some (s0, bb, some (ev z))) (a : α) (h : MapIs w b ek ev m) :
    ∃ w' s, (Instr.mapEntry T (.map (some b)) (ek a)).run P w = .ok (.tuple #[ev ((getM m a).getD z), .int .i64 s]) w' ∧ Evo w w' [b] ∧ w'.heap.size = w.heap.size ∧ MapIs w' b ek ev (setM m a ((getM m a).getD z)) ∧ StampIs w' b ek a s := by
  obtain ⟨es, c, hb, he, hbn, hlt, hnd⟩ := h.ex
  have hbl := h.lt
  obtain ⟨es', c', hb', hf⟩ := h.find L a
  rw [hb] at hb'
  injection hb' with hb'
  injection hb' with e1 e2
  subst e1; subst e2
  rcases hf with ⟨hg, hf⟩ | ⟨i, u, hg, hi, hne, hf⟩
  · have hmiss : ∀ p ∈ m, p.1 ≠ a := by
      intro p hp e
      unfold getM at hg
      have hg' := hg
      simp only [Option.map_eq_none_iff, List.find?_eq_none, decide_eq_true_eq] at hg'
      exact hg' p hp e
    refine ⟨setBlock w b (.map (es.push { key := ek a, val := ev z, born := c }) (c + 1)), (c : Int), ?_, Evo.setB _ _ _, by simp [setBlock], ⟨_, _, heap_setB hbl _, ?_, ?_, ?_, keys_setM a _ m hnd⟩, ⟨_, _, es.size, { key := ek a, val := ev z, born := c }, heap_setB hbl _, by simp, rfl, rfl⟩⟩
    · rw [hg]
      simp only [Instr.mapEntry, getObj, Sem.run_bind, run_underlying hu, Result.andThen_ok, Sem.run, hb, L.check, hf, setObj, setBlock, run_zero hz, goInt]
      rfl
    · rw [hg, setM_miss hmiss]; simp [he]
    · simp only [Array.toList_push, List.map_append, List.map_cons, List.map_nil]
      rw [List.nodup_append]
      refine ⟨hbn, by simp, fun x hx y hy => ?_⟩
      simp at hy
      subst hy
      obtain ⟨e, hem, rfl⟩ := List.mem_map.1 hx
      have := hlt e hem
      omega
    · intro e hem
      simp only [Array.toList_push, List.mem_append, List.mem_singleton] at hem
      rcases hem with hem | rfl
      · have := hlt e hem; omega
      · simp
  · have hent := entry_at he i
    rw [hi] at hent
    cases hes : es.toList[i]? with
    | none => rw [hes] at hent; simp at hent
    | some e =>
      rw [hes] at hent
      simp only [Option.map_some, Option.some.injEq, Prod.mk.injEq] at hent
      have hes' : es[i]? = some e := by simpa using hes
      have hstay : (Instr.keyThatStays (((es[i]?).map (·.key)).getD (ek a)) (ek a)).run P w = .ok (ek a) w := by
        rw [hes']
        simp only [Option.map_some, Option.getD_some, hent.1, Instr.keyThatStays, L.same, if_true, Sem.run_pure]
      have hsame : (es.modify i fun e => { e with key := ek a }) = es := by
        apply Array.ext_getElem?
        intro j
        rw [Array.getElem?_modify]
        by_cases hij : i = j
        · subst hij
          rw [if_pos rfl, hes']
          obtain ⟨k0, v0, b0⟩ := e
          obtain rfl : k0 = ek a := hent.1
          rfl
        · rw [if_neg hij]
      have hset : setM m a ((getM m a).getD z) = m := by
        rw [hg, setM_hit hi hnd]
        apply List.ext_getElem?
        intro j
        rw [List.getElem?_set]
        by_cases hij : i = j
        · subst hij
          have hil : i < m.length := (List.getElem?_eq_some_iff.1 hi).1
          rw [if_pos rfl, if_pos hil, hi]; rfl
        · rw [if_neg hij]
      refine ⟨setBlock w b (.map es c), (e.born : Int), ?_, Evo.setB _ _ _, by simp [setBlock], ?_, ⟨es, c, i, e, heap_setB hbl _, hes', rfl, hent.1⟩⟩
      · rw [hg]
        simp only [Instr.mapEntry, getObj, Sem.run_bind, run_underlying hu, Result.andThen_ok, Sem.run, hb, L.check, hf, hstay, setObj, setBlock, hsame, goInt]
        rw [hes']
        rfl
      · rw [hset]
        exact ⟨es, c, heap_setB hbl _, he, hbn, hlt, hnd⟩
theorem run_entryStore [DecidableEq α] (L : KeyLaw P K ek) {T : TypeId} {a : α} {s : Int} (v : β) (h : MapIs w b ek ev m) (hs : StampIs w b ek a s) :
    ∃ w', (Instr.entryStore T (.map (some b)) (.int .i64 s) (ev v)).run P w = .ok () w' ∧ Evo w w' [b] ∧ w'.heap.size = w.heap.size ∧ MapIs w' b ek ev (setM m a v) := by
  obtain ⟨es, c, hb, he, hbn, hlt, hnd⟩ := h.ex
  have hbl := h.lt
  obtain ⟨es', c', i, e, hb', hes', hborn, hkey⟩ := hs
  rw [hb] at hb'
  injection hb' with hb'
  injection hb' with e1 e2
  subst e1; subst e2
  have hent := entry_at he i
  have hes : es.toList[i]? = some e := by simpa using hes'
  rw [hes] at hent
  cases hi : m[i]? with
  | none => rw [hi] at hent; simp at hent
  | some p =>
    rw [hi] at hent
    simp only [Option.map_some, Option.some.injEq, Prod.mk.injEq] at hent
    obtain ⟨a', u⟩ := p
    have ha : a' = a := L.inj _ _ (hent.1.symm.trans hkey)
    subst ha
    have hfind : es.findIdx? (fun e => (e.born : Int) == s) = some i := by
      cases hq : es.findIdx? (fun e => (e.born : Int) == s) with
      | none =>
        rw [Array.findIdx?_eq_none_iff] at hq
        have := hq e (by rw [← Array.mem_toList_iff]; exact List.mem_of_getElem? hes)
        simp [hborn] at this
      | some j =>
        obtain ⟨hj, hp, _⟩ := Array.findIdx?_eq_some_iff_getElem.1 hq
        have h1 : ((es[j]).born : Int) = s := by simpa using hp
        have h2 : (es.toList.map (·.born))[j]? = (es.toList.map (·.born))[i]? := by
          rw [List.getElem?_map, List.getElem?_map, hes, Array.getElem?_toList, Array.getElem?_eq_getElem hj]
          simp only [Option.map_some, Option.some.injEq]
          omega
        have h3 := (List.getElem?_inj (by simpa using hj) hbn).1 h2
        rw [h3]
    refine ⟨setBlock w b (.map (es.modify i fun e => { e with val := ev v }) c), ?_, Evo.setB _ _ _, by simp [setBlock], ⟨_, _, heap_setB hbl _, ?_, ?_, ?_, keys_setM a' v m hnd⟩⟩
    · have hint : (asInt (.int .i64 s)).run P w = .ok s w := rfl
      simp only [Instr.entryStore, getObj, Sem.run_bind, Result.andThen_ok, Sem.run, hb, hint, hfind, setObj, setBlock]
    · rw [setM_hit hi hnd]
      apply List.ext_getElem?
      intro j
      have hj := entry_at he j
      simp only [List.getElem?_map, Array.getElem?_toList, Array.getElem?_modify] at hj ⊢
      rw [List.getElem?_set]
      by_cases hij : i = j
      · subst hij
        have hil : i < m.length := (List.getElem?_eq_some_iff.1 hi).1
        simp [hes', hil, hkey]
      · simp [hij, hj]
    · have : (es.modify i fun e => { e with val := ev v }).toList.map (·.born) = es.toList.map (·.born) := by
        apply List.ext_getElem?
        intro j
        simp only [List.getElem?_map, Array.getElem?_toList, Array.getElem?_modify]
        by_cases hij : i = j
        · subst hij; simp [hes']
        · simp [hij]
      rw [this]; exact hbn
    · intro x hx
      obtain ⟨j, hj⟩ := List.getElem?_of_mem hx
      simp only [Array.getElem?_toList, Array.getElem?_modify] at hj
      by_cases hij : i = j
      · subst hij
        simp [hes'] at hj
        rw [← hj]
        exact hlt e (List.mem_of_getElem? hes)
      · simp only [hij, if_false] at hj
        exact hlt x (by rw [← Array.getElem?_toList] at hj; exact List.mem_of_getElem? hj)
theorem r_mapEntry [DecidableEq α] (L : KeyLaw P K ek) {T d : Nat} {z : β} {s0 bb : Nat} {t : TypeId} {pos : String} {aft : Array Edge} {x y : Operand} {a : α} (hd : Nat.blt d n = true) (hu : P.underlying T = some (.map K E)) (hz : tyP P E = some (s0, bb, some (ev z)))
    (hx : opv f x = .map (some b)) (hy : opv f y = ek a) (h : MapIs w b ek ev m)
    (h2 : ∀ s w', Evo w w' [b] → w'.heap.size = w.heap.size → MapIs w' b ek ev (setM m a ((getM m a).getD z)) → StampIs w' b ek a s → KL P B n ops k rest (upd f d (.tuple #[ev ((getM m a).getD z), .int .i64 s])) w') :
    KL P B n ops k (⟨some d, .mapEntry T x y, t, pos, aft, none⟩ :: rest) f w := by
  obtain ⟨w', s, hr, he, hs, hm, hst⟩ := run_mapEntry L hu hz a h
  refine r_op (w' := w') rfl rfl hd ?_ (h2 s w' he hs hm hst)
  simp [execOp, hx, hy, hr]
theorem r_entryStore [DecidableEq α] (L : KeyLaw P K ek) {T : TypeId} {t : TypeId} {pos : String} {aft : Array Edge} {x y u : Operand} {a : α} {s : Int} {v : β} (hx : opv f x = .map (some b)) (hy : opv f y = .int .i64 s) (hu : opv f u = ev v)
    (h : MapIs w b ek ev m) (hs : StampIs w b ek a s) (h2 : ∀ w', Evo w w' [b] → w'.heap.size = w.heap.size → MapIs w' b ek ev (setM m a v) → KL P B n ops k rest f w') :
    KL P B n ops k (⟨none, .entryStore T x y u, t, pos, aft, none⟩ :: rest) f w := by
  obtain ⟨w', hr, he, hsz, hm⟩ := run_entryStore (T := T) L v h hs
  refine r_op0 (w' := w') rfl rfl ?_ (h2 w' he hsz hm)
  simp [execOp, hx, hy, hu, hr]
theorem setM_twice [DecidableEq α] (x : α) (u v : β) (m : List (α × β)) : setM (setM m x u) x v = setM m x v := by
  unfold setM
  by_cases h : m.any (·.1 = x) = true
  · have h2 : (m.map (fun p => if p.1 = x then (x, u) else p)).any (·.1 = x) = true := by
      obtain ⟨p, hp, hx⟩ := List.any_eq_true.1 h
      refine List.any_eq_true.2 ⟨(x, u), List.mem_map.2 ⟨p, hp, by simp at hx; simp [hx]⟩, by simp⟩
    rw [if_pos h, if_pos h2, if_pos h, List.map_map]
    refine List.map_congr_left (fun p _ => ?_)
    by_cases e : p.1 = x
    · simp [e]
    · simp [e]
  · have h2 : (m ++ [(x, u)]).any (·.1 = x) = true := by simp
    rw [if_neg h, if_pos h2, if_neg h, List.map_append]
    congr 1
    · conv => rhs; rw [← List.map_id m]
      refine List.map_congr_left (fun p hp => ?_)
      have : ¬ p.1 = x := fun e => h (List.any_eq_true.2 ⟨p, hp, by simpa using e⟩)
      simp [this]
    · simp
end
end Go.Vc
namespace Go.Vc
open Go Go.RowKit Go.IntWalk
instance : Enc (Str × Str) := ⟨2, fun x => [S x.1, S x.2], fun _ => rfl, fun _ => rfl, by decide⟩
theorem equalIn_pair {P : Program} {w : World} (d : Nat) {T : TypeId} {f0 f1 : Field} (hu : P.underlying T = some (.struct #[f0, f1])) (hp : P.stoodInHeld T = false) (n0 : f0.name ≠ "_") (n1 : f1.name ≠ "_")
    (o0 : f0.offset = 0) (o1 : f1.offset = 1) (u0 : P.underlying f0.type = some .string) (u1 : P.underlying f1.type = some .string)
    (a0 : aggP P f0.type = some false) (a1 : aggP P f1.type = some false) (x y : Str × Str) :
    (Op.equalIn (d + 2) T (.agg (Enc.enc x).toArray) (.agg (Enc.enc y).toArray)).run P w = .ok (decide (x = y)) w := by
  have h := equalIn_ende (P := P) (w := w) d hu hp n0 n1 o0 o1 u0 u1 a0 a1 ⟨x.1, x.2⟩ ⟨y.1, y.2⟩
  have e : decide (x = y) = decide ((⟨x.1, x.2⟩ : Ende) = ⟨y.1, y.2⟩) := decide_eq_decide.2 (by rw [Ende.mk.injEq]; exact Prod.ext_iff)
  rw [e]; exact h
theorem key_pair {P : Program} {T : TypeId} {f0 f1 : Field} (hu : P.underlying T = some (.struct #[f0, f1])) (n0 : f0.name ≠ "_") (n1 : f1.name ≠ "_") (o0 : f0.offset = 0) (o1 : f1.offset = 1) (u0 : P.underlying f0.type = some .string) (u1 : P.underlying f1.type = some .string)
    (a0 : aggP P f0.type = some false) (a1 : aggP P f1.type = some false)
    (he : ∀ (w : World) (x y : Str × Str), (Op.equalIn 10000 T (.agg (Enc.enc x).toArray) (.agg (Enc.enc y).toArray)).run P w = .ok (decide (x = y)) w) : KeyLaw P T (fun x : Str × Str => Value.agg (Enc.enc x).toArray) := by
  refine KeyLaw.asked hu (fun x y h => ?_) (fun x y => rfl) (fun w x y => he w x y) (fun w e x => ?_) (fun x => ?_)
  · obtain ⟨t1, i1⟩ := x
    obtain ⟨t2, i2⟩ := y
    have h1 : [S t1, S i1] = [S t2, S i2] := List.toArray_inj (Value.agg.inj h)
    simp only [List.cons.injEq, and_true] at h1
    rw [S_inj h1.1, S_inj h1.2]
  · have p0 : ∀ (z : Str × Str), (part f0.type (Enc.enc z).toArray 0).run P w = .ok (S z.1) w := fun z => run_part1 a0 rfl
    have p1 : ∀ (z : Str × Str), (part f1.type (Enc.enc z).toArray 1).run P w = .ok (S z.2) w := fun z => run_part1 a1 rfl
    have c0 := check_scalar u0 w e 9998 (S x.1) (.inl ⟨rfl, _, rfl⟩)
    have c1 := check_scalar u1 w e 9998 (S x.2) (.inl ⟨rfl, _, rfl⟩)
    unfold Instr.checkKey
    simp only [Sem.run_bind, run_underlying hu, Result.andThen_ok]
    simp [n0, n1, o0, o1, p0, p1, c0, c1, Sem.run_bind]
  · show Instr.sameBits 10000 (.agg #[S x.1, S x.2]) (.agg #[S x.1, S x.2]) = true
    have h1 := bits_str 9999 ⟨x.1.toArray⟩
    have h2 := bits_str 9999 ⟨x.2.toArray⟩
    unfold Instr.sameBits
    simp only [S] at *
    simp [h1, h2]
theorem getM_of_memZ {α : Type} [DecidableEq α] : ∀ {m : List (α × Int)} {p : α × Int}, (m.map (·.1)).Nodup → p ∈ m → getM m p.1 = some p.2
  | q :: m, p, hn, hp => by
    obtain ⟨h1, h2⟩ := List.nodup_cons.1 hn
    rw [getM_cons]
    rcases List.mem_cons.1 hp with rfl | hp
    · rw [if_pos rfl]
    · rw [if_neg (fun e => h1 (by show q.1 ∈ _; rw [e]; exact List.mem_map_of_mem hp)), getM_of_memZ h2 hp]
theorem getM_mem_of {α : Type} [DecidableEq α] {m : List (α × Int)} {a : α} {v : Int} (h : getM m a = some v) : (a, v) ∈ m := by
  unfold getM at h
  cases e : m.find? (fun p => decide (p.1 = a)) with
  | none => rw [e] at h; cases h
  | some p =>
    rw [e] at h
    have h1 : p.2 = v := by simpa using h
    have h2 : p.1 = a := by simpa using List.find?_some e
    have h3 := List.mem_of_find?_eq_some e
    rw [← h1, ← h2]; exact h3
section
variable {α : Type} [DecidableEq α]
def Bump (m m2 : List (α × Int)) (a : α) (d : Int) : Prop := ∀ x, getM m2 x = if x = a then some ((getM m a).getD 0 + d) else getM m x
theorem bumpF {m : List (α × Int)} {a : α} (d : Int) : Bump m (setM (setM m a ((getM m a).getD 0)) a ((getM m a).getD 0 + d)) a d := fun x => by
  rw [getM_setM, getM_setM]
  by_cases e : x = a
  · subst e; simp
  · simp [e, Ne.symm e]
theorem bumpT {m : List (α × Int)} {a : α} (d : Int) : Bump m (setM (setM m a ((getM m a).getD 0)) a ((getM (setM m a ((getM m a).getD 0)) a).getD 0 + d)) a d := fun x => by
  rw [getM_setM, getM_setM, getM_setM, if_pos rfl]
  by_cases e : x = a
  · subst e; simp
  · simp [e, Ne.symm e]
end
section
variable {α : Type} [BEq α] [LawfulBEq α]
def cntO (ps : List α) (x : α) : Option Int := if x ∈ ps then some ((ps.count x : Nat) : Int) else none
theorem cntO_nil (x : α) : cntO [] x = none := if_neg (by simp)
theorem cntO_get (ps : List α) (x : α) : (cntO ps x).getD 0 = ((ps.count x : Nat) : Int) := by
  unfold cntO
  by_cases h : x ∈ ps
  · rw [if_pos h]; rfl
  · rw [if_neg h, List.count_eq_zero.2 h]; rfl
theorem cntO_snoc [DecidableEq α] {m m2 : List (α × Int)} {ps : List α} {a : α} (h : ∀ x, getM m x = cntO ps x) (hb : Bump m m2 a 1) : ∀ x, getM m2 x = cntO (ps ++ [a]) x := fun x => by
  rw [hb x]
  by_cases e : x = a
  · subst e
    rw [if_pos rfl, h, cntO_get]
    unfold cntO
    rw [if_pos (by simp), List.count_append]; simp
  · rw [if_neg e, h]
    unfold cntO
    have e2 : (ps ++ [a]).count x = ps.count x := by rw [List.count_append, List.count_singleton]; simp [Ne.symm e]
    rw [e2]
    by_cases hx : x ∈ ps
    · rw [if_pos hx, if_pos (by simp [hx])]
    · rw [if_neg hx, if_neg (by simp [hx, e])]
end
def lastW (ws : List Str) (k : Nat) : Str := if k = 0 then [] else ws.getD (k - 1) default
theorem pairs_get : ∀ (l : Str) (ws : List Str) (k : Nat), k ≤ ws.length → (pairsL l ws).getD k default = (if k = 0 then l else ws.getD (k - 1) default, ws.getD k default)
  | l, [], 0, _ => rfl
  | l, w :: r, 0, _ => rfl
  | l, w :: r, k + 1, h => by
    have ih := pairs_get w r k (by simpa using h)
    show (pairsL w r).getD k default = _
    rw [ih]
    cases k with
    | zero => rfl
    | succ k => rfl
theorem pairs_take {ws : List Str} {k : Nat} (h : k ≤ ws.length) : (pairsL [] ws).take (k + 1) = (pairsL [] ws).take k ++ [(lastW ws k, ws.getD k default)] := by
  have hl := pairs_len [] ws
  have e := pairs_get [] ws k h
  rw [take_succD _ k (by omega), e]; rfl
theorem pairs_all {ws : List Str} : (pairsL [] ws).take ws.length ++ [(lastW ws ws.length, [])] = pairsL [] ws := by
  have h := pairs_take (ws := ws) (k := ws.length) (Nat.le_refl _)
  rw [List.take_of_length_le (by rw [pairs_len]; exact Nat.le_refl _)] at h
  have e : ws.getD ws.length default = ([] : Str) := by simp [List.getD]; rfl
  rw [e] at h; exact h.symm
theorem ins_hit : ∀ {g : List Gram} {p : Str × Str} {k : Nat}, k < g.length → (∀ j, j < k → ltP (prG (g.getD j default)) p) → ¬ ltP (prG (g.getD k default)) p → ¬ ltP p (prG (g.getD k default)) →
    insG g p = g.set k ⟨(g.getD k default).fst, (g.getD k default).snd, (g.getD k default).count + 1⟩
  | [], _, _, h, _, _, _ => by simp at h
  | x :: r, p, 0, _, _, h1, h2 => by
    have h1' : ¬ ltP (prG x) p := h1
    have e : prG x = p := ltP_tri h1' h2
    unfold insG; rw [if_neg h1', if_pos e]; rfl
  | x :: r, p, k + 1, hk, h0, h1, h2 => by
    have hx : ltP (prG x) p := h0 0 (by omega)
    have ih := ins_hit (g := r) (p := p) (k := k) (by simpa using hk) (fun j hj => h0 (j + 1) (by omega)) h1 h2
    unfold insG; rw [if_pos hx, ih]; rfl
theorem ins_new : ∀ {g : List Gram} {p : Str × Str} {k : Nat}, k ≤ g.length → (∀ j, j < k → ltP (prG (g.getD j default)) p) → (k = g.length ∨ ltP p (prG (g.getD k default))) → insG g p = g.take k ++ ⟨p.1, p.2, 1⟩ :: g.drop k
  | [], p, k, h, _, _ => by
    have : k = 0 := by simpa using h
    subst this; rfl
  | x :: r, p, 0, _, _, h1 => by
    have h2 : ltP p (prG x) := by
      rcases h1 with h1 | h1
      · simp at h1
      · exact h1
    have h3 : ¬ ltP (prG x) p := fun q => ltP_irrefl _ (ltP_trans h2 q)
    have h4 : ¬ prG x = p := fun q => ltP_irrefl p (by rwa [q] at h2)
    unfold insG; rw [if_neg h3, if_neg h4]; rfl
  | x :: r, p, k + 1, hk, h0, h1 => by
    have hx : ltP (prG x) p := h0 0 (by omega)
    have ih := ins_new (g := r) (p := p) (k := k) (by simpa using hk) (fun j hj => h0 (j + 1) (by omega)) (h1.imp_left (by simp))
    unfold insG; rw [if_pos hx, ih]; rfl
theorem gramsOf_succ {ps : List (Str × Str)} {i : Nat} (hi : i < ps.length) : gramsOf (ps.take (i + 1)) = insG (gramsOf (ps.take i)) (ps.getD i default) := by
  unfold gramsOf; rw [take_succD ps i hi, List.foldl_append]; rfl
theorem grams_step {ws : List Str} {i : Nat} (hi : i ≤ ws.length) : gramsOf ((pairsL [] ws).take (i + 1)) = insG (gramsOf ((pairsL [] ws).take i)) (lastW ws i, ws.getD i default) := by
  rw [gramsOf_succ (by rw [pairs_len]; omega), pairs_get [] ws i hi]; rfl
theorem gramsOf_len (ps : List (Str × Str)) : (gramsOf ps).length ≤ ps.length := by
  have h := gramsOk_of ps
  have hn : ((gramsOf ps).map prG).Nodup := List.pairwise_map.2 (h.1.imp fun {x y} (h : ltP (prG x) (prG y)) (e : prG x = prG y) => ltP_irrefl (prG y) (by rw [e] at h; exact h))
  have := List.Nodup.length_le_of_subset hn (l₂ := ps) (fun q hq => by
    obtain ⟨x, hx, rfl⟩ := List.mem_map.1 hq
    exact List.count_pos_iff.1 (h.2.1 x hx).1)
  rwa [List.length_map] at this
theorem gramsOf_count {ps : List (Str × Str)} {x : Gram} (hx : x ∈ gramsOf ps) : 0 < x.count ∧ x.count ≤ ps.length := by
  have h := (gramsOk_of ps).2.1 x hx
  have h2 := List.count_le_length (a := prG x) (l := ps)
  omega
theorem gramsL_len (ws : List Str) : (gramsL ws).length ≤ ws.length + 1 := by have := gramsOf_len (pairsL [] ws); rwa [pairs_len] at this
end Go.Vc
namespace Go.Proofs.YthbcklajlmcifaaGreat
open Go.RowKit Go.Vc
theorem ag_43 : aggP Tryz.prog 43 = some true := by kernel_rfl
theorem fo_103_0 : fieldP Tryz.prog 103 0 = some 0 := by kernel_rfl
theorem fo_103_1 : fieldP Tryz.prog 103 1 = some 1 := by kernel_rfl
theorem pl_103 : placesP Tryz.prog 103 = some [(0, 1), (1, 1)] := by kernel_rfl
theorem pl_74 : placesP Tryz.prog 74 = some [(0, 1), (1, 1), (2, 1)] := by kernel_rfl
theorem ty_103 : tyP Tryz.prog 103 = some (2, 32, some (.agg #[(.string ⟨#[]⟩), (.string ⟨#[]⟩)])) := by kernel_rfl
theorem ty_74 : tyP Tryz.prog 74 = some (3, 40, some (.agg #[(.string ⟨#[]⟩), (.string ⟨#[]⟩), (.int .i64 0)])) := by kernel_rfl
theorem sortG_calls {w : World} {base E : Nat} {v : Value} {l : List Gram} (h : OwnE w base E v l) : Calls Tryz.prog 53 #[v, .func (.func 54) #[] #[]] w fun e w' => e = .returned (.tuple #[]) ∧ Evo w w' v.ownBlock.toList ∧ ∃ l', SortR (ltOf cmpG) l l' ∧ OwnE w' base E v l' :=
  sortf_of (R := SortR (ltOf cmpG)) (fun l l' h => h.1.length_eq) ⟨List.Perm.refl _, List.Pairwise.nil⟩
    (fun blk off cap d w hH hb hsz => (AnyQ.slices_SortFunc Tryz.sortGram 3 Tryz.isAgg74 Tryz.sizeOf74 Enc.enc (fun x => Enc.len x) (fun x v hv => List.all_eq_true.1 (Enc.one x) v hv) cmpG swo_G 54 #[] blk off cap d w (enters_of Tryz.func54 (by kernel_rfl) rfl)
      (fun m os dk hs x y => (show Calls Tryz.prog 54 #[.agg (Enc.enc x).toArray, .agg (Enc.enc y).toArray] _ _ from cmpg_calls.mono fun e w' ⟨h1, h2, h3⟩ => ⟨h1, growD_of h2 h3⟩)) hH hb hsz).mono fun e w' ⟨he, d', n, os, hp, hs, hw⟩ => ⟨he, d', n, os, sortR_of hp hs, hw⟩)
    (fun w => AnyF.slices_SortFunc_none { Tryz.sortGram with } none 0 (.func (.func 54) #[] #[]) w) h
theorem kpair : KeyLaw Tryz.prog 103 (fun x : Str × Str => Value.agg (Enc.enc x).toArray) :=
  key_pair Tryz.underlying103 (by decide) (by decide) rfl rfl Tryz.underlying9 Tryz.underlying9 ag_9 ag_9 (fun w x y => equalIn_pair 9998 Tryz.underlying103 Tryz.stoodInHeld103 (by decide) (by decide) rfl rfl Tryz.underlying9 Tryz.underlying9 ag_9 ag_9 x y)
def wordsT (l : List Vc.Item) : List Str := (l.filter (fun x => decide (x.kind = 6))).map keyT
theorem wordsT_yes {l : List Vc.Item} {k : Nat} (hk : k < l.length) (h : (l.getD k default).kind = 6) : wordsT (l.take (k + 1)) = wordsT (l.take k) ++ [keyT (l.getD k default)] := by
  unfold wordsT; rw [take_succD l k hk, List.filter_append, List.map_append, List.filter_cons_of_pos (p := fun x : Vc.Item => decide (x.kind = 6)) (decide_eq_true h)]; rfl
theorem wordsT_no {l : List Vc.Item} {k : Nat} (hk : k < l.length) (h : ¬ (l.getD k default).kind = 6) : wordsT (l.take (k + 1)) = wordsT (l.take k) := by
  unfold wordsT; rw [take_succD l k hk, List.filter_append, List.map_append, List.filter_cons_of_neg (p := fun x : Vc.Item => decide (x.kind = 6)) (by simpa using h)]; simp
theorem wordsT_len (l : List Vc.Item) : (wordsT l).length ≤ l.length := by unfold wordsT; rw [List.length_map]; exact List.length_filter_le _ _
theorem words_calls {ao : Option Addr} {b off cap : Nat} {l : List Vc.Item} {w0 : World} (hl : RowE w0 ao b off cap l) (hq : ∀ x ∈ l, x.text.length ≤ 140737488355328) (hs : l.length ≤ 1000000) :
    Calls Tryz.prog 34 #[.slice ao l.length cap] w0 fun e w' => ∃ v, e = .returned v ∧ Evo w0 w' [] ∧ OwnE w' w0.heap.size 9 v (wordsT l) := by
 refine calls_enter (n := 22) (args := [.slice ao l.length cap]) Tryz.func34 rfl Tryz.ntmps34 rfl ?_
 have hV : Evo w0 w0 [] := Evo.refl _ _
 have hl0 := keepE hl
 have hbd_hl := hl.bd
 refine r_seq ?_
 refine r_region ?_
 refine r_op rfl rfl rfl (run_asg (v := .slice _ _ _) rfl (by exact rfl)) ?_
 refine r_nil ?_
 refine r_seq ?_
 refine r_region ?_
 refine r_op rfl rfl rfl (run_asg (v := .slice _ _ _) rfl (by exact rfl)) ?_
 refine r_nil ?_
 refine r_seq ?_
 refine r_seq ?_
 refine r_region ?_
 refine r_op rfl rfl rfl (run_mv (v := .slice _ _ _) rfl (by exact rfl)) ?_
 refine r_op rfl rfl rfl (run_lenSl rfl (by exact rfl) Tryz.underlying23) ?_
 refine r_op rfl rfl rfl (run_mv (v := .int _ _) rfl (by exact rfl)) ?_
 refine r_nil ?_
 refine r_block ?_
 refine r_loop (α := Nat) [3, 5, 8, 9, 10, 11, 12, 13, 14, 15, 16, 17, 18, 19, 20] (fun k g w => ∃ vo : Value, g 8 = .int .i64 (k : Nat) ∧ g 3 = vo ∧ k ≤ l.length ∧ OwnE w w0.heap.size 9 vo (wordsT (l.take k)) ∧ w0.heap.size ≤ w.heap.size ∧ Evo w0 w []) (fun k => l.length - k) 0 ?_ ?_
 ·refine ⟨_, (by first | exact rfl | exact congrArg (Value.int _) (by omega) | exact congrArg (Value.int _) (by dsimp only; omega) | exact congrArg (Value.int _) (by simp) | exact congrArg S (by simp)), rfl, (by first | assumption | omega | (dsimp only; omega) | (simp; done)), (OwnE.nil _ _ _), (by first | assumption | omega | (dsimp only; omega) | (simp; done)), hV⟩
 ·rintro k g w2 ⟨vo, hj3, hj4, hk_k, hoo, hzl1, hV⟩
  have hs_w2hV := hV.size
  replace hl := hl0 _ hV
  refine r_know (i := 8) (v := .int .i64 (k : Nat)) (by exact hj3) ?_
  refine r_know (i := 3) (v := vo) (by exact hj4) ?_
  refine r_seq ?_
  refine r_region ?_
  refine r_op rfl rfl rfl (run_lss rfl (by exact rfl) (by exact rfl)) ?_
  refine r_nil ?_
  refine r_seq ?_
  refine r_cond (by exact rfl) (fun hc5 => ?_) (fun hc5 => ?_)
  ·skip
   refine r_skip ?_
   refine r_seq ?_
   refine r_block ?_
   refine r_seq ?_
   refine r_region ?_
   refine r_op rfl rfl rfl (run_ix (k) rfl Tryz.underlying23 ty_43 (by exact rfl) (by exact rfl) (by first | exact rfl | omega) (by omega) (hl.addr (i := k) (by omega))) ?_
   have hA60 := fun (w' : World) (h : Evo w0 w' []) => (hl0 w' h).atD (k) (by omega)
   have hA6 := hA60 _ hV
   refine r_op rfl rfl rfl (run_ldN rfl ag_43 ty_43 (by exact rfl) rfl hA6) ?_
   have hob7 := fun g hg => (hoo.block (g := g) hg).2
   refine r_var (zs := [_, _, _]) (vs := [_, _, _]) ty_43 (by exact rfl) rfl (by exact rfl) (fun _ => rfl) (by exact rfl) rfl rfl (by exact rfl) ?_
   intro b8 w9 heb8 hEw9 hbb8 hzb8
   have hs_w9 := (hEw9).size
   replace hV := evo_step0 hV hEw9
   replace hl := hl0 _ hV
   replace hoo := hoo.evo0 hEw9
   have hAb8 := hbb8.at
   refine r_nil ?_
   refine r_seq ?_
   refine r_region ?_
   refine r_op rfl rfl rfl (run_fa rfl (by exact rfl) fo_43_0) ?_
   refine r_op rfl rfl rfl (run_ld1 rfl ag_3 (by exact rfl) (hAb8.cell 0 (by exact rfl))) ?_
   refine r_op rfl rfl rfl (run_eql rfl (by exact rfl) (by exact rfl)) ?_
   refine r_nil ?_
   refine r_cond (by exact rfl) (fun hc10 => ?_) (fun hc10 => ?_)
   ·skip
    have hqk := hq _ (getD_in (show k < l.length by omega)); have hwl := wordsT_len (l.take k); have hwt : (l.take k).length ≤ k := List.length_take_le _ _
    refine r_region ?_
    refine r_op rfl rfl rfl (run_mv (v := vo) rfl (by exact rfl)) ?_
    refine r_op rfl rfl rfl (run_ldN rfl ag_43 ty_43 (by exact rfl) rfl hAb8) ?_
    refine r_opcall rfl rfl rfl (run_callf (vs := [.agg _]) rfl (by exact rfl) Tryz.func57 rfl (by kernel_rfl)) (tkey_calls hqk) ?_
    rintro e w11 ⟨rfl, hE11⟩
    refine ⟨_, rfl, ?_⟩
    have hs_w11 := (hE11).size
    replace hV := evo_step0 hV hE11
    replace hl := hl0 _ hV
    replace hoo := hoo.evo0 hE11
    refine r_append1E (u := S _) (y := _) rfl rfl Tryz.underlying81 ty_9 (by exact rfl) hoo (fun _ => (by exact rfl)) (by exact rfl) (by first | exact rfl | (show _ = List.toArray [_]; first | (dsimp only; done) | exact rfl | (dsimp only; exact rfl))) ((by omega)) ((by omega)) (by omega) ?_
    intro q_v12 v12 w13 hEw13 hov12 hlv12
    have hs_w13 := (hEw13).size
    replace hV := evo_stepo hV hEw13 (fun g hg => .inl (by first | exact (hoo.block hg).1 | (have := hoo.block hg; omega)))
    replace hl := hl0 _ hV
    refine r_op rfl rfl rfl (run_asg (v := v12) rfl (by exact rfl)) ?_
    refine r_nil ?_
    refine r_blk ?_
    refine r_region ?_
    refine r_op rfl rfl rfl (run_add rfl (by exact rfl) (by exact rfl) (by omega) (by omega)) ?_
    refine r_op rfl rfl rfl (run_mv (v := .int _ _) rfl (by exact rfl)) ?_
    refine r_nil ?_
    refine r_again (k + 1) ?_ ?_ ?_
    ·first | omega | (dsimp only; omega)
    ·refine ⟨_, (by first | exact rfl | exact congrArg (Value.int _) (by omega) | exact congrArg (Value.int _) (by dsimp only; omega) | exact congrArg (Value.int _) (by simp) | exact congrArg S (by simp)), rfl, (by first | assumption | omega | (dsimp only; omega) | (simp; done)), (by first | (rw [wordsT_yes (by omega) hc10]; exact hov12) | (rw [wordsT_no (by omega) hc10]; exact hov12)), (by first | assumption | omega | (dsimp only; omega) | (simp; done)), hV⟩
    ·repeat (first | (with_reducible exact Agree.merge _ _ _) | (with_reducible exact Agree.refl _ _) | (with_reducible refine Agree.upd ?_ _ _ rfl) | ((with_reducible refine Agree.inner ?_ ?_); (kernel_rfl)))
   ·skip
    refine r_skip ?_
    refine r_blk ?_
    refine r_region ?_
    refine r_op rfl rfl rfl (run_add rfl (by exact rfl) (by exact rfl) (by omega) (by omega)) ?_
    refine r_op rfl rfl rfl (run_mv (v := .int _ _) rfl (by exact rfl)) ?_
    refine r_nil ?_
    refine r_again (k + 1) ?_ ?_ ?_
    ·first | omega | (dsimp only; omega)
    ·refine ⟨_, (by first | exact rfl | exact congrArg (Value.int _) (by omega) | exact congrArg (Value.int _) (by dsimp only; omega) | exact congrArg (Value.int _) (by simp) | exact congrArg S (by simp)), rfl, (by first | assumption | omega | (dsimp only; omega) | (simp; done)), (by first | (rw [wordsT_yes (by omega) hc10]; exact hoo) | (rw [wordsT_no (by omega) hc10]; exact hoo)), (by first | assumption | omega | (dsimp only; omega) | (simp; done)), hV⟩
    ·repeat (first | (with_reducible exact Agree.merge _ _ _) | (with_reducible exact Agree.refl _ _) | (with_reducible refine Agree.upd ?_ _ _ rfl) | ((with_reducible refine Agree.inner ?_ ?_); (kernel_rfl)))
  ·skip
   refine r_exit rfl ?_
   refine r_seq ?_
   refine r_region ?_
   refine r_op rfl rfl rfl (run_mv (v := vo) rfl (by exact rfl)) ?_
   refine r_op rfl rfl rfl (run_asg (v := vo) rfl (by exact rfl)) ?_
   refine r_nil ?_
   refine r_ret (res1 (v := vo) rfl (by exact rfl)) ?_
   exact ⟨_, rfl, hV, by rw [List.take_of_length_le (by omega)] at hoo; exact hoo⟩
theorem rwords_calls {ao : Option Addr} {b off cap : Nat} {l : List Vc.Item} {w0 : World} (hl : RowE w0 ao b off cap l) (hq : ∀ x ∈ l, x.text.length ≤ 140737488355328) (hs : l.length ≤ 1000000) :
    Calls Tryz.prog 42 #[.slice ao l.length cap] w0 fun e w' => ∃ v, e = .returned v ∧ Evo w0 w' [] ∧ OwnE w' w0.heap.size 9 v (wordsT l) := by
 refine calls_enter (n := 22) (args := [.slice ao l.length cap]) Tryz.func42 rfl Tryz.ntmps42 rfl ?_
 have hV : Evo w0 w0 [] := Evo.refl _ _
 have hl0 := keepE hl
 have hbd_hl := hl.bd
 refine r_seq ?_
 refine r_region ?_
 refine r_op rfl rfl rfl (run_asg (v := .slice _ _ _) rfl (by exact rfl)) ?_
 refine r_nil ?_
 refine r_seq ?_
 refine r_region ?_
 refine r_op rfl rfl rfl (run_asg (v := .slice _ _ _) rfl (by exact rfl)) ?_
 refine r_nil ?_
 refine r_seq ?_
 refine r_seq ?_
 refine r_region ?_
 refine r_op rfl rfl rfl (run_mv (v := .slice _ _ _) rfl (by exact rfl)) ?_
 refine r_op rfl rfl rfl (run_lenSl rfl (by exact rfl) Tryz.underlying23) ?_
 refine r_op rfl rfl rfl (run_mv (v := .int _ _) rfl (by exact rfl)) ?_
 refine r_nil ?_
 refine r_block ?_
 refine r_loop (α := Nat) [3, 5, 8, 9, 10, 11, 12, 13, 14, 15, 16, 17, 18, 19, 20] (fun k g w => ∃ vo : Value, g 8 = .int .i64 (k : Nat) ∧ g 3 = vo ∧ k ≤ l.length ∧ OwnE w w0.heap.size 9 vo (wordsT (l.take k)) ∧ w0.heap.size ≤ w.heap.size ∧ Evo w0 w []) (fun k => l.length - k) 0 ?_ ?_
 ·refine ⟨_, (by first | exact rfl | exact congrArg (Value.int _) (by omega) | exact congrArg (Value.int _) (by dsimp only; omega) | exact congrArg (Value.int _) (by simp) | exact congrArg S (by simp)), rfl, (by first | assumption | omega | (dsimp only; omega) | (simp; done)), (OwnE.nil _ _ _), (by first | assumption | omega | (dsimp only; omega) | (simp; done)), hV⟩
 ·rintro k g w2 ⟨vo, hj3, hj4, hk_k, hoo, hzl1, hV⟩
  have hs_w2hV := hV.size
  replace hl := hl0 _ hV
  refine r_know (i := 8) (v := .int .i64 (k : Nat)) (by exact hj3) ?_
  refine r_know (i := 3) (v := vo) (by exact hj4) ?_
  refine r_seq ?_
  refine r_region ?_
  refine r_op rfl rfl rfl (run_lss rfl (by exact rfl) (by exact rfl)) ?_
  refine r_nil ?_
  refine r_seq ?_
  refine r_cond (by exact rfl) (fun hc5 => ?_) (fun hc5 => ?_)
  ·skip
   refine r_skip ?_
   refine r_seq ?_
   refine r_block ?_
   refine r_seq ?_
   refine r_region ?_
   refine r_op rfl rfl rfl (run_ix (k) rfl Tryz.underlying23 ty_43 (by exact rfl) (by exact rfl) (by first | exact rfl | omega) (by omega) (hl.addr (i := k) (by omega))) ?_
   have hA60 := fun (w' : World) (h : Evo w0 w' []) => (hl0 w' h).atD (k) (by omega)
   have hA6 := hA60 _ hV
   refine r_op rfl rfl rfl (run_ldN rfl ag_43 ty_43 (by exact rfl) rfl hA6) ?_
   have hob7 := fun g hg => (hoo.block (g := g) hg).2
   refine r_var (zs := [_, _, _]) (vs := [_, _, _]) ty_43 (by exact rfl) rfl (by exact rfl) (fun _ => rfl) (by exact rfl) rfl rfl (by exact rfl) ?_
   intro b8 w9 heb8 hEw9 hbb8 hzb8
   have hs_w9 := (hEw9).size
   replace hV := evo_step0 hV hEw9
   replace hl := hl0 _ hV
   replace hoo := hoo.evo0 hEw9
   have hAb8 := hbb8.at
   refine r_nil ?_
   refine r_seq ?_
   refine r_region ?_
   refine r_op rfl rfl rfl (run_fa rfl (by exact rfl) fo_43_0) ?_
   refine r_op rfl rfl rfl (run_ld1 rfl ag_3 (by exact rfl) (hAb8.cell 0 (by exact rfl))) ?_
   refine r_op rfl rfl rfl (run_eql rfl (by exact rfl) (by exact rfl)) ?_
   refine r_nil ?_
   refine r_cond (by exact rfl) (fun hc10 => ?_) (fun hc10 => ?_)
   ·skip
    have hqk := hq _ (getD_in (show k < l.length by omega)); have hwl := wordsT_len (l.take k); have hwt : (l.take k).length ≤ k := List.length_take_le _ _
    refine r_region ?_
    refine r_op rfl rfl rfl (run_mv (v := vo) rfl (by exact rfl)) ?_
    refine r_op rfl rfl rfl (run_ldN rfl ag_43 ty_43 (by exact rfl) rfl hAb8) ?_
    refine r_opcall rfl rfl rfl (run_callf (vs := [.agg _]) rfl (by exact rfl) Tryz.func71 rfl (by kernel_rfl)) (rkey_calls hqk) ?_
    rintro e w11 ⟨rfl, hE11⟩
    refine ⟨_, rfl, ?_⟩
    have hs_w11 := (hE11).size
    replace hV := evo_step0 hV hE11
    replace hl := hl0 _ hV
    replace hoo := hoo.evo0 hE11
    refine r_append1E (u := S _) (y := _) rfl rfl Tryz.underlying81 ty_9 (by exact rfl) hoo (fun _ => (by exact rfl)) (by exact rfl) (by first | exact rfl | (show _ = List.toArray [_]; first | (dsimp only; done) | exact rfl | (dsimp only; exact rfl))) ((by omega)) ((by omega)) (by omega) ?_
    intro q_v12 v12 w13 hEw13 hov12 hlv12
    have hs_w13 := (hEw13).size
    replace hV := evo_stepo hV hEw13 (fun g hg => .inl (by first | exact (hoo.block hg).1 | (have := hoo.block hg; omega)))
    replace hl := hl0 _ hV
    refine r_op rfl rfl rfl (run_asg (v := v12) rfl (by exact rfl)) ?_
    refine r_nil ?_
    refine r_blk ?_
    refine r_region ?_
    refine r_op rfl rfl rfl (run_add rfl (by exact rfl) (by exact rfl) (by omega) (by omega)) ?_
    refine r_op rfl rfl rfl (run_mv (v := .int _ _) rfl (by exact rfl)) ?_
    refine r_nil ?_
    refine r_again (k + 1) ?_ ?_ ?_
    ·first | omega | (dsimp only; omega)
    ·refine ⟨_, (by first | exact rfl | exact congrArg (Value.int _) (by omega) | exact congrArg (Value.int _) (by dsimp only; omega) | exact congrArg (Value.int _) (by simp) | exact congrArg S (by simp)), rfl, (by first | assumption | omega | (dsimp only; omega) | (simp; done)), (by first | (rw [wordsT_yes (by omega) hc10]; exact hov12) | (rw [wordsT_no (by omega) hc10]; exact hov12)), (by first | assumption | omega | (dsimp only; omega) | (simp; done)), hV⟩
    ·repeat (first | (with_reducible exact Agree.merge _ _ _) | (with_reducible exact Agree.refl _ _) | (with_reducible refine Agree.upd ?_ _ _ rfl) | ((with_reducible refine Agree.inner ?_ ?_); (kernel_rfl)))
   ·skip
    refine r_skip ?_
    refine r_blk ?_
    refine r_region ?_
    refine r_op rfl rfl rfl (run_add rfl (by exact rfl) (by exact rfl) (by omega) (by omega)) ?_
    refine r_op rfl rfl rfl (run_mv (v := .int _ _) rfl (by exact rfl)) ?_
    refine r_nil ?_
    refine r_again (k + 1) ?_ ?_ ?_
    ·first | omega | (dsimp only; omega)
    ·refine ⟨_, (by first | exact rfl | exact congrArg (Value.int _) (by omega) | exact congrArg (Value.int _) (by dsimp only; omega) | exact congrArg (Value.int _) (by simp) | exact congrArg S (by simp)), rfl, (by first | assumption | omega | (dsimp only; omega) | (simp; done)), (by first | (rw [wordsT_yes (by omega) hc10]; exact hoo) | (rw [wordsT_no (by omega) hc10]; exact hoo)), (by first | assumption | omega | (dsimp only; omega) | (simp; done)), hV⟩
    ·repeat (first | (with_reducible exact Agree.merge _ _ _) | (with_reducible exact Agree.refl _ _) | (with_reducible refine Agree.upd ?_ _ _ rfl) | ((with_reducible refine Agree.inner ?_ ?_); (kernel_rfl)))
  ·skip
   refine r_exit rfl ?_
   refine r_seq ?_
   refine r_region ?_
   refine r_op rfl rfl rfl (run_mv (v := vo) rfl (by exact rfl)) ?_
   refine r_op rfl rfl rfl (run_asg (v := vo) rfl (by exact rfl)) ?_
   refine r_nil ?_
   refine r_ret (res1 (v := vo) rfl (by exact rfl)) ?_
   exact ⟨_, rfl, hV, by rw [List.take_of_length_le (by omega)] at hoo; exact hoo⟩
def gp (x : Gram) : (Str × Str) × Int := (prG x, x.count)
theorem getM_memP {α : Type} [DecidableEq α] : ∀ {m : List (α × Int)} {p : α × Int}, (m.map (·.1)).Nodup → p ∈ m → getM m p.1 = some p.2
  | q :: m, p, hn, hp => by
    obtain ⟨h1, h2⟩ := List.nodup_cons.1 hn
    rw [getM_cons]
    rcases List.mem_cons.1 hp with rfl | hp
    · rw [if_pos rfl]
    · rw [if_neg (fun e => h1 (by show q.1 ∈ _; rw [e]; exact List.mem_map_of_mem hp)), getM_memP h2 hp]
theorem getM_memQ {α : Type} [DecidableEq α] {m : List (α × Int)} {a : α} {v : Int} (h : getM m a = some v) : (a, v) ∈ m := by
  unfold getM at h
  cases e : m.find? (fun p => decide (p.1 = a)) with
  | none => rw [e] at h; cases h
  | some p =>
    rw [e] at h
    have h1 : p.2 = v := by simpa using h
    have h2 : p.1 = a := by simpa using List.find?_some e
    have h3 := List.mem_of_find?_eq_some e
    rw [← h1, ← h2]; exact h3
theorem grams_done {ws : List Str} {m : List ((Str × Str) × Int)} {g g' : List Gram} (hm : ∀ x, getM m x = cntO (pairsL [] ws) x) (hn : (m.map (·.1)).Nodup) (hp : (g.map gp).Perm m) (hs : SortR (ltOf cmpG) g g') : g' = gramsL ws := by
  have hk : (g.map prG) = (g.map gp).map (·.1) := by rw [List.map_map]; rfl
  refine grams_unique (gramsOk_sort (ps := pairsL [] ws) hs ?_ (fun x hx => ?_) (fun p hp' => ?_)) (gramsOk_of _)
  · rw [hk]; exact ((hp.map (·.1)).nodup_iff).2 hn
  · have h1 : gp x ∈ m := hp.mem_iff.1 (List.mem_map_of_mem hx)
    have h2 := getM_memP hn h1
    rw [hm] at h2
    unfold cntO at h2
    by_cases h3 : (gp x).1 ∈ pairsL [] ws
    · rw [if_pos h3] at h2
      injection h2 with h2
      exact ⟨List.count_pos_iff.2 h3, h2.symm⟩
    · rw [if_neg h3] at h2; cases h2
  · have h1 : getM m p = some (((pairsL [] ws).count p : Nat) : Int) := by rw [hm]; exact if_pos hp'
    have h2 := hp.mem_iff.2 (getM_memQ h1)
    obtain ⟨x, hx, e⟩ := List.mem_map.1 h2
    exact ⟨x, hx, congrArg Prod.fst e⟩
theorem grams_mlen {ws : List Str} {m : List ((Str × Str) × Int)} (hm : ∀ x, getM m x = cntO (pairsL [] ws) x) (hn : (m.map (·.1)).Nodup) : m.length ≤ ws.length + 1 := by
  have h := List.Nodup.length_le_of_subset hn (l₂ := pairsL [] ws) (fun x hx => by
    obtain ⟨p, hp, rfl⟩ := List.mem_map.1 hx
    have h2 := getM_memP hn hp
    rw [hm] at h2
    unfold cntO at h2
    by_cases h3 : p.1 ∈ pairsL [] ws
    · exact h3
    · rw [if_neg h3] at h2; cases h2)
  rw [List.length_map, pairs_len] at h; exact h
theorem perm_step {α β : Type} {f : α → β} {g : List α} {l1 l2 : List β} {p : β} {x : α} {m : List β} (h : (g.map f ++ (l1 ++ p :: l2)).Perm m) (hx : f x = p) : ((g ++ [x]).map f ++ (l1 ++ l2)).Perm m := by
  refine List.Perm.trans ?_ h
  rw [List.map_append, List.append_assoc]
  refine List.Perm.append_left _ ?_
  show (f x :: (l1 ++ l2)).Perm _
  rw [hx]
  exact List.perm_middle.symm
set_option maxHeartbeats 1000000 in
theorem grams_calls {ao : Option Addr} {b off cap : Nat} {ws : List Str} {w0 : World} (hl : RowE w0 ao b off cap ws) (hs : ws.length ≤ 1000000) :
    Calls Tryz.prog 33 #[.slice ao ws.length cap] w0 fun e w' => ∃ v, e = .returned v ∧ Evo w0 w' [] ∧ OwnE w' w0.heap.size 74 v (gramsL ws) := by
 refine calls_enter (n := 53) (args := [.slice ao ws.length cap]) Tryz.func33 rfl Tryz.ntmps33 rfl ?_
 have hV : Evo w0 w0 [] := Evo.refl _ _
 have hl0 := keepE hl
 have hbd_hl := hl.bd
 refine r_seq ?_
 refine r_region ?_
 refine r_op rfl rfl rfl (run_asg (v := .slice _ _ _) rfl (by exact rfl)) ?_
 refine r_nil ?_
 refine r_seq ?_
 refine r_region ?_
 refine r_makeMap (α := Str × Str) (β := Int) (fun x : Str × Str => Value.agg (Enc.enc x).toArray) (Value.int .i64) rfl ?_
 intro b1 w2 heb1 hEw2 hmb1 hzb1
 have hs_w2 := (hEw2).size
 replace hV := evo_step0 hV hEw2
 replace hl := hl0 _ hV
 refine r_op rfl rfl rfl (run_asg (v := .map _) rfl (by exact rfl)) ?_
 refine r_nil ?_
 refine r_seq ?_
 refine r_region ?_
 refine r_op rfl rfl rfl (run_asg (v := S _) rfl (by exact rfl)) ?_
 refine r_nil ?_
 refine r_seq ?_
 refine r_seq ?_
 refine r_region ?_
 refine r_op rfl rfl rfl (run_mv (v := .slice _ _ _) rfl (by exact rfl)) ?_
 refine r_op rfl rfl rfl (run_lenSl rfl (by exact rfl) Tryz.underlying81) ?_
 refine r_op rfl rfl rfl (run_mv (v := .int _ _) rfl (by exact rfl)) ?_
 refine r_nil ?_
 refine r_block ?_
 refine r_loop (α := Nat) [4, 6, 13, 14, 15, 16, 17, 18, 19, 20, 21, 22, 23, 24, 25, 26] (fun k g w => ∃ m : List ((Str × Str) × Int), g 13 = .int .i64 (k : Nat) ∧ g 4 = S (lastW ws k) ∧ k ≤ ws.length ∧ MapIs w b1 (fun x : Str × Str => Value.agg (Enc.enc x).toArray) (Value.int .i64) m ∧ (∀ x, getM m x = cntO ((pairsL [] ws).take k) x) ∧ w2.heap.size ≤ w.heap.size ∧ Evo w0 w []) (fun k => ws.length - k) 0 ?_ ?_
 ·refine ⟨_, (by first | exact rfl | exact congrArg (Value.int _) (by omega) | exact congrArg (Value.int _) (by dsimp only; omega) | exact congrArg (Value.int _) (by simp) | exact congrArg S (by simp)), rfl, (by first | assumption | omega | (dsimp only; omega) | (simp; done)), hmb1, (fun x => (cntO_nil x).symm), (by first | assumption | omega | (dsimp only; omega) | (simp; done)), hV⟩
 ·rintro k g w4 ⟨m, hj5, hj6, hk_k, hmb1, hmm, hzl3, hV⟩
  have hs_w4hV := hV.size
  have hlt7 := hmb1.lt
  replace hl := hl0 _ hV
  refine r_know (i := 13) (v := .int .i64 (k : Nat)) (by exact hj5) ?_
  refine r_know (i := 4) (v := S (lastW ws k)) (by exact hj6) ?_
  refine r_seq ?_
  refine r_region ?_
  refine r_op rfl rfl rfl (run_lss rfl (by exact rfl) (by exact rfl)) ?_
  refine r_nil ?_
  refine r_seq ?_
  refine r_cond (by exact rfl) (fun hc8 => ?_) (fun hc8 => ?_)
  ·skip
   refine r_skip ?_
   refine r_seq ?_
   refine r_block ?_
   refine r_seq ?_
   refine r_region ?_
   refine r_op rfl rfl rfl (run_ix (k) rfl Tryz.underlying81 ty_9 (by exact rfl) (by exact rfl) (by first | exact rfl | omega) (by omega) (hl.addr (i := k) (by omega))) ?_
   have hA90 := fun (w' : World) (h : Evo w0 w' []) => (hl0 w' h).atD (k) (by omega)
   have hA9 := hA90 _ hV
   refine r_op rfl rfl rfl (run_ld1 rfl ag_9 (by exact rfl) (hA9.cell 0 (by exact rfl))) ?_
   refine r_op rfl rfl rfl (run_asg (v := S _) rfl (by exact rfl)) ?_
   refine r_nil ?_
   refine r_seq ?_
   have hA9 := hmm (lastW ws k, ws.getD k default); have hB9 : (getM (setM m (lastW ws k, ws.getD k default) ((getM m (lastW ws k, ws.getD k default)).getD 0)) (lastW ws k, ws.getD k default)).getD 0 = (getM m (lastW ws k, ws.getD k default)).getD 0 := by rw [getM_setM, if_pos rfl]; rfl
   have hC9 : (getM m (lastW ws k, ws.getD k default)).getD 0 = (((pairsL [] ws).take k).count (lastW ws k, ws.getD k default) : Nat) := by rw [hA9, cntO_get]
   have hl9 := List.count_le_length (a := (lastW ws k, ws.getD k default)) (l := (pairsL [] ws).take k); have hm9 := List.length_take_le k (pairsL [] ws)
   refine r_cut [17, 18, 19, 20, 21, 22, 23, 24] (fun g w => ∃ m2 : List ((Str × Str) × Int), MapIs w b1 (fun x : Str × Str => Value.agg (Enc.enc x).toArray) (Value.int .i64) m2 ∧ Bump m m2 (lastW ws k, ws.getD k default) 1 ∧ w4.heap.size ≤ w.heap.size ∧ Evo w0 w []) ?_ ?_
   ·skip
    have hmb1_q := hmb1
    have hV_q := hV
    refine h_region ([b1]) (by kernel_rfl) ?_
    intro w11 hE12 hC13
    have hs_w11 := (hE12).size
    replace hV := evo_step0 hV hE12
    replace hl := hl0 _ hV
    replace hmb1 := hmb1.evo0 hE12
    refine h_take (i := 0) (by exact rfl) rfl rfl rfl (by kernel_rfl) (fun w' hC => run_mv (v := .map _) rfl (by exact rfl)) hC13 ?_
    refine h_take (i := 1) (by exact rfl) rfl rfl rfl (by kernel_rfl) (fun w' hC => run_mv (v := S _) rfl (by exact rfl)) hC13 ?_
    refine h_take (i := 2) (by exact rfl) rfl rfl rfl (by kernel_rfl) (fun w' hC => run_mv (v := S _) rfl (by exact rfl)) hC13 ?_
    refine h_take (i := 3) (by exact rfl) rfl rfl rfl (by kernel_rfl) (fun w' hC => run_bld (pv := [(0, S _), (1, S _)]) (zs := [_, _]) (cells := [_, _]) rfl ty_103 (by exact rfl) pl_103 (by exact rfl) (by exact rfl)) hC13 ?_
    refine h_two (i := 4) (j := 6) (by kernel_rfl) ?_ ?_
    ·skip
     refine h_do (by exact rfl) ?_
     refine r_op rfl rfl rfl (run_lookup1 (a := (lastW ws k, ws.getD k default)) (z := 0) (v := .int _ _) kpair rfl Tryz.underlying101 ty_3 (by exact rfl) (by exact rfl) hmb1 rfl) ?_
     refine h_next hC13 ?_
     refine h_take (i := 5) (by exact rfl) rfl rfl rfl (by kernel_rfl) (fun w' hC => run_add rfl (by exact rfl) (by exact rfl) (by omega) (by omega)) hC13 ?_
     refine h_one (i := 6) (by kernel_rfl) ?_
     refine h_do (by exact rfl) ?_
     refine r_mapEntry (a := (lastW ws k, ws.getD k default)) (z := 0) kpair rfl Tryz.underlying101 ty_3 (by exact rfl) (by exact rfl) hmb1 ?_
     intro s14 w14 hE14 hzw14 hm_new hst14
     have hs_w14 := (hE14).size
     replace hV := evo_step1 hV hE14 (by first | exact .inl (by omega) | exact .inr (by simp))
     replace hC13 := evo_step1 hC13 hE14 (by first | exact .inl (by omega) | exact .inr (by simp))
     replace hl := hl0 _ hV
     replace hmb1 := hm_new
     clear hm_new
     refine h_next hC13 ?_
     refine h_take (i := 7) (by exact rfl) rfl rfl rfl (by kernel_rfl) (fun w' hC => run_extract (v := .int _ _) rfl (by exact rfl) (by exact rfl)) hC13 ?_
     refine h_one (i := 8) (by kernel_rfl) ?_
     refine h_do (by exact rfl) ?_
     refine r_entryStore (a := (lastW ws k, ws.getD k default)) kpair (by exact rfl) (by exact rfl) (by exact rfl) hmb1 hst14 ?_
     intro w15 hE15 hzw15 hm_new
     have hs_w15 := (hE15).size
     replace hV := evo_step1 hV hE15 (by first | exact .inl (by omega) | exact .inr (by simp))
     replace hl := hl0 _ hV
     replace hmb1 := hm_new
     clear hm_new
     refine h_last (by kernel_rfl) ?_
     refine h_done (by kernel_rfl) ?_
     refine r_cut_end ?_ ?_
     ·refine ⟨_, hmb1, (by first | exact bumpF 1 | exact bumpT 1), (by first | assumption | omega | (dsimp only; omega) | (simp; done)), hV⟩
     ·repeat (first | (with_reducible exact Agree.merge _ _ _) | (with_reducible exact Agree.refl _ _) | (with_reducible refine Agree.upd ?_ _ _ rfl) | ((with_reducible refine Agree.inner ?_ ?_); (kernel_rfl)))
    ·skip
     refine h_do (by exact rfl) ?_
     refine r_mapEntry (a := (lastW ws k, ws.getD k default)) (z := 0) kpair rfl Tryz.underlying101 ty_3 (by exact rfl) (by exact rfl) hmb1 ?_
     intro s16 w16 hE16 hzw16 hm_new hst16
     have hs_w16 := (hE16).size
     replace hV := evo_step1 hV hE16 (by first | exact .inl (by omega) | exact .inr (by simp))
     replace hC13 := evo_step1 hC13 hE16 (by first | exact .inl (by omega) | exact .inr (by simp))
     replace hl := hl0 _ hV
     replace hmb1 := hm_new
     clear hm_new
     refine h_next hC13 ?_
     refine h_take (i := 7) (by exact rfl) rfl rfl rfl (by kernel_rfl) (fun w' hC => run_extract (v := .int _ _) rfl (by exact rfl) (by exact rfl)) hC13 ?_
     refine h_one (i := 4) (by kernel_rfl) ?_
     refine h_do (by exact rfl) ?_
     refine r_op rfl rfl rfl (run_lookup1 (a := (lastW ws k, ws.getD k default)) (z := 0) (v := .int _ _) kpair rfl Tryz.underlying101 ty_3 (by exact rfl) (by exact rfl) hmb1 rfl) ?_
     refine h_next hC13 ?_
     refine h_take (i := 5) (by exact rfl) rfl rfl rfl (by kernel_rfl) (fun w' hC => run_add rfl (by exact rfl) (by exact rfl) (by omega) (by omega)) hC13 ?_
     refine h_one (i := 8) (by kernel_rfl) ?_
     refine h_do (by exact rfl) ?_
     refine r_entryStore (a := (lastW ws k, ws.getD k default)) kpair (by exact rfl) (by exact rfl) (by exact rfl) hmb1 hst16 ?_
     intro w17 hE17 hzw17 hm_new
     have hs_w17 := (hE17).size
     replace hV := evo_step1 hV hE17 (by first | exact .inl (by omega) | exact .inr (by simp))
     replace hl := hl0 _ hV
     replace hmb1 := hm_new
     clear hm_new
     refine h_last (by kernel_rfl) ?_
     refine h_done (by kernel_rfl) ?_
     refine r_cut_end ?_ ?_
     ·refine ⟨_, hmb1, (by first | exact bumpF 1 | exact bumpT 1), (by first | assumption | omega | (dsimp only; omega) | (simp; done)), hV⟩
     ·repeat (first | (with_reducible exact Agree.merge _ _ _) | (with_reducible exact Agree.refl _ _) | (with_reducible refine Agree.upd ?_ _ _ rfl) | ((with_reducible refine Agree.inner ?_ ?_); (kernel_rfl)))
   ·rintro g w18 ⟨m2, hmb1, hm2, hzl10, hV⟩
    have hs_w18hV := hV.size
    have hlt19 := hmb1.lt
    replace hl := hl0 _ hV
    replace hA9 := hA90 _ hV
    refine r_region ?_
    refine r_op rfl rfl rfl (run_mv (v := S _) rfl (by exact rfl)) ?_
    refine r_op rfl rfl rfl (run_asg (v := S _) rfl (by exact rfl)) ?_
    refine r_nil ?_
    refine r_blk ?_
    refine r_region ?_
    refine r_op rfl rfl rfl (run_add rfl (by exact rfl) (by exact rfl) (by omega) (by omega)) ?_
    refine r_op rfl rfl rfl (run_mv (v := .int _ _) rfl (by exact rfl)) ?_
    refine r_nil ?_
    refine r_again (k + 1) ?_ ?_ ?_
    ·first | omega | (dsimp only; omega)
    ·refine ⟨_, (by first | exact rfl | exact congrArg (Value.int _) (by omega) | exact congrArg (Value.int _) (by dsimp only; omega) | exact congrArg (Value.int _) (by simp) | exact congrArg S (by simp)), (congrArg S (by unfold lastW; rw [if_neg (by omega)]; rfl)), (by first | assumption | omega | (dsimp only; omega) | (simp; done)), hmb1, (by rw [pairs_take (by omega)]; exact cntO_snoc hmm hm2), (by first | assumption | omega | (dsimp only; omega) | (simp; done)), hV⟩
    ·repeat (first | (with_reducible exact Agree.merge _ _ _) | (with_reducible exact Agree.refl _ _) | (with_reducible refine Agree.upd ?_ _ _ rfl) | ((with_reducible refine Agree.inner ?_ ?_); (kernel_rfl)))
  ·skip
   refine r_exit rfl ?_
   refine r_seq ?_
   obtain rfl : k = ws.length := by omega
   have hA9 := hmm (lastW ws ws.length, []); have hB9 : (getM (setM m (lastW ws ws.length, []) ((getM m (lastW ws ws.length, [])).getD 0)) (lastW ws ws.length, [])).getD 0 = (getM m (lastW ws ws.length, [])).getD 0 := by rw [getM_setM, if_pos rfl]; rfl
   have hC9 : (getM m (lastW ws ws.length, [])).getD 0 = (((pairsL [] ws).take ws.length).count (lastW ws ws.length, []) : Nat) := by rw [hA9, cntO_get]
   have hl9 := List.count_le_length (a := (lastW ws ws.length, [])) (l := (pairsL [] ws).take ws.length); have hm9 := List.length_take_le ws.length (pairsL [] ws)
   refine r_cut [27, 28, 29, 30, 31, 32, 33] (fun g w => ∃ m2 : List ((Str × Str) × Int), MapIs w b1 (fun x : Str × Str => Value.agg (Enc.enc x).toArray) (Value.int .i64) m2 ∧ Bump m m2 (lastW ws ws.length, []) 1 ∧ w4.heap.size ≤ w.heap.size ∧ Evo w0 w []) ?_ ?_
   ·skip
    have hmb1_q := hmb1
    have hV_q := hV
    refine h_region ([b1]) (by kernel_rfl) ?_
    intro w21 hE22 hC23
    have hs_w21 := (hE22).size
    replace hV := evo_step0 hV hE22
    replace hl := hl0 _ hV
    replace hmb1 := hmb1.evo0 hE22
    refine h_take (i := 0) (by exact rfl) rfl rfl rfl (by kernel_rfl) (fun w' hC => run_mv (v := .map _) rfl (by exact rfl)) hC23 ?_
    refine h_take (i := 1) (by exact rfl) rfl rfl rfl (by kernel_rfl) (fun w' hC => run_mv (v := S _) rfl (by exact rfl)) hC23 ?_
    refine h_take (i := 2) (by exact rfl) rfl rfl rfl (by kernel_rfl) (fun w' hC => run_bld (pv := [(0, S _), (1, S _)]) (zs := [_, _]) (cells := [_, _]) rfl ty_103 (by exact rfl) pl_103 (by exact rfl) (by exact rfl)) hC23 ?_
    refine h_two (i := 3) (j := 5) (by kernel_rfl) ?_ ?_
    ·skip
     refine h_do (by exact rfl) ?_
     refine r_op rfl rfl rfl (run_lookup1 (a := (lastW ws ws.length, [])) (z := 0) (v := .int _ _) kpair rfl Tryz.underlying101 ty_3 (by exact rfl) (by exact rfl) hmb1 rfl) ?_
     refine h_next hC23 ?_
     refine h_take (i := 4) (by exact rfl) rfl rfl rfl (by kernel_rfl) (fun w' hC => run_add rfl (by exact rfl) (by exact rfl) (by omega) (by omega)) hC23 ?_
     refine h_one (i := 5) (by kernel_rfl) ?_
     refine h_do (by exact rfl) ?_
     refine r_mapEntry (a := (lastW ws ws.length, [])) (z := 0) kpair rfl Tryz.underlying101 ty_3 (by exact rfl) (by exact rfl) hmb1 ?_
     intro s24 w24 hE24 hzw24 hm_new hst24
     have hs_w24 := (hE24).size
     replace hV := evo_step1 hV hE24 (by first | exact .inl (by omega) | exact .inr (by simp))
     replace hC23 := evo_step1 hC23 hE24 (by first | exact .inl (by omega) | exact .inr (by simp))
     replace hl := hl0 _ hV
     replace hmb1 := hm_new
     clear hm_new
     refine h_next hC23 ?_
     refine h_take (i := 6) (by exact rfl) rfl rfl rfl (by kernel_rfl) (fun w' hC => run_extract (v := .int _ _) rfl (by exact rfl) (by exact rfl)) hC23 ?_
     refine h_one (i := 7) (by kernel_rfl) ?_
     refine h_do (by exact rfl) ?_
     refine r_entryStore (a := (lastW ws ws.length, [])) kpair (by exact rfl) (by exact rfl) (by exact rfl) hmb1 hst24 ?_
     intro w25 hE25 hzw25 hm_new
     have hs_w25 := (hE25).size
     replace hV := evo_step1 hV hE25 (by first | exact .inl (by omega) | exact .inr (by simp))
     replace hl := hl0 _ hV
     replace hmb1 := hm_new
     clear hm_new
     refine h_last (by kernel_rfl) ?_
     refine h_done (by kernel_rfl) ?_
     refine r_cut_end ?_ ?_
     ·refine ⟨_, hmb1, (by first | exact bumpF 1 | exact bumpT 1), (by first | assumption | omega | (dsimp only; omega) | (simp; done)), hV⟩
     ·repeat (first | (with_reducible exact Agree.merge _ _ _) | (with_reducible exact Agree.refl _ _) | (with_reducible refine Agree.upd ?_ _ _ rfl) | ((with_reducible refine Agree.inner ?_ ?_); (kernel_rfl)))
    ·skip
     refine h_do (by exact rfl) ?_
     refine r_mapEntry (a := (lastW ws ws.length, [])) (z := 0) kpair rfl Tryz.underlying101 ty_3 (by exact rfl) (by exact rfl) hmb1 ?_
     intro s26 w26 hE26 hzw26 hm_new hst26
     have hs_w26 := (hE26).size
     replace hV := evo_step1 hV hE26 (by first | exact .inl (by omega) | exact .inr (by simp))
     replace hC23 := evo_step1 hC23 hE26 (by first | exact .inl (by omega) | exact .inr (by simp))
     replace hl := hl0 _ hV
     replace hmb1 := hm_new
     clear hm_new
     refine h_next hC23 ?_
     refine h_take (i := 6) (by exact rfl) rfl rfl rfl (by kernel_rfl) (fun w' hC => run_extract (v := .int _ _) rfl (by exact rfl) (by exact rfl)) hC23 ?_
     refine h_one (i := 3) (by kernel_rfl) ?_
     refine h_do (by exact rfl) ?_
     refine r_op rfl rfl rfl (run_lookup1 (a := (lastW ws ws.length, [])) (z := 0) (v := .int _ _) kpair rfl Tryz.underlying101 ty_3 (by exact rfl) (by exact rfl) hmb1 rfl) ?_
     refine h_next hC23 ?_
     refine h_take (i := 4) (by exact rfl) rfl rfl rfl (by kernel_rfl) (fun w' hC => run_add rfl (by exact rfl) (by exact rfl) (by omega) (by omega)) hC23 ?_
     refine h_one (i := 7) (by kernel_rfl) ?_
     refine h_do (by exact rfl) ?_
     refine r_entryStore (a := (lastW ws ws.length, [])) kpair (by exact rfl) (by exact rfl) (by exact rfl) hmb1 hst26 ?_
     intro w27 hE27 hzw27 hm_new
     have hs_w27 := (hE27).size
     replace hV := evo_step1 hV hE27 (by first | exact .inl (by omega) | exact .inr (by simp))
     replace hl := hl0 _ hV
     replace hmb1 := hm_new
     clear hm_new
     refine h_last (by kernel_rfl) ?_
     refine h_done (by kernel_rfl) ?_
     refine r_cut_end ?_ ?_
     ·refine ⟨_, hmb1, (by first | exact bumpF 1 | exact bumpT 1), (by first | assumption | omega | (dsimp only; omega) | (simp; done)), hV⟩
     ·repeat (first | (with_reducible exact Agree.merge _ _ _) | (with_reducible exact Agree.refl _ _) | (with_reducible refine Agree.upd ?_ _ _ rfl) | ((with_reducible refine Agree.inner ?_ ?_); (kernel_rfl)))
   ·rintro g w28 ⟨m2, hmb1, hm2, hzl20, hV⟩
    have hs_w28hV := hV.size
    have hlt29 := hmb1.lt
    replace hl := hl0 _ hV
    refine r_seq ?_
    refine r_region ?_
    refine r_op rfl rfl rfl (run_asg (v := .slice _ _ _) rfl (by exact rfl)) ?_
    refine r_nil ?_
    refine r_seq ?_
    refine r_seq ?_
    have hmf : ∀ x, getM m2 x = cntO (pairsL [] ws) x := by have h9 := cntO_snoc hmm hm2; rw [pairs_all] at h9; exact h9
    have hmn := hmb1.nodup; have hml := grams_mlen hmf hmn
    refine r_region ?_
    refine r_op rfl rfl rfl (run_mv (v := .map _) rfl (by exact rfl)) ?_
    refine r_range rfl Tryz.underlying101 (by exact rfl) hmb1 ?_
    intro r30 w31 her30 hEw31 hir30 hzr30
    have hs_w31 := (hEw31).size
    replace hV := evo_step0 hV hEw31
    replace hl := hl0 _ hV
    replace hmb1 := hmb1.evo0 hEw31
    refine r_nil ?_
    refine r_block ?_
    have hil := hir30.lt
    refine r_loop (α := List ((Str × Str) × Int)) [7, 8, 9, 36, 37, 38, 39, 40, 41, 42, 43, 44, 45, 46, 47, 48, 49] (fun left g w => ∃ la : Option ((Str × Str) × Int), ∃ vo : Value, ∃ gl : List Gram, g 7 = vo ∧ IterIs w r30 b1 (fun x : Str × Str => Value.agg (Enc.enc x).toArray) (Value.int .i64) m2 left la ∧ OwnE w w31.heap.size 74 vo gl ∧ (gl.map gp ++ left).Perm m2 ∧ w0.heap.size ≤ r30 ∧ w31.heap.size ≤ w.heap.size ∧ Evo w0 w []) (fun left => left.length) m2 ?_ ?_
    ·refine ⟨_, _, [], rfl, hir30, (OwnE.nil _ _ _), (by simp), (by first | assumption | omega | (dsimp only; omega) | (simp; done)), (by first | assumption | omega | (dsimp only; omega) | (simp; done)), hV⟩
    ·rintro left g w33 ⟨la, vo, gl, hj34, hir30, hoo, hpm, hrl, hzl32, hV⟩
     have hs_w33hV := hV.size
     replace hl := hl0 _ hV
     refine r_know (i := 7) (v := vo) (by exact hj34) ?_
     have hpl := hpm.length_eq
     rw [List.length_append, List.length_map] at hpl
     refine r_seq ?_
     refine r_region ?_
     refine r_next rfl (by exact rfl) hir30 (fun hn35 => ?_) (fun l1_35 p35 l2_35 w35 hl35 hE35 hz35 hi_new => ?_)
     ·skip
      subst hn35
      refine r_op rfl rfl rfl (run_extract (v := .bool _) rfl (by exact rfl) (by exact rfl)) ?_
      refine r_nil ?_
      refine r_seq ?_
      refine r_cond_no (by exact rfl) ?_
      refine r_exit rfl ?_
      refine r_seq ?_
      refine r_region ?_
      refine r_op rfl rfl rfl (run_mv (v := vo) rfl (by exact rfl)) ?_
      refine r_opcall rfl rfl rfl (run_callf (vs := [vo, .func _ _ _]) rfl (by exact rfl) Tryz.func53 rfl (by kernel_rfl)) (sortG_calls hoo) ?_
      rintro e w36 ⟨rfl, hE36, gs36, hsr36, hs36⟩
      refine ⟨_, rfl, ?_⟩
      have hs_w36 := (hE36).size
      replace hV := evo_stepo hV hE36 (fun g hg => .inl (by first | exact (hoo.block hg).1 | (have := hoo.block hg; omega)))
      replace hl := hl0 _ hV
      replace hoo := hs36
      refine r_nil ?_
      refine r_seq ?_
      refine r_region ?_
      refine r_op rfl rfl rfl (run_mv (v := vo) rfl (by exact rfl)) ?_
      refine r_op rfl rfl rfl (run_asg (v := vo) rfl (by exact rfl)) ?_
      refine r_nil ?_
      refine r_ret (res1 (v := vo) rfl (by exact rfl)) ?_
      exact ⟨_, rfl, hV, by have e9 := grams_done hmf hmn (by simpa using hpm) hsr36; have h9 := hoo; rw [e9] at h9; exact h9.base_le (by omega)⟩
     ·skip
      have hs_w35 := (hE35).size
      replace hV := evo_step1 hV hE35 (by first | exact .inl (by omega) | exact .inr (by simp))
      replace hl := hl0 _ hV
      replace hoo := hoo.evo hE35 (by intro g hg hm; simp at hm; subst hm; have := hoo.block hg; omega)
      replace hir30 := hi_new
      clear hi_new
      refine r_op rfl rfl rfl (run_extract (v := .bool _) rfl (by exact rfl) (by exact rfl)) ?_
      refine r_nil ?_
      refine r_seq ?_
      refine r_cond_yes (by exact rfl) ?_
      refine r_skip ?_
      refine r_block ?_
      refine r_seq ?_
      refine r_region ?_
      refine r_op rfl rfl rfl (run_entryI rfl (by exact rfl) hir30) ?_
      refine r_op rfl rfl rfl (run_extract (v := .agg _) rfl (by exact rfl) (by exact rfl)) ?_
      refine r_op rfl rfl rfl (run_extract (v := .int _ _) rfl (by exact rfl) (by exact rfl)) ?_
      have hob37 := fun g hg => (hoo.block (g := g) hg).2
      refine r_var (zs := [_, _]) (vs := [_, _]) ty_103 (by exact rfl) rfl (by exact rfl) (fun _ => rfl) (by exact rfl) rfl rfl (by exact rfl) ?_
      intro b38 w39 heb38 hEw39 hbb38 hzb38
      have hs_w39 := (hEw39).size
      replace hV := evo_step0 hV hEw39
      replace hl := hl0 _ hV
      replace hoo := hoo.evo0 hEw39
      replace hir30 := hir30.evo0 hEw39
      have hAb38 := hbb38.at
      refine r_op rfl rfl rfl (run_asg (v := .int _ _) rfl (by exact rfl)) ?_
      refine r_nil ?_
      refine r_region ?_
      refine r_op rfl rfl rfl (run_mv (v := vo) rfl (by exact rfl)) ?_
      refine r_op rfl rfl rfl (run_fa rfl (by exact rfl) fo_103_0) ?_
      refine r_op rfl rfl rfl (run_ld1 rfl ag_9 (by exact rfl) (hAb38.cell 0 (by exact rfl))) ?_
      refine r_op rfl rfl rfl (run_fa rfl (by exact rfl) fo_103_1) ?_
      refine r_op rfl rfl rfl (run_ld1 rfl ag_9 (by exact rfl) (hAb38.cell 1 (by exact rfl))) ?_
      refine r_op rfl rfl rfl (run_mv (v := .int _ _) rfl (by exact rfl)) ?_
      refine r_op rfl rfl rfl (run_bld (pv := [(0, S _), (1, S _), (2, .int _ _)]) (zs := [_, _, _]) (cells := [_, _, _]) rfl ty_74 (by exact rfl) pl_74 (by exact rfl) (by exact rfl)) ?_
      refine r_append1E (u := .agg _) (y := ⟨_, _, _⟩) rfl rfl Tryz.underlying59 ty_74 (by exact rfl) hoo (fun _ => (by exact rfl)) (by exact rfl) (by first | exact rfl | (show _ = List.toArray [_, _, _]; first | (dsimp only; done) | exact rfl | (dsimp only; exact rfl))) ((by first | omega | (simp; omega))) ((by first | omega | (simp; omega))) (by omega) ?_
      intro q_v40 v40 w41 hEw41 hov40 hlv40
      have hs_w41 := (hEw41).size
      replace hV := evo_stepo hV hEw41 (fun g hg => .inl (by first | exact (hoo.block hg).1 | (have := hoo.block hg; omega)))
      replace hl := hl0 _ hV
      replace hir30 := hir30.evo hEw41 (by intro hm; have hm2 := Option.mem_toList.1 hm; first | (have := hoo.block hm2; omega) | (simp [Value.ownBlock] at hm2; omega)) (by intro hm; have hm2 := Option.mem_toList.1 hm; first | (have := hoo.block hm2; omega) | (simp [Value.ownBlock] at hm2; omega))
      refine r_op rfl rfl rfl (run_asg (v := v40) rfl (by exact rfl)) ?_
      refine r_nil ?_
      refine r_blk ?_
      refine r_again (l1_35 ++ l2_35) ?_ ?_ ?_
      ·rw [hl35]; simp
      ·refine ⟨_, _, _, rfl, hir30, hov40, (by rw [hl35] at hpm; exact perm_step hpm rfl), (by first | assumption | omega | (dsimp only; omega) | (simp; done)), (by first | assumption | omega | (dsimp only; omega) | (simp; done)), hV⟩
      ·repeat (first | (with_reducible exact Agree.merge _ _ _) | (with_reducible exact Agree.refl _ _) | (with_reducible refine Agree.upd ?_ _ _ rfl) | ((with_reducible refine Agree.inner ?_ ?_); (kernel_rfl)))
end Go.Proofs.YthbcklajlmcifaaGreat
namespace Go.Proofs.YthbcklajlmcifaaGreat
open Go.RowKit Go.Vc
theorem ag_74 : aggP Tryz.prog 74 = some true := by kernel_rfl
theorem fo_74_2 : fieldP Tryz.prog 74 2 = some 2 := by kernel_rfl
theorem bef_iff {x y : Gram} : (blt x.fst y.fst = true ∨ (x.fst = y.fst ∧ blt x.snd y.snd = true)) ↔ ltP (prG x) (prG y) := by
  unfold ltP prG; simp only [slt_iff]
theorem before_calls {x y : Gram} {w0 : World}  :
    Calls Tryz.prog 70 #[(.agg (Enc.enc x).toArray), (.agg (Enc.enc y).toArray)] w0 fun e w' => e = .returned (.bool (decide (ltP (prG x) (prG y)))) ∧ Evo w0 w' [] := by
 refine calls_enter (n := 24) (args := [(.agg (Enc.enc x).toArray), (.agg (Enc.enc y).toArray)]) Tryz.func70 rfl Tryz.ntmps70 rfl ?_
 have hV : Evo w0 w0 [] := Evo.refl _ _
 refine r_seq ?_
 refine r_region ?_
 refine r_box (vs := [_, _, _]) (by exact rfl) (by exact rfl) rfl ?_
 intro b1 w2 heb1 hEw2 hbb1 hzb1
 have hs_w2 := (hEw2).size
 replace hV := evo_step0 hV hEw2
 have hAb1 := hbb1.at
 refine r_box (vs := [_, _, _]) (by exact rfl) (by exact rfl) rfl ?_
 intro b3 w4 heb3 hEw4 hbb3 hzb3
 have hs_w4 := (hEw4).size
 replace hV := evo_step0 hV hEw4
 replace hbb1 := hbb1.evo0 hEw4
 replace hAb1 := hAb1.evo0 hEw4
 have hAb3 := hbb3.at
 refine r_op rfl rfl rfl (run_asg (v := .bool _) rfl (by exact rfl)) ?_
 refine r_nil ?_
 refine r_seq ?_
 refine r_region ?_
 refine r_op rfl rfl rfl (run_fa rfl (by exact rfl) fo_74_0) ?_
 refine r_op rfl rfl rfl (run_ld1 rfl ag_9 (by exact rfl) (hAb1.cell 0 (by exact rfl))) ?_
 refine r_op rfl rfl rfl (run_fa rfl (by exact rfl) fo_74_0) ?_
 refine r_op rfl rfl rfl (run_ld1 rfl ag_9 (by exact rfl) (hAb3.cell 0 (by exact rfl))) ?_
 refine r_op rfl rfl rfl (run_slssD rfl (by exact rfl) (by exact rfl)) ?_
 refine r_op rfl rfl rfl (run_mv (v := .bool _) rfl (by exact rfl)) ?_
 refine r_g rfl (wantF (by exact rfl)) rfl (fun hg => run_fa rfl (by exact rfl) fo_74_0) ?_
 refine r_g rfl (wantF (by exact rfl)) rfl (fun hg => run_ld1 rfl ag_9 (glv (by exact rfl) (fun h => h) hg) (hAb1.cell 0 (by exact rfl))) ?_
 refine r_g rfl (wantF (by exact rfl)) rfl (fun hg => run_fa rfl (by exact rfl) fo_74_0) ?_
 refine r_g rfl (wantF (by exact rfl)) rfl (fun hg => run_ld1 rfl ag_9 (glv (by exact rfl) (fun h => h) hg) (hAb3.cell 0 (by exact rfl))) ?_
 refine r_g rfl (wantF (by exact rfl)) rfl (fun hg => run_seql rfl (glv (by exact rfl) (fun h => h) hg) (glv (by exact rfl) (fun h => h) hg)) ?_
 refine r_g rfl (wantF (by exact rfl)) rfl (fun hg => run_mv (v := .bool _) rfl (glv (by exact rfl) (fun h => h) hg)) ?_
 refine r_g rfl (wantTg (by exact rfl)) rfl (fun hg => run_fa rfl (by exact rfl) fo_74_1) ?_
 refine r_g rfl (wantTg (by exact rfl)) rfl (fun hg => run_ld1 rfl ag_9 (glv (by exact rfl) (fun h => h) hg) (hAb1.cell 1 (by exact rfl))) ?_
 refine r_g rfl (wantTg (by exact rfl)) rfl (fun hg => run_fa rfl (by exact rfl) fo_74_1) ?_
 refine r_g rfl (wantTg (by exact rfl)) rfl (fun hg => run_ld1 rfl ag_9 (glv (by exact rfl) (fun h => h) hg) (hAb3.cell 1 (by exact rfl))) ?_
 refine r_g rfl (wantTg (by exact rfl)) rfl (fun hg => run_slssD rfl (glv (by exact rfl) (fun h => h) hg) (glv (by exact rfl) (fun h => h) hg)) ?_
 refine r_g rfl (wantF (by exact rfl)) rfl (fun hg => run_pick_and rfl (glv (by exact rfl) (fun h => h) hg) (fun hq => glv (by exact rfl) (fun h => h) (And.intro hg hq)) rfl) ?_
 refine r_op rfl rfl rfl (run_pick_or rfl (by exact rfl) rfl (fun hq => glv (by exact rfl) (fun h => h) hq)) ?_
 refine r_op rfl rfl rfl (run_asg (v := .bool _) rfl (by exact rfl)) ?_
 refine r_nil ?_
 refine r_ret (res1 (v := .bool _) rfl (by exact rfl)) ?_
 exact ⟨ret_bool (decide_eq_decide.2 (by rw [← bef_iff])), hV⟩
theorem lastW_pos {ws : List Str} {i : Nat} (h : 0 < i) : lastW ws i = ws.getD (i - 1) default := by unfold lastW; rw [if_neg (by omega)]
theorem lastW_zero {ws : List Str} {i : Nat} (h : i = 0) : lastW ws i = [] := by unfold lastW; rw [if_pos h]
theorem getD_end {ws : List Str} {i : Nat} (h : ws.length ≤ i) : ws.getD i default = [] := by rw [List.getD_eq_getElem?_getD, List.getElem?_eq_none h]; rfl
set_option maxHeartbeats 1000000 in
theorem rgrams_calls {ao : Option Addr} {b off cap : Nat} {ws : List Str} {w0 : World} (hl : RowE w0 ao b off cap ws) (hs : ws.length ≤ 1000000) :
    Calls Tryz.prog 41 #[.slice ao ws.length cap] w0 fun e w' => ∃ v, e = .returned v ∧ Evo w0 w' [] ∧ OwnE w' w0.heap.size 74 v (gramsL ws) := by
 refine calls_enter (n := 80) (args := [.slice ao ws.length cap]) Tryz.func41 rfl Tryz.ntmps41 rfl ?_
 have hV : Evo w0 w0 [] := Evo.refl _ _
 have hl0 := keepE hl
 have hbd_hl := hl.bd
 refine r_seq ?_
 refine r_region ?_
 refine r_op rfl rfl rfl (run_asg (v := .slice _ _ _) rfl (by exact rfl)) ?_
 refine r_nil ?_
 refine r_seq ?_
 refine r_region ?_
 refine r_op rfl rfl rfl (run_asg (v := .slice _ _ _) rfl (by exact rfl)) ?_
 refine r_nil ?_
 refine r_seq ?_
 refine r_seq ?_
 refine r_region ?_
 refine r_op rfl rfl rfl (run_asg (v := .int _ _) rfl (by exact rfl)) ?_
 refine r_nil ?_
 refine r_block ?_
 refine r_loop (α := Nat) [3, 4, 5, 6, 7, 8, 9, 10, 11, 12, 13, 14, 15, 16, 17, 18, 19, 20, 21, 22, 23, 24, 25, 26, 27, 28, 29, 30, 31, 32, 33, 34, 35, 36, 37, 38, 39, 40, 41, 42, 43, 44, 45, 46, 47, 48, 49, 50, 51, 52, 53, 54, 55, 56, 57, 58, 59, 60, 61, 62, 63, 64, 65, 66, 67, 68, 69, 70, 71, 72, 73, 74, 75, 76, 77, 78] (fun i g w => ∃ vo : Value, g 4 = .int .i64 (i : Nat) ∧ g 3 = vo ∧ i ≤ ws.length + 1 ∧ OwnE w w0.heap.size 74 vo (gramsOf ((pairsL [] ws).take i)) ∧ w0.heap.size ≤ w.heap.size ∧ Evo w0 w []) (fun i => ws.length + 1 - i) 0 ?_ ?_
 ·refine ⟨_, rfl, rfl, (by first | assumption | omega | (dsimp only; omega) | (simp; done)), (OwnE.nil _ _ _), (by first | assumption | omega | (dsimp only; omega) | (simp; done)), hV⟩
 ·rintro i g w2 ⟨vo, hj3, hj4, hi1, hoo, hzl1, hV⟩
  have hs_w2hV := hV.size
  replace hl := hl0 _ hV
  refine r_know (i := 4) (v := .int .i64 (i : Nat)) (by exact hj3) ?_
  refine r_know (i := 3) (v := vo) (by exact hj4) ?_
  have hgl := gramsOf_len ((pairsL [] ws).take i)
  have hpt := List.length_take_le i (pairsL [] ws)
  refine r_seq ?_
  refine r_seq ?_
  refine r_region ?_
  refine r_op rfl rfl rfl (run_mv (v := .int _ _) rfl (by exact rfl)) ?_
  refine r_op rfl rfl rfl (run_mv (v := .slice _ _ _) rfl (by exact rfl)) ?_
  refine r_op rfl rfl rfl (run_lenSl rfl (by exact rfl) Tryz.underlying81) ?_
  refine r_op rfl rfl rfl (run_leq rfl (by exact rfl) (by exact rfl)) ?_
  refine r_nil ?_
  refine r_cond (by exact rfl) (fun hc5 => ?_) (fun hc5 => ?_)
  ·skip
   refine r_skip ?_
   refine r_seq ?_
   refine r_block ?_
   refine r_seq ?_
   have hobO := fun g hg => (hoo.block (g := g) hg).2
   refine r_region ?_
   refine r_op rfl rfl rfl (run_bld (pv := [(2, .int _ _)]) (zs := [_, _, _]) (cells := [_, _, _]) rfl ty_74 (by exact rfl) pl_74 (by exact rfl) (by exact rfl)) ?_
   have hob6 := fun g hg => (hoo.block (g := g) hg).2
   refine r_var (zs := [_, _, _]) (vs := [_, _, _]) ty_74 (by exact rfl) rfl (by exact rfl) (fun _ => rfl) (by exact rfl) rfl rfl (by exact rfl) ?_
   intro b7 w8 heb7 hEw8 hbb7 hzb7
   have hs_w8 := (hEw8).size
   replace hV := evo_step0 hV hEw8
   replace hl := hl0 _ hV
   replace hoo := hoo.evo0 hEw8
   have hAb7 := hbb7.at
   refine r_nil ?_
   refine r_seq ?_
   refine r_seq ?_
   refine r_region ?_
   refine r_op rfl rfl rfl (run_mv (v := .int _ _) rfl (by exact rfl)) ?_
   refine r_op rfl rfl rfl (run_gtr rfl (by exact rfl) (by exact rfl)) ?_
   refine r_nil ?_
   refine r_cut [17, 18, 19, 20, 21, 22] (fun g w => OwnE w w0.heap.size 74 vo (gramsOf ((pairsL [] ws).take i)) ∧ Blk w b7 74 [S (lastW ws i), S [], .int .i64 1] ∧ At w b7 0 [S (lastW ws i), S [], .int .i64 1] ∧ w8.heap.size ≤ w.heap.size ∧ Evo w0 w []) ?_ ?_
   ·skip
    refine r_cond (by exact rfl) (fun hc10 => ?_) (fun hc10 => ?_)
    ·skip
     refine r_region ?_
     refine r_op rfl rfl rfl (run_mv (v := .slice _ _ _) rfl (by exact rfl)) ?_
     refine r_op rfl rfl rfl (run_mv (v := .int _ _) rfl (by exact rfl)) ?_
     refine r_op rfl rfl rfl (run_sub rfl (by exact rfl) (by exact rfl) (by omega) (by omega)) ?_
     refine r_op rfl rfl rfl (run_ix ((i - 1)) rfl Tryz.underlying81 ty_9 (by exact rfl) (by exact rfl) (by omega) (by omega) (hl.addr (i := (i - 1)) (by omega))) ?_
     have hA110 := fun (w' : World) (h : Evo w0 w' []) => (hl0 w' h).atD ((i - 1)) (by omega)
     have hA11 := hA110 _ hV
     refine r_op rfl rfl rfl (run_ld1 rfl ag_9 (by exact rfl) (hA11.cell 0 (by exact rfl))) ?_
     refine r_op rfl rfl rfl (run_fa rfl (by exact rfl) fo_74_0) ?_
     refine r_store (v := S _) (vs := [_]) (cs' := [_, _, _]) (by exact rfl) (by exact rfl) hbb7 ty_9 (by exact rfl) rfl (by exact rfl) rfl (by exact rfl) ?_
     intro w12 hEw12 hzw12 hb_new
     have hs_w12 := (hEw12).size
     replace hV := evo_step1 hV hEw12 (by first | exact .inl (by omega) | exact .inr (by simp))
     replace hl := hl0 _ hV
     replace hoo := hoo.evo hEw12 (by intro g hg hm; simp at hm; subst hm; have h7 := hobO g hg; omega)
     replace hbb7 := hb_new
     have hAb7 := hbb7.at
     clear hb_new
     refine r_nil ?_
     refine r_cut_end ?_ ?_
     ·refine ⟨hoo, (by first | (rw [lastW_pos (by omega)]; exact hbb7) | (rw [lastW_zero (by omega)]; exact hbb7)), (by first | (rw [lastW_pos (by omega)]; exact hbb7.at) | (rw [lastW_zero (by omega)]; exact hbb7.at)), (by first | assumption | omega | (dsimp only; omega) | (simp; done)), hV⟩
     ·repeat (first | (with_reducible exact Agree.merge _ _ _) | (with_reducible exact Agree.refl _ _) | (with_reducible refine Agree.upd ?_ _ _ rfl) | ((with_reducible refine Agree.inner ?_ ?_); (kernel_rfl)))
    ·skip
     refine r_skip ?_
     refine r_cut_end ?_ ?_
     ·refine ⟨hoo, (by first | (rw [lastW_pos (by omega)]; exact hbb7) | (rw [lastW_zero (by omega)]; exact hbb7)), (by first | (rw [lastW_pos (by omega)]; exact hbb7.at) | (rw [lastW_zero (by omega)]; exact hbb7.at)), (by first | assumption | omega | (dsimp only; omega) | (simp; done)), hV⟩
     ·repeat (first | (with_reducible exact Agree.merge _ _ _) | (with_reducible exact Agree.refl _ _) | (with_reducible refine Agree.upd ?_ _ _ rfl) | ((with_reducible refine Agree.inner ?_ ?_); (kernel_rfl)))
   ·rintro g w13 ⟨hoo, hbb7, hAb7, hzl9, hV⟩
    have hs_w13hV := hV.size
    have hlt14 := hbb7.lt
    replace hl := hl0 _ hV
    refine r_seq ?_
    refine r_seq ?_
    refine r_region ?_
    refine r_op rfl rfl rfl (run_mv (v := .int _ _) rfl (by exact rfl)) ?_
    refine r_op rfl rfl rfl (run_mv (v := .slice _ _ _) rfl (by exact rfl)) ?_
    refine r_op rfl rfl rfl (run_lenSl rfl (by exact rfl) Tryz.underlying81) ?_
    refine r_op rfl rfl rfl (run_lss rfl (by exact rfl) (by exact rfl)) ?_
    refine r_nil ?_
    refine r_cut [27, 28, 29, 30, 31] (fun g w => OwnE w w0.heap.size 74 vo (gramsOf ((pairsL [] ws).take i)) ∧ Blk w b7 74 [S (lastW ws i), S (ws.getD i default), .int .i64 1] ∧ At w b7 0 [S (lastW ws i), S (ws.getD i default), .int .i64 1] ∧ w13.heap.size ≤ w.heap.size ∧ Evo w0 w []) ?_ ?_
    ·skip
     refine r_cond (by exact rfl) (fun hc16 => ?_) (fun hc16 => ?_)
     ·skip
      refine r_region ?_
      refine r_op rfl rfl rfl (run_mv (v := .slice _ _ _) rfl (by exact rfl)) ?_
      refine r_op rfl rfl rfl (run_mv (v := .int _ _) rfl (by exact rfl)) ?_
      refine r_op rfl rfl rfl (run_ix (i) rfl Tryz.underlying81 ty_9 (by exact rfl) (by exact rfl) (by first | exact rfl | omega) (by omega) (hl.addr (i := i) (by omega))) ?_
      have hA170 := fun (w' : World) (h : Evo w0 w' []) => (hl0 w' h).atD (i) (by omega)
      have hA17 := hA170 _ hV
      refine r_op rfl rfl rfl (run_ld1 rfl ag_9 (by exact rfl) (hA17.cell 0 (by exact rfl))) ?_
      refine r_op rfl rfl rfl (run_fa rfl (by exact rfl) fo_74_1) ?_
      refine r_store (v := S _) (vs := [_]) (cs' := [_, _, _]) (by exact rfl) (by exact rfl) hbb7 ty_9 (by exact rfl) rfl (by exact rfl) rfl (by exact rfl) ?_
      intro w18 hEw18 hzw18 hb_new
      have hs_w18 := (hEw18).size
      replace hV := evo_step1 hV hEw18 (by first | exact .inl (by omega) | exact .inr (by simp))
      replace hl := hl0 _ hV
      replace hoo := hoo.evo hEw18 (by intro g hg hm; simp at hm; subst hm; have h7 := hobO g hg; omega)
      replace hbb7 := hb_new
      have hAb7 := hbb7.at
      clear hb_new
      refine r_nil ?_
      refine r_cut_end ?_ ?_
      ·refine ⟨hoo, (by first | exact hbb7 | (rw [getD_end (by omega)]; exact hbb7)), (by first | exact hbb7.at | (rw [getD_end (by omega)]; exact hbb7.at)), (by first | assumption | omega | (dsimp only; omega) | (simp; done)), hV⟩
      ·repeat (first | (with_reducible exact Agree.merge _ _ _) | (with_reducible exact Agree.refl _ _) | (with_reducible refine Agree.upd ?_ _ _ rfl) | ((with_reducible refine Agree.inner ?_ ?_); (kernel_rfl)))
     ·skip
      refine r_skip ?_
      refine r_cut_end ?_ ?_
      ·refine ⟨hoo, (by first | exact hbb7 | (rw [getD_end (by omega)]; exact hbb7)), (by first | exact hbb7.at | (rw [getD_end (by omega)]; exact hbb7.at)), (by first | assumption | omega | (dsimp only; omega) | (simp; done)), hV⟩
      ·repeat (first | (with_reducible exact Agree.merge _ _ _) | (with_reducible exact Agree.refl _ _) | (with_reducible refine Agree.upd ?_ _ _ rfl) | ((with_reducible refine Agree.inner ?_ ?_); (kernel_rfl)))
    ·rintro g w19 ⟨hoo, hbb7, hAb7, hzl15, hV⟩
     have hs_w19hV := hV.size
     have hlt20 := hbb7.lt
     replace hl := hl0 _ hV
     refine r_seq ?_
     refine r_region ?_
     refine r_op rfl rfl rfl (run_asg (v := .int _ _) rfl (by exact rfl)) ?_
     refine r_nil ?_
     refine r_seq ?_
     refine r_block ?_
     refine r_loop (α := Nat) [6, 32, 33, 34, 35, 36, 37, 38, 39, 40, 41, 42, 43, 44, 45] (fun k g w => g 6 = .int .i64 (k : Nat) ∧ k ≤ (gramsOf ((pairsL [] ws).take i)).length ∧ OwnE w w0.heap.size 74 vo (gramsOf ((pairsL [] ws).take i)) ∧ Blk w b7 74 [S (lastW ws i), S (ws.getD i default), .int .i64 1] ∧ At w b7 0 [S (lastW ws i), S (ws.getD i default), .int .i64 1] ∧ (∀ j, j < k → ltP (prG ((gramsOf ((pairsL [] ws).take i)).getD j default)) (lastW ws i, ws.getD i default)) ∧ w19.heap.size ≤ w.heap.size ∧ Evo w0 w []) (fun k => (gramsOf ((pairsL [] ws).take i)).length - k) 0 ?_ ?_
     ·refine ⟨rfl, (by first | assumption | omega | (dsimp only; omega) | (simp; done)), hoo, hbb7, hAb7, (fun j h => by omega), (by first | assumption | omega | (dsimp only; omega) | (simp; done)), hV⟩
     ·rintro k g w22 ⟨hj23, hk1, hoo, hbb7, hAb7, hltp, hzl21, hV⟩
      have hs_w22hV := hV.size
      have hlt24 := hbb7.lt
      replace hl := hl0 _ hV
      refine r_know (i := 6) (v := .int .i64 (k : Nat)) (by exact hj23) ?_
      refine r_seq ?_
      refine r_seq ?_
      obtain ⟨ao25, g25, cp25, hv25, hr25, hg25⟩ := hoo.rowOf
      subst hv25
      refine r_qregion (by kernel_rfl) (by kernel_rfl) ?_
      refine q_op rfl rfl rfl (fun w' hC => run_mv (v := .int _ _) rfl (by exact rfl)) ?_
      refine q_op rfl rfl rfl (fun w' hC => run_mv (v := .slice _ _ _) rfl (by exact rfl)) ?_
      refine q_op rfl rfl rfl (fun w' hC => run_lenSl rfl (by exact rfl) Tryz.underlying59) ?_
      refine q_op rfl rfl rfl (fun w' hC => run_lss rfl (by exact rfl) (by exact rfl)) ?_
      refine q_op rfl rfl rfl (fun w' hC => run_mv (v := .bool _) rfl (by exact rfl)) ?_
      refine q_g rfl (wantT (by exact rfl)) rfl (fun hg w' hC => run_mv (v := .slice _ _ _) rfl (by exact rfl)) ?_
      refine q_g rfl (wantT (by exact rfl)) rfl (fun hg w' hC => run_mv (v := .int _ _) rfl (by exact rfl)) ?_
      refine q_g rfl (wantT (by exact rfl)) rfl (fun hg w' hC => run_ix (k) rfl Tryz.underlying59 ty_74 (glv (by exact rfl) (fun h => h) hg) (glv (by exact rfl) (fun h => h) hg) (by first | exact rfl | omega) (by omega) (hr25.addr (i := k) (by omega))) ?_
      refine q_g rfl (wantT (by exact rfl)) rfl (fun hg w' hC => run_ldN rfl ag_74 ty_74 (glv (by exact rfl) (fun h => h) hg) rfl ((hr25.atD (k) (by omega)).evo0 hC)) ?_
      refine q_g rfl (wantT (by exact rfl)) rfl (fun hg w' hC => run_ldN rfl ag_74 ty_74 (by exact rfl) rfl (hAb7.evo0 hC)) ?_
      refine q_gcall rfl (wantT (by exact rfl)) rfl (fun hg w' hC => run_callf rfl (argcons (v := .agg _) (glv (by exact rfl) (fun h => h) hg) (argcons (v := .agg _) (glv (by exact rfl) (fun h => h) hg) (rfl))) Tryz.func70 rfl (by kernel_rfl)) (fun hg w' hC => (before_calls (y := (⟨lastW ws i, ws.getD i default, 1⟩ : Gram))).mono (fun e w'' h => ⟨h.1, evo_step0 hC h.2⟩)) ?_
      refine q_op rfl rfl rfl (fun w' hC => run_pick_and rfl (by exact rfl) (fun hq => glv (by exact rfl) (fun h => h) hq) rfl) ?_
      refine q_nil (fun w26 hE27 => ?_)
      have hs_w26 := (hE27).size
      replace hV := evo_step0 hV hE27
      replace hl := hl0 _ hV
      replace hoo := hoo.evo0 hE27
      replace hbb7 := hbb7.evo0 hE27
      replace hAb7 := hAb7.evo0 hE27
      replace hr25 := hr25.evo0 hE27
      refine r_cond (by exact rfl) (fun hc28 => ?_) (fun hc28 => ?_)
      ·skip
       refine r_skip ?_
       refine r_block ?_
       refine r_region ?_
       refine r_op rfl rfl rfl (run_mv (v := .int _ _) rfl (by exact rfl)) ?_
       refine r_op rfl rfl rfl (run_add rfl (by exact rfl) (by exact rfl) (by omega) (by omega)) ?_
       refine r_op rfl rfl rfl (run_asg (v := .int _ _) rfl (by exact rfl)) ?_
       refine r_nil ?_
       refine r_blk ?_
       refine r_again (k + 1) ?_ ?_ ?_
       ·first | omega | (dsimp only; omega)
       ·refine ⟨(congrArg (Value.int _) (by omega)), (by first | assumption | omega | (dsimp only; omega) | (simp; done)), hoo, hbb7, hAb7, (upto0 hltp hc28.2), (by first | assumption | omega | (dsimp only; omega) | (simp; done)), hV⟩
       ·repeat (first | (with_reducible exact Agree.merge _ _ _) | (with_reducible exact Agree.refl _ _) | (with_reducible refine Agree.upd ?_ _ _ rfl) | ((with_reducible refine Agree.inner ?_ ?_); (kernel_rfl)))
      ·skip
       refine r_exit rfl ?_
       refine r_seq ?_
       refine r_seq ?_
       have hx13 := hc28
       refine r_qregion (by kernel_rfl) (by kernel_rfl) ?_
       refine q_op rfl rfl rfl (fun w' hC => run_mv (v := .int _ _) rfl (by exact rfl)) ?_
       refine q_op rfl rfl rfl (fun w' hC => run_mv (v := .slice _ _ _) rfl (by exact rfl)) ?_
       refine q_op rfl rfl rfl (fun w' hC => run_lenSl rfl (by exact rfl) Tryz.underlying59) ?_
       refine q_op rfl rfl rfl (fun w' hC => run_lss rfl (by exact rfl) (by exact rfl)) ?_
       refine q_op rfl rfl rfl (fun w' hC => run_mv (v := .bool _) rfl (by exact rfl)) ?_
       refine q_g rfl (wantT (by exact rfl)) rfl (fun hg w' hC => run_ldN rfl ag_74 ty_74 (by exact rfl) rfl (hAb7.evo0 hC)) ?_
       refine q_g rfl (wantT (by exact rfl)) rfl (fun hg w' hC => run_mv (v := .slice _ _ _) rfl (by exact rfl)) ?_
       refine q_g rfl (wantT (by exact rfl)) rfl (fun hg w' hC => run_mv (v := .int _ _) rfl (by exact rfl)) ?_
       refine q_g rfl (wantT (by exact rfl)) rfl (fun hg w' hC => run_ix (k) rfl Tryz.underlying59 ty_74 (glv (by exact rfl) (fun h => h) hg) (glv (by exact rfl) (fun h => h) hg) (by first | exact rfl | omega) (by omega) (hr25.addr (i := k) (by omega))) ?_
       refine q_g rfl (wantT (by exact rfl)) rfl (fun hg w' hC => run_ldN rfl ag_74 ty_74 (glv (by exact rfl) (fun h => h) hg) rfl ((hr25.atD (k) (by omega)).evo0 hC)) ?_
       refine q_gcall rfl (wantT (by exact rfl)) rfl (fun hg w' hC => run_callf rfl (argcons (v := .agg _) (glv (by exact rfl) (fun h => h) hg) (argcons (v := .agg _) (glv (by exact rfl) (fun h => h) hg) (rfl))) Tryz.func70 rfl (by kernel_rfl)) (fun hg w' hC => (before_calls (x := (⟨lastW ws i, ws.getD i default, 1⟩ : Gram))).mono (fun e w'' h => ⟨h.1, evo_step0 hC h.2⟩)) ?_
       refine q_g rfl (wantT (by exact rfl)) rfl (fun hg w' hC => run_not rfl (glv (by exact rfl) (fun h => h) hg)) ?_
       refine q_op rfl rfl rfl (fun w' hC => run_pick_and rfl (by exact rfl) (fun hq => glv (by exact rfl) (fun h => h) hq) rfl) ?_
       refine q_nil (fun w29 hE30 => ?_)
       have hs_w29 := (hE30).size
       replace hV := evo_step0 hV hE30
       replace hl := hl0 _ hV
       replace hoo := hoo.evo0 hE30
       replace hbb7 := hbb7.evo0 hE30
       replace hAb7 := hAb7.evo0 hE30
       replace hr25 := hr25.evo0 hE30
       refine r_cond (by exact rfl) (fun hc31 => ?_) (fun hc31 => ?_)
       ·skip
        refine r_seq ?_
        have hx14 := hc31; have hgc := gramsOf_count (x := (gramsOf ((pairsL [] ws).take i)).getD k default) (getD_in (by omega))
        refine r_region ?_
        refine r_op rfl rfl rfl (run_mv (v := .slice _ _ _) rfl (by exact rfl)) ?_
        refine r_op rfl rfl rfl (run_mv (v := .int _ _) rfl (by exact rfl)) ?_
        refine r_op rfl rfl rfl (run_ix (k) rfl Tryz.underlying59 ty_74 (by exact rfl) (by exact rfl) (by first | exact rfl | omega) (by omega) (hr25.addr (i := k) (by omega))) ?_
        have hA32 := hr25.atD (k) (by omega)
        refine r_op rfl rfl rfl (run_fa rfl (by exact rfl) fo_74_2) ?_
        refine r_op rfl rfl rfl (run_ld1 rfl ag_3 (by exact rfl) (hA32.cell 2 (by exact rfl))) ?_
        refine r_op rfl rfl rfl (run_add rfl (by exact rfl) (by exact rfl) (by omega) (by omega)) ?_
        refine r_op rfl rfl rfl (run_ix (k) rfl Tryz.underlying59 ty_74 (by exact rfl) (by exact rfl) (by first | exact rfl | omega) (by omega) (hr25.addr (i := k) (by omega))) ?_
        have hA33 := hr25.atD (k) (by omega)
        refine r_op rfl rfl rfl (run_fa rfl (by exact rfl) fo_74_2) ?_
        refine r_storeE (u := .int _ _) (vs := [_]) (k) 2 ⟨_, _, _⟩ (by exact rfl) rfl (by first | rfl | omega) (by exact rfl) hoo hr25 (by omega) ty_3 (by exact rfl) rfl (by exact rfl) rfl (by show [_, _, _] = [_, _, _]; first | (dsimp only; done) | exact rfl | (dsimp only; exact rfl)) ?_
        intro w34 hEw34 hzw34 ho_new
        have hs_w34 := (hEw34).size
        replace hV := evo_stepo hV hEw34 (fun g hg => .inl (by first | exact (hoo.block hg).1 | (have := hoo.block hg; omega)))
        replace hl := hl0 _ hV
        replace hoo := ho_new
        clear ho_new
        refine r_nil ?_
        refine r_exit rfl ?_
        refine r_region ?_
        refine r_op rfl rfl rfl (run_mv (v := .int _ _) rfl (by exact rfl)) ?_
        refine r_op rfl rfl rfl (run_add rfl (by exact rfl) (by exact rfl) (by omega) (by omega)) ?_
        refine r_op rfl rfl rfl (run_asg (v := .int _ _) rfl (by exact rfl)) ?_
        refine r_nil ?_
        refine r_again (i + 1) ?_ ?_ ?_
        ·first | omega | (dsimp only; omega)
        ·refine ⟨_, (congrArg (Value.int _) (by omega)), rfl, (by first | assumption | omega | (dsimp only; omega) | (simp; done)), (by first | (rw [grams_step (by omega), ins_hit (by omega) hltp (fun q => hx13 ⟨by omega, q⟩) hx14.2]; exact hoo) | (rw [grams_step (by omega), ins_new (by omega) hltp ((Nat.lt_or_ge k (gramsOf ((pairsL [] ws).take i)).length).elim (fun q => .inr (Classical.not_not.1 fun q2 => hx15 ⟨by omega, q2⟩)) (fun q => .inl (by omega)))]; have h9 := hoo; rw [List.nil_append] at h9; exact h9.base_le (by omega))), (by first | assumption | omega | (dsimp only; omega) | (simp; done)), hV⟩
        ·repeat (first | (with_reducible exact Agree.merge _ _ _) | (with_reducible exact Agree.refl _ _) | (with_reducible refine Agree.upd ?_ _ _ rfl) | ((with_reducible refine Agree.inner ?_ ?_); (kernel_rfl)))
       ·skip
        refine r_skip ?_
        refine r_seq ?_
        have hx15 := hc31
        have hI15 : Evo w29 w29 [] := Evo.refl _ _
        have hr250 := keepE hr25
        have hbb7_q := hbb7
        have hAb7_q := hAb7
        have hV_q := hV
        have hI15_q := hI15
        refine h_region ([]) (by kernel_rfl) ?_
        intro w35 hE36 hCst15
        have hs_w35 := (hE36).size
        replace hV := evo_step0 hV hE36
        replace hI15 := evo_step0 hI15 hE36
        replace hl := hl0 _ hV
        replace hbb7 := hbb7.evo0 hE36
        replace hAb7 := hAb7.evo0 hE36
        replace hr25 := hr250 _ hI15
        refine h_take (i := 0) (by exact rfl) rfl rfl rfl (by kernel_rfl) (fun w' hC => run_ldN rfl ag_74 ty_74 (by exact rfl) rfl (hAb7_q.evo0 hC)) hCst15 ?_
        refine h_take (i := 2) (by exact rfl) rfl rfl rfl (by kernel_rfl) (fun w' hC => run_mv (v := .slice _ _ _) rfl (by exact rfl)) hCst15 ?_
        refine h_take (i := 3) (by exact rfl) rfl rfl rfl (by kernel_rfl) (fun w' hC => run_mv (v := .int _ _) rfl (by exact rfl)) hCst15 ?_
        refine h_take (i := 4) (by exact rfl) rfl rfl rfl (by kernel_rfl) (fun w' hC => by exact run_slE0 (k) rfl Tryz.underlying59 ty_74 rfl (by exact rfl) (hr250 _ (evo_step0 hI15_q hC)) (at1 (by exact rfl) (by omega)) (by first | omega | (simp; omega))) hCst15 ?_
        have hS370 := fun (w' : World) (h : Evo w29 w' []) => (hr250 w' h).drop (k)
        have hS37 := hr25.drop (k)
        have hbd_hS37 := hS37.bd
        refine h_one (i := 1) (by kernel_rfl) ?_
        refine h_do (by exact rfl) ?_
        refine r_bslice (pv := [(0, .agg _)]) (zs := [_, _, _]) (cs := [_, _, _]) Tryz.underlying59 ty_74 (by exact rfl) rfl (by exact rfl) rfl (by exact rfl) ?_
        intro b38 w39 heb38 hEw39 hbb38 hzb38
        have hs_w39 := (hEw39).size
        replace hV := evo_step0 hV hEw39
        replace hI15 := evo_step0 hI15 hEw39
        replace hCst15 := evo_step0 hCst15 hEw39
        replace hl := hl0 _ hV
        replace hr25 := hr250 _ hI15
        replace hS37 := hS370 _ hI15
        have hAb38 := hbb38.at
        have hob38 : OwnE w39 w29.heap.size 74 (.slice (some ⟨b38, 0, none⟩) 1 1) ([(⟨lastW ws i, ws.getD i default, 1⟩ : Gram)]) := ownE_lit ([(⟨lastW ws i, ws.getD i default, 1⟩ : Gram)]) hbb38 rfl (by omega) (by simp)
        refine h_next hCst15 ?_
        refine h_one (i := 5) (by kernel_rfl) ?_
        refine h_do (by exact rfl) ?_
        refine r_appendE rfl Tryz.underlying59 ty_74 (by exact rfl) hob38 (by exact rfl) (by exact rfl) hS37 rfl (by simp; omega) (by simp; omega) (by omega) ?_
        intro v40 w41 hEw41 hov40 hlv40
        have hs_w41 := (hEw41).size
        replace hV := evo_stepo hV hEw41 (fun g hg => .inl (by first | exact (hob38.block hg).1 | (have := hob38.block hg; omega)))
        replace hI15 := evo_stepo hI15 hEw41 (fun g hg => .inl (by first | exact (hob38.block hg).1 | (have := hob38.block hg; omega)))
        replace hCst15 := evo_stepo hCst15 hEw41 (fun g hg => .inl (by first | exact (hob38.block hg).1 | (have := hob38.block hg; omega)))
        replace hl := hl0 _ hV
        replace hr25 := hr250 _ hI15
        refine h_next hCst15 ?_
        refine h_take (i := 6) (by exact rfl) rfl rfl rfl (by kernel_rfl) (fun w' hC => run_asg (v := v40) rfl (by exact rfl)) hCst15 ?_
        refine h_done (by kernel_rfl) ?_
        refine r_region ?_
        refine r_op rfl rfl rfl (run_mv (v := .slice _ _ _) rfl (by exact rfl)) ?_
        refine r_op rfl rfl rfl (run_mv (v := .int _ _) rfl (by exact rfl)) ?_
        refine r_op rfl rfl rfl (by exact run_slE (0) (k) rfl Tryz.underlying59 ty_74 (by exact rfl) hr25 lo0 (at1 (by exact rfl) (by omega)) (by first | omega | (simp; omega)) (by first | omega | (simp; omega)) List.drop_zero) ?_
        have hS420 := fun (w' : World) (h : Evo w29 w' []) => (by have h9 := ((hr250 w' h).take (k)).drop (0); rw [List.drop_zero] at h9; exact h9)
        have hS42 := (by have h9 := (hr25.take (k)).drop (0); rw [List.drop_zero] at h9; exact h9)
        have hbd_hS42 := hS42.bd
        refine r_appendE rfl Tryz.underlying59 ty_74 (by exact rfl) (OwnE.nil (α := Gram) _ w29.heap.size _) (by exact rfl) (by exact rfl) hS42 rfl (by simp; omega) (by simp; omega) (by omega) ?_
        intro v43 w44 hEw44 hov43 hlv43
        have hs_w44 := (hEw44).size
        replace hV := evo_step0 hV hEw44
        replace hI15 := evo_step0 hI15 hEw44
        replace hl := hl0 _ hV
        replace hr25 := hr250 _ hI15
        replace hov40 := hov40.evo0 hEw44
        refine r_op rfl rfl rfl (run_mv (v := v40) rfl (by exact rfl)) ?_
        obtain ⟨ao45, g45, cp45, hv45, hr45, hg45⟩ := hov40.rowOf
        subst hv45
        refine r_appendE rfl Tryz.underlying59 ty_74 (by exact rfl) hov43 (by exact rfl) (by exact rfl) hr45 rfl (by simp; omega) (by simp; omega) (by omega) ?_
        intro v46 w47 hEw47 hov46 hlv46
        have hs_w47 := (hEw47).size
        replace hV := evo_stepo hV hEw47 (fun g hg => .inl (by first | exact (hov43.block hg).1 | (have := hov43.block hg; omega)))
        replace hI15 := evo_stepo hI15 hEw47 (fun g hg => .inl (by first | exact (hov43.block hg).1 | (have := hov43.block hg; omega)))
        replace hl := hl0 _ hV
        replace hr25 := hr250 _ hI15
        refine r_op rfl rfl rfl (run_asg (v := v46) rfl (by exact rfl)) ?_
        refine r_nil ?_
        refine r_blk ?_
        refine r_region ?_
        refine r_op rfl rfl rfl (run_mv (v := .int _ _) rfl (by exact rfl)) ?_
        refine r_op rfl rfl rfl (run_add rfl (by exact rfl) (by exact rfl) (by omega) (by omega)) ?_
        refine r_op rfl rfl rfl (run_asg (v := .int _ _) rfl (by exact rfl)) ?_
        refine r_nil ?_
        refine r_again (i + 1) ?_ ?_ ?_
        ·first | omega | (dsimp only; omega)
        ·refine ⟨_, (congrArg (Value.int _) (by omega)), rfl, (by first | assumption | omega | (dsimp only; omega) | (simp; done)), (by first | (rw [grams_step (by omega), ins_hit (by omega) hltp (fun q => hx13 ⟨by omega, q⟩) hx14.2]; exact hov46) | (rw [grams_step (by omega), ins_new (by omega) hltp ((Nat.lt_or_ge k (gramsOf ((pairsL [] ws).take i)).length).elim (fun q => .inr (Classical.not_not.1 fun q2 => hx15 ⟨by omega, q2⟩)) (fun q => .inl (by omega)))]; have h9 := hov46; rw [List.nil_append] at h9; exact h9.base_le (by omega))), (by first | assumption | omega | (dsimp only; omega) | (simp; done)), hV⟩
        ·repeat (first | (with_reducible exact Agree.merge _ _ _) | (with_reducible exact Agree.refl _ _) | (with_reducible refine Agree.upd ?_ _ _ rfl) | ((with_reducible refine Agree.inner ?_ ?_); (kernel_rfl)))
  ·skip
   refine r_exit rfl ?_
   refine r_seq ?_
   refine r_region ?_
   refine r_op rfl rfl rfl (run_mv (v := vo) rfl (by exact rfl)) ?_
   refine r_op rfl rfl rfl (run_asg (v := vo) rfl (by exact rfl)) ?_
   refine r_nil ?_
   refine r_ret (res1 (v := vo) rfl (by exact rfl)) ?_
   exact ⟨_, rfl, hV, by rw [show i = ws.length + 1 by omega, List.take_of_length_le (by rw [pairs_len]; exact Nat.le_refl _)] at hoo; exact hoo⟩
end Go.Proofs.YthbcklajlmcifaaGreat
