/-
  Library, plain laws and walks that the statements reach (joined by a program out of smaller texts).
-/
import Derived.Test.YtlfjocbnbceceaaGreatDoorAdg
import Derived.Test.YtlfjocbnbceceaaGreatDoorAdd
import Derived.Test.YtlfjocbnbceceaaGreatDoorAdb
import Derived.Test.YtlfjocbnbceceaaGreatDoorAde
import Derived.Test.YtlfjocbnbceceaaGreatDoorAdf
import Derived.Test.YtlfjocbnbceceaaGreatDoorAda
import Derived.Deep.Strs
import Derived.OpenShut
set_option linter.unusedVariables false
set_option linter.unusedSimpArgs false
namespace Go.Proofs.YtlfjocbnbceceaaGreatDoor
open Go.RowKit Go.Vc
theorem pl_28 : placesP Tryz.prog 28 = some [(0, 13), (13, 1), (14, 1), (15, 1), (16, 1)] := by kernel_rfl
theorem ty_25 : tyP Tryz.prog 25 = some (1, 24, some (.slice none 0 0)) := by kernel_rfl
theorem ty_26 : tyP Tryz.prog 26 = some (1, 24, some (.slice none 0 0)) := by kernel_rfl
set_option maxHeartbeats 4000000 in
theorem checks_make {T bs : Nat} {ao : Option Addr} {b off cap : Nat} {l : List Int} {N : Nat} {rf : Bool} {w0 : World} (hb : Blk w0 bs T [.slice ao l.length cap, .int .i64 (N : Nat)]) (hl : ∀ w', Evo w0 w' [bs] → RowE w' ao b off cap l) (hN : N ≤ 100000) :
    Calls Tryz.prog 18 #[.pointer (some ⟨bs, 0, none⟩), .bool (decide (rf = true))] w0 fun e w' => ∃ l0 l1 l2 l3 l4 l5 l6 l7 l8 l9 l10 l11 l12 sh lo aot bt ot capt, ∃ ts : List TermL, ∃ aoc bc oc capc, ∃ cl : List Clas, e = .returned (.agg #[.int .i64 l0, .int .i64 l1, .int .i64 l2, .int .i64 l3, .int .i64 l4, .int .i64 l5, .int .i64 l6, .int .i64 l7, .int .i64 l8, .int .i64 l9, .int .i64 l10, .int .i64 l11, .int .i64 l12, .int .i64 sh, .int .i64 lo, .slice aot ts.length capt, .slice aoc cl.length capc]) ∧ Evo w0 w' [bs] ∧ RowRK w' [] aot bt ot capt ts ∧ RowRK w' [] aoc bc oc capc cl ∧ MadeC (⟨[l0, l1, l2, l3, l4, l5, l6, l7, l8, l9, l10, l11, l12], sh, lo, ts, cl⟩ : Chk) := by
 have hAs := hb.at; have hbslt := hb.lt
 refine calls_enter (n := 43) Tryz.func18 rfl Tryz.ntmps18 rfl ?_
 have hV : Evo w0 w0 [bs] := Evo.refl _ _
 have hl0 := hl
 replace hl := hl0 _ hV
 have hbd_hl := hl.bd
 refine Zs ?_
 refine r_alloc (zs := [_, _, _, _, _, _, _, _, _, _, _, _, _, _, _, _, _]) ty_28 η rfl ?_
 intro b1 w2 heb1 hEw2 hbb1 hzb1
 have hs_w2 := (hEw2).size
 replace hV := evo_step0 hV hEw2
 replace hb := hb.evo0 hEw2
 replace hAs := hAs.evo0 hEw2
 replace hl := hl0 _ hV
 have hAb1 := hbb1.at
 refine r_nil ?_
 refine Zs ?_
 refine Zo mvP ?_
 refine Zr [.pointer _, .int _ _] rfl η Tryz.func38 (nx_calls hb hl ω ω ω) ?_
 rintro e w3 ⟨nx3, rfl, hx3, hE3, hn3⟩
 refine ⟨_, rfl, ?_⟩
 have hs_w3 := (hE3).size
 replace hV := evo_step1 hV hE3 (.inr (by simp))
 replace hbb1 := hbb1.evo hE3 θ
 replace hAb1 := hAb1.evo hE3 θ
 replace hb := hn3
 clear hn3
 have hAs := hb.at
 refine Zo (run_mul rfl η η ω ω) ?_
 refine r_bslice (pv := [(0, .int _ _), (1, .int _ _), (2, .int _ _), (3, .int _ _)]) (zs := [_]) (cs := [_, _, _, _]) Tryz.underlying22 ty_3 η rfl η rfl η ?_
 intro b4 w5 heb4 hEw5 hbb4 hzb4
 have hs_w5 := (hEw5).size
 replace hV := evo_step0 hV hEw5
 replace hl := hl0 _ hV
 replace hbb1 := hbb1.evo0 hEw5
 replace hAb1 := hAb1.evo0 hEw5
 replace hb := hb.evo0 hEw5
 replace hAs := hAs.evo0 hEw5
 have hrb4 : RowE w5 (some ⟨b4, 0, none⟩) b4 0 4 ([0, 100, 150, 400] : List Int) := rowLit ([0, 100, 150, 400] : List Int) hbb4 rfl rfl
 refine Zo mvP ?_
 refine Zr [.pointer _, .int _ _] rfl η Tryz.func38 (nx_calls hb hl ω ω ω) ?_
 rintro e w6 ⟨nx6, rfl, hx6, hE6, hn6⟩
 refine ⟨_, rfl, ?_⟩
 have hs_w6 := (hE6).size
 replace hV := evo_step1 hV hE6 (.inr (by simp))
 replace hbb1 := hbb1.evo hE6 θ
 replace hAb1 := hAb1.evo hE6 θ
 replace hrb4 := hrb4.evo hE6 θ
 replace hb := hn6
 clear hn6
 have hAs := hb.at
 refine Zo (run_ix (nx6.toNat) rfl Tryz.underlying22 ty_3 η η ω (by show _ < 4; omega) (hrb4.addr (i := nx6.toNat) (by show _ < 4; omega))) ?_
 have hA7 := hrb4.atD (nx6.toNat) (by show _ < 4; omega)
 refine Zo (run_ld1 rfl ag_3 η (hA7.cell 0 η)) ?_
 refine Zo (run_bld (pv := [(1, .int _ _), (2, .int _ _)]) (zs := [_, _, _, _, _, _, _, _, _, _, _, _, _, _, _, _, _]) (cells := [_, _, _, _, _, _, _, _, _, _, _, _, _, _, _, _, _]) rfl ty_28 η pl_28 η η) ?_
 refine r_var (zs := [_, _, _, _, _, _, _, _, _, _, _, _, _, _, _, _, _]) (vs := [_, _, _, _, _, _, _, _, _, _, _, _, _, _, _, _, _]) ty_28 η rfl η (fun _ => rfl) η rfl rfl η ?_
 intro b8 w9 heb8 hEw9 hbb8 hzb8
 have hs_w9 := (hEw9).size
 replace hV := evo_step0 hV hEw9
 replace hl := hl0 _ hV
 replace hbb1 := hbb1.evo0 hEw9
 replace hAb1 := hAb1.evo0 hEw9
 replace hrb4 := hrb4.evo0 hEw9
 replace hb := hb.evo0 hEw9
 replace hAs := hAs.evo0 hEw9
 have hAb8 := hbb8.at
 refine r_nil ?_
 refine r_seq ?_
 refine Zs ?_
 refine Zn asI ?_
 refine r_block ?_
 obtain ⟨sh, hsh⟩ : ∃ z, z = nx3 * 40 := ⟨_, rfl⟩; obtain ⟨lo, hlo⟩ : ∃ z, z = ([0, 100, 150, 400] : List Int).getD nx6.toNat default := ⟨_, rfl⟩
 have hlb := longs_bd (k := nx6.toNat) ω; rw [← hlo] at hlb
 rw [← hsh, ← hlo] at hbb8; have hAb8 := hbb8.at
 refine r_loop (α := Nat) [6, 16, 17, 18, 19, 20, 21, 22, 23, 24, 25, 26, 27, 28, 29, 30, 31, 32, 33] (fun k g w => ∃ lev : List Int, ∃ N1 : Nat, g 6 = .int .i64 (k : Nat) ∧ Blk w b8 28 ((lev).map (Value.int .i64) ++ [.int .i64 sh, .int .i64 lo, .slice none 0 0, .slice none 0 0]) ∧ At w b8 0 ((lev).map (Value.int .i64) ++ [.int .i64 sh, .int .i64 lo, .slice none 0 0, .slice none 0 0]) ∧ Blk w b1 28 [.int .i64 0, .int .i64 0, .int .i64 0, .int .i64 0, .int .i64 0, .int .i64 0, .int .i64 0, .int .i64 0, .int .i64 0, .int .i64 0, .int .i64 0, .int .i64 0, .int .i64 0, .int .i64 0, .int .i64 0, .slice none 0 0, .slice none 0 0] ∧ At w b1 0 [.int .i64 0, .int .i64 0, .int .i64 0, .int .i64 0, .int .i64 0, .int .i64 0, .int .i64 0, .int .i64 0, .int .i64 0, .int .i64 0, .int .i64 0, .int .i64 0, .int .i64 0, .int .i64 0, .int .i64 0, .slice none 0 0, .slice none 0 0] ∧ Blk w bs T [.slice ao l.length cap, .int .i64 (N1 : Nat)] ∧ At w bs 0 [.slice ao l.length cap, .int .i64 (N1 : Nat)] ∧ LevR lev ∧ (1 ≤ k ∧ k ≤ 13 ∧ N + 2 ≤ N1 ∧ N1 + 2 ≤ N + 2 + 2 * k) ∧ w9.heap.size ≤ w.heap.size ∧ Evo w0 w [bs]) (fun k => 13 - k) 1 ?_ ?_
 ·refine ⟨(List.replicate 13 0), _, rfl, hbb8, hbb8.at, hbb1, hbb1.at, hb, hb.at, LevR.init, ω, δ, hV⟩
 rintro k g w11 ⟨lev, N1, hj12, hbb8, hAb8, hbb1, hAb1, hb, hAs, hLR, hk, hzl10, hV⟩
 have hs_w11hV := hV.size
 have hlt13 := hbb8.lt
 have hlt14 := hbb1.lt
 have hlt15 := hb.lt
 replace hl := hl0 _ hV
 refine Zk 6 (v := .int .i64 (k : Nat)) (by exact hj12) ?_
 have hl13 := hLR.1
 refine r_seq ?_
 refine Zs ?_
 refine Zo mvI ?_
 refine Zn (run_lss rfl η η) ?_
 refine r_cond η (fun hc16 => ?_) (fun hc16 => ?_)
 ·skip
  refine r_skip ?_
  refine r_seq ?_
  refine r_block ?_
  refine Zs ?_
  refine Zo mvI ?_
  refine Zo mvP ?_
  refine Zr [.pointer _, .int _ _] rfl η Tryz.func38 (nx_calls hb hl ω ω ω) ?_
  rintro e w17 ⟨nx17, rfl, hx17, hE17, hn17⟩
  refine ⟨_, rfl, ?_⟩
  have hs_w17 := (hE17).size
  replace hV := evo_step1 hV hE17 (.inr (by simp))
  replace hbb8 := hbb8.evo hE17 θ
  replace hAb8 := hAb8.evo hE17 θ
  replace hbb1 := hbb1.evo hE17 θ
  replace hAb1 := hAb1.evo hE17 θ
  replace hb := hn17
  clear hn17
  have hAs := hb.at
  refine Zo (run_fa rfl η fo_28_0) ?_
  refine Zo (run_ixP (k) rfl Tryz.underlying24 ty_3 η η ω ω) ?_
  refine r_store (v := .int .i64 nx17) (vs := [.int .i64 nx17]) (cs' := (((lev).set k (nx17)).map (Value.int .i64) ++ [.int .i64 sh, .int .i64 lo, .slice none 0 0, .slice none 0 0])) η η hbb8 ty_3 η rfl η (by simp only [Nat.zero_add, Nat.mul_one]; exact lev_fit rfl ω) (by simp only [Nat.zero_add, Nat.mul_one]; exact lev_set ω) ?_
  intro w18 hEw18 hzw18 hb_new
  have hs_w18 := (hEw18).size
  replace hV := evo_step1 hV hEw18 ε
  replace hl := hl0 _ hV
  replace hbb1 := hbb1.evo hEw18 θ
  replace hAb1 := hAb1.evo hEw18 θ
  replace hb := hb.evo hEw18 θ
  replace hAs := hAs.evo hEw18 θ
  replace hbb8 := hb_new
  have hAb8 := hbb8.at
  clear hb_new
  have hlz : ((lev).set k (nx17)).length = (lev).length := List.length_set
  refine r_nil ?_
  refine Zs ?_
  refine Zo mvB ?_
  refine Zo mvB ?_
  refine r_g rfl (wantT η) rfl (fun hg => mvP) ?_
  refine r_gnext rfl (wantT η) rfl (fun hg => run_callf rfl (argcons (v := .pointer _) (glv η (fun h => h) hg) (argcons (v := .int _ _) η (rfl))) Tryz.func38 rfl ζ) (fun hg => (nx_calls hb hl ω ω ω)) hb ?_
  intro nx20 w19 Ng20 hx20 hE20 hna20 hnb20 hbn
  have hs_w19 := (hE20).size
  replace hV := evo_step1 hV hE20 (.inr (by simp))
  replace hl := hl0 _ hV
  replace hbb1 := hbb1.evo hE20 θ
  replace hAb1 := hAb1.evo hE20 θ
  replace hbb8 := hbb8.evo hE20 θ
  replace hAb8 := hAb8.evo hE20 θ
  replace hb := hbn
  clear hbn
  have hAs := hb.at
  refine r_g rfl (wantT η) rfl (fun hg => run_eql rfl (glv η (fun h => h) hg) η) ?_
  refine Zn (run_pick_and rfl η (fun hq => glv η (fun h => h) hq) rfl) ?_
  refine r_cond η (fun hc21 => ?_) (fun hc21 => ?_)
  ·skip
   refine r_region ?_
   refine Zo mvI ?_
   refine Zo (run_fa rfl η fo_28_0) ?_
   refine Zo (run_ixP (k) rfl Tryz.underlying24 ty_3 η η ω ω) ?_
   refine r_store (v := .int .i64 2) (vs := [.int .i64 2]) (cs' := (((lev.set k nx17).set k (2)).map (Value.int .i64) ++ [.int .i64 sh, .int .i64 lo, .slice none 0 0, .slice none 0 0])) η η hbb8 ty_3 η rfl η (by simp only [Nat.zero_add, Nat.mul_one]; exact lev_fit rfl ω) (by simp only [Nat.zero_add, Nat.mul_one]; exact lev_set ω) ?_
   intro w22 hEw22 hzw22 hb_new
   have hs_w22 := (hEw22).size
   replace hV := evo_step1 hV hEw22 ε
   replace hl := hl0 _ hV
   replace hbb1 := hbb1.evo hEw22 θ
   replace hAb1 := hAb1.evo hEw22 θ
   replace hb := hb.evo hEw22 θ
   replace hbb8 := hb_new
   have hAb8 := hbb8.at
   clear hb_new
   have hlz : ((lev.set k nx17).set k (2)).length = (lev.set k nx17).length := List.length_set
   refine r_nil ?_
   refine r_blk ?_
   refine r_region ?_
   refine Zo mvI ?_
   refine Zo (run_add rfl η η ω ω) ?_
   refine Zn asI ?_
   refine r_again (k + 1) ?_ ?_ ?_
   ·first | omega | (dsimp only; omega)
   ·refine ⟨_, _, (congrArg (Value.int _) ω), hbb8, hbb8.at, hbb1, hbb1.at, hb, hb.at, (by first | exact (hLR.set ω ⟨by omega, by omega⟩).set ω ⟨by decide, by decide⟩ | exact hLR.set ω ⟨by omega, by omega⟩), ω, δ, hV⟩
   exact ψ
  refine r_skip ?_
  refine r_blk ?_
  refine r_region ?_
  refine Zo mvI ?_
  refine Zo (run_add rfl η η ω ω) ?_
  refine Zn asI ?_
  refine r_again (k + 1) ?_ ?_ ?_
  ·first | omega | (dsimp only; omega)
  ·refine ⟨_, _, (congrArg (Value.int _) ω), hbb8, hbb8.at, hbb1, hbb1.at, hb, hb.at, (by first | exact (hLR.set ω ⟨by omega, by omega⟩).set ω ⟨by decide, by decide⟩ | exact hLR.set ω ⟨by omega, by omega⟩), ω, δ, hV⟩
  exact ψ
 refine r_exit rfl ?_
 refine r_seq ?_
 obtain ⟨a0, a1, a2, a3, a4, a5, a6, a7, a8, a9, a10, a11, a12, rfl⟩ := list13 hLR.1
 replace hbb8 : Blk _ _ _ [.int .i64 a0, .int .i64 a1, .int .i64 a2, .int .i64 a3, .int .i64 a4, .int .i64 a5, .int .i64 a6, .int .i64 a7, .int .i64 a8, .int .i64 a9, .int .i64 a10, .int .i64 a11, .int .i64 a12, .int .i64 sh, .int .i64 lo, .slice none 0 0, .slice none 0 0] := hbb8; have hAb8 := hbb8.at
 have h5lt := hbb8.lt; have h4lt := hbb1.lt
 refine r_region ?_
 refine Zo mvP ?_
 refine Zr [.pointer _, .int _ _] rfl η Tryz.func39 (classesZ_calls (y1 := b8) (y2 := b1) hb (fun w9 h9 => hl0 _ (Evo.trans hV h9 (fun x hx _ => hx))) ω ω ω ω ω) ?_
 rintro e w23 ⟨vc23, cl23, mc23, Nc23, rfl, hMC23, hNc23, hE23, hn23, hoC23⟩
 refine ⟨_, rfl, ?_⟩
 have hs_w23 := (hE23).size
 replace hV := evo_step1 hV hE23 (.inr (by simp))
 replace hbb8 := hbb8.evo hE23 θ
 replace hAb8 := hAb8.evo hE23 θ
 replace hbb1 := hbb1.evo hE23 θ
 replace hAb1 := hAb1.evo hE23 θ
 replace hb := hn23
 clear hn23
 have hAs := hb.at
 obtain ⟨aoC, gC, cpC, hvC, hC0⟩ := hoC23.rowK θ
 subst hvC
 have hIC : Evo w23 w23 [bs, b8, b1] := Evo.refl _ _
 have hC := hC0.now hIC; have hbd_hC := hC.bd
 have hnm := made_names hMC23.1 ω; have hmc1 := hMC23.1.1
 refine Zo (run_fa rfl η fo_28_4) ?_
 refine r_store (v := .slice _ _ _) (vs := [_]) (cs' := [_, _, _, _, _, _, _, _, _, _, _, _, _, _, _, _, _]) η η hbb8 ty_26 η rfl η rfl η ?_
 intro w24 hEw24 hzw24 hb_new
 have hs_w24 := (hEw24).size
 replace hV := evo_step1 hV hEw24 ε
 replace hIC := evo_step1 hIC hEw24 ε
 replace hbb1 := hbb1.evo hEw24 θ
 replace hAb1 := hAb1.evo hEw24 θ
 replace hb := hb.evo hEw24 θ
 replace hAs := hAs.evo hEw24 θ
 replace hbb8 := hb_new
 have hAb8 := hbb8.at
 clear hb_new
 refine r_nil ?_
 refine Zs ?_
 refine Zo mvP ?_
 refine Zo (run_fa rfl η fo_28_4) ?_
 refine Zo (run_ld1 rfl ag_26 η (hAb8.cell 16 η)) ?_
 refine Zr [.pointer _, .slice _ _ _, .int _ _] rfl η Tryz.func40 (termsZ_make hb (fun w9 h9 => hl0 _ (Evo.trans hV h9 (fun x hx _ => hx))) ω (y1 := b8) (y2 := b1) (hC0.pass hIC (fun x hx => .inr (by simp at hx; simp [hx]))) hnm ω ω ω ω ω) ?_
 rintro e w25 ⟨vt25, ts25, Nt25, rfl, hMT25, hNt25, hE25, hn25, hoT25⟩
 refine ⟨_, rfl, ?_⟩
 have hs_w25 := (hE25).size
 replace hV := evo_step1 hV hE25 (.inr (by simp))
 replace hIC := evo_step1 hIC hE25 ε
 replace hbb1 := hbb1.evo hE25 θ
 replace hAb1 := hAb1.evo hE25 θ
 replace hbb8 := hbb8.evo hE25 θ
 replace hAb8 := hAb8.evo hE25 θ
 replace hb := hn25
 clear hn25
 obtain ⟨aoT, gT, cpT, hvT, hT0⟩ := hoT25.rowK θ
 subst hvT
 have hIT : Evo w25 w25 [bs, b8, b1] := Evo.refl _ _
 have hT := hT0.now hIT; have hbd_hT := hT.bd
 refine Zo (run_fa rfl η fo_28_3) ?_
 refine r_store (v := .slice _ _ _) (vs := [_]) (cs' := [_, _, _, _, _, _, _, _, _, _, _, _, _, _, _, _, _]) η η hbb8 ty_25 η rfl η rfl η ?_
 intro w26 hEw26 hzw26 hb_new
 have hs_w26 := (hEw26).size
 replace hV := evo_step1 hV hEw26 ε
 replace hIC := evo_step1 hIC hEw26 ε
 replace hIT := evo_step1 hIT hEw26 ε
 replace hbb1 := hbb1.evo hEw26 θ
 replace hAb1 := hAb1.evo hEw26 θ
 replace hbb8 := hb_new
 have hAb8 := hbb8.at
 clear hb_new
 refine r_nil ?_
 refine Zs ?_
 refine Zo (run_ldN rfl ag_28 ty_28 η rfl hAb8) ?_
 refine r_store (v := .agg _) (vs := [_, _, _, _, _, _, _, _, _, _, _, _, _, _, _, _, _]) (cs' := [_, _, _, _, _, _, _, _, _, _, _, _, _, _, _, _, _]) η η hbb1 ty_28 η rfl η rfl η ?_
 intro w27 hEw27 hzw27 hb_new
 have hs_w27 := (hEw27).size
 replace hV := evo_step1 hV hEw27 ε
 replace hIC := evo_step1 hIC hEw27 ε
 replace hIT := evo_step1 hIT hEw27 ε
 replace hbb1 := hb_new
 have hAb1 := hbb1.at
 clear hb_new
 refine r_nil ?_
 refine r_ret (resC1 (cs := [_, _, _, _, _, _, _, _, _, _, _, _, _, _, _, _, _]) rfl ag_28 ty_28 η rfl hAb1) ?_
 exact ⟨_, _, _, _, _, _, _, _, _, _, _, _, _, _, _, _, _, _, _, _, _, _, _, _, _, rfl, hV, hT0.pass hIT (fun x hx => absurd hx List.not_mem_nil), hC0.pass hIC (fun x hx => absurd hx List.not_mem_nil), ⟨rfl, hLR.2.1, hLR.2.2, by show 0 ≤ sh ∧ sh ≤ 100; omega, hlb, fun x hx => (hMT25.1 x hx).1, by have := hMT25.2; show ts25.length ≤ 3; omega, by show cl23.length ≤ 2; omega, made_terms (made_valid hMC23.1 ω) hMT25.1 (by have := hMT25.2; show ts25.length ≤ 128; omega)⟩⟩
end Go.Proofs.YtlfjocbnbceceaaGreatDoor
namespace Go.Proofs.YtlfjocbnbceceaaGreatDoor
open Go Go.RowKit Go.Vc
theorem srt_get {l : List Vc.Item} (h : SrtF l) {i j : Nat} (hij : i < j) (hj : j < l.length) : ¬ ltF (l.getD j default) (l.getD i default) := by
  have h1 := List.pairwise_iff_getElem.1 h i j ω hj hij
  rwa [List.getD_eq_getElem?_getD, List.getD_eq_getElem?_getD, List.getElem?_eq_getElem hj, List.getElem?_eq_getElem (show i < l.length by omega)]
theorem runF_kind {c : Chk} {f g : List Vc.Item} {i : Nat} (h : i < (runF c f g).length) : (1 ≤ ((runF c f g).getD i default).kind ∧ ((runF c f g).getD i default).kind ≤ 12) ∧ ¬ c.lev.getD ((runF c f g).getD i default).kind.toNat default = 0 := by
  have := runF_mem (getD_in h)
  exact ⟨findL_kind this.1, this.2⟩
theorem runF_asc {c : Chk} {f g : List Vc.Item} {i : Nat} (h : i < (runF c f g).length) (h0 : 0 < i) : ¬ ((runF c f g).getD i default).kind < ((runF c f g).getD (i - 1) default).kind ∧ ¬ (((runF c f g).getD (i - 1) default).kind = ((runF c f g).getD i default).kind ∧ ((runF c f g).getD i default).text < ((runF c f g).getD (i - 1) default).text) := by
  have h1 := srt_get (runF_srt c f g) (i := i - 1) (j := i) ω h
  exact ⟨fun q => h1 (.inl q), fun q => h1 (.inr ⟨q.1.symm, .inl q.2⟩)⟩
theorem runF_first {c : Chk} {f g : List Vc.Item} {i : Nat} (h : i < (runF c f g).length) (h0 : 0 < i) : ¬ ((runF c f g).getD 0 default).kind = 1 := by
  by_cases hh : hidB f g
  · exfalso
    have h1 : findL c f g = [⟨1, [], 0⟩] := if_pos hh
    have h2 : (runF c f g).length ≤ 1 := by
      unfold runF; split
      · refine Nat.le_trans (List.length_filter_le _ _) ?_
        rw [(sortF_perm _).length_eq, h1]; exact Nat.le_refl _
      · exact Nat.zero_le _
    omega
  · have h1 : findL c f g = findA c f g := if_neg hh
    have h2 := (runF_mem (getD_in (show 0 < (runF c f g).length by omega))).1
    rw [h1] at h2
    have := findA_kind h2
    omega
def setL (c : Chk) (n : Nat) (v : Int) : Chk := ⟨c.lev.set n v, c.short, c.long, c.ts, c.cls⟩
theorem findL_lev {c : Chk} {n : Nat} {v : Int} (f g : List Vc.Item) : findL (setL c n v) f g = findL c f g := rfl
theorem chk_set {c : Chk} {n : Nat} (h : ¬ chkBad c) (hn : n ≠ 0) : ¬ chkBad (setL c n 0) := by
  unfold chkBad at *
  rintro (⟨x, hx, h1⟩ | h1)
  · rcases List.mem_or_eq_of_mem_set hx with h2 | h2
    · exact h (.inl ⟨x, h2, h1⟩)
    · omega
  · refine h (.inr ?_)
    have e : (setL c n 0).lev.getD 0 default = c.lev.getD 0 default := by
      show (c.lev.set n 0).getD 0 default = _
      rw [List.getD_eq_getElem?_getD, List.getElem?_set_ne hn, ← List.getD_eq_getElem?_getD]
    rw [e] at h1; exact h1
theorem valid_bad {c : Chk} (h : validK c = 0) : ¬ chkBad c ∧ validT c.ts c.cls = 0 := by
  unfold validK at h; split at h
  · exact absurd h (by decide)
  · exact ⟨by assumption, h⟩
theorem valid_of {c : Chk} (h : ¬ chkBad c) (h2 : validT c.ts c.cls = 0) : validK c = 0 := by unfold validK; rw [if_neg h]; exact h2
theorem levels_law' {c : Chk} {n : Nat} {f g : List Vc.Item} (hv : validK c = 0) (hn : n ≠ 0) (hn2 : n < c.lev.length) : runF (setL c n 0) f g = (runF c f g).filter (fun x => decide (¬ x.kind = (n : Int))) := by
  have h1 := valid_bad hv
  have h2 : validK (setL c n 0) = 0 := valid_of (chk_set h1.1 hn) h1.2
  unfold runF
  rw [if_pos hv, if_pos h2, List.filter_filter, findL_lev]
  refine List.filter_congr (fun x hx => ?_)
  have hk := findL_kind ((sortF_perm _).mem_iff.1 hx)
  unfold levF
  show decide (¬ (c.lev.set n 0).getD x.kind.toNat default = 0) = _
  by_cases e : x.kind = (n : Int)
  · have e2 : x.kind.toNat = n := by omega
    have e3 : (c.lev.set n 0).getD n default = 0 := by rw [List.getD_eq_getElem?_getD, List.getElem?_set_self hn2]; rfl
    rw [e2, e3]; simp [e]
  · have e2 : n ≠ x.kind.toNat := by omega
    have e3 : (c.lev.set n 0).getD x.kind.toNat default = c.lev.getD x.kind.toNat default := by rw [List.getD_eq_getElem?_getD, List.getElem?_set_ne e2, ← List.getD_eq_getElem?_getD]
    rw [e3]; simp [e]
theorem dif_self {α : Type} [DecidableEq α] (s : List α) (x : α) : dif s s x = 0 := by unfold dif; omega
theorem chk_nums {c : Chk} (h : ¬ chkBad c) : (0 ≤ c.short ∧ c.short ≤ 100) ∧ (c.long = 0 ∨ (100 ≤ c.long ∧ c.long ≤ 10000)) := by
  unfold chkBad at h
  omega
theorem self_kind {c : Chk} {f : List Vc.Item} {z : Vc.Item} (h : z ∈ runF c f f) : z.kind = 2 ∨ z.kind = 8 ∨ z.kind = 10 ∨ z.kind = 11 := by
  have h1 := (runF_mem h).1
  have hv : validK c = 0 := by
    unfold runF at h; split at h
    · assumption
    · cases h
  obtain ⟨hs, hl⟩ := chk_nums (valid_bad hv).1
  have h2 : findL c f f = findA c f f := if_neg (fun q => by have := q.1; have := q.2; omega)
  rw [h2] at h1
  unfold findA slotF tagF numF difS difT at h1
  rw [difs_nil (dif_self _), difs_nil (dif_self _), difs_nil (dif_self _)] at h1
  have e1 : shapeF f f = [] := if_neg (by simp)
  have e2 : edgeA (plainL f) (plainL f) = [] := if_neg (by simp)
  have e3 : edgeB (plainL f) (plainL f) = [] := if_neg (by simp)
  have e4 : signF (plainL f) (plainL f) = [] := if_neg (by simp)
  have hN : (0 : Int) ≤ ((plainL f).length : Nat) := Int.natCast_nonneg _
  have e5 : longF c (plainL f) (plainL f) = [] := if_neg (fun q => by
    rcases hl with hl | hl
    · exact q.1 hl
    · have := Int.mul_le_mul_of_nonneg_right hl.1 hN; omega)
  have e6 : shortF c (plainL f) (plainL f) = [] := if_neg (fun q => by have := Int.mul_le_mul_of_nonneg_right hs.2 hN; omega)
  rw [e1] at h1
  unfold plainF at h1
  rw [e2, e3, e4, e5, e6] at h1
  simp only [List.append_nil, List.nil_append] at h1
  rcases List.mem_append.1 h1 with h1 | h1
  · rcases List.mem_append.1 h1 with h1 | h1
    · exact .inl (if_kind (k := 2) rfl h1)
    · exact .inr (.inl (if_kind (k := 8) rfl h1))
  · have := termF_kind h1
    omega
def kC : Chk := ⟨[0, 1, 1, 1, 1, 1, 2, 1, 1, 1, 1, 1, 1], 0, 0, [], []⟩
def kA : List Vc.Item := [⟨1, [97, 32, 49], 0⟩]
def kB : List Vc.Item := [⟨1, [98, 32, 50], 0⟩]
def kO : List Vc.Item := [⟨6, [49], -1⟩, ⟨6, [50], 1⟩]
theorem kC_ok : validK kC = 0 := by decide +kernel
theorem k_slot : slotF kA kB = [] := by
  have h : slotsL kA = [] ∧ slotsL kB = [] := by decide
  unfold slotF; rw [h.1, h.2]
  exact difs_nil (dif_self _)
theorem k_run : runF kC kA kB = kO := by
  unfold runF
  rw [if_pos kC_ok]
  have e : findL kC kA kB = findA kC kA kB := if_neg (by decide)
  have e2 : findA kC kA kB = kO := by
    unfold findA; rw [k_slot]
    decide +kernel
  rw [e, e2]
  decide +kernel
theorem k_ref : refL kC kO = true := by decide +kernel
theorem k_emp : runF kC [⟨1, [97], 0⟩] [] = [⟨1, [], 0⟩] := by
  unfold runF
  rw [if_pos kC_ok]
  have e : findL kC [⟨1, [97], 0⟩] [] = [⟨1, [], 0⟩] := if_pos ⟨rfl, by simp⟩
  rw [e]; decide +kernel
theorem k_tiny : Tiny kA ∧ Tiny kB ∧ Tiny [⟨1, [97], 0⟩] ∧ Tiny ([] : List Vc.Item) := by unfold Tiny; decide
theorem k_notag : (∀ x ∈ tagsL kA, InR x) ∧ (∀ x ∈ tagsL kB, InR x) ∧ ∀ x ∈ tagsL [⟨1, [97], 0⟩], InR x := by
  have h : tagsL kA = [] ∧ tagsL kB = [] ∧ tagsL [⟨1, [97], 0⟩] = [] := by decide
  rw [h.1, h.2.1, h.2.2]
  exact ⟨fun x hx => absurd hx List.not_mem_nil, fun x hx => absurd hx List.not_mem_nil, fun x hx => absurd hx List.not_mem_nil⟩
theorem own_cast {α : Type} [Enc α] {w : World} {base : Nat} {E : TypeId} {v : Value} {l l2 : List α} (h : OwnE w base E v l) (e : l = l2) : OwnE w base E v l2 := e ▸ h
def kLev (k : Nat) : List Int := (0 :: List.replicate (k - 1) 1) ++ List.replicate (13 - k) 0
theorem kLev_len {k : Nat} (h : 1 ≤ k) (h2 : k ≤ 13) : (kLev k).length = 13 := by unfold kLev; simp; omega
theorem kLev_set {k : Nat} (h : 1 ≤ k) (h2 : k < 13) : (kLev k).set k 1 = kLev (k + 1) := by
  have : ∀ k, k < 13 → 1 ≤ k → (kLev k).set k 1 = kLev (k + 1) := by decide
  exact this k h2 h
theorem known1_calls {s : Str} {w0 : World}  :
    Calls Tryz.prog 37 #[S s] w0 fun e w' => ∃ ao b off cap, e = .returned (.slice ao ([⟨1, s, 0⟩] : List Vc.Item).length cap) ∧ Evo w0 w' [] ∧ RowE w' ao b off cap ([⟨1, s, 0⟩] : List Vc.Item) := by
 refine calls_enter (n := 6) Tryz.func37 rfl Tryz.ntmps37 rfl ?_
 have hV : Evo w0 w0 [] := Evo.refl _ _
 refine Zs ?_
 refine Zn asS ?_
 refine Zs ?_
 refine Zo mvT ?_
 refine Zo (run_bld (pv := [(0, .int _ _), (1, S _)]) (zs := [_, _, _]) (cells := [_, _, _]) rfl ty_32 η pl_32 η η) ?_
 refine r_bslice (pv := [(0, .agg _)]) (zs := [_, _, _]) (cs := [_, _, _]) Tryz.underlying33 ty_32 η rfl η rfl η ?_
 intro b1 w2 heb1 hEw2 hbb1 hzb1
 have hs_w2 := (hEw2).size
 replace hV := evo_step0 hV hEw2
 have hrb1 : RowE w2 (some ⟨b1, 0, none⟩) b1 0 1 ([⟨1, s, 0⟩] : List Vc.Item) := rowLit ([⟨1, s, 0⟩] : List Vc.Item) hbb1 rfl rfl
 refine Zn (run_asg (v := .slice (some ⟨b1, 0, none⟩) _ _) rfl η) ?_
 refine r_ret (res1 (v := .slice (some ⟨b1, 0, none⟩) _ _) rfl η) ?_
 exact ⟨_, _, _, _, rfl, hV, hrb1⟩
set_option maxHeartbeats 4000000 in
theorem kknown_calls  {w0 : World} (htab : Tab w0) :
    Calls Tryz.prog 15 #[] w0 fun e w' => e = .returned (.bool true) ∧ Evo w0 w' [] := by
 refine calls_enter (n := 40) Tryz.func15 rfl Tryz.ntmps15 rfl ?_
 have hV : Evo w0 w0 [] := Evo.refl _ _
 refine Zs ?_
 refine Zn asB ?_
 refine Zs ?_
 refine Zo (run_bld (pv := []) (zs := [_, _, _, _, _, _, _, _, _, _, _, _, _, _, _, _, _]) (cells := [_, _, _, _, _, _, _, _, _, _, _, _, _, _, _, _, _]) rfl ty_28 η pl_28 η η) ?_
 refine r_var (zs := [_, _, _, _, _, _, _, _, _, _, _, _, _, _, _, _, _]) (vs := [_, _, _, _, _, _, _, _, _, _, _, _, _, _, _, _, _]) ty_28 η rfl η (fun _ => rfl) η rfl rfl η ?_
 intro b1 w2 heb1 hEw2 hbb1 hzb1
 have hs_w2 := (hEw2).size
 replace hV := evo_step0 hV hEw2
 have hAb1 := hbb1.at
 refine r_nil ?_
 refine r_seq ?_
 refine Zs ?_
 refine Zn asI ?_
 refine r_block ?_
 refine r_loop (α := Nat) [2, 6, 7, 8, 9, 10, 11, 12] (fun k g w => g 2 = .int .i64 (k : Nat) ∧ Blk w b1 28 ((kLev k).map (Value.int .i64) ++ [.int .i64 0, .int .i64 0, .slice none 0 0, .slice none 0 0]) ∧ At w b1 0 ((kLev k).map (Value.int .i64) ++ [.int .i64 0, .int .i64 0, .slice none 0 0, .slice none 0 0]) ∧ (1 ≤ k ∧ k ≤ 13) ∧ w2.heap.size ≤ w.heap.size ∧ Evo w0 w []) (fun k => 13 - k) 1 ?_ ?_
 ·refine ⟨rfl, hbb1, hbb1.at, δ, δ, hV⟩
 rintro k g w4 ⟨hj5, hbb1, hAb1, hk, hzl3, hV⟩
 have hs_w4hV := hV.size
 have hlt6 := hbb1.lt
 refine Zk 2 (v := .int .i64 (k : Nat)) (by exact hj5) ?_
 have hl13 := kLev_len hk.1 hk.2
 refine r_seq ?_
 refine Zs ?_
 refine Zo mvI ?_
 refine Zn (run_lss rfl η η) ?_
 refine r_cond η (fun hc7 => ?_) (fun hc7 => ?_)
 ·skip
  refine r_skip ?_
  refine r_seq ?_
  refine r_block ?_
  refine r_region ?_
  refine Zo mvI ?_
  refine Zo (run_fa rfl η fo_28_0) ?_
  refine Zo (run_ixP (k) rfl Tryz.underlying24 ty_3 η η ω ω) ?_
  refine r_store (v := .int .i64 1) (vs := [.int .i64 1]) (cs' := (((kLev k).set k (1)).map (Value.int .i64) ++ [.int .i64 0, .int .i64 0, .slice none 0 0, .slice none 0 0])) η η hbb1 ty_3 η rfl η (by simp only [Nat.zero_add, Nat.mul_one]; exact lev_fit rfl ω) (by simp only [Nat.zero_add, Nat.mul_one]; exact lev_set ω) ?_
  intro w8 hEw8 hzw8 hb_new
  have hs_w8 := (hEw8).size
  replace hV := evo_step1 hV hEw8 ε
  replace hbb1 := hb_new
  have hAb1 := hbb1.at
  clear hb_new
  have hlz : ((kLev k).set k (1)).length = (kLev k).length := List.length_set
  refine r_nil ?_
  refine r_blk ?_
  refine r_region ?_
  refine Zo mvI ?_
  refine Zo (run_add rfl η η ω ω) ?_
  refine Zn asI ?_
  refine r_again (k + 1) ?_ ?_ ?_
  ·first | omega | (dsimp only; omega)
  ·refine ⟨(congrArg (Value.int _) ω), (by have h9 := hbb1; rw [kLev_set hk.1 ω] at h9; exact h9), (by have h9 := hbb1.at; rw [kLev_set hk.1 ω] at h9; exact h9), δ, δ, hV⟩
  exact ψ
 refine r_exit rfl ?_
 refine r_seq ?_
 obtain rfl : k = 13 := by omega
 replace hbb1 : Blk _ _ _ [.int .i64 0, .int .i64 1, .int .i64 1, .int .i64 1, .int .i64 1, .int .i64 1, .int .i64 1, .int .i64 1, .int .i64 1, .int .i64 1, .int .i64 1, .int .i64 1, .int .i64 1, .int .i64 0, .int .i64 0, .slice none 0 0, .slice none 0 0] := hbb1; have hAb1 := hbb1.at
 refine r_region ?_
 refine Zo (run_fa rfl η fo_28_0) ?_
 refine Zo (run_ixP (6) rfl Tryz.underlying24 ty_3 η η η ω) ?_
 refine r_store (v := .int _ _) (vs := [_]) (cs' := [_, _, _, _, _, _, _, _, _, _, _, _, _, _, _, _, _]) η η hbb1 ty_3 η rfl η rfl η ?_
 intro w9 hEw9 hzw9 hb_new
 have hs_w9 := (hEw9).size
 replace hV := evo_step1 hV hEw9 ε
 replace hbb1 := hb_new
 have hAb1 := hbb1.at
 clear hb_new
 refine r_nil ?_
 refine Zs ?_
 refine Zn (run_asg (v := .func _ _ _) rfl η) ?_
 refine r_seq ?_
 have hbb1_q := hbb1
 have hAb1_q := hAb1
 have hV_q := hV
 refine h_region ([]) ζ ?_
 intro w10 hE11 hCst8
 have hs_w10 := (hE11).size
 replace hV := evo_step0 hV hE11
 replace hbb1 := hbb1.evo0 hE11
 replace hAb1 := hAb1.evo0 hE11
 refine Zt (i := 0) η (fun w' hC => run_ldN rfl ag_28 ty_28 η rfl (hAb1_q.evo0 hC)) hCst8 ?_
 refine Zt (i := 1) η (fun w' hC => run_mv (v := .func _ _ _) rfl η) hCst8 ?_
 refine Zt (i := 3) η (fun w' hC => run_mv (v := .func _ _ _) rfl η) hCst8 ?_
 refine Zh (i := 2) ?_
 refine r_opcall rfl rfl rfl (run_callfn (vs := [S _]) (cs := []) rfl η η Tryz.func37 rfl ζ) known1_calls ?_
 rintro e w12 ⟨aoK12, bK12, ofK12, cpK12, rfl, hE12, hrK12⟩
 refine ⟨_, rfl, ?_⟩
 have hs_w12 := (hE12).size
 replace hV := evo_step0 hV hE12
 replace hCst8 := evo_step0 hCst8 hE12
 replace hbb1 := hbb1.evo0 hE12
 replace hAb1 := hAb1.evo0 hE12
 refine h_next hCst8 ?_
 refine Zh (i := 4) ?_
 refine r_opcall rfl rfl rfl (run_callfn (vs := [S _]) (cs := []) rfl η η Tryz.func37 rfl ζ) known1_calls ?_
 rintro e w13 ⟨aoK13, bK13, ofK13, cpK13, rfl, hE13, hrK13⟩
 refine ⟨_, rfl, ?_⟩
 have hs_w13 := (hE13).size
 replace hV := evo_step0 hV hE13
 replace hCst8 := evo_step0 hCst8 hE13
 replace hbb1 := hbb1.evo0 hE13
 replace hAb1 := hAb1.evo0 hE13
 replace hrK12 := hrK12.evo0 hE13
 refine h_next hCst8 ?_
 refine Zh (i := 5) ?_
 refine Zr [.agg _, .slice _ _ _, .slice _ _ _] rfl η Tryz.func14 (run_calls (RowR.nil _ _ 0 0 _) (RowR.nil _ _ 0 0 _) hrK12 hrK13 k_tiny.1 k_tiny.2.1 k_notag.1 k_notag.2.1 (Nat.zero_le _) (fun x hx => absurd hx List.not_mem_nil) (htab.evo0 hV)) ?_
 rintro e w14 ⟨vo14, rfl, hE14, hoo14⟩
 refine ⟨_, rfl, ?_⟩
 have hs_w14 := (hE14).size
 replace hV := evo_step0 hV hE14
 replace hCst8 := evo_step0 hCst8 hE14
 replace hbb1 := hbb1.evo0 hE14
 replace hAb1 := hAb1.evo0 hE14
 replace hoo14 := own_cast hoo14 k_run
 refine h_next hCst8 ?_
 refine Zt (i := 6) η (fun w' hC => run_asg (v := vo14) rfl η) hCst8 ?_
 refine h_done ζ ?_
 refine r_seq ?_
 have hbb1_q := hbb1
 have hAb1_q := hAb1
 have hV_q := hV
 refine h_region ([]) ζ ?_
 intro w15 hE16 hCst9
 have hs_w15 := (hE16).size
 replace hV := evo_step0 hV hE16
 replace hoo14 := hoo14.evo0 hE16
 refine Zt (i := 0) η (fun w' hC => run_mv (v := vo14) rfl η) hCst9 ?_
 refine Zt (i := 1) η (fun w' hC => run_bld (pv := [(0, .int _ _), (1, S _), (2, .int _ _)]) (zs := [_, _, _]) (cells := [_, _, _]) rfl ty_39 η pl_39 η η) hCst9 ?_
 refine Zt (i := 2) η (fun w' hC => run_bld (pv := [(0, .int _ _), (1, S _), (2, .int _ _)]) (zs := [_, _, _]) (cells := [_, _, _]) rfl ty_39 η pl_39 η η) hCst9 ?_
 refine Zh (i := 3) ?_
 refine r_bslice (pv := [(0, .agg _), (1, .agg _)]) (zs := [_, _, _]) (cs := [_, _, _, _, _, _]) Tryz.underlying34 ty_39 η rfl η rfl η ?_
 intro b17 w18 heb17 hEw18 hbb17 hzb17
 have hs_w18 := (hEw18).size
 replace hV := evo_step0 hV hEw18
 replace hCst9 := evo_step0 hCst9 hEw18
 replace hoo14 := hoo14.evo0 hEw18
 have hrb17 : RowE w18 (some ⟨b17, 0, none⟩) b17 0 2 kO := rowLit kO hbb17 rfl rfl
 refine h_next hCst9 ?_
 refine Zh (i := 4) ?_
 obtain ⟨ao19, g19, cp19, hv19, hr19, hg19⟩ := hoo14.rowOf
 subst hv19
 refine Zr [.slice _ _ _, .slice (some ⟨b17, 0, none⟩) _ _] rfl η Tryz.func16 (ksame_calls hr19 hrb17) ?_
 rintro e w20 ⟨rfl, hE20⟩
 refine ⟨_, rfl, ?_⟩
 have hs_w20 := (hE20).size
 replace hV := evo_step0 hV hE20
 replace hCst9 := evo_step0 hCst9 hE20
 replace hr19 := hr19.evo0 hE20
 refine h_next hCst9 ?_
 refine Zt (i := 5) η (fun w' hC => run_mvb rfl η) hCst9 ?_
 refine h_takeY (i := 6) η η rfl (wantT η) η rfl rfl ζ (fun w' hC => run_ldN rfl ag_28 ty_28 η rfl (hAb1_q.evo0 hC)) hCst9 ?_
 refine h_takeY (i := 7) η η rfl (wantT η) η rfl rfl ζ (fun w' hC => mvS) hCst9 ?_
 refine Zh (i := 8) ?_
 refine r_gyes rfl (wantT η) η ?_
 refine Zr [.agg _, .slice _ _ _] rfl η Tryz.func25 (refused_calls hr19 (RowR.nil _ _ 0 0 _) (RowR.nil _ _ 0 0 _)) ?_
 rintro e w21 ⟨rfl, hE21⟩
 refine ⟨_, rfl, ?_⟩
 have hs_w21 := (hE21).size
 replace hV := evo_step0 hV hE21
 replace hCst9 := evo_step0 hCst9 hE21
 refine h_next hCst9 ?_
 refine Zt (i := 9) η (fun w' hC => run_pick_andB rfl η (fun _ => η) rfl) hCst9 ?_
 refine Zt (i := 10) η (fun w' hC => mvB) hCst9 ?_
 refine h_takeY (i := 11) η η rfl (wantT η) (by exact ⟨rfl, k_ref⟩) rfl rfl ζ (fun w' hC => run_ldN rfl ag_28 ty_28 η rfl (hAb1_q.evo0 hC)) hCst9 ?_
 refine h_takeY (i := 12) η η rfl (wantT η) (by exact ⟨rfl, k_ref⟩) rfl rfl ζ (fun w' hC => run_mv (v := .func _ _ _) rfl η) hCst9 ?_
 refine h_takeY (i := 15) η η rfl (wantT η) (by exact ⟨rfl, k_ref⟩) rfl rfl ζ (fun w' hC => run_bld (pv := [(0, .int _ _)]) (zs := [_, _, _]) (cells := [_, _, _]) rfl ty_39 η pl_39 η η) hCst9 ?_
 refine h_two (i := 13) (j := 16) ζ ?_ ?_
 ·skip
  refine h_do η ?_
  refine r_gyes rfl (wantT η) (by exact ⟨rfl, k_ref⟩) ?_
  refine r_opcall rfl rfl rfl (run_callfn (vs := [S _]) (cs := []) rfl η η Tryz.func37 rfl ζ) known1_calls ?_
  rintro e w22 ⟨aoK22, bK22, ofK22, cpK22, rfl, hE22, hrK22⟩
  refine ⟨_, rfl, ?_⟩
  have hs_w22 := (hE22).size
  replace hV := evo_step0 hV hE22
  replace hCst9 := evo_step0 hCst9 hE22
  refine h_next hCst9 ?_
  refine h_two (i := 14) (j := 16) ζ ?_ ?_
  ·skip
   refine h_do η ?_
   refine r_gyes rfl (wantT η) (by exact ⟨rfl, k_ref⟩) ?_
   refine Zr [.agg _, .slice _ _ _, .slice _ _ _] rfl η Tryz.func14 (run_calls (RowR.nil _ _ 0 0 _) (RowR.nil _ _ 0 0 _) hrK22 (RowE.nil _ none 0 0 0) k_tiny.2.2.1 k_tiny.2.2.2 k_notag.2.2 (fun x hx => absurd hx List.not_mem_nil) (Nat.zero_le _) (fun x hx => absurd hx List.not_mem_nil) (htab.evo0 hV)) ?_
   rintro e w23 ⟨vo23, rfl, hE23, hoo23⟩
   refine ⟨_, rfl, ?_⟩
   have hs_w23 := (hE23).size
   replace hV := evo_step0 hV hE23
   replace hCst9 := evo_step0 hCst9 hE23
   replace hoo23 := own_cast hoo23 k_emp
   refine h_next hCst9 ?_
   refine Zh (i := 16) ?_
   refine r_gyes rfl (wantT η) (by exact ⟨rfl, k_ref⟩) ?_
   refine r_bslice (pv := [(0, .agg _)]) (zs := [_, _, _]) (cs := [_, _, _]) Tryz.underlying34 ty_39 η rfl η rfl η ?_
   intro b24 w25 heb24 hEw25 hbb24 hzb24
   have hs_w25 := (hEw25).size
   replace hV := evo_step0 hV hEw25
   replace hCst9 := evo_step0 hCst9 hEw25
   replace hoo23 := hoo23.evo0 hEw25
   have hrb24 : RowE w25 (some ⟨b24, 0, none⟩) b24 0 1 ([⟨1, [], 0⟩] : List Vc.Item) := rowLit ([⟨1, [], 0⟩] : List Vc.Item) hbb24 rfl rfl
   refine h_next hCst9 ?_
   refine Zh (i := 17) ?_
   refine r_gyes rfl (wantT η) (by exact ⟨rfl, k_ref⟩) ?_
   obtain ⟨ao26, g26, cp26, hv26, hr26, hg26⟩ := hoo23.rowOf
   subst hv26
   refine Zr [.slice _ _ _, .slice (some ⟨b24, 0, none⟩) _ _] rfl η Tryz.func16 (ksame_calls hr26 hrb24) ?_
   rintro e w27 ⟨rfl, hE27⟩
   refine ⟨_, rfl, ?_⟩
   have hs_w27 := (hE27).size
   replace hV := evo_step0 hV hE27
   replace hCst9 := evo_step0 hCst9 hE27
   refine h_next hCst9 ?_
   refine Zt (i := 18) η (fun w' hC => run_pick_andB rfl η (fun _ => η) rfl) hCst9 ?_
   refine Zt (i := 19) η (fun w' hC => asB) hCst9 ?_
   refine h_done ζ ?_
   refine r_ret (res1 (v := .bool _) rfl η) ?_
   exact ⟨ret_bool (decide_eq_true ⟨⟨rfl, k_ref⟩, rfl⟩), hV⟩
  refine h_do η ?_
  refine r_gyes rfl (wantT η) (by exact ⟨rfl, k_ref⟩) ?_
  refine r_bslice (pv := [(0, .agg _)]) (zs := [_, _, _]) (cs := [_, _, _]) Tryz.underlying34 ty_39 η rfl η rfl η ?_
  intro b28 w29 heb28 hEw29 hbb28 hzb28
  have hs_w29 := (hEw29).size
  replace hV := evo_step0 hV hEw29
  replace hCst9 := evo_step0 hCst9 hEw29
  replace hrK22 := hrK22.evo0 hEw29
  have hrb28 : RowE w29 (some ⟨b28, 0, none⟩) b28 0 1 ([⟨1, [], 0⟩] : List Vc.Item) := rowLit ([⟨1, [], 0⟩] : List Vc.Item) hbb28 rfl rfl
  refine h_next hCst9 ?_
  refine Zh (i := 14) ?_
  refine r_gyes rfl (wantT η) (by exact ⟨rfl, k_ref⟩) ?_
  refine Zr [.agg _, .slice _ _ _, .slice _ _ _] rfl η Tryz.func14 (run_calls (RowR.nil _ _ 0 0 _) (RowR.nil _ _ 0 0 _) hrK22 (RowE.nil _ none 0 0 0) k_tiny.2.2.1 k_tiny.2.2.2 k_notag.2.2 (fun x hx => absurd hx List.not_mem_nil) (Nat.zero_le _) (fun x hx => absurd hx List.not_mem_nil) (htab.evo0 hV)) ?_
  rintro e w30 ⟨vo30, rfl, hE30, hoo30⟩
  refine ⟨_, rfl, ?_⟩
  have hs_w30 := (hE30).size
  replace hV := evo_step0 hV hE30
  replace hCst9 := evo_step0 hCst9 hE30
  replace hrb28 := hrb28.evo0 hE30
  replace hoo30 := own_cast hoo30 k_emp
  refine h_next hCst9 ?_
  refine Zh (i := 17) ?_
  refine r_gyes rfl (wantT η) (by exact ⟨rfl, k_ref⟩) ?_
  obtain ⟨ao31, g31, cp31, hv31, hr31, hg31⟩ := hoo30.rowOf
  subst hv31
  refine Zr [.slice _ _ _, .slice (some ⟨b28, 0, none⟩) _ _] rfl η Tryz.func16 (ksame_calls hr31 hrb28) ?_
  rintro e w32 ⟨rfl, hE32⟩
  refine ⟨_, rfl, ?_⟩
  have hs_w32 := (hE32).size
  replace hV := evo_step0 hV hE32
  replace hCst9 := evo_step0 hCst9 hE32
  refine h_next hCst9 ?_
  refine Zt (i := 18) η (fun w' hC => run_pick_andB rfl η (fun _ => η) rfl) hCst9 ?_
  refine Zt (i := 19) η (fun w' hC => asB) hCst9 ?_
  refine h_done ζ ?_
  refine r_ret (res1 (v := .bool _) rfl η) ?_
  exact ⟨ret_bool (decide_eq_true ⟨⟨rfl, k_ref⟩, rfl⟩), hV⟩
 refine h_do η ?_
 refine r_gyes rfl (wantT η) (by exact ⟨rfl, k_ref⟩) ?_
 refine r_bslice (pv := [(0, .agg _)]) (zs := [_, _, _]) (cs := [_, _, _]) Tryz.underlying34 ty_39 η rfl η rfl η ?_
 intro b33 w34 heb33 hEw34 hbb33 hzb33
 have hs_w34 := (hEw34).size
 replace hV := evo_step0 hV hEw34
 replace hCst9 := evo_step0 hCst9 hEw34
 have hrb33 : RowE w34 (some ⟨b33, 0, none⟩) b33 0 1 ([⟨1, [], 0⟩] : List Vc.Item) := rowLit ([⟨1, [], 0⟩] : List Vc.Item) hbb33 rfl rfl
 refine h_next hCst9 ?_
 refine Zh (i := 13) ?_
 refine r_gyes rfl (wantT η) (by exact ⟨rfl, k_ref⟩) ?_
 refine r_opcall rfl rfl rfl (run_callfn (vs := [S _]) (cs := []) rfl η η Tryz.func37 rfl ζ) known1_calls ?_
 rintro e w35 ⟨aoK35, bK35, ofK35, cpK35, rfl, hE35, hrK35⟩
 refine ⟨_, rfl, ?_⟩
 have hs_w35 := (hE35).size
 replace hV := evo_step0 hV hE35
 replace hCst9 := evo_step0 hCst9 hE35
 replace hrb33 := hrb33.evo0 hE35
 refine h_next hCst9 ?_
 refine Zh (i := 14) ?_
 refine r_gyes rfl (wantT η) (by exact ⟨rfl, k_ref⟩) ?_
 refine Zr [.agg _, .slice _ _ _, .slice _ _ _] rfl η Tryz.func14 (run_calls (RowR.nil _ _ 0 0 _) (RowR.nil _ _ 0 0 _) hrK35 (RowE.nil _ none 0 0 0) k_tiny.2.2.1 k_tiny.2.2.2 k_notag.2.2 (fun x hx => absurd hx List.not_mem_nil) (Nat.zero_le _) (fun x hx => absurd hx List.not_mem_nil) (htab.evo0 hV)) ?_
 rintro e w36 ⟨vo36, rfl, hE36, hoo36⟩
 refine ⟨_, rfl, ?_⟩
 have hs_w36 := (hE36).size
 replace hV := evo_step0 hV hE36
 replace hCst9 := evo_step0 hCst9 hE36
 replace hrb33 := hrb33.evo0 hE36
 replace hoo36 := own_cast hoo36 k_emp
 refine h_next hCst9 ?_
 refine Zh (i := 17) ?_
 refine r_gyes rfl (wantT η) (by exact ⟨rfl, k_ref⟩) ?_
 obtain ⟨ao37, g37, cp37, hv37, hr37, hg37⟩ := hoo36.rowOf
 subst hv37
 refine Zr [.slice _ _ _, .slice (some ⟨b33, 0, none⟩) _ _] rfl η Tryz.func16 (ksame_calls hr37 hrb33) ?_
 rintro e w38 ⟨rfl, hE38⟩
 refine ⟨_, rfl, ?_⟩
 have hs_w38 := (hE38).size
 replace hV := evo_step0 hV hE38
 replace hCst9 := evo_step0 hCst9 hE38
 refine h_next hCst9 ?_
 refine Zt (i := 18) η (fun w' hC => run_pick_andB rfl η (fun _ => η) rfl) hCst9 ?_
 refine Zt (i := 19) η (fun w' hC => asB) hCst9 ?_
 refine h_done ζ ?_
 refine r_ret (res1 (v := .bool _) rfl η) ?_
 exact ⟨ret_bool (decide_eq_true ⟨⟨rfl, k_ref⟩, rfl⟩), hV⟩
theorem runF_len (c : Chk) (f g : List Vc.Item) : (runF c f g).length ≤ (findL c f g).length := by
  unfold runF; split
  · exact Nat.le_trans (List.length_filter_le _ _) (by rw [(sortF_perm _).length_eq]; exact Nat.le_refl _)
  · exact Nat.zero_le _
theorem fil_y {x : Vc.Item} {n : Int} {m : Nat} (hm : (m : Int) = n) (h : ¬ x.kind = n) : (fun x : Vc.Item => decide (¬ x.kind = (m : Int))) x = true := decide_eq_true (by rw [hm]; exact h)
theorem fil_n {x : Vc.Item} {n : Int} {m : Nat} (hm : (m : Int) = n) (h : ¬ ¬ x.kind = n) : ¬ (fun x : Vc.Item => decide (¬ x.kind = (m : Int))) x = true := fun q => by
  have q2 := of_decide_eq_true q
  rw [hm] at q2; exact h q2
theorem ord_dead {k : Nat} {a b : Int} {s t : Str} (h : 0 < k → ¬ b < a ∧ ¬ (a = b ∧ t < s)) (h2 : 0 < ((k : Nat) : Int) ∧ (b < a ∨ (a = b ∧ ¬ (blt s t || s == t) = true))) : False := by
  have h3 := h ω
  rcases h2.2 with h4 | ⟨h4, h5⟩
  · exact h3.1 h4
  · exact h3.2 ⟨h4, Classical.not_not.1 (fun q => h5 ((sleq_iff s t).2 (List.not_lt.1 q)))⟩
set_option maxHeartbeats 2000000 in
theorem kself_law {aoa : Option Addr} {ba offa capa : Nat} {a : List Int} {aob : Option Addr} {bb offb capb : Nat} {b : List Int} {w0 : World} (ha : RowE w0 aoa ba offa capa a) (hb : RowE w0 aob bb offb capb b) (htab : Tab w0) :
    Calls Tryz.prog 7 #[.slice aoa a.length capa, .slice aob b.length capb] w0 fun e w' => e = .returned (.bool true) ∧ Evo w0 w' [] := by
 refine calls_enter (n := 52) Tryz.func7 rfl Tryz.ntmps7 rfl ?_
 have hV : Evo w0 w0 [] := Evo.refl _ _
 have ha0 := keepE ha
 have hbd_ha := ha.bd
 have hb0 := keepE hb
 have hbd_hb := hb.bd
 refine Zs ?_
 refine Zn asB ?_
 refine r_seq ?_
 refine Zs ?_
 refine Zo mvS ?_
 refine Zo mvS ?_
 refine r_bslice (pv := [(0, .slice _ _ _), (1, .slice _ _ _)]) (zs := [_]) (cs := [_, _]) Tryz.underlying65 ty_22 η rfl η rfl η ?_
 intro b1 w2 heb1 hEw2 hbb1 hzb1
 have hs_w2 := (hEw2).size
 replace hV := evo_step0 hV hEw2
 replace ha := ha0 _ hV
 replace hb := hb0 _ hV
 have hrb1 : RowR w2 (some ⟨b1, 0, none⟩) b1 0 2 ([a, b] : List (List Int)) := rowLitR [[_], [_]] ([a, b] : List (List Int)) hbb1 rfl ((RepL.one (sl_rep ha)).append (RepL.one (sl_rep hb))) rfl
 refine Zr [.slice (some ⟨b1, 0, none⟩) _ _] rfl η Tryz.func17 (klong_calls hrb1 (by have h1 := hbd_ha; have h2 := hbd_hb; simp; omega)) ?_
 rintro e w3 ⟨rfl, hE3⟩
 refine ⟨_, rfl, ?_⟩
 have hs_w3 := (hE3).size
 replace hV := evo_step0 hV hE3
 replace hrb1 := hrb1.evo0 hE3
 refine r_nil ?_
 refine r_condb η (fun hc4 => ?_) (fun hc4 => ?_)
 ·skip
  refine Zs ?_
  refine Zr [] rfl η Tryz.func15 (kknown_calls (htab.evo0 hV)) ?_
  rintro e w5 ⟨rfl, hE5⟩
  refine ⟨_, rfl, ?_⟩
  have hs_w5 := (hE5).size
  replace hV := evo_step0 hV hE5
  refine Zn asB ?_
  refine r_ret (res1 (v := .bool _) rfl η) ?_
  exact ⟨rfl, hV⟩
 refine r_skip ?_
 refine Zs ?_
 refine Zo mvS ?_
 refine Zr [.slice _ _ _] rfl η Tryz.func19 kfrom_calls ?_
 rintro e w6 ⟨bs6, rfl, hbs6, hE6, hbn6, hbA6⟩
 refine ⟨_, rfl, ?_⟩
 have hs_w6 := (hE6).size
 replace hV := evo_step0 hV hE6
 replace hrb1 := hrb1.evo0 hE6
 refine Zr [.pointer _, .bool _] rfl η Tryz.func18 (checks_make (N := 0) (rf := false) (show Blk _ _ _ [_, .int .i64 ((0 : Nat) : Int)] from hbn6) (fun w9 h9 => ha0 _ (evo_step1 hV h9 (.inl ω))) ω) ?_
 rintro e w7 ⟨l0_7, l1_7, l2_7, l3_7, l4_7, l5_7, l6_7, l7_7, l8_7, l9_7, l10_7, l11_7, l12_7, sh7, lo7, aot7, bt7, ot7, capt7, ts7, aoc7, bc7, oc7, capc7, cl7, rfl, hE7, hTs70, hCl70, hMC7⟩
 refine ⟨_, rfl, ?_⟩
 have hs_w7 := (hE7).size
 replace hV := evo_step1 hV hE7 ε
 have hK7 : Evo w7 w7 [] := Evo.refl _ _
 have hTs7 := hTs70.now hK7; have hbd_hTs7 := hTs7.bd
 have hCl7 := hCl70.now hK7; have hbd_hCl7 := hCl7.bd
 have hMCl7 := hMC7.len
 refine r_var (zs := [_, _, _, _, _, _, _, _, _, _, _, _, _, _, _, _, _]) (vs := [_, _, _, _, _, _, _, _, _, _, _, _, _, _, _, _, _]) ty_28 η rfl η (fun _ => rfl) η rfl rfl η ?_
 intro b8 w9 heb8 hEw9 hbb8 hzb8
 have hs_w9 := (hEw9).size
 replace hV := evo_step0 hV hEw9
 replace hK7 := evo_step0 hK7 hEw9
 replace hb := hb0 _ hV
 refine r_nil ?_
 refine Zs ?_
 refine Zo mvS ?_
 refine Zr [.slice _ _ _] rfl η Tryz.func21 (pairof_calls hb) ?_
 rintro e w10 ⟨aoA10, bA10, ofA10, cpA10, aoB10, bB10, ofB10, cpB10, pf10, pg10, rfl, hE10, hrA10, hrB10, hgP10, hPR10⟩
 refine ⟨_, rfl, ?_⟩
 have hs_w10 := (hE10).size
 replace hV := evo_step0 hV hE10
 replace hK7 := evo_step0 hK7 hE10
 replace hTs7 := hTs70.now hK7
 replace hCl7 := hCl70.now hK7
 replace hbb8 := hbb8.evo0 hE10
 have hJ10 : Evo w10 w10 [] := Evo.refl _ _
 have hrA100 := fun w9 (h9 : Evo w10 w9 []) => row_keep hrA10 h9 (fun hne hm => by have h2 := hgP10.1 hne; simp at hm <;> omega)
 have hbd_hrA10 := hrA10.bd
 have hrB100 := fun w9 (h9 : Evo w10 w9 []) => row_keep hrB10 h9 (fun hne hm => by have h2 := hgP10.2 hne; simp at hm <;> omega)
 have hbd_hrB10 := hrB10.bd
 refine Zo mvU ?_
 refine Zo (run_extract (v := .slice _ _ _) rfl η η) ?_
 refine Zo (run_extract (v := .slice _ _ _) rfl η η) ?_
 refine Zo asS ?_
 refine Zn asS ?_
 refine r_seq ?_
 refine Zs ?_
 refine Zo (run_ldN rfl ag_28 ty_28 η rfl hbb8.at) ?_
 refine Zo mvS ?_
 refine Zo mvS ?_
 refine Zr [.agg _, .slice _ _ _, .slice _ _ _] rfl η Tryz.func14 (run_calls hTs7 hCl7 hrA10 hrA10 hPR10.tf hPR10.tf hPR10.nf hPR10.nf hMC7.tl40 hMC7.jud (htab.evo0 hV)) ?_
 rintro e w11 ⟨vo11, rfl, hE11, hoo11⟩
 refine ⟨_, rfl, ?_⟩
 have hs_w11 := (hE11).size
 replace hV := evo_step0 hV hE11
 replace hK7 := evo_step0 hK7 hE11
 replace hJ10 := evo_step0 hJ10 hE11
 replace ha := ha0 _ hV
 replace hb := hb0 _ hV
 replace hTs7 := hTs70.now hK7
 replace hCl7 := hCl70.now hK7
 replace hrA10 := hrA100 _ hJ10
 replace hrB10 := hrB100 _ hJ10
 refine Zo (run_lenOE rfl η Tryz.underlying34 hoo11) ?_
 refine Zn mvI ?_
 refine r_block ?_
 have hI12 : Evo w11 w11 [] := Evo.refl _ _
 obtain ⟨ao13, g13, cp13, hv13, hr13, hg13⟩ := hoo11.rowOf
 subst hv13
 have hr130 := keepE hr13
 have hbdR := hr13.bd
 refine r_loop (α := Nat) [4, 9, 28, 29, 30, 31, 32, 33, 34, 35, 36, 37, 38, 39, 40, 41, 42, 43, 44, 45, 46, 47, 48, 49, 50] (fun k g w => g 28 = .int .i64 (k : Nat) ∧ k ≤ (runF (⟨[l0_7, l1_7, l2_7, l3_7, l4_7, l5_7, l6_7, l7_7, l8_7, l9_7, l10_7, l11_7, l12_7], sh7, lo7, ts7, cl7⟩ : Chk) pf10 pf10).length ∧ w11.heap.size ≤ w.heap.size ∧ Evo w0 w [] ∧ Evo w7 w [] ∧ Evo w10 w [] ∧ Evo w11 w []) (fun k => (runF (⟨[l0_7, l1_7, l2_7, l3_7, l4_7, l5_7, l6_7, l7_7, l8_7, l9_7, l10_7, l11_7, l12_7], sh7, lo7, ts7, cl7⟩ : Chk) pf10 pf10).length - k) 0 ?_ ?_
 ·refine ⟨σ, δ, δ, hV, hK7, hJ10, hI12⟩
 rintro k g w15 ⟨hj16, hk_k, hzl14, hV, hK7, hJ10, hI12⟩
 have hs_w15hV := hV.size
 have hs_w15hK7 := hK7.size
 have hs_w15hJ10 := hJ10.size
 have hs_w15hI12 := hI12.size
 replace hr13 := hr130 _ hI12
 refine Zk 28 (v := .int .i64 (k : Nat)) (by exact hj16) ?_
 refine Zs ?_
 refine Zn (run_lss rfl η η) ?_
 refine r_seq ?_
 refine r_cond η (fun hc17 => ?_) (fun hc17 => ?_)
 ·skip
  refine r_skip ?_
  refine r_seq ?_
  refine r_block ?_
  refine Zs ?_
  refine Zo (run_ix (k) rfl Tryz.underlying34 ty_39 η η (by first | exact rfl | omega) ω (hr13.addr (i := k) ω)) ?_
  have hA180 := fun (w' : World) (h : Evo w11 w' []) => (hr130 w' h).atD (k) ω
  have hA18 := hA180 _ hI12
  refine Zo (run_ldN rfl ag_39 ty_39 η rfl hA18) ?_
  refine r_var (zs := [_, _, _]) (vs := [_, _, _]) ty_39 η rfl η (fun _ => rfl) η rfl rfl η ?_
  intro b19 w20 heb19 hEw20 hbb19 hzb19
  have hs_w20 := (hEw20).size
  replace hV := evo_step0 hV hEw20
  replace hK7 := evo_step0 hK7 hEw20
  replace hJ10 := evo_step0 hJ10 hEw20
  replace hI12 := evo_step0 hI12 hEw20
  replace ha := ha0 _ hV
  replace hb := hb0 _ hV
  replace hTs7 := hTs70.now hK7
  replace hCl7 := hCl70.now hK7
  replace hrA10 := hrA100 _ hJ10
  replace hrB10 := hrB100 _ hJ10
  replace hr13 := hr130 _ hI12
  refine r_nil ?_
  refine r_seq ?_
  have hsk := self_kind (getD_in (show k < (runF (⟨[l0_7, l1_7, l2_7, l3_7, l4_7, l5_7, l6_7, l7_7, l8_7, l9_7, l10_7, l11_7, l12_7], sh7, lo7, ts7, cl7⟩ : Chk) pf10 pf10).length by omega))
  refine r_region ?_
  refine Zo (run_fa rfl η fo_39_0) ?_
  refine Zo (run_ld1 rfl ag_3 η (hbb19.at.cell 0 η)) ?_
  refine Zo (run_neq rfl η η) ?_
  refine Zo mvB ?_
  refine r_g rfl (wantT η) rfl (fun hg => run_fa rfl η fo_39_0) ?_
  refine r_g rfl (wantT η) rfl (fun hg => run_ld1 rfl ag_3 (glv η (fun h => h) hg) (hbb19.at.cell 0 η)) ?_
  refine r_g rfl (wantT η) rfl (fun hg => run_neq rfl (glv η (fun h => h) hg) η) ?_
  refine Zo (run_pick_and rfl η (fun hq => glv η (fun h => h) hq) rfl) ?_
  refine Zo mvB ?_
  refine r_g rfl (wantT η) rfl (fun hg => run_fa rfl η fo_39_0) ?_
  refine r_g rfl (wantT η) rfl (fun hg => run_ld1 rfl ag_3 (glv η (fun h => h) hg) (hbb19.at.cell 0 η)) ?_
  refine r_g rfl (wantT η) rfl (fun hg => run_neq rfl (glv η (fun h => h) hg) η) ?_
  refine Zo (run_pick_and rfl η (fun hq => glv η (fun h => h) hq) rfl) ?_
  refine Zo mvB ?_
  refine r_g rfl (wantT η) rfl (fun hg => run_fa rfl η fo_39_0) ?_
  refine r_g rfl (wantT η) rfl (fun hg => run_ld1 rfl ag_3 (glv η (fun h => h) hg) (hbb19.at.cell 0 η)) ?_
  refine r_g rfl (wantT η) rfl (fun hg => run_neq rfl (glv η (fun h => h) hg) η) ?_
  refine Zn (run_pick_and rfl η (fun hq => glv η (fun h => h) hq) rfl) ?_
  refine r_cond η (fun hc21 => ?_) (fun hc21 => ?_)
  ·skip
   exfalso; omega
  refine r_skip ?_
  refine r_blk ?_
  refine r_region ?_
  refine Zo (run_add rfl η η ω ω) ?_
  refine Zn mvI ?_
  refine r_again (k + 1) ?_ ?_ ?_
  ·first | omega | (dsimp only; omega)
  ·refine ⟨σ, δ, δ, hV, hK7, hJ10, hI12⟩
  exact ψ
 refine r_exit rfl ?_
 refine Zs ?_
 refine Zr [] rfl η Tryz.func15 (kknown_calls (htab.evo0 hV)) ?_
 rintro e w22 ⟨rfl, hE22⟩
 refine ⟨_, rfl, ?_⟩
 have hs_w22 := (hE22).size
 replace hV := evo_step0 hV hE22
 refine Zn asB ?_
 refine r_ret (res1 (v := .bool _) rfl η) ?_
 exact ⟨rfl, hV⟩
set_option maxHeartbeats 2000000 in
theorem kordered_law {aoa : Option Addr} {ba offa capa : Nat} {a : List Int} {aob : Option Addr} {bb offb capb : Nat} {b : List Int} {w0 : World} (ha : RowE w0 aoa ba offa capa a) (hb : RowE w0 aob bb offb capb b) (htab : Tab w0) :
    Calls Tryz.prog 6 #[.slice aoa a.length capa, .slice aob b.length capb] w0 fun e w' => e = .returned (.bool true) ∧ Evo w0 w' [] := by
 refine calls_enter (n := 97) Tryz.func6 rfl Tryz.ntmps6 rfl ?_
 have hV : Evo w0 w0 [] := Evo.refl _ _
 have ha0 := keepE ha
 have hbd_ha := ha.bd
 have hb0 := keepE hb
 have hbd_hb := hb.bd
 refine Zs ?_
 refine Zn asB ?_
 refine r_seq ?_
 refine Zs ?_
 refine Zo mvS ?_
 refine Zo mvS ?_
 refine r_bslice (pv := [(0, .slice _ _ _), (1, .slice _ _ _)]) (zs := [_]) (cs := [_, _]) Tryz.underlying65 ty_22 η rfl η rfl η ?_
 intro b1 w2 heb1 hEw2 hbb1 hzb1
 have hs_w2 := (hEw2).size
 replace hV := evo_step0 hV hEw2
 replace ha := ha0 _ hV
 replace hb := hb0 _ hV
 have hrb1 : RowR w2 (some ⟨b1, 0, none⟩) b1 0 2 ([a, b] : List (List Int)) := rowLitR [[_], [_]] ([a, b] : List (List Int)) hbb1 rfl ((RepL.one (sl_rep ha)).append (RepL.one (sl_rep hb))) rfl
 refine Zr [.slice (some ⟨b1, 0, none⟩) _ _] rfl η Tryz.func17 (klong_calls hrb1 (by have h1 := hbd_ha; have h2 := hbd_hb; simp; omega)) ?_
 rintro e w3 ⟨rfl, hE3⟩
 refine ⟨_, rfl, ?_⟩
 have hs_w3 := (hE3).size
 replace hV := evo_step0 hV hE3
 replace hrb1 := hrb1.evo0 hE3
 refine r_nil ?_
 refine r_condb η (fun hc4 => ?_) (fun hc4 => ?_)
 ·skip
  refine Zs ?_
  refine Zr [] rfl η Tryz.func15 (kknown_calls (htab.evo0 hV)) ?_
  rintro e w5 ⟨rfl, hE5⟩
  refine ⟨_, rfl, ?_⟩
  have hs_w5 := (hE5).size
  replace hV := evo_step0 hV hE5
  refine Zn asB ?_
  refine r_ret (res1 (v := .bool _) rfl η) ?_
  exact ⟨rfl, hV⟩
 refine r_skip ?_
 refine Zs ?_
 refine Zo mvS ?_
 refine Zr [.slice _ _ _] rfl η Tryz.func19 kfrom_calls ?_
 rintro e w6 ⟨bs6, rfl, hbs6, hE6, hbn6, hbA6⟩
 refine ⟨_, rfl, ?_⟩
 have hs_w6 := (hE6).size
 replace hV := evo_step0 hV hE6
 replace hrb1 := hrb1.evo0 hE6
 refine Zr [.pointer _, .bool _] rfl η Tryz.func18 (checks_make (N := 0) (rf := true) (show Blk _ _ _ [_, .int .i64 ((0 : Nat) : Int)] from hbn6) (fun w9 h9 => ha0 _ (evo_step1 hV h9 (.inl ω))) ω) ?_
 rintro e w7 ⟨l0_7, l1_7, l2_7, l3_7, l4_7, l5_7, l6_7, l7_7, l8_7, l9_7, l10_7, l11_7, l12_7, sh7, lo7, aot7, bt7, ot7, capt7, ts7, aoc7, bc7, oc7, capc7, cl7, rfl, hE7, hTs70, hCl70, hMC7⟩
 refine ⟨_, rfl, ?_⟩
 have hs_w7 := (hE7).size
 replace hV := evo_step1 hV hE7 ε
 have hK7 : Evo w7 w7 [] := Evo.refl _ _
 have hTs7 := hTs70.now hK7; have hbd_hTs7 := hTs7.bd
 have hCl7 := hCl70.now hK7; have hbd_hCl7 := hCl7.bd
 have hMCl7 := hMC7.len
 refine r_var (zs := [_, _, _, _, _, _, _, _, _, _, _, _, _, _, _, _, _]) (vs := [_, _, _, _, _, _, _, _, _, _, _, _, _, _, _, _, _]) ty_28 η rfl η (fun _ => rfl) η rfl rfl η ?_
 intro b8 w9 heb8 hEw9 hbb8 hzb8
 have hs_w9 := (hEw9).size
 replace hV := evo_step0 hV hEw9
 replace hK7 := evo_step0 hK7 hEw9
 replace hb := hb0 _ hV
 have hAb8 := hbb8.at
 refine r_nil ?_
 refine Zs ?_
 refine Zo mvS ?_
 refine Zr [.slice _ _ _] rfl η Tryz.func21 (pairof_calls hb) ?_
 rintro e w10 ⟨aoA10, bA10, ofA10, cpA10, aoB10, bB10, ofB10, cpB10, pf10, pg10, rfl, hE10, hrA10, hrB10, hgP10, hPR10⟩
 refine ⟨_, rfl, ?_⟩
 have hs_w10 := (hE10).size
 replace hV := evo_step0 hV hE10
 replace hK7 := evo_step0 hK7 hE10
 replace hTs7 := hTs70.now hK7
 replace hCl7 := hCl70.now hK7
 replace hbb8 := hbb8.evo0 hE10
 replace hAb8 := hAb8.evo0 hE10
 have hJ10 : Evo w10 w10 [] := Evo.refl _ _
 have hrA100 := fun w9 (h9 : Evo w10 w9 []) => row_keep hrA10 h9 (fun hne hm => by have h2 := hgP10.1 hne; simp at hm <;> omega)
 have hbd_hrA10 := hrA10.bd
 have hrB100 := fun w9 (h9 : Evo w10 w9 []) => row_keep hrB10 h9 (fun hne hm => by have h2 := hgP10.2 hne; simp at hm <;> omega)
 have hbd_hrB10 := hrB10.bd
 refine Zo mvU ?_
 refine Zo (run_extract (v := .slice _ _ _) rfl η η) ?_
 refine Zo (run_extract (v := .slice _ _ _) rfl η η) ?_
 refine Zo asS ?_
 refine Zn asS ?_
 refine Zs ?_
 refine Zo (run_ldN rfl ag_28 ty_28 η rfl hAb8) ?_
 refine Zo mvS ?_
 refine Zo mvS ?_
 refine Zr [.agg _, .slice _ _ _, .slice _ _ _] rfl η Tryz.func14 (run_calls hTs7 hCl7 hrA10 hrB10 hPR10.tf hPR10.tg hPR10.nf hPR10.ng hMC7.tl40 hMC7.jud (htab.evo0 hV)) ?_
 rintro e w11 ⟨vo11, rfl, hE11, hoo11⟩
 refine ⟨_, rfl, ?_⟩
 have hs_w11 := (hE11).size
 replace hV := evo_step0 hV hE11
 replace hK7 := evo_step0 hK7 hE11
 replace hJ10 := evo_step0 hJ10 hE11
 replace ha := ha0 _ hV
 replace hb := hb0 _ hV
 replace hTs7 := hTs70.now hK7
 replace hCl7 := hCl70.now hK7
 replace hbb8 := hbb8.evo0 hE11
 replace hAb8 := hAb8.evo0 hE11
 replace hrA10 := hrA100 _ hJ10
 replace hrB10 := hrB100 _ hJ10
 refine Zn (run_asg (v := vo11) rfl η) ?_
 refine r_seq ?_
 refine Zs ?_
 refine Zo (run_mv (v := vo11) rfl η) ?_
 refine Zo (run_lenOE rfl η Tryz.underlying34 hoo11) ?_
 refine Zn mvI ?_
 refine r_block ?_
 have hI12 : Evo w11 w11 [] := Evo.refl _ _
 obtain ⟨ao13, g13, cp13, hv13, hr13, hg13⟩ := hoo11.rowOf
 subst hv13
 have hr130 := keepE hr13
 have hbdR := hr13.bd
 refine r_loop (α := Nat) [4, 9, 10, 30, 31, 32, 33, 34, 35, 36, 37, 38, 39, 40, 41, 42, 43, 44, 45, 46, 47, 48, 49, 50, 51, 52, 53, 54, 55, 56, 57, 58, 59, 60, 61, 62, 63, 64, 65, 66, 67, 68, 69, 70, 71, 72, 73, 74, 75, 76, 77, 78, 79, 80, 81, 82, 83, 84, 85, 86, 87, 88, 89, 90, 91, 92, 93, 94, 95] (fun k g w => g 30 = .int .i64 (k : Nat) ∧ k ≤ (runF (⟨[l0_7, l1_7, l2_7, l3_7, l4_7, l5_7, l6_7, l7_7, l8_7, l9_7, l10_7, l11_7, l12_7], sh7, lo7, ts7, cl7⟩ : Chk) pf10 pg10).length ∧ Blk w b8 28 [.int .i64 l0_7, .int .i64 l1_7, .int .i64 l2_7, .int .i64 l3_7, .int .i64 l4_7, .int .i64 l5_7, .int .i64 l6_7, .int .i64 l7_7, .int .i64 l8_7, .int .i64 l9_7, .int .i64 l10_7, .int .i64 l11_7, .int .i64 l12_7, .int .i64 sh7, .int .i64 lo7, .slice aot7 ts7.length capt7, .slice aoc7 cl7.length capc7] ∧ At w b8 0 [.int .i64 l0_7, .int .i64 l1_7, .int .i64 l2_7, .int .i64 l3_7, .int .i64 l4_7, .int .i64 l5_7, .int .i64 l6_7, .int .i64 l7_7, .int .i64 l8_7, .int .i64 l9_7, .int .i64 l10_7, .int .i64 l11_7, .int .i64 l12_7, .int .i64 sh7, .int .i64 lo7, .slice aot7 ts7.length capt7, .slice aoc7 cl7.length capc7] ∧ w11.heap.size ≤ w.heap.size ∧ Evo w0 w [] ∧ Evo w7 w [] ∧ Evo w10 w [] ∧ Evo w11 w []) (fun k => (runF (⟨[l0_7, l1_7, l2_7, l3_7, l4_7, l5_7, l6_7, l7_7, l8_7, l9_7, l10_7, l11_7, l12_7], sh7, lo7, ts7, cl7⟩ : Chk) pf10 pg10).length - k) 0 ?_ ?_
 ·refine ⟨σ, δ, hbb8, hbb8.at, δ, hV, hK7, hJ10, hI12⟩
 rintro k g w15 ⟨hj16, hk_k, hbb8, hAb8, hzl14, hV, hK7, hJ10, hI12⟩
 have hs_w15hV := hV.size
 have hs_w15hK7 := hK7.size
 have hs_w15hJ10 := hJ10.size
 have hs_w15hI12 := hI12.size
 have hlt17 := hbb8.lt
 replace hr13 := hr130 _ hI12
 refine Zk 30 (v := .int .i64 (k : Nat)) (by exact hj16) ?_
 refine Zs ?_
 refine Zn (run_lss rfl η η) ?_
 refine r_seq ?_
 refine r_cond η (fun hc18 => ?_) (fun hc18 => ?_)
 ·skip
  refine r_skip ?_
  refine r_seq ?_
  refine r_block ?_
  refine Zs ?_
  refine Zo mvI ?_
  refine Zo (run_ix (k) rfl Tryz.underlying34 ty_39 η η (by first | exact rfl | omega) ω (hr13.addr (i := k) ω)) ?_
  have hA190 := fun (w' : World) (h : Evo w11 w' []) => (hr130 w' h).atD (k) ω
  have hA19 := hA190 _ hI12
  refine Zo (run_ldN rfl ag_39 ty_39 η rfl hA19) ?_
  refine r_alloc (zs := [_, _, _]) ty_39 η rfl ?_
  intro b20 w21 heb20 hEw21 hbb20 hzb20
  have hs_w21 := (hEw21).size
  replace hV := evo_step0 hV hEw21
  replace hK7 := evo_step0 hK7 hEw21
  replace hJ10 := evo_step0 hJ10 hEw21
  replace hI12 := evo_step0 hI12 hEw21
  replace hbb8 := hbb8.evo0 hEw21
  replace hAb8 := hAb8.evo0 hEw21
  replace hA19 := hA190 _ hI12
  refine Zo asI ?_
  refine r_store (v := .agg _) (vs := [_, _, _]) (cs' := [_, _, _]) η η hbb20 ty_39 η rfl η rfl η ?_
  intro w22 hEw22 hzw22 hb_new
  have hs_w22 := (hEw22).size
  replace hV := evo_step1 hV hEw22 ε
  replace hK7 := evo_step1 hK7 hEw22 ε
  replace hJ10 := evo_step1 hJ10 hEw22 ε
  replace hI12 := evo_step1 hI12 hEw22 ε
  replace hr13 := hr130 _ hI12
  replace hbb8 := hbb8.evo hEw22 θ
  replace hAb8 := hAb8.evo hEw22 θ
  replace hbb20 := hb_new
  clear hb_new
  refine r_nil ?_
  refine r_seq ?_
  refine r_seq ?_
  obtain ⟨hkk1, hkk2⟩ := runF_kind (c := (⟨[l0_7, l1_7, l2_7, l3_7, l4_7, l5_7, l6_7, l7_7, l8_7, l9_7, l10_7, l11_7, l12_7], sh7, lo7, ts7, cl7⟩ : Chk)) (f := pf10) (g := pg10) (i := k) ω
  refine r_region ?_
  refine Zo (run_fa rfl η fo_39_0) ?_
  refine Zo (run_ld1 rfl ag_3 η (hbb20.at.cell 0 η)) ?_
  refine Zo (run_lss rfl η η) ?_
  refine Zo mvB ?_
  refine r_g rfl (wantF η) rfl (fun hg => run_fa rfl η fo_39_0) ?_
  refine r_g rfl (wantF η) rfl (fun hg => run_ld1 rfl ag_3 (glv η (fun h => h) hg) (hbb20.at.cell 0 η)) ?_
  refine r_g rfl (wantF η) rfl (fun hg => run_gtr rfl (glv η (fun h => h) hg) η) ?_
  refine Zo (run_pick_or rfl η rfl (fun hq => glv η (fun h => h) hq)) ?_
  refine Zo mvB ?_
  refine r_g rfl (wantF η) rfl (fun hg => run_fa rfl η fo_39_0) ?_
  refine r_g rfl (wantF η) rfl (fun hg => run_ld1 rfl ag_3 (glv η (fun h => h) hg) (hbb20.at.cell 0 η)) ?_
  refine r_g rfl (wantF η) rfl (fun hg => run_fa rfl η fo_28_0) ?_
  refine r_g rfl (wantF η) rfl (fun hg => run_ixP (((runF (⟨[l0_7, l1_7, l2_7, l3_7, l4_7, l5_7, l6_7, l7_7, l8_7, l9_7, l10_7, l11_7, l12_7], sh7, lo7, ts7, cl7⟩ : Chk) pf10 pg10).getD k default).kind.toNat) rfl Tryz.underlying24 ty_3 (glv η (fun h => h) hg) (glv η (fun h => h) hg) ω ω) ?_
  refine r_g rfl (wantF η) rfl (fun hg => run_ld1 rfl ag_3 (glv η (fun h => h) hg) (cell_at (j := ((runF (⟨[l0_7, l1_7, l2_7, l3_7, l4_7, l5_7, l6_7, l7_7, l8_7, l9_7, l10_7, l11_7, l12_7], sh7, lo7, ts7, cl7⟩ : Chk) pf10 pg10).getD k default).kind.toNat) hAb8 (by exact lev_at (l := ([l0_7, l1_7, l2_7, l3_7, l4_7, l5_7, l6_7, l7_7, l8_7, l9_7, l10_7, l11_7, l12_7] : List Int)) (rest := [.int .i64 sh7, .int .i64 lo7, .slice aot7 ts7.length capt7, .slice aoc7 cl7.length capc7]) (show ((runF (⟨[l0_7, l1_7, l2_7, l3_7, l4_7, l5_7, l6_7, l7_7, l8_7, l9_7, l10_7, l11_7, l12_7], sh7, lo7, ts7, cl7⟩ : Chk) pf10 pg10).getD k default).kind.toNat < 13 by omega)) ω)) ?_
  refine r_g rfl (wantF η) rfl (fun hg => run_eql rfl (glv η (fun h => h) hg) η) ?_
  refine Zn (run_pick_or rfl η rfl (fun hq => glv η (fun h => h) hq)) ?_
  refine r_cond η (fun hc23 => ?_) (fun hc23 => ?_)
  ·skip
   exfalso; first | omega | (rcases hc23 with (h9 | h9) | h9; omega; omega; exact hkk2 h9)
  refine r_skip ?_
  refine r_seq ?_
  refine r_seq ?_
  have hasc := fun h0 => runF_asc (c := (⟨[l0_7, l1_7, l2_7, l3_7, l4_7, l5_7, l6_7, l7_7, l8_7, l9_7, l10_7, l11_7, l12_7], sh7, lo7, ts7, cl7⟩ : Chk)) (f := pf10) (g := pg10) (i := k) ω h0; have hfst := fun h0 => runF_first (c := (⟨[l0_7, l1_7, l2_7, l3_7, l4_7, l5_7, l6_7, l7_7, l8_7, l9_7, l10_7, l11_7, l12_7], sh7, lo7, ts7, cl7⟩ : Chk)) (f := pf10) (g := pg10) (i := k) ω h0
  refine r_qregion ζ ζ ?_
  refine Zq (fun w' hC => mvI) ?_
  refine Zq (fun w' hC => run_gtr rfl η η) ?_
  refine Zq (fun w' hC => mvB) ?_
  refine q_g rfl (wantT η) rfl (fun hg w' hC => mvS) ?_
  refine q_g rfl (wantT η) rfl (fun hg w' hC => mvI) ?_
  refine q_g rfl (wantT η) rfl (fun hg w' hC => run_sub rfl (glv η (fun h => h) hg) η ω ω) ?_
  refine q_g rfl (wantT η) rfl (fun hg w' hC => run_ix ((k - 1)) rfl Tryz.underlying34 ty_39 (glv η (fun h => h) hg) (glv η (fun h => h) hg) ω ω (hr13.addr (i := (k - 1)) ω)) ?_
  refine q_g rfl (wantT η) rfl (fun hg w' hC => run_fa rfl (glv η (fun h => h) hg) fo_39_0) ?_
  refine q_g rfl (wantT η) rfl (fun hg w' hC => run_ld1 rfl ag_3 (glv η (fun h => h) hg) (((hr13.atD ((k - 1)) ω).evo0 hC).cell 0 η)) ?_
  refine q_g rfl (wantT η) rfl (fun hg w' hC => run_fa rfl η fo_39_0) ?_
  refine q_g rfl (wantT η) rfl (fun hg w' hC => run_ld1 rfl ag_3 (glv η (fun h => h) hg) ((hbb20.at.evo0 hC).cell 0 η)) ?_
  refine q_g rfl (wantT η) rfl (fun hg w' hC => run_gtr rfl (glv η (fun h => h) hg) (glv η (fun h => h) hg)) ?_
  refine q_g rfl (wantT η) rfl (fun hg w' hC => run_mv (v := .bool _) rfl (glv η (fun h => h) hg)) ?_
  refine q_g rfl (wantFg η) rfl (fun hg w' hC => mvS) ?_
  refine q_g rfl (wantFg η) rfl (fun hg w' hC => mvI) ?_
  refine q_g rfl (wantFg η) rfl (fun hg w' hC => run_sub rfl (glv η (fun h => h) hg) η ω ω) ?_
  refine q_g rfl (wantFg η) rfl (fun hg w' hC => run_ix ((k - 1)) rfl Tryz.underlying34 ty_39 (glv η (fun h => h) hg) (glv η (fun h => h) hg) ω ω (hr13.addr (i := (k - 1)) ω)) ?_
  refine q_g rfl (wantFg η) rfl (fun hg w' hC => run_fa rfl (glv η (fun h => h) hg) fo_39_0) ?_
  refine q_g rfl (wantFg η) rfl (fun hg w' hC => run_ld1 rfl ag_3 (glv η (fun h => h) hg) (((hr13.atD ((k - 1)) ω).evo0 hC).cell 0 η)) ?_
  refine q_g rfl (wantFg η) rfl (fun hg w' hC => run_fa rfl η fo_39_0) ?_
  refine q_g rfl (wantFg η) rfl (fun hg w' hC => run_ld1 rfl ag_3 (glv η (fun h => h) hg) ((hbb20.at.evo0 hC).cell 0 η)) ?_
  refine q_g rfl (wantFg η) rfl (fun hg w' hC => run_eql rfl (glv η (fun h => h) hg) (glv η (fun h => h) hg)) ?_
  refine q_g rfl (wantFg η) rfl (fun hg w' hC => run_mv (v := .bool _) rfl (glv η (fun h => h) hg)) ?_
  refine q_g rfl (wantTg η) rfl (fun hg w' hC => mvS) ?_
  refine q_g rfl (wantTg η) rfl (fun hg w' hC => mvI) ?_
  refine q_g rfl (wantTg η) rfl (fun hg w' hC => run_sub rfl (glv η (fun h => h) hg) η ω ω) ?_
  refine q_g rfl (wantTg η) rfl (fun hg w' hC => run_ix ((k - 1)) rfl Tryz.underlying34 ty_39 (glv η (fun h => h) hg) (glv η (fun h => h) hg) ω ω (hr13.addr (i := (k - 1)) ω)) ?_
  refine q_g rfl (wantTg η) rfl (fun hg w' hC => run_fa rfl (glv η (fun h => h) hg) fo_39_1) ?_
  refine q_g rfl (wantTg η) rfl (fun hg w' hC => run_ld1 rfl ag_9 (glv η (fun h => h) hg) (((hr13.atD ((k - 1)) ω).evo0 hC).cell 1 η)) ?_
  refine q_g rfl (wantTg η) rfl (fun hg w' hC => run_fa rfl η fo_39_1) ?_
  refine q_g rfl (wantTg η) rfl (fun hg w' hC => run_ld1 rfl ag_9 (glv η (fun h => h) hg) ((hbb20.at.evo0 hC).cell 1 η)) ?_
  refine q_g rfl (wantTg η) rfl (fun hg w' hC => run_sgtrD rfl (glv η (fun h => h) hg) (glv η (fun h => h) hg)) ?_
  refine q_g rfl (wantFg η) rfl (fun hg w' hC => run_pick_and rfl (glv η (fun h => h) hg) (fun hq => glv η (fun h => h) (And.intro hg hq)) rfl) ?_
  refine q_g rfl (wantT η) rfl (fun hg w' hC => run_pick_or rfl (glv η (fun h => h) hg) rfl (fun hq => glv η (fun h => h) (And.intro hg hq))) ?_
  refine Zq (fun w' hC => run_pick_and rfl η (fun hq => glv η (fun h => h) hq) rfl) ?_
  refine q_nil (fun w24 hE25 => ?_)
  have hs_w24 := (hE25).size
  replace hV := evo_step0 hV hE25
  replace hK7 := evo_step0 hK7 hE25
  replace hJ10 := evo_step0 hJ10 hE25
  replace hI12 := evo_step0 hI12 hE25
  replace ha := ha0 _ hV
  replace hb := hb0 _ hV
  replace hTs7 := hTs70.now hK7
  replace hCl7 := hCl70.now hK7
  replace hrA10 := hrA100 _ hJ10
  replace hrB10 := hrB100 _ hJ10
  replace hr13 := hr130 _ hI12
  replace hbb8 := hbb8.evo0 hE25
  replace hAb8 := hAb8.evo0 hE25
  refine r_cond η (fun hc26 => ?_) (fun hc26 => ?_)
  ·skip
   exfalso; exact ord_dead hasc hc26
  refine r_skip ?_
  refine Zs ?_
  refine Zo mvI ?_
  refine Zo (run_gtr rfl η η) ?_
  refine Zo mvB ?_
  refine r_g rfl (wantT η) rfl (fun hg => mvS) ?_
  refine r_g rfl (wantT η) rfl (fun hg => run_ix (0) rfl Tryz.underlying34 ty_39 (glv η (fun h => h) hg) η (by first | exact rfl | omega) ω (hr13.addr (i := 0) ω)) ?_
  refine r_g rfl (wantT η) rfl (fun hg => run_fa rfl (glv η (fun h => h) hg) fo_39_0) ?_
  refine r_g rfl (wantT η) rfl (fun hg => run_ld1 rfl ag_3 (glv η (fun h => h) hg) ((hr13.atD (0) ω).cell 0 η)) ?_
  refine r_g rfl (wantT η) rfl (fun hg => run_eql rfl (glv η (fun h => h) hg) η) ?_
  refine Zn (run_pick_and rfl η (fun hq => glv η (fun h => h) hq) rfl) ?_
  refine r_cond η (fun hc27 => ?_) (fun hc27 => ?_)
  ·skip
   exfalso; exact hfst (by have := hc27.1; omega) (by have := hc27.2; omega)
  refine r_skip ?_
  refine r_blk ?_
  refine r_region ?_
  refine Zo (run_add rfl η η ω ω) ?_
  refine Zn mvI ?_
  refine r_again (k + 1) ?_ ?_ ?_
  ·first | omega | (dsimp only; omega)
  ·refine ⟨σ, δ, hbb8, hbb8.at, δ, hV, hK7, hJ10, hI12⟩
  exact ψ
 refine r_exit rfl ?_
 refine Zs ?_
 refine Zr [] rfl η Tryz.func15 (kknown_calls (htab.evo0 hV)) ?_
 rintro e w28 ⟨rfl, hE28⟩
 refine ⟨_, rfl, ?_⟩
 have hs_w28 := (hE28).size
 replace hV := evo_step0 hV hE28
 refine Zn asB ?_
 refine r_ret (res1 (v := .bool _) rfl η) ?_
 exact ⟨rfl, hV⟩
set_option maxHeartbeats 4000000 in
theorem klevels_law {aoa : Option Addr} {ba offa capa : Nat} {a : List Int} {aob : Option Addr} {bb offb capb : Nat} {b : List Int} {kd : Int} {w0 : World} (ha : RowE w0 aoa ba offa capa a) (hb : RowE w0 aob bb offb capb b) (htab : Tab w0) :
    Calls Tryz.prog 8 #[.slice aoa a.length capa, .slice aob b.length capb, .int .i64 kd] w0 fun e w' => e = .returned (.bool true) ∧ Evo w0 w' [] := by
 refine calls_enter (n := 60) Tryz.func8 rfl Tryz.ntmps8 rfl ?_
 have hV : Evo w0 w0 [] := Evo.refl _ _
 have ha0 := keepE ha
 have hbd_ha := ha.bd
 have hb0 := keepE hb
 have hbd_hb := hb.bd
 refine Zs ?_
 refine Zn asB ?_
 refine r_seq ?_
 refine Zs ?_
 refine Zo mvS ?_
 refine Zo mvS ?_
 refine r_bslice (pv := [(0, .slice _ _ _), (1, .slice _ _ _)]) (zs := [_]) (cs := [_, _]) Tryz.underlying65 ty_22 η rfl η rfl η ?_
 intro b1 w2 heb1 hEw2 hbb1 hzb1
 have hs_w2 := (hEw2).size
 replace hV := evo_step0 hV hEw2
 replace ha := ha0 _ hV
 replace hb := hb0 _ hV
 have hrb1 : RowR w2 (some ⟨b1, 0, none⟩) b1 0 2 ([a, b] : List (List Int)) := rowLitR [[_], [_]] ([a, b] : List (List Int)) hbb1 rfl ((RepL.one (sl_rep ha)).append (RepL.one (sl_rep hb))) rfl
 refine Zr [.slice (some ⟨b1, 0, none⟩) _ _] rfl η Tryz.func17 (klong_calls hrb1 (by have h1 := hbd_ha; have h2 := hbd_hb; simp; omega)) ?_
 rintro e w3 ⟨rfl, hE3⟩
 refine ⟨_, rfl, ?_⟩
 have hs_w3 := (hE3).size
 replace hV := evo_step0 hV hE3
 replace hrb1 := hrb1.evo0 hE3
 refine r_nil ?_
 refine r_condb η (fun hc4 => ?_) (fun hc4 => ?_)
 ·skip
  refine Zs ?_
  refine Zr [] rfl η Tryz.func15 (kknown_calls (htab.evo0 hV)) ?_
  rintro e w5 ⟨rfl, hE5⟩
  refine ⟨_, rfl, ?_⟩
  have hs_w5 := (hE5).size
  replace hV := evo_step0 hV hE5
  refine Zn asB ?_
  refine r_ret (res1 (v := .bool _) rfl η) ?_
  exact ⟨rfl, hV⟩
 refine r_skip ?_
 refine Zs ?_
 refine Zo mvS ?_
 refine Zr [.slice _ _ _] rfl η Tryz.func19 kfrom_calls ?_
 rintro e w6 ⟨bs6, rfl, hbs6, hE6, hbn6, hbA6⟩
 refine ⟨_, rfl, ?_⟩
 have hs_w6 := (hE6).size
 replace hV := evo_step0 hV hE6
 replace hrb1 := hrb1.evo0 hE6
 refine Zr [.pointer _, .bool _] rfl η Tryz.func18 (checks_make (N := 0) (rf := true) (show Blk _ _ _ [_, .int .i64 ((0 : Nat) : Int)] from hbn6) (fun w9 h9 => ha0 _ (evo_step1 hV h9 (.inl ω))) ω) ?_
 rintro e w7 ⟨l0_7, l1_7, l2_7, l3_7, l4_7, l5_7, l6_7, l7_7, l8_7, l9_7, l10_7, l11_7, l12_7, sh7, lo7, aot7, bt7, ot7, capt7, ts7, aoc7, bc7, oc7, capc7, cl7, rfl, hE7, hTs70, hCl70, hMC7⟩
 refine ⟨_, rfl, ?_⟩
 have hs_w7 := (hE7).size
 replace hV := evo_step1 hV hE7 ε
 have hK7 : Evo w7 w7 [] := Evo.refl _ _
 have hTs7 := hTs70.now hK7; have hbd_hTs7 := hTs7.bd
 have hCl7 := hCl70.now hK7; have hbd_hCl7 := hCl7.bd
 have hMCl7 := hMC7.len
 refine r_var (zs := [_, _, _, _, _, _, _, _, _, _, _, _, _, _, _, _, _]) (vs := [_, _, _, _, _, _, _, _, _, _, _, _, _, _, _, _, _]) ty_28 η rfl η (fun _ => rfl) η rfl rfl η ?_
 intro b8 w9 heb8 hEw9 hbb8 hzb8
 have hs_w9 := (hEw9).size
 replace hV := evo_step0 hV hEw9
 replace hK7 := evo_step0 hK7 hEw9
 replace hb := hb0 _ hV
 have hAb8 := hbb8.at
 refine r_nil ?_
 refine Zs ?_
 refine Zo mvS ?_
 refine Zr [.slice _ _ _] rfl η Tryz.func21 (pairof_calls hb) ?_
 rintro e w10 ⟨aoA10, bA10, ofA10, cpA10, aoB10, bB10, ofB10, cpB10, pf10, pg10, rfl, hE10, hrA10, hrB10, hgP10, hPR10⟩
 refine ⟨_, rfl, ?_⟩
 have hs_w10 := (hE10).size
 replace hV := evo_step0 hV hE10
 replace hK7 := evo_step0 hK7 hE10
 replace hTs7 := hTs70.now hK7
 replace hCl7 := hCl70.now hK7
 replace hbb8 := hbb8.evo0 hE10
 replace hAb8 := hAb8.evo0 hE10
 have hJ10 : Evo w10 w10 [b8] := Evo.refl _ _
 have hrA100 := fun w9 (h9 : Evo w10 w9 [b8]) => row_keep hrA10 h9 (fun hne hm => by have h2 := hgP10.1 hne; simp at hm <;> omega)
 have hbd_hrA10 := hrA10.bd
 have hrB100 := fun w9 (h9 : Evo w10 w9 [b8]) => row_keep hrB10 h9 (fun hne hm => by have h2 := hgP10.2 hne; simp at hm <;> omega)
 have hbd_hrB10 := hrB10.bd
 refine Zo mvU ?_
 refine Zo (run_extract (v := .slice _ _ _) rfl η η) ?_
 refine Zo (run_extract (v := .slice _ _ _) rfl η η) ?_
 refine Zo asS ?_
 refine Zn asS ?_
 refine r_seq ?_
 have hk12 : 0 ≤ kd % 12 ∧ kd % 12 < 12 := ⟨Int.emod_nonneg _ (by decide), Int.emod_lt_of_pos _ (by decide)⟩
 refine r_region ?_
 refine Zo mvI ?_
 refine Zr [.int _ _, .int _ _] rfl η Tryz.func11 (place_calls _ _ ω ω) ?_
 rintro e w11 ⟨rfl, rfl⟩
 refine ⟨_, rfl, ?_⟩
 refine Zo (run_add rfl η η ω ω) ?_
 refine Zn asI ?_
 refine Zs ?_
 refine Zn asS ?_
 refine r_seq ?_
 refine Zs ?_
 refine Zo (run_ldN rfl ag_28 ty_28 η rfl hAb8) ?_
 refine Zo mvS ?_
 refine Zo mvS ?_
 refine Zr [.agg _, .slice _ _ _, .slice _ _ _] rfl η Tryz.func14 (run_calls hTs7 hCl7 hrA10 hrB10 hPR10.tf hPR10.tg hPR10.nf hPR10.ng hMC7.tl40 hMC7.jud (htab.evo0 hV)) ?_
 rintro e w12 ⟨vo12, rfl, hE12, hoo12⟩
 refine ⟨_, rfl, ?_⟩
 have hs_w12 := (hE12).size
 replace hV := evo_step0 hV hE12
 replace hK7 := evo_step0 hK7 hE12
 replace hJ10 := evo_step0 hJ10 hE12
 replace ha := ha0 _ hV
 replace hb := hb0 _ hV
 replace hTs7 := hTs70.now hK7
 replace hCl7 := hCl70.now hK7
 replace hbb8 := hbb8.evo0 hE12
 replace hAb8 := hAb8.evo0 hE12
 replace hrA10 := hrA100 _ hJ10
 replace hrB10 := hrB100 _ hJ10
 refine Zo (run_lenOE rfl η Tryz.underlying34 hoo12) ?_
 refine Zn mvI ?_
 refine r_block ?_
 have hI13 : Evo w12 w12 [b8] := Evo.refl _ _
 obtain ⟨ao14, g14, cp14, hv14, hr14, hg14⟩ := hoo12.rowOf
 subst hv14
 have hr140 := fun w9 (h9 : Evo w12 w9 [b8]) => row_keep hr14 h9 (fun hne hm => by have h2 := (hg14 hne).2; simp at hm; omega)
 have hbdR := hr14.bd
 have h7lt := hbb8.lt
 have hrl := runF_len (⟨[l0_7, l1_7, l2_7, l3_7, l4_7, l5_7, l6_7, l7_7, l8_7, l9_7, l10_7, l11_7, l12_7], sh7, lo7, ts7, cl7⟩ : Chk) pf10 pg10; have hfl := findL_len (c := (⟨[l0_7, l1_7, l2_7, l3_7, l4_7, l5_7, l6_7, l7_7, l8_7, l9_7, l10_7, l11_7, l12_7], sh7, lo7, ts7, cl7⟩ : Chk)) hPR10.tf hPR10.tg hMC7.tl40 (fun x hx => (hMC7.jud x hx).2.1)
 refine r_loop (α := Nat) [11, 13, 35, 36, 37, 38, 39, 40, 41, 42, 43, 44, 45, 46, 47] (fun k g w => ∃ vo : Value, g 35 = .int .i64 (k : Nat) ∧ g 11 = vo ∧ k ≤ (runF (⟨[l0_7, l1_7, l2_7, l3_7, l4_7, l5_7, l6_7, l7_7, l8_7, l9_7, l10_7, l11_7, l12_7], sh7, lo7, ts7, cl7⟩ : Chk) pf10 pg10).length ∧ Blk w b8 28 [.int .i64 l0_7, .int .i64 l1_7, .int .i64 l2_7, .int .i64 l3_7, .int .i64 l4_7, .int .i64 l5_7, .int .i64 l6_7, .int .i64 l7_7, .int .i64 l8_7, .int .i64 l9_7, .int .i64 l10_7, .int .i64 l11_7, .int .i64 l12_7, .int .i64 sh7, .int .i64 lo7, .slice aot7 ts7.length capt7, .slice aoc7 cl7.length capc7] ∧ At w b8 0 [.int .i64 l0_7, .int .i64 l1_7, .int .i64 l2_7, .int .i64 l3_7, .int .i64 l4_7, .int .i64 l5_7, .int .i64 l6_7, .int .i64 l7_7, .int .i64 l8_7, .int .i64 l9_7, .int .i64 l10_7, .int .i64 l11_7, .int .i64 l12_7, .int .i64 sh7, .int .i64 lo7, .slice aot7 ts7.length capt7, .slice aoc7 cl7.length capc7] ∧ OwnE w w12.heap.size 39 vo (((runF (⟨[l0_7, l1_7, l2_7, l3_7, l4_7, l5_7, l6_7, l7_7, l8_7, l9_7, l10_7, l11_7, l12_7], sh7, lo7, ts7, cl7⟩ : Chk) pf10 pg10).take k).filter (fun x : Vc.Item => decide (¬ x.kind = (((1 + kd % 12).toNat : Nat) : Int)))) ∧ w12.heap.size ≤ w.heap.size ∧ Evo w0 w [] ∧ Evo w7 w [] ∧ Evo w10 w [b8] ∧ Evo w12 w [b8]) (fun k => (runF (⟨[l0_7, l1_7, l2_7, l3_7, l4_7, l5_7, l6_7, l7_7, l8_7, l9_7, l10_7, l11_7, l12_7], sh7, lo7, ts7, cl7⟩ : Chk) pf10 pg10).length - k) 0 ?_ ?_
 ·refine ⟨_, σ, rfl, δ, hbb8, hbb8.at, (OwnE.nil _ _ _), δ, hV, hK7, hJ10, hI13⟩
 rintro k g w16 ⟨vo, hj17, hj18, hk_k, hbb8, hAb8, hoo, hzl15, hV, hK7, hJ10, hI13⟩
 have hs_w16hV := hV.size
 have hs_w16hK7 := hK7.size
 have hs_w16hJ10 := hJ10.size
 have hs_w16hI13 := hI13.size
 have hlt19 := hbb8.lt
 replace hr14 := hr140 _ hI13
 refine Zk 35 (v := .int .i64 (k : Nat)) (by exact hj17) ?_
 refine Zk 11 (v := vo) (by exact hj18) ?_
 have hfk := List.length_filter_le (fun x : Vc.Item => decide (¬ x.kind = (((1 + kd % 12).toNat : Nat) : Int))) ((runF (⟨[l0_7, l1_7, l2_7, l3_7, l4_7, l5_7, l6_7, l7_7, l8_7, l9_7, l10_7, l11_7, l12_7], sh7, lo7, ts7, cl7⟩ : Chk) pf10 pg10).take k); have hft := List.length_take_le k (runF (⟨[l0_7, l1_7, l2_7, l3_7, l4_7, l5_7, l6_7, l7_7, l8_7, l9_7, l10_7, l11_7, l12_7], sh7, lo7, ts7, cl7⟩ : Chk) pf10 pg10)
 refine Zs ?_
 refine Zn (run_lss rfl η η) ?_
 refine r_seq ?_
 refine r_cond η (fun hc20 => ?_) (fun hc20 => ?_)
 ·skip
  refine r_skip ?_
  refine r_seq ?_
  refine r_block ?_
  refine Zs ?_
  refine Zo (run_ix (k) rfl Tryz.underlying34 ty_39 η η (by first | exact rfl | omega) ω (hr14.addr (i := k) ω)) ?_
  have hA210 := fun (w' : World) (h : Evo w12 w' [b8]) => (hr140 w' h).atD (k) ω
  have hA21 := hA210 _ hI13
  refine Zo (run_ldN rfl ag_39 ty_39 η rfl hA21) ?_
  have hob22 := fun g hg => (hoo.block (g := g) hg).2
  refine r_var (zs := [_, _, _]) (vs := [_, _, _]) ty_39 η rfl η (fun _ => rfl) η rfl rfl η ?_
  intro b23 w24 heb23 hEw24 hbb23 hzb23
  have hs_w24 := (hEw24).size
  replace hV := evo_step0 hV hEw24
  replace hK7 := evo_step0 hK7 hEw24
  replace hJ10 := evo_step0 hJ10 hEw24
  replace hI13 := evo_step0 hI13 hEw24
  replace ha := ha0 _ hV
  replace hb := hb0 _ hV
  replace hTs7 := hTs70.now hK7
  replace hCl7 := hCl70.now hK7
  replace hrA10 := hrA100 _ hJ10
  replace hrB10 := hrB100 _ hJ10
  replace hr14 := hr140 _ hI13
  replace hbb8 := hbb8.evo0 hEw24
  replace hAb8 := hAb8.evo0 hEw24
  replace hoo := hoo.evo0 hEw24
  refine r_nil ?_
  refine Zs ?_
  refine Zo (run_fa rfl η fo_39_0) ?_
  refine Zo (run_ld1 rfl ag_3 η (hbb23.at.cell 0 η)) ?_
  refine Zo mvI ?_
  refine Zn (run_neq rfl η η) ?_
  refine r_cond η (fun hc25 => ?_) (fun hc25 => ?_)
  ·skip
   refine r_region ?_
   refine Zo (run_mv (v := vo) rfl η) ?_
   refine Zo (run_ldN rfl ag_39 ty_39 η rfl hbb23.at) ?_
   refine r_append1E (u := .agg _) (y := ⟨_, _, _⟩) rfl rfl Tryz.underlying34 ty_39 η hoo (fun _ => η) η (by first | exact rfl | (show _ = List.toArray [_, _, _]; first | (dsimp only; done) | exact rfl | (dsimp only; exact rfl))) ((by first | omega | (simp; omega))) ((by first | omega | (simp; omega))) ω ?_
   intro q_v26 v26 w27 hEw27 hov26 hlv26
   have hs_w27 := (hEw27).size
   replace hV := evo_stepo hV hEw27 (fun g hg => .inl (by first | exact (hoo.block hg).1 | (have := hoo.block hg; omega)))
   replace hK7 := evo_stepo hK7 hEw27 (fun g hg => .inl (by first | exact (hoo.block hg).1 | (have := hoo.block hg; omega)))
   replace hJ10 := evo_stepo hJ10 hEw27 (fun g hg => .inl (by first | exact (hoo.block hg).1 | (have := hoo.block hg; omega)))
   replace hI13 := evo_stepo hI13 hEw27 (fun g hg => .inl (by first | exact (hoo.block hg).1 | (have := hoo.block hg; omega)))
   replace ha := ha0 _ hV
   replace hb := hb0 _ hV
   replace hTs7 := hTs70.now hK7
   replace hCl7 := hCl70.now hK7
   replace hrA10 := hrA100 _ hJ10
   replace hrB10 := hrB100 _ hJ10
   replace hr14 := hr140 _ hI13
   replace hbb8 := hbb8.evo hEw27 (by intro hm; have hm2 := Option.mem_toList.1 hm; first | (have := hoo.block hm2; omega) | (simp [Value.ownBlock] at hm2; omega))
   replace hAb8 := hAb8.evo hEw27 (by intro hm; have hm2 := Option.mem_toList.1 hm; first | (have := hoo.block hm2; omega) | (simp [Value.ownBlock] at hm2; omega))
   refine Zn (run_asg (v := v26) rfl η) ?_
   refine r_blk ?_
   refine r_region ?_
   refine Zo (run_add rfl η η ω ω) ?_
   refine Zn mvI ?_
   refine r_again (k + 1) ?_ ?_ ?_
   ·first | omega | (dsimp only; omega)
   ·refine ⟨_, σ, rfl, δ, hbb8, hbb8.at, (by first | (rw [filt_yes ω (fil_y ω hc25)]; exact hov26) | (rw [filt_no ω (fil_n ω hc25)]; exact hov26)), δ, hV, hK7, hJ10, hI13⟩
   exact ψ
  refine r_skip ?_
  refine r_blk ?_
  refine r_region ?_
  refine Zo (run_add rfl η η ω ω) ?_
  refine Zn mvI ?_
  refine r_again (k + 1) ?_ ?_ ?_
  ·first | omega | (dsimp only; omega)
  ·refine ⟨_, σ, rfl, δ, hbb8, hbb8.at, (by first | (rw [filt_yes ω (fil_y ω hc25)]; exact hoo) | (rw [filt_no ω (fil_n ω hc25)]; exact hoo)), δ, hV, hK7, hJ10, hI13⟩
  exact ψ
 refine r_exit rfl ?_
 refine r_seq ?_
 rw [List.take_of_length_le ω] at hoo
 replace hbb8 : Blk _ _ _ (([l0_7, l1_7, l2_7, l3_7, l4_7, l5_7, l6_7, l7_7, l8_7, l9_7, l10_7, l11_7, l12_7] : List Int).map (Value.int .i64) ++ [.int .i64 sh7, .int .i64 lo7, .slice aot7 ts7.length capt7, .slice aoc7 cl7.length capc7]) := hbb8; have hAb8 := hbb8.at
 have hl13 : ([l0_7, l1_7, l2_7, l3_7, l4_7, l5_7, l6_7, l7_7, l8_7, l9_7, l10_7, l11_7, l12_7] : List Int).length = 13 := rfl
 refine r_region ?_
 refine Zo mvI ?_
 refine Zo (run_fa rfl η fo_28_0) ?_
 refine Zo (run_ixP ((1 + kd % 12).toNat) rfl Tryz.underlying24 ty_3 η η ω ω) ?_
 refine r_store (v := .int .i64 0) (vs := [.int .i64 0]) (cs' := (((([l0_7, l1_7, l2_7, l3_7, l4_7, l5_7, l6_7, l7_7, l8_7, l9_7, l10_7, l11_7, l12_7] : List Int)).set (1 + kd % 12).toNat (0)).map (Value.int .i64) ++ [.int .i64 sh7, .int .i64 lo7, .slice aot7 ts7.length capt7, .slice aoc7 cl7.length capc7])) η η hbb8 ty_3 η rfl η (by simp only [Nat.zero_add, Nat.mul_one]; exact lev_fit rfl ω) (by simp only [Nat.zero_add, Nat.mul_one]; exact lev_set ω) ?_
 intro w28 hEw28 hzw28 hb_new
 have hs_w28 := (hEw28).size
 replace hV := evo_step1 hV hEw28 ε
 replace hK7 := evo_step1 hK7 hEw28 ε
 replace hJ10 := evo_step1 hJ10 hEw28 ε
 replace hTs7 := hTs70.now hK7
 replace hCl7 := hCl70.now hK7
 replace hrA10 := hrA100 _ hJ10
 replace hrB10 := hrB100 _ hJ10
 replace hoo := hoo.evo hEw28 (by intro g hg hm; simp at hm; subst hm; have := hoo.block hg; omega)
 replace hbb8 := hb_new
 have hAb8 := hbb8.at
 clear hb_new
 have hlz : ((([l0_7, l1_7, l2_7, l3_7, l4_7, l5_7, l6_7, l7_7, l8_7, l9_7, l10_7, l11_7, l12_7] : List Int)).set (1 + kd % 12).toNat (0)).length = (([l0_7, l1_7, l2_7, l3_7, l4_7, l5_7, l6_7, l7_7, l8_7, l9_7, l10_7, l11_7, l12_7] : List Int)).length := List.length_set
 refine r_nil ?_
 refine r_seq ?_
 obtain ⟨a0, a1, a2, a3, a4, a5, a6, a7, a8, a9, a10, a11, a12, hls⟩ := list13 (l := ([l0_7, l1_7, l2_7, l3_7, l4_7, l5_7, l6_7, l7_7, l8_7, l9_7, l10_7, l11_7, l12_7] : List Int).set (1 + kd % 12).toNat 0) (by rw [List.length_set]; rfl)
 rw [hls] at hbb8; replace hbb8 : Blk _ _ _ [.int .i64 a0, .int .i64 a1, .int .i64 a2, .int .i64 a3, .int .i64 a4, .int .i64 a5, .int .i64 a6, .int .i64 a7, .int .i64 a8, .int .i64 a9, .int .i64 a10, .int .i64 a11, .int .i64 a12, .int .i64 sh7, .int .i64 lo7, .slice aot7 ts7.length capt7, .slice aoc7 cl7.length capc7] := hbb8; have hAb8 := hbb8.at
 have hlaw := levels_law' (c := (⟨[l0_7, l1_7, l2_7, l3_7, l4_7, l5_7, l6_7, l7_7, l8_7, l9_7, l10_7, l11_7, l12_7], sh7, lo7, ts7, cl7⟩ : Chk)) (n := (1 + kd % 12).toNat) (f := pf10) (g := pg10) hMC7.valid ω (show (1 + kd % 12).toNat < 13 by omega); unfold setL at hlaw; rw [show ((⟨[l0_7, l1_7, l2_7, l3_7, l4_7, l5_7, l6_7, l7_7, l8_7, l9_7, l10_7, l11_7, l12_7], sh7, lo7, ts7, cl7⟩ : Chk)).lev.set (1 + kd % 12).toNat 0 = [a0, a1, a2, a3, a4, a5, a6, a7, a8, a9, a10, a11, a12] from hls] at hlaw
 refine r_region ?_
 refine Zo (run_ldN rfl ag_28 ty_28 η rfl hAb8) ?_
 refine Zo mvS ?_
 refine Zo mvS ?_
 refine Zr [.agg _, .slice _ _ _, .slice _ _ _] rfl η Tryz.func14 (run_calls hTs7 hCl7 hrA10 hrB10 hPR10.tf hPR10.tg hPR10.nf hPR10.ng hMC7.tl40 hMC7.jud (htab.evo0 hV)) ?_
 rintro e w29 ⟨vo29, rfl, hE29, hoo29⟩
 refine ⟨_, rfl, ?_⟩
 have hs_w29 := (hE29).size
 replace hV := evo_step0 hV hE29
 replace hoo := hoo.evo0 hE29
 replace hoo29 := own_cast hoo29 hlaw
 refine Zo (run_mv (v := vo) rfl η) ?_
 obtain ⟨ao30, g30, cp30, hv30, hr30, hg30⟩ := hoo29.rowOf
 subst hv30
 obtain ⟨ao31, g31, cp31, hv31, hr31, hg31⟩ := hoo.rowOf
 subst hv31
 refine Zr [.slice _ _ _, .slice _ _ _] rfl η Tryz.func16 (ksame_calls hr30 hr31) ?_
 rintro e w32 ⟨rfl, hE32⟩
 refine ⟨_, rfl, ?_⟩
 have hs_w32 := (hE32).size
 replace hV := evo_step0 hV hE32
 refine r_knowL (i := 56) (v := .bool true) (congrArg Value.bool (decide_eq_true rfl)) ?_
 refine Zo (run_mvb rfl η) ?_
 refine r_gyes rfl (wantT η) η ?_
 refine Zr [] rfl η Tryz.func15 (kknown_calls (htab.evo0 hV)) ?_
 rintro e w33 ⟨rfl, hE33⟩
 refine ⟨_, rfl, ?_⟩
 have hs_w33 := (hE33).size
 replace hV := evo_step0 hV hE33
 refine Zo (run_pick_andB rfl η (fun _ => η) rfl) ?_
 refine Zn asB ?_
 refine r_ret (res1 (v := .bool _) rfl η) ?_
 exact ⟨ret_bool (decide_eq_true ⟨rfl, rfl⟩), hV⟩
end Go.Proofs.YtlfjocbnbceceaaGreatDoor
