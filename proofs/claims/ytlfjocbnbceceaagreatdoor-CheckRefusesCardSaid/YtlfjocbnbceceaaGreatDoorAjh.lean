/-
  Library, plain laws and walks that the statements reach (joined by a program out of smaller texts).
-/
import Derived.Test.YtlfjocbnbceceaaGreatDoorAjg
import Derived.Test.YtlfjocbnbceceaaGreatDoorAje
import Derived.Test.YtlfjocbnbceceaaGreatDoorAjb
import Derived.Test.YtlfjocbnbceceaaGreatDoorAjf
import Derived.Test.YtlfjocbnbceceaaGreatDoorAja
import Derived.Deep.Strs
import Derived.OpenShut
import Derived.Test.YtlfjocbnbceceaaGreatDoorAjc
set_option linter.unusedVariables false
set_option linter.unusedSimpArgs false
namespace Go.Proofs.YtlfjocbnbceceaaGreatDoor
open Go.RowKit Go.Vc
theorem pl_28 : placesP Tryz.prog 28 = some [(0, 13), (13, 1), (14, 1), (15, 1), (16, 1)] := ζ
theorem ty_25 : tyP Tryz.prog 25 = some (1, 24, some (.slice none 0 0)) := ζ
theorem ty_26 : tyP Tryz.prog 26 = some (1, 24, some (.slice none 0 0)) := ζ
set_option maxHeartbeats 4000000 in
theorem checks_make {T bs : Nat} {ao : Option Addr} {b off cap : Nat} {l : List Int} {N : Nat} {rf : Bool} {w0 : World} (hb : Blk w0 bs T [.slice ao l.length cap, .int .i64 (N : Nat)]) (hl : ∀ w', Evo w0 w' [bs] → RowE w' ao b off cap l) (hN : N ≤ 100000) :
    Calls Tryz.prog 18 #[.pointer (some ⟨bs, 0, none⟩), .bool (decide (rf = true))] w0 fun e w' => ∃ l0 l1 l2 l3 l4 l5 l6 l7 l8 l9 l10 l11 l12 sh lo aot bt ot capt, ∃ ts : List TermL, ∃ aoc bc oc capc, ∃ cl : List Clas, e = .returned (.agg #[.int .i64 l0, .int .i64 l1, .int .i64 l2, .int .i64 l3, .int .i64 l4, .int .i64 l5, .int .i64 l6, .int .i64 l7, .int .i64 l8, .int .i64 l9, .int .i64 l10, .int .i64 l11, .int .i64 l12, .int .i64 sh, .int .i64 lo, .slice aot ts.length capt, .slice aoc cl.length capc]) ∧ Evo w0 w' [bs] ∧ RowRK w' [] aot bt ot capt ts ∧ RowRK w' [] aoc bc oc capc cl ∧ MadeC (⟨[l0, l1, l2, l3, l4, l5, l6, l7, l8, l9, l10, l11, l12], sh, lo, ts, cl⟩ : Chk) := by
 have hAs := hb.at; have hbslt := hb.lt
 refine calls_enter (n := 43) Tryz.func18 rfl Tryz.ntmps18 rfl ?_
 have hV : Evo w0 w0 [bs] := Evo.refl _ _
 have hl0 := hl
 replace hl := hl0 _ hV
 have hbd_hl := hl.bd
 refine Zs ?_
 refine r_alloc (zs := [_, _, _, _, _, _, _, _, _, _, _, _, _, _, _, _, _]) ty_28 η rfl ?_
 intro b1 w2 J1 E2 B1 Y1
 have Q2 := E2.size
 replace hV := Z0 hV E2
 replace hb := hb.evo0 E2
 replace hAs := hAs.evo0 E2
 replace hl := hl0 _ hV
 have hAb1 := B1.at
 refine r_nil ?_
 refine Zs ?_
 refine Zo mvP ?_
 refine Zr [.pointer _, .int _ _] rfl η Tryz.func38 (nx_calls hb hl ω ω ω) ?_
 rintro e w3 ⟨nx3, rfl, hx3, F3, hn3⟩
 refine ⟨_, rfl, ?_⟩
 have Q3 := F3.size
 replace hV := Z1 hV F3 (.inr (by simp))
 replace B1 := B1.evo F3 θ
 replace hAb1 := hAb1.evo F3 θ
 replace hb := hn3
 clear hn3
 have hAs := hb.at
 refine Zo (run_mul rfl η η ω ω) ?_
 refine r_bslice (pv := [(0, .int _ _), (1, .int _ _), (2, .int _ _), (3, .int _ _)]) (zs := [_]) (cs := [_, _, _, _]) Tryz.underlying22 ty_3 η rfl η rfl η ?_
 intro b4 w5 J4 E5 B4 Y4
 have Q5 := E5.size
 replace hV := Z0 hV E5
 replace hl := hl0 _ hV
 replace B1 := B1.evo0 E5
 replace hAb1 := hAb1.evo0 E5
 replace hb := hb.evo0 E5
 replace hAs := hAs.evo0 E5
 have hrb4 : RowE w5 (some ⟨b4, 0, none⟩) b4 0 4 ([0, 100, 150, 400] : List Int) := rowLit ([0, 100, 150, 400] : List Int) B4 rfl rfl
 refine Zo mvP ?_
 refine Zr [.pointer _, .int _ _] rfl η Tryz.func38 (nx_calls hb hl ω ω ω) ?_
 rintro e w6 ⟨nx6, rfl, hx6, F6, hn6⟩
 refine ⟨_, rfl, ?_⟩
 have Q6 := F6.size
 replace hV := Z1 hV F6 (.inr (by simp))
 replace B1 := B1.evo F6 θ
 replace hAb1 := hAb1.evo F6 θ
 replace hrb4 := hrb4.evo F6 θ
 replace hb := hn6
 clear hn6
 have hAs := hb.at
 refine Zo (run_ix (nx6.toNat) rfl Tryz.underlying22 ty_3 η η ω (by show _ < 4; omega) (hrb4.addr (i := nx6.toNat) (by show _ < 4; omega))) ?_
 have hA7 := hrb4.atD (nx6.toNat) (by show _ < 4; omega)
 refine Zo (run_ld1 rfl ag_3 η (hA7.cell 0 η)) ?_
 refine Zo (run_bld (pv := [(1, .int _ _), (2, .int _ _)]) (zs := [_, _, _, _, _, _, _, _, _, _, _, _, _, _, _, _, _]) (cells := [_, _, _, _, _, _, _, _, _, _, _, _, _, _, _, _, _]) rfl ty_28 η pl_28 η η) ?_
 refine r_var (zs := [_, _, _, _, _, _, _, _, _, _, _, _, _, _, _, _, _]) (vs := [_, _, _, _, _, _, _, _, _, _, _, _, _, _, _, _, _]) ty_28 η rfl η (fun _ => rfl) η rfl rfl η ?_
 intro b8 w9 J8 E9 B8 Y8
 have Q9 := E9.size
 replace hV := Z0 hV E9
 replace hl := hl0 _ hV
 replace B1 := B1.evo0 E9
 replace hAb1 := hAb1.evo0 E9
 replace hrb4 := hrb4.evo0 E9
 replace hb := hb.evo0 E9
 replace hAs := hAs.evo0 E9
 have hAb8 := B8.at
 refine r_nil ?_
 refine r_seq ?_
 refine Zs ?_
 refine Zn asI ?_
 refine r_block ?_
 obtain ⟨sh, hsh⟩ : ∃ z, z = nx3 * 40 := ⟨_, rfl⟩; obtain ⟨lo, hlo⟩ : ∃ z, z = ([0, 100, 150, 400] : List Int).getD nx6.toNat default := ⟨_, rfl⟩
 have hlb := longs_bd (k := nx6.toNat) ω; rw [← hlo] at hlb
 rw [← hsh, ← hlo] at B8; have hAb8 := B8.at
 refine r_loop (α := Nat) [6, 16, 17, 18, 19, 20, 21, 22, 23, 24, 25, 26, 27, 28, 29, 30, 31, 32, 33] (fun k g w => ∃ lev : List Int, ∃ N1 : Nat, g 6 = .int .i64 (k : Nat) ∧ Blk w b8 28 ((lev).map (Value.int .i64) ++ [.int .i64 sh, .int .i64 lo, .slice none 0 0, .slice none 0 0]) ∧ At w b8 0 ((lev).map (Value.int .i64) ++ [.int .i64 sh, .int .i64 lo, .slice none 0 0, .slice none 0 0]) ∧ Blk w b1 28 [.int .i64 0, .int .i64 0, .int .i64 0, .int .i64 0, .int .i64 0, .int .i64 0, .int .i64 0, .int .i64 0, .int .i64 0, .int .i64 0, .int .i64 0, .int .i64 0, .int .i64 0, .int .i64 0, .int .i64 0, .slice none 0 0, .slice none 0 0] ∧ At w b1 0 [.int .i64 0, .int .i64 0, .int .i64 0, .int .i64 0, .int .i64 0, .int .i64 0, .int .i64 0, .int .i64 0, .int .i64 0, .int .i64 0, .int .i64 0, .int .i64 0, .int .i64 0, .int .i64 0, .int .i64 0, .slice none 0 0, .slice none 0 0] ∧ Blk w bs T [.slice ao l.length cap, .int .i64 (N1 : Nat)] ∧ At w bs 0 [.slice ao l.length cap, .int .i64 (N1 : Nat)] ∧ LevR lev ∧ (1 ≤ k ∧ k ≤ 13 ∧ N + 2 ≤ N1 ∧ N1 + 2 ≤ N + 2 + 2 * k) ∧ w9.heap.size ≤ w.heap.size ∧ Evo w0 w [bs]) (fun k => 13 - k) 1 ?_ ?_
 ·refine ⟨(List.replicate 13 0), _, rfl, B8, B8.at, B1, B1.at, hb, hb.at, LevR.init, ω, δ, hV⟩
 rintro k g w11 ⟨lev, N1, hj12, B8, hAb8, B1, hAb1, hb, hAs, hLR, hk, hzl10, hV⟩
 have hs_w11hV := hV.size
 have hlt13 := B8.lt
 have hlt14 := B1.lt
 have hlt15 := hb.lt
 replace hl := hl0 _ hV
 refine Zk 6 (v := .int .i64 (k : Nat)) (by exact hj12) ?_
 have hl13 := hLR.1
 refine r_seq ?_
 refine Zs ?_
 refine Zo mvI ?_
 refine Zn (run_lss rfl η η) ?_
 refine r_cond η (fun hc16 => ?_) (fun hc16 => ?_)
 ·skip
  refine r_skip ?_
  refine r_seq ?_
  refine r_block ?_
  refine Zs ?_
  refine Zo mvI ?_
  refine Zo mvP ?_
  refine Zr [.pointer _, .int _ _] rfl η Tryz.func38 (nx_calls hb hl ω ω ω) ?_
  rintro e w17 ⟨nx17, rfl, hx17, F17, hn17⟩
  refine ⟨_, rfl, ?_⟩
  have Q17 := F17.size
  replace hV := Z1 hV F17 (.inr (by simp))
  replace B8 := B8.evo F17 θ
  replace hAb8 := hAb8.evo F17 θ
  replace B1 := B1.evo F17 θ
  replace hAb1 := hAb1.evo F17 θ
  replace hb := hn17
  clear hn17
  have hAs := hb.at
  refine Zo (run_fa rfl η fo_28_0) ?_
  refine Zo (run_ixP (k) rfl Tryz.underlying24 ty_3 η η ω ω) ?_
  refine r_store (v := .int .i64 nx17) (vs := [.int .i64 nx17]) (cs' := (((lev).set k (nx17)).map (Value.int .i64) ++ [.int .i64 sh, .int .i64 lo, .slice none 0 0, .slice none 0 0])) η η B8 ty_3 η rfl η (by simp only [Nat.zero_add, Nat.mul_one]; exact lev_fit rfl ω) (by simp only [Nat.zero_add, Nat.mul_one]; exact lev_set ω) ?_
  intro w18 E18 V18 hb_new
  have Q18 := E18.size
  replace hV := Z1 hV E18 ε
  replace hl := hl0 _ hV
  replace B1 := B1.evo E18 θ
  replace hAb1 := hAb1.evo E18 θ
  replace hb := hb.evo E18 θ
  replace hAs := hAs.evo E18 θ
  replace B8 := hb_new
  have hAb8 := B8.at
  clear hb_new
  have hlz : ((lev).set k (nx17)).length = (lev).length := List.length_set
  refine r_nil ?_
  refine Zs ?_
  refine Zo mvB ?_
  refine Zo mvB ?_
  refine r_g rfl (wantT η) rfl (fun hg => mvP) ?_
  refine r_gnext rfl (wantT η) rfl (fun hg => run_callf rfl (argcons (v := .pointer _) (glv η (fun h => h) hg) (argcons (v := .int _ _) η (rfl))) Tryz.func38 rfl ζ) (fun hg => (nx_calls hb hl ω ω ω)) hb ?_
  intro nx20 w19 Ng20 hx20 F20 hna20 hnb20 hbn
  have Q19 := F20.size
  replace hV := Z1 hV F20 (.inr (by simp))
  replace hl := hl0 _ hV
  replace B1 := B1.evo F20 θ
  replace hAb1 := hAb1.evo F20 θ
  replace B8 := B8.evo F20 θ
  replace hAb8 := hAb8.evo F20 θ
  replace hb := hbn
  clear hbn
  have hAs := hb.at
  refine r_g rfl (wantT η) rfl (fun hg => run_eql rfl (glv η (fun h => h) hg) η) ?_
  refine Zn (run_pick_and rfl η (fun hq => glv η (fun h => h) hq) rfl) ?_
  refine r_cond η (fun hc21 => ?_) (fun hc21 => ?_)
  ·skip
   refine r_region ?_
   refine Zo mvI ?_
   refine Zo (run_fa rfl η fo_28_0) ?_
   refine Zo (run_ixP (k) rfl Tryz.underlying24 ty_3 η η ω ω) ?_
   refine r_store (v := .int .i64 2) (vs := [.int .i64 2]) (cs' := (((lev.set k nx17).set k (2)).map (Value.int .i64) ++ [.int .i64 sh, .int .i64 lo, .slice none 0 0, .slice none 0 0])) η η B8 ty_3 η rfl η (by simp only [Nat.zero_add, Nat.mul_one]; exact lev_fit rfl ω) (by simp only [Nat.zero_add, Nat.mul_one]; exact lev_set ω) ?_
   intro w22 E22 V22 hb_new
   have Q22 := E22.size
   replace hV := Z1 hV E22 ε
   replace hl := hl0 _ hV
   replace B1 := B1.evo E22 θ
   replace hAb1 := hAb1.evo E22 θ
   replace hb := hb.evo E22 θ
   replace B8 := hb_new
   have hAb8 := B8.at
   clear hb_new
   have hlz : ((lev.set k nx17).set k (2)).length = (lev.set k nx17).length := List.length_set
   refine r_nil ?_
   refine r_blk ?_
   refine r_region ?_
   refine Zo mvI ?_
   refine Zo (run_add rfl η η ω ω) ?_
   refine Zn asI ?_
   refine r_again (k + 1) ?_ ?_ ?_
   ·first | omega | (dsimp only; omega)
   ·refine ⟨_, _, (congrArg (Value.int _) ω), B8, B8.at, B1, B1.at, hb, hb.at, (by first | exact (hLR.set ω ⟨by omega, by omega⟩).set ω ⟨by decide, by decide⟩ | exact hLR.set ω ⟨by omega, by omega⟩), ω, δ, hV⟩
   exact ψ
  refine r_skip ?_
  refine r_blk ?_
  refine r_region ?_
  refine Zo mvI ?_
  refine Zo (run_add rfl η η ω ω) ?_
  refine Zn asI ?_
  refine r_again (k + 1) ?_ ?_ ?_
  ·first | omega | (dsimp only; omega)
  ·refine ⟨_, _, (congrArg (Value.int _) ω), B8, B8.at, B1, B1.at, hb, hb.at, (by first | exact (hLR.set ω ⟨by omega, by omega⟩).set ω ⟨by decide, by decide⟩ | exact hLR.set ω ⟨by omega, by omega⟩), ω, δ, hV⟩
  exact ψ
 refine r_exit rfl ?_
 refine r_seq ?_
 obtain ⟨a0, a1, a2, a3, a4, a5, a6, a7, a8, a9, a10, a11, a12, rfl⟩ := list13 hLR.1
 replace B8 : Blk _ _ _ [.int .i64 a0, .int .i64 a1, .int .i64 a2, .int .i64 a3, .int .i64 a4, .int .i64 a5, .int .i64 a6, .int .i64 a7, .int .i64 a8, .int .i64 a9, .int .i64 a10, .int .i64 a11, .int .i64 a12, .int .i64 sh, .int .i64 lo, .slice none 0 0, .slice none 0 0] := B8; have hAb8 := B8.at
 have h5lt := B8.lt; have h4lt := B1.lt
 refine r_region ?_
 refine Zo mvP ?_
 refine Zr [.pointer _, .int _ _] rfl η Tryz.func39 (classesZ_calls (y1 := b8) (y2 := b1) hb (fun w9 h9 => hl0 _ (Evo.trans hV h9 (fun x hx _ => hx))) ω ω ω ω ω) ?_
 rintro e w23 ⟨vc23, cl23, mc23, Nc23, rfl, hMC23, hNc23, F23, hn23, hoC23⟩
 refine ⟨_, rfl, ?_⟩
 have Q23 := F23.size
 replace hV := Z1 hV F23 (.inr (by simp))
 replace B8 := B8.evo F23 θ
 replace hAb8 := hAb8.evo F23 θ
 replace B1 := B1.evo F23 θ
 replace hAb1 := hAb1.evo F23 θ
 replace hb := hn23
 clear hn23
 have hAs := hb.at
 obtain ⟨aoC, gC, cpC, hvC, hC0⟩ := hoC23.rowK θ
 subst hvC
 have hIC : Evo w23 w23 [bs, b8, b1] := Evo.refl _ _
 have hC := hC0.now hIC; have hbd_hC := hC.bd
 have hnm := made_names hMC23.1 ω; have hmc1 := hMC23.1.1
 refine Zo (run_fa rfl η fo_28_4) ?_
 refine r_store (v := .slice _ _ _) (vs := [_]) (cs' := [_, _, _, _, _, _, _, _, _, _, _, _, _, _, _, _, _]) η η B8 ty_26 η rfl η rfl η ?_
 intro w24 E24 V24 hb_new
 have Q24 := E24.size
 replace hV := Z1 hV E24 ε
 replace hIC := Z1 hIC E24 ε
 replace B1 := B1.evo E24 θ
 replace hAb1 := hAb1.evo E24 θ
 replace hb := hb.evo E24 θ
 replace hAs := hAs.evo E24 θ
 replace B8 := hb_new
 have hAb8 := B8.at
 clear hb_new
 refine r_nil ?_
 refine Zs ?_
 refine Zo mvP ?_
 refine Zo (run_fa rfl η fo_28_4) ?_
 refine Zo (run_ld1 rfl ag_26 η (hAb8.cell 16 η)) ?_
 refine Zr [.pointer _, .slice _ _ _, .int _ _] rfl η Tryz.func40 (termsZ_make hb (fun w9 h9 => hl0 _ (Evo.trans hV h9 (fun x hx _ => hx))) ω (y1 := b8) (y2 := b1) (hC0.pass hIC (fun x hx => .inr (by simp at hx; simp [hx]))) hnm ω ω ω ω ω) ?_
 rintro e w25 ⟨vt25, ts25, Nt25, rfl, hMT25, hNt25, F25, hn25, hoT25⟩
 refine ⟨_, rfl, ?_⟩
 have Q25 := F25.size
 replace hV := Z1 hV F25 (.inr (by simp))
 replace hIC := Z1 hIC F25 ε
 replace B1 := B1.evo F25 θ
 replace hAb1 := hAb1.evo F25 θ
 replace B8 := B8.evo F25 θ
 replace hAb8 := hAb8.evo F25 θ
 replace hb := hn25
 clear hn25
 obtain ⟨aoT, gT, cpT, hvT, hT0⟩ := hoT25.rowK θ
 subst hvT
 have hIT : Evo w25 w25 [bs, b8, b1] := Evo.refl _ _
 have hT := hT0.now hIT; have hbd_hT := hT.bd
 refine Zo (run_fa rfl η fo_28_3) ?_
 refine r_store (v := .slice _ _ _) (vs := [_]) (cs' := [_, _, _, _, _, _, _, _, _, _, _, _, _, _, _, _, _]) η η B8 ty_25 η rfl η rfl η ?_
 intro w26 E26 V26 hb_new
 have Q26 := E26.size
 replace hV := Z1 hV E26 ε
 replace hIC := Z1 hIC E26 ε
 replace hIT := Z1 hIT E26 ε
 replace B1 := B1.evo E26 θ
 replace hAb1 := hAb1.evo E26 θ
 replace B8 := hb_new
 have hAb8 := B8.at
 clear hb_new
 refine r_nil ?_
 refine Zs ?_
 refine Zo (run_ldN rfl ag_28 ty_28 η rfl hAb8) ?_
 refine r_store (v := .agg _) (vs := [_, _, _, _, _, _, _, _, _, _, _, _, _, _, _, _, _]) (cs' := [_, _, _, _, _, _, _, _, _, _, _, _, _, _, _, _, _]) η η B1 ty_28 η rfl η rfl η ?_
 intro w27 E27 V27 hb_new
 have Q27 := E27.size
 replace hV := Z1 hV E27 ε
 replace hIC := Z1 hIC E27 ε
 replace hIT := Z1 hIT E27 ε
 replace B1 := hb_new
 have hAb1 := B1.at
 clear hb_new
 refine r_nil ?_
 refine r_ret (resC1 (cs := [_, _, _, _, _, _, _, _, _, _, _, _, _, _, _, _, _]) rfl ag_28 ty_28 η rfl hAb1) ?_
 exact ⟨_, _, _, _, _, _, _, _, _, _, _, _, _, _, _, _, _, _, _, _, _, _, _, _, _, rfl, hV, hT0.pass hIT (fun x hx => absurd hx List.not_mem_nil), hC0.pass hIC (fun x hx => absurd hx List.not_mem_nil), ⟨rfl, hLR.2.1, hLR.2.2, by show 0 ≤ sh ∧ sh ≤ 100; omega, hlb, fun x hx => (hMT25.1 x hx).1, by have := hMT25.2; show ts25.length ≤ 3; omega, by show cl23.length ≤ 2; omega, made_terms (made_valid hMC23.1 ω) hMT25.1 (by have := hMT25.2; show ts25.length ≤ 128; omega)⟩⟩
end Go.Proofs.YtlfjocbnbceceaaGreatDoor
namespace Go.Proofs.YtlfjocbnbceceaaGreatDoor
open Go Go.RowKit Go.Vc
theorem dif_self {α : Type} [DecidableEq α] (s : List α) (x : α) : dif s s x = 0 := by unfold dif; omega
def kC : Chk := ⟨[0, 1, 1, 1, 1, 1, 2, 1, 1, 1, 1, 1, 1], 0, 0, [], []⟩
def kA : List Vc.Item := [⟨1, [97, 32, 49], 0⟩]
def kB : List Vc.Item := [⟨1, [98, 32, 50], 0⟩]
def kO : List Vc.Item := [⟨6, [49], -1⟩, ⟨6, [50], 1⟩]
theorem kC_ok : validK kC = 0 := by decide +kernel
theorem k_slot : slotF kA kB = [] := by
  have h : slotsL kA = [] ∧ slotsL kB = [] := by decide
  unfold slotF; rw [h.1, h.2]
  exact difs_nil (dif_self _)
theorem k_run : runF kC kA kB = kO := by
  unfold runF
  rw [if_pos kC_ok]
  have e : findL kC kA kB = findA kC kA kB := if_neg (by decide)
  have e2 : findA kC kA kB = kO := by
    unfold findA; rw [k_slot]
    decide +kernel
  rw [e, e2]
  decide +kernel
theorem k_ref : refL kC kO = true := by decide +kernel
theorem k_emp : runF kC [⟨1, [97], 0⟩] [] = [⟨1, [], 0⟩] := by
  unfold runF
  rw [if_pos kC_ok]
  have e : findL kC [⟨1, [97], 0⟩] [] = [⟨1, [], 0⟩] := if_pos ⟨rfl, by simp⟩
  rw [e]; decide +kernel
theorem k_tiny : Tiny kA ∧ Tiny kB ∧ Tiny [⟨1, [97], 0⟩] ∧ Tiny ([] : List Vc.Item) := by unfold Tiny; decide
theorem k_notag : (∀ x ∈ tagsL kA, InR x) ∧ (∀ x ∈ tagsL kB, InR x) ∧ ∀ x ∈ tagsL [⟨1, [97], 0⟩], InR x := by
  have h : tagsL kA = [] ∧ tagsL kB = [] ∧ tagsL [⟨1, [97], 0⟩] = [] := by decide
  rw [h.1, h.2.1, h.2.2]
  exact ⟨fun x hx => absurd hx List.not_mem_nil, fun x hx => absurd hx List.not_mem_nil, fun x hx => absurd hx List.not_mem_nil⟩
theorem own_cast {α : Type} [Enc α] {w : World} {base : Nat} {E : TypeId} {v : Value} {l l2 : List α} (h : OwnE w base E v l) (e : l = l2) : OwnE w base E v l2 := e ▸ h
def kLev (k : Nat) : List Int := (0 :: List.replicate (k - 1) 1) ++ List.replicate (13 - k) 0
theorem kLev_len {k : Nat} (h : 1 ≤ k) (h2 : k ≤ 13) : (kLev k).length = 13 := by unfold kLev; simp; omega
theorem kLev_set {k : Nat} (h : 1 ≤ k) (h2 : k < 13) : (kLev k).set k 1 = kLev (k + 1) := by
  have : ∀ k, k < 13 → 1 ≤ k → (kLev k).set k 1 = kLev (k + 1) := by decide
  exact this k h2 h
theorem known1_calls {s : Str} {w0 : World}  :
    Calls Tryz.prog 37 #[S s] w0 fun e w' => ∃ ao b off cap, e = .returned (.slice ao ([⟨1, s, 0⟩] : List Vc.Item).length cap) ∧ Evo w0 w' [] ∧ RowE w' ao b off cap ([⟨1, s, 0⟩] : List Vc.Item) := by
 refine calls_enter (n := 6) Tryz.func37 rfl Tryz.ntmps37 rfl ?_
 have hV : Evo w0 w0 [] := Evo.refl _ _
 refine Zs ?_
 refine Zn asS ?_
 refine Zs ?_
 refine Zo mvT ?_
 refine Zo (run_bld (pv := [(0, .int _ _), (1, S _)]) (zs := [_, _, _]) (cells := [_, _, _]) rfl ty_32 η pl_32 η η) ?_
 refine r_bslice (pv := [(0, .agg _)]) (zs := [_, _, _]) (cs := [_, _, _]) Tryz.underlying33 ty_32 η rfl η rfl η ?_
 intro b1 w2 J1 E2 B1 Y1
 have Q2 := E2.size
 replace hV := Z0 hV E2
 have hrb1 : RowE w2 (some ⟨b1, 0, none⟩) b1 0 1 ([⟨1, s, 0⟩] : List Vc.Item) := rowLit ([⟨1, s, 0⟩] : List Vc.Item) B1 rfl rfl
 refine Zn (run_asg (v := .slice (some ⟨b1, 0, none⟩) _ _) rfl η) ?_
 refine r_ret (res1 (v := .slice (some ⟨b1, 0, none⟩) _ _) rfl η) ?_
 exact ⟨_, _, _, _, rfl, hV, hrb1⟩
set_option maxHeartbeats 4000000 in
theorem kknown_calls  {w0 : World} (htab : Tab w0) :
    Calls Tryz.prog 15 #[] w0 fun e w' => e = .returned (.bool true) ∧ Evo w0 w' [] := by
 refine calls_enter (n := 40) Tryz.func15 rfl Tryz.ntmps15 rfl ?_
 have hV : Evo w0 w0 [] := Evo.refl _ _
 refine Zs ?_
 refine Zn asB ?_
 refine Zs ?_
 refine Zo (run_bld (pv := []) (zs := [_, _, _, _, _, _, _, _, _, _, _, _, _, _, _, _, _]) (cells := [_, _, _, _, _, _, _, _, _, _, _, _, _, _, _, _, _]) rfl ty_28 η pl_28 η η) ?_
 refine r_var (zs := [_, _, _, _, _, _, _, _, _, _, _, _, _, _, _, _, _]) (vs := [_, _, _, _, _, _, _, _, _, _, _, _, _, _, _, _, _]) ty_28 η rfl η (fun _ => rfl) η rfl rfl η ?_
 intro b1 w2 J1 E2 B1 Y1
 have Q2 := E2.size
 replace hV := Z0 hV E2
 have hAb1 := B1.at
 refine r_nil ?_
 refine r_seq ?_
 refine Zs ?_
 refine Zn asI ?_
 refine r_block ?_
 refine r_loop (α := Nat) [2, 6, 7, 8, 9, 10, 11, 12] (fun k g w => g 2 = .int .i64 (k : Nat) ∧ Blk w b1 28 ((kLev k).map (Value.int .i64) ++ [.int .i64 0, .int .i64 0, .slice none 0 0, .slice none 0 0]) ∧ At w b1 0 ((kLev k).map (Value.int .i64) ++ [.int .i64 0, .int .i64 0, .slice none 0 0, .slice none 0 0]) ∧ (1 ≤ k ∧ k ≤ 13) ∧ w2.heap.size ≤ w.heap.size ∧ Evo w0 w []) (fun k => 13 - k) 1 ?_ ?_
 ·refine ⟨rfl, B1, B1.at, δ, δ, hV⟩
 rintro k g w4 ⟨hj5, B1, hAb1, hk, hzl3, hV⟩
 have hs_w4hV := hV.size
 have hlt6 := B1.lt
 refine Zk 2 (v := .int .i64 (k : Nat)) (by exact hj5) ?_
 have hl13 := kLev_len hk.1 hk.2
 refine r_seq ?_
 refine Zs ?_
 refine Zo mvI ?_
 refine Zn (run_lss rfl η η) ?_
 refine r_cond η (fun hc7 => ?_) (fun hc7 => ?_)
 ·skip
  refine r_skip ?_
  refine r_seq ?_
  refine r_block ?_
  refine r_region ?_
  refine Zo mvI ?_
  refine Zo (run_fa rfl η fo_28_0) ?_
  refine Zo (run_ixP (k) rfl Tryz.underlying24 ty_3 η η ω ω) ?_
  refine r_store (v := .int .i64 1) (vs := [.int .i64 1]) (cs' := (((kLev k).set k (1)).map (Value.int .i64) ++ [.int .i64 0, .int .i64 0, .slice none 0 0, .slice none 0 0])) η η B1 ty_3 η rfl η (by simp only [Nat.zero_add, Nat.mul_one]; exact lev_fit rfl ω) (by simp only [Nat.zero_add, Nat.mul_one]; exact lev_set ω) ?_
  intro w8 E8 V8 hb_new
  have Q8 := E8.size
  replace hV := Z1 hV E8 ε
  replace B1 := hb_new
  have hAb1 := B1.at
  clear hb_new
  have hlz : ((kLev k).set k (1)).length = (kLev k).length := List.length_set
  refine r_nil ?_
  refine r_blk ?_
  refine r_region ?_
  refine Zo mvI ?_
  refine Zo (run_add rfl η η ω ω) ?_
  refine Zn asI ?_
  refine r_again (k + 1) ?_ ?_ ?_
  ·first | omega | (dsimp only; omega)
  ·refine ⟨(congrArg (Value.int _) ω), (by have h9 := B1; rw [kLev_set hk.1 ω] at h9; exact h9), (by have h9 := B1.at; rw [kLev_set hk.1 ω] at h9; exact h9), δ, δ, hV⟩
  exact ψ
 refine r_exit rfl ?_
 refine r_seq ?_
 obtain rfl : k = 13 := by omega
 replace B1 : Blk _ _ _ [.int .i64 0, .int .i64 1, .int .i64 1, .int .i64 1, .int .i64 1, .int .i64 1, .int .i64 1, .int .i64 1, .int .i64 1, .int .i64 1, .int .i64 1, .int .i64 1, .int .i64 1, .int .i64 0, .int .i64 0, .slice none 0 0, .slice none 0 0] := B1; have hAb1 := B1.at
 refine r_region ?_
 refine Zo (run_fa rfl η fo_28_0) ?_
 refine Zo (run_ixP (6) rfl Tryz.underlying24 ty_3 η η η ω) ?_
 refine r_store (v := .int _ _) (vs := [_]) (cs' := [_, _, _, _, _, _, _, _, _, _, _, _, _, _, _, _, _]) η η B1 ty_3 η rfl η rfl η ?_
 intro w9 E9 V9 hb_new
 have Q9 := E9.size
 replace hV := Z1 hV E9 ε
 replace B1 := hb_new
 have hAb1 := B1.at
 clear hb_new
 refine r_nil ?_
 refine Zs ?_
 refine Zn (run_asg (v := .func _ _ _) rfl η) ?_
 refine r_seq ?_
 have hbb1_q := B1
 have hAb1_q := hAb1
 have hV_q := hV
 refine h_region ([]) ζ ?_
 intro w10 F11 hCst8
 have Q10 := F11.size
 replace hV := Z0 hV F11
 replace B1 := B1.evo0 F11
 replace hAb1 := hAb1.evo0 F11
 refine Zt (i := 0) η (fun w' hC => run_ldN rfl ag_28 ty_28 η rfl (hAb1_q.evo0 hC)) hCst8 ?_
 refine Zt (i := 1) η (fun w' hC => run_mv (v := .func _ _ _) rfl η) hCst8 ?_
 refine Zt (i := 3) η (fun w' hC => run_mv (v := .func _ _ _) rfl η) hCst8 ?_
 refine Zh (i := 2) ?_
 refine r_opcall rfl rfl rfl (run_callfn (vs := [S _]) (cs := []) rfl η η Tryz.func37 rfl ζ) known1_calls ?_
 rintro e w12 ⟨aoK12, bK12, ofK12, cpK12, rfl, F12, hrK12⟩
 refine ⟨_, rfl, ?_⟩
 have Q12 := F12.size
 replace hV := Z0 hV F12
 replace hCst8 := Z0 hCst8 F12
 replace B1 := B1.evo0 F12
 replace hAb1 := hAb1.evo0 F12
 refine h_next hCst8 ?_
 refine Zh (i := 4) ?_
 refine r_opcall rfl rfl rfl (run_callfn (vs := [S _]) (cs := []) rfl η η Tryz.func37 rfl ζ) known1_calls ?_
 rintro e w13 ⟨aoK13, bK13, ofK13, cpK13, rfl, F13, hrK13⟩
 refine ⟨_, rfl, ?_⟩
 have Q13 := F13.size
 replace hV := Z0 hV F13
 replace hCst8 := Z0 hCst8 F13
 replace B1 := B1.evo0 F13
 replace hAb1 := hAb1.evo0 F13
 replace hrK12 := hrK12.evo0 F13
 refine h_next hCst8 ?_
 refine Zh (i := 5) ?_
 refine Zr [.agg _, .slice _ _ _, .slice _ _ _] rfl η Tryz.func14 (run_calls (RowR.nil _ _ 0 0 _) (RowR.nil _ _ 0 0 _) hrK12 hrK13 k_tiny.1 k_tiny.2.1 k_notag.1 k_notag.2.1 (Nat.zero_le _) (fun x hx => absurd hx List.not_mem_nil) (htab.evo0 hV)) ?_
 rintro e w14 ⟨vo14, rfl, F14, hoo14⟩
 refine ⟨_, rfl, ?_⟩
 have Q14 := F14.size
 replace hV := Z0 hV F14
 replace hCst8 := Z0 hCst8 F14
 replace B1 := B1.evo0 F14
 replace hAb1 := hAb1.evo0 F14
 replace hoo14 := own_cast hoo14 k_run
 refine h_next hCst8 ?_
 refine Zt (i := 6) η (fun w' hC => run_asg (v := vo14) rfl η) hCst8 ?_
 refine h_done ζ ?_
 refine r_seq ?_
 have hbb1_q := B1
 have hAb1_q := hAb1
 have hV_q := hV
 refine h_region ([]) ζ ?_
 intro w15 F16 hCst9
 have Q15 := F16.size
 replace hV := Z0 hV F16
 replace hoo14 := hoo14.evo0 F16
 refine Zt (i := 0) η (fun w' hC => run_mv (v := vo14) rfl η) hCst9 ?_
 refine Zt (i := 1) η (fun w' hC => run_bld (pv := [(0, .int _ _), (1, S _), (2, .int _ _)]) (zs := [_, _, _]) (cells := [_, _, _]) rfl ty_39 η pl_39 η η) hCst9 ?_
 refine Zt (i := 2) η (fun w' hC => run_bld (pv := [(0, .int _ _), (1, S _), (2, .int _ _)]) (zs := [_, _, _]) (cells := [_, _, _]) rfl ty_39 η pl_39 η η) hCst9 ?_
 refine Zh (i := 3) ?_
 refine r_bslice (pv := [(0, .agg _), (1, .agg _)]) (zs := [_, _, _]) (cs := [_, _, _, _, _, _]) Tryz.underlying34 ty_39 η rfl η rfl η ?_
 intro b17 w18 J17 E18 B17 Y17
 have Q18 := E18.size
 replace hV := Z0 hV E18
 replace hCst9 := Z0 hCst9 E18
 replace hoo14 := hoo14.evo0 E18
 have hrb17 : RowE w18 (some ⟨b17, 0, none⟩) b17 0 2 kO := rowLit kO B17 rfl rfl
 refine h_next hCst9 ?_
 refine Zh (i := 4) ?_
 obtain ⟨ao19, g19, cp19, hv19, hr19, hg19⟩ := hoo14.rowOf
 subst hv19
 refine Zr [.slice _ _ _, .slice (some ⟨b17, 0, none⟩) _ _] rfl η Tryz.func16 (ksame_calls hr19 hrb17) ?_
 rintro e w20 ⟨rfl, F20⟩
 refine ⟨_, rfl, ?_⟩
 have Q20 := F20.size
 replace hV := Z0 hV F20
 replace hCst9 := Z0 hCst9 F20
 replace hr19 := hr19.evo0 F20
 refine h_next hCst9 ?_
 refine Zt (i := 5) η (fun w' hC => run_mvb rfl η) hCst9 ?_
 refine h_takeY (i := 6) η η rfl (wantT η) η rfl rfl ζ (fun w' hC => run_ldN rfl ag_28 ty_28 η rfl (hAb1_q.evo0 hC)) hCst9 ?_
 refine h_takeY (i := 7) η η rfl (wantT η) η rfl rfl ζ (fun w' hC => mvS) hCst9 ?_
 refine Zh (i := 8) ?_
 refine r_gyes rfl (wantT η) η ?_
 refine Zr [.agg _, .slice _ _ _] rfl η Tryz.func25 (refused_calls hr19 (RowR.nil _ _ 0 0 _) (RowR.nil _ _ 0 0 _)) ?_
 rintro e w21 ⟨rfl, F21⟩
 refine ⟨_, rfl, ?_⟩
 have Q21 := F21.size
 replace hV := Z0 hV F21
 replace hCst9 := Z0 hCst9 F21
 refine h_next hCst9 ?_
 refine Zt (i := 9) η (fun w' hC => run_pick_andB rfl η (fun _ => η) rfl) hCst9 ?_
 refine Zt (i := 10) η (fun w' hC => mvB) hCst9 ?_
 refine h_takeY (i := 11) η η rfl (wantT η) (by exact ⟨rfl, k_ref⟩) rfl rfl ζ (fun w' hC => run_ldN rfl ag_28 ty_28 η rfl (hAb1_q.evo0 hC)) hCst9 ?_
 refine h_takeY (i := 12) η η rfl (wantT η) (by exact ⟨rfl, k_ref⟩) rfl rfl ζ (fun w' hC => run_mv (v := .func _ _ _) rfl η) hCst9 ?_
 refine h_takeY (i := 15) η η rfl (wantT η) (by exact ⟨rfl, k_ref⟩) rfl rfl ζ (fun w' hC => run_bld (pv := [(0, .int _ _)]) (zs := [_, _, _]) (cells := [_, _, _]) rfl ty_39 η pl_39 η η) hCst9 ?_
 refine h_two (i := 13) (j := 16) ζ ?_ ?_
 ·skip
  refine h_do η ?_
  refine r_gyes rfl (wantT η) (by exact ⟨rfl, k_ref⟩) ?_
  refine r_opcall rfl rfl rfl (run_callfn (vs := [S _]) (cs := []) rfl η η Tryz.func37 rfl ζ) known1_calls ?_
  rintro e w22 ⟨aoK22, bK22, ofK22, cpK22, rfl, F22, hrK22⟩
  refine ⟨_, rfl, ?_⟩
  have Q22 := F22.size
  replace hV := Z0 hV F22
  replace hCst9 := Z0 hCst9 F22
  refine h_next hCst9 ?_
  refine h_two (i := 14) (j := 16) ζ ?_ ?_
  ·skip
   refine h_do η ?_
   refine r_gyes rfl (wantT η) (by exact ⟨rfl, k_ref⟩) ?_
   refine Zr [.agg _, .slice _ _ _, .slice _ _ _] rfl η Tryz.func14 (run_calls (RowR.nil _ _ 0 0 _) (RowR.nil _ _ 0 0 _) hrK22 (RowE.nil _ none 0 0 0) k_tiny.2.2.1 k_tiny.2.2.2 k_notag.2.2 (fun x hx => absurd hx List.not_mem_nil) (Nat.zero_le _) (fun x hx => absurd hx List.not_mem_nil) (htab.evo0 hV)) ?_
   rintro e w23 ⟨vo23, rfl, F23, hoo23⟩
   refine ⟨_, rfl, ?_⟩
   have Q23 := F23.size
   replace hV := Z0 hV F23
   replace hCst9 := Z0 hCst9 F23
   replace hoo23 := own_cast hoo23 k_emp
   refine h_next hCst9 ?_
   refine Zh (i := 16) ?_
   refine r_gyes rfl (wantT η) (by exact ⟨rfl, k_ref⟩) ?_
   refine r_bslice (pv := [(0, .agg _)]) (zs := [_, _, _]) (cs := [_, _, _]) Tryz.underlying34 ty_39 η rfl η rfl η ?_
   intro b24 w25 J24 E25 B24 Y24
   have Q25 := E25.size
   replace hV := Z0 hV E25
   replace hCst9 := Z0 hCst9 E25
   replace hoo23 := hoo23.evo0 E25
   have hrb24 : RowE w25 (some ⟨b24, 0, none⟩) b24 0 1 ([⟨1, [], 0⟩] : List Vc.Item) := rowLit ([⟨1, [], 0⟩] : List Vc.Item) B24 rfl rfl
   refine h_next hCst9 ?_
   refine Zh (i := 17) ?_
   refine r_gyes rfl (wantT η) (by exact ⟨rfl, k_ref⟩) ?_
   obtain ⟨ao26, g26, cp26, hv26, hr26, hg26⟩ := hoo23.rowOf
   subst hv26
   refine Zr [.slice _ _ _, .slice (some ⟨b24, 0, none⟩) _ _] rfl η Tryz.func16 (ksame_calls hr26 hrb24) ?_
   rintro e w27 ⟨rfl, F27⟩
   refine ⟨_, rfl, ?_⟩
   have Q27 := F27.size
   replace hV := Z0 hV F27
   replace hCst9 := Z0 hCst9 F27
   refine h_next hCst9 ?_
   refine Zt (i := 18) η (fun w' hC => run_pick_andB rfl η (fun _ => η) rfl) hCst9 ?_
   refine Zt (i := 19) η (fun w' hC => asB) hCst9 ?_
   refine h_done ζ ?_
   refine r_ret (res1 (v := .bool _) rfl η) ?_
   exact ⟨ret_bool (decide_eq_true ⟨⟨rfl, k_ref⟩, rfl⟩), hV⟩
  refine h_do η ?_
  refine r_gyes rfl (wantT η) (by exact ⟨rfl, k_ref⟩) ?_
  refine r_bslice (pv := [(0, .agg _)]) (zs := [_, _, _]) (cs := [_, _, _]) Tryz.underlying34 ty_39 η rfl η rfl η ?_
  intro b28 w29 J28 E29 B28 Y28
  have Q29 := E29.size
  replace hV := Z0 hV E29
  replace hCst9 := Z0 hCst9 E29
  replace hrK22 := hrK22.evo0 E29
  have hrb28 : RowE w29 (some ⟨b28, 0, none⟩) b28 0 1 ([⟨1, [], 0⟩] : List Vc.Item) := rowLit ([⟨1, [], 0⟩] : List Vc.Item) B28 rfl rfl
  refine h_next hCst9 ?_
  refine Zh (i := 14) ?_
  refine r_gyes rfl (wantT η) (by exact ⟨rfl, k_ref⟩) ?_
  refine Zr [.agg _, .slice _ _ _, .slice _ _ _] rfl η Tryz.func14 (run_calls (RowR.nil _ _ 0 0 _) (RowR.nil _ _ 0 0 _) hrK22 (RowE.nil _ none 0 0 0) k_tiny.2.2.1 k_tiny.2.2.2 k_notag.2.2 (fun x hx => absurd hx List.not_mem_nil) (Nat.zero_le _) (fun x hx => absurd hx List.not_mem_nil) (htab.evo0 hV)) ?_
  rintro e w30 ⟨vo30, rfl, F30, hoo30⟩
  refine ⟨_, rfl, ?_⟩
  have Q30 := F30.size
  replace hV := Z0 hV F30
  replace hCst9 := Z0 hCst9 F30
  replace hrb28 := hrb28.evo0 F30
  replace hoo30 := own_cast hoo30 k_emp
  refine h_next hCst9 ?_
  refine Zh (i := 17) ?_
  refine r_gyes rfl (wantT η) (by exact ⟨rfl, k_ref⟩) ?_
  obtain ⟨ao31, g31, cp31, hv31, hr31, hg31⟩ := hoo30.rowOf
  subst hv31
  refine Zr [.slice _ _ _, .slice (some ⟨b28, 0, none⟩) _ _] rfl η Tryz.func16 (ksame_calls hr31 hrb28) ?_
  rintro e w32 ⟨rfl, F32⟩
  refine ⟨_, rfl, ?_⟩
  have Q32 := F32.size
  replace hV := Z0 hV F32
  replace hCst9 := Z0 hCst9 F32
  refine h_next hCst9 ?_
  refine Zt (i := 18) η (fun w' hC => run_pick_andB rfl η (fun _ => η) rfl) hCst9 ?_
  refine Zt (i := 19) η (fun w' hC => asB) hCst9 ?_
  refine h_done ζ ?_
  refine r_ret (res1 (v := .bool _) rfl η) ?_
  exact ⟨ret_bool (decide_eq_true ⟨⟨rfl, k_ref⟩, rfl⟩), hV⟩
 refine h_do η ?_
 refine r_gyes rfl (wantT η) (by exact ⟨rfl, k_ref⟩) ?_
 refine r_bslice (pv := [(0, .agg _)]) (zs := [_, _, _]) (cs := [_, _, _]) Tryz.underlying34 ty_39 η rfl η rfl η ?_
 intro b33 w34 J33 E34 B33 Y33
 have Q34 := E34.size
 replace hV := Z0 hV E34
 replace hCst9 := Z0 hCst9 E34
 have hrb33 : RowE w34 (some ⟨b33, 0, none⟩) b33 0 1 ([⟨1, [], 0⟩] : List Vc.Item) := rowLit ([⟨1, [], 0⟩] : List Vc.Item) B33 rfl rfl
 refine h_next hCst9 ?_
 refine Zh (i := 13) ?_
 refine r_gyes rfl (wantT η) (by exact ⟨rfl, k_ref⟩) ?_
 refine r_opcall rfl rfl rfl (run_callfn (vs := [S _]) (cs := []) rfl η η Tryz.func37 rfl ζ) known1_calls ?_
 rintro e w35 ⟨aoK35, bK35, ofK35, cpK35, rfl, F35, hrK35⟩
 refine ⟨_, rfl, ?_⟩
 have Q35 := F35.size
 replace hV := Z0 hV F35
 replace hCst9 := Z0 hCst9 F35
 replace hrb33 := hrb33.evo0 F35
 refine h_next hCst9 ?_
 refine Zh (i := 14) ?_
 refine r_gyes rfl (wantT η) (by exact ⟨rfl, k_ref⟩) ?_
 refine Zr [.agg _, .slice _ _ _, .slice _ _ _] rfl η Tryz.func14 (run_calls (RowR.nil _ _ 0 0 _) (RowR.nil _ _ 0 0 _) hrK35 (RowE.nil _ none 0 0 0) k_tiny.2.2.1 k_tiny.2.2.2 k_notag.2.2 (fun x hx => absurd hx List.not_mem_nil) (Nat.zero_le _) (fun x hx => absurd hx List.not_mem_nil) (htab.evo0 hV)) ?_
 rintro e w36 ⟨vo36, rfl, F36, hoo36⟩
 refine ⟨_, rfl, ?_⟩
 have Q36 := F36.size
 replace hV := Z0 hV F36
 replace hCst9 := Z0 hCst9 F36
 replace hrb33 := hrb33.evo0 F36
 replace hoo36 := own_cast hoo36 k_emp
 refine h_next hCst9 ?_
 refine Zh (i := 17) ?_
 refine r_gyes rfl (wantT η) (by exact ⟨rfl, k_ref⟩) ?_
 obtain ⟨ao37, g37, cp37, hv37, hr37, hg37⟩ := hoo36.rowOf
 subst hv37
 refine Zr [.slice _ _ _, .slice (some ⟨b33, 0, none⟩) _ _] rfl η Tryz.func16 (ksame_calls hr37 hrb33) ?_
 rintro e w38 ⟨rfl, F38⟩
 refine ⟨_, rfl, ?_⟩
 have Q38 := F38.size
 replace hV := Z0 hV F38
 replace hCst9 := Z0 hCst9 F38
 refine h_next hCst9 ?_
 refine Zt (i := 18) η (fun w' hC => run_pick_andB rfl η (fun _ => η) rfl) hCst9 ?_
 refine Zt (i := 19) η (fun w' hC => asB) hCst9 ?_
 refine h_done ζ ?_
 refine r_ret (res1 (v := .bool _) rfl η) ?_
 exact ⟨ret_bool (decide_eq_true ⟨⟨rfl, k_ref⟩, rfl⟩), hV⟩
set_option maxHeartbeats 4000000 in
theorem krefuses_law {l0 l1 l2 l3 l4 l5 l6 l7 l8 l9 l10 l11 l12 sh lo : Int} {aot : Option Addr} {bt ot capt : Nat} {ts : List TermL} {aoc : Option Addr} {bc oc capc : Nat} {cl : List Clas} {aor : Option Addr} {br offr capr : Nat} {raw : List Vc.Item} {aoa : Option Addr} {ba offa capa : Nat} {a : List Int} {aob : Option Addr} {bb offb capb : Nat} {b : List Int} {w0 : World} (hts : RowR w0 aot bt ot capt ts) (hcl : RowR w0 aoc bc oc capc cl) (hr : RowE w0 aor br offr capr raw) (ha : RowE w0 aoa ba offa capa a) (hb : RowE w0 aob bb offb capb b) (htab : Tab w0) :
    Calls Tryz.prog 10 #[.agg #[.int .i64 l0, .int .i64 l1, .int .i64 l2, .int .i64 l3, .int .i64 l4, .int .i64 l5, .int .i64 l6, .int .i64 l7, .int .i64 l8, .int .i64 l9, .int .i64 l10, .int .i64 l11, .int .i64 l12, .int .i64 sh, .int .i64 lo, .slice aot ts.length capt, .slice aoc cl.length capc], .slice aor raw.length capr, .slice aoa a.length capa, .slice aob b.length capb] w0 fun e w' => e = .returned (.bool true) ∧ Evo w0 w' [] := by
 refine calls_enter (n := 74) Tryz.func10 rfl Tryz.ntmps10 rfl ?_
 have hV : Evo w0 w0 [] := Evo.refl _ _
 have hts0 := hts.keep
 have hbd_hts := hts.bd
 have hcl0 := hcl.keep
 have hbd_hcl := hcl.bd
 have hr0 := keepE hr
 have hbd_hr := hr.bd
 have ha0 := keepE ha
 have hbd_ha := ha.bd
 have hb0 := keepE hb
 have hbd_hb := hb.bd
 refine Zs ?_
 refine r_box (vs := [_, _, _, _, _, _, _, _, _, _, _, _, _, _, _, _, _]) η η rfl ?_
 intro b1 w2 J1 E2 B1 Y1
 have Q2 := E2.size
 replace hV := Z0 hV E2
 refine Zn asB ?_
 refine r_seq ?_
 refine Zs ?_
 refine Zo mvS ?_
 refine Zo mvS ?_
 refine r_bslice (pv := [(0, .slice _ _ _), (1, .slice _ _ _)]) (zs := [_]) (cs := [_, _]) Tryz.underlying65 ty_22 η rfl η rfl η ?_
 intro b3 w4 J3 E4 B3 Y3
 have Q4 := E4.size
 replace hV := Z0 hV E4
 replace ha := ha0 _ hV
 replace hb := hb0 _ hV
 replace B1 := B1.evo0 E4
 have hrb3 : RowR w4 (some ⟨b3, 0, none⟩) b3 0 2 ([a, b] : List (List Int)) := rowLitR [[_], [_]] ([a, b] : List (List Int)) B3 rfl ((RepL.one (sl_rep ha)).append (RepL.one (sl_rep hb))) rfl
 refine Zr [.slice (some ⟨b3, 0, none⟩) _ _] rfl η Tryz.func17 (klong_calls hrb3 (by have h1 := hbd_ha; have h2 := hbd_hb; simp; omega)) ?_
 rintro e w5 ⟨rfl, F5⟩
 refine ⟨_, rfl, ?_⟩
 have Q5 := F5.size
 replace hV := Z0 hV F5
 replace B1 := B1.evo0 F5
 refine Zo (run_mvb rfl η) ?_
 refine r_g rfl (wantF η) rfl (fun hg => mvS) ?_
 refine r_g rfl (wantF η) rfl (fun hg => run_lenSl rfl (glv η (fun h => h) hg) Tryz.underlying34) ?_
 refine r_g rfl (wantF η) rfl (fun hg => run_gtr rfl (glv η (fun h => h) hg) η) ?_
 refine Zn (run_pick_or rfl η rfl (fun hq => glv η (fun h => h) hq)) ?_
 refine r_cond η (fun hc6 => ?_) (fun hc6 => ?_)
 ·skip
  refine Zs ?_
  refine Zr [] rfl η Tryz.func15 (kknown_calls (htab.evo0 hV)) ?_
  rintro e w7 ⟨rfl, F7⟩
  refine ⟨_, rfl, ?_⟩
  have Q7 := F7.size
  replace hV := Z0 hV F7
  refine Zn asB ?_
  refine r_ret (res1 (v := .bool _) rfl η) ?_
  exact ⟨rfl, hV⟩
 refine r_skip ?_
 refine Zs ?_
 refine Zo mvS ?_
 refine Zr [.slice _ _ _] rfl η Tryz.func19 kfrom_calls ?_
 rintro e w8 ⟨bs8, rfl, hbs8, F8, hbn8, hbA8⟩
 refine ⟨_, rfl, ?_⟩
 have Q8 := F8.size
 replace hV := Z0 hV F8
 replace B1 := B1.evo0 F8
 refine Zr [.pointer _, .bool _] rfl η Tryz.func18 (checks_make (N := 0) (rf := true) (show Blk _ _ _ [_, .int .i64 ((0 : Nat) : Int)] from hbn8) (fun w9 h9 => ha0 _ (evo_step1 hV h9 (.inl ω))) ω) ?_
 rintro e w9 ⟨l0_9, l1_9, l2_9, l3_9, l4_9, l5_9, l6_9, l7_9, l8_9, l9_9, l10_9, l11_9, l12_9, sh9, lo9, aot9, bt9, ot9, capt9, ts9, aoc9, bc9, oc9, capc9, cl9, rfl, F9, hTs90, hCl90, hMC9⟩
 refine ⟨_, rfl, ?_⟩
 have Q9 := F9.size
 replace hV := Z1 hV F9 ε
 replace B1 := B1.evo F9 θ
 have hK9 : Evo w9 w9 [] := Evo.refl _ _
 have hTs9 := hTs90.now hK9; have hbd_hTs9 := hTs9.bd
 have hCl9 := hCl90.now hK9; have hbd_hCl9 := hCl9.bd
 have hMCl9 := hMC9.len
 refine r_var (zs := [_, _, _, _, _, _, _, _, _, _, _, _, _, _, _, _, _]) (vs := [_, _, _, _, _, _, _, _, _, _, _, _, _, _, _, _, _]) ty_28 η rfl η (fun _ => rfl) η rfl rfl η ?_
 intro b10 w11 J10 E11 B10 Y10
 have Q11 := E11.size
 replace hV := Z0 hV E11
 replace hK9 := Z0 hK9 E11
 replace hb := hb0 _ hV
 replace B1 := B1.evo0 E11
 refine r_nil ?_
 refine Zs ?_
 refine Zo mvS ?_
 refine Zr [.slice _ _ _] rfl η Tryz.func21 (pairof_calls hb) ?_
 rintro e w12 ⟨aoA12, bA12, ofA12, cpA12, aoB12, bB12, ofB12, cpB12, pf12, pg12, rfl, F12, hrA12, hrB12, hgP12, hPR12⟩
 refine ⟨_, rfl, ?_⟩
 have Q12 := F12.size
 replace hV := Z0 hV F12
 replace hK9 := Z0 hK9 F12
 replace B1 := B1.evo0 F12
 replace hTs9 := hTs90.now hK9
 replace hCl9 := hCl90.now hK9
 replace B10 := B10.evo0 F12
 have hJ12 : Evo w12 w12 [] := Evo.refl _ _
 have hrA120 := fun w9 (h9 : Evo w12 w9 []) => row_keep hrA12 h9 (fun hne hm => by have h2 := hgP12.1 hne; simp at hm <;> omega)
 have hbd_hrA12 := hrA12.bd
 have hrB120 := fun w9 (h9 : Evo w12 w9 []) => row_keep hrB12 h9 (fun hne hm => by have h2 := hgP12.2 hne; simp at hm <;> omega)
 have hbd_hrB12 := hrB12.bd
 refine Zo mvU ?_
 refine Zo (run_extract (v := .slice _ _ _) rfl η η) ?_
 refine Zo (run_extract (v := .slice _ _ _) rfl η η) ?_
 refine Zo asS ?_
 refine Zn asS ?_
 refine Zs ?_
 refine Zo (run_ldN rfl ag_28 ty_28 η rfl B10.at) ?_
 refine Zo mvS ?_
 refine Zo mvS ?_
 refine Zr [.agg _, .slice _ _ _, .slice _ _ _] rfl η Tryz.func14 (run_calls hTs9 hCl9 hrA12 hrB12 hPR12.tf hPR12.tg hPR12.nf hPR12.ng hMC9.tl40 hMC9.jud (htab.evo0 hV)) ?_
 rintro e w13 ⟨vo13, rfl, F13, hoo13⟩
 refine ⟨_, rfl, ?_⟩
 have Q13 := F13.size
 replace hV := Z0 hV F13
 replace hK9 := Z0 hK9 F13
 replace hJ12 := Z0 hJ12 F13
 replace B1 := B1.evo0 F13
 replace B10 := B10.evo0 F13
 refine Zn (run_asg (v := vo13) rfl η) ?_
 refine r_seq ?_
 have hI14 : Evo w13 w13 [] := Evo.refl _ _
 obtain ⟨ao15, g15, cp15, hv15, hr15, hg15⟩ := hoo13.rowOf
 subst hv15
 have hr150 := keepE hr15
 have hbb1_q := B1
 have hAb1_q := B1.at
 have hbb10_q := B10
 have hAb10_q := B10.at
 have hV_q := hV
 have hK9_q := hK9
 have hJ12_q := hJ12
 have hI14_q := hI14
 refine h_region ([]) ζ ?_
 intro w16 F17 hCst6
 have Q16 := F17.size
 replace hV := Z0 hV F17
 replace hK9 := Z0 hK9 F17
 replace hJ12 := Z0 hJ12 F17
 replace hI14 := Z0 hI14 F17
 replace hts := hts0.now hV
 replace hcl := hcl0.now hV
 replace hr := hr0 _ hV
 refine Zt (i := 0) η (fun w' hC => run_ldN rfl ag_28 ty_28 η rfl (hAb1_q.evo0 hC)) hCst6 ?_
 refine Zt (i := 1) η (fun w' hC => mvS) hCst6 ?_
 refine Zt (i := 3) η (fun w' hC => run_ldN rfl ag_28 ty_28 η rfl (hAb1_q.evo0 hC)) hCst6 ?_
 refine Zt (i := 4) η (fun w' hC => mvS) hCst6 ?_
 refine Zh (i := 2) ?_
 refine Zr [.agg _, .slice _ _ _] rfl η Tryz.func25 (refused_calls hr hts hcl) ?_
 rintro e w18 ⟨rfl, F18⟩
 refine ⟨_, rfl, ?_⟩
 have Q18 := F18.size
 replace hV := Z0 hV F18
 replace hK9 := Z0 hK9 F18
 replace hJ12 := Z0 hJ12 F18
 replace hI14 := Z0 hI14 F18
 replace hCst6 := Z0 hCst6 F18
 replace hts := hts0.now hV
 replace hcl := hcl0.now hV
 replace hr := hr0 _ hV
 refine h_next hCst6 ?_
 refine Zh (i := 5) ?_
 refine Zr [.agg _, .slice _ _ _] rfl η Tryz.func26 (rrefused_calls hr hts hcl) ?_
 rintro e w19 ⟨rfl, F19⟩
 refine ⟨_, rfl, ?_⟩
 have Q19 := F19.size
 replace hV := Z0 hV F19
 replace hK9 := Z0 hK9 F19
 replace hJ12 := Z0 hJ12 F19
 replace hI14 := Z0 hI14 F19
 replace hCst6 := Z0 hCst6 F19
 replace hr := hr0 _ hV
 replace hTs9 := hTs90.now hK9
 replace hCl9 := hCl90.now hK9
 refine h_next hCst6 ?_
 refine Zt (i := 6) η (fun w' hC => run_beqlB rfl Tryz.underlying4 η η) hCst6 ?_
 refine Zt (i := 7) η (fun w' hC => mvB) hCst6 ?_
 refine h_takeY (i := 8) η η rfl (wantT η) η rfl rfl ζ (fun w' hC => run_ldN rfl ag_28 ty_28 η rfl (hAb10_q.evo0 hC)) hCst6 ?_
 refine h_takeY (i := 9) η η rfl (wantT η) η rfl rfl ζ (fun w' hC => mvS) hCst6 ?_
 refine h_takeY (i := 11) η η rfl (wantT η) η rfl rfl ζ (fun w' hC => run_ldN rfl ag_28 ty_28 η rfl (hAb10_q.evo0 hC)) hCst6 ?_
 refine h_takeY (i := 12) η η rfl (wantT η) η rfl rfl ζ (fun w' hC => mvS) hCst6 ?_
 refine Zh (i := 10) ?_
 refine r_gyes rfl (wantT η) η ?_
 refine Zr [.agg _, .slice _ _ _] rfl η Tryz.func25 (refused_calls hr hTs9 hCl9) ?_
 rintro e w20 ⟨rfl, F20⟩
 refine ⟨_, rfl, ?_⟩
 have Q20 := F20.size
 replace hV := Z0 hV F20
 replace hK9 := Z0 hK9 F20
 replace hJ12 := Z0 hJ12 F20
 replace hI14 := Z0 hI14 F20
 replace hCst6 := Z0 hCst6 F20
 replace hr := hr0 _ hV
 replace hTs9 := hTs90.now hK9
 replace hCl9 := hCl90.now hK9
 refine h_next hCst6 ?_
 refine Zh (i := 13) ?_
 refine r_gyes rfl (wantT η) η ?_
 refine Zr [.agg _, .slice _ _ _] rfl η Tryz.func26 (rrefused_calls hr hTs9 hCl9) ?_
 rintro e w21 ⟨rfl, F21⟩
 refine ⟨_, rfl, ?_⟩
 have Q21 := F21.size
 replace hV := Z0 hV F21
 replace hK9 := Z0 hK9 F21
 replace hJ12 := Z0 hJ12 F21
 replace hI14 := Z0 hI14 F21
 replace hCst6 := Z0 hCst6 F21
 replace hTs9 := hTs90.now hK9
 replace hCl9 := hCl90.now hK9
 replace hr15 := hr150 _ hI14
 refine h_next hCst6 ?_
 refine h_takeY (i := 14) η η rfl (wantT η) η rfl rfl ζ (fun w' hC => run_beqlB rfl Tryz.underlying4 η η) hCst6 ?_
 refine Zt (i := 15) η (fun w' hC => run_pick_and rfl η (fun _ => η) rfl) hCst6 ?_
 refine Zt (i := 16) η (fun w' hC => mvB) hCst6 ?_
 refine h_takeY (i := 17) η η rfl (wantT η) (by exact ⟨rfl, rfl⟩) rfl rfl ζ (fun w' hC => run_ldN rfl ag_28 ty_28 η rfl (hAb10_q.evo0 hC)) hCst6 ?_
 refine h_takeY (i := 18) η η rfl (wantT η) (by exact ⟨rfl, rfl⟩) rfl rfl ζ (fun w' hC => mvS) hCst6 ?_
 refine h_takeY (i := 20) η η rfl (wantT η) (by exact ⟨rfl, rfl⟩) rfl rfl ζ (fun w' hC => run_ldN rfl ag_28 ty_28 η rfl (hAb10_q.evo0 hC)) hCst6 ?_
 refine h_takeY (i := 21) η η rfl (wantT η) (by exact ⟨rfl, rfl⟩) rfl rfl ζ (fun w' hC => mvS) hCst6 ?_
 refine Zh (i := 19) ?_
 refine r_gyes rfl (wantT η) (by exact ⟨rfl, rfl⟩) ?_
 refine Zr [.agg _, .slice _ _ _] rfl η Tryz.func25 (refused_calls hr15 hTs9 hCl9) ?_
 rintro e w22 ⟨rfl, F22⟩
 refine ⟨_, rfl, ?_⟩
 have Q22 := F22.size
 replace hV := Z0 hV F22
 replace hK9 := Z0 hK9 F22
 replace hJ12 := Z0 hJ12 F22
 replace hI14 := Z0 hI14 F22
 replace hCst6 := Z0 hCst6 F22
 replace hTs9 := hTs90.now hK9
 replace hCl9 := hCl90.now hK9
 replace hr15 := hr150 _ hI14
 refine h_next hCst6 ?_
 refine Zh (i := 22) ?_
 refine r_gyes rfl (wantT η) (by exact ⟨rfl, rfl⟩) ?_
 refine Zr [.agg _, .slice _ _ _] rfl η Tryz.func26 (rrefused_calls hr15 hTs9 hCl9) ?_
 rintro e w23 ⟨rfl, F23⟩
 refine ⟨_, rfl, ?_⟩
 have Q23 := F23.size
 replace hV := Z0 hV F23
 replace hK9 := Z0 hK9 F23
 replace hJ12 := Z0 hJ12 F23
 replace hCst6 := Z0 hCst6 F23
 replace hTs9 := hTs90.now hK9
 replace hCl9 := hCl90.now hK9
 refine h_next hCst6 ?_
 refine h_takeY (i := 23) η η rfl (wantT η) (by exact ⟨rfl, rfl⟩) rfl rfl ζ (fun w' hC => run_beqlB rfl Tryz.underlying4 η η) hCst6 ?_
 refine Zt (i := 24) η (fun w' hC => run_pick_and rfl η (fun _ => η) rfl) hCst6 ?_
 refine Zt (i := 25) η (fun w' hC => mvB) hCst6 ?_
 refine h_takeY (i := 26) η η rfl (wantT η) (by exact ⟨⟨rfl, rfl⟩, rfl⟩) rfl rfl ζ (fun w' hC => run_ldN rfl ag_28 ty_28 η rfl (hAb10_q.evo0 hC)) hCst6 ?_
 refine Zh (i := 27) ?_
 refine r_gyes rfl (wantT η) (by exact ⟨⟨rfl, rfl⟩, rfl⟩) ?_
 refine Zr [.agg _, .slice _ _ _] rfl η Tryz.func25 (refused_calls (RowE.nil _ none 0 0 0) hTs9 hCl9) ?_
 rintro e w24 ⟨rfl, F24⟩
 refine ⟨_, rfl, ?_⟩
 have Q24 := F24.size
 replace hV := Z0 hV F24
 replace hJ12 := Z0 hJ12 F24
 replace hCst6 := Z0 hCst6 F24
 replace hrA12 := hrA120 _ hJ12
 refine h_next hCst6 ?_
 refine h_takeY (i := 28) η η rfl (wantT η) (by exact ⟨⟨rfl, rfl⟩, rfl⟩) rfl rfl ζ (fun w' hC => run_notb rfl η) hCst6 ?_
 refine Zt (i := 29) η (fun w' hC => run_pick_andB rfl η (fun _ => η) rfl) hCst6 ?_
 refine Zt (i := 30) η (fun w' hC => mvB) hCst6 ?_
 refine h_takeY (i := 31) η η rfl (wantT η) (by exact ⟨⟨⟨rfl, rfl⟩, rfl⟩, rfl⟩) rfl rfl ζ (fun w' hC => mvS) hCst6 ?_
 refine h_takeY (i := 32) η η rfl (wantT η) (by exact ⟨⟨⟨rfl, rfl⟩, rfl⟩, rfl⟩) rfl rfl ζ (fun w' hC => mvS) hCst6 ?_
 refine Zh (i := 33) ?_
 refine r_gyes rfl (wantT η) (by exact ⟨⟨⟨rfl, rfl⟩, rfl⟩, rfl⟩) ?_
 refine Zr [.slice _ _ _, .slice _ _ _] rfl η Tryz.func28 (concat_calls hrA12 (RowE.nil _ none 0 0 0) (by rw [List.append_nil]; exact hPR12.tf.small)) ?_
 rintro e w25 ⟨vn25, rfl, F25, hon25⟩
 refine ⟨_, rfl, ?_⟩
 have Q25 := F25.size
 replace hV := Z0 hV F25
 replace hJ12 := Z0 hJ12 F25
 replace hCst6 := Z0 hCst6 F25
 replace hrA12 := hrA120 _ hJ12
 refine h_next hCst6 ?_
 refine Zh (i := 34) ?_
 refine r_gyes rfl (wantT η) (by exact ⟨⟨⟨rfl, rfl⟩, rfl⟩, rfl⟩) ?_
 obtain ⟨ao26, g26, cp26, hv26, hr26, hg26⟩ := hon25.rowOf
 subst hv26
 refine Zr [.slice _ _ _, .slice _ _ _] rfl η Tryz.func27 (same_calls hrA12 hr26) ?_
 rintro e w27 ⟨rfl, F27⟩
 refine ⟨_, rfl, ?_⟩
 have Q27 := F27.size
 replace hV := Z0 hV F27
 replace hCst6 := Z0 hCst6 F27
 refine h_next hCst6 ?_
 refine Zt (i := 35) η (fun w' hC => run_pick_and rfl η (fun _ => η) rfl) hCst6 ?_
 refine Zt (i := 36) η (fun w' hC => mvB) hCst6 ?_
 refine Zh (i := 37) ?_
 refine r_gyes rfl (wantT η) (by exact ⟨⟨⟨⟨rfl, rfl⟩, rfl⟩, rfl⟩, (show pf12 = normL (pf12 ++ []) by rw [List.append_nil]; exact (val_norm _ hPR12.vf).symm)⟩) ?_
 refine Zr [] rfl η Tryz.func15 (kknown_calls (htab.evo0 hV)) ?_
 rintro e w28 ⟨rfl, F28⟩
 refine ⟨_, rfl, ?_⟩
 have Q28 := F28.size
 replace hV := Z0 hV F28
 replace hCst6 := Z0 hCst6 F28
 refine h_next hCst6 ?_
 refine Zt (i := 38) η (fun w' hC => run_pick_andB rfl η (fun _ => η) rfl) hCst6 ?_
 refine Zt (i := 39) η (fun w' hC => asB) hCst6 ?_
 refine h_done ζ ?_
 refine r_ret (res1 (v := .bool _) rfl η) ?_
 exact ⟨ret_bool (decide_eq_true ⟨⟨⟨⟨⟨rfl, rfl⟩, rfl⟩, rfl⟩, (show pf12 = normL (pf12 ++ []) by rw [List.append_nil]; exact (val_norm _ hPR12.vf).symm)⟩, rfl⟩), hV⟩
end Go.Proofs.YtlfjocbnbceceaaGreatDoor
namespace Go.Vc
open Go Go.RowKit Go.IntWalk Go.Deep
def QI (x : Item) : Prop := x.text.length ≤ reachBytes ∧ (-9223372036854775808 ≤ x.id ∧ x.id ≤ 9223372036854775807)
theorem elem_itemI {P : Program} {e : TypeId} {f0 f1 f2 : Field} (ht : P.underlying e = some (.struct #[f0, f1, f2])) (h2 : P.cellsOf e = 3) (o0 : f0.offset = 0) (c0 : P.cellsOf f0.type = 1) (o1 : f1.offset = 1) (c1 : P.cellsOf f1.type = 1) (o2 : f2.offset = 2) (c2 : P.cellsOf f2.type = 1)
    (u0 : P.underlying f0.type = some (.int .i64)) (u1 : P.underlying f1.type = some .string) (u2 : P.underlying f2.type = some (.int .i64)) {H : Type} {enc : TypeId × Value → H} {w : World} {base : Nat} {sp : Nat → Bool} {hd : Bool} {n : Nat} {cs : List Value} {d : DataW H} {pl : List MemPlace}
    (h : DataW.trod enc P w base sp hd n e cs = some (d, pl)) (hw : ∀ m ∈ d.weights P e, m ≤ reachBytes) : ∃ x : Item, cs = Enc.enc x ∧ QI x := by
  obtain ⟨x, hx, hq⟩ := elem_item ht h2 o0 c0 o1 c1 o2 c2 u0 u1 u2 h hw
  refine ⟨x, hx, hq, ?_⟩
  subst hx
  obtain ⟨y0, y1, y2, m, _, _, _, _, h5⟩ := Go.Deep.trod_struct3 ht h
  rw [o2, c2] at h5
  obtain ⟨k, e2, _, hwf⟩ := DataW.trod_int u2 h5
  have e3 : Value.int .i64 x.id = .int .i64 k := by
    have : [Value.int .i64 x.id] = [.int .i64 k] := e2
    simpa using this
  injection e3 with _ e3
  rw [e3]
  simp only [Lit.wf, Bool.and_eq_true, decide_eq_true_eq] at hwf
  have h1 : IntKind.min .i64 = -9223372036854775808 := by decide
  have h2 : IntKind.max .i64 = 9223372036854775807 := by decide
  rw [h1, h2] at hwf
  exact hwf
section
variable {P : Program} {H : Type} {enc : TypeId × Value → H} {w : World} {base : Nat} {sp : Nat → Bool} {hd : Bool} {t e : TypeId}
theorem arr_ints {n fuel : Nat} {cs : List Value} {x : DataW H × List MemPlace} (ht : P.underlying t = some (.array n e)) (he : P.underlying e = some (.int .i64)) (hce : P.cellsOf e = 1) (hct : P.cellsOf t = n)
    (h : DataW.trod enc P w base sp hd fuel t cs = some x) : ∃ l : List Int, l.length = n ∧ cs = l.map (Value.int .i64) := by
  obtain ⟨xs, m, _, _, hl, hxl, hf⟩ := DataW.trod_array ht h
  rw [hct] at hl
  refine ⟨cs.map (fun v => match v with | .int _ z => z | _ => 0), by rw [List.length_map]; exact hl, ?_⟩
  refine List.ext_getElem (by simp) (fun i h1 h2 => ?_)
  have h3 := hf i ω
  rw [hce, Nat.mul_one, List.drop_eq_getElem_cons h1] at h3
  simp only [List.take_succ_cons, List.take_zero] at h3
  rw [List.getElem?_eq_getElem (show i < xs.length by omega)] at h3
  obtain ⟨z, e1, _⟩ := DataW.trod_int he h3
  have e2 : cs[i] = .int .i64 z := by simpa using e1
  rw [List.getElem_map, List.getElem_map, e2]
theorem slice_shape {fuel : Nat} {v : Value} {x : DataW H × List MemPlace} (ht : P.underlying t = some (.slice e)) (h : DataW.trod enc P w base sp hd fuel t [v] = some x) : ∃ ao len cap, v = .slice ao len cap := by
  rcases open_slice ht h with ⟨h6, _⟩ | ⟨a, len, cap, _, _, _, _, h6, _⟩
  · simp only [List.cons.injEq, and_true] at h6; exact ⟨_, _, _, h6⟩
  · simp only [List.cons.injEq, and_true] at h6; exact ⟨_, _, _, h6⟩
theorem trod_checks {ta ti t3 t4 e3 e4 : TypeId} {f0 f1 f2 f3 f4 : Field} (ht : P.underlying t = some (.struct #[f0, f1, f2, f3, f4])) (hct : P.cellsOf t = 17)
    (o0 : f0.offset = 0) (y0 : f0.type = ta) (o1 : f1.offset = 13) (y1 : f1.type = ti) (o2 : f2.offset = 14) (y2 : f2.type = ti) (o3 : f3.offset = 15) (y3 : f3.type = t3) (o4 : f4.offset = 16) (y4 : f4.type = t4)
    (ua : P.underlying ta = some (.array 13 ti)) (ca : P.cellsOf ta = 13) (ui : P.underlying ti = some (.int .i64)) (ci : P.cellsOf ti = 1) (u3 : P.underlying t3 = some (.slice e3)) (c3 : P.cellsOf t3 = 1) (u4 : P.underlying t4 = some (.slice e4)) (c4 : P.cellsOf t4 = 1)
    {fuel : Nat} {cs : List Value} {d : DataW H} {pl : List MemPlace} (h : DataW.trod enc P w base sp hd fuel t cs = some (d, pl)) (hw : ∀ m ∈ d.weights P t, m ≤ reachBytes) :
    ∃ l : List Int, ∃ sh lo : Int, ∃ ao3 len3 cap3 ao4 len4 cap4 m d3 p3 d4 p4, l.length = 13 ∧ cs = l.map (Value.int .i64) ++ [.int .i64 sh, .int .i64 lo, .slice ao3 len3 cap3, .slice ao4 len4 cap4] ∧
      DataW.trod enc P w base sp hd m t3 [.slice ao3 len3 cap3] = some (d3, p3) ∧ DataW.trod enc P w base sp hd m t4 [.slice ao4 len4 cap4] = some (d4, p4) ∧ (∀ q ∈ d3.weights P t3, q ≤ reachBytes) ∧ (∀ q ∈ d4.weights P t4, q ≤ reachBytes) ∧ ∃ a b c, d = .agg [a, b, c, d3, d4] := by
  obtain ⟨xs, m, _, hx, hl, hlen, hf⟩ := DataW.trod_struct ht h
  rw [hct] at hl
  match xs, hlen with
  | [z0, z1, z2, (d3, p3), (d4, p4)], _ =>
    have h0 := hf 0 f0 rfl
    have h1 := hf 1 f1 rfl
    have h2 := hf 2 f2 rfl
    have h3 := hf 3 f3 rfl
    have h4 := hf 4 f4 rfl
    rw [o0, y0, ca] at h0
    rw [o1, y1, ci] at h1
    rw [o2, y2, ci] at h2
    rw [o3, y3, c3] at h3
    rw [o4, y4, c4] at h4
    have h0 : DataW.trod enc P w base sp hd m ta (cs.take 13) = some z0 := by simpa using h0
    obtain ⟨l, hll, hl2⟩ := arr_ints ua ui ci ca h0
    have hcs : cs = cs.take 13 ++ cs.drop 13 := (List.take_append_drop 13 cs).symm
    have hd4 : (cs.drop 13).length = 4 := by rw [List.length_drop]; omega
    obtain ⟨v1, v2, v3, v4, hv⟩ : ∃ v1 v2 v3 v4, cs.drop 13 = [v1, v2, v3, v4] := by
      match hq : cs.drop 13, hd4 with
      | [v1, v2, v3, v4], _ => exact ⟨_, _, _, _, rfl⟩
    have e14 : cs.drop 14 = [v2, v3, v4] := by rw [show 14 = 13 + 1 by rfl, ← List.drop_drop, hv]; rfl
    have e15 : cs.drop 15 = [v3, v4] := by rw [show 15 = 13 + 2 by rfl, ← List.drop_drop, hv]; rfl
    have e16 : cs.drop 16 = [v4] := by rw [show 16 = 13 + 3 by rfl, ← List.drop_drop, hv]; rfl
    rw [hv] at h1
    rw [e14] at h2
    rw [e15] at h3
    rw [e16] at h4
    have h3 : DataW.trod enc P w base sp hd m t3 [v3] = some (d3, p3) := by simpa using h3
    have h4 : DataW.trod enc P w base sp hd m t4 [v4] = some (d4, p4) := by simpa using h4
    obtain ⟨sh, e1, _⟩ := DataW.trod_int ui (x := z1) (by simpa using h1)
    obtain ⟨lo, e2, _⟩ := DataW.trod_int ui (x := z2) (by simpa using h2)
    obtain ⟨ao3, len3, cap3, rfl⟩ := slice_shape u3 h3
    obtain ⟨ao4, len4, cap4, rfl⟩ := slice_shape u4 h4
    simp only [List.cons.injEq, and_true] at e1 e2
    subst e1; subst e2
    have hd : d = .agg [z0.1, z1.1, z2.1, d3, d4] := congrArg Prod.fst hx
    refine ⟨l, sh, lo, ao3, len3, cap3, ao4, len4, cap4, m, d3, p3, d4, p4, hll, ?_, h3, h4, fun q hq => hw q ?_, fun q hq => hw q ?_, z0.1, z1.1, z2.1, hd⟩
    · exact hcs.trans (by rw [hl2, hv])
    · rw [hd]; simp [DataW.weights, ht, DataW.weightsEach, y3, y4, hq]
    · rw [hd]; simp [DataW.weights, ht, DataW.weightsEach, y3, y4, hq]
end
theorem elem_term {P : Program} {e se ss : TypeId} {f0 f1 f2 g0 g1 : Field} (ht : P.underlying e = some (.struct #[f0, f1, f2])) (h2 : P.cellsOf e = 3) (o0 : f0.offset = 0) (c0 : P.cellsOf f0.type = 1) (o1 : f1.offset = 1) (c1 : P.cellsOf f1.type = 1) (o2 : f2.offset = 2) (c2 : P.cellsOf f2.type = 1)
    (u0 : P.underlying f0.type = some (.slice se)) (u1 : P.underlying f1.type = some (.slice ss)) (u2 : P.underlying f2.type = some (.slice ss)) (cs0 : P.cellsOf se = 2) (bs0 : P.bytesOf se = 32) (cs1 : P.cellsOf ss = 1) (bs1 : P.bytesOf ss = 16) (us : P.underlying ss = some .string)
    (ht2 : P.underlying se = some (.struct #[g0, g1])) (p2 : g0.offset = 0) (d2 : P.cellsOf g0.type = 1) (p3 : g1.offset = 1) (d3 : P.cellsOf g1.type = 1) (v2 : P.underlying g0.type = some .string) (v3 : P.underlying g1.type = some .string)
    {H : Type} {enc : TypeId × Value → H} {w : World} {base : Nat} {sp : Nat → Bool} {hd : Bool} {n : Nat} {cs : List Value} {d : DataW H} {pl : List MemPlace} (h : DataW.trod enc P w base sp hd n e cs = some (d, pl)) (hw : ∀ m ∈ d.weights P e, m ≤ reachBytes) :
    ∃ x : TermL, Rep.rep w cs x ∧ (∀ s ∈ x.req, s.length ≤ reachBytes) ∧ (∀ s ∈ x.forb, s.length ≤ reachBytes) := by
  obtain ⟨y0, y1, y2, m, hx, hl, h3, h4, h5⟩ := Go.Deep.trod_struct3 ht h
  rw [o0, c0] at h3
  rw [o1, c1] at h4
  rw [o2, c2] at h5
  rw [h2] at hl
  have hd2 : d = .agg [y0.1, y1.1, y2.1] := congrArg Prod.fst hx
  have hw0 : ∀ q ∈ y0.1.weights P f0.type, q ≤ reachBytes := fun q hq => hw q (by rw [hd2]; simp [DataW.weights, ht, DataW.weightsEach, hq])
  have hw1 : ∀ q ∈ y1.1.weights P f1.type, q ≤ reachBytes := fun q hq => hw q (by rw [hd2]; simp [DataW.weights, ht, DataW.weightsEach, hq])
  have hw2 : ∀ q ∈ y2.1.weights P f2.type, q ≤ reachBytes := fun q hq => hw q (by rw [hd2]; simp [DataW.weights, ht, DataW.weightsEach, hq])
  have strs : ∀ (f : Field) (u : Value) (y : DataW H × List MemPlace), P.underlying f.type = some (.slice ss) → DataW.trod enc P w base sp hd m f.type [u] = some y → (∀ q ∈ y.1.weights P f.type, q ≤ reachBytes) →
      ∃ ao b off cap, ∃ l : List Str, u = .slice ao l.length cap ∧ RowE w ao b off cap l ∧ ∀ s ∈ l, s.length ≤ reachBytes := fun f u y uf hy hwf => by
    rcases open_slice uf hy with ⟨h6, _⟩ | ⟨a, len, cap, _, _, _, _, h6, _⟩
    · simp only [List.cons.injEq, and_true] at h6
      subst h6
      exact ⟨none, 0, 0, 0, [], rfl, RowE.nil _ _ _ _ _, fun s hs => absurd hs List.not_mem_nil⟩
    · simp only [List.cons.injEq, and_true] at h6
      subst h6
      obtain ⟨b, off, l, rfl, hr, hq⟩ := openEQ (α := Str) (Q := fun s => s.length ≤ reachBytes) uf cs1 ω (fun n cs d pl h hw => by
        obtain ⟨s, e1, e2, _⟩ := DataW.trod_string us h
        have hy0 : d = .lit (.string s.data.toList) := congrArg Prod.fst e2
        exact ⟨s.data.toList, by rw [e1]; cases s; rfl, hw s.data.toList.length (by rw [hy0]; simp [DataW.weights])⟩) (d := y.1) (pl := y.2) hy hwf
      exact ⟨_, b, off, cap, l, rfl, hr, hq⟩
  match cs, hl with
  | [u, v, z], _ =>
    simp only [List.drop_succ_cons, List.drop_zero, List.take_succ_cons, List.take_zero] at h3 h4 h5
    obtain ⟨ao1, b1, off1, cap1, l1, rfl, hr1, hq1⟩ := strs f1 v y1 u1 h4 hw1
    obtain ⟨ao2, b2, off2, cap2, l2, rfl, hr2, hq2⟩ := strs f2 z y2 u2 h5 hw2
    rcases open_slice u0 h3 with ⟨h6, _⟩ | ⟨a, len, cap, _, _, _, _, h6, _⟩
    · simp only [List.cons.injEq, and_true] at h6
      subst h6
      exact ⟨⟨[], l1, l2⟩, ⟨⟨none, 0, 0, 0, _, b1, off1, cap1, _, b2, off2, cap2, rfl, RowE.nil _ _ _ _ _, hr1, hr2⟩, Nat.zero_le _, fun y hy => absurd hy List.not_mem_nil⟩, hq1, hq2⟩
    · simp only [List.cons.injEq, and_true] at h6
      subst h6
      have h8 : reachBytes = 140737488351232 := rfl
      have hln := open_len u0 (d := y0.1) (pl := y0.2) (by simpa using h3) hw0
      rw [bs0] at hln
      obtain ⟨b, off, l, rfl, hr, hq⟩ := openEQ (α := Ende) u0 cs0 ω (fun n cs d pl h hw => elem_ende ht2 cs0 p2 d2 p3 d3 v2 v3 h hw) (d := y0.1) (pl := y0.2) (by simpa using h3) hw0
      exact ⟨⟨l, l1, l2⟩, ⟨⟨_, b, off, cap, _, b1, off1, cap1, _, b2, off2, cap2, rfl, hr, hr1, hr2⟩, by show l.length ≤ _; omega, hq⟩, hq1, hq2⟩
end Go.Vc
