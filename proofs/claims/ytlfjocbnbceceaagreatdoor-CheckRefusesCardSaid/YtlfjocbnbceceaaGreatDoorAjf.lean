/-
  Library, plain laws and walks that the statements reach (joined by a program out of smaller texts).
-/
import Derived.Test.YtlfjocbnbceceaaGreatDoorAje
import Derived.Shelf.SlSortCmp.NoneTotal
import Derived.Test.YtlfjocbnbceceaaGreatDoorProg
import Derived.Test.YtlfjocbnbceceaaGreatDoorAjd
import Derived.Test.YtlfjocbnbceceaaGreatDoorAja
set_option linter.unusedVariables false
set_option linter.unusedSimpArgs false
namespace Go.Proofs.YtlfjocbnbceceaaGreatDoor
open Go.RowKit Go.Vc
theorem shp_iff2 {f g : List Vc.Item} : ((¬((shapeL f).isSome = true ↔ (shapeL g).isSome = true) ∨ ¬ shC f = shC g) ∨ ¬ shO f = shO g) ↔ (((shapeL f).isSome ≠ (shapeL g).isSome ∨ ¬ sC f = sC g) ∨ ¬ sO f = sO g) := by
  have h1 : (¬((shapeL f).isSome = true ↔ (shapeL g).isSome = true)) ↔ ((shapeL f).isSome ≠ (shapeL g).isSome) := by rw [← Bool.eq_iff_iff]
  rw [h1]; exact Iff.rfl
set_option maxHeartbeats 1000000 in
theorem nested_calls {v : Value} {base : Nat} {l : List Vc.Item} {aof : Option Addr} {bf of9 capf : Nat} {f : List Vc.Item} {aog : Option Addr} {bg og capg : Nat} {gg : List Vc.Item} {w0 : World} (hol : OwnE w0 base 39 v l) (hbs : base ≤ w0.heap.size) (hf : ∀ w9, Evo w0 w9 v.ownBlock.toList → RowE w9 aof bf of9 capf f) (hg : ∀ w9, Evo w0 w9 v.ownBlock.toList → RowE w9 aog bg og capg gg) (htf : Tiny f) (htg : Tiny gg) (hsl : l.length ≤ 10000000) :
    Calls Tryz.prog 64 #[v, .slice aof f.length capf, .slice aog gg.length capg] w0 fun e w' => ∃ v', e = .returned v' ∧ Evo w0 w' v.ownBlock.toList ∧ (OwnE w' base 39 v' (l ++ shapeF f gg)) ∧ (∀ g, v'.ownBlock = some g → w0.heap.size ≤ g ∨ g ∈ v.ownBlock.toList) := by
 have hanA : (∀ g, v.ownBlock = some g → w0.heap.size ≤ g ∨ g ∈ v.ownBlock.toList) := fun g hg => .inr (Option.mem_toList.2 hg)
 refine calls_enter (n := 45) Tryz.func64 rfl Tryz.ntmps64 rfl ?_
 have hV : Evo w0 w0 v.ownBlock.toList := Evo.refl _ _
 have hf0 := hf
 replace hf := hf0 _ hV
 have hbd_hf := hf.bd
 have hg0 := hg
 replace hg := hg0 _ hV
 have hbd_hg := hg.bd
 refine Zs ?_
 refine Zn asS ?_
 refine Zs ?_
 refine Zo mvS ?_
 refine Zr [.slice _ _ _] rfl η Tryz.func23 (shape_calls hf htf.small) ?_
 rintro e w1 ⟨vp1, vq1, rfl, F1, hop1, hoq1⟩
 refine ⟨_, rfl, ?_⟩
 have Q1 := F1.size
 replace hV := Z0 hV F1
 replace hol := hol.evo0 F1
 replace hg := hg0 _ hV
 refine Zo mvU ?_
 refine Zo (run_extract (v := vp1) rfl η η) ?_
 refine Zo (run_extract (v := vq1) rfl η η) ?_
 refine Zo (run_extract (v := .bool _) rfl η η) ?_
 refine Zo (run_asg (v := vp1) rfl η) ?_
 refine Zo (run_asg (v := vq1) rfl η) ?_
 refine Zn asB ?_
 refine Zs ?_
 refine Zo mvS ?_
 refine Zr [.slice _ _ _] rfl η Tryz.func23 (shape_calls hg htg.small) ?_
 rintro e w2 ⟨vp2, vq2, rfl, F2, hop2, hoq2⟩
 refine ⟨_, rfl, ?_⟩
 have Q2 := F2.size
 replace hV := Z0 hV F2
 replace hol := hol.evo0 F2
 replace hg := hg0 _ hV
 replace hop1 := hop1.evo0 F2
 replace hoq1 := hoq1.evo0 F2
 refine Zo mvU ?_
 refine Zo (run_extract (v := vp2) rfl η η) ?_
 refine Zo (run_extract (v := vq2) rfl η η) ?_
 refine Zo (run_extract (v := .bool _) rfl η η) ?_
 refine Zo (run_asg (v := vp2) rfl η) ?_
 refine Zo (run_asg (v := vq2) rfl η) ?_
 refine Zn asB ?_
 refine r_seq ?_
 refine Zs ?_
 refine Zo (run_mvb rfl η) ?_
 refine Zo (run_mvb rfl η) ?_
 refine Zo (run_bneq rfl Tryz.underlying4 η η) ?_
 refine Zo mvB ?_
 refine r_g rfl (wantF η) rfl (fun hg => run_mv (v := vp1) rfl η) ?_
 refine r_g rfl (wantF η) rfl (fun hg => run_mv (v := vp2) rfl η) ?_
 obtain ⟨ao3, g3, cp3, hv3, hr3, hg3⟩ := hop1.rowOf
 subst hv3
 obtain ⟨ao4, g4, cp4, hv4, hr4, hg4⟩ := hop2.rowOf
 subst hv4
 refine r_gcall rfl (wantF η) rfl (fun hg => run_callf rfl (argcons (v := .slice _ _ _) (glv η (fun h => h) hg) (argcons (v := .slice _ _ _) (glv η (fun h => h) hg) (rfl))) Tryz.func45 rfl ζ) (fun hg => (sleqi_calls hr3 hr4).mono (fun e w' h => ⟨h.1, h.2⟩)) (fun w5 F6 => ?_)
 have Q5 := F6.size
 replace hV := Z0 hV F6
 replace hol := hol.evo0 F6
 replace hg := hg0 _ hV
 replace hoq1 := hoq1.evo0 F6
 replace hoq2 := hoq2.evo0 F6
 refine r_g rfl (wantF η) rfl (fun hg => run_not rfl (glv η (fun h => h) hg)) ?_
 refine Zo (run_pick_or rfl η rfl (fun hq => glv η (fun h => h) hq)) ?_
 refine Zo mvB ?_
 refine r_g rfl (wantF η) rfl (fun hg => run_mv (v := vq1) rfl η) ?_
 refine r_g rfl (wantF η) rfl (fun hg => run_mv (v := vq2) rfl η) ?_
 obtain ⟨ao7, g7, cp7, hv7, hr7, hg7⟩ := hoq1.rowOf
 subst hv7
 obtain ⟨ao8, g8, cp8, hv8, hr8, hg8⟩ := hoq2.rowOf
 subst hv8
 refine r_gcall rfl (wantF η) rfl (fun hg => run_callf rfl (argcons (v := .slice _ _ _) (glv η (fun h => h) hg) (argcons (v := .slice _ _ _) (glv η (fun h => h) hg) (rfl))) Tryz.func45 rfl ζ) (fun hg => (sleqi_calls hr7 hr8).mono (fun e w' h => ⟨h.1, h.2⟩)) (fun w9 F10 => ?_)
 have Q9 := F10.size
 replace hV := Z0 hV F10
 replace hol := hol.evo0 F10
 replace hg := hg0 _ hV
 refine r_g rfl (wantF η) rfl (fun hg => run_not rfl (glv η (fun h => h) hg)) ?_
 refine Zn (run_pick_or rfl η rfl (fun hq => glv η (fun h => h) hq)) ?_
 refine r_cond η (fun hc11 => ?_) (fun hc11 => ?_)
 ·skip
  refine r_region ?_
  refine Zo (run_mv (v := v) rfl η) ?_
  refine Zo (run_bld (pv := [(0, .int _ _)]) (zs := [_, _, _]) (cells := [_, _, _]) rfl ty_39 η pl_39 η η) ?_
  refine r_append1E (u := .agg _) (y := (⟨5, [], 0⟩ : Vc.Item)) rfl rfl Tryz.underlying34 ty_39 η hol (fun _ => η) η (by first | exact rfl | (show _ = List.toArray [_, _, _]; first | (dsimp only; done) | exact rfl | (dsimp only; exact rfl))) ((by first | omega | (simp only [List.length_append]; omega))) ((by first | omega | (simp only [List.length_append]; omega))) ω ?_
  intro q_v12 v12 w13 E13 hov12 hlv12
  have Q13 := E13.size
  replace hV := evo_stepo hV E13 (fun g hg => hanA g hg)
  replace hanA := own_anch hlv12 hanA ω
  have hol := hov12
  refine Zn (run_asg (v := v12) rfl η) ?_
  refine Zs ?_
  refine Zo (run_mv (v := v12) rfl η) ?_
  refine Zn (run_asg (v := v12) rfl η) ?_
  refine r_ret (res1 (v := v12) rfl η) ?_
  exact ⟨_, rfl, hV, by first | (rw [show shapeF f gg = _ from if_pos (shp_iff2.1 hc11)]; exact hol) | (rw [show shapeF f gg = [] from if_neg (fun q9 => hc11 (shp_iff2.2 q9)), List.append_nil]; exact hol), hanA⟩
 refine r_skip ?_
 refine Zs ?_
 refine Zo (run_mv (v := v) rfl η) ?_
 refine Zn (run_asg (v := v) rfl η) ?_
 refine r_ret (res1 (v := v) rfl η) ?_
 exact ⟨_, rfl, hV, by first | (rw [show shapeF f gg = _ from if_pos (shp_iff2.1 hc11)]; exact hol) | (rw [show shapeF f gg = [] from if_neg (fun q9 => hc11 (shp_iff2.2 q9)), List.append_nil]; exact hol), hanA⟩
set_option maxHeartbeats 1000000 in
theorem oplain_calls {v : Value} {base : Nat} {l : List Vc.Item} {l0 l1 l2 l3 l4 l5 l6 l7 l8 l9 l10 l11 l12 sh lo : Int} {aot : Option Addr} {bt ot capt : Nat} {ts : List TermL} {aoc : Option Addr} {bc oc capc : Nat} {cl : List Clas} {s t : Str} {w0 : World} (hol : OwnE w0 base 39 v l) (hbs : base ≤ w0.heap.size) (hts : RowRK w0 v.ownBlock.toList aot bt ot capt ts) (hcl : RowRK w0 v.ownBlock.toList aoc bc oc capc cl) (hn : (0 ≤ sh ∧ sh ≤ 100) ∧ (lo = 0 ∨ (100 ≤ lo ∧ lo ≤ 10000))) (hsl : l.length ≤ 100000000) (hs : s.length ≤ 101000) (ht : t.length ≤ 101000) :
    Calls Tryz.prog 65 #[v, .agg #[.int .i64 l0, .int .i64 l1, .int .i64 l2, .int .i64 l3, .int .i64 l4, .int .i64 l5, .int .i64 l6, .int .i64 l7, .int .i64 l8, .int .i64 l9, .int .i64 l10, .int .i64 l11, .int .i64 l12, .int .i64 sh, .int .i64 lo, .slice aot ts.length capt, .slice aoc cl.length capc], S s, S t] w0 fun e w' => ∃ v', e = .returned v' ∧ Evo w0 w' v.ownBlock.toList ∧ (OwnE w' base 39 v' (l ++ plainF (⟨[l0, l1, l2, l3, l4, l5, l6, l7, l8, l9, l10, l11, l12], sh, lo, ts, cl⟩ : Chk) s t)) ∧ (∀ g, v'.ownBlock = some g → w0.heap.size ≤ g ∨ g ∈ v.ownBlock.toList) := by
 have hanA : (∀ g, v.ownBlock = some g → w0.heap.size ≤ g ∨ g ∈ v.ownBlock.toList) := fun g hg => .inr (Option.mem_toList.2 hg); have hob0 := fun g hg => (hol.block (g := g) hg).2
 refine calls_enter (n := 106) Tryz.func65 rfl Tryz.ntmps65 rfl ?_
 have hV : Evo w0 w0 v.ownBlock.toList := Evo.refl _ _
 have hts0 := hts
 replace hts := hts0.now hV
 have hbd_hts := hts.bd
 have hcl0 := hcl
 replace hcl := hcl0.now hV
 have hbd_hcl := hcl.bd
 refine Zs ?_
 have hob1 := fun g hg => (hol.block (g := g) hg).2
 refine r_box (vs := [_, _, _, _, _, _, _, _, _, _, _, _, _, _, _, _, _]) η η rfl ?_
 intro b2 w3 J2 E3 B2 Y2
 have Q3 := E3.size
 replace hV := Z0 hV E3
 replace hol := hol.evo0 E3
 have hAb2 := B2.at
 refine Zn asS ?_
 refine r_seq ?_
 have hdb : ∀ g, v.ownBlock = some g → g ≠ b2 := fun g hg => by have h7 := hob0 g hg; omega
 have : (edgeA s t).length ≤ 1 := if1_len
 have : (edgeB s t).length ≤ 1 := if1_len
 have : (dblF t).length ≤ 1 := if1_len
 have : (signF s t).length ≤ 1 := if1_len
 have : (longF (⟨[l0, l1, l2, l3, l4, l5, l6, l7, l8, l9, l10, l11, l12], sh, lo, ts, cl⟩ : Chk) s t).length ≤ 1 := if1_len
 have : (shortF (⟨[l0, l1, l2, l3, l4, l5, l6, l7, l8, l9, l10, l11, l12], sh, lo, ts, cl⟩ : Chk) s t).length ≤ 1 := if1_len
 have hmA := hlo_bd hn.2 (show s.length ≤ 101000 by omega); have hmB := mul_bd hn.1.1 (show sh ≤ 10000 by omega) (show (0 : Int) ≤ (s.length : Nat) by omega) (show ((s.length : Nat) : Int) ≤ 101000 by omega)
 refine r_region ?_
 refine Zo mvT ?_
 refine Zr [S _] rfl η Tryz.func109 (edges_calls ω) ?_
 rintro e w4 ⟨rfl, F4⟩
 refine ⟨_, rfl, ?_⟩
 have Q4 := F4.size
 replace hV := Z0 hV F4
 replace hol := hol.evo0 F4
 replace B2 := B2.evo0 F4
 replace hAb2 := hAb2.evo0 F4
 refine Zo mvU ?_
 refine Zo (run_extract (v := S _) rfl η η) ?_
 refine Zo (run_extract (v := S _) rfl η η) ?_
 refine Zo asT ?_
 refine Zn asT ?_
 refine Zs ?_
 refine Zo mvT ?_
 refine Zr [S _] rfl η Tryz.func109 (edges_calls ω) ?_
 rintro e w5 ⟨rfl, F5⟩
 refine ⟨_, rfl, ?_⟩
 have Q5 := F5.size
 replace hV := Z0 hV F5
 replace hol := hol.evo0 F5
 replace hts := hts0.now hV
 replace hcl := hcl0.now hV
 replace B2 := B2.evo0 F5
 replace hAb2 := hAb2.evo0 F5
 refine Zo mvU ?_
 refine Zo (run_extract (v := S _) rfl η η) ?_
 refine Zo (run_extract (v := S _) rfl η η) ?_
 refine Zo asT ?_
 refine Zn asT ?_
 refine r_seq ?_
 refine Zs ?_
 refine Zo mvT ?_
 refine Zo mvT ?_
 refine Zn (run_sneq rfl η η) ?_
 refine r_cut [0, 28, 29, 30, 31] (fun g w => ∃ vo : Value, g 0 = vo ∧ OwnE w base 39 vo (l ++ (edgeA s t)) ∧ (∀ g, vo.ownBlock = some g → w0.heap.size ≤ g ∨ g ∈ v.ownBlock.toList) ∧ (∀ g, vo.ownBlock = some g → g ≠ b2) ∧ Blk w b2 28 [.int .i64 l0, .int .i64 l1, .int .i64 l2, .int .i64 l3, .int .i64 l4, .int .i64 l5, .int .i64 l6, .int .i64 l7, .int .i64 l8, .int .i64 l9, .int .i64 l10, .int .i64 l11, .int .i64 l12, .int .i64 sh, .int .i64 lo, .slice aot ts.length capt, .slice aoc cl.length capc] ∧ At w b2 0 [.int .i64 l0, .int .i64 l1, .int .i64 l2, .int .i64 l3, .int .i64 l4, .int .i64 l5, .int .i64 l6, .int .i64 l7, .int .i64 l8, .int .i64 l9, .int .i64 l10, .int .i64 l11, .int .i64 l12, .int .i64 sh, .int .i64 lo, .slice aot ts.length capt, .slice aoc cl.length capc] ∧ w5.heap.size ≤ w.heap.size ∧ Evo w0 w v.ownBlock.toList) ?_ ?_
 ·skip
  refine r_cond η (fun hc7 => ?_) (fun hc7 => ?_)
  ·skip
   refine r_region ?_
   refine Zo (run_mv (v := v) rfl η) ?_
   refine Zo (run_bld (pv := [(0, .int _ _), (1, S _)]) (zs := [_, _, _]) (cells := [_, _, _]) rfl ty_39 η pl_39 η η) ?_
   refine r_append1E (u := .agg _) (y := (⟨7, begW, 0⟩ : Vc.Item)) rfl rfl Tryz.underlying34 ty_39 η hol (fun _ => η) η (by first | exact rfl | (show _ = List.toArray [_, _, _]; first | (dsimp only; done) | exact rfl | (dsimp only; exact rfl))) ((by first | omega | (simp only [List.length_append]; omega))) ((by first | omega | (simp only [List.length_append]; omega))) ω ?_
   intro q_v8 v8 w9 E9 hov8 hlv8
   have Q9 := E9.size
   replace hV := evo_stepo hV E9 (fun g hg => hanA g hg)
   replace hts := hts0.now hV
   replace hcl := hcl0.now hV
   replace B2 := B2.evo E9 (by intro hm; have hm2 := Option.mem_toList.1 hm; exact hdb _ hm2 rfl)
   replace hAb2 := hAb2.evo E9 (by intro hm; have hm2 := Option.mem_toList.1 hm; exact hdb _ hm2 rfl)
   replace hdb := own_ne hlv8 hdb ω
   replace hanA := own_anch hlv8 hanA ω
   have hol := hov8
   refine Zn (run_asg (v := v8) rfl η) ?_
   refine r_cut_end ?_ ?_
   ·refine ⟨_, rfl, (by first | (rw [show (edgeA s t) = _ from if_pos hc7]; exact hol) | (rw [show (edgeA s t) = [] from if_neg hc7, List.append_nil]; exact hol)), hanA, hdb, B2, B2.at, δ, hV⟩
   exact ψ
  refine r_skip ?_
  refine r_cut_end ?_ ?_
  ·refine ⟨_, rfl, (by first | (rw [show (edgeA s t) = _ from if_pos hc7]; exact hol) | (rw [show (edgeA s t) = [] from if_neg hc7, List.append_nil]; exact hol)), hanA, hdb, B2, B2.at, δ, hV⟩
  exact ψ
 rintro g w10 ⟨vo, hj11, hol, hanA, hdb, B2, hAb2, hzl6, hV⟩
 have hs_w10hV := hV.size
 have hlt12 := B2.lt
 replace hts := hts0.now hV
 replace hcl := hcl0.now hV
 refine Zk 0 (v := vo) (by exact hj11) ?_
 refine r_seq ?_
 refine Zs ?_
 refine Zo mvT ?_
 refine Zo mvT ?_
 refine Zn (run_sneq rfl η η) ?_
 refine r_cut [0, 35, 36, 37, 38] (fun g w => ∃ vo : Value, g 0 = vo ∧ OwnE w base 39 vo ((l ++ (edgeA s t)) ++ (edgeB s t)) ∧ (∀ g, vo.ownBlock = some g → w0.heap.size ≤ g ∨ g ∈ v.ownBlock.toList) ∧ (∀ g, vo.ownBlock = some g → g ≠ b2) ∧ Blk w b2 28 [.int .i64 l0, .int .i64 l1, .int .i64 l2, .int .i64 l3, .int .i64 l4, .int .i64 l5, .int .i64 l6, .int .i64 l7, .int .i64 l8, .int .i64 l9, .int .i64 l10, .int .i64 l11, .int .i64 l12, .int .i64 sh, .int .i64 lo, .slice aot ts.length capt, .slice aoc cl.length capc] ∧ At w b2 0 [.int .i64 l0, .int .i64 l1, .int .i64 l2, .int .i64 l3, .int .i64 l4, .int .i64 l5, .int .i64 l6, .int .i64 l7, .int .i64 l8, .int .i64 l9, .int .i64 l10, .int .i64 l11, .int .i64 l12, .int .i64 sh, .int .i64 lo, .slice aot ts.length capt, .slice aoc cl.length capc] ∧ w10.heap.size ≤ w.heap.size ∧ Evo w0 w v.ownBlock.toList) ?_ ?_
 ·skip
  refine r_cond η (fun hc14 => ?_) (fun hc14 => ?_)
  ·skip
   refine r_region ?_
   refine Zo (run_mv (v := vo) rfl η) ?_
   refine Zo (run_bld (pv := [(0, .int _ _), (1, S _)]) (zs := [_, _, _]) (cells := [_, _, _]) rfl ty_39 η pl_39 η η) ?_
   refine r_append1E (u := .agg _) (y := (⟨7, endW, 0⟩ : Vc.Item)) rfl rfl Tryz.underlying34 ty_39 η hol (fun _ => η) η (by first | exact rfl | (show _ = List.toArray [_, _, _]; first | (dsimp only; done) | exact rfl | (dsimp only; exact rfl))) ((by first | omega | (simp only [List.length_append]; omega))) ((by first | omega | (simp only [List.length_append]; omega))) ω ?_
   intro q_v15 v15 w16 E16 hov15 hlv15
   have Q16 := E16.size
   replace hV := evo_stepo hV E16 (fun g hg => hanA g hg)
   replace hts := hts0.now hV
   replace hcl := hcl0.now hV
   replace B2 := B2.evo E16 (by intro hm; have hm2 := Option.mem_toList.1 hm; exact hdb _ hm2 rfl)
   replace hAb2 := hAb2.evo E16 (by intro hm; have hm2 := Option.mem_toList.1 hm; exact hdb _ hm2 rfl)
   replace hdb := own_ne hlv15 hdb ω
   replace hanA := own_anch hlv15 hanA ω
   have hol := hov15
   refine Zn (run_asg (v := v15) rfl η) ?_
   refine r_cut_end ?_ ?_
   ·refine ⟨_, rfl, (by first | (rw [show (edgeB s t) = _ from if_pos hc14]; exact hol) | (rw [show (edgeB s t) = [] from if_neg hc14, List.append_nil]; exact hol)), hanA, hdb, B2, B2.at, δ, hV⟩
   exact ψ
  refine r_skip ?_
  refine r_cut_end ?_ ?_
  ·refine ⟨_, rfl, (by first | (rw [show (edgeB s t) = _ from if_pos hc14]; exact hol) | (rw [show (edgeB s t) = [] from if_neg hc14, List.append_nil]; exact hol)), hanA, hdb, B2, B2.at, δ, hV⟩
  exact ψ
 rintro g w17 ⟨vo, hj18, hol, hanA, hdb, B2, hAb2, hzl13, hV⟩
 have hs_w17hV := hV.size
 have hlt19 := B2.lt
 replace hts := hts0.now hV
 replace hcl := hcl0.now hV
 refine Zk 0 (v := vo) (by exact hj18) ?_
 refine Zs ?_
 refine Zn asI ?_
 refine r_seq ?_
 refine Zs ?_
 refine Zo mvT ?_
 refine Zo (run_lenS rfl η Tryz.underlying9) ?_
 refine Zn mvI ?_
 refine r_block ?_
 refine r_loop (α := Nat) [13, 14, 41, 42, 43, 44, 45, 46, 47, 48, 49, 50] (fun k g w => g 41 = .int .i64 (k : Nat) ∧ g 13 = .int .i64 (dblK t k : Nat) ∧ k ≤ t.length ∧ Blk w b2 28 [.int .i64 l0, .int .i64 l1, .int .i64 l2, .int .i64 l3, .int .i64 l4, .int .i64 l5, .int .i64 l6, .int .i64 l7, .int .i64 l8, .int .i64 l9, .int .i64 l10, .int .i64 l11, .int .i64 l12, .int .i64 sh, .int .i64 lo, .slice aot ts.length capt, .slice aoc cl.length capc] ∧ At w b2 0 [.int .i64 l0, .int .i64 l1, .int .i64 l2, .int .i64 l3, .int .i64 l4, .int .i64 l5, .int .i64 l6, .int .i64 l7, .int .i64 l8, .int .i64 l9, .int .i64 l10, .int .i64 l11, .int .i64 l12, .int .i64 sh, .int .i64 lo, .slice aot ts.length capt, .slice aoc cl.length capc] ∧ OwnE w base 39 vo ((l ++ (edgeA s t)) ++ (edgeB s t)) ∧ w17.heap.size ≤ w.heap.size ∧ Evo w0 w v.ownBlock.toList) (fun k => t.length - k) 0 ?_ ?_
 ·refine ⟨σ, rfl, δ, B2, B2.at, hol, δ, hV⟩
 rintro k g w21 ⟨hj22, hj23, hk_k, B2, hAb2, hol, hzl20, hV⟩
 have hs_w21hV := hV.size
 have hlt24 := B2.lt
 replace hts := hts0.now hV
 replace hcl := hcl0.now hV
 refine Zk 41 (v := .int .i64 (k : Nat)) (by exact hj22) ?_
 refine Zk 13 (v := .int .i64 (dblK t k : Nat)) (by exact hj23) ?_
 have hkl := dblK_le t k
 refine Zs ?_
 refine Zn (run_lss rfl η η) ?_
 refine r_seq ?_
 refine r_cond η (fun hc25 => ?_) (fun hc25 => ?_)
 ·skip
  refine r_skip ?_
  refine r_seq ?_
  refine r_block ?_
  refine Zs ?_
  refine Zo mvI ?_
  refine Zn asI ?_
  refine Zs ?_
  refine Zo mvT ?_
  refine Zo mvI ?_
  refine Zo (by exact run_slS (k) (_) rfl Tryz.underlying9 η (at1 η ω) hi0 (by first | omega | (simp; omega)) (by first | omega | (simp; omega))) ?_
  refine Zr [S _, S _] rfl η Tryz.func110 (s_hp_calls θ (by decide)) ?_
  rintro e w26 ⟨rfl, F26⟩
  refine ⟨_, rfl, ?_⟩
  have Q26 := F26.size
  replace hV := Z0 hV F26
  replace hts := hts0.now hV
  replace hcl := hcl0.now hV
  replace B2 := B2.evo0 F26
  replace hAb2 := hAb2.evo0 F26
  replace hol := hol.evo0 F26
  refine r_nil ?_
  refine r_condb η (fun hc27 => ?_) (fun hc27 => ?_)
  ·skip
   refine r_region ?_
   refine Zo mvI ?_
   refine Zo (run_add rfl η η ω ω) ?_
   refine Zn asI ?_
   refine r_blk ?_
   refine r_region ?_
   refine Zo (run_add rfl η η ω ω) ?_
   refine Zn mvI ?_
   refine r_again (k + 1) ?_ ?_ ?_
   ·first | omega | (dsimp only; omega)
   ·refine ⟨σ, (by first | exact congrArg (Value.int _) (by rw [dblP_yes ω (by have h9 := hc27; rw [cut_hi] at h9; simpa using h9)]; omega) | exact congrArg (Value.int _) (by rw [dblP_no ω (by have h9 := hc27; rw [cut_hi] at h9; simpa using h9)])), δ, B2, B2.at, hol, δ, hV⟩
   exact ψ
  refine r_skip ?_
  refine r_blk ?_
  refine r_region ?_
  refine Zo (run_add rfl η η ω ω) ?_
  refine Zn mvI ?_
  refine r_again (k + 1) ?_ ?_ ?_
  ·first | omega | (dsimp only; omega)
  ·refine ⟨σ, (by first | exact congrArg (Value.int _) (by rw [dblP_yes ω (by have h9 := hc27; rw [cut_hi] at h9; simpa using h9)]; omega) | exact congrArg (Value.int _) (by rw [dblP_no ω (by have h9 := hc27; rw [cut_hi] at h9; simpa using h9)])), δ, B2, B2.at, hol, δ, hV⟩
  exact ψ
 refine r_exit rfl ?_
 refine r_seq ?_
 refine r_seq ?_
 have hde : dblK t k = dblN t := by rw [show k = t.length by omega]; rfl
 refine Zk 13 (v := .int .i64 (dblN t : Nat)) (by rw [← hde]; exact rfl) ?_
 refine r_region ?_
 refine Zo mvI ?_
 refine Zn (run_gtr rfl η η) ?_
 refine r_cut [0, 53, 54, 55, 56, 57] (fun g w => ∃ vo : Value, g 0 = vo ∧ OwnE w base 39 vo (((l ++ (edgeA s t)) ++ (edgeB s t)) ++ (dblF t)) ∧ (∀ g, vo.ownBlock = some g → w0.heap.size ≤ g ∨ g ∈ v.ownBlock.toList) ∧ (∀ g, vo.ownBlock = some g → g ≠ b2) ∧ Blk w b2 28 [.int .i64 l0, .int .i64 l1, .int .i64 l2, .int .i64 l3, .int .i64 l4, .int .i64 l5, .int .i64 l6, .int .i64 l7, .int .i64 l8, .int .i64 l9, .int .i64 l10, .int .i64 l11, .int .i64 l12, .int .i64 sh, .int .i64 lo, .slice aot ts.length capt, .slice aoc cl.length capc] ∧ At w b2 0 [.int .i64 l0, .int .i64 l1, .int .i64 l2, .int .i64 l3, .int .i64 l4, .int .i64 l5, .int .i64 l6, .int .i64 l7, .int .i64 l8, .int .i64 l9, .int .i64 l10, .int .i64 l11, .int .i64 l12, .int .i64 sh, .int .i64 lo, .slice aot ts.length capt, .slice aoc cl.length capc] ∧ w21.heap.size ≤ w.heap.size ∧ Evo w0 w v.ownBlock.toList) ?_ ?_
 ·skip
  refine r_cond η (fun hc29 => ?_) (fun hc29 => ?_)
  ·skip
   refine r_region ?_
   refine Zo (run_mv (v := vo) rfl η) ?_
   refine Zo mvI ?_
   refine Zo (run_bld (pv := [(0, .int _ _), (2, .int _ _)]) (zs := [_, _, _]) (cells := [_, _, _]) rfl ty_39 η pl_39 η η) ?_
   refine r_append1E (u := .agg _) (y := (⟨8, [], (dblN t : Nat)⟩ : Vc.Item)) rfl rfl Tryz.underlying34 ty_39 η hol (fun _ => η) η (by first | exact rfl | (show _ = List.toArray [_, _, _]; first | (dsimp only; done) | exact rfl | (dsimp only; exact rfl))) ((by first | omega | (simp only [List.length_append]; omega))) ((by first | omega | (simp only [List.length_append]; omega))) ω ?_
   intro q_v30 v30 w31 E31 hov30 hlv30
   have Q31 := E31.size
   replace hV := evo_stepo hV E31 (fun g hg => hanA g hg)
   replace hts := hts0.now hV
   replace hcl := hcl0.now hV
   replace B2 := B2.evo E31 (by intro hm; have hm2 := Option.mem_toList.1 hm; exact hdb _ hm2 rfl)
   replace hAb2 := hAb2.evo E31 (by intro hm; have hm2 := Option.mem_toList.1 hm; exact hdb _ hm2 rfl)
   replace hdb := own_ne hlv30 hdb ω
   replace hanA := own_anch hlv30 hanA ω
   have hol := hov30
   refine Zn (run_asg (v := v30) rfl η) ?_
   refine r_cut_end ?_ ?_
   ·refine ⟨_, rfl, (by first | (rw [show (dblF t) = _ from if_pos (by have h9 := hc29; omega)]; exact hol) | (rw [show (dblF t) = [] from if_neg (by have h9 := hc29; omega), List.append_nil]; exact hol)), hanA, hdb, B2, B2.at, δ, hV⟩
   exact ψ
  refine r_skip ?_
  refine r_cut_end ?_ ?_
  ·refine ⟨_, rfl, (by first | (rw [show (dblF t) = _ from if_pos (by have h9 := hc29; omega)]; exact hol) | (rw [show (dblF t) = [] from if_neg (by have h9 := hc29; omega), List.append_nil]; exact hol)), hanA, hdb, B2, B2.at, δ, hV⟩
  exact ψ
 rintro g w32 ⟨vo, hj33, hol, hanA, hdb, B2, hAb2, hzl28, hV⟩
 have hs_w32hV := hV.size
 have hlt34 := B2.lt
 refine Zk 0 (v := vo) (by exact hj33) ?_
 refine r_seq ?_
 refine Zs ?_
 refine Zo mvT ?_
 refine Zr [S _] rfl η Tryz.func111 (last_calls ω) ?_
 rintro e w35 ⟨rfl, F35⟩
 refine ⟨_, rfl, ?_⟩
 have Q35 := F35.size
 replace hV := Z0 hV F35
 replace hol := hol.evo0 F35
 replace B2 := B2.evo0 F35
 replace hAb2 := hAb2.evo0 F35
 refine Zo mvT ?_
 refine Zr [S _] rfl η Tryz.func111 (last_calls ω) ?_
 rintro e w36 ⟨rfl, F36⟩
 refine ⟨_, rfl, ?_⟩
 have Q36 := F36.size
 replace hV := Z0 hV F36
 replace hts := hts0.now hV
 replace hcl := hcl0.now hV
 replace hol := hol.evo0 F36
 replace B2 := B2.evo0 F36
 replace hAb2 := hAb2.evo0 F36
 refine Zn (run_sneq rfl η η) ?_
 refine r_cut [0, 63, 64, 65, 66, 67, 68] (fun g w => ∃ vo : Value, g 0 = vo ∧ OwnE w base 39 vo ((((l ++ (edgeA s t)) ++ (edgeB s t)) ++ (dblF t)) ++ (signF s t)) ∧ (∀ g, vo.ownBlock = some g → w0.heap.size ≤ g ∨ g ∈ v.ownBlock.toList) ∧ (∀ g, vo.ownBlock = some g → g ≠ b2) ∧ Blk w b2 28 [.int .i64 l0, .int .i64 l1, .int .i64 l2, .int .i64 l3, .int .i64 l4, .int .i64 l5, .int .i64 l6, .int .i64 l7, .int .i64 l8, .int .i64 l9, .int .i64 l10, .int .i64 l11, .int .i64 l12, .int .i64 sh, .int .i64 lo, .slice aot ts.length capt, .slice aoc cl.length capc] ∧ At w b2 0 [.int .i64 l0, .int .i64 l1, .int .i64 l2, .int .i64 l3, .int .i64 l4, .int .i64 l5, .int .i64 l6, .int .i64 l7, .int .i64 l8, .int .i64 l9, .int .i64 l10, .int .i64 l11, .int .i64 l12, .int .i64 sh, .int .i64 lo, .slice aot ts.length capt, .slice aoc cl.length capc] ∧ w36.heap.size ≤ w.heap.size ∧ Evo w0 w v.ownBlock.toList) ?_ ?_
 ·skip
  refine r_cond η (fun hc38 => ?_) (fun hc38 => ?_)
  ·skip
   refine r_region ?_
   refine Zo (run_mv (v := vo) rfl η) ?_
   refine Zo mvT ?_
   refine Zr [S _] rfl η Tryz.func111 (last_calls ω) ?_
   rintro e w39 ⟨rfl, F39⟩
   refine ⟨_, rfl, ?_⟩
   have Q39 := F39.size
   replace hV := Z0 hV F39
   replace hol := hol.evo0 F39
   replace B2 := B2.evo0 F39
   replace hAb2 := hAb2.evo0 F39
   refine Zo (run_bld (pv := [(0, .int _ _), (1, S _)]) (zs := [_, _, _]) (cells := [_, _, _]) rfl ty_39 η pl_39 η η) ?_
   refine r_append1E (u := .agg _) (y := (⟨9, signL t, 0⟩ : Vc.Item)) rfl rfl Tryz.underlying34 ty_39 η hol (fun _ => η) η (by first | exact rfl | (show _ = List.toArray [_, _, _]; first | (dsimp only; done) | exact rfl | (dsimp only; exact rfl))) ((by first | omega | (simp only [List.length_append]; omega))) ((by first | omega | (simp only [List.length_append]; omega))) ω ?_
   intro q_v40 v40 w41 E41 hov40 hlv40
   have Q41 := E41.size
   replace hV := evo_stepo hV E41 (fun g hg => hanA g hg)
   replace hts := hts0.now hV
   replace hcl := hcl0.now hV
   replace B2 := B2.evo E41 (by intro hm; have hm2 := Option.mem_toList.1 hm; exact hdb _ hm2 rfl)
   replace hAb2 := hAb2.evo E41 (by intro hm; have hm2 := Option.mem_toList.1 hm; exact hdb _ hm2 rfl)
   replace hdb := own_ne hlv40 hdb ω
   replace hanA := own_anch hlv40 hanA ω
   have hol := hov40
   refine Zn (run_asg (v := v40) rfl η) ?_
   refine r_cut_end ?_ ?_
   ·refine ⟨_, rfl, (by first | (rw [show (signF s t) = _ from if_pos hc38]; exact hol) | (rw [show (signF s t) = [] from if_neg hc38, List.append_nil]; exact hol)), hanA, hdb, B2, B2.at, δ, hV⟩
   exact ψ
  refine r_skip ?_
  refine r_cut_end ?_ ?_
  ·refine ⟨_, rfl, (by first | (rw [show (signF s t) = _ from if_pos hc38]; exact hol) | (rw [show (signF s t) = [] from if_neg hc38, List.append_nil]; exact hol)), hanA, hdb, B2, B2.at, δ, hV⟩
  exact ψ
 rintro g w42 ⟨vo, hj43, hol, hanA, hdb, B2, hAb2, hzl37, hV⟩
 have hs_w42hV := hV.size
 have hlt44 := B2.lt
 replace hts := hts0.now hV
 replace hcl := hcl0.now hV
 refine Zk 0 (v := vo) (by exact hj43) ?_
 refine r_seq ?_
 refine Zs ?_
 refine Zo (run_fa rfl η fo_28_2) ?_
 refine Zo (run_ld1 rfl ag_3 η (hAb2.cell 14 η)) ?_
 refine Zo (run_neq rfl η η) ?_
 refine Zo mvB ?_
 refine r_g rfl (wantT η) rfl (fun hg => mvT) ?_
 refine r_g rfl (wantT η) rfl (fun hg => run_lenS rfl (glv η (fun h => h) hg) Tryz.underlying9) ?_
 refine r_g rfl (wantT η) rfl (fun hg => run_mul rfl η (glv η (fun h => h) hg) ω ω) ?_
 refine r_g rfl (wantT η) rfl (fun hg => run_fa rfl η fo_28_2) ?_
 refine r_g rfl (wantT η) rfl (fun hg => run_ld1 rfl ag_3 (glv η (fun h => h) hg) (hAb2.cell 14 η)) ?_
 refine r_g rfl (wantT η) rfl (fun hg => mvT) ?_
 refine r_g rfl (wantT η) rfl (fun hg => run_lenS rfl (glv η (fun h => h) hg) Tryz.underlying9) ?_
 refine r_g rfl (wantT η) rfl (fun hg => run_mul rfl (glv η (fun h => h) hg) (glv η (fun h => h) hg) ω ω) ?_
 refine r_g rfl (wantT η) rfl (fun hg => run_gtr rfl (glv η (fun h => h) hg) (glv η (fun h => h) hg)) ?_
 refine Zn (run_pick_and rfl η (fun hq => glv η (fun h => h) hq) rfl) ?_
 refine r_cut [0, 83, 84, 85, 86] (fun g w => ∃ vo : Value, g 0 = vo ∧ OwnE w base 39 vo (((((l ++ (edgeA s t)) ++ (edgeB s t)) ++ (dblF t)) ++ (signF s t)) ++ (longF (⟨[l0, l1, l2, l3, l4, l5, l6, l7, l8, l9, l10, l11, l12], sh, lo, ts, cl⟩ : Chk) s t)) ∧ (∀ g, vo.ownBlock = some g → w0.heap.size ≤ g ∨ g ∈ v.ownBlock.toList) ∧ (∀ g, vo.ownBlock = some g → g ≠ b2) ∧ Blk w b2 28 [.int .i64 l0, .int .i64 l1, .int .i64 l2, .int .i64 l3, .int .i64 l4, .int .i64 l5, .int .i64 l6, .int .i64 l7, .int .i64 l8, .int .i64 l9, .int .i64 l10, .int .i64 l11, .int .i64 l12, .int .i64 sh, .int .i64 lo, .slice aot ts.length capt, .slice aoc cl.length capc] ∧ At w b2 0 [.int .i64 l0, .int .i64 l1, .int .i64 l2, .int .i64 l3, .int .i64 l4, .int .i64 l5, .int .i64 l6, .int .i64 l7, .int .i64 l8, .int .i64 l9, .int .i64 l10, .int .i64 l11, .int .i64 l12, .int .i64 sh, .int .i64 lo, .slice aot ts.length capt, .slice aoc cl.length capc] ∧ w42.heap.size ≤ w.heap.size ∧ Evo w0 w v.ownBlock.toList) ?_ ?_
 ·skip
  refine r_cond η (fun hc46 => ?_) (fun hc46 => ?_)
  ·skip
   refine r_region ?_
   refine Zo (run_mv (v := vo) rfl η) ?_
   refine Zo (run_bld (pv := [(0, .int _ _), (1, S _)]) (zs := [_, _, _]) (cells := [_, _, _]) rfl ty_39 η pl_39 η η) ?_
   refine r_append1E (u := .agg _) (y := (⟨12, longW, 0⟩ : Vc.Item)) rfl rfl Tryz.underlying34 ty_39 η hol (fun _ => η) η (by first | exact rfl | (show _ = List.toArray [_, _, _]; first | (dsimp only; done) | exact rfl | (dsimp only; exact rfl))) ((by first | omega | (simp only [List.length_append]; omega))) ((by first | omega | (simp only [List.length_append]; omega))) ω ?_
   intro q_v47 v47 w48 E48 hov47 hlv47
   have Q48 := E48.size
   replace hV := evo_stepo hV E48 (fun g hg => hanA g hg)
   replace hts := hts0.now hV
   replace hcl := hcl0.now hV
   replace B2 := B2.evo E48 (by intro hm; have hm2 := Option.mem_toList.1 hm; exact hdb _ hm2 rfl)
   replace hAb2 := hAb2.evo E48 (by intro hm; have hm2 := Option.mem_toList.1 hm; exact hdb _ hm2 rfl)
   replace hdb := own_ne hlv47 hdb ω
   replace hanA := own_anch hlv47 hanA ω
   have hol := hov47
   refine Zn (run_asg (v := v47) rfl η) ?_
   refine r_cut_end ?_ ?_
   ·refine ⟨_, rfl, (by first | (rw [show (longF (⟨[l0, l1, l2, l3, l4, l5, l6, l7, l8, l9, l10, l11, l12], sh, lo, ts, cl⟩ : Chk) s t) = _ from if_pos hc46]; exact hol) | (rw [show (longF (⟨[l0, l1, l2, l3, l4, l5, l6, l7, l8, l9, l10, l11, l12], sh, lo, ts, cl⟩ : Chk) s t) = [] from if_neg hc46, List.append_nil]; exact hol)), hanA, hdb, B2, B2.at, δ, hV⟩
   exact ψ
  refine r_skip ?_
  refine r_cut_end ?_ ?_
  ·refine ⟨_, rfl, (by first | (rw [show (longF (⟨[l0, l1, l2, l3, l4, l5, l6, l7, l8, l9, l10, l11, l12], sh, lo, ts, cl⟩ : Chk) s t) = _ from if_pos hc46]; exact hol) | (rw [show (longF (⟨[l0, l1, l2, l3, l4, l5, l6, l7, l8, l9, l10, l11, l12], sh, lo, ts, cl⟩ : Chk) s t) = [] from if_neg hc46, List.append_nil]; exact hol)), hanA, hdb, B2, B2.at, δ, hV⟩
  exact ψ
 rintro g w49 ⟨vo, hj50, hol, hanA, hdb, B2, hAb2, hzl45, hV⟩
 have hs_w49hV := hV.size
 have hlt51 := B2.lt
 replace hts := hts0.now hV
 replace hcl := hcl0.now hV
 refine Zk 0 (v := vo) (by exact hj50) ?_
 refine r_seq ?_
 refine Zs ?_
 refine Zo (run_fa rfl η fo_28_1) ?_
 refine Zo (run_ld1 rfl ag_3 η (hAb2.cell 13 η)) ?_
 refine Zo (run_neq rfl η η) ?_
 refine Zo mvB ?_
 refine r_g rfl (wantT η) rfl (fun hg => mvT) ?_
 refine r_g rfl (wantT η) rfl (fun hg => run_lenS rfl (glv η (fun h => h) hg) Tryz.underlying9) ?_
 refine r_g rfl (wantT η) rfl (fun hg => run_mul rfl η (glv η (fun h => h) hg) ω ω) ?_
 refine r_g rfl (wantT η) rfl (fun hg => run_fa rfl η fo_28_1) ?_
 refine r_g rfl (wantT η) rfl (fun hg => run_ld1 rfl ag_3 (glv η (fun h => h) hg) (hAb2.cell 13 η)) ?_
 refine r_g rfl (wantT η) rfl (fun hg => mvT) ?_
 refine r_g rfl (wantT η) rfl (fun hg => run_lenS rfl (glv η (fun h => h) hg) Tryz.underlying9) ?_
 refine r_g rfl (wantT η) rfl (fun hg => run_mul rfl (glv η (fun h => h) hg) (glv η (fun h => h) hg) ω ω) ?_
 refine r_g rfl (wantT η) rfl (fun hg => run_lss rfl (glv η (fun h => h) hg) (glv η (fun h => h) hg)) ?_
 refine Zn (run_pick_and rfl η (fun hq => glv η (fun h => h) hq) rfl) ?_
 refine r_cut [0, 101, 102, 103, 104] (fun g w => ∃ vo : Value, g 0 = vo ∧ OwnE w base 39 vo ((((((l ++ (edgeA s t)) ++ (edgeB s t)) ++ (dblF t)) ++ (signF s t)) ++ (longF (⟨[l0, l1, l2, l3, l4, l5, l6, l7, l8, l9, l10, l11, l12], sh, lo, ts, cl⟩ : Chk) s t)) ++ (shortF (⟨[l0, l1, l2, l3, l4, l5, l6, l7, l8, l9, l10, l11, l12], sh, lo, ts, cl⟩ : Chk) s t)) ∧ (∀ g, vo.ownBlock = some g → w0.heap.size ≤ g ∨ g ∈ v.ownBlock.toList) ∧ (∀ g, vo.ownBlock = some g → g ≠ b2) ∧ Blk w b2 28 [.int .i64 l0, .int .i64 l1, .int .i64 l2, .int .i64 l3, .int .i64 l4, .int .i64 l5, .int .i64 l6, .int .i64 l7, .int .i64 l8, .int .i64 l9, .int .i64 l10, .int .i64 l11, .int .i64 l12, .int .i64 sh, .int .i64 lo, .slice aot ts.length capt, .slice aoc cl.length capc] ∧ At w b2 0 [.int .i64 l0, .int .i64 l1, .int .i64 l2, .int .i64 l3, .int .i64 l4, .int .i64 l5, .int .i64 l6, .int .i64 l7, .int .i64 l8, .int .i64 l9, .int .i64 l10, .int .i64 l11, .int .i64 l12, .int .i64 sh, .int .i64 lo, .slice aot ts.length capt, .slice aoc cl.length capc] ∧ w49.heap.size ≤ w.heap.size ∧ Evo w0 w v.ownBlock.toList) ?_ ?_
 ·skip
  refine r_cond η (fun hc53 => ?_) (fun hc53 => ?_)
  ·skip
   refine r_region ?_
   refine Zo (run_mv (v := vo) rfl η) ?_
   refine Zo (run_bld (pv := [(0, .int _ _), (1, S _)]) (zs := [_, _, _]) (cells := [_, _, _]) rfl ty_39 η pl_39 η η) ?_
   refine r_append1E (u := .agg _) (y := (⟨12, shortW, 0⟩ : Vc.Item)) rfl rfl Tryz.underlying34 ty_39 η hol (fun _ => η) η (by first | exact rfl | (show _ = List.toArray [_, _, _]; first | (dsimp only; done) | exact rfl | (dsimp only; exact rfl))) ((by first | omega | (simp only [List.length_append]; omega))) ((by first | omega | (simp only [List.length_append]; omega))) ω ?_
   intro q_v54 v54 w55 E55 hov54 hlv54
   have Q55 := E55.size
   replace hV := evo_stepo hV E55 (fun g hg => hanA g hg)
   replace hts := hts0.now hV
   replace hcl := hcl0.now hV
   replace B2 := B2.evo E55 (by intro hm; have hm2 := Option.mem_toList.1 hm; exact hdb _ hm2 rfl)
   replace hAb2 := hAb2.evo E55 (by intro hm; have hm2 := Option.mem_toList.1 hm; exact hdb _ hm2 rfl)
   replace hdb := own_ne hlv54 hdb ω
   replace hanA := own_anch hlv54 hanA ω
   have hol := hov54
   refine Zn (run_asg (v := v54) rfl η) ?_
   refine r_cut_end ?_ ?_
   ·refine ⟨_, rfl, (by first | (rw [show (shortF (⟨[l0, l1, l2, l3, l4, l5, l6, l7, l8, l9, l10, l11, l12], sh, lo, ts, cl⟩ : Chk) s t) = _ from if_pos hc53]; exact hol) | (rw [show (shortF (⟨[l0, l1, l2, l3, l4, l5, l6, l7, l8, l9, l10, l11, l12], sh, lo, ts, cl⟩ : Chk) s t) = [] from if_neg hc53, List.append_nil]; exact hol)), hanA, hdb, B2, B2.at, δ, hV⟩
   exact ψ
  refine r_skip ?_
  refine r_cut_end ?_ ?_
  ·refine ⟨_, rfl, (by first | (rw [show (shortF (⟨[l0, l1, l2, l3, l4, l5, l6, l7, l8, l9, l10, l11, l12], sh, lo, ts, cl⟩ : Chk) s t) = _ from if_pos hc53]; exact hol) | (rw [show (shortF (⟨[l0, l1, l2, l3, l4, l5, l6, l7, l8, l9, l10, l11, l12], sh, lo, ts, cl⟩ : Chk) s t) = [] from if_neg hc53, List.append_nil]; exact hol)), hanA, hdb, B2, B2.at, δ, hV⟩
  exact ψ
 rintro g w56 ⟨vo, hj57, hol, hanA, hdb, B2, hAb2, hzl52, hV⟩
 have hs_w56hV := hV.size
 have hlt58 := B2.lt
 refine Zk 0 (v := vo) (by exact hj57) ?_
 refine Zs ?_
 refine Zo (run_mv (v := vo) rfl η) ?_
 refine Zn (run_asg (v := vo) rfl η) ?_
 refine r_ret (res1 (v := vo) rfl η) ?_
 exact ⟨_, rfl, hV, by unfold plainF; have h9 := hol; simp only [List.append_assoc] at h9 ⊢; exact h9, hanA⟩
set_option maxHeartbeats 2000000 in
theorem terms_calls {v : Value} {base : Nat} {l : List Vc.Item} {l0 l1 l2 l3 l4 l5 l6 l7 l8 l9 l10 l11 l12 sh lo : Int} {aot : Option Addr} {bt ot capt : Nat} {ts : List TermL} {aoc : Option Addr} {bc oc capc : Nat} {cl : List Clas} {aop : Option Addr} {bp op capp : Nat} {lp : List Vc.Item} {aoq : Option Addr} {bq oq capq : Nat} {lq : List Vc.Item} {w0 : World} (hol : OwnE w0 base 39 v l) (hbs : base ≤ w0.heap.size) (hts : RowRK w0 v.ownBlock.toList aot bt ot capt ts) (hcl : RowRK w0 v.ownBlock.toList aoc bc oc capc cl) (hp : ∀ w9, Evo w0 w9 v.ownBlock.toList → RowE w9 aop bp op capp lp) (hq : ∀ w9, Evo w0 w9 v.ownBlock.toList → RowE w9 aoq bq oq capq lq) (hxp : ∀ x ∈ lp, x.text.length ≤ 140737488355328) (hxq : ∀ x ∈ lq, x.text.length ≤ 140737488355328) (hsp : lp.length ≤ 1000000) (hsq : lq.length ≤ 1000000) (hsl : l.length ≤ 100000000) (hz : ts.length ≤ 40) (hjb : ∀ x ∈ ts, JudT x) :
    Calls Tryz.prog 67 #[v, .agg #[.int .i64 l0, .int .i64 l1, .int .i64 l2, .int .i64 l3, .int .i64 l4, .int .i64 l5, .int .i64 l6, .int .i64 l7, .int .i64 l8, .int .i64 l9, .int .i64 l10, .int .i64 l11, .int .i64 l12, .int .i64 sh, .int .i64 lo, .slice aot ts.length capt, .slice aoc cl.length capc], .slice aop lp.length capp, .slice aoq lq.length capq] w0 fun e w' => ∃ v', e = .returned v' ∧ Evo w0 w' v.ownBlock.toList ∧ (OwnE w' base 39 v' (l ++ (missN lq ts (foundN ts.length (spotsF lp (fsT cl ts) 0))).map (reqF (⟨[l0, l1, l2, l3, l4, l5, l6, l7, l8, l9, l10, l11, l12], sh, lo, ts, cl⟩ : Chk)) ++ (wrongK lq ts [] (foundN ts.length (spotsF lp (fsT cl ts) 0))).map forF)) ∧ (∀ g, v'.ownBlock = some g → w0.heap.size ≤ g ∨ g ∈ v.ownBlock.toList) := by
 have hanA : (∀ g, v.ownBlock = some g → w0.heap.size ≤ g ∨ g ∈ v.ownBlock.toList) := fun g hg => .inr (Option.mem_toList.2 hg); have hob0 := fun g hg => (hol.block (g := g) hg).2
 refine calls_enter (n := 57) Tryz.func67 rfl Tryz.ntmps67 rfl ?_
 have hV : Evo w0 w0 v.ownBlock.toList := Evo.refl _ _
 have hts0 := hts
 replace hts := hts0.now hV
 have hbd_hts := hts.bd
 have hcl0 := hcl
 replace hcl := hcl0.now hV
 have hbd_hcl := hcl.bd
 have hp0 := hp
 replace hp := hp0 _ hV
 have hbd_hp := hp.bd
 have hq0 := hq
 replace hq := hq0 _ hV
 have hbd_hq := hq.bd
 refine Zs ?_
 have hob1 := fun g hg => (hol.block (g := g) hg).2
 refine r_box (vs := [_, _, _, _, _, _, _, _, _, _, _, _, _, _, _, _, _]) η η rfl ?_
 intro b2 w3 J2 E3 B2 Y2
 have Q3 := E3.size
 replace hV := Z0 hV E3
 replace hol := hol.evo0 E3
 replace hts := hts0.now hV
 replace hcl := hcl0.now hV
 replace hp := hp0 _ hV
 replace hq := hq0 _ hV
 have hAb2 := B2.at
 refine Zn asS ?_
 refine r_seq ?_
 refine r_seq ?_
 have hdb : ∀ g, v.ownBlock = some g → g ≠ b2 := fun g hg => by have h7 := hob0 g hg; omega
 have hobT := fun g hg => (hol.block (g := g) hg).2
 refine r_region ?_
 refine Zo (run_fa rfl η fo_28_3) ?_
 refine Zo (run_ld1 rfl ag_25 η (hAb2.cell 15 η)) ?_
 refine Zo (run_fa rfl η fo_28_4) ?_
 refine Zo (run_ld1 rfl ag_26 η (hAb2.cell 16 η)) ?_
 refine Zo mvS ?_
 refine Zo mvS ?_
 refine Zr [.slice aot ts.length capt, .slice aoc cl.length capc, .slice _ _ _, .slice _ _ _] rfl η Tryz.func112 (missing_calls hts hcl hp hxp ω ω hq hxq ω) ?_
 rintro e w4 ⟨vM4, rfl, F4, hoM4⟩
 refine ⟨_, rfl, ?_⟩
 have Q4 := F4.size
 replace hV := Z0 hV F4
 replace hol := hol.evo0 F4
 replace hts := hts0.now hV
 replace hcl := hcl0.now hV
 replace hp := hp0 _ hV
 replace hq := hq0 _ hV
 replace B2 := B2.evo0 F4
 replace hAb2 := hAb2.evo0 F4
 refine Zo (run_lenOE rfl η Tryz.underlying22 hoM4) ?_
 refine Zn mvI ?_
 refine r_block ?_
 have hml := missN_len lq ts (foundN ts.length (spotsF lp (fsT cl ts) 0)); have hfl := foundN_len ts.length (spotsF lp (fsT cl ts) 0); have hnl := natI_len (missN lq ts (foundN ts.length (spotsF lp (fsT cl ts) 0)))
 obtain ⟨ao5, g5, cp5, hv5, hr5, hg5⟩ := hoM4.rowOf
 subst hv5
 have hIa : Evo w4 w4 v.ownBlock.toList := Evo.refl _ _
 have hr50 := fun w9 (h9 : Evo w4 w9 v.ownBlock.toList) => row_keep hr5 h9 (fun hne hm => by have h2 := (hg5 hne).2; have h7 := hobT _ (Option.mem_toList.1 hm); omega)
 have hanI : ∀ g, v.ownBlock = some g → w4.heap.size ≤ g ∨ g ∈ v.ownBlock.toList := fun g hg => .inr (Option.mem_toList.2 hg)
 refine r_loop (α := Nat) [0, 10, 21, 22, 23, 24, 25, 26, 27, 28, 29, 30, 31, 32, 33, 34, 35, 36, 37] (fun k g w => ∃ vo : Value, g 21 = .int .i64 (k : Nat) ∧ g 0 = vo ∧ k ≤ (natI (missN lq ts (foundN ts.length (spotsF lp (fsT cl ts) 0)))).length ∧ OwnE w base 39 vo (l ++ ((missN lq ts (foundN ts.length (spotsF lp (fsT cl ts) 0))).take k).map (reqF (⟨[l0, l1, l2, l3, l4, l5, l6, l7, l8, l9, l10, l11, l12], sh, lo, ts, cl⟩ : Chk))) ∧ (∀ g, vo.ownBlock = some g → w0.heap.size ≤ g ∨ g ∈ v.ownBlock.toList) ∧ (∀ g, vo.ownBlock = some g → w4.heap.size ≤ g ∨ g ∈ v.ownBlock.toList) ∧ (∀ g, vo.ownBlock = some g → g ≠ b2) ∧ Blk w b2 28 [.int .i64 l0, .int .i64 l1, .int .i64 l2, .int .i64 l3, .int .i64 l4, .int .i64 l5, .int .i64 l6, .int .i64 l7, .int .i64 l8, .int .i64 l9, .int .i64 l10, .int .i64 l11, .int .i64 l12, .int .i64 sh, .int .i64 lo, .slice aot ts.length capt, .slice aoc cl.length capc] ∧ At w b2 0 [.int .i64 l0, .int .i64 l1, .int .i64 l2, .int .i64 l3, .int .i64 l4, .int .i64 l5, .int .i64 l6, .int .i64 l7, .int .i64 l8, .int .i64 l9, .int .i64 l10, .int .i64 l11, .int .i64 l12, .int .i64 sh, .int .i64 lo, .slice aot ts.length capt, .slice aoc cl.length capc] ∧ w4.heap.size ≤ w.heap.size ∧ Evo w0 w v.ownBlock.toList ∧ Evo w4 w v.ownBlock.toList) (fun k => (natI (missN lq ts (foundN ts.length (spotsF lp (fsT cl ts) 0)))).length - k) 0 ?_ ?_
 ·refine ⟨_, σ, rfl, δ, (by rw [List.take_zero, List.map_nil, List.append_nil]; exact hol), hanA, hanI, hdb, B2, B2.at, δ, hV, hIa⟩
 rintro k g w7 ⟨vo, hj8, hj9, hk_k, hol, hanA, hanI, hdb, B2, hAb2, hzl6, hV, hIa⟩
 have hs_w7hV := hV.size
 have hs_w7hIa := hIa.size
 have hlt10 := B2.lt
 replace hts := hts0.now hV
 replace hcl := hcl0.now hV
 replace hp := hp0 _ hV
 replace hq := hq0 _ hV
 replace hr5 := hr50 _ hIa
 refine Zk 21 (v := .int .i64 (k : Nat)) (by exact hj8) ?_
 refine Zk 0 (v := vo) (by exact hj9) ?_
 have hmt := List.length_take_le k (missN lq ts (foundN ts.length (spotsF lp (fsT cl ts) 0))); have hmm : (((missN lq ts (foundN ts.length (spotsF lp (fsT cl ts) 0))).take k).map (reqF (⟨[l0, l1, l2, l3, l4, l5, l6, l7, l8, l9, l10, l11, l12], sh, lo, ts, cl⟩ : Chk))).length = ((missN lq ts (foundN ts.length (spotsF lp (fsT cl ts) 0))).take k).length := List.length_map _
 refine Zs ?_
 refine Zn (run_lss rfl η η) ?_
 refine r_seq ?_
 refine r_cond η (fun hc11 => ?_) (fun hc11 => ?_)
 ·skip
  refine r_skip ?_
  refine r_seq ?_
  refine r_block ?_
  refine Zs ?_
  refine Zo (run_ix (k) rfl Tryz.underlying22 ty_3 η η (by first | exact rfl | omega) ω (hr5.addr (i := k) ω)) ?_
  have hA120 := fun (w' : World) (h : Evo w4 w' v.ownBlock.toList) => (hr50 w' h).atD (k) ω
  have hA12 := hA120 _ hIa
  refine Zo (run_ld1 rfl ag_3 η (hA12.cell 0 η)) ?_
  refine Zn asI ?_
  have hkk := natI_get (l := (missN lq ts (foundN ts.length (spotsF lp (fsT cl ts) 0)))) (k := k) ω
  obtain ⟨hkt, hkr⟩ := missN_in (tg := lq) (ts := ts) (n := ts.length) (sp := (spotsF lp (fsT cl ts) 0)) (k := k) ω
  refine r_region ?_
  refine Zo (run_mv (v := vo) rfl η) ?_
  refine Zo (run_fa rfl η fo_28_3) ?_
  refine Zo (run_ld1 rfl ag_25 η (hAb2.cell 15 η)) ?_
  refine Zo mvI ?_
  refine Zo (run_ix (((missN lq ts (foundN ts.length (spotsF lp (fsT cl ts) 0))).getD k default)) rfl Tryz.underlying25 ty_85 η η hkk hkt (hts.addr (i := ((missN lq ts (foundN ts.length (spotsF lp (fsT cl ts) 0))).getD k default)) hkt)) ?_
  obtain ⟨aoW13, bW13, offW13, capW13, aoQ13, bQ13, offQ13, capQ13, aoF13, bF13, offF13, capF13, hX⟩ := term_atK hts0 (((missN lq ts (foundN ts.length (spotsF lp (fsT cl ts) 0))).getD k default)) hkt
  have hA130 := fun (w' : World) (h : Evo w0 w' v.ownBlock.toList) => (hX w' h).1
  have hA13 := hA130 _ hV
  have hW130 := fun (w' : World) (h : Evo w0 w' v.ownBlock.toList) => (hX w' h).2.1
  have hW13 := hW130 _ hV
  have hQ130 := fun (w' : World) (h : Evo w0 w' v.ownBlock.toList) => (hX w' h).2.2.1
  have hQ13 := hQ130 _ hV
  have hF130 := fun (w' : World) (h : Evo w0 w' v.ownBlock.toList) => (hX w' h).2.2.2
  have hF13 := hF130 _ hV
  clear hX
  have hbd_hW13 := hW13.bd
  have hbd_hQ13 := hQ13.bd
  have hbd_hF13 := hF13.bd
  refine Zo (run_fa rfl η fo_85_1) ?_
  refine Zo (run_ld1 rfl ag_77 η (hA13.cell 1 η)) ?_
  refine Zo (run_ix (0) rfl Tryz.underlying77 ty_9 η η rfl ω (hQ13.addr (i := 0) ω)) ?_
  have hA140 := fun (w' : World) (h : Evo w0 w' v.ownBlock.toList) => (hQ130 w' h).atD (0) ω
  have hA14 := hA140 _ hV
  refine Zo (run_ld1 rfl ag_9 η (hA14.cell 0 η)) ?_
  refine Zo (run_bld (pv := [(0, .int _ _), (1, S _), (2, .int _ _)]) (zs := [_, _, _]) (cells := [_, _, _]) rfl ty_39 η pl_39 η η) ?_
  refine r_append1E (u := .agg _) (y := (reqF (⟨[l0, l1, l2, l3, l4, l5, l6, l7, l8, l9, l10, l11, l12], sh, lo, ts, cl⟩ : Chk) ((missN lq ts (foundN ts.length (spotsF lp (fsT cl ts) 0))).getD k default))) rfl rfl Tryz.underlying34 ty_39 η hol (fun _ => η) η (by first | exact rfl | (show _ = List.toArray [_, _, _]; first | (dsimp only; done) | exact rfl | (dsimp only; exact rfl))) ((by first | omega | (simp only [List.length_append]; omega))) ((by first | omega | (simp only [List.length_append]; omega))) ω ?_
  intro q_v15 v15 w16 E16 hov15 hlv15
  have Q16 := E16.size
  replace hV := evo_stepo hV E16 (fun g hg => hanA g hg)
  replace hIa := evo_stepo hIa E16 (fun g hg => hanI g hg)
  replace hts := hts0.now hV
  replace hcl := hcl0.now hV
  replace hp := hp0 _ hV
  replace hq := hq0 _ hV
  replace hr5 := hr50 _ hIa
  replace B2 := B2.evo E16 (by intro hm; have hm2 := Option.mem_toList.1 hm; exact hdb _ hm2 rfl)
  replace hAb2 := hAb2.evo E16 (by intro hm; have hm2 := Option.mem_toList.1 hm; exact hdb _ hm2 rfl)
  replace hanI := own_anch hlv15 hanI ω
  replace hdb := own_ne hlv15 hdb ω
  replace hanA := own_anch hlv15 hanA ω
  have hol := hov15
  refine Zn (run_asg (v := v15) rfl η) ?_
  refine r_blk ?_
  refine r_region ?_
  refine Zo (run_add rfl η η ω ω) ?_
  refine Zn mvI ?_
  refine r_again (k + 1) ?_ ?_ ?_
  ·first | omega | (dsimp only; omega)
  ·refine ⟨_, σ, rfl, δ, (by rw [map_step ω, ← List.append_assoc]; exact hol), hanA, hanI, hdb, B2, B2.at, δ, hV, hIa⟩
  exact ψ
 refine r_exit rfl ?_
 refine r_seq ?_
 refine r_seq ?_
 have e7 : ((missN lq ts (foundN ts.length (spotsF lp (fsT cl ts) 0))).take k).map (reqF (⟨[l0, l1, l2, l3, l4, l5, l6, l7, l8, l9, l10, l11, l12], sh, lo, ts, cl⟩ : Chk)) = (missN lq ts (foundN ts.length (spotsF lp (fsT cl ts) 0))).map (reqF (⟨[l0, l1, l2, l3, l4, l5, l6, l7, l8, l9, l10, l11, l12], sh, lo, ts, cl⟩ : Chk)) := by rw [List.take_of_length_le ω]
 rw [e7] at hol
 have hme : ((missN lq ts (foundN ts.length (spotsF lp (fsT cl ts) 0))).map (reqF (⟨[l0, l1, l2, l3, l4, l5, l6, l7, l8, l9, l10, l11, l12], sh, lo, ts, cl⟩ : Chk))).length = (missN lq ts (foundN ts.length (spotsF lp (fsT cl ts) 0))).length := List.length_map _
 have hobU := fun g hg => (hol.block (g := g) hg).2
 refine r_region ?_
 refine Zo (run_fa rfl η fo_28_3) ?_
 refine Zo (run_ld1 rfl ag_25 η (hAb2.cell 15 η)) ?_
 refine Zo (run_fa rfl η fo_28_4) ?_
 refine Zo (run_ld1 rfl ag_26 η (hAb2.cell 16 η)) ?_
 refine Zo mvS ?_
 refine Zo mvS ?_
 refine Zr [.slice aot ts.length capt, .slice aoc cl.length capc, .slice _ _ _, .slice _ _ _] rfl η Tryz.func113 (wrong_calls hts hcl hp hxp ω ω hq hxq ω hjb) ?_
 rintro e w17 ⟨vM17, rfl, F17, hoM17⟩
 refine ⟨_, rfl, ?_⟩
 have Q17 := F17.size
 replace hV := Z0 hV F17
 replace hts := hts0.now hV
 replace hcl := hcl0.now hV
 replace hp := hp0 _ hV
 replace hq := hq0 _ hV
 replace hr5 := hr50 _ hIa
 replace hol := hol.evo0 F17
 refine Zo (run_lenOE rfl η Tryz.underlying77 hoM17) ?_
 refine Zn mvI ?_
 refine r_block ?_
 have hwl := wrong_len (tg := lq) (ts := ts) (sp := (spotsF lp (fsT cl ts) 0)) (fun x hx => (hjb x hx).2.1) hz
 obtain ⟨ao18, g18, cp18, hv18, hr18, hg18⟩ := hoM17.rowOf
 subst hv18
 have hIb : Evo w17 w17 vo.ownBlock.toList := Evo.refl _ _
 have hr180 := fun w9 (h9 : Evo w17 w9 vo.ownBlock.toList) => row_keep hr18 h9 (fun hne hm => by have h2 := (hg18 hne).2; have h7 := hobU _ (Option.mem_toList.1 hm); omega)
 have hanJ : ∀ g, vo.ownBlock = some g → w17.heap.size ≤ g ∨ g ∈ vo.ownBlock.toList := fun g hg => .inr (Option.mem_toList.2 hg)
 refine r_loop (α := Nat) [0, 12, 46, 47, 48, 49, 50, 51, 52, 53, 54, 55] (fun k g w => ∃ vq : Value, g 46 = .int .i64 (k : Nat) ∧ g 0 = vq ∧ k ≤ (wrongK lq ts [] (foundN ts.length (spotsF lp (fsT cl ts) 0))).length ∧ OwnE w base 39 vq ((l ++ (missN lq ts (foundN ts.length (spotsF lp (fsT cl ts) 0))).map (reqF (⟨[l0, l1, l2, l3, l4, l5, l6, l7, l8, l9, l10, l11, l12], sh, lo, ts, cl⟩ : Chk))) ++ ((wrongK lq ts [] (foundN ts.length (spotsF lp (fsT cl ts) 0))).take k).map forF) ∧ (∀ g, vq.ownBlock = some g → w0.heap.size ≤ g ∨ g ∈ v.ownBlock.toList) ∧ (∀ g, vq.ownBlock = some g → w17.heap.size ≤ g ∨ g ∈ vo.ownBlock.toList) ∧ w17.heap.size ≤ w.heap.size ∧ Evo w0 w v.ownBlock.toList ∧ Evo w17 w vo.ownBlock.toList) (fun k => (wrongK lq ts [] (foundN ts.length (spotsF lp (fsT cl ts) 0))).length - k) 0 ?_ ?_
 ·refine ⟨_, σ, rfl, δ, (by rw [List.take_zero, List.map_nil, List.append_nil]; exact hol), hanA, hanJ, δ, hV, hIb⟩
 rintro k g w20 ⟨vq, hj21, hj22, hk_k, hol, hanA, hanJ, hzl19, hV, hIb⟩
 have hs_w20hV := hV.size
 have hs_w20hIb := hIb.size
 replace hr18 := hr180 _ hIb
 refine Zk 46 (v := .int .i64 (k : Nat)) (by exact hj21) ?_
 refine Zk 0 (v := vq) (by exact hj22) ?_
 have hmt := List.length_take_le k (wrongK lq ts [] (foundN ts.length (spotsF lp (fsT cl ts) 0))); have hmm : (((wrongK lq ts [] (foundN ts.length (spotsF lp (fsT cl ts) 0))).take k).map forF).length = ((wrongK lq ts [] (foundN ts.length (spotsF lp (fsT cl ts) 0))).take k).length := List.length_map _
 refine Zs ?_
 refine Zn (run_lss rfl η η) ?_
 refine r_seq ?_
 refine r_cond η (fun hc23 => ?_) (fun hc23 => ?_)
 ·skip
  refine r_skip ?_
  refine r_seq ?_
  refine r_block ?_
  refine Zs ?_
  refine Zo (run_ix (k) rfl Tryz.underlying77 ty_9 η η (by first | exact rfl | omega) ω (hr18.addr (i := k) ω)) ?_
  have hA240 := fun (w' : World) (h : Evo w17 w' vo.ownBlock.toList) => (hr180 w' h).atD (k) ω
  have hA24 := hA240 _ hIb
  refine Zo (run_ld1 rfl ag_9 η (hA24.cell 0 η)) ?_
  refine Zn asT ?_
  refine r_region ?_
  refine Zo (run_mv (v := vq) rfl η) ?_
  refine Zo mvT ?_
  refine Zo (run_bld (pv := [(0, .int _ _), (1, S _), (2, .int _ _)]) (zs := [_, _, _]) (cells := [_, _, _]) rfl ty_39 η pl_39 η η) ?_
  refine r_append1E (u := .agg _) (y := (forF ((wrongK lq ts [] (foundN ts.length (spotsF lp (fsT cl ts) 0))).getD k default))) rfl rfl Tryz.underlying34 ty_39 η hol (fun _ => η) η (by first | exact rfl | (show _ = List.toArray [_, _, _]; first | (dsimp only; done) | exact rfl | (dsimp only; exact rfl))) ((by first | omega | (simp only [List.length_append]; omega))) ((by first | omega | (simp only [List.length_append]; omega))) ω ?_
  intro q_v25 v25 w26 E26 hov25 hlv25
  have Q26 := E26.size
  replace hV := evo_stepo hV E26 (fun g hg => hanA g hg)
  replace hIb := evo_stepo hIb E26 (fun g hg => hanJ g hg)
  replace hts := hts0.now hV
  replace hcl := hcl0.now hV
  replace hp := hp0 _ hV
  replace hq := hq0 _ hV
  replace hr5 := hr50 _ hIa
  replace hr18 := hr180 _ hIb
  replace hanJ := own_anch hlv25 hanJ ω
  replace hanA := own_anch hlv25 hanA ω
  have hol := hov25
  refine Zn (run_asg (v := v25) rfl η) ?_
  refine r_blk ?_
  refine r_region ?_
  refine Zo (run_add rfl η η ω ω) ?_
  refine Zn mvI ?_
  refine r_again (k + 1) ?_ ?_ ?_
  ·first | omega | (dsimp only; omega)
  ·refine ⟨_, σ, rfl, δ, (by rw [map_step ω, ← List.append_assoc]; exact hol), hanA, hanJ, δ, hV, hIb⟩
  exact ψ
 refine r_exit rfl ?_
 refine Zs ?_
 refine Zo (run_mv (v := vq) rfl η) ?_
 refine Zn (run_asg (v := vq) rfl η) ?_
 refine r_ret (res1 (v := vq) rfl η) ?_
 have e8 : ((wrongK lq ts [] (foundN ts.length (spotsF lp (fsT cl ts) 0))).take k).map forF = (wrongK lq ts [] (foundN ts.length (spotsF lp (fsT cl ts) 0))).map forF := by rw [List.take_of_length_le ω]
 rw [e8] at hol
 exact ⟨_, rfl, hV, hol, hanA⟩
set_option maxHeartbeats 4000000 in
theorem all_calls {l0 l1 l2 l3 l4 l5 l6 l7 l8 l9 l10 l11 l12 sh lo : Int} {aot : Option Addr} {bt ot capt : Nat} {ts : List TermL} {aoc : Option Addr} {bc oc capc : Nat} {cl : List Clas} {aof : Option Addr} {bf of9 capf : Nat} {f : List Vc.Item} {aog : Option Addr} {bg og capg : Nat} {gg : List Vc.Item} {w0 : World} (hts : RowR w0 aot bt ot capt ts) (hcl : RowR w0 aoc bc oc capc cl) (hf : RowE w0 aof bf of9 capf f) (hg : RowE w0 aog bg og capg gg) (htf : Tiny f) (htg : Tiny gg) (hif : ∀ x ∈ tagsL f, InR x) (hig : ∀ x ∈ tagsL gg, InR x) (hz : ts.length ≤ 40) (hjb : ∀ x ∈ ts, JudT x) (htab : Tab w0) (hn : (0 ≤ sh ∧ sh ≤ 100) ∧ (lo = 0 ∨ (100 ≤ lo ∧ lo ≤ 10000))) :
    Calls Tryz.prog 31 #[.agg #[.int .i64 l0, .int .i64 l1, .int .i64 l2, .int .i64 l3, .int .i64 l4, .int .i64 l5, .int .i64 l6, .int .i64 l7, .int .i64 l8, .int .i64 l9, .int .i64 l10, .int .i64 l11, .int .i64 l12, .int .i64 sh, .int .i64 lo, .slice aot ts.length capt, .slice aoc cl.length capc], .slice aof f.length capf, .slice aog gg.length capg] w0 fun e w' => ∃ v q, e = .returned v ∧ Evo w0 w' [] ∧ OwnE w' w0.heap.size 39 v q ∧ q.Perm (findL (⟨[l0, l1, l2, l3, l4, l5, l6, l7, l8, l9, l10, l11, l12], sh, lo, ts, cl⟩ : Chk) f gg) := by
 have htab := fun w9 (h9 : Evo w0 w9 []) => htab.evo0 h9
 refine calls_enter (n := 57) Tryz.func31 rfl Tryz.ntmps31 rfl ?_
 have hV : Evo w0 w0 [] := Evo.refl _ _
 have hts0 := hts.keep
 have hbd_hts := hts.bd
 have hcl0 := hcl.keep
 have hbd_hcl := hcl.bd
 have hf0 := keepE hf
 have hbd_hf := hf.bd
 have hg0 := keepE hg
 have hbd_hg := hg.bd
 have htab0 := htab
 refine Zs ?_
 refine r_box (vs := [_, _, _, _, _, _, _, _, _, _, _, _, _, _, _, _, _]) η η rfl ?_
 intro b1 w2 J1 E2 B1 Y1
 have Q2 := E2.size
 replace hV := Z0 hV E2
 replace hf := hf0 _ hV
 replace hg := hg0 _ hV
 have hAb1 := B1.at
 refine Zn asS ?_
 refine r_seq ?_
 refine Zs ?_
 refine Zo mvS ?_
 refine Zo (run_lenSl rfl η Tryz.underlying33) ?_
 refine Zo (run_eql rfl η η) ?_
 refine Zo mvB ?_
 refine r_g rfl (wantT η) rfl (fun hg => mvS) ?_
 refine r_g rfl (wantT η) rfl (fun hg => run_lenSl rfl (glv η (fun h => h) hg) Tryz.underlying33) ?_
 refine r_g rfl (wantT η) rfl (fun hg => run_gtr rfl (glv η (fun h => h) hg) η) ?_
 refine Zn (run_pick_and rfl η (fun hq => glv η (fun h => h) hq) rfl) ?_
 refine r_cond η (fun hc3 => ?_) (fun hc3 => ?_)
 ·skip
  refine Zs ?_
  refine Zo (run_bld (pv := [(0, .int _ _)]) (zs := [_, _, _]) (cells := [_, _, _]) rfl ty_39 η pl_39 η η) ?_
  refine r_bslice (pv := [(0, .agg _)]) (zs := [_, _, _]) (cs := [_, _, _]) Tryz.underlying34 ty_39 η rfl η rfl η ?_
  intro b4 w5 J4 E5 B4 Y4
  have Q5 := E5.size
  replace hV := Z0 hV E5
  have hob4 : OwnE w5 w0.heap.size 39 (.slice (some ⟨b4, 0, none⟩) 1 1) ([⟨1, [], 0⟩] : List Vc.Item) := ownE_lit ([⟨1, [], 0⟩] : List Vc.Item) B4 rfl ω (by simp)
  refine Zn (run_asg (v := (.slice (some ⟨b4, 0, none⟩) 1 1)) rfl η) ?_
  refine r_ret (res1 (v := (.slice (some ⟨b4, 0, none⟩) 1 1)) rfl η) ?_
  have hf1 : findL (⟨[l0, l1, l2, l3, l4, l5, l6, l7, l8, l9, l10, l11, l12], sh, lo, ts, cl⟩ : Chk) f gg = [⟨1, [], 0⟩] := by unfold findL; rw [if_pos (show hidB f gg from ⟨by omega, by omega⟩)]
  exact ⟨_, _, rfl, hV, hob4, by rw [hf1]⟩
 refine r_skip ?_
 refine Zs ?_
 refine Zn asS ?_
 refine Zs ?_
 refine Zo mvS ?_
 refine Zr [.slice _ _ _] rfl η Tryz.func59 (tokens_calls hf htf.tk) ?_
 rintro e w6 ⟨vt6, rfl, F6, hot6⟩
 refine ⟨_, rfl, ?_⟩
 have Q6 := F6.size
 replace hV := Z0 hV F6
 replace hg := hg0 _ hV
 replace B1 := B1.evo0 F6
 replace hAb1 := hAb1.evo0 F6
 refine Zo mvS ?_
 refine Zr [.slice _ _ _] rfl η Tryz.func59 (tokens_calls hg htg.tk) ?_
 rintro e w7 ⟨vt7, rfl, F7, hot7⟩
 refine ⟨_, rfl, ?_⟩
 have Q7 := F7.size
 replace hV := Z0 hV F7
 replace hf := hf0 _ hV
 replace hg := hg0 _ hV
 replace B1 := B1.evo0 F7
 replace hAb1 := hAb1.evo0 F7
 replace hot6 := hot6.evo0 F7
 refine Zo (run_asg (v := vt6) rfl η) ?_
 refine Zn (run_asg (v := vt7) rfl η) ?_
 refine r_seq ?_
 have hI5 : Evo w7 w7 [] := Evo.refl _ _
 obtain ⟨ao8, g8, cp8, hv8, hr8, hg8⟩ := hot6.rowOf
 subst hv8
 have hr80 := keepE hr8
 obtain ⟨ao9, g9, cp9, hv9, hr9, hg9⟩ := hot7.rowOf
 subst hv9
 have hr90 := keepE hr9
 have hol : OwnE w7 w7.heap.size 39 (.slice none 0 0) ([] : List Vc.Item) := OwnE.nil _ _ _
 have hFL := fLens (c := (⟨[l0, l1, l2, l3, l4, l5, l6, l7, l8, l9, l10, l11, l12], sh, lo, ts, cl⟩ : Chk)) htf htg; have hB1 := hFL.same; have hB2 := hFL.slot; have hB3 := hFL.tag; have hB4 := hFL.shape; have hB5 := hFL.num; have hB6 := hFL.plain; have hQ9 := htf.tlen; have hQ10 := htg.tlen; have hQ11 := htf.plen; have hQ12 := htg.plen
 refine r_region ?_
 refine Zn (run_asg (v := .func _ _ _) rfl η) ?_
 refine r_seq ?_
 refine Zs ?_
 refine Zo mvS ?_
 refine Zo mvS ?_
 refine Zr [.slice _ _ _, .slice _ _ _] rfl η Tryz.func61 (isame_calls hf hg) ?_
 rintro e w10 ⟨rfl, F10⟩
 refine ⟨_, rfl, ?_⟩
 have Q10 := F10.size
 replace hV := Z0 hV F10
 replace hI5 := Z0 hI5 F10
 replace hg := hg0 _ hV
 replace B1 := B1.evo0 F10
 replace hAb1 := hAb1.evo0 F10
 replace hr8 := hr80 _ hI5
 replace hol := hol.evo0 F10
 refine Zo mvB ?_
 refine r_g rfl (wantT η) rfl (fun hg => mvS) ?_
 refine r_g rfl (wantT η) rfl (fun hg => run_mv (v := .func _ _ _) rfl η) ?_
 refine r_gcall rfl (wantT η) rfl (fun hg => run_callf rfl (argcons (v := .slice _ _ _) (glv η (fun h => h) hg) (argcons (v := .func _ _ _) (glv η (fun h => h) hg) (rfl))) Tryz.func62 rfl ζ) (fun hg => (ctw_calls hr8).mono (fun e w' h => ⟨h.1, h.2⟩)) (fun w11 F12 => ?_)
 have Q11 := F12.size
 replace hV := Z0 hV F12
 replace hI5 := Z0 hI5 F12
 replace hts := hts0.now hV
 replace hcl := hcl0.now hV
 replace hf := hf0 _ hV
 replace hg := hg0 _ hV
 replace htab := htab0 _ hV
 replace B1 := B1.evo0 F12
 replace hAb1 := hAb1.evo0 F12
 replace hr8 := hr80 _ hI5
 replace hr9 := hr90 _ hI5
 replace hol := hol.evo0 F12
 refine Zn (run_pick_andB rfl η (fun hq => glv η (fun h => h) hq) rfl) ?_
 refine r_cut [7, 33, 34, 35, 36] (fun g w => ∃ vo : Value, g 7 = vo ∧ OwnE w w7.heap.size 39 vo ([] ++ sameF f gg) ∧ Blk w b1 28 [.int .i64 l0, .int .i64 l1, .int .i64 l2, .int .i64 l3, .int .i64 l4, .int .i64 l5, .int .i64 l6, .int .i64 l7, .int .i64 l8, .int .i64 l9, .int .i64 l10, .int .i64 l11, .int .i64 l12, .int .i64 sh, .int .i64 lo, .slice aot ts.length capt, .slice aoc cl.length capc] ∧ At w b1 0 [.int .i64 l0, .int .i64 l1, .int .i64 l2, .int .i64 l3, .int .i64 l4, .int .i64 l5, .int .i64 l6, .int .i64 l7, .int .i64 l8, .int .i64 l9, .int .i64 l10, .int .i64 l11, .int .i64 l12, .int .i64 sh, .int .i64 lo, .slice aot ts.length capt, .slice aoc cl.length capc] ∧ w11.heap.size ≤ w.heap.size ∧ Evo w0 w [] ∧ Evo w7 w []) ?_ ?_
 ·skip
  refine r_cond η (fun hc14 => ?_) (fun hc14 => ?_)
  ·skip
   refine r_region ?_
   refine Zo (run_mv (v := (.slice none 0 0)) rfl η) ?_
   refine Zo (run_bld (pv := [(0, .int _ _)]) (zs := [_, _, _]) (cells := [_, _, _]) rfl ty_39 η pl_39 η η) ?_
   refine r_append1E (u := .agg _) (y := (⟨2, [], 0⟩ : Vc.Item)) rfl rfl Tryz.underlying34 ty_39 η hol (fun _ => η) η (by first | exact rfl | (show _ = List.toArray [_, _, _]; first | (dsimp only; done) | exact rfl | (dsimp only; exact rfl))) ((by simp only [List.length_append, List.length_nil]; omega)) ((by simp only [List.length_append, List.length_nil]; omega)) ω ?_
   intro q_v15 v15 w16 E16 hov15 hlv15
   have Q16 := E16.size
   replace hV := evo_stepo hV E16 (fun g hg => .inl (by first | exact (hol.block hg).1 | (have := hol.block hg; omega)))
   replace hI5 := evo_stepo hI5 E16 (fun g hg => .inl (by first | exact (hol.block hg).1 | (have := hol.block hg; omega)))
   replace hts := hts0.now hV
   replace hcl := hcl0.now hV
   replace hf := hf0 _ hV
   replace hg := hg0 _ hV
   replace htab := htab0 _ hV
   replace B1 := B1.evo E16 (by intro hm; have hm2 := Option.mem_toList.1 hm; first | (have := hol.block hm2; omega) | (simp [Value.ownBlock] at hm2; omega))
   replace hAb1 := hAb1.evo E16 (by intro hm; have hm2 := Option.mem_toList.1 hm; first | (have := hol.block hm2; omega) | (simp [Value.ownBlock] at hm2; omega))
   replace hr8 := hr80 _ hI5
   replace hr9 := hr90 _ hI5
   refine Zn (run_asg (v := v15) rfl η) ?_
   refine r_cut_end ?_ ?_
   ·refine ⟨_, rfl, (by first | (rw [show sameF f gg = _ from if_pos hc14]; exact hov15) | (rw [show sameF f gg = [] from if_neg hc14]; exact hov15)), B1, B1.at, δ, hV, hI5⟩
   exact ψ
  refine r_skip ?_
  refine r_cut_end ?_ ?_
  ·refine ⟨_, rfl, (by first | (rw [show sameF f gg = _ from if_pos hc14]; exact hol) | (rw [show sameF f gg = [] from if_neg hc14]; exact hol)), B1, B1.at, δ, hV, hI5⟩
  exact ψ
 rintro g w17 ⟨vo, hj18, hol, B1, hAb1, hzl13, hV, hI5⟩
 have hs_w17hV := hV.size
 have hs_w17hI5 := hI5.size
 have hlt19 := B1.lt
 replace hg := hg0 _ hV
 refine Zk 7 (v := vo) (by exact hj18) ?_
 refine Zs ?_
 refine Zo (run_mv (v := vo) rfl η) ?_
 refine Zo mvS ?_
 refine Zo mvS ?_
 refine Zr [vo, .slice _ _ _, .slice _ _ _] rfl η Tryz.func63 (counted_calls hol ω (fun w9 h9 => hf0 _ (evo_stepo hV h9 (fun g hg => .inl (by have := (hol.block hg).1; omega)))) (fun w9 h9 => hg0 _ (evo_stepo hV h9 (fun g hg => .inl (by have := (hol.block hg).1; omega)))) (fun w9 h9 => htab0 _ (evo_stepo hV h9 (fun g hg => .inl (by have := (hol.block hg).1; omega)))) htf htg hif hig (by simp only [List.length_append, List.length_nil]; omega)) ?_
 rintro e w20 ⟨vc20, rfl, F20, ⟨q1_20, q2_20, q3_20, hq1_20, hq2_20, hq3_20, hoc20⟩, hac20⟩
 refine ⟨_, rfl, ?_⟩
 have Q20 := F20.size
 replace hV := evo_stepo hV F20 (fun g hg => .inl (by first | exact (hol.block hg).1 | (have := hol.block hg; omega)))
 replace hI5 := evo_stepo hI5 F20 (fun g hg => .inl (by first | exact (hol.block hg).1 | (have := hol.block hg; omega)))
 replace hg := hg0 _ hV
 replace B1 := B1.evo F20 (by intro hm; have hm2 := Option.mem_toList.1 hm; first | (have := hol.block hm2; omega) | (simp [Value.ownBlock] at hm2; omega))
 replace hAb1 := hAb1.evo F20 (by intro hm; have hm2 := Option.mem_toList.1 hm; first | (have := hol.block hm2; omega) | (simp [Value.ownBlock] at hm2; omega))
 have hol := hoc20
 have hl1 := hq1_20.length_eq; have hl2 := hq2_20.length_eq; have hl3 := hq3_20.length_eq
 refine Zn (run_asg (v := vc20) rfl η) ?_
 refine Zs ?_
 refine Zo (run_mv (v := vc20) rfl η) ?_
 refine Zo mvS ?_
 refine Zo mvS ?_
 refine Zr [vc20, .slice _ _ _, .slice _ _ _] rfl η Tryz.func64 (nested_calls hol ω (fun w9 h9 => hf0 _ (evo_stepo hV h9 (fun g hg => .inl (by have := (hol.block hg).1; omega)))) (fun w9 h9 => hg0 _ (evo_stepo hV h9 (fun g hg => .inl (by have := (hol.block hg).1; omega)))) htf htg (by simp only [List.length_append, List.length_nil]; omega)) ?_
 rintro e w21 ⟨vc21, rfl, F21, hoc21, hac21⟩
 refine ⟨_, rfl, ?_⟩
 have Q21 := F21.size
 replace hV := evo_stepo hV F21 (fun g hg => .inl (by first | exact (hol.block hg).1 | (have := hol.block hg; omega)))
 replace hI5 := evo_stepo hI5 F21 (fun g hg => .inl (by first | exact (hol.block hg).1 | (have := hol.block hg; omega)))
 replace hg := hg0 _ hV
 replace B1 := B1.evo F21 (by intro hm; have hm2 := Option.mem_toList.1 hm; first | (have := hol.block hm2; omega) | (simp [Value.ownBlock] at hm2; omega))
 replace hAb1 := hAb1.evo F21 (by intro hm; have hm2 := Option.mem_toList.1 hm; first | (have := hol.block hm2; omega) | (simp [Value.ownBlock] at hm2; omega))
 have hol := hoc21
 refine Zn (run_asg (v := vc21) rfl η) ?_
 refine r_seq ?_
 refine r_cut [7, 45, 46, 47, 48, 49, 50, 51] (fun g w => ∃ vo : Value, g 7 = vo ∧ OwnE w w7.heap.size 39 vo ([] ++ sameF f gg ++ (q1_20 ++ (q2_20 ++ q3_20)) ++ shapeF f gg ++ plainF (⟨[l0, l1, l2, l3, l4, l5, l6, l7, l8, l9, l10, l11, l12], sh, lo, ts, cl⟩ : Chk) (plainL f) (plainL gg)) ∧ Blk w b1 28 [.int .i64 l0, .int .i64 l1, .int .i64 l2, .int .i64 l3, .int .i64 l4, .int .i64 l5, .int .i64 l6, .int .i64 l7, .int .i64 l8, .int .i64 l9, .int .i64 l10, .int .i64 l11, .int .i64 l12, .int .i64 sh, .int .i64 lo, .slice aot ts.length capt, .slice aoc cl.length capc] ∧ At w b1 0 [.int .i64 l0, .int .i64 l1, .int .i64 l2, .int .i64 l3, .int .i64 l4, .int .i64 l5, .int .i64 l6, .int .i64 l7, .int .i64 l8, .int .i64 l9, .int .i64 l10, .int .i64 l11, .int .i64 l12, .int .i64 sh, .int .i64 lo, .slice aot ts.length capt, .slice aoc cl.length capc] ∧ w21.heap.size ≤ w.heap.size ∧ Evo w0 w [] ∧ Evo w7 w []) ?_ ?_
 ·skip
  have hbb1_q := B1
  have hAb1_q := hAb1
  have hV_q := hV
  have hI5_q := hI5
  have hol_own := fun {g : Nat} (hg : _ = some g) => hol.block (g := g) hg
  refine h_region (vc21.ownBlock.toList) ζ ?_
  intro w23 F24 hCst10
  have Q23 := F24.size
  replace hV := Z0 hV F24
  replace hI5 := Z0 hI5 F24
  replace hf := hf0 _ hV
  replace hg := hg0 _ hV
  replace B1 := B1.evo0 F24
  replace hAb1 := hAb1.evo0 F24
  replace hol := hol.evo0 F24
  refine Zt (i := 0) η (fun w' hC => run_mv (v := vc21) rfl η) hCst10 ?_
  refine Zt (i := 1) η (fun w' hC => run_ldN rfl ag_28 ty_28 η rfl (hAb1_q.evo hC (fun hg => by have h8 := hol_own (Option.mem_toList.1 hg); omega))) hCst10 ?_
  refine Zt (i := 2) η (fun w' hC => mvS) hCst10 ?_
  refine Zt (i := 4) η (fun w' hC => mvS) hCst10 ?_
  refine Zh (i := 3) ?_
  refine Zr [.slice _ _ _] rfl η Tryz.func66 (plain_calls hf htf.small) ?_
  rintro e w25 ⟨rfl, F25⟩
  refine ⟨_, rfl, ?_⟩
  have Q25 := F25.size
  replace hV := Z0 hV F25
  replace hI5 := Z0 hI5 F25
  replace hCst10 := Z0 hCst10 F25
  replace hg := hg0 _ hV
  replace B1 := B1.evo0 F25
  replace hAb1 := hAb1.evo0 F25
  replace hol := hol.evo0 F25
  refine h_next hCst10 ?_
  refine Zh (i := 5) ?_
  refine Zr [.slice _ _ _] rfl η Tryz.func66 (plain_calls hg htg.small) ?_
  rintro e w26 ⟨rfl, F26⟩
  refine ⟨_, rfl, ?_⟩
  have Q26 := F26.size
  replace hV := Z0 hV F26
  replace hI5 := Z0 hI5 F26
  replace hCst10 := Z0 hCst10 F26
  replace hg := hg0 _ hV
  replace B1 := B1.evo0 F26
  replace hAb1 := hAb1.evo0 F26
  replace hol := hol.evo0 F26
  refine h_next hCst10 ?_
  refine Zh (i := 6) ?_
  refine Zr [vc21, .agg _, S _, S _] rfl η Tryz.func65 (oplain_calls hol ω (hts0.pass hV (fun x hx => .inl (by have := (hol.block (Option.mem_toList.1 hx)).1; omega))) (hcl0.pass hV (fun x hx => .inl (by have := (hol.block (Option.mem_toList.1 hx)).1; omega))) hn (by simp only [List.length_append, List.length_nil]; omega) ω ω) ?_
  rintro e w27 ⟨vc27, rfl, F27, hoc27, hac27⟩
  refine ⟨_, rfl, ?_⟩
  have Q27 := F27.size
  replace hV := evo_stepo hV F27 (fun g hg => .inl (by first | exact (hol.block hg).1 | (have := hol.block hg; omega)))
  replace hI5 := evo_stepo hI5 F27 (fun g hg => .inl (by first | exact (hol.block hg).1 | (have := hol.block hg; omega)))
  replace hCst10 := evo_stepo hCst10 F27 (fun g hg => .inr (Option.mem_toList.2 hg))
  replace hts := hts0.now hV
  replace hcl := hcl0.now hV
  replace hf := hf0 _ hV
  replace hg := hg0 _ hV
  replace htab := htab0 _ hV
  replace hr8 := hr80 _ hI5
  replace hr9 := hr90 _ hI5
  replace B1 := B1.evo F27 (by intro hm; have hm2 := Option.mem_toList.1 hm; first | (have := hol.block hm2; omega) | (simp [Value.ownBlock] at hm2; omega))
  replace hAb1 := hAb1.evo F27 (by intro hm; have hm2 := Option.mem_toList.1 hm; first | (have := hol.block hm2; omega) | (simp [Value.ownBlock] at hm2; omega))
  refine h_next hCst10 ?_
  refine Zt (i := 7) η (fun w' hC => run_asg (v := vc27) rfl η) hCst10 ?_
  refine h_done ζ ?_
  refine r_cut_end ?_ ?_
  ·refine ⟨_, rfl, hoc27, B1, B1.at, δ, hV, hI5⟩
  exact ψ
 rintro g w28 ⟨vo, hj29, hol, B1, hAb1, hzl22, hV, hI5⟩
 have hs_w28hV := hV.size
 have hs_w28hI5 := hI5.size
 have hlt30 := B1.lt
 replace hg := hg0 _ hV
 refine Zk 7 (v := vo) (by exact hj29) ?_
 refine Zs ?_
 refine Zo (run_mv (v := vo) rfl η) ?_
 refine Zo (run_ldN rfl ag_28 ty_28 η rfl hAb1) ?_
 refine Zo mvS ?_
 refine Zo mvS ?_
 refine Zr [vo, .agg _, .slice _ _ _, .slice _ _ _] rfl η Tryz.func67 (terms_calls hol ω (hts0.pass hV (fun x hx => .inl (by have := (hol.block (Option.mem_toList.1 hx)).1; omega))) (hcl0.pass hV (fun x hx => .inl (by have := (hol.block (Option.mem_toList.1 hx)).1; omega))) (fun w9 h9 => hr80 _ (evo_stepo hI5 h9 (fun g hg => .inl (by have := (hol.block hg).1; omega)))) (fun w9 h9 => hr90 _ (evo_stepo hI5 h9 (fun g hg => .inl (by have := (hol.block hg).1; omega)))) (fun x hx => Nat.le_trans (htf.ttx x hx) (by decide)) (fun x hx => Nat.le_trans (htg.ttx x hx) (by decide)) ω ω (by simp only [List.length_append, List.length_nil]; omega) hz hjb) ?_
 rintro e w31 ⟨vc31, rfl, F31, hoc31, hac31⟩
 refine ⟨_, rfl, ?_⟩
 have Q31 := F31.size
 replace hV := evo_stepo hV F31 (fun g hg => .inl (by first | exact (hol.block hg).1 | (have := hol.block hg; omega)))
 replace hI5 := evo_stepo hI5 F31 (fun g hg => .inl (by first | exact (hol.block hg).1 | (have := hol.block hg; omega)))
 refine Zn (run_asg (v := vc31) rfl η) ?_
 refine r_ret (res1 (v := vc31) rfl η) ?_
 have hf2 : findL (⟨[l0, l1, l2, l3, l4, l5, l6, l7, l8, l9, l10, l11, l12], sh, lo, ts, cl⟩ : Chk) f gg = findA (⟨[l0, l1, l2, l3, l4, l5, l6, l7, l8, l9, l10, l11, l12], sh, lo, ts, cl⟩ : Chk) f gg := by unfold findL; rw [if_neg (show ¬ hidB f gg from fun q => hc3 ⟨by have := q.1; omega, by have := q.2; omega⟩)]
 have h9 := all_perm (c := (⟨[l0, l1, l2, l3, l4, l5, l6, l7, l8, l9, l10, l11, l12], sh, lo, ts, cl⟩ : Chk)) hq1_20 hq2_20 hq3_20
 unfold termF at h9
 rw [← List.append_assoc] at h9
 exact ⟨_, _, rfl, hV, hoc31.base_le ω, by rw [hf2]; exact h9⟩
end Go.Proofs.YtlfjocbnbceceaaGreatDoor
namespace Go.Proofs
open Go.Shelf
def Tryz.sortFind_ren : Go.Shelf.Ren := ⟨fun | 6 => 32 | 15 => 69 | 14 => 68 | 28 => 122 | 29 => 123 | 20 => 114 | 21 => 115 | 22 => 116 | 23 => 117 | 24 => 118 | 25 => 119 | 26 => 120 | 27 => 121 | 46 => 161 | 47 => 162 | 48 => 163 | 49 => 164 | 50 => 165 | 57 => 196 | n => n, fun | 22 => 34 | 24 => 39 | 25 => 63 | 3 => 3 | 39 => 105 | 0 => 0 | 53 => 151 | 55 => 153 | 4 => 4 | 46 => 144 | 45 => 143 | 50 => 148 | 5 => 5 | 9 => 9 | 66 => 177 | 70 => 181 | 76 => 204 | 77 => 131 | n => n, fun | n => n⟩
theorem Tryz.sortFind : Go.Proofs.SlLaysF0.n6 Tryz.prog Tryz.sortFind_ren := {
  mixed := by kernel_rfl
  f6 := ⟨Tryz.f32.name, by decide, Tryz.func32.trans (congrArg some (by kernel_rfl))⟩
  f14 := ⟨Tryz.f68.name, by decide, Tryz.func68.trans (congrArg some (by kernel_rfl))⟩
  f15 := Tryz.func69.trans (congrArg some (by kernel_rfl))
  f20 := ⟨Tryz.f114.name, by decide, Tryz.func114.trans (congrArg some (by kernel_rfl))⟩
  f21 := ⟨Tryz.f115.name, by decide, Tryz.func115.trans (congrArg some (by kernel_rfl))⟩
  f22 := ⟨Tryz.f116.name, by decide, Tryz.func116.trans (congrArg some (by kernel_rfl))⟩
  f23 := ⟨Tryz.f117.name, by decide, Tryz.func117.trans (congrArg some (by kernel_rfl))⟩
  f24 := ⟨Tryz.f118.name, by decide, Tryz.func118.trans (congrArg some (by kernel_rfl))⟩
  f25 := ⟨Tryz.f119.name, by decide, Tryz.func119.trans (congrArg some (by kernel_rfl))⟩
  f26 := ⟨Tryz.f120.name, by decide, Tryz.func120.trans (congrArg some (by kernel_rfl))⟩
  f27 := ⟨Tryz.f121.name, by decide, Tryz.func121.trans (congrArg some (by kernel_rfl))⟩
  f28 := Tryz.func122.trans (congrArg some (by kernel_rfl))
  f29 := Tryz.func123.trans (congrArg some (by kernel_rfl))
  f46 := ⟨Tryz.f161.name, by decide, Tryz.func161.trans (congrArg some (by kernel_rfl))⟩
  f47 := Tryz.func162.trans (congrArg some (by kernel_rfl))
  f48 := Tryz.func163.trans (congrArg some (by kernel_rfl))
  f49 := ⟨Tryz.f164.name, by decide, Tryz.func164.trans (congrArg some (by kernel_rfl))⟩
  f50 := ⟨Tryz.f165.name, by decide, Tryz.func165.trans (congrArg some (by kernel_rfl))⟩
  f57 := ⟨Tryz.f196.name, by decide, Tryz.func196.trans (congrArg some (by kernel_rfl))⟩
  t0 := Tryz.underlying0
  a0 := Tryz.isAgg0
  z0 := Tryz.sizeOf0
  v0 := Tryz.zeroValue0
  t3 := Tryz.underlying3
  a3 := Tryz.isAgg3
  z3 := Tryz.sizeOf3
  v3 := Tryz.zeroValue3
  t4 := Tryz.underlying4
  a4 := Tryz.isAgg4
  z4 := Tryz.sizeOf4
  v4 := Tryz.zeroValue4
  t5 := Tryz.underlying5
  a5 := Tryz.isAgg5
  z5 := Tryz.sizeOf5
  v5 := Tryz.zeroValue5
  t9 := Tryz.underlying9
  a9 := Tryz.isAgg9
  z9 := Tryz.sizeOf9
  v9 := Tryz.zeroValue9
  t22 := Tryz.underlying34
  a22 := Tryz.isAgg34
  z22 := Tryz.sizeOf34
  v22 := Tryz.zeroValue34
  t25 := Tryz.underlying63
  a25 := Tryz.isAgg63
  z25 := Tryz.sizeOf63
  v25 := Tryz.zeroValue63
  t39 := Tryz.underlying105
  a39 := Tryz.isAgg105
  z39 := Tryz.sizeOf105
  v39 := Tryz.zeroValue105
  t45 := Tryz.underlying143
  a45 := Tryz.isAgg143
  z45 := Tryz.sizeOf143
  v45 := Tryz.zeroValue143
  t46 := Tryz.underlying144
  a46 := Tryz.isAgg144
  z46 := Tryz.sizeOf144
  v46 := Tryz.zeroValue144
  t50 := Tryz.underlying148
  a50 := Tryz.isAgg148
  z50 := Tryz.sizeOf148
  v50 := Tryz.zeroValue148
  t53 := Tryz.underlying151
  a53 := Tryz.isAgg151
  z53 := Tryz.sizeOf151
  v53 := Tryz.zeroValue151
  t55 := Tryz.underlying153
  a55 := Tryz.isAgg153
  z55 := Tryz.sizeOf153
  v55 := Tryz.zeroValue153
  t66 := Tryz.underlying177
  a66 := Tryz.isAgg177
  z66 := Tryz.sizeOf177
  v66 := Tryz.zeroValue177
  t70 := Tryz.underlying181
  a70 := Tryz.isAgg181
  z70 := Tryz.sizeOf181
  v70 := Tryz.zeroValue181
  t76 := Tryz.underlying204
  a76 := Tryz.isAgg204
  z76 := Tryz.sizeOf204
  v76 := Tryz.zeroValue204
  t77 := Tryz.underlying131
  a77 := Tryz.isAgg131
  z77 := Tryz.sizeOf131
  v77 := Tryz.zeroValue131 }
end Go.Proofs
namespace Go.Proofs.YtlfjocbnbceceaaGreatDoor
open Go.RowKit Go.Vc
theorem anyI_yes {l : List Vc.Item} {p : Vc.Item → Bool} {k : Nat} (hk : k < l.length) (h : p (l.getD k default) = true) : l.any p = true := List.any_eq_true.2 ⟨_, getD_in hk, h⟩
theorem anyI_no {l : List Vc.Item} {p : Vc.Item → Bool} (h : ∀ j, j < l.length → ¬ p (l.getD j default) = true) : ¬ l.any p = true := fun q => by
  obtain ⟨x, hx, h2⟩ := List.any_eq_true.1 q
  obtain ⟨i, hi, rfl⟩ := List.mem_iff_getElem.1 hx
  exact h i hi (by rw [List.getD_eq_getElem?_getD, List.getElem?_eq_getElem hi]; exact h2)
theorem sortF_of2 {l xs l' : List Vc.Item} {p : Vc.Item → Bool} (h : l.Perm xs) (hs : SortR (Go.Proofs.ltOf cmpF) (l.filter p) l') : l' = (sortF xs).filter p := by
  rw [sortF_filter]; exact sortF_of hs (h.filter p)
theorem cmpS_gt {s t : Str} (h : ¬ blt s t = true) (h2 : ¬ (blt s t || s == t) = true) : cmpS s t = 1 := by
  have h1 : ¬ s < t := fun q => h ((slt_iff _ _).2 q)
  have h3 : ¬ s = t := fun q => h2 (by simp [q])
  unfold cmpS
  rw [if_neg h1]
  by_cases h4 : t < s
  · rw [if_pos h4]
  · exact absurd (slt_tri h1 h4) h3
theorem or_at {p q r : Int} {k : Nat} (hk : k < 3) (hno : ∀ j, j < k → ([p, q, r] : List Int).getD j default = 0) (hc : ¬ ([p, q, r] : List Int).getD k default = 0) : ([p, q, r] : List Int).getD k default = orI p (orI q r) := by
  unfold orI
  match k, hk with
  | 0, _ => exact (if_pos hc).symm
  | 1, _ => have h0 : p = 0 := hno 0 ω
            have h1 : ¬ q = 0 := hc
            rw [if_neg (by simpa using h0), if_pos h1]; rfl
  | 2, _ => have h0 : p = 0 := hno 0 ω
            have h1 : q = 0 := hno 1 ω
            rw [if_neg (by simpa using h0), if_neg (by simpa using h1)]; rfl
theorem or_none {p q r : Int} (hno : ∀ j, j < 3 → ([p, q, r] : List Int).getD j default = 0) : (0 : Int) = orI p (orI q r) := by
  have h0 : p = 0 := hno 0 ω
  have h1 : q = 0 := hno 1 ω
  have h2 : r = 0 := hno 2 ω
  unfold orI; rw [if_neg (by simpa using h0), if_neg (by simpa using h1), h2]
theorem cmpS_eq {s t : Str} (h : ¬ blt s t = true) (h2 : ¬ ¬ (blt s t || s == t) = true) : cmpS s t = 0 := by
  have h3 : s = t := by
    simpa [h] using h2
  exact cmpS_zero.2 h3
theorem isnan_calls {s : Str} {w0 : World}  :
    Calls Tryz.prog 71 #[S s] w0 fun e w' => e = .returned (.bool false) ∧ w0 = w' := by
 refine calls_enter (n := 6) Tryz.func71 rfl Tryz.ntmps71 rfl ?_
 have hV : Evo w0 w0 [] := Evo.refl _ _
 refine Zs ?_
 refine Zn asB ?_
 refine Zs ?_
 refine Zo mvT ?_
 refine Zo mvT ?_
 refine Zo (run_sneq rfl η η) ?_
 refine Zn asB ?_
 refine r_ret (res1 (v := .bool _) rfl η) ?_
 exact ⟨ret_bool (by simp), rfl⟩
theorem cmps_calls {s t : Str} {w0 : World}  :
    Calls Tryz.prog 36 #[S s, S t] w0 fun e w' => e = .returned (.int .i64 (cmpS s t)) ∧ w0 = w' := by
 refine calls_enter (n := 20) Tryz.func36 rfl Tryz.ntmps36 rfl ?_
 have hV : Evo w0 w0 [] := Evo.refl _ _
 refine Zs ?_
 refine Zn asI ?_
 refine Zs ?_
 refine Zo mvT ?_
 refine Zr [S _] rfl η Tryz.func71 isnan_calls ?_
 rintro e w1 ⟨rfl, rfl⟩
 refine ⟨_, rfl, ?_⟩
 refine Zn asB ?_
 refine Zs ?_
 refine Zo mvT ?_
 refine Zr [S _] rfl η Tryz.func71 isnan_calls ?_
 rintro e w2 ⟨rfl, rfl⟩
 refine ⟨_, rfl, ?_⟩
 refine Zn asB ?_
 refine r_seq ?_
 refine Zs ?_
 refine Zn mvB ?_
 refine r_cond_no η ?_
 refine r_skip ?_
 refine r_seq ?_
 refine Zs ?_
 refine Zn mvB ?_
 refine r_cond_no η ?_
 refine r_skip ?_
 refine r_seq ?_
 refine Zs ?_
 refine Zo mvT ?_
 refine Zo mvT ?_
 refine Zn (run_slssD rfl η η) ?_
 refine r_cond η (fun hc3 => ?_) (fun hc3 => ?_)
 ·skip
  refine Zs ?_
  refine Zn asI ?_
  refine r_ret (res1 (v := .int _ _) rfl η) ?_
  exact ⟨ret_int (by unfold cmpS; rw [if_pos ((slt_iff _ _).1 hc3)]), rfl⟩
 refine r_skip ?_
 refine r_seq ?_
 refine r_seq ?_
 have hc1 := hc3
 refine r_region ?_
 refine Zo mvT ?_
 refine Zo mvT ?_
 refine Zn (run_sgtrD rfl η η) ?_
 refine r_cond η (fun hc4 => ?_) (fun hc4 => ?_)
 ·skip
  refine Zs ?_
  refine Zn asI ?_
  refine r_ret (res1 (v := .int _ _) rfl η) ?_
  exact ⟨ret_int (cmpS_gt hc1 hc4).symm, rfl⟩
 refine r_skip ?_
 refine Zs ?_
 refine Zn asI ?_
 refine r_ret (res1 (v := .int _ _) rfl η) ?_
 exact ⟨ret_int (cmpS_eq hc1 hc4).symm, rfl⟩
theorem isnani_calls {n : Int} {w0 : World}  :
    Calls Tryz.prog 70 #[.int .i64 n] w0 fun e w' => e = .returned (.bool false) ∧ w0 = w' := by
 refine calls_enter (n := 6) Tryz.func70 rfl Tryz.ntmps70 rfl ?_
 have hV : Evo w0 w0 [] := Evo.refl _ _
 refine Zs ?_
 refine Zn asB ?_
 refine Zs ?_
 refine Zo mvI ?_
 refine Zo mvI ?_
 refine Zo (run_neq rfl η η) ?_
 refine Zn asB ?_
 refine r_ret (res1 (v := .bool _) rfl η) ?_
 exact ⟨ret_bool (by simp), rfl⟩
theorem cmpi_calls {a b : Int} {w0 : World}  :
    Calls Tryz.prog 35 #[.int .i64 a, .int .i64 b] w0 fun e w' => e = .returned (.int .i64 (cmpI a b)) ∧ w0 = w' := by
 refine calls_enter (n := 20) Tryz.func35 rfl Tryz.ntmps35 rfl ?_
 have hV : Evo w0 w0 [] := Evo.refl _ _
 refine Zs ?_
 refine Zn asI ?_
 refine Zs ?_
 refine Zo mvI ?_
 refine Zr [.int _ _] rfl η Tryz.func70 isnani_calls ?_
 rintro e w1 ⟨rfl, rfl⟩
 refine ⟨_, rfl, ?_⟩
 refine Zn asB ?_
 refine Zs ?_
 refine Zo mvI ?_
 refine Zr [.int _ _] rfl η Tryz.func70 isnani_calls ?_
 rintro e w2 ⟨rfl, rfl⟩
 refine ⟨_, rfl, ?_⟩
 refine Zn asB ?_
 refine r_seq ?_
 refine Zs ?_
 refine Zn mvB ?_
 refine r_cond_no η ?_
 refine r_skip ?_
 refine r_seq ?_
 refine Zs ?_
 refine Zn mvB ?_
 refine r_cond_no η ?_
 refine r_skip ?_
 refine r_seq ?_
 refine Zs ?_
 refine Zo mvI ?_
 refine Zo mvI ?_
 refine Zn (run_lss rfl η η) ?_
 refine r_cond η (fun hc3 => ?_) (fun hc3 => ?_)
 ·skip
  refine Zs ?_
  refine Zn asI ?_
  refine r_ret (res1 (v := .int _ _) rfl η) ?_
  exact ⟨ret_int (by unfold cmpI; rw [if_pos hc3]), rfl⟩
 refine r_skip ?_
 refine r_seq ?_
 refine Zs ?_
 refine Zo mvI ?_
 refine Zo mvI ?_
 refine Zn (run_gtr rfl η η) ?_
 refine r_cond η (fun hc4 => ?_) (fun hc4 => ?_)
 ·skip
  refine Zs ?_
  refine Zn asI ?_
  refine r_ret (res1 (v := .int _ _) rfl η) ?_
  exact ⟨ret_int (by unfold cmpI; rw [if_neg ω, if_pos hc4]), rfl⟩
 refine r_skip ?_
 refine Zs ?_
 refine Zn asI ?_
 refine r_ret (res1 (v := .int _ _) rfl η) ?_
 exact ⟨ret_int (by unfold cmpI; rw [if_neg ω, if_neg ω]), rfl⟩
theorem or_calls {ao : Option Addr} {b off cap : Nat} {p q r : Int} {w0 : World} (hl : RowE w0 ao b off cap ([p, q, r] : List Int)) :
    Calls Tryz.prog 34 #[.slice ao ([p, q, r] : List Int).length cap] w0 fun e w' => e = .returned (.int .i64 (orI p (orI q r))) ∧ w0 = w' := by
 refine calls_enter (n := 18) Tryz.func34 rfl Tryz.ntmps34 rfl ?_
 have hV : Evo w0 w0 [] := Evo.refl _ _
 have hbd_hl := hl.bd
 refine Zs ?_
 refine Zn asI ?_
 refine Zs ?_
 refine Zn asI ?_
 refine r_seq ?_
 refine Zs ?_
 refine Zo mvS ?_
 refine Zo (run_lenSl rfl η Tryz.underlying22) ?_
 refine Zn mvI ?_
 refine r_block ?_
 refine r_loop (α := Nat) [2, 5, 8, 9, 10, 11, 12, 13, 14, 15, 16] (fun k g w => g 8 = .int .i64 (k : Nat) ∧ k ≤ ([p, q, r] : List Int).length ∧ w = w0 ∧ (∀ j, j < k → ([p, q, r] : List Int).getD j default = 0) ∧ w0.heap.size ≤ w.heap.size ∧ Evo w0 w []) (fun k => ([p, q, r] : List Int).length - k) 0 ?_ ?_
 ·refine ⟨σ, δ, rfl, (fun j h => by omega), δ, hV⟩
 rintro k g w2 ⟨hj3, hk_k, hw, hno, hzl1, hV⟩
 have hs_w2hV := hV.size
 refine Zk 8 (v := .int .i64 (k : Nat)) (by exact hj3) ?_
 replace hw := hw.symm; subst hw
 refine Zs ?_
 refine Zn (run_lss rfl η η) ?_
 refine r_seq ?_
 refine r_cond η (fun hc4 => ?_) (fun hc4 => ?_)
 ·skip
  refine r_skip ?_
  refine r_seq ?_
  refine r_block ?_
  refine Zs ?_
  refine Zo (run_ix (k) rfl Tryz.underlying22 ty_3 η η (by first | exact rfl | omega) ω (hl.addr (i := k) ω)) ?_
  have hA5 := hl.atD (k) ω
  refine Zo (run_ld1 rfl ag_3 η (hA5.cell 0 η)) ?_
  refine Zn asI ?_
  refine Zs ?_
  refine Zo mvI ?_
  refine Zo mvI ?_
  refine Zn (run_neq rfl η η) ?_
  refine r_cond η (fun hc6 => ?_) (fun hc6 => ?_)
  ·skip
   refine Zs ?_
   refine Zo mvI ?_
   refine Zn asI ?_
   refine r_ret (res1 (v := .int _ _) rfl η) ?_
   exact ⟨ret_int (or_at (by simp at hc4; omega) hno (by simpa using hc6)), rfl⟩
  refine r_skip ?_
  refine r_blk ?_
  refine r_region ?_
  refine Zo (run_add rfl η η ω ω) ?_
  refine Zn mvI ?_
  refine r_again (k + 1) ?_ ?_ ?_
  ·first | omega | (dsimp only; omega)
  ·refine ⟨σ, δ, rfl, (upto0 hno (by simpa using hc6)), δ, hV⟩
  exact ψ
 refine r_exit rfl ?_
 refine Zs ?_
 refine Zo mvI ?_
 refine Zn asI ?_
 refine r_ret (res1 (v := .int _ _) rfl η) ?_
 exact ⟨ret_int (or_none (fun j hj => hno j (by simp at hc4; omega))), rfl⟩
theorem cmpf_calls {x y : Vc.Item} {w0 : World}  :
    Calls Tryz.prog 33 #[(.agg (Enc.enc x).toArray), (.agg (Enc.enc y).toArray)] w0 fun e w' => e = .returned (.int .i64 (cmpF x y)) ∧ Evo w0 w' [] ∧ w0.drawn ≤ w'.drawn := by
 refine calls_enter (n := 22) Tryz.func33 rfl Tryz.ntmps33 rfl ?_
 have hV : Evo w0 w0 [] := Evo.refl _ _
 refine Zs ?_
 refine r_boxD (vs := [_, _, _]) η η rfl ?_
 intro b1 w2 J1 E2 B1 Y1 hdr_0
 have Q2 := E2.size
 replace hV := Z0 hV E2
 refine r_boxD (vs := [_, _, _]) η η rfl ?_
 intro b3 w4 J3 E4 B3 Y3 hdr_1
 have Q4 := E4.size
 replace hV := Z0 hV E4
 replace B1 := B1.evo0 E4
 refine Zn asI ?_
 refine r_seq ?_
 have hbb1_q := B1
 have hAb1_q := B1.at
 have hbb3_q := B3
 have hAb3_q := B3.at
 have hV_q := hV
 refine h_regionD ([]) ζ ?_
 intro w5 F6 hCst1 hdr_2
 have Q5 := F6.size
 replace hV := Z0 hV F6
 refine Zt (i := 0) η (fun w' hC => run_fa rfl η fo_39_0) hCst1 ?_
 refine Zt (i := 1) η (fun w' hC => run_ld1 rfl ag_3 η ((hAb1_q.evo0 hC).cell 0 η)) hCst1 ?_
 refine Zt (i := 2) η (fun w' hC => run_fa rfl η fo_39_0) hCst1 ?_
 refine Zt (i := 3) η (fun w' hC => run_ld1 rfl ag_3 η ((hAb3_q.evo0 hC).cell 0 η)) hCst1 ?_
 refine h_takeC (i := 4) η rfl rfl rfl ζ (fun w' hC => ⟨_, _, run_callf (vs := [.int _ _, .int _ _]) rfl η Tryz.func35 rfl ζ, cmpi_calls.mono (fun e w'' h => ⟨h.1, h.2.symm⟩)⟩) hCst1 ?_
 refine Zt (i := 5) η (fun w' hC => run_fa rfl η fo_39_1) hCst1 ?_
 refine Zt (i := 6) η (fun w' hC => run_ld1 rfl ag_9 η ((hAb1_q.evo0 hC).cell 1 η)) hCst1 ?_
 refine Zt (i := 7) η (fun w' hC => run_fa rfl η fo_39_1) hCst1 ?_
 refine Zt (i := 8) η (fun w' hC => run_ld1 rfl ag_9 η ((hAb3_q.evo0 hC).cell 1 η)) hCst1 ?_
 refine h_takeC (i := 9) η rfl rfl rfl ζ (fun w' hC => ⟨_, _, run_callf (vs := [S _, S _]) rfl η Tryz.func36 rfl ζ, cmps_calls.mono (fun e w'' h => ⟨h.1, h.2.symm⟩)⟩) hCst1 ?_
 refine Zt (i := 10) η (fun w' hC => run_fa rfl η fo_39_2) hCst1 ?_
 refine Zt (i := 11) η (fun w' hC => run_ld1 rfl ag_3 η ((hAb1_q.evo0 hC).cell 2 η)) hCst1 ?_
 refine Zt (i := 12) η (fun w' hC => run_fa rfl η fo_39_2) hCst1 ?_
 refine Zt (i := 13) η (fun w' hC => run_ld1 rfl ag_3 η ((hAb3_q.evo0 hC).cell 2 η)) hCst1 ?_
 refine h_takeC (i := 14) η rfl rfl rfl ζ (fun w' hC => ⟨_, _, run_callf (vs := [.int _ _, .int _ _]) rfl η Tryz.func35 rfl ζ, cmpi_calls.mono (fun e w'' h => ⟨h.1, h.2.symm⟩)⟩) hCst1 ?_
 refine Zh (i := 15) ?_
 refine r_bsliceD (pv := [(0, .int _ _), (1, .int _ _), (2, .int _ _)]) (zs := [_]) (cs := [_, _, _]) Tryz.underlying22 ty_3 η rfl η rfl η ?_
 intro b7 w8 J7 E8 B7 Y7 hdr_3
 have Q8 := E8.size
 replace hV := Z0 hV E8
 replace hCst1 := Z0 hCst1 E8
 have hrb7 : RowE w8 (some ⟨b7, 0, none⟩) b7 0 3 ([cmpI x.kind y.kind, cmpS x.text y.text, cmpI x.id y.id] : List Int) := rowLit ([cmpI x.kind y.kind, cmpS x.text y.text, cmpI x.id y.id] : List Int) B7 rfl rfl
 refine h_next hCst1 ?_
 refine Zh (i := 16) ?_
 refine Zr [.slice (some ⟨b7, 0, none⟩) _ _] rfl η Tryz.func34 (or_calls hrb7) ?_
 rintro e w9 ⟨rfl, rfl⟩
 refine ⟨_, rfl, ?_⟩
 refine h_next hCst1 ?_
 refine Zt (i := 17) η (fun w' hC => asI) hCst1 ?_
 refine h_done ζ ?_
 refine r_ret (res1 (v := .int _ _) rfl η) ?_
 exact ⟨rfl, hV, by omega⟩
theorem sortF_calls {w : World} {base E : Nat} {v : Value} {l : List Vc.Item} (h : OwnE w base E v l) : Calls Tryz.prog 32 #[v, .func (.func 33) #[] #[]] w fun e w' => e = .returned (.tuple #[]) ∧ Evo w w' v.ownBlock.toList ∧ ∃ l', SortR (Go.Proofs.ltOf cmpF) l l' ∧ OwnE w' base E v l' :=
  sortf_of (R := SortR (Go.Proofs.ltOf cmpF)) (fun l l' h => h.1.length_eq) ⟨List.Perm.refl _, List.Pairwise.nil⟩
    (fun blk off cap d w hH hb hsz => (AnyQ.slices_SortFunc Tryz.sortFind 3 Tryz.isAgg39 Tryz.sizeOf39 Enc.enc (fun x => Enc.len x) (fun x v hv => List.all_eq_true.1 (Enc.one x) v hv) cmpF swo_F 33 #[] blk off cap d w (enters_of Tryz.func33 ζ rfl)
      (fun m os dk hs x y => (show Calls Tryz.prog 33 #[.agg (Enc.enc x).toArray, .agg (Enc.enc y).toArray] _ _ from cmpf_calls.mono fun e w' ⟨h1, h2, h3⟩ => ⟨h1, growD_of h2 h3⟩)) hH hb hsz).mono fun e w' ⟨he, d', n, os, hp, hs, hw⟩ => ⟨he, d', n, os, sortR_of hp hs, hw⟩)
    (fun w => AnyF.slices_SortFunc_none { Tryz.sortFind with } none 0 (.func (.func 33) #[] #[]) w) h
set_option maxHeartbeats 2000000 in
theorem run_calls {l0 l1 l2 l3 l4 l5 l6 l7 l8 l9 l10 l11 l12 sh lo : Int} {aot : Option Addr} {bt ot capt : Nat} {ts : List TermL} {aoc : Option Addr} {bc oc capc : Nat} {cl : List Clas} {aof : Option Addr} {bf of9 capf : Nat} {f : List Vc.Item} {aog : Option Addr} {bg og capg : Nat} {gg : List Vc.Item} {w0 : World} (hts : RowR w0 aot bt ot capt ts) (hcl : RowR w0 aoc bc oc capc cl) (hf : RowE w0 aof bf of9 capf f) (hg : RowE w0 aog bg og capg gg) (htf : Tiny f) (htg : Tiny gg) (hif : ∀ x ∈ tagsL f, InR x) (hig : ∀ x ∈ tagsL gg, InR x) (hz : ts.length ≤ 40) (hjb : ∀ x ∈ ts, JudT x) (htab : Tab w0) :
    Calls Tryz.prog 14 #[.agg #[.int .i64 l0, .int .i64 l1, .int .i64 l2, .int .i64 l3, .int .i64 l4, .int .i64 l5, .int .i64 l6, .int .i64 l7, .int .i64 l8, .int .i64 l9, .int .i64 l10, .int .i64 l11, .int .i64 l12, .int .i64 sh, .int .i64 lo, .slice aot ts.length capt, .slice aoc cl.length capc], .slice aof f.length capf, .slice aog gg.length capg] w0 fun e w' => ∃ v, e = .returned v ∧ Evo w0 w' [] ∧ OwnE w' w0.heap.size 39 v (runF (⟨[l0, l1, l2, l3, l4, l5, l6, l7, l8, l9, l10, l11, l12], sh, lo, ts, cl⟩ : Chk) f gg) := by
 refine calls_enter (n := 36) Tryz.func14 rfl Tryz.ntmps14 rfl ?_
 have hV : Evo w0 w0 [] := Evo.refl _ _
 have hts0 := hts.keep
 have hbd_hts := hts.bd
 have hcl0 := hcl.keep
 have hbd_hcl := hcl.bd
 have hf0 := keepE hf
 have hbd_hf := hf.bd
 have hg0 := keepE hg
 have hbd_hg := hg.bd
 refine Zs ?_
 refine r_box (vs := [_, _, _, _, _, _, _, _, _, _, _, _, _, _, _, _, _]) η η rfl ?_
 intro b1 w2 J1 E2 B1 Y1
 have Q2 := E2.size
 replace hV := Z0 hV E2
 replace hts := hts0.now hV
 replace hcl := hcl0.now hV
 have hAb1 := B1.at
 refine Zn asS ?_
 refine r_seq ?_
 refine Zs ?_
 refine Zo (run_ldN rfl ag_28 ty_28 η rfl hAb1) ?_
 refine Zr [.agg _] rfl η Tryz.func12 (kvalidate_calls hts hcl) ?_
 rintro e w3 ⟨rfl, F3⟩
 refine ⟨_, rfl, ?_⟩
 have Q3 := F3.size
 replace hV := Z0 hV F3
 replace hts := hts0.now hV
 replace hcl := hcl0.now hV
 replace hf := hf0 _ hV
 replace hg := hg0 _ hV
 replace B1 := B1.evo0 F3
 replace hAb1 := hAb1.evo0 F3
 refine Zn (run_neq rfl η η) ?_
 refine r_cond η (fun hc4 => ?_) (fun hc4 => ?_)
 ·skip
  refine Zs ?_
  refine Zn asS ?_
  refine r_ret (res1 (v := .slice _ _ _) rfl η) ?_
  rw [runF_bad hc4]
  exact ⟨_, rfl, hV, OwnE.nil _ _ _⟩
 refine r_skip ?_
 refine Zs ?_
 refine Zn asS ?_
 refine r_seq ?_
 refine r_seq ?_
 have hval : validK (⟨[l0, l1, l2, l3, l4, l5, l6, l7, l8, l9, l10, l11, l12], sh, lo, ts, cl⟩ : Chk) = 0 := Classical.not_not.1 hc4; have hnn : (0 ≤ sh ∧ sh ≤ 100) ∧ (lo = 0 ∨ (100 ≤ lo ∧ lo ≤ 10000)) := valid_nums hval; have hfl := findL_len (c := (⟨[l0, l1, l2, l3, l4, l5, l6, l7, l8, l9, l10, l11, l12], sh, lo, ts, cl⟩ : Chk)) htf htg hz (fun x hx => (hjb x hx).2.1)
 refine r_region ?_
 refine Zo (run_ldN rfl ag_28 ty_28 η rfl hAb1) ?_
 refine Zo mvS ?_
 refine Zo mvS ?_
 refine Zr [.agg _, .slice _ _ _, .slice _ _ _] rfl η Tryz.func31 (all_calls hts hcl hf hg htf htg hif hig hz hjb (htab.evo0 hV) hnn) ?_
 rintro e w5 ⟨va5, qa5, rfl, F5, hoa5, hpa5⟩
 refine ⟨_, rfl, ?_⟩
 have Q5 := F5.size
 replace hV := Z0 hV F5
 replace hts := hts0.now hV
 replace hcl := hcl0.now hV
 replace hf := hf0 _ hV
 replace hg := hg0 _ hV
 replace B1 := B1.evo0 F5
 replace hAb1 := hAb1.evo0 F5
 have hql := hpa5.length_eq
 refine Zo (run_lenOE rfl η Tryz.underlying34 hoa5) ?_
 refine Zn mvI ?_
 refine r_block ?_
 have hI6 : Evo w5 w5 [] := Evo.refl _ _
 obtain ⟨ao7, g7, cp7, hv7, hr7, hg7⟩ := hoa5.rowOf
 subst hv7
 have hr70 := keepE hr7
 refine r_loop (α := Nat) [7, 9, 18, 19, 20, 21, 22, 23, 24, 25, 26, 27, 28, 29, 30, 31, 32] (fun k g w => ∃ vo : Value, g 18 = .int .i64 (k : Nat) ∧ g 7 = vo ∧ k ≤ qa5.length ∧ Blk w b1 28 [.int .i64 l0, .int .i64 l1, .int .i64 l2, .int .i64 l3, .int .i64 l4, .int .i64 l5, .int .i64 l6, .int .i64 l7, .int .i64 l8, .int .i64 l9, .int .i64 l10, .int .i64 l11, .int .i64 l12, .int .i64 sh, .int .i64 lo, .slice aot ts.length capt, .slice aoc cl.length capc] ∧ At w b1 0 [.int .i64 l0, .int .i64 l1, .int .i64 l2, .int .i64 l3, .int .i64 l4, .int .i64 l5, .int .i64 l6, .int .i64 l7, .int .i64 l8, .int .i64 l9, .int .i64 l10, .int .i64 l11, .int .i64 l12, .int .i64 sh, .int .i64 lo, .slice aot ts.length capt, .slice aoc cl.length capc] ∧ OwnE w w5.heap.size 39 vo ((qa5.take k).filter (levF (⟨[l0, l1, l2, l3, l4, l5, l6, l7, l8, l9, l10, l11, l12], sh, lo, ts, cl⟩ : Chk))) ∧ w5.heap.size ≤ w.heap.size ∧ Evo w0 w [] ∧ Evo w5 w []) (fun k => qa5.length - k) 0 ?_ ?_
 ·refine ⟨_, σ, rfl, δ, B1, B1.at, (OwnE.nil _ _ _), δ, hV, hI6⟩
 rintro k g w9 ⟨vo, hj10, hj11, hk_k, B1, hAb1, hoo, hzl8, hV, hI6⟩
 have hs_w9hV := hV.size
 have hs_w9hI6 := hI6.size
 have hlt12 := B1.lt
 replace hg := hg0 _ hV
 replace hr7 := hr70 _ hI6
 refine Zk 18 (v := .int .i64 (k : Nat)) (by exact hj10) ?_
 refine Zk 7 (v := vo) (by exact hj11) ?_
 have hfk := List.length_filter_le (levF (⟨[l0, l1, l2, l3, l4, l5, l6, l7, l8, l9, l10, l11, l12], sh, lo, ts, cl⟩ : Chk)) (qa5.take k); have hft := List.length_take_le k qa5
 refine Zs ?_
 refine Zn (run_lss rfl η η) ?_
 refine r_seq ?_
 refine r_cond η (fun hc13 => ?_) (fun hc13 => ?_)
 ·skip
  refine r_skip ?_
  refine r_seq ?_
  refine r_block ?_
  refine Zs ?_
  refine Zo (run_ix (k) rfl Tryz.underlying34 ty_39 η η (by first | exact rfl | omega) ω (hr7.addr (i := k) ω)) ?_
  have hA140 := fun (w' : World) (h : Evo w5 w' []) => (hr70 w' h).atD (k) ω
  have hA14 := hA140 _ hI6
  refine Zo (run_ldN rfl ag_39 ty_39 η rfl hA14) ?_
  have hob15 := fun g hg => (hoo.block (g := g) hg).2
  refine r_var (zs := [_, _, _]) (vs := [_, _, _]) ty_39 η rfl η (fun _ => rfl) η rfl rfl η ?_
  intro b16 w17 J16 E17 B16 Y16
  have Q17 := E17.size
  replace hV := Z0 hV E17
  replace hI6 := Z0 hI6 E17
  replace hts := hts0.now hV
  replace hcl := hcl0.now hV
  replace hf := hf0 _ hV
  replace hg := hg0 _ hV
  replace hr7 := hr70 _ hI6
  replace B1 := B1.evo0 E17
  replace hAb1 := hAb1.evo0 E17
  replace hoo := hoo.evo0 E17
  refine r_nil ?_
  refine r_seq ?_
  have hkb := findL_kind (hpa5.mem_iff.1 (getD_in (show k < qa5.length by omega)))
  refine r_region ?_
  refine Zo (run_fa rfl η fo_39_0) ?_
  refine Zo (run_ld1 rfl ag_3 η (B16.at.cell 0 η)) ?_
  refine Zo (run_fa rfl η fo_28_0) ?_
  refine Zo (run_ixP ((qa5.getD k default).kind.toNat) rfl Tryz.underlying24 ty_3 η η ω ω) ?_
  refine Zo (run_ld1 rfl ag_3 η (cell_at (j := (qa5.getD k default).kind.toNat) hAb1 (by exact lev_at (l := ([l0, l1, l2, l3, l4, l5, l6, l7, l8, l9, l10, l11, l12] : List Int)) (rest := [.int .i64 sh, .int .i64 lo, .slice aot ts.length capt, .slice aoc cl.length capc]) (show (qa5.getD k default).kind.toNat < 13 by omega)) ω)) ?_
  refine Zn (run_neq rfl η η) ?_
  refine r_cond η (fun hc18 => ?_) (fun hc18 => ?_)
  ·skip
   refine r_region ?_
   refine Zo (run_mv (v := vo) rfl η) ?_
   refine Zo (run_ldN rfl ag_39 ty_39 η rfl B16.at) ?_
   refine r_append1E (u := .agg _) (y := ⟨_, _, _⟩) rfl rfl Tryz.underlying34 ty_39 η hoo (fun _ => η) η (by first | exact rfl | (show _ = List.toArray [_, _, _]; first | (dsimp only; done) | exact rfl | (dsimp only; exact rfl))) (ω) (ω) ω ?_
   intro q_v19 v19 w20 E20 hov19 hlv19
   have Q20 := E20.size
   replace hV := evo_stepo hV E20 (fun g hg => .inl (by first | exact (hoo.block hg).1 | (have := hoo.block hg; omega)))
   replace hI6 := evo_stepo hI6 E20 (fun g hg => .inl (by first | exact (hoo.block hg).1 | (have := hoo.block hg; omega)))
   replace hts := hts0.now hV
   replace hcl := hcl0.now hV
   replace hf := hf0 _ hV
   replace hg := hg0 _ hV
   replace hr7 := hr70 _ hI6
   replace B1 := B1.evo E20 (by intro hm; have hm2 := Option.mem_toList.1 hm; first | (have := hoo.block hm2; omega) | (simp [Value.ownBlock] at hm2; omega))
   replace hAb1 := hAb1.evo E20 (by intro hm; have hm2 := Option.mem_toList.1 hm; first | (have := hoo.block hm2; omega) | (simp [Value.ownBlock] at hm2; omega))
   refine Zn (run_asg (v := v19) rfl η) ?_
   refine r_blk ?_
   refine r_region ?_
   refine Zo (run_add rfl η η ω ω) ?_
   refine Zn mvI ?_
   refine r_again (k + 1) ?_ ?_ ?_
   ·first | omega | (dsimp only; omega)
   ·refine ⟨_, σ, rfl, δ, B1, B1.at, (by first | (rw [filt_yes ω (levF_yes (c := (⟨[l0, l1, l2, l3, l4, l5, l6, l7, l8, l9, l10, l11, l12], sh, lo, ts, cl⟩ : Chk)) hc18)]; exact hov19) | (rw [filt_no ω (levF_no (c := (⟨[l0, l1, l2, l3, l4, l5, l6, l7, l8, l9, l10, l11, l12], sh, lo, ts, cl⟩ : Chk)) hc18)]; exact hov19)), δ, hV, hI6⟩
   exact ψ
  refine r_skip ?_
  refine r_blk ?_
  refine r_region ?_
  refine Zo (run_add rfl η η ω ω) ?_
  refine Zn mvI ?_
  refine r_again (k + 1) ?_ ?_ ?_
  ·first | omega | (dsimp only; omega)
  ·refine ⟨_, σ, rfl, δ, B1, B1.at, (by first | (rw [filt_yes ω (levF_yes (c := (⟨[l0, l1, l2, l3, l4, l5, l6, l7, l8, l9, l10, l11, l12], sh, lo, ts, cl⟩ : Chk)) hc18)]; exact hoo) | (rw [filt_no ω (levF_no (c := (⟨[l0, l1, l2, l3, l4, l5, l6, l7, l8, l9, l10, l11, l12], sh, lo, ts, cl⟩ : Chk)) hc18)]; exact hoo)), δ, hV, hI6⟩
  exact ψ
 refine r_exit rfl ?_
 refine Zs ?_
 refine Zo (run_mv (v := vo) rfl η) ?_
 refine Zr [vo, .func _ _ _] rfl η Tryz.func32 (sortF_calls hoo) ?_
 rintro e w21 ⟨rfl, F21, gs21, hsr21, hs21⟩
 refine ⟨_, rfl, ?_⟩
 have Q21 := F21.size
 replace hV := evo_stepo hV F21 (fun g hg => .inl (by first | exact (hoo.block hg).1 | (have := hoo.block hg; omega)))
 replace hI6 := evo_stepo hI6 F21 (fun g hg => .inl (by first | exact (hoo.block hg).1 | (have := hoo.block hg; omega)))
 replace hoo := hs21
 refine r_nil ?_
 refine Zs ?_
 refine Zo (run_mv (v := vo) rfl η) ?_
 refine Zn (run_asg (v := vo) rfl η) ?_
 refine r_ret (res1 (v := vo) rfl η) ?_
 rw [runF_ok (c := (⟨[l0, l1, l2, l3, l4, l5, l6, l7, l8, l9, l10, l11, l12], sh, lo, ts, cl⟩ : Chk)) (fun q => q hval), ← sortF_of2 (p := (levF (⟨[l0, l1, l2, l3, l4, l5, l6, l7, l8, l9, l10, l11, l12], sh, lo, ts, cl⟩ : Chk))) hpa5 (by have h9 := hsr21; rw [List.take_of_length_le ω] at h9; exact h9)]
 exact ⟨_, rfl, hV, hoo.base_le ω⟩
theorem ref1_calls {l0 l1 l2 l3 l4 l5 l6 l7 l8 l9 l10 l11 l12 sh lo : Int} {aot : Option Addr} {capt : Nat} {ts : List TermL} {aoc : Option Addr} {capc : Nat} {cl : List Clas} {bn : Nat} {x : Vc.Item} {w0 : World} (hn : Blk w0 bn 28 [.int .i64 l0, .int .i64 l1, .int .i64 l2, .int .i64 l3, .int .i64 l4, .int .i64 l5, .int .i64 l6, .int .i64 l7, .int .i64 l8, .int .i64 l9, .int .i64 l10, .int .i64 l11, .int .i64 l12, .int .i64 sh, .int .i64 lo, .slice aot ts.length capt, .slice aoc cl.length capc]) :
    Calls Tryz.prog 50 #[(.agg (Enc.enc x).toArray), .pointer (some ⟨bn, 0, none⟩)] w0 fun e w' => e = .returned (.bool (refB (⟨[l0, l1, l2, l3, l4, l5, l6, l7, l8, l9, l10, l11, l12], sh, lo, ts, cl⟩ : Chk) x)) ∧ Evo w0 w' [] := by
 have hAn := hn.at; have hnlt := hn.lt
 refine calls_enter (n := 20) Tryz.func50 rfl Tryz.ntmps50 rfl ?_
 have hV : Evo w0 w0 [] := Evo.refl _ _
 refine Zs ?_
 refine r_box (vs := [_, _, _]) η η rfl ?_
 intro b1 w2 J1 E2 B1 Y1
 have Q2 := E2.size
 replace hV := Z0 hV E2
 replace hAn := hAn.evo0 E2
 refine Zn asB ?_
 refine Zs ?_
 refine Zo (run_fa rfl η fo_39_0) ?_
 refine Zo (run_ld1 rfl ag_3 η (B1.at.cell 0 η)) ?_
 refine Zo (run_geq rfl η η) ?_
 refine Zo mvB ?_
 refine r_g rfl (wantT η) rfl (fun hg => run_fa rfl η fo_39_0) ?_
 refine r_g rfl (wantT η) rfl (fun hg => run_ld1 rfl ag_3 (glv η (fun h => h) hg) (B1.at.cell 0 η)) ?_
 refine r_g rfl (wantT η) rfl (fun hg => run_leq rfl (glv η (fun h => h) hg) η) ?_
 refine Zo (run_pick_and rfl η (fun hq => glv η (fun h => h) hq) rfl) ?_
 refine Zo mvB ?_
 refine r_g rfl (wantT η) rfl (fun hg => run_fa rfl η fo_39_0) ?_
 refine r_g rfl (wantT η) rfl (fun hg => run_ld1 rfl ag_3 (glv η (fun h => h) hg) (B1.at.cell 0 η)) ?_
 refine r_g rfl (wantT η) rfl (fun hg => run_fa rfl η fo_28_0) ?_
 refine r_g rfl (wantT η) rfl (fun hg => run_ixP (x.kind.toNat) rfl Tryz.underlying24 ty_3 (glv η (fun h => h) hg) (glv η (fun h => h) hg) ω ω) ?_
 refine r_g rfl (wantT η) rfl (fun hg => run_ld1 rfl ag_3 (glv η (fun h => h) hg) (cell_at (j := x.kind.toNat) hAn (by exact lev_at (l := ([l0, l1, l2, l3, l4, l5, l6, l7, l8, l9, l10, l11, l12] : List Int)) (rest := [.int .i64 sh, .int .i64 lo, .slice aot ts.length capt, .slice aoc cl.length capc]) (show x.kind.toNat < 13 by omega)) ω)) ?_
 refine r_g rfl (wantT η) rfl (fun hg => run_eql rfl (glv η (fun h => h) hg) η) ?_
 refine Zo (run_pick_and rfl η (fun hq => glv η (fun h => h) hq) rfl) ?_
 refine Zn asB ?_
 refine r_ret (res1 (v := .bool _) rfl η) ?_
 exact ⟨ret_bool rfl, hV⟩
theorem ixr_calls {l0 l1 l2 l3 l4 l5 l6 l7 l8 l9 l10 l11 l12 sh lo : Int} {aot : Option Addr} {capt : Nat} {ts : List TermL} {aoc : Option Addr} {capc : Nat} {cl : List Clas} {bn : Nat} {ao : Option Addr} {b off cap : Nat} {l : List Vc.Item} {w0 : World} (hl : RowE w0 ao b off cap l) (hn : Blk w0 bn 28 [.int .i64 l0, .int .i64 l1, .int .i64 l2, .int .i64 l3, .int .i64 l4, .int .i64 l5, .int .i64 l6, .int .i64 l7, .int .i64 l8, .int .i64 l9, .int .i64 l10, .int .i64 l11, .int .i64 l12, .int .i64 sh, .int .i64 lo, .slice aot ts.length capt, .slice aoc cl.length capc]) :
    Calls Tryz.prog 92 #[.slice ao l.length cap, .func (.func 50) #[] #[.pointer (some ⟨bn, 0, none⟩)]] w0 fun e w' => ∃ r : Int, e = .returned (.int .i64 r) ∧ Evo w0 w' [] ∧ (0 ≤ r ↔ refL (⟨[l0, l1, l2, l3, l4, l5, l6, l7, l8, l9, l10, l11, l12], sh, lo, ts, cl⟩ : Chk) l = true) := by
 have hAn := hn.at; have hnlt := hn.lt
 refine calls_enter (n := 19) Tryz.func92 rfl Tryz.ntmps92 rfl ?_
 have hV : Evo w0 w0 [] := Evo.refl _ _
 have hl0 := keepE hl
 have hbd_hl := hl.bd
 refine Zs ?_
 refine Zn asI ?_
 refine r_seq ?_
 refine Zs ?_
 refine Zo mvS ?_
 refine Zo (run_lenSl rfl η Tryz.underlying34) ?_
 refine Zn mvI ?_
 refine r_block ?_
 refine r_loop (α := Nat) [4, 5, 8, 9, 10, 11, 12, 13, 14, 15, 16, 17, 18] (fun k g w => g 8 = .int .i64 (k : Nat) ∧ k ≤ l.length ∧ Blk w bn 28 [.int .i64 l0, .int .i64 l1, .int .i64 l2, .int .i64 l3, .int .i64 l4, .int .i64 l5, .int .i64 l6, .int .i64 l7, .int .i64 l8, .int .i64 l9, .int .i64 l10, .int .i64 l11, .int .i64 l12, .int .i64 sh, .int .i64 lo, .slice aot ts.length capt, .slice aoc cl.length capc] ∧ (∀ j, j < k → ¬ refB (⟨[l0, l1, l2, l3, l4, l5, l6, l7, l8, l9, l10, l11, l12], sh, lo, ts, cl⟩ : Chk) (l.getD j default) = true) ∧ w0.heap.size ≤ w.heap.size ∧ Evo w0 w []) (fun k => l.length - k) 0 ?_ ?_
 ·refine ⟨σ, δ, hn, (fun j h => by omega), δ, hV⟩
 rintro k g w2 ⟨hj3, hk_k, hn, hno, hzl1, hV⟩
 have hs_w2hV := hV.size
 have hlt4 := hn.lt
 replace hl := hl0 _ hV
 refine Zk 8 (v := .int .i64 (k : Nat)) (by exact hj3) ?_
 refine Zs ?_
 refine Zn (run_lss rfl η η) ?_
 refine r_seq ?_
 refine r_cond η (fun hc5 => ?_) (fun hc5 => ?_)
 ·skip
  refine r_skip ?_
  refine r_seq ?_
  refine r_block ?_
  refine Zs ?_
  refine Zo mvI ?_
  refine Zn asI ?_
  refine Zs ?_
  refine Zo (run_mv (v := .func _ _ _) rfl η) ?_
  refine Zo mvS ?_
  refine Zo mvI ?_
  refine Zo (run_ix (k) rfl Tryz.underlying34 ty_39 η η (by first | exact rfl | omega) ω (hl.addr (i := k) ω)) ?_
  have hA60 := fun (w' : World) (h : Evo w0 w' []) => (hl0 w' h).atD (k) ω
  have hA6 := hA60 _ hV
  refine Zo (run_ldN rfl ag_39 ty_39 η rfl hA6) ?_
  refine r_opcall rfl rfl rfl (run_callfn (vs := [.agg _]) (cs := [.pointer (some ⟨bn, 0, none⟩)]) rfl η η Tryz.func50 rfl ζ) (ref1_calls hn) ?_
  rintro e w7 ⟨rfl, F7⟩
  refine ⟨_, rfl, ?_⟩
  have Q7 := F7.size
  replace hV := Z0 hV F7
  replace hl := hl0 _ hV
  replace hn := hn.evo0 F7
  refine r_nil ?_
  refine r_condb η (fun hc8 => ?_) (fun hc8 => ?_)
  ·skip
   refine Zs ?_
   refine Zo mvI ?_
   refine Zn asI ?_
   refine r_ret (res1 (v := .int _ _) rfl η) ?_
   exact ⟨_, rfl, hV, ⟨fun _ => anyI_yes ω hc8, fun _ => by omega⟩⟩
  refine r_skip ?_
  refine r_blk ?_
  refine r_region ?_
  refine Zo (run_add rfl η η ω ω) ?_
  refine Zn mvI ?_
  refine r_again (k + 1) ?_ ?_ ?_
  ·first | omega | (dsimp only; omega)
  ·refine ⟨σ, δ, hn, (upto0 hno (by rw [hc8]; decide)), δ, hV⟩
  exact ψ
 refine r_exit rfl ?_
 refine Zs ?_
 refine Zn asI ?_
 refine r_ret (res1 (v := .int _ _) rfl η) ?_
 exact ⟨_, rfl, hV, ⟨fun h9 => absurd h9 ω, fun h9 => absurd h9 (anyI_no (fun j hj => hno j ω))⟩⟩
theorem ctr_calls {l0 l1 l2 l3 l4 l5 l6 l7 l8 l9 l10 l11 l12 sh lo : Int} {aot : Option Addr} {capt : Nat} {ts : List TermL} {aoc : Option Addr} {capc : Nat} {cl : List Clas} {bn : Nat} {ao : Option Addr} {b off cap : Nat} {l : List Vc.Item} {w0 : World} (hl : RowE w0 ao b off cap l) (hn : Blk w0 bn 28 [.int .i64 l0, .int .i64 l1, .int .i64 l2, .int .i64 l3, .int .i64 l4, .int .i64 l5, .int .i64 l6, .int .i64 l7, .int .i64 l8, .int .i64 l9, .int .i64 l10, .int .i64 l11, .int .i64 l12, .int .i64 sh, .int .i64 lo, .slice aot ts.length capt, .slice aoc cl.length capc]) :
    Calls Tryz.prog 49 #[.slice ao l.length cap, .func (.func 50) #[] #[.pointer (some ⟨bn, 0, none⟩)]] w0 fun e w' => e = .returned (.bool (refL (⟨[l0, l1, l2, l3, l4, l5, l6, l7, l8, l9, l10, l11, l12], sh, lo, ts, cl⟩ : Chk) l)) ∧ Evo w0 w' [] := by
 have hnlt := hn.lt
 refine calls_enter (n := 9) Tryz.func49 rfl Tryz.ntmps49 rfl ?_
 have hV : Evo w0 w0 [] := Evo.refl _ _
 have hl0 := keepE hl
 have hbd_hl := hl.bd
 refine Zs ?_
 refine Zn asB ?_
 refine Zs ?_
 refine Zo mvS ?_
 refine Zo (run_mv (v := .func _ _ _) rfl η) ?_
 refine Zr [.slice _ _ _, .func _ _ _] rfl η Tryz.func92 (ixr_calls hl hn) ?_
 rintro e w1 ⟨r1, rfl, F1, hri1⟩
 refine ⟨_, rfl, ?_⟩
 have Q1 := F1.size
 replace hV := Z0 hV F1
 replace hl := hl0 _ hV
 replace hn := hn.evo0 F1
 refine Zo (run_geq rfl η η) ?_
 refine Zn asB ?_
 refine r_ret (res1 (v := .bool _) rfl η) ?_
 exact ⟨ret_bool (by have h9 := hri1; cases h8 : refL (⟨[l0, l1, l2, l3, l4, l5, l6, l7, l8, l9, l10, l11, l12], sh, lo, ts, cl⟩ : Chk) l <;> simp_all), hV⟩
theorem refused_calls {l0 l1 l2 l3 l4 l5 l6 l7 l8 l9 l10 l11 l12 sh lo : Int} {aot : Option Addr} {bt ot capt : Nat} {ts : List TermL} {aoc : Option Addr} {bc oc capc : Nat} {cl : List Clas} {ao : Option Addr} {b off cap : Nat} {l : List Vc.Item} {w0 : World} (hl : RowE w0 ao b off cap l) (hts : RowR w0 aot bt ot capt ts) (hcl : RowR w0 aoc bc oc capc cl) :
    Calls Tryz.prog 25 #[.agg #[.int .i64 l0, .int .i64 l1, .int .i64 l2, .int .i64 l3, .int .i64 l4, .int .i64 l5, .int .i64 l6, .int .i64 l7, .int .i64 l8, .int .i64 l9, .int .i64 l10, .int .i64 l11, .int .i64 l12, .int .i64 sh, .int .i64 lo, .slice aot ts.length capt, .slice aoc cl.length capc], .slice ao l.length cap] w0 fun e w' => e = .returned (.bool (refL (⟨[l0, l1, l2, l3, l4, l5, l6, l7, l8, l9, l10, l11, l12], sh, lo, ts, cl⟩ : Chk) l)) ∧ Evo w0 w' [] := by
 refine calls_enter (n := 8) Tryz.func25 rfl Tryz.ntmps25 rfl ?_
 have hV : Evo w0 w0 [] := Evo.refl _ _
 have hl0 := keepE hl
 have hbd_hl := hl.bd
 have hts0 := hts.keep
 have hbd_hts := hts.bd
 have hcl0 := hcl.keep
 have hbd_hcl := hcl.bd
 refine Zs ?_
 refine r_box (vs := [_, _, _, _, _, _, _, _, _, _, _, _, _, _, _, _, _]) η η rfl ?_
 intro b1 w2 J1 E2 B1 Y1
 have Q2 := E2.size
 replace hV := Z0 hV E2
 replace hl := hl0 _ hV
 refine Zn asB ?_
 refine Zs ?_
 refine Zo mvS ?_
 refine Zo (run_mkF (vs := [.pointer _]) rfl η) ?_
 refine Zr [.slice _ _ _, .func _ _ _] rfl η Tryz.func49 (ctr_calls hl B1) ?_
 rintro e w3 ⟨rfl, F3⟩
 refine ⟨_, rfl, ?_⟩
 have Q3 := F3.size
 replace hV := Z0 hV F3
 refine Zn asB ?_
 refine r_ret (res1 (v := .bool _) rfl η) ?_
 exact ⟨rfl, hV⟩
def rawW : List Str := [[], [98], [97, 98, 32, 99], [97, 32, 104, 61, 49], [66], [110, 47], [105], [32, 120]]
theorem rawW_bd : ∀ j, j < 8 → (rawW.getD j default).length ≤ 5 := by decide
end Go.Proofs.YtlfjocbnbceceaaGreatDoor
namespace Go.Vc
open Go Go.RowKit
section
variable {P : Program} {B : Exit → Act → World → Prop} {n : Nat} {k : List Kont} {f : Fr} {w : World} {ops : Array Oper} {S : World → Prop} {fuel : Nat} {d : List Nat}
theorem h_join (D : List Nat) (fuel2 : Nat) (M : List Nat) (J : Fr → World → Prop) (h2 : ∀ g w', J g w' → HA P B n k S ops fuel2 D (merge M f g) w')
    (h1 : (∀ (g : Fr) (w' : World) (D2 : List Nat), lst ops D2 = lst ops D → J g w' → Agree M f g → HA P B n k S ops fuel2 D2 g w') → HA P B n k S ops fuel d f w) : HA P B n k S ops fuel d f w :=
  h1 (fun g w' D2 he hj ha a hi => by
    have h3 := h2 g w' hj
    rw [merge_of ha] at h3
    rw [he]; exact h3 a hi)
end
end Go.Vc
