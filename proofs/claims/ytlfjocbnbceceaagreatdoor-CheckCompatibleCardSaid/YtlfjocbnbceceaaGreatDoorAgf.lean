/-
  Library, plain laws and walks that the statements reach (joined by a program out of smaller texts).
-/
import Derived.Test.YtlfjocbnbceceaaGreatDoorAge
import Derived.Shelf.SlSortCmp.NoneTotal
import Derived.Test.YtlfjocbnbceceaaGreatDoorProg
import Derived.Test.YtlfjocbnbceceaaGreatDoorAgd
import Derived.Test.YtlfjocbnbceceaaGreatDoorAga
import Derived.Test.YtlfjocbnbceceaaGreatDoorAgb
set_option linter.unusedVariables false
set_option linter.unusedSimpArgs false
namespace Go.Proofs.YtlfjocbnbceceaaGreatDoor
open Go.RowKit Go.Vc
set_option maxHeartbeats 4000000 in
theorem all_calls {l0 l1 l2 l3 l4 l5 l6 l7 l8 l9 l10 l11 l12 sh lo : Int} {aot : Option Addr} {bt ot capt : Nat} {ts : List TermL} {aoc : Option Addr} {bc oc capc : Nat} {cl : List Clas} {aof : Option Addr} {bf of9 capf : Nat} {f : List Vc.Item} {aog : Option Addr} {bg og capg : Nat} {gg : List Vc.Item} {w0 : World} (hts : RowR w0 aot bt ot capt ts) (hcl : RowR w0 aoc bc oc capc cl) (hf : RowE w0 aof bf of9 capf f) (hg : RowE w0 aog bg og capg gg) (htf : Tiny f) (htg : Tiny gg) (hif : ∀ x ∈ tagsL f, InR x) (hig : ∀ x ∈ tagsL gg, InR x) (hz : ts.length ≤ 40) (hjb : ∀ x ∈ ts, JudT x) (htab : Tab w0) (hn : (0 ≤ sh ∧ sh ≤ 100) ∧ (lo = 0 ∨ (100 ≤ lo ∧ lo ≤ 10000))) :
    Calls Tryz.prog 31 #[.agg #[.int .i64 l0, .int .i64 l1, .int .i64 l2, .int .i64 l3, .int .i64 l4, .int .i64 l5, .int .i64 l6, .int .i64 l7, .int .i64 l8, .int .i64 l9, .int .i64 l10, .int .i64 l11, .int .i64 l12, .int .i64 sh, .int .i64 lo, .slice aot ts.length capt, .slice aoc cl.length capc], .slice aof f.length capf, .slice aog gg.length capg] w0 fun e w' => ∃ v q, e = .returned v ∧ Evo w0 w' [] ∧ OwnE w' w0.heap.size 39 v q ∧ q.Perm (findL (⟨[l0, l1, l2, l3, l4, l5, l6, l7, l8, l9, l10, l11, l12], sh, lo, ts, cl⟩ : Chk) f gg) := by
 have htab := fun w9 (h9 : Evo w0 w9 []) => htab.evo0 h9
 refine calls_enter (n := 57) Tryz.func31 rfl Tryz.ntmps31 rfl ?_
 have hV : Evo w0 w0 [] := Evo.refl _ _
 have hts0 := hts.keep
 have hbd_hts := hts.bd
 have hcl0 := hcl.keep
 have hbd_hcl := hcl.bd
 have hf0 := keepE hf
 have hbd_hf := hf.bd
 have hg0 := keepE hg
 have hbd_hg := hg.bd
 have htab0 := htab
 refine Zs ?_
 refine r_box (vs := [_, _, _, _, _, _, _, _, _, _, _, _, _, _, _, _, _]) η η rfl ?_
 intro b1 w2 J1 E2 B1 Y1
 have Q2 := E2.size
 replace hV := Z0 hV E2
 replace hf := hf0 _ hV
 replace hg := hg0 _ hV
 have hAb1 := B1.at
 refine Zn asS ?_
 refine r_seq ?_
 refine Zs ?_
 refine Zo mvS ?_
 refine Zo (run_lenSl rfl η Tryz.underlying33) ?_
 refine Zo (run_eql rfl η η) ?_
 refine Zo mvB ?_
 refine r_g rfl (wantT η) rfl (fun hg => mvS) ?_
 refine r_g rfl (wantT η) rfl (fun hg => run_lenSl rfl (glv η (fun h => h) hg) Tryz.underlying33) ?_
 refine r_g rfl (wantT η) rfl (fun hg => run_gtr rfl (glv η (fun h => h) hg) η) ?_
 refine Zn (run_pick_and rfl η (fun hq => glv η (fun h => h) hq) rfl) ?_
 refine r_cond η (fun hc3 => ?_) (fun hc3 => ?_)
 ·skip
  refine Zs ?_
  refine Zo (run_bld (pv := [(0, .int _ _)]) (zs := [_, _, _]) (cells := [_, _, _]) rfl ty_39 η pl_39 η η) ?_
  refine r_bslice (pv := [(0, .agg _)]) (zs := [_, _, _]) (cs := [_, _, _]) Tryz.underlying34 ty_39 η rfl η rfl η ?_
  intro b4 w5 J4 E5 B4 Y4
  have Q5 := E5.size
  replace hV := Z0 hV E5
  have hob4 : OwnE w5 w0.heap.size 39 (.slice (some ⟨b4, 0, none⟩) 1 1) ([⟨1, [], 0⟩] : List Vc.Item) := ownE_lit ([⟨1, [], 0⟩] : List Vc.Item) B4 rfl ω (by simp)
  refine Zn (run_asg (v := (.slice (some ⟨b4, 0, none⟩) 1 1)) rfl η) ?_
  refine r_ret (res1 (v := (.slice (some ⟨b4, 0, none⟩) 1 1)) rfl η) ?_
  have hf1 : findL (⟨[l0, l1, l2, l3, l4, l5, l6, l7, l8, l9, l10, l11, l12], sh, lo, ts, cl⟩ : Chk) f gg = [⟨1, [], 0⟩] := by unfold findL; rw [if_pos (show hidB f gg from ⟨by omega, by omega⟩)]
  exact ⟨_, _, rfl, hV, hob4, by rw [hf1]⟩
 refine r_skip ?_
 refine Zs ?_
 refine Zn asS ?_
 refine Zs ?_
 refine Zo mvS ?_
 refine Zr [.slice _ _ _] rfl η Tryz.func59 (tokens_calls hf htf.tk) ?_
 rintro e w6 ⟨vt6, rfl, hE6, hot6⟩
 refine ⟨_, rfl, ?_⟩
 have Q6 := hE6.size
 replace hV := Z0 hV hE6
 replace hg := hg0 _ hV
 replace B1 := B1.evo0 hE6
 replace hAb1 := hAb1.evo0 hE6
 refine Zo mvS ?_
 refine Zr [.slice _ _ _] rfl η Tryz.func59 (tokens_calls hg htg.tk) ?_
 rintro e w7 ⟨vt7, rfl, hE7, hot7⟩
 refine ⟨_, rfl, ?_⟩
 have Q7 := hE7.size
 replace hV := Z0 hV hE7
 replace hf := hf0 _ hV
 replace hg := hg0 _ hV
 replace B1 := B1.evo0 hE7
 replace hAb1 := hAb1.evo0 hE7
 replace hot6 := hot6.evo0 hE7
 refine Zo (run_asg (v := vt6) rfl η) ?_
 refine Zn (run_asg (v := vt7) rfl η) ?_
 refine r_seq ?_
 have hI5 : Evo w7 w7 [] := Evo.refl _ _
 obtain ⟨ao8, g8, cp8, hv8, hr8, hg8⟩ := hot6.rowOf
 subst hv8
 have hr80 := keepE hr8
 obtain ⟨ao9, g9, cp9, hv9, hr9, hg9⟩ := hot7.rowOf
 subst hv9
 have hr90 := keepE hr9
 have hol : OwnE w7 w7.heap.size 39 (.slice none 0 0) ([] : List Vc.Item) := OwnE.nil _ _ _
 have hFL := fLens (c := (⟨[l0, l1, l2, l3, l4, l5, l6, l7, l8, l9, l10, l11, l12], sh, lo, ts, cl⟩ : Chk)) htf htg; have hB1 := hFL.same; have hB2 := hFL.slot; have hB3 := hFL.tag; have hB4 := hFL.shape; have hB5 := hFL.num; have hB6 := hFL.plain; have hQ9 := htf.tlen; have hQ10 := htg.tlen; have hQ11 := htf.plen; have hQ12 := htg.plen
 refine r_region ?_
 refine Zn (run_asg (v := .func _ _ _) rfl η) ?_
 refine r_seq ?_
 refine Zs ?_
 refine Zo mvS ?_
 refine Zo mvS ?_
 refine Zr [.slice _ _ _, .slice _ _ _] rfl η Tryz.func61 (isame_calls hf hg) ?_
 rintro e w10 ⟨rfl, hE10⟩
 refine ⟨_, rfl, ?_⟩
 have Q10 := hE10.size
 replace hV := Z0 hV hE10
 replace hI5 := Z0 hI5 hE10
 replace hg := hg0 _ hV
 replace B1 := B1.evo0 hE10
 replace hAb1 := hAb1.evo0 hE10
 replace hr8 := hr80 _ hI5
 replace hol := hol.evo0 hE10
 refine Zo mvB ?_
 refine r_g rfl (wantT η) rfl (fun hg => mvS) ?_
 refine r_g rfl (wantT η) rfl (fun hg => run_mv (v := .func _ _ _) rfl η) ?_
 refine r_gcall rfl (wantT η) rfl (fun hg => run_callf rfl (argcons (v := .slice _ _ _) (glv η (fun h => h) hg) (argcons (v := .func _ _ _) (glv η (fun h => h) hg) (rfl))) Tryz.func62 rfl ζ) (fun hg => (ctw_calls hr8).mono (fun e w' h => ⟨h.1, h.2⟩)) (fun w11 hE12 => ?_)
 have Q11 := hE12.size
 replace hV := Z0 hV hE12
 replace hI5 := Z0 hI5 hE12
 replace hts := hts0.now hV
 replace hcl := hcl0.now hV
 replace hf := hf0 _ hV
 replace hg := hg0 _ hV
 replace htab := htab0 _ hV
 replace B1 := B1.evo0 hE12
 replace hAb1 := hAb1.evo0 hE12
 replace hr8 := hr80 _ hI5
 replace hr9 := hr90 _ hI5
 replace hol := hol.evo0 hE12
 refine Zn (run_pick_andB rfl η (fun hq => glv η (fun h => h) hq) rfl) ?_
 refine r_cut [7, 33, 34, 35, 36] (fun g w => ∃ vo : Value, g 7 = vo ∧ OwnE w w7.heap.size 39 vo ([] ++ sameF f gg) ∧ Blk w b1 28 [.int .i64 l0, .int .i64 l1, .int .i64 l2, .int .i64 l3, .int .i64 l4, .int .i64 l5, .int .i64 l6, .int .i64 l7, .int .i64 l8, .int .i64 l9, .int .i64 l10, .int .i64 l11, .int .i64 l12, .int .i64 sh, .int .i64 lo, .slice aot ts.length capt, .slice aoc cl.length capc] ∧ At w b1 0 [.int .i64 l0, .int .i64 l1, .int .i64 l2, .int .i64 l3, .int .i64 l4, .int .i64 l5, .int .i64 l6, .int .i64 l7, .int .i64 l8, .int .i64 l9, .int .i64 l10, .int .i64 l11, .int .i64 l12, .int .i64 sh, .int .i64 lo, .slice aot ts.length capt, .slice aoc cl.length capc] ∧ w11.heap.size ≤ w.heap.size ∧ Evo w0 w [] ∧ Evo w7 w []) ?_ ?_
 ·skip
  refine r_cond η (fun hc14 => ?_) (fun hc14 => ?_)
  ·skip
   refine r_region ?_
   refine Zo (run_mv (v := (.slice none 0 0)) rfl η) ?_
   refine Zo (run_bld (pv := [(0, .int _ _)]) (zs := [_, _, _]) (cells := [_, _, _]) rfl ty_39 η pl_39 η η) ?_
   refine r_append1E (u := .agg _) (y := (⟨2, [], 0⟩ : Vc.Item)) rfl rfl Tryz.underlying34 ty_39 η hol (fun _ => η) η (by first | exact rfl | (show _ = List.toArray [_, _, _]; first | (dsimp only; done) | exact rfl | (dsimp only; exact rfl))) ((by simp only [List.length_append, List.length_nil]; omega)) ((by simp only [List.length_append, List.length_nil]; omega)) ω ?_
   intro q_v15 v15 w16 E16 hov15 hlv15
   have Q16 := E16.size
   replace hV := evo_stepo hV E16 (fun g hg => .inl (by first | exact (hol.block hg).1 | (have := hol.block hg; omega)))
   replace hI5 := evo_stepo hI5 E16 (fun g hg => .inl (by first | exact (hol.block hg).1 | (have := hol.block hg; omega)))
   replace hts := hts0.now hV
   replace hcl := hcl0.now hV
   replace hf := hf0 _ hV
   replace hg := hg0 _ hV
   replace htab := htab0 _ hV
   replace B1 := B1.evo E16 (by intro hm; have hm2 := Option.mem_toList.1 hm; first | (have := hol.block hm2; omega) | (simp [Value.ownBlock] at hm2; omega))
   replace hAb1 := hAb1.evo E16 (by intro hm; have hm2 := Option.mem_toList.1 hm; first | (have := hol.block hm2; omega) | (simp [Value.ownBlock] at hm2; omega))
   replace hr8 := hr80 _ hI5
   replace hr9 := hr90 _ hI5
   refine Zn (run_asg (v := v15) rfl η) ?_
   refine r_cut_end ?_ ?_
   ·refine ⟨_, rfl, (by first | (rw [show sameF f gg = _ from if_pos hc14]; exact hov15) | (rw [show sameF f gg = [] from if_neg hc14]; exact hov15)), B1, B1.at, δ, hV, hI5⟩
   exact ψ
  refine r_skip ?_
  refine r_cut_end ?_ ?_
  ·refine ⟨_, rfl, (by first | (rw [show sameF f gg = _ from if_pos hc14]; exact hol) | (rw [show sameF f gg = [] from if_neg hc14]; exact hol)), B1, B1.at, δ, hV, hI5⟩
  exact ψ
 rintro g w17 ⟨vo, hj18, hol, B1, hAb1, hzl13, hV, hI5⟩
 have hs_w17hV := hV.size
 have hs_w17hI5 := hI5.size
 have hlt19 := B1.lt
 replace hg := hg0 _ hV
 refine Zk 7 (v := vo) (by exact hj18) ?_
 refine Zs ?_
 refine Zo (run_mv (v := vo) rfl η) ?_
 refine Zo mvS ?_
 refine Zo mvS ?_
 refine Zr [vo, .slice _ _ _, .slice _ _ _] rfl η Tryz.func63 (counted_calls hol ω (fun w9 h9 => hf0 _ (evo_stepo hV h9 (fun g hg => .inl (by have := (hol.block hg).1; omega)))) (fun w9 h9 => hg0 _ (evo_stepo hV h9 (fun g hg => .inl (by have := (hol.block hg).1; omega)))) (fun w9 h9 => htab0 _ (evo_stepo hV h9 (fun g hg => .inl (by have := (hol.block hg).1; omega)))) htf htg hif hig (by simp only [List.length_append, List.length_nil]; omega)) ?_
 rintro e w20 ⟨vc20, rfl, hE20, ⟨q1_20, q2_20, q3_20, hq1_20, hq2_20, hq3_20, hoc20⟩, hac20⟩
 refine ⟨_, rfl, ?_⟩
 have Q20 := hE20.size
 replace hV := evo_stepo hV hE20 (fun g hg => .inl (by first | exact (hol.block hg).1 | (have := hol.block hg; omega)))
 replace hI5 := evo_stepo hI5 hE20 (fun g hg => .inl (by first | exact (hol.block hg).1 | (have := hol.block hg; omega)))
 replace hg := hg0 _ hV
 replace B1 := B1.evo hE20 (by intro hm; have hm2 := Option.mem_toList.1 hm; first | (have := hol.block hm2; omega) | (simp [Value.ownBlock] at hm2; omega))
 replace hAb1 := hAb1.evo hE20 (by intro hm; have hm2 := Option.mem_toList.1 hm; first | (have := hol.block hm2; omega) | (simp [Value.ownBlock] at hm2; omega))
 have hol := hoc20
 have hl1 := hq1_20.length_eq; have hl2 := hq2_20.length_eq; have hl3 := hq3_20.length_eq
 refine Zn (run_asg (v := vc20) rfl η) ?_
 refine Zs ?_
 refine Zo (run_mv (v := vc20) rfl η) ?_
 refine Zo mvS ?_
 refine Zo mvS ?_
 refine Zr [vc20, .slice _ _ _, .slice _ _ _] rfl η Tryz.func64 (nested_calls hol ω (fun w9 h9 => hf0 _ (evo_stepo hV h9 (fun g hg => .inl (by have := (hol.block hg).1; omega)))) (fun w9 h9 => hg0 _ (evo_stepo hV h9 (fun g hg => .inl (by have := (hol.block hg).1; omega)))) htf htg (by simp only [List.length_append, List.length_nil]; omega)) ?_
 rintro e w21 ⟨vc21, rfl, hE21, hoc21, hac21⟩
 refine ⟨_, rfl, ?_⟩
 have Q21 := hE21.size
 replace hV := evo_stepo hV hE21 (fun g hg => .inl (by first | exact (hol.block hg).1 | (have := hol.block hg; omega)))
 replace hI5 := evo_stepo hI5 hE21 (fun g hg => .inl (by first | exact (hol.block hg).1 | (have := hol.block hg; omega)))
 replace hg := hg0 _ hV
 replace B1 := B1.evo hE21 (by intro hm; have hm2 := Option.mem_toList.1 hm; first | (have := hol.block hm2; omega) | (simp [Value.ownBlock] at hm2; omega))
 replace hAb1 := hAb1.evo hE21 (by intro hm; have hm2 := Option.mem_toList.1 hm; first | (have := hol.block hm2; omega) | (simp [Value.ownBlock] at hm2; omega))
 have hol := hoc21
 refine Zn (run_asg (v := vc21) rfl η) ?_
 refine r_seq ?_
 refine r_cut [7, 45, 46, 47, 48, 49, 50, 51] (fun g w => ∃ vo : Value, g 7 = vo ∧ OwnE w w7.heap.size 39 vo ([] ++ sameF f gg ++ (q1_20 ++ (q2_20 ++ q3_20)) ++ shapeF f gg ++ plainF (⟨[l0, l1, l2, l3, l4, l5, l6, l7, l8, l9, l10, l11, l12], sh, lo, ts, cl⟩ : Chk) (plainL f) (plainL gg)) ∧ Blk w b1 28 [.int .i64 l0, .int .i64 l1, .int .i64 l2, .int .i64 l3, .int .i64 l4, .int .i64 l5, .int .i64 l6, .int .i64 l7, .int .i64 l8, .int .i64 l9, .int .i64 l10, .int .i64 l11, .int .i64 l12, .int .i64 sh, .int .i64 lo, .slice aot ts.length capt, .slice aoc cl.length capc] ∧ At w b1 0 [.int .i64 l0, .int .i64 l1, .int .i64 l2, .int .i64 l3, .int .i64 l4, .int .i64 l5, .int .i64 l6, .int .i64 l7, .int .i64 l8, .int .i64 l9, .int .i64 l10, .int .i64 l11, .int .i64 l12, .int .i64 sh, .int .i64 lo, .slice aot ts.length capt, .slice aoc cl.length capc] ∧ w21.heap.size ≤ w.heap.size ∧ Evo w0 w [] ∧ Evo w7 w []) ?_ ?_
 ·skip
  have hbb1_q := B1
  have hAb1_q := hAb1
  have hV_q := hV
  have hI5_q := hI5
  have hol_own := fun {g : Nat} (hg : _ = some g) => hol.block (g := g) hg
  refine h_region (vc21.ownBlock.toList) ζ ?_
  intro w23 hE24 hCst10
  have Q23 := hE24.size
  replace hV := Z0 hV hE24
  replace hI5 := Z0 hI5 hE24
  replace hf := hf0 _ hV
  replace hg := hg0 _ hV
  replace B1 := B1.evo0 hE24
  replace hAb1 := hAb1.evo0 hE24
  replace hol := hol.evo0 hE24
  refine Zt (i := 0) η (fun w' hC => run_mv (v := vc21) rfl η) hCst10 ?_
  refine Zt (i := 1) η (fun w' hC => run_ldN rfl ag_28 ty_28 η rfl (hAb1_q.evo hC (fun hg => by have h8 := hol_own (Option.mem_toList.1 hg); omega))) hCst10 ?_
  refine Zt (i := 2) η (fun w' hC => mvS) hCst10 ?_
  refine Zt (i := 4) η (fun w' hC => mvS) hCst10 ?_
  refine Zh (i := 3) ?_
  refine Zr [.slice _ _ _] rfl η Tryz.func66 (plain_calls hf htf.small) ?_
  rintro e w25 ⟨rfl, hE25⟩
  refine ⟨_, rfl, ?_⟩
  have Q25 := hE25.size
  replace hV := Z0 hV hE25
  replace hI5 := Z0 hI5 hE25
  replace hCst10 := Z0 hCst10 hE25
  replace hg := hg0 _ hV
  replace B1 := B1.evo0 hE25
  replace hAb1 := hAb1.evo0 hE25
  replace hol := hol.evo0 hE25
  refine h_next hCst10 ?_
  refine Zh (i := 5) ?_
  refine Zr [.slice _ _ _] rfl η Tryz.func66 (plain_calls hg htg.small) ?_
  rintro e w26 ⟨rfl, hE26⟩
  refine ⟨_, rfl, ?_⟩
  have Q26 := hE26.size
  replace hV := Z0 hV hE26
  replace hI5 := Z0 hI5 hE26
  replace hCst10 := Z0 hCst10 hE26
  replace hg := hg0 _ hV
  replace B1 := B1.evo0 hE26
  replace hAb1 := hAb1.evo0 hE26
  replace hol := hol.evo0 hE26
  refine h_next hCst10 ?_
  refine Zh (i := 6) ?_
  refine Zr [vc21, .agg _, S _, S _] rfl η Tryz.func65 (oplain_calls hol ω (hts0.pass hV (fun x hx => .inl (by have := (hol.block (Option.mem_toList.1 hx)).1; omega))) (hcl0.pass hV (fun x hx => .inl (by have := (hol.block (Option.mem_toList.1 hx)).1; omega))) hn (by simp only [List.length_append, List.length_nil]; omega) ω ω) ?_
  rintro e w27 ⟨vc27, rfl, hE27, hoc27, hac27⟩
  refine ⟨_, rfl, ?_⟩
  have Q27 := hE27.size
  replace hV := evo_stepo hV hE27 (fun g hg => .inl (by first | exact (hol.block hg).1 | (have := hol.block hg; omega)))
  replace hI5 := evo_stepo hI5 hE27 (fun g hg => .inl (by first | exact (hol.block hg).1 | (have := hol.block hg; omega)))
  replace hCst10 := evo_stepo hCst10 hE27 (fun g hg => .inr (Option.mem_toList.2 hg))
  replace hts := hts0.now hV
  replace hcl := hcl0.now hV
  replace hf := hf0 _ hV
  replace hg := hg0 _ hV
  replace htab := htab0 _ hV
  replace hr8 := hr80 _ hI5
  replace hr9 := hr90 _ hI5
  replace B1 := B1.evo hE27 (by intro hm; have hm2 := Option.mem_toList.1 hm; first | (have := hol.block hm2; omega) | (simp [Value.ownBlock] at hm2; omega))
  replace hAb1 := hAb1.evo hE27 (by intro hm; have hm2 := Option.mem_toList.1 hm; first | (have := hol.block hm2; omega) | (simp [Value.ownBlock] at hm2; omega))
  refine h_next hCst10 ?_
  refine Zt (i := 7) η (fun w' hC => run_asg (v := vc27) rfl η) hCst10 ?_
  refine h_done ζ ?_
  refine r_cut_end ?_ ?_
  ·refine ⟨_, rfl, hoc27, B1, B1.at, δ, hV, hI5⟩
  exact ψ
 rintro g w28 ⟨vo, hj29, hol, B1, hAb1, hzl22, hV, hI5⟩
 have hs_w28hV := hV.size
 have hs_w28hI5 := hI5.size
 have hlt30 := B1.lt
 replace hg := hg0 _ hV
 refine Zk 7 (v := vo) (by exact hj29) ?_
 refine Zs ?_
 refine Zo (run_mv (v := vo) rfl η) ?_
 refine Zo (run_ldN rfl ag_28 ty_28 η rfl hAb1) ?_
 refine Zo mvS ?_
 refine Zo mvS ?_
 refine Zr [vo, .agg _, .slice _ _ _, .slice _ _ _] rfl η Tryz.func67 (terms_calls hol ω (hts0.pass hV (fun x hx => .inl (by have := (hol.block (Option.mem_toList.1 hx)).1; omega))) (hcl0.pass hV (fun x hx => .inl (by have := (hol.block (Option.mem_toList.1 hx)).1; omega))) (fun w9 h9 => hr80 _ (evo_stepo hI5 h9 (fun g hg => .inl (by have := (hol.block hg).1; omega)))) (fun w9 h9 => hr90 _ (evo_stepo hI5 h9 (fun g hg => .inl (by have := (hol.block hg).1; omega)))) (fun x hx => Nat.le_trans (htf.ttx x hx) (by decide)) (fun x hx => Nat.le_trans (htg.ttx x hx) (by decide)) ω ω (by simp only [List.length_append, List.length_nil]; omega) hz hjb) ?_
 rintro e w31 ⟨vc31, rfl, hE31, hoc31, hac31⟩
 refine ⟨_, rfl, ?_⟩
 have Q31 := hE31.size
 replace hV := evo_stepo hV hE31 (fun g hg => .inl (by first | exact (hol.block hg).1 | (have := hol.block hg; omega)))
 replace hI5 := evo_stepo hI5 hE31 (fun g hg => .inl (by first | exact (hol.block hg).1 | (have := hol.block hg; omega)))
 refine Zn (run_asg (v := vc31) rfl η) ?_
 refine r_ret (res1 (v := vc31) rfl η) ?_
 have hf2 : findL (⟨[l0, l1, l2, l3, l4, l5, l6, l7, l8, l9, l10, l11, l12], sh, lo, ts, cl⟩ : Chk) f gg = findA (⟨[l0, l1, l2, l3, l4, l5, l6, l7, l8, l9, l10, l11, l12], sh, lo, ts, cl⟩ : Chk) f gg := by unfold findL; rw [if_neg (show ¬ hidB f gg from fun q => hc3 ⟨by have := q.1; omega, by have := q.2; omega⟩)]
 have h9 := all_perm (c := (⟨[l0, l1, l2, l3, l4, l5, l6, l7, l8, l9, l10, l11, l12], sh, lo, ts, cl⟩ : Chk)) hq1_20 hq2_20 hq3_20
 unfold termF at h9
 rw [← List.append_assoc] at h9
 exact ⟨_, _, rfl, hV, hoc31.base_le ω, by rw [hf2]; exact h9⟩
end Go.Proofs.YtlfjocbnbceceaaGreatDoor
namespace Go.Proofs
open Go.Shelf
def Tryz.sortFind_ren : Go.Shelf.Ren := ⟨fun | 6 => 32 | 15 => 69 | 14 => 68 | 28 => 122 | 29 => 123 | 20 => 114 | 21 => 115 | 22 => 116 | 23 => 117 | 24 => 118 | 25 => 119 | 26 => 120 | 27 => 121 | 46 => 161 | 47 => 162 | 48 => 163 | 49 => 164 | 50 => 165 | 57 => 196 | n => n, fun | 22 => 34 | 24 => 39 | 25 => 63 | 3 => 3 | 39 => 105 | 0 => 0 | 53 => 151 | 55 => 153 | 4 => 4 | 46 => 144 | 45 => 143 | 50 => 148 | 5 => 5 | 9 => 9 | 66 => 177 | 70 => 181 | 76 => 204 | 77 => 131 | n => n, fun | n => n⟩
theorem Tryz.sortFind : Go.Proofs.SlLaysF0.n6 Tryz.prog Tryz.sortFind_ren := {
  mixed := by kernel_rfl
  f6 := ⟨Tryz.f32.name, by decide, Tryz.func32.trans (congrArg some (by kernel_rfl))⟩
  f14 := ⟨Tryz.f68.name, by decide, Tryz.func68.trans (congrArg some (by kernel_rfl))⟩
  f15 := Tryz.func69.trans (congrArg some (by kernel_rfl))
  f20 := ⟨Tryz.f114.name, by decide, Tryz.func114.trans (congrArg some (by kernel_rfl))⟩
  f21 := ⟨Tryz.f115.name, by decide, Tryz.func115.trans (congrArg some (by kernel_rfl))⟩
  f22 := ⟨Tryz.f116.name, by decide, Tryz.func116.trans (congrArg some (by kernel_rfl))⟩
  f23 := ⟨Tryz.f117.name, by decide, Tryz.func117.trans (congrArg some (by kernel_rfl))⟩
  f24 := ⟨Tryz.f118.name, by decide, Tryz.func118.trans (congrArg some (by kernel_rfl))⟩
  f25 := ⟨Tryz.f119.name, by decide, Tryz.func119.trans (congrArg some (by kernel_rfl))⟩
  f26 := ⟨Tryz.f120.name, by decide, Tryz.func120.trans (congrArg some (by kernel_rfl))⟩
  f27 := ⟨Tryz.f121.name, by decide, Tryz.func121.trans (congrArg some (by kernel_rfl))⟩
  f28 := Tryz.func122.trans (congrArg some (by kernel_rfl))
  f29 := Tryz.func123.trans (congrArg some (by kernel_rfl))
  f46 := ⟨Tryz.f161.name, by decide, Tryz.func161.trans (congrArg some (by kernel_rfl))⟩
  f47 := Tryz.func162.trans (congrArg some (by kernel_rfl))
  f48 := Tryz.func163.trans (congrArg some (by kernel_rfl))
  f49 := ⟨Tryz.f164.name, by decide, Tryz.func164.trans (congrArg some (by kernel_rfl))⟩
  f50 := ⟨Tryz.f165.name, by decide, Tryz.func165.trans (congrArg some (by kernel_rfl))⟩
  f57 := ⟨Tryz.f196.name, by decide, Tryz.func196.trans (congrArg some (by kernel_rfl))⟩
  t0 := Tryz.underlying0
  a0 := Tryz.isAgg0
  z0 := Tryz.sizeOf0
  v0 := Tryz.zeroValue0
  t3 := Tryz.underlying3
  a3 := Tryz.isAgg3
  z3 := Tryz.sizeOf3
  v3 := Tryz.zeroValue3
  t4 := Tryz.underlying4
  a4 := Tryz.isAgg4
  z4 := Tryz.sizeOf4
  v4 := Tryz.zeroValue4
  t5 := Tryz.underlying5
  a5 := Tryz.isAgg5
  z5 := Tryz.sizeOf5
  v5 := Tryz.zeroValue5
  t9 := Tryz.underlying9
  a9 := Tryz.isAgg9
  z9 := Tryz.sizeOf9
  v9 := Tryz.zeroValue9
  t22 := Tryz.underlying34
  a22 := Tryz.isAgg34
  z22 := Tryz.sizeOf34
  v22 := Tryz.zeroValue34
  t25 := Tryz.underlying63
  a25 := Tryz.isAgg63
  z25 := Tryz.sizeOf63
  v25 := Tryz.zeroValue63
  t39 := Tryz.underlying105
  a39 := Tryz.isAgg105
  z39 := Tryz.sizeOf105
  v39 := Tryz.zeroValue105
  t45 := Tryz.underlying143
  a45 := Tryz.isAgg143
  z45 := Tryz.sizeOf143
  v45 := Tryz.zeroValue143
  t46 := Tryz.underlying144
  a46 := Tryz.isAgg144
  z46 := Tryz.sizeOf144
  v46 := Tryz.zeroValue144
  t50 := Tryz.underlying148
  a50 := Tryz.isAgg148
  z50 := Tryz.sizeOf148
  v50 := Tryz.zeroValue148
  t53 := Tryz.underlying151
  a53 := Tryz.isAgg151
  z53 := Tryz.sizeOf151
  v53 := Tryz.zeroValue151
  t55 := Tryz.underlying153
  a55 := Tryz.isAgg153
  z55 := Tryz.sizeOf153
  v55 := Tryz.zeroValue153
  t66 := Tryz.underlying177
  a66 := Tryz.isAgg177
  z66 := Tryz.sizeOf177
  v66 := Tryz.zeroValue177
  t70 := Tryz.underlying181
  a70 := Tryz.isAgg181
  z70 := Tryz.sizeOf181
  v70 := Tryz.zeroValue181
  t76 := Tryz.underlying204
  a76 := Tryz.isAgg204
  z76 := Tryz.sizeOf204
  v76 := Tryz.zeroValue204
  t77 := Tryz.underlying131
  a77 := Tryz.isAgg131
  z77 := Tryz.sizeOf131
  v77 := Tryz.zeroValue131 }
end Go.Proofs
namespace Go.Proofs.YtlfjocbnbceceaaGreatDoor
open Go.RowKit Go.Vc
theorem anyI_yes {l : List Vc.Item} {p : Vc.Item → Bool} {k : Nat} (hk : k < l.length) (h : p (l.getD k default) = true) : l.any p = true := List.any_eq_true.2 ⟨_, getD_in hk, h⟩
theorem anyI_no {l : List Vc.Item} {p : Vc.Item → Bool} (h : ∀ j, j < l.length → ¬ p (l.getD j default) = true) : ¬ l.any p = true := fun q => by
  obtain ⟨x, hx, h2⟩ := List.any_eq_true.1 q
  obtain ⟨i, hi, rfl⟩ := List.mem_iff_getElem.1 hx
  exact h i hi (by rw [List.getD_eq_getElem?_getD, List.getElem?_eq_getElem hi]; exact h2)
theorem sortF_of2 {l xs l' : List Vc.Item} {p : Vc.Item → Bool} (h : l.Perm xs) (hs : SortR (Go.Proofs.ltOf cmpF) (l.filter p) l') : l' = (sortF xs).filter p := by
  rw [sortF_filter]; exact sortF_of hs (h.filter p)
theorem cmpS_gt {s t : Str} (h : ¬ blt s t = true) (h2 : ¬ (blt s t || s == t) = true) : cmpS s t = 1 := by
  have h1 : ¬ s < t := fun q => h ((slt_iff _ _).2 q)
  have h3 : ¬ s = t := fun q => h2 (by simp [q])
  unfold cmpS
  rw [if_neg h1]
  by_cases h4 : t < s
  · rw [if_pos h4]
  · exact absurd (slt_tri h1 h4) h3
theorem or_at {p q r : Int} {k : Nat} (hk : k < 3) (hno : ∀ j, j < k → ([p, q, r] : List Int).getD j default = 0) (hc : ¬ ([p, q, r] : List Int).getD k default = 0) : ([p, q, r] : List Int).getD k default = orI p (orI q r) := by
  unfold orI
  match k, hk with
  | 0, _ => exact (if_pos hc).symm
  | 1, _ => have h0 : p = 0 := hno 0 ω
            have h1 : ¬ q = 0 := hc
            rw [if_neg (by simpa using h0), if_pos h1]; rfl
  | 2, _ => have h0 : p = 0 := hno 0 ω
            have h1 : q = 0 := hno 1 ω
            rw [if_neg (by simpa using h0), if_neg (by simpa using h1)]; rfl
theorem or_none {p q r : Int} (hno : ∀ j, j < 3 → ([p, q, r] : List Int).getD j default = 0) : (0 : Int) = orI p (orI q r) := by
  have h0 : p = 0 := hno 0 ω
  have h1 : q = 0 := hno 1 ω
  have h2 : r = 0 := hno 2 ω
  unfold orI; rw [if_neg (by simpa using h0), if_neg (by simpa using h1), h2]
theorem cmpS_eq {s t : Str} (h : ¬ blt s t = true) (h2 : ¬ ¬ (blt s t || s == t) = true) : cmpS s t = 0 := by
  have h3 : s = t := by
    simpa [h] using h2
  exact cmpS_zero.2 h3
theorem isnan_calls {s : Str} {w0 : World}  :
    Calls Tryz.prog 71 #[S s] w0 fun e w' => e = .returned (.bool false) ∧ w0 = w' := by
 refine calls_enter (n := 6) Tryz.func71 rfl Tryz.ntmps71 rfl ?_
 have hV : Evo w0 w0 [] := Evo.refl _ _
 refine Zs ?_
 refine Zn asB ?_
 refine Zs ?_
 refine Zo mvT ?_
 refine Zo mvT ?_
 refine Zo (run_sneq rfl η η) ?_
 refine Zn asB ?_
 refine r_ret (res1 (v := .bool _) rfl η) ?_
 exact ⟨ret_bool (by simp), rfl⟩
theorem cmps_calls {s t : Str} {w0 : World}  :
    Calls Tryz.prog 36 #[S s, S t] w0 fun e w' => e = .returned (.int .i64 (cmpS s t)) ∧ w0 = w' := by
 refine calls_enter (n := 20) Tryz.func36 rfl Tryz.ntmps36 rfl ?_
 have hV : Evo w0 w0 [] := Evo.refl _ _
 refine Zs ?_
 refine Zn asI ?_
 refine Zs ?_
 refine Zo mvT ?_
 refine Zr [S _] rfl η Tryz.func71 isnan_calls ?_
 rintro e w1 ⟨rfl, rfl⟩
 refine ⟨_, rfl, ?_⟩
 refine Zn asB ?_
 refine Zs ?_
 refine Zo mvT ?_
 refine Zr [S _] rfl η Tryz.func71 isnan_calls ?_
 rintro e w2 ⟨rfl, rfl⟩
 refine ⟨_, rfl, ?_⟩
 refine Zn asB ?_
 refine r_seq ?_
 refine Zs ?_
 refine Zn mvB ?_
 refine r_cond_no η ?_
 refine r_skip ?_
 refine r_seq ?_
 refine Zs ?_
 refine Zn mvB ?_
 refine r_cond_no η ?_
 refine r_skip ?_
 refine r_seq ?_
 refine Zs ?_
 refine Zo mvT ?_
 refine Zo mvT ?_
 refine Zn (run_slssD rfl η η) ?_
 refine r_cond η (fun hc3 => ?_) (fun hc3 => ?_)
 ·skip
  refine Zs ?_
  refine Zn asI ?_
  refine r_ret (res1 (v := .int _ _) rfl η) ?_
  exact ⟨ret_int (by unfold cmpS; rw [if_pos ((slt_iff _ _).1 hc3)]), rfl⟩
 refine r_skip ?_
 refine r_seq ?_
 refine r_seq ?_
 have hc1 := hc3
 refine r_region ?_
 refine Zo mvT ?_
 refine Zo mvT ?_
 refine Zn (run_sgtrD rfl η η) ?_
 refine r_cond η (fun hc4 => ?_) (fun hc4 => ?_)
 ·skip
  refine Zs ?_
  refine Zn asI ?_
  refine r_ret (res1 (v := .int _ _) rfl η) ?_
  exact ⟨ret_int (cmpS_gt hc1 hc4).symm, rfl⟩
 refine r_skip ?_
 refine Zs ?_
 refine Zn asI ?_
 refine r_ret (res1 (v := .int _ _) rfl η) ?_
 exact ⟨ret_int (cmpS_eq hc1 hc4).symm, rfl⟩
theorem isnani_calls {n : Int} {w0 : World}  :
    Calls Tryz.prog 70 #[.int .i64 n] w0 fun e w' => e = .returned (.bool false) ∧ w0 = w' := by
 refine calls_enter (n := 6) Tryz.func70 rfl Tryz.ntmps70 rfl ?_
 have hV : Evo w0 w0 [] := Evo.refl _ _
 refine Zs ?_
 refine Zn asB ?_
 refine Zs ?_
 refine Zo mvI ?_
 refine Zo mvI ?_
 refine Zo (run_neq rfl η η) ?_
 refine Zn asB ?_
 refine r_ret (res1 (v := .bool _) rfl η) ?_
 exact ⟨ret_bool (by simp), rfl⟩
theorem cmpi_calls {a b : Int} {w0 : World}  :
    Calls Tryz.prog 35 #[.int .i64 a, .int .i64 b] w0 fun e w' => e = .returned (.int .i64 (cmpI a b)) ∧ w0 = w' := by
 refine calls_enter (n := 20) Tryz.func35 rfl Tryz.ntmps35 rfl ?_
 have hV : Evo w0 w0 [] := Evo.refl _ _
 refine Zs ?_
 refine Zn asI ?_
 refine Zs ?_
 refine Zo mvI ?_
 refine Zr [.int _ _] rfl η Tryz.func70 isnani_calls ?_
 rintro e w1 ⟨rfl, rfl⟩
 refine ⟨_, rfl, ?_⟩
 refine Zn asB ?_
 refine Zs ?_
 refine Zo mvI ?_
 refine Zr [.int _ _] rfl η Tryz.func70 isnani_calls ?_
 rintro e w2 ⟨rfl, rfl⟩
 refine ⟨_, rfl, ?_⟩
 refine Zn asB ?_
 refine r_seq ?_
 refine Zs ?_
 refine Zn mvB ?_
 refine r_cond_no η ?_
 refine r_skip ?_
 refine r_seq ?_
 refine Zs ?_
 refine Zn mvB ?_
 refine r_cond_no η ?_
 refine r_skip ?_
 refine r_seq ?_
 refine Zs ?_
 refine Zo mvI ?_
 refine Zo mvI ?_
 refine Zn (run_lss rfl η η) ?_
 refine r_cond η (fun hc3 => ?_) (fun hc3 => ?_)
 ·skip
  refine Zs ?_
  refine Zn asI ?_
  refine r_ret (res1 (v := .int _ _) rfl η) ?_
  exact ⟨ret_int (by unfold cmpI; rw [if_pos hc3]), rfl⟩
 refine r_skip ?_
 refine r_seq ?_
 refine Zs ?_
 refine Zo mvI ?_
 refine Zo mvI ?_
 refine Zn (run_gtr rfl η η) ?_
 refine r_cond η (fun hc4 => ?_) (fun hc4 => ?_)
 ·skip
  refine Zs ?_
  refine Zn asI ?_
  refine r_ret (res1 (v := .int _ _) rfl η) ?_
  exact ⟨ret_int (by unfold cmpI; rw [if_neg ω, if_pos hc4]), rfl⟩
 refine r_skip ?_
 refine Zs ?_
 refine Zn asI ?_
 refine r_ret (res1 (v := .int _ _) rfl η) ?_
 exact ⟨ret_int (by unfold cmpI; rw [if_neg ω, if_neg ω]), rfl⟩
theorem or_calls {ao : Option Addr} {b off cap : Nat} {p q r : Int} {w0 : World} (hl : RowE w0 ao b off cap ([p, q, r] : List Int)) :
    Calls Tryz.prog 34 #[.slice ao ([p, q, r] : List Int).length cap] w0 fun e w' => e = .returned (.int .i64 (orI p (orI q r))) ∧ w0 = w' := by
 refine calls_enter (n := 18) Tryz.func34 rfl Tryz.ntmps34 rfl ?_
 have hV : Evo w0 w0 [] := Evo.refl _ _
 have hbd_hl := hl.bd
 refine Zs ?_
 refine Zn asI ?_
 refine Zs ?_
 refine Zn asI ?_
 refine r_seq ?_
 refine Zs ?_
 refine Zo mvS ?_
 refine Zo (run_lenSl rfl η Tryz.underlying22) ?_
 refine Zn mvI ?_
 refine r_block ?_
 refine r_loop (α := Nat) [2, 5, 8, 9, 10, 11, 12, 13, 14, 15, 16] (fun k g w => g 8 = .int .i64 (k : Nat) ∧ k ≤ ([p, q, r] : List Int).length ∧ w = w0 ∧ (∀ j, j < k → ([p, q, r] : List Int).getD j default = 0) ∧ w0.heap.size ≤ w.heap.size ∧ Evo w0 w []) (fun k => ([p, q, r] : List Int).length - k) 0 ?_ ?_
 ·refine ⟨σ, δ, rfl, (fun j h => by omega), δ, hV⟩
 rintro k g w2 ⟨hj3, hk_k, hw, hno, hzl1, hV⟩
 have hs_w2hV := hV.size
 refine Zk 8 (v := .int .i64 (k : Nat)) (by exact hj3) ?_
 replace hw := hw.symm; subst hw
 refine Zs ?_
 refine Zn (run_lss rfl η η) ?_
 refine r_seq ?_
 refine r_cond η (fun hc4 => ?_) (fun hc4 => ?_)
 ·skip
  refine r_skip ?_
  refine r_seq ?_
  refine r_block ?_
  refine Zs ?_
  refine Zo (run_ix (k) rfl Tryz.underlying22 ty_3 η η (by first | exact rfl | omega) ω (hl.addr (i := k) ω)) ?_
  have hA5 := hl.atD (k) ω
  refine Zo (run_ld1 rfl ag_3 η (hA5.cell 0 η)) ?_
  refine Zn asI ?_
  refine Zs ?_
  refine Zo mvI ?_
  refine Zo mvI ?_
  refine Zn (run_neq rfl η η) ?_
  refine r_cond η (fun hc6 => ?_) (fun hc6 => ?_)
  ·skip
   refine Zs ?_
   refine Zo mvI ?_
   refine Zn asI ?_
   refine r_ret (res1 (v := .int _ _) rfl η) ?_
   exact ⟨ret_int (or_at (by simp at hc4; omega) hno (by simpa using hc6)), rfl⟩
  refine r_skip ?_
  refine r_blk ?_
  refine r_region ?_
  refine Zo (run_add rfl η η ω ω) ?_
  refine Zn mvI ?_
  refine r_again (k + 1) ?_ ?_ ?_
  ·first | omega | (dsimp only; omega)
  ·refine ⟨σ, δ, rfl, (upto0 hno (by simpa using hc6)), δ, hV⟩
  exact ψ
 refine r_exit rfl ?_
 refine Zs ?_
 refine Zo mvI ?_
 refine Zn asI ?_
 refine r_ret (res1 (v := .int _ _) rfl η) ?_
 exact ⟨ret_int (or_none (fun j hj => hno j (by simp at hc4; omega))), rfl⟩
theorem cmpf_calls {x y : Vc.Item} {w0 : World}  :
    Calls Tryz.prog 33 #[(.agg (Enc.enc x).toArray), (.agg (Enc.enc y).toArray)] w0 fun e w' => e = .returned (.int .i64 (cmpF x y)) ∧ Evo w0 w' [] ∧ w0.drawn ≤ w'.drawn := by
 refine calls_enter (n := 22) Tryz.func33 rfl Tryz.ntmps33 rfl ?_
 have hV : Evo w0 w0 [] := Evo.refl _ _
 refine Zs ?_
 refine r_boxD (vs := [_, _, _]) η η rfl ?_
 intro b1 w2 J1 E2 B1 Y1 hdr_0
 have Q2 := E2.size
 replace hV := Z0 hV E2
 refine r_boxD (vs := [_, _, _]) η η rfl ?_
 intro b3 w4 J3 E4 B3 Y3 hdr_1
 have Q4 := E4.size
 replace hV := Z0 hV E4
 replace B1 := B1.evo0 E4
 refine Zn asI ?_
 refine r_seq ?_
 have hbb1_q := B1
 have hAb1_q := B1.at
 have hbb3_q := B3
 have hAb3_q := B3.at
 have hV_q := hV
 refine h_regionD ([]) ζ ?_
 intro w5 hE6 hCst1 hdr_2
 have Q5 := hE6.size
 replace hV := Z0 hV hE6
 refine Zt (i := 0) η (fun w' hC => run_fa rfl η fo_39_0) hCst1 ?_
 refine Zt (i := 1) η (fun w' hC => run_ld1 rfl ag_3 η ((hAb1_q.evo0 hC).cell 0 η)) hCst1 ?_
 refine Zt (i := 2) η (fun w' hC => run_fa rfl η fo_39_0) hCst1 ?_
 refine Zt (i := 3) η (fun w' hC => run_ld1 rfl ag_3 η ((hAb3_q.evo0 hC).cell 0 η)) hCst1 ?_
 refine h_takeC (i := 4) η rfl rfl rfl ζ (fun w' hC => ⟨_, _, run_callf (vs := [.int _ _, .int _ _]) rfl η Tryz.func35 rfl ζ, cmpi_calls.mono (fun e w'' h => ⟨h.1, h.2.symm⟩)⟩) hCst1 ?_
 refine Zt (i := 5) η (fun w' hC => run_fa rfl η fo_39_1) hCst1 ?_
 refine Zt (i := 6) η (fun w' hC => run_ld1 rfl ag_9 η ((hAb1_q.evo0 hC).cell 1 η)) hCst1 ?_
 refine Zt (i := 7) η (fun w' hC => run_fa rfl η fo_39_1) hCst1 ?_
 refine Zt (i := 8) η (fun w' hC => run_ld1 rfl ag_9 η ((hAb3_q.evo0 hC).cell 1 η)) hCst1 ?_
 refine h_takeC (i := 9) η rfl rfl rfl ζ (fun w' hC => ⟨_, _, run_callf (vs := [S _, S _]) rfl η Tryz.func36 rfl ζ, cmps_calls.mono (fun e w'' h => ⟨h.1, h.2.symm⟩)⟩) hCst1 ?_
 refine Zt (i := 10) η (fun w' hC => run_fa rfl η fo_39_2) hCst1 ?_
 refine Zt (i := 11) η (fun w' hC => run_ld1 rfl ag_3 η ((hAb1_q.evo0 hC).cell 2 η)) hCst1 ?_
 refine Zt (i := 12) η (fun w' hC => run_fa rfl η fo_39_2) hCst1 ?_
 refine Zt (i := 13) η (fun w' hC => run_ld1 rfl ag_3 η ((hAb3_q.evo0 hC).cell 2 η)) hCst1 ?_
 refine h_takeC (i := 14) η rfl rfl rfl ζ (fun w' hC => ⟨_, _, run_callf (vs := [.int _ _, .int _ _]) rfl η Tryz.func35 rfl ζ, cmpi_calls.mono (fun e w'' h => ⟨h.1, h.2.symm⟩)⟩) hCst1 ?_
 refine Zh (i := 15) ?_
 refine r_bsliceD (pv := [(0, .int _ _), (1, .int _ _), (2, .int _ _)]) (zs := [_]) (cs := [_, _, _]) Tryz.underlying22 ty_3 η rfl η rfl η ?_
 intro b7 w8 J7 E8 B7 Y7 hdr_3
 have Q8 := E8.size
 replace hV := Z0 hV E8
 replace hCst1 := Z0 hCst1 E8
 have hrb7 : RowE w8 (some ⟨b7, 0, none⟩) b7 0 3 ([cmpI x.kind y.kind, cmpS x.text y.text, cmpI x.id y.id] : List Int) := rowLit ([cmpI x.kind y.kind, cmpS x.text y.text, cmpI x.id y.id] : List Int) B7 rfl rfl
 refine h_next hCst1 ?_
 refine Zh (i := 16) ?_
 refine Zr [.slice (some ⟨b7, 0, none⟩) _ _] rfl η Tryz.func34 (or_calls hrb7) ?_
 rintro e w9 ⟨rfl, rfl⟩
 refine ⟨_, rfl, ?_⟩
 refine h_next hCst1 ?_
 refine Zt (i := 17) η (fun w' hC => asI) hCst1 ?_
 refine h_done ζ ?_
 refine r_ret (res1 (v := .int _ _) rfl η) ?_
 exact ⟨rfl, hV, by omega⟩
theorem sortF_calls {w : World} {base E : Nat} {v : Value} {l : List Vc.Item} (h : OwnE w base E v l) : Calls Tryz.prog 32 #[v, .func (.func 33) #[] #[]] w fun e w' => e = .returned (.tuple #[]) ∧ Evo w w' v.ownBlock.toList ∧ ∃ l', SortR (Go.Proofs.ltOf cmpF) l l' ∧ OwnE w' base E v l' :=
  sortf_of (R := SortR (Go.Proofs.ltOf cmpF)) (fun l l' h => h.1.length_eq) ⟨List.Perm.refl _, List.Pairwise.nil⟩
    (fun blk off cap d w hH hb hsz => (AnyQ.slices_SortFunc Tryz.sortFind 3 Tryz.isAgg39 Tryz.sizeOf39 Enc.enc (fun x => Enc.len x) (fun x v hv => List.all_eq_true.1 (Enc.one x) v hv) cmpF swo_F 33 #[] blk off cap d w (enters_of Tryz.func33 ζ rfl)
      (fun m os dk hs x y => (show Calls Tryz.prog 33 #[.agg (Enc.enc x).toArray, .agg (Enc.enc y).toArray] _ _ from cmpf_calls.mono fun e w' ⟨h1, h2, h3⟩ => ⟨h1, growD_of h2 h3⟩)) hH hb hsz).mono fun e w' ⟨he, d', n, os, hp, hs, hw⟩ => ⟨he, d', n, os, sortR_of hp hs, hw⟩)
    (fun w => AnyF.slices_SortFunc_none { Tryz.sortFind with } none 0 (.func (.func 33) #[] #[]) w) h
set_option maxHeartbeats 2000000 in
theorem run_calls {l0 l1 l2 l3 l4 l5 l6 l7 l8 l9 l10 l11 l12 sh lo : Int} {aot : Option Addr} {bt ot capt : Nat} {ts : List TermL} {aoc : Option Addr} {bc oc capc : Nat} {cl : List Clas} {aof : Option Addr} {bf of9 capf : Nat} {f : List Vc.Item} {aog : Option Addr} {bg og capg : Nat} {gg : List Vc.Item} {w0 : World} (hts : RowR w0 aot bt ot capt ts) (hcl : RowR w0 aoc bc oc capc cl) (hf : RowE w0 aof bf of9 capf f) (hg : RowE w0 aog bg og capg gg) (htf : Tiny f) (htg : Tiny gg) (hif : ∀ x ∈ tagsL f, InR x) (hig : ∀ x ∈ tagsL gg, InR x) (hz : ts.length ≤ 40) (hjb : ∀ x ∈ ts, JudT x) (htab : Tab w0) :
    Calls Tryz.prog 14 #[.agg #[.int .i64 l0, .int .i64 l1, .int .i64 l2, .int .i64 l3, .int .i64 l4, .int .i64 l5, .int .i64 l6, .int .i64 l7, .int .i64 l8, .int .i64 l9, .int .i64 l10, .int .i64 l11, .int .i64 l12, .int .i64 sh, .int .i64 lo, .slice aot ts.length capt, .slice aoc cl.length capc], .slice aof f.length capf, .slice aog gg.length capg] w0 fun e w' => ∃ v, e = .returned v ∧ Evo w0 w' [] ∧ OwnE w' w0.heap.size 39 v (runF (⟨[l0, l1, l2, l3, l4, l5, l6, l7, l8, l9, l10, l11, l12], sh, lo, ts, cl⟩ : Chk) f gg) := by
 refine calls_enter (n := 36) Tryz.func14 rfl Tryz.ntmps14 rfl ?_
 have hV : Evo w0 w0 [] := Evo.refl _ _
 have hts0 := hts.keep
 have hbd_hts := hts.bd
 have hcl0 := hcl.keep
 have hbd_hcl := hcl.bd
 have hf0 := keepE hf
 have hbd_hf := hf.bd
 have hg0 := keepE hg
 have hbd_hg := hg.bd
 refine Zs ?_
 refine r_box (vs := [_, _, _, _, _, _, _, _, _, _, _, _, _, _, _, _, _]) η η rfl ?_
 intro b1 w2 J1 E2 B1 Y1
 have Q2 := E2.size
 replace hV := Z0 hV E2
 replace hts := hts0.now hV
 replace hcl := hcl0.now hV
 have hAb1 := B1.at
 refine Zn asS ?_
 refine r_seq ?_
 refine Zs ?_
 refine Zo (run_ldN rfl ag_28 ty_28 η rfl hAb1) ?_
 refine Zr [.agg _] rfl η Tryz.func12 (kvalidate_calls hts hcl) ?_
 rintro e w3 ⟨rfl, hE3⟩
 refine ⟨_, rfl, ?_⟩
 have Q3 := hE3.size
 replace hV := Z0 hV hE3
 replace hts := hts0.now hV
 replace hcl := hcl0.now hV
 replace hf := hf0 _ hV
 replace hg := hg0 _ hV
 replace B1 := B1.evo0 hE3
 replace hAb1 := hAb1.evo0 hE3
 refine Zn (run_neq rfl η η) ?_
 refine r_cond η (fun hc4 => ?_) (fun hc4 => ?_)
 ·skip
  refine Zs ?_
  refine Zn asS ?_
  refine r_ret (res1 (v := .slice _ _ _) rfl η) ?_
  rw [runF_bad hc4]
  exact ⟨_, rfl, hV, OwnE.nil _ _ _⟩
 refine r_skip ?_
 refine Zs ?_
 refine Zn asS ?_
 refine r_seq ?_
 refine r_seq ?_
 have hval : validK (⟨[l0, l1, l2, l3, l4, l5, l6, l7, l8, l9, l10, l11, l12], sh, lo, ts, cl⟩ : Chk) = 0 := Classical.not_not.1 hc4; have hnn : (0 ≤ sh ∧ sh ≤ 100) ∧ (lo = 0 ∨ (100 ≤ lo ∧ lo ≤ 10000)) := valid_nums hval; have hfl := findL_len (c := (⟨[l0, l1, l2, l3, l4, l5, l6, l7, l8, l9, l10, l11, l12], sh, lo, ts, cl⟩ : Chk)) htf htg hz (fun x hx => (hjb x hx).2.1)
 refine r_region ?_
 refine Zo (run_ldN rfl ag_28 ty_28 η rfl hAb1) ?_
 refine Zo mvS ?_
 refine Zo mvS ?_
 refine Zr [.agg _, .slice _ _ _, .slice _ _ _] rfl η Tryz.func31 (all_calls hts hcl hf hg htf htg hif hig hz hjb (htab.evo0 hV) hnn) ?_
 rintro e w5 ⟨va5, qa5, rfl, hE5, hoa5, hpa5⟩
 refine ⟨_, rfl, ?_⟩
 have Q5 := hE5.size
 replace hV := Z0 hV hE5
 replace hts := hts0.now hV
 replace hcl := hcl0.now hV
 replace hf := hf0 _ hV
 replace hg := hg0 _ hV
 replace B1 := B1.evo0 hE5
 replace hAb1 := hAb1.evo0 hE5
 have hql := hpa5.length_eq
 refine Zo (run_lenOE rfl η Tryz.underlying34 hoa5) ?_
 refine Zn mvI ?_
 refine r_block ?_
 have hI6 : Evo w5 w5 [] := Evo.refl _ _
 obtain ⟨ao7, g7, cp7, hv7, hr7, hg7⟩ := hoa5.rowOf
 subst hv7
 have hr70 := keepE hr7
 refine r_loop (α := Nat) [7, 9, 18, 19, 20, 21, 22, 23, 24, 25, 26, 27, 28, 29, 30, 31, 32] (fun k g w => ∃ vo : Value, g 18 = .int .i64 (k : Nat) ∧ g 7 = vo ∧ k ≤ qa5.length ∧ Blk w b1 28 [.int .i64 l0, .int .i64 l1, .int .i64 l2, .int .i64 l3, .int .i64 l4, .int .i64 l5, .int .i64 l6, .int .i64 l7, .int .i64 l8, .int .i64 l9, .int .i64 l10, .int .i64 l11, .int .i64 l12, .int .i64 sh, .int .i64 lo, .slice aot ts.length capt, .slice aoc cl.length capc] ∧ At w b1 0 [.int .i64 l0, .int .i64 l1, .int .i64 l2, .int .i64 l3, .int .i64 l4, .int .i64 l5, .int .i64 l6, .int .i64 l7, .int .i64 l8, .int .i64 l9, .int .i64 l10, .int .i64 l11, .int .i64 l12, .int .i64 sh, .int .i64 lo, .slice aot ts.length capt, .slice aoc cl.length capc] ∧ OwnE w w5.heap.size 39 vo ((qa5.take k).filter (levF (⟨[l0, l1, l2, l3, l4, l5, l6, l7, l8, l9, l10, l11, l12], sh, lo, ts, cl⟩ : Chk))) ∧ w5.heap.size ≤ w.heap.size ∧ Evo w0 w [] ∧ Evo w5 w []) (fun k => qa5.length - k) 0 ?_ ?_
 ·refine ⟨_, σ, rfl, δ, B1, B1.at, (OwnE.nil _ _ _), δ, hV, hI6⟩
 rintro k g w9 ⟨vo, hj10, hj11, hk_k, B1, hAb1, hoo, hzl8, hV, hI6⟩
 have hs_w9hV := hV.size
 have hs_w9hI6 := hI6.size
 have hlt12 := B1.lt
 replace hg := hg0 _ hV
 replace hr7 := hr70 _ hI6
 refine Zk 18 (v := .int .i64 (k : Nat)) (by exact hj10) ?_
 refine Zk 7 (v := vo) (by exact hj11) ?_
 have hfk := List.length_filter_le (levF (⟨[l0, l1, l2, l3, l4, l5, l6, l7, l8, l9, l10, l11, l12], sh, lo, ts, cl⟩ : Chk)) (qa5.take k); have hft := List.length_take_le k qa5
 refine Zs ?_
 refine Zn (run_lss rfl η η) ?_
 refine r_seq ?_
 refine r_cond η (fun hc13 => ?_) (fun hc13 => ?_)
 ·skip
  refine r_skip ?_
  refine r_seq ?_
  refine r_block ?_
  refine Zs ?_
  refine Zo (run_ix (k) rfl Tryz.underlying34 ty_39 η η (by first | exact rfl | omega) ω (hr7.addr (i := k) ω)) ?_
  have hA140 := fun (w' : World) (h : Evo w5 w' []) => (hr70 w' h).atD (k) ω
  have hA14 := hA140 _ hI6
  refine Zo (run_ldN rfl ag_39 ty_39 η rfl hA14) ?_
  have hob15 := fun g hg => (hoo.block (g := g) hg).2
  refine r_var (zs := [_, _, _]) (vs := [_, _, _]) ty_39 η rfl η (fun _ => rfl) η rfl rfl η ?_
  intro b16 w17 J16 E17 B16 Y16
  have Q17 := E17.size
  replace hV := Z0 hV E17
  replace hI6 := Z0 hI6 E17
  replace hts := hts0.now hV
  replace hcl := hcl0.now hV
  replace hf := hf0 _ hV
  replace hg := hg0 _ hV
  replace hr7 := hr70 _ hI6
  replace B1 := B1.evo0 E17
  replace hAb1 := hAb1.evo0 E17
  replace hoo := hoo.evo0 E17
  refine r_nil ?_
  refine r_seq ?_
  have hkb := findL_kind (hpa5.mem_iff.1 (getD_in (show k < qa5.length by omega)))
  refine r_region ?_
  refine Zo (run_fa rfl η fo_39_0) ?_
  refine Zo (run_ld1 rfl ag_3 η (B16.at.cell 0 η)) ?_
  refine Zo (run_fa rfl η fo_28_0) ?_
  refine Zo (run_ixP ((qa5.getD k default).kind.toNat) rfl Tryz.underlying24 ty_3 η η ω ω) ?_
  refine Zo (run_ld1 rfl ag_3 η (cell_at (j := (qa5.getD k default).kind.toNat) hAb1 (by exact lev_at (l := ([l0, l1, l2, l3, l4, l5, l6, l7, l8, l9, l10, l11, l12] : List Int)) (rest := [.int .i64 sh, .int .i64 lo, .slice aot ts.length capt, .slice aoc cl.length capc]) (show (qa5.getD k default).kind.toNat < 13 by omega)) ω)) ?_
  refine Zn (run_neq rfl η η) ?_
  refine r_cond η (fun hc18 => ?_) (fun hc18 => ?_)
  ·skip
   refine r_region ?_
   refine Zo (run_mv (v := vo) rfl η) ?_
   refine Zo (run_ldN rfl ag_39 ty_39 η rfl B16.at) ?_
   refine r_append1E (u := .agg _) (y := ⟨_, _, _⟩) rfl rfl Tryz.underlying34 ty_39 η hoo (fun _ => η) η (by first | exact rfl | (show _ = List.toArray [_, _, _]; first | (dsimp only; done) | exact rfl | (dsimp only; exact rfl))) (ω) (ω) ω ?_
   intro q_v19 v19 w20 E20 hov19 hlv19
   have Q20 := E20.size
   replace hV := evo_stepo hV E20 (fun g hg => .inl (by first | exact (hoo.block hg).1 | (have := hoo.block hg; omega)))
   replace hI6 := evo_stepo hI6 E20 (fun g hg => .inl (by first | exact (hoo.block hg).1 | (have := hoo.block hg; omega)))
   replace hts := hts0.now hV
   replace hcl := hcl0.now hV
   replace hf := hf0 _ hV
   replace hg := hg0 _ hV
   replace hr7 := hr70 _ hI6
   replace B1 := B1.evo E20 (by intro hm; have hm2 := Option.mem_toList.1 hm; first | (have := hoo.block hm2; omega) | (simp [Value.ownBlock] at hm2; omega))
   replace hAb1 := hAb1.evo E20 (by intro hm; have hm2 := Option.mem_toList.1 hm; first | (have := hoo.block hm2; omega) | (simp [Value.ownBlock] at hm2; omega))
   refine Zn (run_asg (v := v19) rfl η) ?_
   refine r_blk ?_
   refine r_region ?_
   refine Zo (run_add rfl η η ω ω) ?_
   refine Zn mvI ?_
   refine r_again (k + 1) ?_ ?_ ?_
   ·first | omega | (dsimp only; omega)
   ·refine ⟨_, σ, rfl, δ, B1, B1.at, (by first | (rw [filt_yes ω (levF_yes (c := (⟨[l0, l1, l2, l3, l4, l5, l6, l7, l8, l9, l10, l11, l12], sh, lo, ts, cl⟩ : Chk)) hc18)]; exact hov19) | (rw [filt_no ω (levF_no (c := (⟨[l0, l1, l2, l3, l4, l5, l6, l7, l8, l9, l10, l11, l12], sh, lo, ts, cl⟩ : Chk)) hc18)]; exact hov19)), δ, hV, hI6⟩
   exact ψ
  refine r_skip ?_
  refine r_blk ?_
  refine r_region ?_
  refine Zo (run_add rfl η η ω ω) ?_
  refine Zn mvI ?_
  refine r_again (k + 1) ?_ ?_ ?_
  ·first | omega | (dsimp only; omega)
  ·refine ⟨_, σ, rfl, δ, B1, B1.at, (by first | (rw [filt_yes ω (levF_yes (c := (⟨[l0, l1, l2, l3, l4, l5, l6, l7, l8, l9, l10, l11, l12], sh, lo, ts, cl⟩ : Chk)) hc18)]; exact hoo) | (rw [filt_no ω (levF_no (c := (⟨[l0, l1, l2, l3, l4, l5, l6, l7, l8, l9, l10, l11, l12], sh, lo, ts, cl⟩ : Chk)) hc18)]; exact hoo)), δ, hV, hI6⟩
  exact ψ
 refine r_exit rfl ?_
 refine Zs ?_
 refine Zo (run_mv (v := vo) rfl η) ?_
 refine Zr [vo, .func _ _ _] rfl η Tryz.func32 (sortF_calls hoo) ?_
 rintro e w21 ⟨rfl, hE21, gs21, hsr21, hs21⟩
 refine ⟨_, rfl, ?_⟩
 have Q21 := hE21.size
 replace hV := evo_stepo hV hE21 (fun g hg => .inl (by first | exact (hoo.block hg).1 | (have := hoo.block hg; omega)))
 replace hI6 := evo_stepo hI6 hE21 (fun g hg => .inl (by first | exact (hoo.block hg).1 | (have := hoo.block hg; omega)))
 replace hoo := hs21
 refine r_nil ?_
 refine Zs ?_
 refine Zo (run_mv (v := vo) rfl η) ?_
 refine Zn (run_asg (v := vo) rfl η) ?_
 refine r_ret (res1 (v := vo) rfl η) ?_
 rw [runF_ok (c := (⟨[l0, l1, l2, l3, l4, l5, l6, l7, l8, l9, l10, l11, l12], sh, lo, ts, cl⟩ : Chk)) (fun q => q hval), ← sortF_of2 (p := (levF (⟨[l0, l1, l2, l3, l4, l5, l6, l7, l8, l9, l10, l11, l12], sh, lo, ts, cl⟩ : Chk))) hpa5 (by have h9 := hsr21; rw [List.take_of_length_le ω] at h9; exact h9)]
 exact ⟨_, rfl, hV, hoo.base_le ω⟩
theorem ref1_calls {l0 l1 l2 l3 l4 l5 l6 l7 l8 l9 l10 l11 l12 sh lo : Int} {aot : Option Addr} {capt : Nat} {ts : List TermL} {aoc : Option Addr} {capc : Nat} {cl : List Clas} {bn : Nat} {x : Vc.Item} {w0 : World} (hn : Blk w0 bn 28 [.int .i64 l0, .int .i64 l1, .int .i64 l2, .int .i64 l3, .int .i64 l4, .int .i64 l5, .int .i64 l6, .int .i64 l7, .int .i64 l8, .int .i64 l9, .int .i64 l10, .int .i64 l11, .int .i64 l12, .int .i64 sh, .int .i64 lo, .slice aot ts.length capt, .slice aoc cl.length capc]) :
    Calls Tryz.prog 50 #[(.agg (Enc.enc x).toArray), .pointer (some ⟨bn, 0, none⟩)] w0 fun e w' => e = .returned (.bool (refB (⟨[l0, l1, l2, l3, l4, l5, l6, l7, l8, l9, l10, l11, l12], sh, lo, ts, cl⟩ : Chk) x)) ∧ Evo w0 w' [] := by
 have hAn := hn.at; have hnlt := hn.lt
 refine calls_enter (n := 20) Tryz.func50 rfl Tryz.ntmps50 rfl ?_
 have hV : Evo w0 w0 [] := Evo.refl _ _
 refine Zs ?_
 refine r_box (vs := [_, _, _]) η η rfl ?_
 intro b1 w2 J1 E2 B1 Y1
 have Q2 := E2.size
 replace hV := Z0 hV E2
 replace hAn := hAn.evo0 E2
 refine Zn asB ?_
 refine Zs ?_
 refine Zo (run_fa rfl η fo_39_0) ?_
 refine Zo (run_ld1 rfl ag_3 η (B1.at.cell 0 η)) ?_
 refine Zo (run_geq rfl η η) ?_
 refine Zo mvB ?_
 refine r_g rfl (wantT η) rfl (fun hg => run_fa rfl η fo_39_0) ?_
 refine r_g rfl (wantT η) rfl (fun hg => run_ld1 rfl ag_3 (glv η (fun h => h) hg) (B1.at.cell 0 η)) ?_
 refine r_g rfl (wantT η) rfl (fun hg => run_leq rfl (glv η (fun h => h) hg) η) ?_
 refine Zo (run_pick_and rfl η (fun hq => glv η (fun h => h) hq) rfl) ?_
 refine Zo mvB ?_
 refine r_g rfl (wantT η) rfl (fun hg => run_fa rfl η fo_39_0) ?_
 refine r_g rfl (wantT η) rfl (fun hg => run_ld1 rfl ag_3 (glv η (fun h => h) hg) (B1.at.cell 0 η)) ?_
 refine r_g rfl (wantT η) rfl (fun hg => run_fa rfl η fo_28_0) ?_
 refine r_g rfl (wantT η) rfl (fun hg => run_ixP (x.kind.toNat) rfl Tryz.underlying24 ty_3 (glv η (fun h => h) hg) (glv η (fun h => h) hg) ω ω) ?_
 refine r_g rfl (wantT η) rfl (fun hg => run_ld1 rfl ag_3 (glv η (fun h => h) hg) (cell_at (j := x.kind.toNat) hAn (by exact lev_at (l := ([l0, l1, l2, l3, l4, l5, l6, l7, l8, l9, l10, l11, l12] : List Int)) (rest := [.int .i64 sh, .int .i64 lo, .slice aot ts.length capt, .slice aoc cl.length capc]) (show x.kind.toNat < 13 by omega)) ω)) ?_
 refine r_g rfl (wantT η) rfl (fun hg => run_eql rfl (glv η (fun h => h) hg) η) ?_
 refine Zo (run_pick_and rfl η (fun hq => glv η (fun h => h) hq) rfl) ?_
 refine Zn asB ?_
 refine r_ret (res1 (v := .bool _) rfl η) ?_
 exact ⟨ret_bool rfl, hV⟩
theorem ixr_calls {l0 l1 l2 l3 l4 l5 l6 l7 l8 l9 l10 l11 l12 sh lo : Int} {aot : Option Addr} {capt : Nat} {ts : List TermL} {aoc : Option Addr} {capc : Nat} {cl : List Clas} {bn : Nat} {ao : Option Addr} {b off cap : Nat} {l : List Vc.Item} {w0 : World} (hl : RowE w0 ao b off cap l) (hn : Blk w0 bn 28 [.int .i64 l0, .int .i64 l1, .int .i64 l2, .int .i64 l3, .int .i64 l4, .int .i64 l5, .int .i64 l6, .int .i64 l7, .int .i64 l8, .int .i64 l9, .int .i64 l10, .int .i64 l11, .int .i64 l12, .int .i64 sh, .int .i64 lo, .slice aot ts.length capt, .slice aoc cl.length capc]) :
    Calls Tryz.prog 92 #[.slice ao l.length cap, .func (.func 50) #[] #[.pointer (some ⟨bn, 0, none⟩)]] w0 fun e w' => ∃ r : Int, e = .returned (.int .i64 r) ∧ Evo w0 w' [] ∧ (0 ≤ r ↔ refL (⟨[l0, l1, l2, l3, l4, l5, l6, l7, l8, l9, l10, l11, l12], sh, lo, ts, cl⟩ : Chk) l = true) := by
 have hAn := hn.at; have hnlt := hn.lt
 refine calls_enter (n := 19) Tryz.func92 rfl Tryz.ntmps92 rfl ?_
 have hV : Evo w0 w0 [] := Evo.refl _ _
 have hl0 := keepE hl
 have hbd_hl := hl.bd
 refine Zs ?_
 refine Zn asI ?_
 refine r_seq ?_
 refine Zs ?_
 refine Zo mvS ?_
 refine Zo (run_lenSl rfl η Tryz.underlying34) ?_
 refine Zn mvI ?_
 refine r_block ?_
 refine r_loop (α := Nat) [4, 5, 8, 9, 10, 11, 12, 13, 14, 15, 16, 17, 18] (fun k g w => g 8 = .int .i64 (k : Nat) ∧ k ≤ l.length ∧ Blk w bn 28 [.int .i64 l0, .int .i64 l1, .int .i64 l2, .int .i64 l3, .int .i64 l4, .int .i64 l5, .int .i64 l6, .int .i64 l7, .int .i64 l8, .int .i64 l9, .int .i64 l10, .int .i64 l11, .int .i64 l12, .int .i64 sh, .int .i64 lo, .slice aot ts.length capt, .slice aoc cl.length capc] ∧ (∀ j, j < k → ¬ refB (⟨[l0, l1, l2, l3, l4, l5, l6, l7, l8, l9, l10, l11, l12], sh, lo, ts, cl⟩ : Chk) (l.getD j default) = true) ∧ w0.heap.size ≤ w.heap.size ∧ Evo w0 w []) (fun k => l.length - k) 0 ?_ ?_
 ·refine ⟨σ, δ, hn, (fun j h => by omega), δ, hV⟩
 rintro k g w2 ⟨hj3, hk_k, hn, hno, hzl1, hV⟩
 have hs_w2hV := hV.size
 have hlt4 := hn.lt
 replace hl := hl0 _ hV
 refine Zk 8 (v := .int .i64 (k : Nat)) (by exact hj3) ?_
 refine Zs ?_
 refine Zn (run_lss rfl η η) ?_
 refine r_seq ?_
 refine r_cond η (fun hc5 => ?_) (fun hc5 => ?_)
 ·skip
  refine r_skip ?_
  refine r_seq ?_
  refine r_block ?_
  refine Zs ?_
  refine Zo mvI ?_
  refine Zn asI ?_
  refine Zs ?_
  refine Zo (run_mv (v := .func _ _ _) rfl η) ?_
  refine Zo mvS ?_
  refine Zo mvI ?_
  refine Zo (run_ix (k) rfl Tryz.underlying34 ty_39 η η (by first | exact rfl | omega) ω (hl.addr (i := k) ω)) ?_
  have hA60 := fun (w' : World) (h : Evo w0 w' []) => (hl0 w' h).atD (k) ω
  have hA6 := hA60 _ hV
  refine Zo (run_ldN rfl ag_39 ty_39 η rfl hA6) ?_
  refine r_opcall rfl rfl rfl (run_callfn (vs := [.agg _]) (cs := [.pointer (some ⟨bn, 0, none⟩)]) rfl η η Tryz.func50 rfl ζ) (ref1_calls hn) ?_
  rintro e w7 ⟨rfl, hE7⟩
  refine ⟨_, rfl, ?_⟩
  have Q7 := hE7.size
  replace hV := Z0 hV hE7
  replace hl := hl0 _ hV
  replace hn := hn.evo0 hE7
  refine r_nil ?_
  refine r_condb η (fun hc8 => ?_) (fun hc8 => ?_)
  ·skip
   refine Zs ?_
   refine Zo mvI ?_
   refine Zn asI ?_
   refine r_ret (res1 (v := .int _ _) rfl η) ?_
   exact ⟨_, rfl, hV, ⟨fun _ => anyI_yes ω hc8, fun _ => by omega⟩⟩
  refine r_skip ?_
  refine r_blk ?_
  refine r_region ?_
  refine Zo (run_add rfl η η ω ω) ?_
  refine Zn mvI ?_
  refine r_again (k + 1) ?_ ?_ ?_
  ·first | omega | (dsimp only; omega)
  ·refine ⟨σ, δ, hn, (upto0 hno (by rw [hc8]; decide)), δ, hV⟩
  exact ψ
 refine r_exit rfl ?_
 refine Zs ?_
 refine Zn asI ?_
 refine r_ret (res1 (v := .int _ _) rfl η) ?_
 exact ⟨_, rfl, hV, ⟨fun h9 => absurd h9 ω, fun h9 => absurd h9 (anyI_no (fun j hj => hno j ω))⟩⟩
theorem ctr_calls {l0 l1 l2 l3 l4 l5 l6 l7 l8 l9 l10 l11 l12 sh lo : Int} {aot : Option Addr} {capt : Nat} {ts : List TermL} {aoc : Option Addr} {capc : Nat} {cl : List Clas} {bn : Nat} {ao : Option Addr} {b off cap : Nat} {l : List Vc.Item} {w0 : World} (hl : RowE w0 ao b off cap l) (hn : Blk w0 bn 28 [.int .i64 l0, .int .i64 l1, .int .i64 l2, .int .i64 l3, .int .i64 l4, .int .i64 l5, .int .i64 l6, .int .i64 l7, .int .i64 l8, .int .i64 l9, .int .i64 l10, .int .i64 l11, .int .i64 l12, .int .i64 sh, .int .i64 lo, .slice aot ts.length capt, .slice aoc cl.length capc]) :
    Calls Tryz.prog 49 #[.slice ao l.length cap, .func (.func 50) #[] #[.pointer (some ⟨bn, 0, none⟩)]] w0 fun e w' => e = .returned (.bool (refL (⟨[l0, l1, l2, l3, l4, l5, l6, l7, l8, l9, l10, l11, l12], sh, lo, ts, cl⟩ : Chk) l)) ∧ Evo w0 w' [] := by
 have hnlt := hn.lt
 refine calls_enter (n := 9) Tryz.func49 rfl Tryz.ntmps49 rfl ?_
 have hV : Evo w0 w0 [] := Evo.refl _ _
 have hl0 := keepE hl
 have hbd_hl := hl.bd
 refine Zs ?_
 refine Zn asB ?_
 refine Zs ?_
 refine Zo mvS ?_
 refine Zo (run_mv (v := .func _ _ _) rfl η) ?_
 refine Zr [.slice _ _ _, .func _ _ _] rfl η Tryz.func92 (ixr_calls hl hn) ?_
 rintro e w1 ⟨r1, rfl, hE1, hri1⟩
 refine ⟨_, rfl, ?_⟩
 have Q1 := hE1.size
 replace hV := Z0 hV hE1
 replace hl := hl0 _ hV
 replace hn := hn.evo0 hE1
 refine Zo (run_geq rfl η η) ?_
 refine Zn asB ?_
 refine r_ret (res1 (v := .bool _) rfl η) ?_
 exact ⟨ret_bool (by have h9 := hri1; cases h8 : refL (⟨[l0, l1, l2, l3, l4, l5, l6, l7, l8, l9, l10, l11, l12], sh, lo, ts, cl⟩ : Chk) l <;> simp_all), hV⟩
theorem refused_calls {l0 l1 l2 l3 l4 l5 l6 l7 l8 l9 l10 l11 l12 sh lo : Int} {aot : Option Addr} {bt ot capt : Nat} {ts : List TermL} {aoc : Option Addr} {bc oc capc : Nat} {cl : List Clas} {ao : Option Addr} {b off cap : Nat} {l : List Vc.Item} {w0 : World} (hl : RowE w0 ao b off cap l) (hts : RowR w0 aot bt ot capt ts) (hcl : RowR w0 aoc bc oc capc cl) :
    Calls Tryz.prog 25 #[.agg #[.int .i64 l0, .int .i64 l1, .int .i64 l2, .int .i64 l3, .int .i64 l4, .int .i64 l5, .int .i64 l6, .int .i64 l7, .int .i64 l8, .int .i64 l9, .int .i64 l10, .int .i64 l11, .int .i64 l12, .int .i64 sh, .int .i64 lo, .slice aot ts.length capt, .slice aoc cl.length capc], .slice ao l.length cap] w0 fun e w' => e = .returned (.bool (refL (⟨[l0, l1, l2, l3, l4, l5, l6, l7, l8, l9, l10, l11, l12], sh, lo, ts, cl⟩ : Chk) l)) ∧ Evo w0 w' [] := by
 refine calls_enter (n := 8) Tryz.func25 rfl Tryz.ntmps25 rfl ?_
 have hV : Evo w0 w0 [] := Evo.refl _ _
 have hl0 := keepE hl
 have hbd_hl := hl.bd
 have hts0 := hts.keep
 have hbd_hts := hts.bd
 have hcl0 := hcl.keep
 have hbd_hcl := hcl.bd
 refine Zs ?_
 refine r_box (vs := [_, _, _, _, _, _, _, _, _, _, _, _, _, _, _, _, _]) η η rfl ?_
 intro b1 w2 J1 E2 B1 Y1
 have Q2 := E2.size
 replace hV := Z0 hV E2
 replace hl := hl0 _ hV
 refine Zn asB ?_
 refine Zs ?_
 refine Zo mvS ?_
 refine Zo (run_mkF (vs := [.pointer _]) rfl η) ?_
 refine Zr [.slice _ _ _, .func _ _ _] rfl η Tryz.func49 (ctr_calls hl B1) ?_
 rintro e w3 ⟨rfl, hE3⟩
 refine ⟨_, rfl, ?_⟩
 have Q3 := hE3.size
 replace hV := Z0 hV hE3
 refine Zn asB ?_
 refine r_ret (res1 (v := .bool _) rfl η) ?_
 exact ⟨rfl, hV⟩
def rawW : List Str := [[], [98], [97, 98, 32, 99], [97, 32, 104, 61, 49], [66], [110, 47], [105], [32, 120]]
theorem rawW_bd : ∀ j, j < 8 → (rawW.getD j default).length ≤ 5 := by decide
end Go.Proofs.YtlfjocbnbceceaaGreatDoor
namespace Go.Vc
open Go Go.RowKit
section
variable {P : Program} {B : Exit → Act → World → Prop} {n : Nat} {k : List Kont} {f : Fr} {w : World} {ops : Array Oper} {S : World → Prop} {fuel : Nat} {d : List Nat}
theorem h_join (D : List Nat) (fuel2 : Nat) (M : List Nat) (J : Fr → World → Prop) (h2 : ∀ g w', J g w' → HA P B n k S ops fuel2 D (merge M f g) w')
    (h1 : (∀ (g : Fr) (w' : World) (D2 : List Nat), lst ops D2 = lst ops D → J g w' → Agree M f g → HA P B n k S ops fuel2 D2 g w') → HA P B n k S ops fuel d f w) : HA P B n k S ops fuel d f w :=
  h1 (fun g w' D2 he hj ha a hi => by
    have h3 := h2 g w' hj
    rw [merge_of ha] at h3
    rw [he]; exact h3 a hi)
end
end Go.Vc
namespace Go.Proofs.YtlfjocbnbceceaaGreatDoor
open Go.RowKit Go.Vc
set_option maxHeartbeats 4000000 in
theorem rawi_calls {T bs : Nat} {ao : Option Addr} {b off cap : Nat} {l : List Int} {N : Nat} {n : Int} {w0 : World} (hb : Blk w0 bs T [.slice ao l.length cap, .int .i64 (N : Nat)]) (hl : ∀ w', Evo w0 w' [bs] → RowE w' ao b off cap l) (hN : N ≤ 100000) (hn0 : 0 ≤ n) (hn9 : n ≤ 100) :
    Calls Tryz.prog 42 #[.pointer (some ⟨bs, 0, none⟩), .int .i64 n] w0 fun e w' => ∃ v, ∃ f : List Vc.Item, e = .returned v ∧ ((f.length : Int) ≤ n ∧ (sizeL f : Int) ≤ 5 * n ∧ (∀ y ∈ f, 0 ≤ y.id ∧ y.id ≤ 3)) ∧ Evo w0 w' [bs] ∧ OwnE w' w0.heap.size 32 v f := by
 have hAs := hb.at; have hbslt := hb.lt
 refine calls_enter (n := 36) Tryz.func42 rfl Tryz.ntmps42 rfl ?_
 have hV : Evo w0 w0 [bs] := Evo.refl _ _
 have hl0 := hl
 replace hl := hl0 _ hV
 have hbd_hl := hl.bd
 refine Zs ?_
 refine Zn asS ?_
 refine Zs ?_
 refine Zn asS ?_
 refine r_seq ?_
 refine Zs ?_
 refine Zo mvP ?_
 refine Zo mvI ?_
 refine Zo (run_add rfl η η ω ω) ?_
 refine Zr [.pointer _, .int _ _] rfl η Tryz.func38 (nx_calls hb hl ω ω ω) ?_
 rintro e w1 ⟨nx1, rfl, hx1, hE1, hn1⟩
 refine ⟨_, rfl, ?_⟩
 have Q1 := hE1.size
 replace hV := Z1 hV hE1 (.inr (by simp))
 replace hl := hl0 _ hV
 replace hb := hn1
 clear hn1
 have hAs := hb.at
 refine Zn asI ?_
 refine r_block ?_
 refine r_loop (α := Nat) [5, 6, 7, 12, 13, 14, 15, 16, 17, 18, 19, 20, 21, 22, 23, 24, 25, 26, 27, 28, 29, 30, 31, 32, 33, 34] (fun i g w => ∃ vf : Value, ∃ f : List Vc.Item, ∃ N1 : Nat, g 6 = .int .i64 (i : Nat) ∧ g 5 = vf ∧ OwnE w w0.heap.size 32 vf f ∧ Blk w bs T [.slice ao l.length cap, .int .i64 (N1 : Nat)] ∧ At w bs 0 [.slice ao l.length cap, .int .i64 (N1 : Nat)] ∧ (f.length + i ≤ nx1.toNat ∧ sizeL f + 5 * i ≤ 5 * nx1.toNat ∧ N + 1 ≤ N1 ∧ N1 + 4 * i ≤ N + 1 + 4 * nx1.toNat) ∧ (∀ y ∈ f, 0 ≤ y.id ∧ y.id ≤ 3) ∧ w1.heap.size ≤ w.heap.size ∧ Evo w0 w [bs]) (fun i => i) nx1.toNat ?_ ?_
 ·refine ⟨_, [], _, (congrArg (Value.int _) ω), rfl, (OwnE.nil _ _ _), hb, hb.at, (by first | (simp [sizeL]; done) | (simp [sizeL]; omega)), (fun y hy => absurd hy List.not_mem_nil), δ, hV⟩
 rintro i g w3 ⟨vf, f, N1, hj4, hj5, hof, hb, hAs, hsz, hid, hzl2, hV⟩
 have hs_w3hV := hV.size
 have hlt6 := hb.lt
 refine Zk 6 (v := .int .i64 (i : Nat)) (by exact hj4) ?_
 refine Zk 5 (v := vf) (by exact hj5) ?_
 refine r_seq ?_
 refine Zs ?_
 refine Zo mvI ?_
 refine Zn (run_gtr rfl η η) ?_
 refine r_cond η (fun hc7 => ?_) (fun hc7 => ?_)
 ·skip
  refine r_skip ?_
  refine r_seq ?_
  refine r_block ?_
  refine r_seq ?_
  refine r_cut [7, 16, 17, 18, 19, 20, 21, 22, 23, 24, 25, 26] (fun g w => ∃ bx : Nat, ∃ kx : Int, ∃ tx : Str, ∃ ix : Int, g 7 = .pointer (some ⟨bx, 0, none⟩) ∧ OwnE w w0.heap.size 32 vf f ∧ Blk w bx 32 [.int .i64 kx, S tx, .int .i64 ix] ∧ At w bx 0 [.int .i64 kx, S tx, .int .i64 ix] ∧ Blk w bs T [.slice ao l.length cap, .int .i64 ((N1 + 3) : Nat)] ∧ At w bs 0 [.slice ao l.length cap, .int .i64 ((N1 + 3) : Nat)] ∧ tx.length ≤ 5 ∧ w0.heap.size ≤ bx ∧ (∀ g, vf.ownBlock = some g → g ≠ bx) ∧ (0 ≤ ix ∧ ix ≤ 3) ∧ w3.heap.size ≤ w.heap.size ∧ Evo w0 w [bs]) ?_ ?_
  ·skip
   have hobF := fun g hg => (hof.block (g := g) hg).2
   have hb_q := hb
   have hAs_q := hAs
   have hV_q := hV
   refine h_region ([bs]) ζ ?_
   intro w9 hE10 hC11
   have Q9 := hE10.size
   replace hV := Z0 hV hE10
   replace hl := hl0 _ hV
   replace hof := hof.evo0 hE10
   replace hb := hb.evo0 hE10
   replace hAs := hAs.evo0 hE10
   refine h_join [0, 1, 2, 3, 4, 5, 6, 7, 8, 9, 10, 11] 1 [7, 16, 17, 18, 19, 20, 21, 22, 23, 24, 25, 26] (fun g w => ∃ bx9 : Nat, ∃ kx9 : Int, ∃ tx9 : Str, ∃ ix9 : Int, g 26 = .agg #[.int .i64 kx9, S tx9, .int .i64 ix9] ∧ g 7 = .pointer (some ⟨bx9, 0, none⟩) ∧ OwnE w w0.heap.size 32 vf f ∧ Blk w bx9 32 [.int .i64 0, S [], .int .i64 0] ∧ At w bx9 0 [.int .i64 0, S [], .int .i64 0] ∧ Blk w bs T [.slice ao l.length cap, .int .i64 ((N1 + 3) : Nat)] ∧ At w bs 0 [.slice ao l.length cap, .int .i64 ((N1 + 3) : Nat)] ∧ tx9.length ≤ 5 ∧ (0 ≤ ix9 ∧ ix9 ≤ 3) ∧ w0.heap.size ≤ bx9 ∧ (∀ g, vf.ownBlock = some g → g ≠ bx9) ∧ w9.heap.size ≤ w.heap.size ∧ Evo w0 w [bs] ∧ Evo w3 w [bs]) ?_ ?_
   ·rintro g w13 ⟨bx9, kx9, tx9, ix9, hj14, hj15, hof, hbx9, hAx9, hb, hAs, htx9, hix9, hbx09, hnx9, hzl12, hV, hC11⟩
    have hs_w13hV := hV.size
    have hs_w13hC11 := hC11.size
    have hlt16 := hbx9.lt
    have hlt17 := hb.lt
    refine h_know (i := 26) (v := .agg #[.int .i64 kx9, S tx9, .int .i64 ix9]) (by exact hj14) ?_
    refine h_know (i := 7) (v := .pointer (some ⟨bx9, 0, none⟩)) (by exact hj15) ?_
    refine Zh (i := 12) ?_
    refine r_store (v := .agg _) (vs := [_, _, _]) (cs' := [_, _, _]) η η hbx9 ty_32 η rfl η rfl η ?_
    intro w18 E18 V18 hb_new
    have Q18 := E18.size
    replace hV := Z1 hV E18 ε
    replace hl := hl0 _ hV
    replace hof := hof.evo E18 (by intro g hg hm; simp at hm; subst hm; exact hnx9 _ hg rfl)
    replace hb := hb.evo E18 θ
    replace hbx9 := hb_new
    have hAx9 := hbx9.at
    clear hb_new
    refine h_last ζ ?_
    refine h_done ζ ?_
    refine r_cut_end ?_ ?_
    ·refine ⟨_, _, _, _, rfl, hof, hbx9, hbx9.at, hb, hb.at, htx9, ω, hnx9, hix9, δ, hV⟩
    exact ψ
   intro hJ9
   refine Zt (i := 0) η (fun w' hC => mvP) hC11 ?_
   refine Zt (i := 4) η (fun w' hC => mvP) hC11 ?_
   refine Zt (i := 8) η (fun w' hC => mvP) hC11 ?_
   refine h_three (i := 1) (j := 3) (p := 11) ζ ?_ ?_ ?_
   ·skip
    refine h_do η ?_
    refine Zr [.pointer _, .int _ _] rfl η Tryz.func38 (nx_calls hb hl ω ω ω) ?_
    rintro e w19 ⟨nx19, rfl, hx19, hE19, hn19⟩
    refine ⟨_, rfl, ?_⟩
    have Q19 := hE19.size
    replace hV := Z1 hV hE19 (.inr (by simp))
    replace hC11 := Z1 hC11 hE19 ε
    replace hl := hl0 _ hV
    replace hof := hof.evo hE19 (by intro g hg hm; simp at hm; subst hm; have h7 := hobF g hg; have h8 := hof.block hg; omega)
    replace hb := hn19
    clear hn19
    have hAs := hb.at
    refine h_next hC11 ?_
    refine Zt (i := 2) η (fun w' hC => run_sub rfl η η ω ω) hC11 ?_
    refine h_three (i := 3) (j := 5) (p := 11) ζ ?_ ?_ ?_
    ·skip
     refine h_do η ?_
     refine r_bslice (pv := [(0, S _), (1, S _), (2, S _), (3, S _), (4, S _), (5, S _), (6, S _), (7, S _)]) (zs := [_]) (cs := [_, _, _, _, _, _, _, _]) Tryz.underlying77 ty_9 η rfl η rfl η ?_
     intro b20 w21 J20 E21 B20 Y20
     have Q21 := E21.size
     replace hV := Z0 hV E21
     replace hC11 := Z0 hC11 E21
     replace hl := hl0 _ hV
     replace hof := hof.evo0 E21
     replace hb := hb.evo0 E21
     replace hAs := hAs.evo0 E21
     have hrb20 : RowE w21 (some ⟨b20, 0, none⟩) b20 0 8 rawW := rowLit rawW B20 rfl rfl
     refine h_next hC11 ?_
     refine h_two (i := 5) (j := 11) ζ ?_ ?_
     ·skip
      refine h_do η ?_
      refine Zr [.pointer _, .int _ _] rfl η Tryz.func38 (nx_calls hb hl ω ω ω) ?_
      rintro e w22 ⟨nx22, rfl, hx22, hE22, hn22⟩
      refine ⟨_, rfl, ?_⟩
      have Q22 := hE22.size
      replace hV := Z1 hV hE22 (.inr (by simp))
      replace hC11 := Z1 hC11 hE22 ε
      replace hl := hl0 _ hV
      replace hof := hof.evo hE22 (by intro g hg hm; simp at hm; subst hm; have h7 := hobF g hg; have h8 := hof.block hg; omega)
      replace hrb20 := hrb20.evo hE22 θ
      replace hb := hn22
      clear hn22
      have hAs := hb.at
      refine h_next hC11 ?_
      refine Zt (i := 6) η (fun w' hC => run_ix (nx22.toNat) rfl Tryz.underlying77 ty_9 η η ω (by show _ < 8; omega) (hrb20.addr (i := nx22.toNat) (by show _ < 8; omega))) hC11 ?_
      have hA23 := hrb20.atD (nx22.toNat) (by show _ < 8; omega)
      refine h_three (i := 7) (j := 9) (p := 11) ζ ?_ ?_ ?_
      ·skip
       refine h_do η ?_
       refine Zo (run_ld1 rfl ag_9 η (hA23.cell 0 η)) ?_
       refine h_next hC11 ?_
       refine h_two (i := 9) (j := 11) ζ ?_ ?_
       ·skip
        refine h_do η ?_
        refine Zr [.pointer _, .int _ _] rfl η Tryz.func38 (nx_calls hb hl ω ω ω) ?_
        rintro e w24 ⟨nx24, rfl, hx24, hE24, hn24⟩
        refine ⟨_, rfl, ?_⟩
        have Q24 := hE24.size
        replace hV := Z1 hV hE24 (.inr (by simp))
        replace hC11 := Z1 hC11 hE24 ε
        replace hof := hof.evo hE24 (by intro g hg hm; simp at hm; subst hm; have h7 := hobF g hg; have h8 := hof.block hg; omega)
        replace hb := hn24
        clear hn24
        have hAs := hb.at
        refine h_next hC11 ?_
        refine Zt (i := 10) η (fun w' hC => run_bld (pv := [(0, .int _ _), (1, S _), (2, .int _ _)]) (zs := [_, _, _]) (cells := [_, _, _]) rfl ty_32 η pl_32 η η) hC11 ?_
        refine Zh (i := 11) ?_
        have hob25 := fun g hg => (hof.block (g := g) hg).2
        refine r_alloc (zs := [_, _, _]) ty_32 η rfl ?_
        intro b26 w27 J26 E27 B26 Y26
        have Q27 := E27.size
        replace hV := Z0 hV E27
        replace hC11 := Z0 hC11 E27
        replace hl := hl0 _ hV
        replace hof := hof.evo0 E27
        replace hb := hb.evo0 E27
        refine h_next hC11 ?_
        refine hJ9 _ _ _ ζ ⟨_, _, _, _, rfl, rfl, hof, B26, B26.at, hb, hb.at, (rawW_bd _ ω), ⟨by omega, by omega⟩, ω, (fun g hg => by have := hobF g hg; omega), δ, hV, hC11⟩ ?_
        exact ψ
       refine h_do η ?_
       have hob28 := fun g hg => (hof.block (g := g) hg).2
       refine r_alloc (zs := [_, _, _]) ty_32 η rfl ?_
       intro b29 w30 J29 E30 B29 Y29
       have Q30 := E30.size
       replace hV := Z0 hV E30
       replace hC11 := Z0 hC11 E30
       replace hl := hl0 _ hV
       replace hof := hof.evo0 E30
       replace hrb20 := hrb20.evo0 E30
       replace hb := hb.evo0 E30
       replace hAs := hAs.evo0 E30
       refine h_next hC11 ?_
       refine Zh (i := 9) ?_
       refine Zr [.pointer _, .int _ _] rfl η Tryz.func38 (nx_calls hb hl ω ω ω) ?_
       rintro e w31 ⟨nx31, rfl, hx31, hE31, hn31⟩
       refine ⟨_, rfl, ?_⟩
       have Q31 := hE31.size
       replace hV := Z1 hV hE31 (.inr (by simp))
       replace hC11 := Z1 hC11 hE31 ε
       replace hl := hl0 _ hV
       replace hof := hof.evo hE31 (by intro g hg hm; simp at hm; subst hm; have h7 := hobF g hg; have h8 := hof.block hg; omega)
       replace B29 := B29.evo hE31 θ
       replace hb := hn31
       clear hn31
       have hAs := hb.at
       refine h_next hC11 ?_
       refine Zt (i := 10) η (fun w' hC => run_bld (pv := [(0, .int _ _), (1, S _), (2, .int _ _)]) (zs := [_, _, _]) (cells := [_, _, _]) rfl ty_32 η pl_32 η η) hC11 ?_
       refine hJ9 _ _ _ ζ ⟨_, _, _, _, rfl, rfl, hof, B29, B29.at, hb, hb.at, (rawW_bd _ ω), ⟨by omega, by omega⟩, ω, (fun g hg => by have := hobF g hg; omega), δ, hV, hC11⟩ ?_
       exact ψ
      ·skip
       refine h_do η ?_
       refine Zr [.pointer _, .int _ _] rfl η Tryz.func38 (nx_calls hb hl ω ω ω) ?_
       rintro e w32 ⟨nx32, rfl, hx32, hE32, hn32⟩
       refine ⟨_, rfl, ?_⟩
       have Q32 := hE32.size
       replace hV := Z1 hV hE32 (.inr (by simp))
       replace hC11 := Z1 hC11 hE32 ε
       replace hof := hof.evo hE32 (by intro g hg hm; simp at hm; subst hm; have h7 := hobF g hg; have h8 := hof.block hg; omega)
       replace hA23 := hA23.evo hE32 θ
       replace hb := hn32
       clear hn32
       have hAs := hb.at
       refine h_next hC11 ?_
       refine h_two (i := 7) (j := 11) ζ ?_ ?_
       ·skip
        refine h_do η ?_
        refine Zo (run_ld1 rfl ag_9 η (hA23.cell 0 η)) ?_
        refine h_next hC11 ?_
        refine Zt (i := 10) η (fun w' hC => run_bld (pv := [(0, .int _ _), (1, S _), (2, .int _ _)]) (zs := [_, _, _]) (cells := [_, _, _]) rfl ty_32 η pl_32 η η) hC11 ?_
        refine Zh (i := 11) ?_
        have hob33 := fun g hg => (hof.block (g := g) hg).2
        refine r_alloc (zs := [_, _, _]) ty_32 η rfl ?_
        intro b34 w35 J34 E35 B34 Y34
        have Q35 := E35.size
        replace hV := Z0 hV E35
        replace hC11 := Z0 hC11 E35
        replace hl := hl0 _ hV
        replace hof := hof.evo0 E35
        replace hb := hb.evo0 E35
        refine h_next hC11 ?_
        refine hJ9 _ _ _ ζ ⟨_, _, _, _, rfl, rfl, hof, B34, B34.at, hb, hb.at, (rawW_bd _ ω), ⟨by omega, by omega⟩, ω, (fun g hg => by have := hobF g hg; omega), δ, hV, hC11⟩ ?_
        exact ψ
       refine h_do η ?_
       have hob36 := fun g hg => (hof.block (g := g) hg).2
       refine r_alloc (zs := [_, _, _]) ty_32 η rfl ?_
       intro b37 w38 J37 E38 B37 Y37
       have Q38 := E38.size
       replace hV := Z0 hV E38
       replace hC11 := Z0 hC11 E38
       replace hl := hl0 _ hV
       replace hof := hof.evo0 E38
       replace hA23 := hA23.evo0 E38
       replace hb := hb.evo0 E38
       refine h_next hC11 ?_
       refine Zh (i := 7) ?_
       refine Zo (run_ld1 rfl ag_9 η (hA23.cell 0 η)) ?_
       refine h_next hC11 ?_
       refine Zt (i := 10) η (fun w' hC => run_bld (pv := [(0, .int _ _), (1, S _), (2, .int _ _)]) (zs := [_, _, _]) (cells := [_, _, _]) rfl ty_32 η pl_32 η η) hC11 ?_
       refine hJ9 _ _ _ ζ ⟨_, _, _, _, rfl, rfl, hof, B37, B37.at, hb, hb.at, (rawW_bd _ ω), ⟨by omega, by omega⟩, ω, (fun g hg => by have := hobF g hg; omega), δ, hV, hC11⟩ ?_
       exact ψ
      refine h_do η ?_
      have hob39 := fun g hg => (hof.block (g := g) hg).2
      refine r_alloc (zs := [_, _, _]) ty_32 η rfl ?_
      intro b40 w41 J40 E41 B40 Y40
      have Q41 := E41.size
      replace hV := Z0 hV E41
      replace hC11 := Z0 hC11 E41
      replace hl := hl0 _ hV
      replace hof := hof.evo0 E41
      replace hrb20 := hrb20.evo0 E41
      replace hb := hb.evo0 E41
      replace hAs := hAs.evo0 E41
      replace hA23 := hA23.evo0 E41
      refine h_next hC11 ?_
      refine h_two (i := 7) (j := 9) ζ ?_ ?_
      ·skip
       refine h_do η ?_
       refine Zo (run_ld1 rfl ag_9 η (hA23.cell 0 η)) ?_
       refine h_next hC11 ?_
       refine Zh (i := 9) ?_
       refine Zr [.pointer _, .int _ _] rfl η Tryz.func38 (nx_calls hb hl ω ω ω) ?_
       rintro e w42 ⟨nx42, rfl, hx42, hE42, hn42⟩
       refine ⟨_, rfl, ?_⟩
       have Q42 := hE42.size
       replace hV := Z1 hV hE42 (.inr (by simp))
       replace hC11 := Z1 hC11 hE42 ε
       replace hl := hl0 _ hV
       replace hof := hof.evo hE42 (by intro g hg hm; simp at hm; subst hm; have h7 := hobF g hg; have h8 := hof.block hg; omega)
       replace B40 := B40.evo hE42 θ
       replace hb := hn42
       clear hn42
       have hAs := hb.at
       refine h_next hC11 ?_
       refine Zt (i := 10) η (fun w' hC => run_bld (pv := [(0, .int _ _), (1, S _), (2, .int _ _)]) (zs := [_, _, _]) (cells := [_, _, _]) rfl ty_32 η pl_32 η η) hC11 ?_
       refine hJ9 _ _ _ ζ ⟨_, _, _, _, rfl, rfl, hof, B40, B40.at, hb, hb.at, (rawW_bd _ ω), ⟨by omega, by omega⟩, ω, (fun g hg => by have := hobF g hg; omega), δ, hV, hC11⟩ ?_
       exact ψ
      refine h_do η ?_
      refine Zr [.pointer _, .int _ _] rfl η Tryz.func38 (nx_calls hb hl ω ω ω) ?_
      rintro e w43 ⟨nx43, rfl, hx43, hE43, hn43⟩
      refine ⟨_, rfl, ?_⟩
      have Q43 := hE43.size
      replace hV := Z1 hV hE43 (.inr (by simp))
      replace hC11 := Z1 hC11 hE43 ε
      replace hl := hl0 _ hV
      replace hof := hof.evo hE43 (by intro g hg hm; simp at hm; subst hm; have h7 := hobF g hg; have h8 := hof.block hg; omega)
      replace hA23 := hA23.evo hE43 θ
      replace B40 := B40.evo hE43 θ
      replace hb := hn43
      clear hn43
      have hAs := hb.at
      refine h_next hC11 ?_
      refine Zh (i := 7) ?_
      refine Zo (run_ld1 rfl ag_9 η (hA23.cell 0 η)) ?_
      refine h_next hC11 ?_
      refine Zt (i := 10) η (fun w' hC => run_bld (pv := [(0, .int _ _), (1, S _), (2, .int _ _)]) (zs := [_, _, _]) (cells := [_, _, _]) rfl ty_32 η pl_32 η η) hC11 ?_
      refine hJ9 _ _ _ ζ ⟨_, _, _, _, rfl, rfl, hof, B40, B40.at, hb, hb.at, (rawW_bd _ ω), ⟨by omega, by omega⟩, ω, (fun g hg => by have := hobF g hg; omega), δ, hV, hC11⟩ ?_
      exact ψ
     refine h_do η ?_
     have hob44 := fun g hg => (hof.block (g := g) hg).2
     refine r_alloc (zs := [_, _, _]) ty_32 η rfl ?_
     intro b45 w46 J45 E46 B45 Y45
     have Q46 := E46.size
     replace hV := Z0 hV E46
     replace hC11 := Z0 hC11 E46
     replace hl := hl0 _ hV
     replace hof := hof.evo0 E46
     replace hb := hb.evo0 E46
     replace hAs := hAs.evo0 E46
     replace hrb20 := hrb20.evo0 E46
     refine h_next hC11 ?_
     refine Zh (i := 5) ?_
     refine Zr [.pointer _, .int _ _] rfl η Tryz.func38 (nx_calls hb hl ω ω ω) ?_
     rintro e w47 ⟨nx47, rfl, hx47, hE47, hn47⟩
     refine ⟨_, rfl, ?_⟩
     have Q47 := hE47.size
     replace hV := Z1 hV hE47 (.inr (by simp))
     replace hC11 := Z1 hC11 hE47 ε
     replace hl := hl0 _ hV
     replace hof := hof.evo hE47 (by intro g hg hm; simp at hm; subst hm; have h7 := hobF g hg; have h8 := hof.block hg; omega)
     replace hrb20 := hrb20.evo hE47 θ
     replace B45 := B45.evo hE47 θ
     replace hb := hn47
     clear hn47
     have hAs := hb.at
     refine h_next hC11 ?_
     refine Zt (i := 6) η (fun w' hC => run_ix (nx47.toNat) rfl Tryz.underlying77 ty_9 η η ω (by show _ < 8; omega) (hrb20.addr (i := nx47.toNat) (by show _ < 8; omega))) hC11 ?_
     have hA48 := hrb20.atD (nx47.toNat) (by show _ < 8; omega)
     refine h_two (i := 7) (j := 9) ζ ?_ ?_
     ·skip
      refine h_do η ?_
      refine Zo (run_ld1 rfl ag_9 η (hA48.cell 0 η)) ?_
      refine h_next hC11 ?_
      refine Zh (i := 9) ?_
      refine Zr [.pointer _, .int _ _] rfl η Tryz.func38 (nx_calls hb hl ω ω ω) ?_
      rintro e w49 ⟨nx49, rfl, hx49, hE49, hn49⟩
      refine ⟨_, rfl, ?_⟩
      have Q49 := hE49.size
      replace hV := Z1 hV hE49 (.inr (by simp))
      replace hC11 := Z1 hC11 hE49 ε
      replace hl := hl0 _ hV
      replace hof := hof.evo hE49 (by intro g hg hm; simp at hm; subst hm; have h7 := hobF g hg; have h8 := hof.block hg; omega)
      replace B45 := B45.evo hE49 θ
      replace hb := hn49
      clear hn49
      have hAs := hb.at
      refine h_next hC11 ?_
      refine Zt (i := 10) η (fun w' hC => run_bld (pv := [(0, .int _ _), (1, S _), (2, .int _ _)]) (zs := [_, _, _]) (cells := [_, _, _]) rfl ty_32 η pl_32 η η) hC11 ?_
      refine hJ9 _ _ _ ζ ⟨_, _, _, _, rfl, rfl, hof, B45, B45.at, hb, hb.at, (rawW_bd _ ω), ⟨by omega, by omega⟩, ω, (fun g hg => by have := hobF g hg; omega), δ, hV, hC11⟩ ?_
      exact ψ
     refine h_do η ?_
     refine Zr [.pointer _, .int _ _] rfl η Tryz.func38 (nx_calls hb hl ω ω ω) ?_
     rintro e w50 ⟨nx50, rfl, hx50, hE50, hn50⟩
     refine ⟨_, rfl, ?_⟩
     have Q50 := hE50.size
     replace hV := Z1 hV hE50 (.inr (by simp))
     replace hC11 := Z1 hC11 hE50 ε
     replace hl := hl0 _ hV
     replace hof := hof.evo hE50 (by intro g hg hm; simp at hm; subst hm; have h7 := hobF g hg; have h8 := hof.block hg; omega)
     replace B45 := B45.evo hE50 θ
     replace hA48 := hA48.evo hE50 θ
     replace hb := hn50
     clear hn50
     have hAs := hb.at
     refine h_next hC11 ?_
     refine Zh (i := 7) ?_
     refine Zo (run_ld1 rfl ag_9 η (hA48.cell 0 η)) ?_
     refine h_next hC11 ?_
     refine Zt (i := 10) η (fun w' hC => run_bld (pv := [(0, .int _ _), (1, S _), (2, .int _ _)]) (zs := [_, _, _]) (cells := [_, _, _]) rfl ty_32 η pl_32 η η) hC11 ?_
     refine hJ9 _ _ _ ζ ⟨_, _, _, _, rfl, rfl, hof, B45, B45.at, hb, hb.at, (rawW_bd _ ω), ⟨by omega, by omega⟩, ω, (fun g hg => by have := hobF g hg; omega), δ, hV, hC11⟩ ?_
     exact ψ
    ·skip
     refine h_do η ?_
     refine Zr [.pointer _, .int _ _] rfl η Tryz.func38 (nx_calls hb hl ω ω ω) ?_
     rintro e w51 ⟨nx51, rfl, hx51, hE51, hn51⟩
     refine ⟨_, rfl, ?_⟩
     have Q51 := hE51.size
     replace hV := Z1 hV hE51 (.inr (by simp))
     replace hC11 := Z1 hC11 hE51 ε
     replace hl := hl0 _ hV
     replace hof := hof.evo hE51 (by intro g hg hm; simp at hm; subst hm; have h7 := hobF g hg; have h8 := hof.block hg; omega)
     replace hb := hn51
     clear hn51
     have hAs := hb.at
     refine h_next hC11 ?_
     refine h_three (i := 3) (j := 9) (p := 11) ζ ?_ ?_ ?_
     ·skip
      refine h_do η ?_
      refine r_bslice (pv := [(0, S _), (1, S _), (2, S _), (3, S _), (4, S _), (5, S _), (6, S _), (7, S _)]) (zs := [_]) (cs := [_, _, _, _, _, _, _, _]) Tryz.underlying77 ty_9 η rfl η rfl η ?_
      intro b52 w53 J52 E53 B52 Y52
      have Q53 := E53.size
      replace hV := Z0 hV E53
      replace hC11 := Z0 hC11 E53
      replace hl := hl0 _ hV
      replace hof := hof.evo0 E53
      replace hb := hb.evo0 E53
      replace hAs := hAs.evo0 E53
      have hrb52 : RowE w53 (some ⟨b52, 0, none⟩) b52 0 8 rawW := rowLit rawW B52 rfl rfl
      refine h_next hC11 ?_
      refine Zt (i := 6) η (fun w' hC => run_ix (nx51.toNat) rfl Tryz.underlying77 ty_9 η η ω (by show _ < 8; omega) (hrb52.addr (i := nx51.toNat) (by show _ < 8; omega))) hC11 ?_
      have hA54 := hrb52.atD (nx51.toNat) (by show _ < 8; omega)
      refine h_three (i := 7) (j := 9) (p := 11) ζ ?_ ?_ ?_
      ·skip
       refine h_do η ?_
       refine Zo (run_ld1 rfl ag_9 η (hA54.cell 0 η)) ?_
       refine h_next hC11 ?_
       refine h_two (i := 9) (j := 11) ζ ?_ ?_
       ·skip
        refine h_do η ?_
        refine Zr [.pointer _, .int _ _] rfl η Tryz.func38 (nx_calls hb hl ω ω ω) ?_
        rintro e w55 ⟨nx55, rfl, hx55, hE55, hn55⟩
        refine ⟨_, rfl, ?_⟩
        have Q55 := hE55.size
        replace hV := Z1 hV hE55 (.inr (by simp))
        replace hC11 := Z1 hC11 hE55 ε
        replace hof := hof.evo hE55 (by intro g hg hm; simp at hm; subst hm; have h7 := hobF g hg; have h8 := hof.block hg; omega)
        replace hb := hn55
        clear hn55
        have hAs := hb.at
        refine h_next hC11 ?_
        refine Zt (i := 10) η (fun w' hC => run_bld (pv := [(0, .int _ _), (1, S _), (2, .int _ _)]) (zs := [_, _, _]) (cells := [_, _, _]) rfl ty_32 η pl_32 η η) hC11 ?_
        refine Zh (i := 11) ?_
        have hob56 := fun g hg => (hof.block (g := g) hg).2
        refine r_alloc (zs := [_, _, _]) ty_32 η rfl ?_
        intro b57 w58 J57 E58 B57 Y57
        have Q58 := E58.size
        replace hV := Z0 hV E58
        replace hC11 := Z0 hC11 E58
        replace hl := hl0 _ hV
        replace hof := hof.evo0 E58
        replace hb := hb.evo0 E58
        refine h_next hC11 ?_
        refine hJ9 _ _ _ ζ ⟨_, _, _, _, rfl, rfl, hof, B57, B57.at, hb, hb.at, (rawW_bd _ ω), ⟨by omega, by omega⟩, ω, (fun g hg => by have := hobF g hg; omega), δ, hV, hC11⟩ ?_
        exact ψ
       refine h_do η ?_
       have hob59 := fun g hg => (hof.block (g := g) hg).2
       refine r_alloc (zs := [_, _, _]) ty_32 η rfl ?_
       intro b60 w61 J60 E61 B60 Y60
       have Q61 := E61.size
       replace hV := Z0 hV E61
       replace hC11 := Z0 hC11 E61
       replace hl := hl0 _ hV
       replace hof := hof.evo0 E61
       replace hb := hb.evo0 E61
       replace hAs := hAs.evo0 E61
       replace hrb52 := hrb52.evo0 E61
       refine h_next hC11 ?_
       refine Zh (i := 9) ?_
       refine Zr [.pointer _, .int _ _] rfl η Tryz.func38 (nx_calls hb hl ω ω ω) ?_
       rintro e w62 ⟨nx62, rfl, hx62, hE62, hn62⟩
       refine ⟨_, rfl, ?_⟩
       have Q62 := hE62.size
       replace hV := Z1 hV hE62 (.inr (by simp))
       replace hC11 := Z1 hC11 hE62 ε
       replace hl := hl0 _ hV
       replace hof := hof.evo hE62 (by intro g hg hm; simp at hm; subst hm; have h7 := hobF g hg; have h8 := hof.block hg; omega)
       replace B60 := B60.evo hE62 θ
       replace hb := hn62
       clear hn62
       have hAs := hb.at
       refine h_next hC11 ?_
       refine Zt (i := 10) η (fun w' hC => run_bld (pv := [(0, .int _ _), (1, S _), (2, .int _ _)]) (zs := [_, _, _]) (cells := [_, _, _]) rfl ty_32 η pl_32 η η) hC11 ?_
       refine hJ9 _ _ _ ζ ⟨_, _, _, _, rfl, rfl, hof, B60, B60.at, hb, hb.at, (rawW_bd _ ω), ⟨by omega, by omega⟩, ω, (fun g hg => by have := hobF g hg; omega), δ, hV, hC11⟩ ?_
       exact ψ
      ·skip
       refine h_do η ?_
       refine Zr [.pointer _, .int _ _] rfl η Tryz.func38 (nx_calls hb hl ω ω ω) ?_
       rintro e w63 ⟨nx63, rfl, hx63, hE63, hn63⟩
       refine ⟨_, rfl, ?_⟩
       have Q63 := hE63.size
       replace hV := Z1 hV hE63 (.inr (by simp))
       replace hC11 := Z1 hC11 hE63 ε
       replace hof := hof.evo hE63 (by intro g hg hm; simp at hm; subst hm; have h7 := hobF g hg; have h8 := hof.block hg; omega)
       replace hA54 := hA54.evo hE63 θ
       replace hb := hn63
       clear hn63
       have hAs := hb.at
       refine h_next hC11 ?_
       refine h_two (i := 7) (j := 11) ζ ?_ ?_
       ·skip
        refine h_do η ?_
        refine Zo (run_ld1 rfl ag_9 η (hA54.cell 0 η)) ?_
        refine h_next hC11 ?_
        refine Zt (i := 10) η (fun w' hC => run_bld (pv := [(0, .int _ _), (1, S _), (2, .int _ _)]) (zs := [_, _, _]) (cells := [_, _, _]) rfl ty_32 η pl_32 η η) hC11 ?_
        refine Zh (i := 11) ?_
        have hob64 := fun g hg => (hof.block (g := g) hg).2
        refine r_alloc (zs := [_, _, _]) ty_32 η rfl ?_
        intro b65 w66 J65 E66 B65 Y65
        have Q66 := E66.size
        replace hV := Z0 hV E66
        replace hC11 := Z0 hC11 E66
        replace hl := hl0 _ hV
        replace hof := hof.evo0 E66
        replace hb := hb.evo0 E66
        refine h_next hC11 ?_
        refine hJ9 _ _ _ ζ ⟨_, _, _, _, rfl, rfl, hof, B65, B65.at, hb, hb.at, (rawW_bd _ ω), ⟨by omega, by omega⟩, ω, (fun g hg => by have := hobF g hg; omega), δ, hV, hC11⟩ ?_
        exact ψ
       refine h_do η ?_
       have hob67 := fun g hg => (hof.block (g := g) hg).2
       refine r_alloc (zs := [_, _, _]) ty_32 η rfl ?_
       intro b68 w69 J68 E69 B68 Y68
       have Q69 := E69.size
       replace hV := Z0 hV E69
       replace hC11 := Z0 hC11 E69
       replace hl := hl0 _ hV
       replace hof := hof.evo0 E69
       replace hA54 := hA54.evo0 E69
       replace hb := hb.evo0 E69
       refine h_next hC11 ?_
       refine Zh (i := 7) ?_
       refine Zo (run_ld1 rfl ag_9 η (hA54.cell 0 η)) ?_
       refine h_next hC11 ?_
       refine Zt (i := 10) η (fun w' hC => run_bld (pv := [(0, .int _ _), (1, S _), (2, .int _ _)]) (zs := [_, _, _]) (cells := [_, _, _]) rfl ty_32 η pl_32 η η) hC11 ?_
       refine hJ9 _ _ _ ζ ⟨_, _, _, _, rfl, rfl, hof, B68, B68.at, hb, hb.at, (rawW_bd _ ω), ⟨by omega, by omega⟩, ω, (fun g hg => by have := hobF g hg; omega), δ, hV, hC11⟩ ?_
       exact ψ
      refine h_do η ?_
      have hob70 := fun g hg => (hof.block (g := g) hg).2
      refine r_alloc (zs := [_, _, _]) ty_32 η rfl ?_
      intro b71 w72 J71 E72 B71 Y71
      have Q72 := E72.size
      replace hV := Z0 hV E72
      replace hC11 := Z0 hC11 E72
      replace hl := hl0 _ hV
      replace hof := hof.evo0 E72
      replace hb := hb.evo0 E72
      replace hAs := hAs.evo0 E72
      replace hrb52 := hrb52.evo0 E72
      replace hA54 := hA54.evo0 E72
      refine h_next hC11 ?_
      refine h_two (i := 7) (j := 9) ζ ?_ ?_
      ·skip
       refine h_do η ?_
       refine Zo (run_ld1 rfl ag_9 η (hA54.cell 0 η)) ?_
       refine h_next hC11 ?_
       refine Zh (i := 9) ?_
       refine Zr [.pointer _, .int _ _] rfl η Tryz.func38 (nx_calls hb hl ω ω ω) ?_
       rintro e w73 ⟨nx73, rfl, hx73, hE73, hn73⟩
       refine ⟨_, rfl, ?_⟩
       have Q73 := hE73.size
       replace hV := Z1 hV hE73 (.inr (by simp))
       replace hC11 := Z1 hC11 hE73 ε
       replace hl := hl0 _ hV
       replace hof := hof.evo hE73 (by intro g hg hm; simp at hm; subst hm; have h7 := hobF g hg; have h8 := hof.block hg; omega)
       replace B71 := B71.evo hE73 θ
       replace hb := hn73
       clear hn73
       have hAs := hb.at
       refine h_next hC11 ?_
       refine Zt (i := 10) η (fun w' hC => run_bld (pv := [(0, .int _ _), (1, S _), (2, .int _ _)]) (zs := [_, _, _]) (cells := [_, _, _]) rfl ty_32 η pl_32 η η) hC11 ?_
       refine hJ9 _ _ _ ζ ⟨_, _, _, _, rfl, rfl, hof, B71, B71.at, hb, hb.at, (rawW_bd _ ω), ⟨by omega, by omega⟩, ω, (fun g hg => by have := hobF g hg; omega), δ, hV, hC11⟩ ?_
       exact ψ
      refine h_do η ?_
      refine Zr [.pointer _, .int _ _] rfl η Tryz.func38 (nx_calls hb hl ω ω ω) ?_
      rintro e w74 ⟨nx74, rfl, hx74, hE74, hn74⟩
      refine ⟨_, rfl, ?_⟩
      have Q74 := hE74.size
      replace hV := Z1 hV hE74 (.inr (by simp))
      replace hC11 := Z1 hC11 hE74 ε
      replace hl := hl0 _ hV
      replace hof := hof.evo hE74 (by intro g hg hm; simp at hm; subst hm; have h7 := hobF g hg; have h8 := hof.block hg; omega)
      replace hA54 := hA54.evo hE74 θ
      replace B71 := B71.evo hE74 θ
      replace hb := hn74
      clear hn74
      have hAs := hb.at
      refine h_next hC11 ?_
      refine Zh (i := 7) ?_
      refine Zo (run_ld1 rfl ag_9 η (hA54.cell 0 η)) ?_
      refine h_next hC11 ?_
      refine Zt (i := 10) η (fun w' hC => run_bld (pv := [(0, .int _ _), (1, S _), (2, .int _ _)]) (zs := [_, _, _]) (cells := [_, _, _]) rfl ty_32 η pl_32 η η) hC11 ?_
      refine hJ9 _ _ _ ζ ⟨_, _, _, _, rfl, rfl, hof, B71, B71.at, hb, hb.at, (rawW_bd _ ω), ⟨by omega, by omega⟩, ω, (fun g hg => by have := hobF g hg; omega), δ, hV, hC11⟩ ?_
      exact ψ
     ·skip
      refine h_do η ?_
      refine Zr [.pointer _, .int _ _] rfl η Tryz.func38 (nx_calls hb hl ω ω ω) ?_
      rintro e w75 ⟨nx75, rfl, hx75, hE75, hn75⟩
      refine ⟨_, rfl, ?_⟩
      have Q75 := hE75.size
      replace hV := Z1 hV hE75 (.inr (by simp))
      replace hC11 := Z1 hC11 hE75 ε
      replace hof := hof.evo hE75 (by intro g hg hm; simp at hm; subst hm; have h7 := hobF g hg; have h8 := hof.block hg; omega)
      replace hb := hn75
      clear hn75
      have hAs := hb.at
      refine h_next hC11 ?_
      refine h_two (i := 3) (j := 11) ζ ?_ ?_
      ·skip
       refine h_do η ?_
       refine r_bslice (pv := [(0, S _), (1, S _), (2, S _), (3, S _), (4, S _), (5, S _), (6, S _), (7, S _)]) (zs := [_]) (cs := [_, _, _, _, _, _, _, _]) Tryz.underlying77 ty_9 η rfl η rfl η ?_
       intro b76 w77 J76 E77 B76 Y76
       have Q77 := E77.size
       replace hV := Z0 hV E77
       replace hC11 := Z0 hC11 E77
       replace hof := hof.evo0 E77
       replace hb := hb.evo0 E77
       have hrb76 : RowE w77 (some ⟨b76, 0, none⟩) b76 0 8 rawW := rowLit rawW B76 rfl rfl
       refine h_next hC11 ?_
       refine Zt (i := 6) η (fun w' hC => run_ix (nx51.toNat) rfl Tryz.underlying77 ty_9 η η ω (by show _ < 8; omega) (hrb76.addr (i := nx51.toNat) (by show _ < 8; omega))) hC11 ?_
       have hA78 := hrb76.atD (nx51.toNat) (by show _ < 8; omega)
       refine h_two (i := 7) (j := 11) ζ ?_ ?_
       ·skip
        refine h_do η ?_
        refine Zo (run_ld1 rfl ag_9 η (hA78.cell 0 η)) ?_
        refine h_next hC11 ?_
        refine Zt (i := 10) η (fun w' hC => run_bld (pv := [(0, .int _ _), (1, S _), (2, .int _ _)]) (zs := [_, _, _]) (cells := [_, _, _]) rfl ty_32 η pl_32 η η) hC11 ?_
        refine Zh (i := 11) ?_
        have hob79 := fun g hg => (hof.block (g := g) hg).2
        refine r_alloc (zs := [_, _, _]) ty_32 η rfl ?_
        intro b80 w81 J80 E81 B80 Y80
        have Q81 := E81.size
        replace hV := Z0 hV E81
        replace hC11 := Z0 hC11 E81
        replace hl := hl0 _ hV
        replace hof := hof.evo0 E81
        replace hb := hb.evo0 E81
        replace hrb76 := hrb76.evo0 E81
        refine h_next hC11 ?_
        refine hJ9 _ _ _ ζ ⟨_, _, _, _, rfl, rfl, hof, B80, B80.at, hb, hb.at, (rawW_bd _ ω), ⟨by omega, by omega⟩, ω, (fun g hg => by have := hobF g hg; omega), δ, hV, hC11⟩ ?_
        exact ψ
       refine h_do η ?_
       have hob82 := fun g hg => (hof.block (g := g) hg).2
       refine r_alloc (zs := [_, _, _]) ty_32 η rfl ?_
       intro b83 w84 J83 E84 B83 Y83
       have Q84 := E84.size
       replace hV := Z0 hV E84
       replace hC11 := Z0 hC11 E84
       replace hl := hl0 _ hV
       replace hof := hof.evo0 E84
       replace hb := hb.evo0 E84
       replace hrb76 := hrb76.evo0 E84
       replace hA78 := hA78.evo0 E84
       refine h_next hC11 ?_
       refine Zh (i := 7) ?_
       refine Zo (run_ld1 rfl ag_9 η (hA78.cell 0 η)) ?_
       refine h_next hC11 ?_
       refine Zt (i := 10) η (fun w' hC => run_bld (pv := [(0, .int _ _), (1, S _), (2, .int _ _)]) (zs := [_, _, _]) (cells := [_, _, _]) rfl ty_32 η pl_32 η η) hC11 ?_
       refine hJ9 _ _ _ ζ ⟨_, _, _, _, rfl, rfl, hof, B83, B83.at, hb, hb.at, (rawW_bd _ ω), ⟨by omega, by omega⟩, ω, (fun g hg => by have := hobF g hg; omega), δ, hV, hC11⟩ ?_
       exact ψ
      refine h_do η ?_
      have hob85 := fun g hg => (hof.block (g := g) hg).2
      refine r_alloc (zs := [_, _, _]) ty_32 η rfl ?_
      intro b86 w87 J86 E87 B86 Y86
      have Q87 := E87.size
      replace hV := Z0 hV E87
      replace hC11 := Z0 hC11 E87
      replace hof := hof.evo0 E87
      replace hb := hb.evo0 E87
      refine h_next hC11 ?_
      refine Zh (i := 3) ?_
      refine r_bslice (pv := [(0, S _), (1, S _), (2, S _), (3, S _), (4, S _), (5, S _), (6, S _), (7, S _)]) (zs := [_]) (cs := [_, _, _, _, _, _, _, _]) Tryz.underlying77 ty_9 η rfl η rfl η ?_
      intro b88 w89 J88 E89 B88 Y88
      have Q89 := E89.size
      replace hV := Z0 hV E89
      replace hC11 := Z0 hC11 E89
      replace hl := hl0 _ hV
      replace hof := hof.evo0 E89
      replace hb := hb.evo0 E89
      replace B86 := B86.evo0 E89
      have hrb88 : RowE w89 (some ⟨b88, 0, none⟩) b88 0 8 rawW := rowLit rawW B88 rfl rfl
      refine h_next hC11 ?_
      refine Zt (i := 6) η (fun w' hC => run_ix (nx51.toNat) rfl Tryz.underlying77 ty_9 η η ω (by show _ < 8; omega) (hrb88.addr (i := nx51.toNat) (by show _ < 8; omega))) hC11 ?_
      have hA90 := hrb88.atD (nx51.toNat) (by show _ < 8; omega)
      refine Zh (i := 7) ?_
      refine Zo (run_ld1 rfl ag_9 η (hA90.cell 0 η)) ?_
      refine h_next hC11 ?_
      refine Zt (i := 10) η (fun w' hC => run_bld (pv := [(0, .int _ _), (1, S _), (2, .int _ _)]) (zs := [_, _, _]) (cells := [_, _, _]) rfl ty_32 η pl_32 η η) hC11 ?_
      refine hJ9 _ _ _ ζ ⟨_, _, _, _, rfl, rfl, hof, B86, B86.at, hb, hb.at, (rawW_bd _ ω), ⟨by omega, by omega⟩, ω, (fun g hg => by have := hobF g hg; omega), δ, hV, hC11⟩ ?_
      exact ψ
     refine h_do η ?_
     have hob91 := fun g hg => (hof.block (g := g) hg).2
     refine r_alloc (zs := [_, _, _]) ty_32 η rfl ?_
     intro b92 w93 J92 E93 B92 Y92
     have Q93 := E93.size
     replace hV := Z0 hV E93
     replace hC11 := Z0 hC11 E93
     replace hl := hl0 _ hV
     replace hof := hof.evo0 E93
     replace hb := hb.evo0 E93
     replace hAs := hAs.evo0 E93
     refine h_next hC11 ?_
     refine h_two (i := 3) (j := 9) ζ ?_ ?_
     ·skip
      refine h_do η ?_
      refine r_bslice (pv := [(0, S _), (1, S _), (2, S _), (3, S _), (4, S _), (5, S _), (6, S _), (7, S _)]) (zs := [_]) (cs := [_, _, _, _, _, _, _, _]) Tryz.underlying77 ty_9 η rfl η rfl η ?_
      intro b94 w95 J94 E95 B94 Y94
      have Q95 := E95.size
      replace hV := Z0 hV E95
      replace hC11 := Z0 hC11 E95
      replace hl := hl0 _ hV
      replace hof := hof.evo0 E95
      replace hb := hb.evo0 E95
      replace hAs := hAs.evo0 E95
      replace B92 := B92.evo0 E95
      have hrb94 : RowE w95 (some ⟨b94, 0, none⟩) b94 0 8 rawW := rowLit rawW B94 rfl rfl
      refine h_next hC11 ?_
      refine Zt (i := 6) η (fun w' hC => run_ix (nx51.toNat) rfl Tryz.underlying77 ty_9 η η ω (by show _ < 8; omega) (hrb94.addr (i := nx51.toNat) (by show _ < 8; omega))) hC11 ?_
      have hA96 := hrb94.atD (nx51.toNat) (by show _ < 8; omega)
      refine h_two (i := 7) (j := 9) ζ ?_ ?_
      ·skip
       refine h_do η ?_
       refine Zo (run_ld1 rfl ag_9 η (hA96.cell 0 η)) ?_
       refine h_next hC11 ?_
       refine Zh (i := 9) ?_
       refine Zr [.pointer _, .int _ _] rfl η Tryz.func38 (nx_calls hb hl ω ω ω) ?_
       rintro e w97 ⟨nx97, rfl, hx97, hE97, hn97⟩
       refine ⟨_, rfl, ?_⟩
       have Q97 := hE97.size
       replace hV := Z1 hV hE97 (.inr (by simp))
       replace hC11 := Z1 hC11 hE97 ε
       replace hl := hl0 _ hV
       replace hof := hof.evo hE97 (by intro g hg hm; simp at hm; subst hm; have h7 := hobF g hg; have h8 := hof.block hg; omega)
       replace B92 := B92.evo hE97 θ
       replace hb := hn97
       clear hn97
       have hAs := hb.at
       refine h_next hC11 ?_
       refine Zt (i := 10) η (fun w' hC => run_bld (pv := [(0, .int _ _), (1, S _), (2, .int _ _)]) (zs := [_, _, _]) (cells := [_, _, _]) rfl ty_32 η pl_32 η η) hC11 ?_
       refine hJ9 _ _ _ ζ ⟨_, _, _, _, rfl, rfl, hof, B92, B92.at, hb, hb.at, (rawW_bd _ ω), ⟨by omega, by omega⟩, ω, (fun g hg => by have := hobF g hg; omega), δ, hV, hC11⟩ ?_
       exact ψ
      refine h_do η ?_
      refine Zr [.pointer _, .int _ _] rfl η Tryz.func38 (nx_calls hb hl ω ω ω) ?_
      rintro e w98 ⟨nx98, rfl, hx98, hE98, hn98⟩
      refine ⟨_, rfl, ?_⟩
      have Q98 := hE98.size
      replace hV := Z1 hV hE98 (.inr (by simp))
      replace hC11 := Z1 hC11 hE98 ε
      replace hl := hl0 _ hV
      replace hof := hof.evo hE98 (by intro g hg hm; simp at hm; subst hm; have h7 := hobF g hg; have h8 := hof.block hg; omega)
      replace B92 := B92.evo hE98 θ
      replace hA96 := hA96.evo hE98 θ
      replace hb := hn98
      clear hn98
      have hAs := hb.at
      refine h_next hC11 ?_
      refine Zh (i := 7) ?_
      refine Zo (run_ld1 rfl ag_9 η (hA96.cell 0 η)) ?_
      refine h_next hC11 ?_
      refine Zt (i := 10) η (fun w' hC => run_bld (pv := [(0, .int _ _), (1, S _), (2, .int _ _)]) (zs := [_, _, _]) (cells := [_, _, _]) rfl ty_32 η pl_32 η η) hC11 ?_
      refine hJ9 _ _ _ ζ ⟨_, _, _, _, rfl, rfl, hof, B92, B92.at, hb, hb.at, (rawW_bd _ ω), ⟨by omega, by omega⟩, ω, (fun g hg => by have := hobF g hg; omega), δ, hV, hC11⟩ ?_
      exact ψ
     refine h_do η ?_
     refine Zr [.pointer _, .int _ _] rfl η Tryz.func38 (nx_calls hb hl ω ω ω) ?_
     rintro e w99 ⟨nx99, rfl, hx99, hE99, hn99⟩
     refine ⟨_, rfl, ?_⟩
     have Q99 := hE99.size
     replace hV := Z1 hV hE99 (.inr (by simp))
     replace hC11 := Z1 hC11 hE99 ε
     replace hof := hof.evo hE99 (by intro g hg hm; simp at hm; subst hm; have h7 := hobF g hg; have h8 := hof.block hg; omega)
     replace B92 := B92.evo hE99 θ
     replace hb := hn99
     clear hn99
     have hAs := hb.at
     refine h_next hC11 ?_
     refine Zh (i := 3) ?_
     refine r_bslice (pv := [(0, S _), (1, S _), (2, S _), (3, S _), (4, S _), (5, S _), (6, S _), (7, S _)]) (zs := [_]) (cs := [_, _, _, _, _, _, _, _]) Tryz.underlying77 ty_9 η rfl η rfl η ?_
     intro b100 w101 J100 E101 B100 Y100
     have Q101 := E101.size
     replace hV := Z0 hV E101
     replace hC11 := Z0 hC11 E101
     replace hl := hl0 _ hV
     replace hof := hof.evo0 E101
     replace B92 := B92.evo0 E101
     replace hb := hb.evo0 E101
     have hrb100 : RowE w101 (some ⟨b100, 0, none⟩) b100 0 8 rawW := rowLit rawW B100 rfl rfl
     refine h_next hC11 ?_
     refine Zt (i := 6) η (fun w' hC => run_ix (nx51.toNat) rfl Tryz.underlying77 ty_9 η η ω (by show _ < 8; omega) (hrb100.addr (i := nx51.toNat) (by show _ < 8; omega))) hC11 ?_
     have hA102 := hrb100.atD (nx51.toNat) (by show _ < 8; omega)
     refine Zh (i := 7) ?_
     refine Zo (run_ld1 rfl ag_9 η (hA102.cell 0 η)) ?_
     refine h_next hC11 ?_
     refine Zt (i := 10) η (fun w' hC => run_bld (pv := [(0, .int _ _), (1, S _), (2, .int _ _)]) (zs := [_, _, _]) (cells := [_, _, _]) rfl ty_32 η pl_32 η η) hC11 ?_
     refine hJ9 _ _ _ ζ ⟨_, _, _, _, rfl, rfl, hof, B92, B92.at, hb, hb.at, (rawW_bd _ ω), ⟨by omega, by omega⟩, ω, (fun g hg => by have := hobF g hg; omega), δ, hV, hC11⟩ ?_
     exact ψ
    refine h_do η ?_
    have hob103 := fun g hg => (hof.block (g := g) hg).2
    refine r_alloc (zs := [_, _, _]) ty_32 η rfl ?_
    intro b104 w105 J104 E105 B104 Y104
    have Q105 := E105.size
    replace hV := Z0 hV E105
    replace hC11 := Z0 hC11 E105
    replace hl := hl0 _ hV
    replace hof := hof.evo0 E105
    replace hb := hb.evo0 E105
    replace hAs := hAs.evo0 E105
    refine h_next hC11 ?_
    refine h_two (i := 3) (j := 5) ζ ?_ ?_
    ·skip
     refine h_do η ?_
     refine r_bslice (pv := [(0, S _), (1, S _), (2, S _), (3, S _), (4, S _), (5, S _), (6, S _), (7, S _)]) (zs := [_]) (cs := [_, _, _, _, _, _, _, _]) Tryz.underlying77 ty_9 η rfl η rfl η ?_
     intro b106 w107 J106 E107 B106 Y106
     have Q107 := E107.size
     replace hV := Z0 hV E107
     replace hC11 := Z0 hC11 E107
     replace hl := hl0 _ hV
     replace hof := hof.evo0 E107
     replace hb := hb.evo0 E107
     replace hAs := hAs.evo0 E107
     replace B104 := B104.evo0 E107
     have hrb106 : RowE w107 (some ⟨b106, 0, none⟩) b106 0 8 rawW := rowLit rawW B106 rfl rfl
     refine h_next hC11 ?_
     refine Zh (i := 5) ?_
     refine Zr [.pointer _, .int _ _] rfl η Tryz.func38 (nx_calls hb hl ω ω ω) ?_
     rintro e w108 ⟨nx108, rfl, hx108, hE108, hn108⟩
     refine ⟨_, rfl, ?_⟩
     have Q108 := hE108.size
     replace hV := Z1 hV hE108 (.inr (by simp))
     replace hC11 := Z1 hC11 hE108 ε
     replace hl := hl0 _ hV
     replace hof := hof.evo hE108 (by intro g hg hm; simp at hm; subst hm; have h7 := hobF g hg; have h8 := hof.block hg; omega)
     replace B104 := B104.evo hE108 θ
     replace hrb106 := hrb106.evo hE108 θ
     replace hb := hn108
     clear hn108
     have hAs := hb.at
     refine h_next hC11 ?_
     refine Zt (i := 6) η (fun w' hC => run_ix (nx108.toNat) rfl Tryz.underlying77 ty_9 η η ω (by show _ < 8; omega) (hrb106.addr (i := nx108.toNat) (by show _ < 8; omega))) hC11 ?_
     have hA109 := hrb106.atD (nx108.toNat) (by show _ < 8; omega)
     refine h_two (i := 7) (j := 9) ζ ?_ ?_
     ·skip
      refine h_do η ?_
      refine Zo (run_ld1 rfl ag_9 η (hA109.cell 0 η)) ?_
      refine h_next hC11 ?_
      refine Zh (i := 9) ?_
      refine Zr [.pointer _, .int _ _] rfl η Tryz.func38 (nx_calls hb hl ω ω ω) ?_
      rintro e w110 ⟨nx110, rfl, hx110, hE110, hn110⟩
      refine ⟨_, rfl, ?_⟩
      have Q110 := hE110.size
      replace hV := Z1 hV hE110 (.inr (by simp))
      replace hC11 := Z1 hC11 hE110 ε
      replace hl := hl0 _ hV
      replace hof := hof.evo hE110 (by intro g hg hm; simp at hm; subst hm; have h7 := hobF g hg; have h8 := hof.block hg; omega)
      replace B104 := B104.evo hE110 θ
      replace hb := hn110
      clear hn110
      have hAs := hb.at
      refine h_next hC11 ?_
      refine Zt (i := 10) η (fun w' hC => run_bld (pv := [(0, .int _ _), (1, S _), (2, .int _ _)]) (zs := [_, _, _]) (cells := [_, _, _]) rfl ty_32 η pl_32 η η) hC11 ?_
      refine hJ9 _ _ _ ζ ⟨_, _, _, _, rfl, rfl, hof, B104, B104.at, hb, hb.at, (rawW_bd _ ω), ⟨by omega, by omega⟩, ω, (fun g hg => by have := hobF g hg; omega), δ, hV, hC11⟩ ?_
      exact ψ
     refine h_do η ?_
     refine Zr [.pointer _, .int _ _] rfl η Tryz.func38 (nx_calls hb hl ω ω ω) ?_
     rintro e w111 ⟨nx111, rfl, hx111, hE111, hn111⟩
     refine ⟨_, rfl, ?_⟩
     have Q111 := hE111.size
     replace hV := Z1 hV hE111 (.inr (by simp))
     replace hC11 := Z1 hC11 hE111 ε
     replace hl := hl0 _ hV
     replace hof := hof.evo hE111 (by intro g hg hm; simp at hm; subst hm; have h7 := hobF g hg; have h8 := hof.block hg; omega)
     replace B104 := B104.evo hE111 θ
     replace hA109 := hA109.evo hE111 θ
     replace hb := hn111
     clear hn111
     have hAs := hb.at
     refine h_next hC11 ?_
     refine Zh (i := 7) ?_
     refine Zo (run_ld1 rfl ag_9 η (hA109.cell 0 η)) ?_
     refine h_next hC11 ?_
     refine Zt (i := 10) η (fun w' hC => run_bld (pv := [(0, .int _ _), (1, S _), (2, .int _ _)]) (zs := [_, _, _]) (cells := [_, _, _]) rfl ty_32 η pl_32 η η) hC11 ?_
     refine hJ9 _ _ _ ζ ⟨_, _, _, _, rfl, rfl, hof, B104, B104.at, hb, hb.at, (rawW_bd _ ω), ⟨by omega, by omega⟩, ω, (fun g hg => by have := hobF g hg; omega), δ, hV, hC11⟩ ?_
     exact ψ
    refine h_do η ?_
    refine Zr [.pointer _, .int _ _] rfl η Tryz.func38 (nx_calls hb hl ω ω ω) ?_
    rintro e w112 ⟨nx112, rfl, hx112, hE112, hn112⟩
    refine ⟨_, rfl, ?_⟩
    have Q112 := hE112.size
    replace hV := Z1 hV hE112 (.inr (by simp))
    replace hC11 := Z1 hC11 hE112 ε
    replace hl := hl0 _ hV
    replace hof := hof.evo hE112 (by intro g hg hm; simp at hm; subst hm; have h7 := hobF g hg; have h8 := hof.block hg; omega)
    replace B104 := B104.evo hE112 θ
    replace hb := hn112
    clear hn112
    have hAs := hb.at
    refine h_next hC11 ?_
    refine h_two (i := 3) (j := 9) ζ ?_ ?_
    ·skip
     refine h_do η ?_
     refine r_bslice (pv := [(0, S _), (1, S _), (2, S _), (3, S _), (4, S _), (5, S _), (6, S _), (7, S _)]) (zs := [_]) (cs := [_, _, _, _, _, _, _, _]) Tryz.underlying77 ty_9 η rfl η rfl η ?_
     intro b113 w114 J113 E114 B113 Y113
     have Q114 := E114.size
     replace hV := Z0 hV E114
     replace hC11 := Z0 hC11 E114
     replace hl := hl0 _ hV
     replace hof := hof.evo0 E114
     replace B104 := B104.evo0 E114
     replace hb := hb.evo0 E114
     replace hAs := hAs.evo0 E114
     have hrb113 : RowE w114 (some ⟨b113, 0, none⟩) b113 0 8 rawW := rowLit rawW B113 rfl rfl
     refine h_next hC11 ?_
     refine Zt (i := 6) η (fun w' hC => run_ix (nx112.toNat) rfl Tryz.underlying77 ty_9 η η ω (by show _ < 8; omega) (hrb113.addr (i := nx112.toNat) (by show _ < 8; omega))) hC11 ?_
     have hA115 := hrb113.atD (nx112.toNat) (by show _ < 8; omega)
     refine h_two (i := 7) (j := 9) ζ ?_ ?_
     ·skip
      refine h_do η ?_
      refine Zo (run_ld1 rfl ag_9 η (hA115.cell 0 η)) ?_
      refine h_next hC11 ?_
      refine Zh (i := 9) ?_
      refine Zr [.pointer _, .int _ _] rfl η Tryz.func38 (nx_calls hb hl ω ω ω) ?_
      rintro e w116 ⟨nx116, rfl, hx116, hE116, hn116⟩
      refine ⟨_, rfl, ?_⟩
      have Q116 := hE116.size
      replace hV := Z1 hV hE116 (.inr (by simp))
      replace hC11 := Z1 hC11 hE116 ε
      replace hl := hl0 _ hV
      replace hof := hof.evo hE116 (by intro g hg hm; simp at hm; subst hm; have h7 := hobF g hg; have h8 := hof.block hg; omega)
      replace B104 := B104.evo hE116 θ
      replace hb := hn116
      clear hn116
      have hAs := hb.at
      refine h_next hC11 ?_
      refine Zt (i := 10) η (fun w' hC => run_bld (pv := [(0, .int _ _), (1, S _), (2, .int _ _)]) (zs := [_, _, _]) (cells := [_, _, _]) rfl ty_32 η pl_32 η η) hC11 ?_
      refine hJ9 _ _ _ ζ ⟨_, _, _, _, rfl, rfl, hof, B104, B104.at, hb, hb.at, (rawW_bd _ ω), ⟨by omega, by omega⟩, ω, (fun g hg => by have := hobF g hg; omega), δ, hV, hC11⟩ ?_
      exact ψ
     refine h_do η ?_
     refine Zr [.pointer _, .int _ _] rfl η Tryz.func38 (nx_calls hb hl ω ω ω) ?_
     rintro e w117 ⟨nx117, rfl, hx117, hE117, hn117⟩
     refine ⟨_, rfl, ?_⟩
     have Q117 := hE117.size
     replace hV := Z1 hV hE117 (.inr (by simp))
     replace hC11 := Z1 hC11 hE117 ε
     replace hl := hl0 _ hV
     replace hof := hof.evo hE117 (by intro g hg hm; simp at hm; subst hm; have h7 := hobF g hg; have h8 := hof.block hg; omega)
     replace B104 := B104.evo hE117 θ
     replace hA115 := hA115.evo hE117 θ
     replace hb := hn117
     clear hn117
     have hAs := hb.at
     refine h_next hC11 ?_
     refine Zh (i := 7) ?_
     refine Zo (run_ld1 rfl ag_9 η (hA115.cell 0 η)) ?_
     refine h_next hC11 ?_
     refine Zt (i := 10) η (fun w' hC => run_bld (pv := [(0, .int _ _), (1, S _), (2, .int _ _)]) (zs := [_, _, _]) (cells := [_, _, _]) rfl ty_32 η pl_32 η η) hC11 ?_
     refine hJ9 _ _ _ ζ ⟨_, _, _, _, rfl, rfl, hof, B104, B104.at, hb, hb.at, (rawW_bd _ ω), ⟨by omega, by omega⟩, ω, (fun g hg => by have := hobF g hg; omega), δ, hV, hC11⟩ ?_
     exact ψ
    refine h_do η ?_
    refine Zr [.pointer _, .int _ _] rfl η Tryz.func38 (nx_calls hb hl ω ω ω) ?_
    rintro e w118 ⟨nx118, rfl, hx118, hE118, hn118⟩
    refine ⟨_, rfl, ?_⟩
    have Q118 := hE118.size
    replace hV := Z1 hV hE118 (.inr (by simp))
    replace hC11 := Z1 hC11 hE118 ε
    replace hof := hof.evo hE118 (by intro g hg hm; simp at hm; subst hm; have h7 := hobF g hg; have h8 := hof.block hg; omega)
    replace B104 := B104.evo hE118 θ
    replace hb := hn118
    clear hn118
    have hAs := hb.at
    refine h_next hC11 ?_
    refine Zh (i := 3) ?_
    refine r_bslice (pv := [(0, S _), (1, S _), (2, S _), (3, S _), (4, S _), (5, S _), (6, S _), (7, S _)]) (zs := [_]) (cs := [_, _, _, _, _, _, _, _]) Tryz.underlying77 ty_9 η rfl η rfl η ?_
    intro b119 w120 J119 E120 B119 Y119
    have Q120 := E120.size
    replace hV := Z0 hV E120
    replace hC11 := Z0 hC11 E120
    replace hl := hl0 _ hV
    replace hof := hof.evo0 E120
    replace B104 := B104.evo0 E120
    replace hb := hb.evo0 E120
    have hrb119 : RowE w120 (some ⟨b119, 0, none⟩) b119 0 8 rawW := rowLit rawW B119 rfl rfl
    refine h_next hC11 ?_
    refine Zt (i := 6) η (fun w' hC => run_ix (nx112.toNat) rfl Tryz.underlying77 ty_9 η η ω (by show _ < 8; omega) (hrb119.addr (i := nx112.toNat) (by show _ < 8; omega))) hC11 ?_
    have hA121 := hrb119.atD (nx112.toNat) (by show _ < 8; omega)
    refine Zh (i := 7) ?_
    refine Zo (run_ld1 rfl ag_9 η (hA121.cell 0 η)) ?_
    refine h_next hC11 ?_
    refine Zt (i := 10) η (fun w' hC => run_bld (pv := [(0, .int _ _), (1, S _), (2, .int _ _)]) (zs := [_, _, _]) (cells := [_, _, _]) rfl ty_32 η pl_32 η η) hC11 ?_
    refine hJ9 _ _ _ ζ ⟨_, _, _, _, rfl, rfl, hof, B104, B104.at, hb, hb.at, (rawW_bd _ ω), ⟨by omega, by omega⟩, ω, (fun g hg => by have := hobF g hg; omega), δ, hV, hC11⟩ ?_
    exact ψ
   ·skip
    refine h_do η ?_
    refine r_bslice (pv := [(0, S _), (1, S _), (2, S _), (3, S _), (4, S _), (5, S _), (6, S _), (7, S _)]) (zs := [_]) (cs := [_, _, _, _, _, _, _, _]) Tryz.underlying77 ty_9 η rfl η rfl η ?_
    intro b122 w123 J122 E123 B122 Y122
    have Q123 := E123.size
    replace hV := Z0 hV E123
    replace hC11 := Z0 hC11 E123
    replace hl := hl0 _ hV
    replace hof := hof.evo0 E123
    replace hb := hb.evo0 E123
    replace hAs := hAs.evo0 E123
    have hrb122 : RowE w123 (some ⟨b122, 0, none⟩) b122 0 8 rawW := rowLit rawW B122 rfl rfl
    refine h_next hC11 ?_
    refine h_two (i := 1) (j := 11) ζ ?_ ?_
    ·skip
     refine h_do η ?_
     refine Zr [.pointer _, .int _ _] rfl η Tryz.func38 (nx_calls hb hl ω ω ω) ?_
     rintro e w124 ⟨nx124, rfl, hx124, hE124, hn124⟩
     refine ⟨_, rfl, ?_⟩
     have Q124 := hE124.size
     replace hV := Z1 hV hE124 (.inr (by simp))
     replace hC11 := Z1 hC11 hE124 ε
     replace hl := hl0 _ hV
     replace hof := hof.evo hE124 (by intro g hg hm; simp at hm; subst hm; have h7 := hobF g hg; have h8 := hof.block hg; omega)
     replace hrb122 := hrb122.evo hE124 θ
     replace hb := hn124
     clear hn124
     have hAs := hb.at
     refine h_next hC11 ?_
     refine Zt (i := 2) η (fun w' hC => run_sub rfl η η ω ω) hC11 ?_
     refine h_two (i := 5) (j := 11) ζ ?_ ?_
     ·skip
      refine h_do η ?_
      refine Zr [.pointer _, .int _ _] rfl η Tryz.func38 (nx_calls hb hl ω ω ω) ?_
      rintro e w125 ⟨nx125, rfl, hx125, hE125, hn125⟩
      refine ⟨_, rfl, ?_⟩
      have Q125 := hE125.size
      replace hV := Z1 hV hE125 (.inr (by simp))
      replace hC11 := Z1 hC11 hE125 ε
      replace hl := hl0 _ hV
      replace hof := hof.evo hE125 (by intro g hg hm; simp at hm; subst hm; have h7 := hobF g hg; have h8 := hof.block hg; omega)
      replace hrb122 := hrb122.evo hE125 θ
      replace hb := hn125
      clear hn125
      have hAs := hb.at
      refine h_next hC11 ?_
      refine Zt (i := 6) η (fun w' hC => run_ix (nx125.toNat) rfl Tryz.underlying77 ty_9 η η ω (by show _ < 8; omega) (hrb122.addr (i := nx125.toNat) (by show _ < 8; omega))) hC11 ?_
      have hA126 := hrb122.atD (nx125.toNat) (by show _ < 8; omega)
      refine h_three (i := 7) (j := 9) (p := 11) ζ ?_ ?_ ?_
      ·skip
       refine h_do η ?_
       refine Zo (run_ld1 rfl ag_9 η (hA126.cell 0 η)) ?_
       refine h_next hC11 ?_
       refine h_two (i := 9) (j := 11) ζ ?_ ?_
       ·skip
        refine h_do η ?_
        refine Zr [.pointer _, .int _ _] rfl η Tryz.func38 (nx_calls hb hl ω ω ω) ?_
        rintro e w127 ⟨nx127, rfl, hx127, hE127, hn127⟩
        refine ⟨_, rfl, ?_⟩
        have Q127 := hE127.size
        replace hV := Z1 hV hE127 (.inr (by simp))
        replace hC11 := Z1 hC11 hE127 ε
        replace hof := hof.evo hE127 (by intro g hg hm; simp at hm; subst hm; have h7 := hobF g hg; have h8 := hof.block hg; omega)
        replace hb := hn127
        clear hn127
        have hAs := hb.at
        refine h_next hC11 ?_
        refine Zt (i := 10) η (fun w' hC => run_bld (pv := [(0, .int _ _), (1, S _), (2, .int _ _)]) (zs := [_, _, _]) (cells := [_, _, _]) rfl ty_32 η pl_32 η η) hC11 ?_
        refine Zh (i := 11) ?_
        have hob128 := fun g hg => (hof.block (g := g) hg).2
        refine r_alloc (zs := [_, _, _]) ty_32 η rfl ?_
        intro b129 w130 J129 E130 B129 Y129
        have Q130 := E130.size
        replace hV := Z0 hV E130
        replace hC11 := Z0 hC11 E130
        replace hl := hl0 _ hV
        replace hof := hof.evo0 E130
        replace hb := hb.evo0 E130
        refine h_next hC11 ?_
        refine hJ9 _ _ _ ζ ⟨_, _, _, _, rfl, rfl, hof, B129, B129.at, hb, hb.at, (rawW_bd _ ω), ⟨by omega, by omega⟩, ω, (fun g hg => by have := hobF g hg; omega), δ, hV, hC11⟩ ?_
        exact ψ
       refine h_do η ?_
       have hob131 := fun g hg => (hof.block (g := g) hg).2
       refine r_alloc (zs := [_, _, _]) ty_32 η rfl ?_
       intro b132 w133 J132 E133 B132 Y132
       have Q133 := E133.size
       replace hV := Z0 hV E133
       replace hC11 := Z0 hC11 E133
       replace hl := hl0 _ hV
       replace hof := hof.evo0 E133
       replace hrb122 := hrb122.evo0 E133
       replace hb := hb.evo0 E133
       replace hAs := hAs.evo0 E133
       refine h_next hC11 ?_
       refine Zh (i := 9) ?_
       refine Zr [.pointer _, .int _ _] rfl η Tryz.func38 (nx_calls hb hl ω ω ω) ?_
       rintro e w134 ⟨nx134, rfl, hx134, hE134, hn134⟩
       refine ⟨_, rfl, ?_⟩
       have Q134 := hE134.size
       replace hV := Z1 hV hE134 (.inr (by simp))
       replace hC11 := Z1 hC11 hE134 ε
       replace hl := hl0 _ hV
       replace hof := hof.evo hE134 (by intro g hg hm; simp at hm; subst hm; have h7 := hobF g hg; have h8 := hof.block hg; omega)
       replace B132 := B132.evo hE134 θ
       replace hb := hn134
       clear hn134
       have hAs := hb.at
       refine h_next hC11 ?_
       refine Zt (i := 10) η (fun w' hC => run_bld (pv := [(0, .int _ _), (1, S _), (2, .int _ _)]) (zs := [_, _, _]) (cells := [_, _, _]) rfl ty_32 η pl_32 η η) hC11 ?_
       refine hJ9 _ _ _ ζ ⟨_, _, _, _, rfl, rfl, hof, B132, B132.at, hb, hb.at, (rawW_bd _ ω), ⟨by omega, by omega⟩, ω, (fun g hg => by have := hobF g hg; omega), δ, hV, hC11⟩ ?_
       exact ψ
      ·skip
       refine h_do η ?_
       refine Zr [.pointer _, .int _ _] rfl η Tryz.func38 (nx_calls hb hl ω ω ω) ?_
       rintro e w135 ⟨nx135, rfl, hx135, hE135, hn135⟩
       refine ⟨_, rfl, ?_⟩
       have Q135 := hE135.size
       replace hV := Z1 hV hE135 (.inr (by simp))
       replace hC11 := Z1 hC11 hE135 ε
       replace hof := hof.evo hE135 (by intro g hg hm; simp at hm; subst hm; have h7 := hobF g hg; have h8 := hof.block hg; omega)
       replace hA126 := hA126.evo hE135 θ
       replace hb := hn135
       clear hn135
       have hAs := hb.at
       refine h_next hC11 ?_
       refine h_two (i := 7) (j := 11) ζ ?_ ?_
       ·skip
        refine h_do η ?_
        refine Zo (run_ld1 rfl ag_9 η (hA126.cell 0 η)) ?_
        refine h_next hC11 ?_
        refine Zt (i := 10) η (fun w' hC => run_bld (pv := [(0, .int _ _), (1, S _), (2, .int _ _)]) (zs := [_, _, _]) (cells := [_, _, _]) rfl ty_32 η pl_32 η η) hC11 ?_
        refine Zh (i := 11) ?_
        have hob136 := fun g hg => (hof.block (g := g) hg).2
        refine r_alloc (zs := [_, _, _]) ty_32 η rfl ?_
        intro b137 w138 J137 E138 B137 Y137
        have Q138 := E138.size
        replace hV := Z0 hV E138
        replace hC11 := Z0 hC11 E138
        replace hl := hl0 _ hV
        replace hof := hof.evo0 E138
        replace hb := hb.evo0 E138
        refine h_next hC11 ?_
        refine hJ9 _ _ _ ζ ⟨_, _, _, _, rfl, rfl, hof, B137, B137.at, hb, hb.at, (rawW_bd _ ω), ⟨by omega, by omega⟩, ω, (fun g hg => by have := hobF g hg; omega), δ, hV, hC11⟩ ?_
        exact ψ
       refine h_do η ?_
       have hob139 := fun g hg => (hof.block (g := g) hg).2
       refine r_alloc (zs := [_, _, _]) ty_32 η rfl ?_
       intro b140 w141 J140 E141 B140 Y140
       have Q141 := E141.size
       replace hV := Z0 hV E141
       replace hC11 := Z0 hC11 E141
       replace hl := hl0 _ hV
       replace hof := hof.evo0 E141
       replace hA126 := hA126.evo0 E141
       replace hb := hb.evo0 E141
       refine h_next hC11 ?_
       refine Zh (i := 7) ?_
       refine Zo (run_ld1 rfl ag_9 η (hA126.cell 0 η)) ?_
       refine h_next hC11 ?_
       refine Zt (i := 10) η (fun w' hC => run_bld (pv := [(0, .int _ _), (1, S _), (2, .int _ _)]) (zs := [_, _, _]) (cells := [_, _, _]) rfl ty_32 η pl_32 η η) hC11 ?_
       refine hJ9 _ _ _ ζ ⟨_, _, _, _, rfl, rfl, hof, B140, B140.at, hb, hb.at, (rawW_bd _ ω), ⟨by omega, by omega⟩, ω, (fun g hg => by have := hobF g hg; omega), δ, hV, hC11⟩ ?_
       exact ψ
      refine h_do η ?_
      have hob142 := fun g hg => (hof.block (g := g) hg).2
      refine r_alloc (zs := [_, _, _]) ty_32 η rfl ?_
      intro b143 w144 J143 E144 B143 Y143
      have Q144 := E144.size
      replace hV := Z0 hV E144
      replace hC11 := Z0 hC11 E144
      replace hl := hl0 _ hV
      replace hof := hof.evo0 E144
      replace hrb122 := hrb122.evo0 E144
      replace hb := hb.evo0 E144
      replace hAs := hAs.evo0 E144
      replace hA126 := hA126.evo0 E144
      refine h_next hC11 ?_
      refine h_two (i := 7) (j := 9) ζ ?_ ?_
      ·skip
       refine h_do η ?_
       refine Zo (run_ld1 rfl ag_9 η (hA126.cell 0 η)) ?_
       refine h_next hC11 ?_
       refine Zh (i := 9) ?_
       refine Zr [.pointer _, .int _ _] rfl η Tryz.func38 (nx_calls hb hl ω ω ω) ?_
       rintro e w145 ⟨nx145, rfl, hx145, hE145, hn145⟩
       refine ⟨_, rfl, ?_⟩
       have Q145 := hE145.size
       replace hV := Z1 hV hE145 (.inr (by simp))
       replace hC11 := Z1 hC11 hE145 ε
       replace hl := hl0 _ hV
       replace hof := hof.evo hE145 (by intro g hg hm; simp at hm; subst hm; have h7 := hobF g hg; have h8 := hof.block hg; omega)
       replace B143 := B143.evo hE145 θ
       replace hb := hn145
       clear hn145
       have hAs := hb.at
       refine h_next hC11 ?_
       refine Zt (i := 10) η (fun w' hC => run_bld (pv := [(0, .int _ _), (1, S _), (2, .int _ _)]) (zs := [_, _, _]) (cells := [_, _, _]) rfl ty_32 η pl_32 η η) hC11 ?_
       refine hJ9 _ _ _ ζ ⟨_, _, _, _, rfl, rfl, hof, B143, B143.at, hb, hb.at, (rawW_bd _ ω), ⟨by omega, by omega⟩, ω, (fun g hg => by have := hobF g hg; omega), δ, hV, hC11⟩ ?_
       exact ψ
      refine h_do η ?_
      refine Zr [.pointer _, .int _ _] rfl η Tryz.func38 (nx_calls hb hl ω ω ω) ?_
      rintro e w146 ⟨nx146, rfl, hx146, hE146, hn146⟩
      refine ⟨_, rfl, ?_⟩
      have Q146 := hE146.size
      replace hV := Z1 hV hE146 (.inr (by simp))
      replace hC11 := Z1 hC11 hE146 ε
      replace hl := hl0 _ hV
      replace hof := hof.evo hE146 (by intro g hg hm; simp at hm; subst hm; have h7 := hobF g hg; have h8 := hof.block hg; omega)
      replace hA126 := hA126.evo hE146 θ
      replace B143 := B143.evo hE146 θ
      replace hb := hn146
      clear hn146
      have hAs := hb.at
      refine h_next hC11 ?_
      refine Zh (i := 7) ?_
      refine Zo (run_ld1 rfl ag_9 η (hA126.cell 0 η)) ?_
      refine h_next hC11 ?_
      refine Zt (i := 10) η (fun w' hC => run_bld (pv := [(0, .int _ _), (1, S _), (2, .int _ _)]) (zs := [_, _, _]) (cells := [_, _, _]) rfl ty_32 η pl_32 η η) hC11 ?_
      refine hJ9 _ _ _ ζ ⟨_, _, _, _, rfl, rfl, hof, B143, B143.at, hb, hb.at, (rawW_bd _ ω), ⟨by omega, by omega⟩, ω, (fun g hg => by have := hobF g hg; omega), δ, hV, hC11⟩ ?_
      exact ψ
     refine h_do η ?_
     have hob147 := fun g hg => (hof.block (g := g) hg).2
     refine r_alloc (zs := [_, _, _]) ty_32 η rfl ?_
     intro b148 w149 J148 E149 B148 Y148
     have Q149 := E149.size
     replace hV := Z0 hV E149
     replace hC11 := Z0 hC11 E149
     replace hl := hl0 _ hV
     replace hof := hof.evo0 E149
     replace hrb122 := hrb122.evo0 E149
     replace hb := hb.evo0 E149
     replace hAs := hAs.evo0 E149
     refine h_next hC11 ?_
     refine Zh (i := 5) ?_
     refine Zr [.pointer _, .int _ _] rfl η Tryz.func38 (nx_calls hb hl ω ω ω) ?_
     rintro e w150 ⟨nx150, rfl, hx150, hE150, hn150⟩
     refine ⟨_, rfl, ?_⟩
     have Q150 := hE150.size
     replace hV := Z1 hV hE150 (.inr (by simp))
     replace hC11 := Z1 hC11 hE150 ε
     replace hl := hl0 _ hV
     replace hof := hof.evo hE150 (by intro g hg hm; simp at hm; subst hm; have h7 := hobF g hg; have h8 := hof.block hg; omega)
     replace hrb122 := hrb122.evo hE150 θ
     replace B148 := B148.evo hE150 θ
     replace hb := hn150
     clear hn150
     have hAs := hb.at
     refine h_next hC11 ?_
     refine Zt (i := 6) η (fun w' hC => run_ix (nx150.toNat) rfl Tryz.underlying77 ty_9 η η ω (by show _ < 8; omega) (hrb122.addr (i := nx150.toNat) (by show _ < 8; omega))) hC11 ?_
     have hA151 := hrb122.atD (nx150.toNat) (by show _ < 8; omega)
     refine h_two (i := 7) (j := 9) ζ ?_ ?_
     ·skip
      refine h_do η ?_
      refine Zo (run_ld1 rfl ag_9 η (hA151.cell 0 η)) ?_
      refine h_next hC11 ?_
      refine Zh (i := 9) ?_
      refine Zr [.pointer _, .int _ _] rfl η Tryz.func38 (nx_calls hb hl ω ω ω) ?_
      rintro e w152 ⟨nx152, rfl, hx152, hE152, hn152⟩
      refine ⟨_, rfl, ?_⟩
      have Q152 := hE152.size
      replace hV := Z1 hV hE152 (.inr (by simp))
      replace hC11 := Z1 hC11 hE152 ε
      replace hl := hl0 _ hV
      replace hof := hof.evo hE152 (by intro g hg hm; simp at hm; subst hm; have h7 := hobF g hg; have h8 := hof.block hg; omega)
      replace B148 := B148.evo hE152 θ
      replace hb := hn152
      clear hn152
      have hAs := hb.at
      refine h_next hC11 ?_
      refine Zt (i := 10) η (fun w' hC => run_bld (pv := [(0, .int _ _), (1, S _), (2, .int _ _)]) (zs := [_, _, _]) (cells := [_, _, _]) rfl ty_32 η pl_32 η η) hC11 ?_
      refine hJ9 _ _ _ ζ ⟨_, _, _, _, rfl, rfl, hof, B148, B148.at, hb, hb.at, (rawW_bd _ ω), ⟨by omega, by omega⟩, ω, (fun g hg => by have := hobF g hg; omega), δ, hV, hC11⟩ ?_
      exact ψ
     refine h_do η ?_
     refine Zr [.pointer _, .int _ _] rfl η Tryz.func38 (nx_calls hb hl ω ω ω) ?_
     rintro e w153 ⟨nx153, rfl, hx153, hE153, hn153⟩
     refine ⟨_, rfl, ?_⟩
     have Q153 := hE153.size
     replace hV := Z1 hV hE153 (.inr (by simp))
     replace hC11 := Z1 hC11 hE153 ε
     replace hl := hl0 _ hV
     replace hof := hof.evo hE153 (by intro g hg hm; simp at hm; subst hm; have h7 := hobF g hg; have h8 := hof.block hg; omega)
     replace B148 := B148.evo hE153 θ
     replace hA151 := hA151.evo hE153 θ
     replace hb := hn153
     clear hn153
     have hAs := hb.at
     refine h_next hC11 ?_
     refine Zh (i := 7) ?_
     refine Zo (run_ld1 rfl ag_9 η (hA151.cell 0 η)) ?_
     refine h_next hC11 ?_
     refine Zt (i := 10) η (fun w' hC => run_bld (pv := [(0, .int _ _), (1, S _), (2, .int _ _)]) (zs := [_, _, _]) (cells := [_, _, _]) rfl ty_32 η pl_32 η η) hC11 ?_
     refine hJ9 _ _ _ ζ ⟨_, _, _, _, rfl, rfl, hof, B148, B148.at, hb, hb.at, (rawW_bd _ ω), ⟨by omega, by omega⟩, ω, (fun g hg => by have := hobF g hg; omega), δ, hV, hC11⟩ ?_
     exact ψ
    refine h_do η ?_
    have hob154 := fun g hg => (hof.block (g := g) hg).2
    refine r_alloc (zs := [_, _, _]) ty_32 η rfl ?_
    intro b155 w156 J155 E156 B155 Y155
    have Q156 := E156.size
    replace hV := Z0 hV E156
    replace hC11 := Z0 hC11 E156
    replace hl := hl0 _ hV
    replace hof := hof.evo0 E156
    replace hb := hb.evo0 E156
    replace hAs := hAs.evo0 E156
    replace hrb122 := hrb122.evo0 E156
    refine h_next hC11 ?_
    refine Zh (i := 1) ?_
    refine Zr [.pointer _, .int _ _] rfl η Tryz.func38 (nx_calls hb hl ω ω ω) ?_
    rintro e w157 ⟨nx157, rfl, hx157, hE157, hn157⟩
    refine ⟨_, rfl, ?_⟩
    have Q157 := hE157.size
    replace hV := Z1 hV hE157 (.inr (by simp))
    replace hC11 := Z1 hC11 hE157 ε
    replace hl := hl0 _ hV
    replace hof := hof.evo hE157 (by intro g hg hm; simp at hm; subst hm; have h7 := hobF g hg; have h8 := hof.block hg; omega)
    replace hrb122 := hrb122.evo hE157 θ
    replace B155 := B155.evo hE157 θ
    replace hb := hn157
    clear hn157
    have hAs := hb.at
    refine h_next hC11 ?_
    refine Zt (i := 2) η (fun w' hC => run_sub rfl η η ω ω) hC11 ?_
    refine Zh (i := 5) ?_
    refine Zr [.pointer _, .int _ _] rfl η Tryz.func38 (nx_calls hb hl ω ω ω) ?_
    rintro e w158 ⟨nx158, rfl, hx158, hE158, hn158⟩
    refine ⟨_, rfl, ?_⟩
    have Q158 := hE158.size
    replace hV := Z1 hV hE158 (.inr (by simp))
    replace hC11 := Z1 hC11 hE158 ε
    replace hl := hl0 _ hV
    replace hof := hof.evo hE158 (by intro g hg hm; simp at hm; subst hm; have h7 := hobF g hg; have h8 := hof.block hg; omega)
    replace hrb122 := hrb122.evo hE158 θ
    replace B155 := B155.evo hE158 θ
    replace hb := hn158
    clear hn158
    have hAs := hb.at
    refine h_next hC11 ?_
    refine Zt (i := 6) η (fun w' hC => run_ix (nx158.toNat) rfl Tryz.underlying77 ty_9 η η ω (by show _ < 8; omega) (hrb122.addr (i := nx158.toNat) (by show _ < 8; omega))) hC11 ?_
    have hA159 := hrb122.atD (nx158.toNat) (by show _ < 8; omega)
    refine h_two (i := 7) (j := 9) ζ ?_ ?_
    ·skip
     refine h_do η ?_
     refine Zo (run_ld1 rfl ag_9 η (hA159.cell 0 η)) ?_
     refine h_next hC11 ?_
     refine Zh (i := 9) ?_
     refine Zr [.pointer _, .int _ _] rfl η Tryz.func38 (nx_calls hb hl ω ω ω) ?_
     rintro e w160 ⟨nx160, rfl, hx160, hE160, hn160⟩
     refine ⟨_, rfl, ?_⟩
     have Q160 := hE160.size
     replace hV := Z1 hV hE160 (.inr (by simp))
     replace hC11 := Z1 hC11 hE160 ε
     replace hl := hl0 _ hV
     replace hof := hof.evo hE160 (by intro g hg hm; simp at hm; subst hm; have h7 := hobF g hg; have h8 := hof.block hg; omega)
     replace B155 := B155.evo hE160 θ
     replace hb := hn160
     clear hn160
     have hAs := hb.at
     refine h_next hC11 ?_
     refine Zt (i := 10) η (fun w' hC => run_bld (pv := [(0, .int _ _), (1, S _), (2, .int _ _)]) (zs := [_, _, _]) (cells := [_, _, _]) rfl ty_32 η pl_32 η η) hC11 ?_
     refine hJ9 _ _ _ ζ ⟨_, _, _, _, rfl, rfl, hof, B155, B155.at, hb, hb.at, (rawW_bd _ ω), ⟨by omega, by omega⟩, ω, (fun g hg => by have := hobF g hg; omega), δ, hV, hC11⟩ ?_
     exact ψ
    refine h_do η ?_
    refine Zr [.pointer _, .int _ _] rfl η Tryz.func38 (nx_calls hb hl ω ω ω) ?_
    rintro e w161 ⟨nx161, rfl, hx161, hE161, hn161⟩
    refine ⟨_, rfl, ?_⟩
    have Q161 := hE161.size
    replace hV := Z1 hV hE161 (.inr (by simp))
    replace hC11 := Z1 hC11 hE161 ε
    replace hl := hl0 _ hV
    replace hof := hof.evo hE161 (by intro g hg hm; simp at hm; subst hm; have h7 := hobF g hg; have h8 := hof.block hg; omega)
    replace B155 := B155.evo hE161 θ
    replace hA159 := hA159.evo hE161 θ
    replace hb := hn161
    clear hn161
    have hAs := hb.at
    refine h_next hC11 ?_
    refine Zh (i := 7) ?_
    refine Zo (run_ld1 rfl ag_9 η (hA159.cell 0 η)) ?_
    refine h_next hC11 ?_
    refine Zt (i := 10) η (fun w' hC => run_bld (pv := [(0, .int _ _), (1, S _), (2, .int _ _)]) (zs := [_, _, _]) (cells := [_, _, _]) rfl ty_32 η pl_32 η η) hC11 ?_
    refine hJ9 _ _ _ ζ ⟨_, _, _, _, rfl, rfl, hof, B155, B155.at, hb, hb.at, (rawW_bd _ ω), ⟨by omega, by omega⟩, ω, (fun g hg => by have := hobF g hg; omega), δ, hV, hC11⟩ ?_
    exact ψ
   refine h_do η ?_
   have hob162 := fun g hg => (hof.block (g := g) hg).2
   refine r_alloc (zs := [_, _, _]) ty_32 η rfl ?_
   intro b163 w164 J163 E164 B163 Y163
   have Q164 := E164.size
   replace hV := Z0 hV E164
   replace hC11 := Z0 hC11 E164
   replace hl := hl0 _ hV
   replace hof := hof.evo0 E164
   replace hb := hb.evo0 E164
   replace hAs := hAs.evo0 E164
   refine h_next hC11 ?_
   refine h_two (i := 1) (j := 3) ζ ?_ ?_
   ·skip
    refine h_do η ?_
    refine Zr [.pointer _, .int _ _] rfl η Tryz.func38 (nx_calls hb hl ω ω ω) ?_
    rintro e w165 ⟨nx165, rfl, hx165, hE165, hn165⟩
    refine ⟨_, rfl, ?_⟩
    have Q165 := hE165.size
    replace hV := Z1 hV hE165 (.inr (by simp))
    replace hC11 := Z1 hC11 hE165 ε
    replace hl := hl0 _ hV
    replace hof := hof.evo hE165 (by intro g hg hm; simp at hm; subst hm; have h7 := hobF g hg; have h8 := hof.block hg; omega)
    replace B163 := B163.evo hE165 θ
    replace hb := hn165
    clear hn165
    have hAs := hb.at
    refine h_next hC11 ?_
    refine Zt (i := 2) η (fun w' hC => run_sub rfl η η ω ω) hC11 ?_
    refine h_two (i := 3) (j := 5) ζ ?_ ?_
    ·skip
     refine h_do η ?_
     refine r_bslice (pv := [(0, S _), (1, S _), (2, S _), (3, S _), (4, S _), (5, S _), (6, S _), (7, S _)]) (zs := [_]) (cs := [_, _, _, _, _, _, _, _]) Tryz.underlying77 ty_9 η rfl η rfl η ?_
     intro b166 w167 J166 E167 B166 Y166
     have Q167 := E167.size
     replace hV := Z0 hV E167
     replace hC11 := Z0 hC11 E167
     replace hl := hl0 _ hV
     replace hof := hof.evo0 E167
     replace B163 := B163.evo0 E167
     replace hb := hb.evo0 E167
     replace hAs := hAs.evo0 E167
     have hrb166 : RowE w167 (some ⟨b166, 0, none⟩) b166 0 8 rawW := rowLit rawW B166 rfl rfl
     refine h_next hC11 ?_
     refine Zh (i := 5) ?_
     refine Zr [.pointer _, .int _ _] rfl η Tryz.func38 (nx_calls hb hl ω ω ω) ?_
     rintro e w168 ⟨nx168, rfl, hx168, hE168, hn168⟩
     refine ⟨_, rfl, ?_⟩
     have Q168 := hE168.size
     replace hV := Z1 hV hE168 (.inr (by simp))
     replace hC11 := Z1 hC11 hE168 ε
     replace hl := hl0 _ hV
     replace hof := hof.evo hE168 (by intro g hg hm; simp at hm; subst hm; have h7 := hobF g hg; have h8 := hof.block hg; omega)
     replace B163 := B163.evo hE168 θ
     replace hrb166 := hrb166.evo hE168 θ
     replace hb := hn168
     clear hn168
     have hAs := hb.at
     refine h_next hC11 ?_
     refine Zt (i := 6) η (fun w' hC => run_ix (nx168.toNat) rfl Tryz.underlying77 ty_9 η η ω (by show _ < 8; omega) (hrb166.addr (i := nx168.toNat) (by show _ < 8; omega))) hC11 ?_
     have hA169 := hrb166.atD (nx168.toNat) (by show _ < 8; omega)
     refine h_two (i := 7) (j := 9) ζ ?_ ?_
     ·skip
      refine h_do η ?_
      refine Zo (run_ld1 rfl ag_9 η (hA169.cell 0 η)) ?_
      refine h_next hC11 ?_
      refine Zh (i := 9) ?_
      refine Zr [.pointer _, .int _ _] rfl η Tryz.func38 (nx_calls hb hl ω ω ω) ?_
      rintro e w170 ⟨nx170, rfl, hx170, hE170, hn170⟩
      refine ⟨_, rfl, ?_⟩
      have Q170 := hE170.size
      replace hV := Z1 hV hE170 (.inr (by simp))
      replace hC11 := Z1 hC11 hE170 ε
      replace hl := hl0 _ hV
      replace hof := hof.evo hE170 (by intro g hg hm; simp at hm; subst hm; have h7 := hobF g hg; have h8 := hof.block hg; omega)
      replace B163 := B163.evo hE170 θ
      replace hb := hn170
      clear hn170
      have hAs := hb.at
      refine h_next hC11 ?_
      refine Zt (i := 10) η (fun w' hC => run_bld (pv := [(0, .int _ _), (1, S _), (2, .int _ _)]) (zs := [_, _, _]) (cells := [_, _, _]) rfl ty_32 η pl_32 η η) hC11 ?_
      refine hJ9 _ _ _ ζ ⟨_, _, _, _, rfl, rfl, hof, B163, B163.at, hb, hb.at, (rawW_bd _ ω), ⟨by omega, by omega⟩, ω, (fun g hg => by have := hobF g hg; omega), δ, hV, hC11⟩ ?_
      exact ψ
     refine h_do η ?_
     refine Zr [.pointer _, .int _ _] rfl η Tryz.func38 (nx_calls hb hl ω ω ω) ?_
     rintro e w171 ⟨nx171, rfl, hx171, hE171, hn171⟩
     refine ⟨_, rfl, ?_⟩
     have Q171 := hE171.size
     replace hV := Z1 hV hE171 (.inr (by simp))
     replace hC11 := Z1 hC11 hE171 ε
     replace hl := hl0 _ hV
     replace hof := hof.evo hE171 (by intro g hg hm; simp at hm; subst hm; have h7 := hobF g hg; have h8 := hof.block hg; omega)
     replace B163 := B163.evo hE171 θ
     replace hA169 := hA169.evo hE171 θ
     replace hb := hn171
     clear hn171
     have hAs := hb.at
     refine h_next hC11 ?_
     refine Zh (i := 7) ?_
     refine Zo (run_ld1 rfl ag_9 η (hA169.cell 0 η)) ?_
     refine h_next hC11 ?_
     refine Zt (i := 10) η (fun w' hC => run_bld (pv := [(0, .int _ _), (1, S _), (2, .int _ _)]) (zs := [_, _, _]) (cells := [_, _, _]) rfl ty_32 η pl_32 η η) hC11 ?_
     refine hJ9 _ _ _ ζ ⟨_, _, _, _, rfl, rfl, hof, B163, B163.at, hb, hb.at, (rawW_bd _ ω), ⟨by omega, by omega⟩, ω, (fun g hg => by have := hobF g hg; omega), δ, hV, hC11⟩ ?_
     exact ψ
    refine h_do η ?_
    refine Zr [.pointer _, .int _ _] rfl η Tryz.func38 (nx_calls hb hl ω ω ω) ?_
    rintro e w172 ⟨nx172, rfl, hx172, hE172, hn172⟩
    refine ⟨_, rfl, ?_⟩
    have Q172 := hE172.size
    replace hV := Z1 hV hE172 (.inr (by simp))
    replace hC11 := Z1 hC11 hE172 ε
    replace hl := hl0 _ hV
    replace hof := hof.evo hE172 (by intro g hg hm; simp at hm; subst hm; have h7 := hobF g hg; have h8 := hof.block hg; omega)
    replace B163 := B163.evo hE172 θ
    replace hb := hn172
    clear hn172
    have hAs := hb.at
    refine h_next hC11 ?_
    refine h_two (i := 3) (j := 9) ζ ?_ ?_
    ·skip
     refine h_do η ?_
     refine r_bslice (pv := [(0, S _), (1, S _), (2, S _), (3, S _), (4, S _), (5, S _), (6, S _), (7, S _)]) (zs := [_]) (cs := [_, _, _, _, _, _, _, _]) Tryz.underlying77 ty_9 η rfl η rfl η ?_
     intro b173 w174 J173 E174 B173 Y173
     have Q174 := E174.size
     replace hV := Z0 hV E174
     replace hC11 := Z0 hC11 E174
     replace hl := hl0 _ hV
     replace hof := hof.evo0 E174
     replace B163 := B163.evo0 E174
     replace hb := hb.evo0 E174
     replace hAs := hAs.evo0 E174
     have hrb173 : RowE w174 (some ⟨b173, 0, none⟩) b173 0 8 rawW := rowLit rawW B173 rfl rfl
     refine h_next hC11 ?_
     refine Zt (i := 6) η (fun w' hC => run_ix (nx172.toNat) rfl Tryz.underlying77 ty_9 η η ω (by show _ < 8; omega) (hrb173.addr (i := nx172.toNat) (by show _ < 8; omega))) hC11 ?_
     have hA175 := hrb173.atD (nx172.toNat) (by show _ < 8; omega)
     refine h_two (i := 7) (j := 9) ζ ?_ ?_
     ·skip
      refine h_do η ?_
      refine Zo (run_ld1 rfl ag_9 η (hA175.cell 0 η)) ?_
      refine h_next hC11 ?_
      refine Zh (i := 9) ?_
      refine Zr [.pointer _, .int _ _] rfl η Tryz.func38 (nx_calls hb hl ω ω ω) ?_
      rintro e w176 ⟨nx176, rfl, hx176, hE176, hn176⟩
      refine ⟨_, rfl, ?_⟩
      have Q176 := hE176.size
      replace hV := Z1 hV hE176 (.inr (by simp))
      replace hC11 := Z1 hC11 hE176 ε
      replace hl := hl0 _ hV
      replace hof := hof.evo hE176 (by intro g hg hm; simp at hm; subst hm; have h7 := hobF g hg; have h8 := hof.block hg; omega)
      replace B163 := B163.evo hE176 θ
      replace hb := hn176
      clear hn176
      have hAs := hb.at
      refine h_next hC11 ?_
      refine Zt (i := 10) η (fun w' hC => run_bld (pv := [(0, .int _ _), (1, S _), (2, .int _ _)]) (zs := [_, _, _]) (cells := [_, _, _]) rfl ty_32 η pl_32 η η) hC11 ?_
      refine hJ9 _ _ _ ζ ⟨_, _, _, _, rfl, rfl, hof, B163, B163.at, hb, hb.at, (rawW_bd _ ω), ⟨by omega, by omega⟩, ω, (fun g hg => by have := hobF g hg; omega), δ, hV, hC11⟩ ?_
      exact ψ
     refine h_do η ?_
     refine Zr [.pointer _, .int _ _] rfl η Tryz.func38 (nx_calls hb hl ω ω ω) ?_
     rintro e w177 ⟨nx177, rfl, hx177, hE177, hn177⟩
     refine ⟨_, rfl, ?_⟩
     have Q177 := hE177.size
     replace hV := Z1 hV hE177 (.inr (by simp))
     replace hC11 := Z1 hC11 hE177 ε
     replace hl := hl0 _ hV
     replace hof := hof.evo hE177 (by intro g hg hm; simp at hm; subst hm; have h7 := hobF g hg; have h8 := hof.block hg; omega)
     replace B163 := B163.evo hE177 θ
     replace hA175 := hA175.evo hE177 θ
     replace hb := hn177
     clear hn177
     have hAs := hb.at
     refine h_next hC11 ?_
     refine Zh (i := 7) ?_
     refine Zo (run_ld1 rfl ag_9 η (hA175.cell 0 η)) ?_
     refine h_next hC11 ?_
     refine Zt (i := 10) η (fun w' hC => run_bld (pv := [(0, .int _ _), (1, S _), (2, .int _ _)]) (zs := [_, _, _]) (cells := [_, _, _]) rfl ty_32 η pl_32 η η) hC11 ?_
     refine hJ9 _ _ _ ζ ⟨_, _, _, _, rfl, rfl, hof, B163, B163.at, hb, hb.at, (rawW_bd _ ω), ⟨by omega, by omega⟩, ω, (fun g hg => by have := hobF g hg; omega), δ, hV, hC11⟩ ?_
     exact ψ
    refine h_do η ?_
    refine Zr [.pointer _, .int _ _] rfl η Tryz.func38 (nx_calls hb hl ω ω ω) ?_
    rintro e w178 ⟨nx178, rfl, hx178, hE178, hn178⟩
    refine ⟨_, rfl, ?_⟩
    have Q178 := hE178.size
    replace hV := Z1 hV hE178 (.inr (by simp))
    replace hC11 := Z1 hC11 hE178 ε
    replace hof := hof.evo hE178 (by intro g hg hm; simp at hm; subst hm; have h7 := hobF g hg; have h8 := hof.block hg; omega)
    replace B163 := B163.evo hE178 θ
    replace hb := hn178
    clear hn178
    have hAs := hb.at
    refine h_next hC11 ?_
    refine Zh (i := 3) ?_
    refine r_bslice (pv := [(0, S _), (1, S _), (2, S _), (3, S _), (4, S _), (5, S _), (6, S _), (7, S _)]) (zs := [_]) (cs := [_, _, _, _, _, _, _, _]) Tryz.underlying77 ty_9 η rfl η rfl η ?_
    intro b179 w180 J179 E180 B179 Y179
    have Q180 := E180.size
    replace hV := Z0 hV E180
    replace hC11 := Z0 hC11 E180
    replace hl := hl0 _ hV
    replace hof := hof.evo0 E180
    replace B163 := B163.evo0 E180
    replace hb := hb.evo0 E180
    have hrb179 : RowE w180 (some ⟨b179, 0, none⟩) b179 0 8 rawW := rowLit rawW B179 rfl rfl
    refine h_next hC11 ?_
    refine Zt (i := 6) η (fun w' hC => run_ix (nx172.toNat) rfl Tryz.underlying77 ty_9 η η ω (by show _ < 8; omega) (hrb179.addr (i := nx172.toNat) (by show _ < 8; omega))) hC11 ?_
    have hA181 := hrb179.atD (nx172.toNat) (by show _ < 8; omega)
    refine Zh (i := 7) ?_
    refine Zo (run_ld1 rfl ag_9 η (hA181.cell 0 η)) ?_
    refine h_next hC11 ?_
    refine Zt (i := 10) η (fun w' hC => run_bld (pv := [(0, .int _ _), (1, S _), (2, .int _ _)]) (zs := [_, _, _]) (cells := [_, _, _]) rfl ty_32 η pl_32 η η) hC11 ?_
    refine hJ9 _ _ _ ζ ⟨_, _, _, _, rfl, rfl, hof, B163, B163.at, hb, hb.at, (rawW_bd _ ω), ⟨by omega, by omega⟩, ω, (fun g hg => by have := hobF g hg; omega), δ, hV, hC11⟩ ?_
    exact ψ
   refine h_do η ?_
   refine r_bslice (pv := [(0, S _), (1, S _), (2, S _), (3, S _), (4, S _), (5, S _), (6, S _), (7, S _)]) (zs := [_]) (cs := [_, _, _, _, _, _, _, _]) Tryz.underlying77 ty_9 η rfl η rfl η ?_
   intro b182 w183 J182 E183 B182 Y182
   have Q183 := E183.size
   replace hV := Z0 hV E183
   replace hC11 := Z0 hC11 E183
   replace hl := hl0 _ hV
   replace hof := hof.evo0 E183
   replace hb := hb.evo0 E183
   replace hAs := hAs.evo0 E183
   replace B163 := B163.evo0 E183
   have hrb182 : RowE w183 (some ⟨b182, 0, none⟩) b182 0 8 rawW := rowLit rawW B182 rfl rfl
   refine h_next hC11 ?_
   refine Zh (i := 1) ?_
   refine Zr [.pointer _, .int _ _] rfl η Tryz.func38 (nx_calls hb hl ω ω ω) ?_
   rintro e w184 ⟨nx184, rfl, hx184, hE184, hn184⟩
   refine ⟨_, rfl, ?_⟩
   have Q184 := hE184.size
   replace hV := Z1 hV hE184 (.inr (by simp))
   replace hC11 := Z1 hC11 hE184 ε
   replace hl := hl0 _ hV
   replace hof := hof.evo hE184 (by intro g hg hm; simp at hm; subst hm; have h7 := hobF g hg; have h8 := hof.block hg; omega)
   replace B163 := B163.evo hE184 θ
   replace hrb182 := hrb182.evo hE184 θ
   replace hb := hn184
   clear hn184
   have hAs := hb.at
   refine h_next hC11 ?_
   refine Zt (i := 2) η (fun w' hC => run_sub rfl η η ω ω) hC11 ?_
   refine Zh (i := 5) ?_
   refine Zr [.pointer _, .int _ _] rfl η Tryz.func38 (nx_calls hb hl ω ω ω) ?_
   rintro e w185 ⟨nx185, rfl, hx185, hE185, hn185⟩
   refine ⟨_, rfl, ?_⟩
   have Q185 := hE185.size
   replace hV := Z1 hV hE185 (.inr (by simp))
   replace hC11 := Z1 hC11 hE185 ε
   replace hl := hl0 _ hV
   replace hof := hof.evo hE185 (by intro g hg hm; simp at hm; subst hm; have h7 := hobF g hg; have h8 := hof.block hg; omega)
   replace B163 := B163.evo hE185 θ
   replace hrb182 := hrb182.evo hE185 θ
   replace hb := hn185
   clear hn185
   have hAs := hb.at
   refine h_next hC11 ?_
   refine Zt (i := 6) η (fun w' hC => run_ix (nx185.toNat) rfl Tryz.underlying77 ty_9 η η ω (by show _ < 8; omega) (hrb182.addr (i := nx185.toNat) (by show _ < 8; omega))) hC11 ?_
   have hA186 := hrb182.atD (nx185.toNat) (by show _ < 8; omega)
   refine h_two (i := 7) (j := 9) ζ ?_ ?_
   ·skip
    refine h_do η ?_
    refine Zo (run_ld1 rfl ag_9 η (hA186.cell 0 η)) ?_
    refine h_next hC11 ?_
    refine Zh (i := 9) ?_
    refine Zr [.pointer _, .int _ _] rfl η Tryz.func38 (nx_calls hb hl ω ω ω) ?_
    rintro e w187 ⟨nx187, rfl, hx187, hE187, hn187⟩
    refine ⟨_, rfl, ?_⟩
    have Q187 := hE187.size
    replace hV := Z1 hV hE187 (.inr (by simp))
    replace hC11 := Z1 hC11 hE187 ε
    replace hl := hl0 _ hV
    replace hof := hof.evo hE187 (by intro g hg hm; simp at hm; subst hm; have h7 := hobF g hg; have h8 := hof.block hg; omega)
    replace B163 := B163.evo hE187 θ
    replace hb := hn187
    clear hn187
    have hAs := hb.at
    refine h_next hC11 ?_
    refine Zt (i := 10) η (fun w' hC => run_bld (pv := [(0, .int _ _), (1, S _), (2, .int _ _)]) (zs := [_, _, _]) (cells := [_, _, _]) rfl ty_32 η pl_32 η η) hC11 ?_
    refine hJ9 _ _ _ ζ ⟨_, _, _, _, rfl, rfl, hof, B163, B163.at, hb, hb.at, (rawW_bd _ ω), ⟨by omega, by omega⟩, ω, (fun g hg => by have := hobF g hg; omega), δ, hV, hC11⟩ ?_
    exact ψ
   refine h_do η ?_
   refine Zr [.pointer _, .int _ _] rfl η Tryz.func38 (nx_calls hb hl ω ω ω) ?_
   rintro e w188 ⟨nx188, rfl, hx188, hE188, hn188⟩
   refine ⟨_, rfl, ?_⟩
   have Q188 := hE188.size
   replace hV := Z1 hV hE188 (.inr (by simp))
   replace hC11 := Z1 hC11 hE188 ε
   replace hl := hl0 _ hV
   replace hof := hof.evo hE188 (by intro g hg hm; simp at hm; subst hm; have h7 := hobF g hg; have h8 := hof.block hg; omega)
   replace B163 := B163.evo hE188 θ
   replace hA186 := hA186.evo hE188 θ
   replace hb := hn188
   clear hn188
   have hAs := hb.at
   refine h_next hC11 ?_
   refine Zh (i := 7) ?_
   refine Zo (run_ld1 rfl ag_9 η (hA186.cell 0 η)) ?_
   refine h_next hC11 ?_
   refine Zt (i := 10) η (fun w' hC => run_bld (pv := [(0, .int _ _), (1, S _), (2, .int _ _)]) (zs := [_, _, _]) (cells := [_, _, _]) rfl ty_32 η pl_32 η η) hC11 ?_
   refine hJ9 _ _ _ ζ ⟨_, _, _, _, rfl, rfl, hof, B163, B163.at, hb, hb.at, (rawW_bd _ ω), ⟨by omega, by omega⟩, ω, (fun g hg => by have := hobF g hg; omega), δ, hV, hC11⟩ ?_
   exact ψ
  rintro g w189 ⟨bx, kx, tx, ix, hj190, hof, hbx, hAx, hb, hAs, htx, hbx0, hnx2, hix, hzl8, hV⟩
  have hs_w189hV := hV.size
  have hlt191 := hbx.lt
  have hlt192 := hb.lt
  replace hl := hl0 _ hV
  refine Zk 7 (v := .pointer (some ⟨bx, 0, none⟩)) (by exact hj190) ?_
  refine r_seq ?_
  refine Zs ?_
  refine Zo mvP ?_
  refine Zr [.pointer _, .int _ _] rfl η Tryz.func38 (nx_calls hb hl ω ω ω) ?_
  rintro e w193 ⟨nx193, rfl, hx193, hE193, hn193⟩
  refine ⟨_, rfl, ?_⟩
  have Q193 := hE193.size
  replace hV := Z1 hV hE193 (.inr (by simp))
  replace hl := hl0 _ hV
  replace hof := hof.evo hE193 (by intro g hg hm; simp at hm; subst hm; have := hof.block hg; omega)
  replace hbx := hbx.evo hE193 θ
  replace hAx := hAx.evo hE193 θ
  replace hb := hn193
  clear hn193
  have hAs := hb.at
  refine Zn (run_gtr rfl η η) ?_
  refine r_cut [30] (fun g w => ∃ ix2 : Int, OwnE w w0.heap.size 32 vf f ∧ Blk w bx 32 [.int .i64 kx, S tx, .int .i64 ix2] ∧ At w bx 0 [.int .i64 kx, S tx, .int .i64 ix2] ∧ Blk w bs T [.slice ao l.length cap, .int .i64 ((N1 + 3 + 1) : Nat)] ∧ At w bs 0 [.slice ao l.length cap, .int .i64 ((N1 + 3 + 1) : Nat)] ∧ (0 ≤ ix2 ∧ ix2 ≤ 3) ∧ w193.heap.size ≤ w.heap.size ∧ Evo w0 w [bs]) ?_ ?_
  ·skip
   refine r_cond η (fun hc195 => ?_) (fun hc195 => ?_)
   ·skip
    refine r_region ?_
    refine Zo (run_fa rfl η fo_32_2) ?_
    refine r_store (v := .int _ _) (vs := [_]) (cs' := [_, _, _]) η η hbx ty_3 η rfl η rfl η ?_
    intro w196 E196 V196 hb_new
    have Q196 := E196.size
    replace hV := Z1 hV E196 ε
    replace hl := hl0 _ hV
    replace hof := hof.evo E196 (by intro g hg hm; simp at hm; subst hm; exact hnx2 _ hg rfl)
    replace hb := hb.evo E196 θ
    replace hbx := hb_new
    have hAx := hbx.at
    clear hb_new
    refine r_nil ?_
    refine r_cut_end ?_ ?_
    ·refine ⟨_, hof, hbx, hbx.at, hb, hb.at, (by first | exact hix | exact ⟨by decide, by decide⟩), δ, hV⟩
    exact ψ
   refine r_skip ?_
   refine r_cut_end ?_ ?_
   ·refine ⟨_, hof, hbx, hbx.at, hb, hb.at, (by first | exact hix | exact ⟨by decide, by decide⟩), δ, hV⟩
   exact ψ
  rintro g w197 ⟨ix2, hof, hbx, hAx, hb, hAs, hix2, hzl194, hV⟩
  have hs_w197hV := hV.size
  have hlt198 := hbx.lt
  have hlt199 := hb.lt
  refine r_region ?_
  refine Zo (run_mv (v := vf) rfl η) ?_
  refine Zo (run_ldN rfl ag_32 ty_32 η rfl hAx) ?_
  refine r_append1E (u := .agg _) (y := ⟨_, _, _⟩) rfl rfl Tryz.underlying33 ty_32 η hof (fun _ => η) η (by first | exact rfl | (show _ = List.toArray [_, _, _]; first | (dsimp only; done) | exact rfl | (dsimp only; exact rfl))) ((by first | omega | (simp; omega))) ((by first | omega | (simp; omega))) ω ?_
  intro q_v200 v200 w201 E201 hov200 hlv200
  have Q201 := E201.size
  replace hV := evo_stepo hV E201 (fun g hg => .inl (by first | exact (hof.block hg).1 | (have := hof.block hg; omega)))
  replace hl := hl0 _ hV
  replace hb := hb.evo E201 (by intro hm; have hm2 := Option.mem_toList.1 hm; have := hof.block hm2; omega)
  refine Zn (run_asg (v := v200) rfl η) ?_
  refine r_blk ?_
  refine r_region ?_
  refine Zo mvI ?_
  refine Zo (run_sub rfl η η ω ω) ?_
  refine Zn asI ?_
  refine r_again (i - 1) ?_ ?_ ?_
  ·first | omega | (dsimp only; omega)
  ·refine ⟨_, _, _, σ, rfl, (hov200.base_le ω), hb, hb.at, (by rw [List.length_append, sizeL_append, sizeL_one]; simp only [List.length_cons, List.length_nil]; omega), (mem_snoc hid hix2), δ, hV⟩
  exact ψ
 refine r_exit rfl ?_
 refine Zs ?_
 refine Zo (run_mv (v := vf) rfl η) ?_
 refine Zn (run_asg (v := vf) rfl η) ?_
 refine r_ret (res1 (v := vf) rfl η) ?_
 exact ⟨_, _, rfl, ⟨by omega, by omega, hid⟩, hV, hof⟩
end Go.Proofs.YtlfjocbnbceceaaGreatDoor
namespace Go.Proofs.YtlfjocbnbceceaaGreatDoor
open Go Go.RowKit Go.Vc
theorem formed_id {b : List Vc.Item} {x : Vc.Item} (h : formed b x = true) (ht : isTag x = true) : InR x := by
  rcases (isTag_iff x).1 ht with (h2 | h2) | h2 <;> (unfold formed at h; simp [h2] at h; unfold InR; omega)
theorem val_in : ∀ (f b : List Vc.Item), valGo b f = 0 → ∀ x ∈ tagsL f, InR x
  | [], _, _, x, hx => by cases hx
  | y :: f, b, h, x, hx => by
    unfold valGo at h
    split at h
    · rename_i hc
      unfold tagsL at hx
      rw [List.filter_cons] at hx
      split at hx
      · rename_i hy
        rcases List.mem_cons.1 hx with rfl | hx
        · unfold checkL at hc
          split at hc
          · rename_i hf; exact formed_id hf hy
          · exact absurd hc (by decide)
        · exact val_in f _ h x hx
      · exact val_in f _ h x hx
    · exact absurd h (by assumption)
structure PairR (f g : List Vc.Item) : Prop where
  tf : Tiny f
  tg : Tiny g
  nf : ∀ x ∈ tagsL f, InR x
  ng : ∀ x ∈ tagsL g, InR x
  vf : valGo [] f = 0
theorem small_tiny {f : List Vc.Item} {n : Int} (hn : n ≤ 20) (h1 : (f.length : Int) ≤ 2 * n) (h2 : (sizeL f : Int) ≤ 30 * n) : Tiny f := ⟨by omega, by omega⟩
theorem raw_in {f : List Vc.Item} (h : ∀ y ∈ f, 0 ≤ y.id ∧ y.id ≤ 3) : ∀ x ∈ tagsL f, InR x := fun x hx => by
  have := h x (List.mem_filter.1 hx).1
  unfold InR; omega
theorem skel_in {f g : List Vc.Item} (h : skel g = skel f) (hf : ∀ x ∈ tagsL f, InR x) : ∀ x ∈ tagsL g, InR x := by
  rw [← tags_skel g, h, tags_skel]; exact hf
structure MadeC (c : Chk) : Prop where
  len : c.lev.length = 13
  lev : ∀ x ∈ c.lev, 0 ≤ x ∧ x ≤ 2
  lev0 : c.lev.getD 0 default = 0
  sh : 0 ≤ c.short ∧ c.short ≤ 100
  lo : c.long = 0 ∨ (100 ≤ c.long ∧ c.long ≤ 10000)
  ts : ∀ x ∈ c.ts, MadeTm x
  tl : c.ts.length ≤ 3
  cl : c.cls.length ≤ 2
  vt : validT c.ts c.cls = 0
theorem MadeC.ok {c : Chk} (h : MadeC c) : ¬ chkBad c := by
  have h1 := h.sh; have h2 := h.lo; have h3 := h.lev0
  rintro (⟨x, hx, h4⟩ | h4)
  · have := h.lev x hx; omega
  · omega
theorem lev_set {l : List Int} {rest : List Value} {k : Nat} {x : Int} (hk : k < l.length) : (l.map (Value.int .i64) ++ rest).take k ++ [.int .i64 x] ++ (l.map (Value.int .i64) ++ rest).drop (k + 1) = (l.set k x).map (Value.int .i64) ++ rest := by
  rw [List.take_append_of_le_length θ, List.drop_append_of_le_length θ, ← List.append_assoc]
  congr 1
  rw [← List.map_take, ← List.map_drop, List.set_eq_take_append_cons_drop, if_pos hk, List.map_append, List.map_cons, List.append_assoc]; rfl
theorem lev_fit {l : List Int} {rest : List Value} {k n : Nat} (hn : n = 1) (hk : k < l.length) : Nat.ble (k + n) (l.map (Value.int .i64) ++ rest).length = true := by
  rw [Nat.ble_eq, List.length_append, List.length_map]; omega
def LevR (l : List Int) : Prop := l.length = 13 ∧ (∀ x ∈ l, 0 ≤ x ∧ x ≤ 2) ∧ l.getD 0 default = 0
theorem LevR.set {l : List Int} {k : Nat} {x : Int} (h : LevR l) (hk : 1 ≤ k) (hx : 0 ≤ x ∧ x ≤ 2) : LevR (l.set k x) := by
  refine ⟨by rw [List.length_set]; exact h.1, fun y hy => ?_, ?_⟩
  · rcases List.mem_or_eq_of_mem_set hy with q | q
    · exact h.2.1 y q
    · rw [q]; exact hx
  · rw [List.getD_eq_getElem?_getD, List.getElem?_set_ne ω, ← List.getD_eq_getElem?_getD]; exact h.2.2
theorem cno {a b : List Vc.Item} (h : ((¬ (shapeL a).isSome = true ∨ ¬ (shapeL b).isSome = true) ∨ ¬ shC a = shC b) ∨ ¬ shO a = shO b) : compatL a b = false := compat_no h
theorem cyes {a b : List Vc.Item} (h : ¬ (((¬ (shapeL a).isSome = true ∨ ¬ (shapeL b).isSome = true) ∨ ¬ shC a = shC b) ∨ ¬ shO a = shO b)) (hp : (tagsL a).Perm (tagsL b)) : compatL a b = decide (sortS (slotsL a) = sortS (slotsL b)) := compat_yes h hp
theorem getM_zero {m : List (Vc.Item × Int)} (h : ∀ p ∈ m, p.2 = 0) (x : Vc.Item) : (getM m x).getD 0 = 0 := by
  unfold getM
  cases e : m.find? (fun p => decide (p.1 = x)) with
  | none => rfl
  | some p => exact h p (List.mem_of_find?_eq_some e)
theorem getM_of_mem : ∀ {m : List (Vc.Item × Int)} {p : Vc.Item × Int}, (m.map (·.1)).Nodup → p ∈ m → getM m p.1 = some p.2
  | q :: m, p, hn, hp => by
    obtain ⟨h1, h2⟩ := List.nodup_cons.1 hn
    rw [getM_cons]
    rcases List.mem_cons.1 hp with rfl | hp
    · rw [if_pos rfl]
    · rw [if_neg (fun e => h1 (by show q.1 ∈ _; rw [e]; exact List.mem_map_of_mem hp)), getM_of_mem h2 hp]
theorem compatible_calls {aoa aob : Option Addr} {ba offa capa bb offb capb : Nat} {a b : List Vc.Item} {w0 : World} (ha : RowE w0 aoa ba offa capa a) (hb : RowE w0 aob bb offb capb b) (hsa : Small a) (hsb : Small b) :
    Calls Tryz.prog 24 #[.slice aoa a.length capa, .slice aob b.length capb] w0 fun e w' => e = .returned (.bool (compatL a b)) ∧ Evo w0 w' [] := by
 have hs1 := hsa.1; have hs2 := hsb.1; have ht1 := tagsL_len a; have ht2 := tagsL_len b; have hu1 := slotsL_len a; have hu2 := slotsL_len b
 refine calls_enter (n := 90) Tryz.func24 rfl Tryz.ntmps24 rfl ?_
 have hV : Evo w0 w0 [] := Evo.refl _ _
 have ha0 := keepE ha
 have hbd_ha := ha.bd
 have hb0 := keepE hb
 have hbd_hb := hb.bd
 refine Zs ?_
 refine Zn asB ?_
 refine Zs ?_
 refine Zo mvS ?_
 refine Zr [.slice _ _ _] rfl η Tryz.func23 (shape_calls ha (by first | assumption | exact MF.small (by assumption) | exact kf_small | exact small_take (by assumption) _)) ?_
 rintro e w1 ⟨vp1, vq1, rfl, hE1, hop1, hoq1⟩
 refine ⟨_, rfl, ?_⟩
 have Q1 := hE1.size
 replace hV := Z0 hV hE1
 replace ha := ha0 _ hV
 replace hb := hb0 _ hV
 refine Zo mvU ?_
 refine Zo (run_extract (v := vp1) rfl η η) ?_
 refine Zo (run_extract (v := vq1) rfl η η) ?_
 refine Zo (run_extract (v := .bool _) rfl η η) ?_
 refine Zo (run_asg (v := vp1) rfl η) ?_
 refine Zo (run_asg (v := vq1) rfl η) ?_
 refine Zn asB ?_
 refine Zs ?_
 refine Zo mvS ?_
 refine Zr [.slice _ _ _] rfl η Tryz.func23 (shape_calls hb (by first | assumption | exact MF.small (by assumption) | exact kf_small | exact small_take (by assumption) _)) ?_
 rintro e w2 ⟨vp2, vq2, rfl, hE2, hop2, hoq2⟩
 refine ⟨_, rfl, ?_⟩
 have Q2 := hE2.size
 replace hV := Z0 hV hE2
 replace hop1 := hop1.evo0 hE2
 replace hoq1 := hoq1.evo0 hE2
 refine Zo mvU ?_
 refine Zo (run_extract (v := vp2) rfl η η) ?_
 refine Zo (run_extract (v := vq2) rfl η η) ?_
 refine Zo (run_extract (v := .bool _) rfl η η) ?_
 refine Zo (run_asg (v := vp2) rfl η) ?_
 refine Zo (run_asg (v := vq2) rfl η) ?_
 refine Zn asB ?_
 refine r_seq ?_
 refine Zs ?_
 refine Zo (run_mvb rfl η) ?_
 refine Zo (run_not rfl η) ?_
 refine Zo mvB ?_
 refine r_g rfl (wantF η) rfl (fun hg => run_mvb rfl η) ?_
 refine r_g rfl (wantF η) rfl (fun hg => run_not rfl (glv η (fun h => h) hg)) ?_
 refine Zo (run_pick_or rfl η rfl (fun hq => glv η (fun h => h) hq)) ?_
 refine Zo mvB ?_
 refine r_g rfl (wantF η) rfl (fun hg => run_mv (v := vp1) rfl η) ?_
 refine r_g rfl (wantF η) rfl (fun hg => run_mv (v := vp2) rfl η) ?_
 obtain ⟨ao3, g3, cp3, hv3, hr3, hg3⟩ := hop1.rowOf
 subst hv3
 obtain ⟨ao4, g4, cp4, hv4, hr4, hg4⟩ := hop2.rowOf
 subst hv4
 refine r_gcall rfl (wantF η) rfl (fun hg => run_callf rfl (argcons (v := .slice _ _ _) (glv η (fun h => h) hg) (argcons (v := .slice _ _ _) (glv η (fun h => h) hg) (rfl))) Tryz.func45 rfl ζ) (fun hg => (sleqi_calls hr3 hr4).mono (fun e w' h => ⟨h.1, h.2⟩)) (fun w5 hE6 => ?_)
 have Q5 := hE6.size
 replace hV := Z0 hV hE6
 replace hop1 := hop1.evo0 hE6
 replace hoq1 := hoq1.evo0 hE6
 replace hop2 := hop2.evo0 hE6
 replace hoq2 := hoq2.evo0 hE6
 replace hr3 := hr3.evo0 hE6
 replace hr4 := hr4.evo0 hE6
 refine r_g rfl (wantF η) rfl (fun hg => run_not rfl (glv η (fun h => h) hg)) ?_
 refine Zo (run_pick_or rfl η rfl (fun hq => glv η (fun h => h) hq)) ?_
 refine Zo mvB ?_
 refine r_g rfl (wantF η) rfl (fun hg => run_mv (v := vq1) rfl η) ?_
 refine r_g rfl (wantF η) rfl (fun hg => run_mv (v := vq2) rfl η) ?_
 obtain ⟨ao7, g7, cp7, hv7, hr7, hg7⟩ := hoq1.rowOf
 subst hv7
 obtain ⟨ao8, g8, cp8, hv8, hr8, hg8⟩ := hoq2.rowOf
 subst hv8
 refine r_gcall rfl (wantF η) rfl (fun hg => run_callf rfl (argcons (v := .slice _ _ _) (glv η (fun h => h) hg) (argcons (v := .slice _ _ _) (glv η (fun h => h) hg) (rfl))) Tryz.func45 rfl ζ) (fun hg => (sleqi_calls hr7 hr8).mono (fun e w' h => ⟨h.1, h.2⟩)) (fun w9 hE10 => ?_)
 have Q9 := hE10.size
 replace hV := Z0 hV hE10
 replace hop1 := hop1.evo0 hE10
 replace hoq1 := hoq1.evo0 hE10
 replace hop2 := hop2.evo0 hE10
 replace hoq2 := hoq2.evo0 hE10
 replace hr3 := hr3.evo0 hE10
 replace hr4 := hr4.evo0 hE10
 replace hr7 := hr7.evo0 hE10
 replace hr8 := hr8.evo0 hE10
 refine r_g rfl (wantF η) rfl (fun hg => run_not rfl (glv η (fun h => h) hg)) ?_
 refine Zn (run_pick_or rfl η rfl (fun hq => glv η (fun h => h) hq)) ?_
 refine r_cond η (fun hc11 => ?_) (fun hc11 => ?_)
 ·skip
  refine Zs ?_
  refine Zn asB ?_
  refine r_ret (res1 (v := .bool _) rfl η) ?_
  exact ⟨by rw [cno hc11], hV⟩
 refine r_skip ?_
 refine Zs ?_
 refine r_makeMap (α := Vc.Item) (β := Int) (fun x : Vc.Item => Value.agg (Enc.enc x).toArray) (Value.int .i64) rfl ?_
 intro b12 w13 J12 E13 hmb12 Y12
 have Q13 := E13.size
 replace hV := Z0 hV E13
 replace ha := ha0 _ hV
 replace hb := hb0 _ hV
 replace hop1 := hop1.evo0 E13
 replace hoq1 := hoq1.evo0 E13
 replace hop2 := hop2.evo0 E13
 replace hoq2 := hoq2.evo0 E13
 replace hr3 := hr3.evo0 E13
 replace hr4 := hr4.evo0 E13
 replace hr7 := hr7.evo0 E13
 replace hr8 := hr8.evo0 E13
 refine Zn asM ?_
 refine r_seq ?_
 refine Zs ?_
 refine Zo mvS ?_
 refine Zr [.slice _ _ _] rfl η Tryz.func46 (tags_calls ha (by first | assumption | exact MF.small (by assumption) | exact kf_small | exact small_take (by assumption) _)) ?_
 rintro e w14 ⟨vn14, rfl, hE14, hon14⟩
 refine ⟨_, rfl, ?_⟩
 have Q14 := hE14.size
 replace hV := Z0 hV hE14
 replace ha := ha0 _ hV
 replace hb := hb0 _ hV
 replace hop1 := hop1.evo0 hE14
 replace hoq1 := hoq1.evo0 hE14
 replace hop2 := hop2.evo0 hE14
 replace hoq2 := hoq2.evo0 hE14
 replace hr3 := hr3.evo0 hE14
 replace hr4 := hr4.evo0 hE14
 replace hr7 := hr7.evo0 hE14
 replace hr8 := hr8.evo0 hE14
 replace hmb12 := hmb12.evo0 hE14
 refine Zo (run_lenOE rfl η Tryz.underlying33 hon14) ?_
 refine Zn mvI ?_
 refine r_block ?_
 have hI15 : Evo w14 w14 [b12] := Evo.refl _ _
 obtain ⟨ao16, g16, cp16, hv16, hr16, hg16⟩ := hon14.rowOf
 subst hv16
 have hr160 := fun w9 (h9 : Evo w14 w9 [b12]) => row_keep hr16 h9 (fun hne hm => by have h2 := (hg16 hne).2; simp at hm; omega)
 refine r_loop (α := Nat) [13, 52, 53, 54, 55, 56, 57, 58, 59, 60, 61, 62] (fun k g w => ∃ m : List (Vc.Item × Int), g 52 = .int .i64 (k : Nat) ∧ k ≤ (tagsL a).length ∧ MapIs w b12 (fun x : Vc.Item => Value.agg (Enc.enc x).toArray) (Value.int .i64) m ∧ (∀ x, (getM m x).getD 0 = ((((tagsL a).take k).count x : Nat) : Int)) ∧ w14.heap.size ≤ w.heap.size ∧ Evo w0 w [] ∧ Evo w14 w [b12]) (fun k => (tagsL a).length - k) 0 ?_ ?_
 ·refine ⟨_, σ, δ, hmb12, (fun x => by first | rfl | (have h9 := hmm x; rw [List.take_of_length_le ω] at h9; rw [h9]; try simp)), δ, hV, hI15⟩
 rintro k g w18 ⟨m, hj19, hk_k, hmb12, hmm, hzl17, hV, hI15⟩
 have hs_w18hV := hV.size
 have hs_w18hI15 := hI15.size
 have hlt20 := hmb12.lt
 replace ha := ha0 _ hV
 replace hb := hb0 _ hV
 replace hr16 := hr160 _ hI15
 refine Zk 52 (v := .int .i64 (k : Nat)) (by exact hj19) ?_
 refine Zs ?_
 refine Zn (run_lss rfl η η) ?_
 refine r_seq ?_
 refine r_cond η (fun hc21 => ?_) (fun hc21 => ?_)
 ·skip
  refine r_skip ?_
  refine r_seq ?_
  refine r_block ?_
  refine Zs ?_
  refine Zo (run_ix (k) rfl Tryz.underlying33 ty_32 η η (by first | exact rfl | omega) ω (hr16.addr (i := k) ω)) ?_
  have hA220 := fun (w' : World) (h : Evo w14 w' [b12]) => (hr160 w' h).atD (k) ω
  have hA22 := hA220 _ hI15
  refine Zo (run_ldN rfl ag_32 ty_32 η rfl hA22) ?_
  refine r_var (zs := [_, _, _]) (vs := [_, _, _]) ty_32 η rfl η (fun _ => rfl) η rfl rfl η ?_
  intro b23 w24 J23 E24 B23 Y23
  have Q24 := E24.size
  replace hV := Z0 hV E24
  replace hI15 := Z0 hI15 E24
  replace hmb12 := hmb12.evo0 E24
  refine r_nil ?_
  have hA9 := hmm ((tagsL a).getD k default); have hB9 : (getM (setM m ((tagsL a).getD k default) ((getM m ((tagsL a).getD k default)).getD 0)) ((tagsL a).getD k default)).getD 0 = (getM m ((tagsL a).getD k default)).getD 0 := by rw [getM_setM, if_pos rfl]; rfl
  have hl9 := List.count_le_length (a := ((tagsL a).getD k default)) (l := (tagsL a).take k); have hm9 : ((tagsL a).take k).length ≤ (tagsL a).length := List.length_take_le' _ _; have hn9 := List.count_le_length (a := ((tagsL a).getD k default)) (l := (tagsL a))
  have hl9 := List.count_le_length (a := ((tagsL a).getD k default)) (l := (tagsL b).take k); have hm9 : ((tagsL b).take k).length ≤ (tagsL b).length := List.length_take_le' _ _; have hn9 := List.count_le_length (a := ((tagsL a).getD k default)) (l := (tagsL b))
  refine r_cut [56, 57, 58, 59, 60, 61] (fun g w => ∃ m2 : List (Vc.Item × Int), MapIs w b12 (fun x : Vc.Item => Value.agg (Enc.enc x).toArray) (Value.int .i64) m2 ∧ (∀ x, (getM m2 x).getD 0 = ((((tagsL a).take k).count x : Nat) : Int) + if ((tagsL a).getD k default) = x then 1 else 0) ∧ w24.heap.size ≤ w.heap.size ∧ Evo w0 w [] ∧ Evo w14 w [b12]) ?_ ?_
  ·skip
   have hmb12_q := hmb12
   have hbb23_q := B23
   have hAb23_q := B23.at
   have hV_q := hV
   have hI15_q := hI15
   refine h_region ([b12]) ζ ?_
   intro w26 hE27 hC28
   have Q26 := hE27.size
   replace hV := Z0 hV hE27
   replace hI15 := Z0 hI15 hE27
   replace hmb12 := hmb12.evo0 hE27
   replace B23 := B23.evo0 hE27
   refine Zt (i := 0) η (fun w' hC => mvM) hC28 ?_
   refine Zt (i := 1) η (fun w' hC => run_ldN rfl ag_32 ty_32 η rfl (hAb23_q.evo hC θ)) hC28 ?_
   refine h_two (i := 2) (j := 4) ζ ?_ ?_
   ·skip
    refine h_do η ?_
    refine Zo (run_lookup1 (a := ((tagsL a).getD k default)) (z := 0) (v := .int _ _) kitem rfl Tryz.underlying74 ty_3 η η hmb12 rfl) ?_
    refine h_next hC28 ?_
    refine Zt (i := 3) η (fun w' hC => run_add rfl η η ω ω) hC28 ?_
    refine Zh (i := 4) ?_
    refine r_mapEntry (a := ((tagsL a).getD k default)) (z := 0) kitem rfl Tryz.underlying74 ty_3 η η hmb12 ?_
    intro s29 w29 hE29 V29 hm_new hst29
    have Q29 := hE29.size
    replace hV := Z1 hV hE29 ε
    replace hI15 := Z1 hI15 hE29 ε
    replace hC28 := Z1 hC28 hE29 ε
    replace hmb12 := hm_new
    clear hm_new
    refine h_next hC28 ?_
    refine Zt (i := 5) η (fun w' hC => run_extract (v := .int _ _) rfl η η) hC28 ?_
    refine Zh (i := 6) ?_
    refine r_entryStore (a := ((tagsL a).getD k default)) kitem η η η hmb12 hst29 ?_
    intro w30 hE30 V30 hm_new
    have Q30 := hE30.size
    replace hV := Z1 hV hE30 ε
    replace hI15 := Z1 hI15 hE30 ε
    replace ha := ha0 _ hV
    replace hb := hb0 _ hV
    replace hr16 := hr160 _ hI15
    replace hmb12 := hm_new
    clear hm_new
    refine h_last ζ ?_
    refine h_done ζ ?_
    refine r_cut_end ?_ ?_
    ·refine ⟨_, hmb12, (by first | exact bump_first hmm (1) | exact bump_then hmm (1)), δ, hV, hI15⟩
    exact ψ
   refine h_do η ?_
   refine r_mapEntry (a := ((tagsL a).getD k default)) (z := 0) kitem rfl Tryz.underlying74 ty_3 η η hmb12 ?_
   intro s31 w31 hE31 V31 hm_new hst31
   have Q31 := hE31.size
   replace hV := Z1 hV hE31 ε
   replace hI15 := Z1 hI15 hE31 ε
   replace hC28 := Z1 hC28 hE31 ε
   replace B23 := B23.evo hE31 θ
   replace hmb12 := hm_new
   clear hm_new
   refine h_next hC28 ?_
   refine Zt (i := 5) η (fun w' hC => run_extract (v := .int _ _) rfl η η) hC28 ?_
   refine Zh (i := 2) ?_
   refine Zo (run_lookup1 (a := ((tagsL a).getD k default)) (z := 0) (v := .int _ _) kitem rfl Tryz.underlying74 ty_3 η η hmb12 rfl) ?_
   refine h_next hC28 ?_
   refine Zt (i := 3) η (fun w' hC => run_add rfl η η ω ω) hC28 ?_
   refine Zh (i := 6) ?_
   refine r_entryStore (a := ((tagsL a).getD k default)) kitem η η η hmb12 hst31 ?_
   intro w32 hE32 V32 hm_new
   have Q32 := hE32.size
   replace hV := Z1 hV hE32 ε
   replace hI15 := Z1 hI15 hE32 ε
   replace ha := ha0 _ hV
   replace hb := hb0 _ hV
   replace hr16 := hr160 _ hI15
   replace hmb12 := hm_new
   clear hm_new
   refine h_last ζ ?_
   refine h_done ζ ?_
   refine r_cut_end ?_ ?_
   ·refine ⟨_, hmb12, (by first | exact bump_first hmm (1) | exact bump_then hmm (1)), δ, hV, hI15⟩
   exact ψ
  rintro g w33 ⟨m2, hmb12, hm2, hzl25, hV, hI15⟩
  have hs_w33hV := hV.size
  have hs_w33hI15 := hI15.size
  have hlt34 := hmb12.lt
  replace ha := ha0 _ hV
  replace hb := hb0 _ hV
  replace hr16 := hr160 _ hI15
  replace hA22 := hA220 _ hI15
  refine r_blk ?_
  refine r_region ?_
  refine Zo (run_add rfl η η ω ω) ?_
  refine Zn mvI ?_
  refine r_again (k + 1) ?_ ?_ ?_
  ·first | omega | (dsimp only; omega)
  ·refine ⟨_, σ, δ, hmb12, (fun x => by have h9 := hm2 x; have h8 := cnt_succ (tagsL a) k ω x; rw [h9, h8]; first | done | (split <;> omega)), δ, hV, hI15⟩
  exact ψ
 refine r_exit rfl ?_
 refine r_seq ?_
 refine Zs ?_
 refine Zo mvS ?_
 refine Zr [.slice _ _ _] rfl η Tryz.func46 (tags_calls hb (by first | assumption | exact MF.small (by assumption) | exact kf_small | exact small_take (by assumption) _)) ?_
 rintro e w35 ⟨vn35, rfl, hE35, hon35⟩
 refine ⟨_, rfl, ?_⟩
 have Q35 := hE35.size
 replace hV := Z0 hV hE35
 replace hI15 := Z0 hI15 hE35
 replace ha := ha0 _ hV
 replace hb := hb0 _ hV
 replace hr16 := hr160 _ hI15
 replace hmb12 := hmb12.evo0 hE35
 refine Zo (run_lenOE rfl η Tryz.underlying33 hon35) ?_
 refine Zn mvI ?_
 refine r_block ?_
 have hI36 : Evo w35 w35 [b12] := Evo.refl _ _
 obtain ⟨ao37, g37, cp37, hv37, hr37, hg37⟩ := hon35.rowOf
 subst hv37
 have hr370 := fun w9 (h9 : Evo w35 w9 [b12]) => row_keep hr37 h9 (fun hne hm => by have h2 := (hg37 hne).2; simp at hm; omega)
 refine r_loop (α := Nat) [15, 66, 67, 68, 69, 70, 71, 72, 73, 74, 75, 76] (fun k g w => ∃ m : List (Vc.Item × Int), g 66 = .int .i64 (k : Nat) ∧ k ≤ (tagsL b).length ∧ MapIs w b12 (fun x : Vc.Item => Value.agg (Enc.enc x).toArray) (Value.int .i64) m ∧ (∀ x, (getM m x).getD 0 = (((tagsL a).count x : Nat) : Int) - (((tagsL b).take k).count x : Nat)) ∧ w35.heap.size ≤ w.heap.size ∧ Evo w0 w [] ∧ Evo w14 w [b12] ∧ Evo w35 w [b12]) (fun k => (tagsL b).length - k) 0 ?_ ?_
 ·refine ⟨_, σ, δ, hmb12, (fun x => by first | rfl | (have h9 := hmm x; rw [List.take_of_length_le ω] at h9; rw [h9]; try simp)), δ, hV, hI15, hI36⟩
 rintro k g w39 ⟨m, hj40, hk_k, hmb12, hmm, hzl38, hV, hI15, hI36⟩
 have hs_w39hV := hV.size
 have hs_w39hI15 := hI15.size
 have hs_w39hI36 := hI36.size
 have hlt41 := hmb12.lt
 replace hr37 := hr370 _ hI36
 refine Zk 66 (v := .int .i64 (k : Nat)) (by exact hj40) ?_
 refine Zs ?_
 refine Zn (run_lss rfl η η) ?_
 refine r_seq ?_
 refine r_cond η (fun hc42 => ?_) (fun hc42 => ?_)
 ·skip
  refine r_skip ?_
  refine r_seq ?_
  refine r_block ?_
  refine Zs ?_
  refine Zo (run_ix (k) rfl Tryz.underlying33 ty_32 η η (by first | exact rfl | omega) ω (hr37.addr (i := k) ω)) ?_
  have hA430 := fun (w' : World) (h : Evo w35 w' [b12]) => (hr370 w' h).atD (k) ω
  have hA43 := hA430 _ hI36
  refine Zo (run_ldN rfl ag_32 ty_32 η rfl hA43) ?_
  refine r_var (zs := [_, _, _]) (vs := [_, _, _]) ty_32 η rfl η (fun _ => rfl) η rfl rfl η ?_
  intro b44 w45 J44 E45 B44 Y44
  have Q45 := E45.size
  replace hV := Z0 hV E45
  replace hI15 := Z0 hI15 E45
  replace hI36 := Z0 hI36 E45
  replace hmb12 := hmb12.evo0 E45
  refine r_nil ?_
  have hA9 := hmm ((tagsL b).getD k default); have hB9 : (getM (setM m ((tagsL b).getD k default) ((getM m ((tagsL b).getD k default)).getD 0)) ((tagsL b).getD k default)).getD 0 = (getM m ((tagsL b).getD k default)).getD 0 := by rw [getM_setM, if_pos rfl]; rfl
  have hl9 := List.count_le_length (a := ((tagsL b).getD k default)) (l := (tagsL a).take k); have hm9 : ((tagsL a).take k).length ≤ (tagsL a).length := List.length_take_le' _ _; have hn9 := List.count_le_length (a := ((tagsL b).getD k default)) (l := (tagsL a))
  have hl9 := List.count_le_length (a := ((tagsL b).getD k default)) (l := (tagsL b).take k); have hm9 : ((tagsL b).take k).length ≤ (tagsL b).length := List.length_take_le' _ _; have hn9 := List.count_le_length (a := ((tagsL b).getD k default)) (l := (tagsL b))
  refine r_cut [70, 71, 72, 73, 74, 75] (fun g w => ∃ m2 : List (Vc.Item × Int), MapIs w b12 (fun x : Vc.Item => Value.agg (Enc.enc x).toArray) (Value.int .i64) m2 ∧ (∀ x, (getM m2 x).getD 0 = (((tagsL a).count x : Nat) : Int) - (((tagsL b).take k).count x : Nat) + if ((tagsL b).getD k default) = x then -1 else 0) ∧ w45.heap.size ≤ w.heap.size ∧ Evo w0 w [] ∧ Evo w14 w [b12] ∧ Evo w35 w [b12]) ?_ ?_
  ·skip
   have hmb12_q := hmb12
   have hbb44_q := B44
   have hAb44_q := B44.at
   have hV_q := hV
   have hI15_q := hI15
   have hI36_q := hI36
   refine h_region ([b12]) ζ ?_
   intro w47 hE48 hC49
   have Q47 := hE48.size
   replace hV := Z0 hV hE48
   replace hI15 := Z0 hI15 hE48
   replace hI36 := Z0 hI36 hE48
   replace hmb12 := hmb12.evo0 hE48
   replace B44 := B44.evo0 hE48
   refine Zt (i := 0) η (fun w' hC => mvM) hC49 ?_
   refine Zt (i := 1) η (fun w' hC => run_ldN rfl ag_32 ty_32 η rfl (hAb44_q.evo hC θ)) hC49 ?_
   refine h_two (i := 2) (j := 4) ζ ?_ ?_
   ·skip
    refine h_do η ?_
    refine Zo (run_lookup1 (a := ((tagsL b).getD k default)) (z := 0) (v := .int _ _) kitem rfl Tryz.underlying74 ty_3 η η hmb12 rfl) ?_
    refine h_next hC49 ?_
    refine Zt (i := 3) η (fun w' hC => run_sub rfl η η ω ω) hC49 ?_
    refine Zh (i := 4) ?_
    refine r_mapEntry (a := ((tagsL b).getD k default)) (z := 0) kitem rfl Tryz.underlying74 ty_3 η η hmb12 ?_
    intro s50 w50 hE50 V50 hm_new hst50
    have Q50 := hE50.size
    replace hV := Z1 hV hE50 ε
    replace hI15 := Z1 hI15 hE50 ε
    replace hI36 := Z1 hI36 hE50 ε
    replace hC49 := Z1 hC49 hE50 ε
    replace hmb12 := hm_new
    clear hm_new
    refine h_next hC49 ?_
    refine Zt (i := 5) η (fun w' hC => run_extract (v := .int _ _) rfl η η) hC49 ?_
    refine Zh (i := 6) ?_
    refine r_entryStore (a := ((tagsL b).getD k default)) kitem η η η hmb12 hst50 ?_
    intro w51 hE51 V51 hm_new
    have Q51 := hE51.size
    replace hV := Z1 hV hE51 ε
    replace hI15 := Z1 hI15 hE51 ε
    replace hI36 := Z1 hI36 hE51 ε
    replace ha := ha0 _ hV
    replace hb := hb0 _ hV
    replace hr16 := hr160 _ hI15
    replace hr37 := hr370 _ hI36
    replace hmb12 := hm_new
    clear hm_new
    refine h_last ζ ?_
    refine h_done ζ ?_
    refine r_cut_end ?_ ?_
    ·refine ⟨_, hmb12, (by first | exact bump_first hmm (-1) | exact bump_then hmm (-1)), δ, hV, hI15, hI36⟩
    exact ψ
   refine h_do η ?_
   refine r_mapEntry (a := ((tagsL b).getD k default)) (z := 0) kitem rfl Tryz.underlying74 ty_3 η η hmb12 ?_
   intro s52 w52 hE52 V52 hm_new hst52
   have Q52 := hE52.size
   replace hV := Z1 hV hE52 ε
   replace hI15 := Z1 hI15 hE52 ε
   replace hI36 := Z1 hI36 hE52 ε
   replace hC49 := Z1 hC49 hE52 ε
   replace B44 := B44.evo hE52 θ
   replace hmb12 := hm_new
   clear hm_new
   refine h_next hC49 ?_
   refine Zt (i := 5) η (fun w' hC => run_extract (v := .int _ _) rfl η η) hC49 ?_
   refine Zh (i := 2) ?_
   refine Zo (run_lookup1 (a := ((tagsL b).getD k default)) (z := 0) (v := .int _ _) kitem rfl Tryz.underlying74 ty_3 η η hmb12 rfl) ?_
   refine h_next hC49 ?_
   refine Zt (i := 3) η (fun w' hC => run_sub rfl η η ω ω) hC49 ?_
   refine Zh (i := 6) ?_
   refine r_entryStore (a := ((tagsL b).getD k default)) kitem η η η hmb12 hst52 ?_
   intro w53 hE53 V53 hm_new
   have Q53 := hE53.size
   replace hV := Z1 hV hE53 ε
   replace hI15 := Z1 hI15 hE53 ε
   replace hI36 := Z1 hI36 hE53 ε
   replace ha := ha0 _ hV
   replace hb := hb0 _ hV
   replace hr16 := hr160 _ hI15
   replace hr37 := hr370 _ hI36
   replace hmb12 := hm_new
   clear hm_new
   refine h_last ζ ?_
   refine h_done ζ ?_
   refine r_cut_end ?_ ?_
   ·refine ⟨_, hmb12, (by first | exact bump_first hmm (-1) | exact bump_then hmm (-1)), δ, hV, hI15, hI36⟩
   exact ψ
  rintro g w54 ⟨m2, hmb12, hm2, hzl46, hV, hI15, hI36⟩
  have hs_w54hV := hV.size
  have hs_w54hI15 := hI15.size
  have hs_w54hI36 := hI36.size
  have hlt55 := hmb12.lt
  replace ha := ha0 _ hV
  replace hb := hb0 _ hV
  replace hr16 := hr160 _ hI15
  replace hr37 := hr370 _ hI36
  replace hA43 := hA430 _ hI36
  refine r_blk ?_
  refine r_region ?_
  refine Zo (run_add rfl η η ω ω) ?_
  refine Zn mvI ?_
  refine r_again (k + 1) ?_ ?_ ?_
  ·first | omega | (dsimp only; omega)
  ·refine ⟨_, σ, δ, hmb12, (fun x => by have h9 := hm2 x; have h8 := cnt_succ (tagsL b) k ω x; rw [h9, h8]; first | done | (split <;> omega)), δ, hV, hI15, hI36⟩
  exact ψ
 refine r_exit rfl ?_
 refine r_seq ?_
 refine r_seq ?_
 have hmf : ∀ x, (getM m x).getD 0 = (((tagsL a).count x : Nat) : Int) - ((tagsL b).count x : Nat) := fun x => by have h9 := hmm x; rw [List.take_of_length_le ω] at h9; exact h9
 refine r_region ?_
 refine Zo mvM ?_
 refine r_range rfl Tryz.underlying74 η hmb12 ?_
 intro r56 w57 her56 E57 hir56 hzr56
 have Q57 := E57.size
 replace hV := Z0 hV E57
 replace hI15 := Z0 hI15 E57
 replace hI36 := Z0 hI36 E57
 replace ha := ha0 _ hV
 replace hb := hb0 _ hV
 replace hr16 := hr160 _ hI15
 replace hr37 := hr370 _ hI36
 replace hmb12 := hmb12.evo0 E57
 refine r_nil ?_
 refine r_block ?_
 refine r_loop (α := List (Vc.Item × Int)) [4, 17, 79, 80, 81, 82, 83, 84] (fun left g w => ∃ la : Option (Vc.Item × Int), IterIs w r56 b12 (fun x : Vc.Item => Value.agg (Enc.enc x).toArray) (Value.int .i64) m left la ∧ (∀ p ∈ left, p ∈ m) ∧ (∀ p ∈ m, p.2 = 0 ∨ p ∈ left) ∧ w0.heap.size ≤ r56 ∧ w57.heap.size ≤ w.heap.size ∧ Evo w0 w [] ∧ Evo w14 w [b12] ∧ Evo w35 w [b12]) (fun left => left.length) m ?_ ?_
 ·refine ⟨_, hir56, (fun p h => h), (fun p h => .inr h), δ, δ, hV, hI15, hI36⟩
 rintro left g w59 ⟨la, hir56, hin, hzz, hrl, hzl58, hV, hI15, hI36⟩
 have hs_w59hV := hV.size
 have hs_w59hI15 := hI15.size
 have hs_w59hI36 := hI36.size
 replace ha := ha0 _ hV
 replace hb := hb0 _ hV
 replace hr16 := hr160 _ hI15
 replace hr37 := hr370 _ hI36
 refine Zs ?_
 refine r_next rfl η hir56 (fun hn60 => ?_) (fun l1_60 p60 l2_60 w60 hl60 hE60 hz60 hi_new => ?_)
 ·skip
  subst hn60
  refine Zn (run_extract (v := .bool _) rfl η η) ?_
  refine r_seq ?_
  refine r_cond_no η ?_
  refine r_exit rfl ?_
  refine Zs ?_
  refine Zo mvS ?_
  refine Zr [.slice _ _ _] rfl η Tryz.func48 (slots_calls ha (by first | assumption | exact MF.small (by assumption) | exact kf_small | exact small_take (by assumption) _)) ?_
  rintro e w61 ⟨vn61, rfl, hE61, hon61⟩
  refine ⟨_, rfl, ?_⟩
  have Q61 := hE61.size
  replace hV := Z0 hV hE61
  replace hI15 := Z0 hI15 hE61
  replace hI36 := Z0 hI36 hE61
  replace ha := ha0 _ hV
  replace hb := hb0 _ hV
  replace hr16 := hr160 _ hI15
  replace hr37 := hr370 _ hI36
  replace hir56 := hir56.evo0 hE61
  refine Zo mvS ?_
  refine Zr [.slice _ _ _] rfl η Tryz.func48 (slots_calls hb (by first | assumption | exact MF.small (by assumption) | exact kf_small | exact small_take (by assumption) _)) ?_
  rintro e w62 ⟨vn62, rfl, hE62, hon62⟩
  refine ⟨_, rfl, ?_⟩
  have Q62 := hE62.size
  replace hV := Z0 hV hE62
  replace hI15 := Z0 hI15 hE62
  replace hI36 := Z0 hI36 hE62
  replace hir56 := hir56.evo0 hE62
  replace hon61 := hon61.evo0 hE62
  obtain ⟨ao63, g63, cp63, hv63, hr63, hg63⟩ := hon61.rowOf
  subst hv63
  obtain ⟨ao64, g64, cp64, hv64, hr64, hg64⟩ := hon62.rowOf
  subst hv64
  refine Zr [.slice _ _ _, .slice _ _ _] rfl η Tryz.func47 (sleqs_calls hr63 hr64) ?_
  rintro e w65 ⟨rfl, hE65⟩
  refine ⟨_, rfl, ?_⟩
  have Q65 := hE65.size
  replace hV := Z0 hV hE65
  replace hI15 := Z0 hI15 hE65
  replace hI36 := Z0 hI36 hE65
  replace ha := ha0 _ hV
  replace hb := hb0 _ hV
  replace hr16 := hr160 _ hI15
  replace hr37 := hr370 _ hI36
  replace hir56 := hir56.evo0 hE65
  replace hon61 := hon61.evo0 hE65
  replace hon62 := hon62.evo0 hE65
  replace hr63 := hr63.evo0 hE65
  replace hr64 := hr64.evo0 hE65
  refine Zn asB ?_
  refine r_ret (res1 (v := .bool _) rfl η) ?_
  exact ⟨ret_bool (cyes (by assumption) (perm_counts (fun x => by rw [← hmf x]; exact getM_zero (fun p hp => (hzz p hp).elim id (fun h9 => by cases h9)) x))).symm, hV⟩
 have Q60 := hE60.size
 replace hV := Z1 hV hE60 ε
 replace hI15 := Z1 hI15 hE60 ε
 replace hI36 := Z1 hI36 hE60 ε
 replace ha := ha0 _ hV
 replace hb := hb0 _ hV
 replace hr16 := hr160 _ hI15
 replace hr37 := hr370 _ hI36
 replace hir56 := hi_new
 clear hi_new
 refine Zn (run_extract (v := .bool _) rfl η η) ?_
 refine r_seq ?_
 refine r_cond_yes η ?_
 refine r_skip ?_
 refine r_block ?_
 refine Zs ?_
 refine Zo (run_entryI rfl η hir56) ?_
 refine Zo (run_extract (v := .int _ _) rfl η η) ?_
 refine Zn asI ?_
 refine Zs ?_
 refine Zo mvI ?_
 refine Zn (run_neq rfl η η) ?_
 refine r_cond η (fun hc66 => ?_) (fun hc66 => ?_)
 ·skip
  refine Zs ?_
  refine Zn asB ?_
  refine r_ret (res1 (v := .bool _) rfl η) ?_
  exact ⟨by rw [compat_noC (x := p60.1) (by have h9 := hmf p60.1; rw [getM_of_mem hir56.map.nodup (hin p60 (by rw [hl60]; simp))] at h9; intro h8; exact hc66 (by simp at h9; omega))], hV⟩
 refine r_skip ?_
 refine r_blk ?_
 refine r_again (l1_60 ++ l2_60) ?_ ?_ ?_
 ·rw [hl60]; simp
 ·refine ⟨_, hir56, (fun q hq => hin q (by rw [hl60]; exact (List.mem_append.1 hq).elim (fun h9 => List.mem_append_left _ h9) (fun h9 => List.mem_append_right _ (List.mem_cons_of_mem _ h9)))), (fun q hq => (hzz q hq).elim .inl (fun h9 => by rw [hl60] at h9; exact (List.mem_append.1 h9).elim (fun h8 => .inr (List.mem_append_left _ h8)) (fun h8 => (List.mem_cons.1 h8).elim (fun h7 => .inl (by rw [h7]; exact Classical.not_not.1 hc66)) (fun h7 => .inr (List.mem_append_right _ h7))))), δ, δ, hV, hI15, hI36⟩
 exact ψ
end Go.Proofs.YtlfjocbnbceceaaGreatDoor
