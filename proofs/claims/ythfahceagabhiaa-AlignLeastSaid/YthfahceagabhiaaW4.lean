import Derived.Test.YthfahceagabhiaaW3
import Derived.Test.YthfahceagabhiaaPr
import Derived.Test.YthfahceagabhiaaArr
namespace Go.Proofs.Ythfahceagabhiaa
open Go.RowKit Go.Vc
theorem ag_50 : aggP Try.prog 50 = some true := by kernel_rfl
theorem ag_51 : aggP Try.prog 51 = some true := by kernel_rfl
theorem ag_85 : aggP Try.prog 85 = some false := by kernel_rfl
theorem pl_51 : placesP Try.prog 51 = some [(0, 2), (2, 2), (4, 2), (6, 2), (8, 2), (10, 2)] := by kernel_rfl
theorem ty_23 : tyP Try.prog 23 = some (1, 24, some (.slice none 0 0)) := by kernel_rfl
theorem ty_51 : tyP Try.prog 51 = some (12, 96, some (.agg #[(.int .i64 0), (.int .i64 0), (.int .i64 0), (.int .i64 0), (.int .i64 0), (.int .i64 0), (.int .i64 0), (.int .i64 0), (.int .i64 0), (.int .i64 0), (.int .i64 0), (.int .i64 0)])) := by kernel_rfl
theorem ty_85 : tyP Try.prog 85 = some (1, 24, some (.slice none 0 0)) := by kernel_rfl
theorem rcost2_calls {aoa aob : Option Addr} {ba offa capa bb offb capb : Nat} {a b : List Side} {w0 : World} (ha : RowR w0 aoa ba offa capa a) (hb : RowR w0 aob bb offb capb b) : Calls Try.prog 15 #[.slice aoa a.length capa, .slice aob b.length capb] w0 fun e w' => e = .returned (.tuple #[.int .i64 (ourCost a b).1, .bool (ourCost a b).2]) ∧ Evo w0 w' [] := by
  rw [cost_same]
  exact rcost_calls ha hb

theorem kinds_calls  {w0 : World}  :
    Calls Try.prog 37 #[] w0 fun e w' => e = .returned (.agg kindsV.toArray) ∧ Evo w0 w' [] := by
  refine calls_enter (n := 8) (args := []) Try.func37 rfl Try.ntmps37 rfl ?_
  have hV : Evo w0 w0 [] := Evo.refl _ _
  refine r_seq ?_
  refine r_region ?_
  refine r_alloc (zs := [_, _, _, _, _, _, _, _, _, _, _, _]) ty_51 (by exact rfl) rfl ?_
  intro b1 w2 heb1 hEw2 hbb1 hzb1
  have hs_w2 := (hEw2).size
  replace hV := evo_step0 hV hEw2
  have hAb1 := hbb1.at
  refine r_nil ?_
  refine r_seq ?_
  refine r_region ?_
  refine r_op rfl rfl rfl (run_bld (pv := [(0, .int _ _), (1, .int _ _)]) (zs := [_, _]) (cells := [_, _]) rfl ty_50 (by exact rfl) pl_50 (by exact rfl) (by exact rfl)) ?_
  refine r_op rfl rfl rfl (run_bld (pv := [(0, .int _ _), (1, .int _ _)]) (zs := [_, _]) (cells := [_, _]) rfl ty_50 (by exact rfl) pl_50 (by exact rfl) (by exact rfl)) ?_
  refine r_op rfl rfl rfl (run_bld (pv := [(0, .int _ _), (1, .int _ _)]) (zs := [_, _]) (cells := [_, _]) rfl ty_50 (by exact rfl) pl_50 (by exact rfl) (by exact rfl)) ?_
  refine r_op rfl rfl rfl (run_bld (pv := [(0, .int _ _), (1, .int _ _)]) (zs := [_, _]) (cells := [_, _]) rfl ty_50 (by exact rfl) pl_50 (by exact rfl) (by exact rfl)) ?_
  refine r_op rfl rfl rfl (run_bld (pv := [(0, .int _ _), (1, .int _ _)]) (zs := [_, _]) (cells := [_, _]) rfl ty_50 (by exact rfl) pl_50 (by exact rfl) (by exact rfl)) ?_
  refine r_op rfl rfl rfl (run_bld (pv := [(0, .int _ _), (1, .int _ _)]) (zs := [_, _]) (cells := [_, _]) rfl ty_50 (by exact rfl) pl_50 (by exact rfl) (by exact rfl)) ?_
  refine r_op rfl rfl rfl (run_bld (pv := [(0, .agg _), (1, .agg _), (2, .agg _), (3, .agg _), (4, .agg _), (5, .agg _)]) (zs := [_, _, _, _, _, _, _, _, _, _, _, _]) (cells := [_, _, _, _, _, _, _, _, _, _, _, _]) rfl ty_51 (by exact rfl) pl_51 (by exact rfl) (by exact rfl)) ?_
  refine r_store (v := .agg _) (vs := [_, _, _, _, _, _, _, _, _, _, _, _]) (cs' := [_, _, _, _, _, _, _, _, _, _, _, _]) (by exact rfl) (by exact rfl) hbb1 ty_51 (by exact rfl) rfl (by exact rfl) rfl (by exact rfl) ?_
  intro w3 hEw3 hzw3 hb_new
  have hs_w3 := (hEw3).size
  replace hV := evo_step1 hV hEw3 (by first | exact .inl (by omega) | exact .inr (by simp))
  replace hbb1 := hb_new
  have hAb1 := hbb1.at
  clear hb_new
  refine r_nil ?_
  refine r_ret (resC1 (cs := [_, _, _, _, _, _, _, _, _, _, _, _]) rfl ag_51 ty_51 (by exact rfl) rfl hAb1) ?_
  exact ⟨rfl, hV⟩

set_option maxRecDepth 4000 in
theorem ralign_calls {aoa aob : Option Addr} {ba offa capa bb offb capb : Nat} {a b : List Side} {w0 : World} (ha : RowR w0 aoa ba offa capa a) (hb : RowR w0 aob bb offb capb b) :
    Calls Try.prog 18 #[.slice aoa a.length capa, .slice aob b.length capb] w0 fun e w' => ∃ v, e = .returned (.tuple #[v, .int .i64 (alignL a b).2.1, .int .i64 (alignL a b).2.2]) ∧ Evo w0 w' [] ∧ OwnE w' w0.heap.size 41 v (alignL a b).1 := by
  refine calls_enter (n := 196) (args := [.slice aoa a.length capa, .slice aob b.length capb]) Try.func18 rfl Try.ntmps18 rfl ?_
  have hV : Evo w0 w0 [] := Evo.refl _ _
  have ha0 := ha.keep
  have hbd_ha := ha.bd
  have hb0 := hb.keep
  have hbd_hb := hb.bd
  refine r_seq ?_
  refine r_region ?_
  refine r_op rfl rfl rfl (run_asg (v := .slice _ _ _) rfl (by exact rfl)) ?_
  refine r_op rfl rfl rfl (run_asg (v := .int _ _) rfl (by exact rfl)) ?_
  refine r_op rfl rfl rfl (run_asg (v := .int _ _) rfl (by exact rfl)) ?_
  refine r_nil ?_
  refine r_seq ?_
  refine r_seq ?_
  refine r_region ?_
  refine r_op rfl rfl rfl (run_mv (v := .slice _ _ _) rfl (by exact rfl)) ?_
  refine r_op rfl rfl rfl (run_lenSl rfl (by exact rfl) Try.underlying22) ?_
  refine r_op rfl rfl rfl (run_gtr rfl (by exact rfl) (by exact rfl)) ?_
  refine r_op rfl rfl rfl (run_mv (v := .bool _) rfl (by exact rfl)) ?_
  refine r_g rfl (wantF (by exact rfl)) rfl (fun hg => run_mv (v := .slice _ _ _) rfl (by exact rfl)) ?_
  refine r_g rfl (wantF (by exact rfl)) rfl (fun hg => run_lenSl rfl (glv (by exact rfl) (fun h => h) hg) Try.underlying22) ?_
  refine r_g rfl (wantF (by exact rfl)) rfl (fun hg => run_gtr rfl (glv (by exact rfl) (fun h => h) hg) (by exact rfl)) ?_
  refine r_op rfl rfl rfl (run_pick_or rfl (by exact rfl) rfl (fun hq => glv (by exact rfl) (fun h => h) hq)) ?_
  refine r_nil ?_
  refine r_cond (by exact rfl) (fun hc1 => ?_) (fun hc1 => ?_)
  · skip
    refine r_seq ?_
    refine r_region ?_
    refine r_op rfl rfl rfl (run_asg (v := .slice _ _ _) rfl (by exact rfl)) ?_
    refine r_op rfl rfl rfl (run_asg (v := .int _ _) rfl (by exact rfl)) ?_
    refine r_op rfl rfl rfl (run_asg (v := .int _ _) rfl (by exact rfl)) ?_
    refine r_nil ?_
    refine r_ret (res3 (v := .slice _ _ _) (u := .int _ _) (x := .int _ _) rfl (by exact rfl) (by exact rfl) (by exact rfl)) ?_
    exact ⟨_, by rw [show alignL a b = _ from if_pos (by omega)], hV, by rw [show alignL a b = _ from if_pos (by omega)]; exact OwnE.nil _ _ _⟩
  · skip
    refine r_skip ?_
    refine r_seq ?_
    refine r_region ?_
    refine r_op rfl rfl rfl (run_mv (v := .slice _ _ _) rfl (by exact rfl)) ?_
    refine r_op rfl rfl rfl (run_lenSl rfl (by exact rfl) Try.underlying22) ?_
    refine r_op rfl rfl rfl (run_add rfl (by exact rfl) (by exact rfl) (by omega) (by omega)) ?_
    refine r_make (len := (a.length + 1)) (zs := [_]) Try.underlying83 ty_23 (by exact rfl) rfl rfl (by exact rfl) (by exact rfl) (by omega) (by omega) (by omega) (by omega) ?_
    intro btB w2 hebtB hEw2 houtB hzbtB
    have hs_w2 := (hEw2).size
    replace hV := evo_step0 hV hEw2
    replace ha := ha0.now hV
    replace hb := hb0.now hV
    refine r_op rfl rfl rfl (run_asg (v := .slice (some ⟨btB, 0, none⟩) _ _) rfl (by exact rfl)) ?_
    refine r_nil ?_
    refine r_seq ?_
    refine r_region ?_
    refine r_op rfl rfl rfl (run_mv (v := .slice _ _ _) rfl (by exact rfl)) ?_
    refine r_op rfl rfl rfl (run_lenSl rfl (by exact rfl) Try.underlying22) ?_
    refine r_op rfl rfl rfl (run_add rfl (by exact rfl) (by exact rfl) (by omega) (by omega)) ?_
    refine r_make (len := (a.length + 1)) (zs := [_]) Try.underlying84 ty_85 (by exact rfl) rfl rfl (by exact rfl) (by exact rfl) (by omega) (by omega) (by omega) (by omega) ?_
    intro btH w3 hebtH hEw3 houtH hzbtH
    have hs_w3 := (hEw3).size
    replace hV := evo_step0 hV hEw3
    replace ha := ha0.now hV
    replace hb := hb0.now hV
    replace houtB := houtB.evo0 hEw3
    refine r_op rfl rfl rfl (run_asg (v := .slice (some ⟨btH, 0, none⟩) _ _) rfl (by exact rfl)) ?_
    refine r_nil ?_
    refine r_seq ?_
    refine r_seq ?_
    refine r_region ?_
    refine r_op rfl rfl rfl (run_mv (v := .slice _ _ _) rfl (by exact rfl)) ?_
    refine r_op rfl rfl rfl (run_lenSl rfl (by exact rfl) Try.underlying22) ?_
    refine r_op rfl rfl rfl (run_asg (v := .int _ _) rfl (by exact rfl)) ?_
    refine r_nil ?_
    refine r_block ?_
    refine r_loop (α := Nat) [9, 10, 12, 13, 14, 37, 38, 39, 40, 41, 42, 43, 44, 45, 46, 47, 48, 49, 50, 51, 52, 53, 54, 55, 56, 57, 58, 59, 60, 61, 62, 63, 64, 65, 66, 67, 68, 69, 70, 71, 72, 73, 74, 75, 76, 77, 78, 79, 80, 81, 82, 83, 84, 85, 86, 87, 88, 89, 90, 91, 92, 93, 94, 95, 96, 97, 98, 99, 100, 101, 102, 103, 104, 105, 106, 107, 108, 109, 110, 111, 112, 113, 114, 115, 116, 117, 118, 119, 120, 121, 122, 123, 124, 125, 126, 127, 128, 129, 130, 131, 132, 133, 134, 135, 136, 137, 138, 139, 140, 141, 142, 143, 144, 145, 146, 147, 148] (fun k g w => ∃ rbB : Nat → Nat, ∃ rbH : Nat → Nat, g 9 = .int .i64 ((k : Int) - 1) ∧ k ≤ (a.length + 1) ∧ Tab w w0.heap.size btB 23 3 1 (a.length + 1) (b.length + 1) k rbB (tabGF gP a b) ∧ Tab w w0.heap.size btH 85 50 2 (a.length + 1) (b.length + 1) k rbH (tabGF gS a b) ∧ sepT k (a.length + 1) btB btH rbB rbH ∧ w3.heap.size ≤ w.heap.size ∧ Evo w0 w []) (fun k => k) (a.length + 1) ?_ ?_
    · refine ⟨(fun _ => 0), (fun _ => 0), (by first | exact rfl | exact congrArg (Value.int _) (by omega) | exact congrArg (Value.int _) (by dsimp only; omega) | exact congrArg (Value.int _) (by simp) | exact congrArg S (by simp)), (by first | assumption | omega | (dsimp only; omega) | (simp; done)), (Tab.new houtB (by omega) _ _), (Tab.new houtH (by omega) _ _), (fun x y h1 h2 => absurd h2 (by omega)), (by first | assumption | omega | (dsimp only; omega) | (simp; done)), hV⟩
    · rintro k g w5 ⟨rbB, rbH, hj6, hk, hTB, hTH, hsep, hzl4, hV⟩
      have hs_w5hV := hV.size
      replace ha := ha0.now hV
      replace hb := hb0.now hV
      refine r_know (i := 9) (v := .int .i64 ((k : Int) - 1)) (by exact hj6) ?_
      refine r_seq ?_
      refine r_seq ?_
      refine r_region ?_
      refine r_op rfl rfl rfl (run_mv (v := .int _ _) rfl (by exact rfl)) ?_
      refine r_op rfl rfl rfl (run_geq rfl (by exact rfl) (by exact rfl)) ?_
      refine r_nil ?_
      refine r_cond (by exact rfl) (fun hc7 => ?_) (fun hc7 => ?_)
      · skip
        refine r_skip ?_
        refine r_seq ?_
        refine r_block ?_
        refine r_seq ?_
        obtain ⟨i0, rfl⟩ : ∃ i0, k = i0 + 1 := ⟨k - 1, by omega⟩
        have hTB_old := hTB
        have hTH_old := hTH
        have hltB := hTB.lt
        have hltH := hTH.lt
        have hoB := hTB.old
        have hoH := hTH.old
        have hbB := hTB.base
        have hbH := hTH.base
        have houtB := hTB.out
        have houtH := hTH.out
        have hltB1 := hltB.1
        have hltH1 := hltH.1
        have hB7 : Evo w5 w5 [btB, btH] := Evo.refl _ _
        refine r_cut [41, 42, 43, 44, 45, 46, 47, 48, 49, 50, 51, 52, 53, 54] (fun g w => ∃ rbB1 : Nat → Nat, ∃ rbH1 : Nat → Nat, Tab w w0.heap.size btB 23 3 1 (a.length + 1) (b.length + 1) i0 rbB1 (tabG gP a b i0 (b.length + 1)) ∧ Tab w w0.heap.size btH 85 50 2 (a.length + 1) (b.length + 1) i0 rbH1 (tabG gS a b i0 (b.length + 1)) ∧ sepT i0 (a.length + 1) btB btH rbB1 rbH1 ∧ w5.heap.size ≤ w.heap.size ∧ Evo w0 w [] ∧ Evo w5 w [btB, btH]) ?_ ?_
        · skip
          have houtB_q := houtB
          have houtH_q := houtH
          have hV_q := hV
          have hB7_q := hB7
          refine h_region [btB, btH] (by kernel_rfl) ?_
          intro w9 hE10 hC11
          have hs_w9 := (hE10).size
          replace hV := evo_step0 hV hE10
          replace hB7 := evo_step0 hB7 hE10
          replace ha := ha0.now hV
          replace hb := hb0.now hV
          replace houtB := houtB.evo0 hE10
          replace houtH := houtH.evo0 hE10
          refine h_take (i := 0) (by exact rfl) rfl rfl rfl (by kernel_rfl) (fun w' hC => run_mv (v := .slice (some ⟨btB, 0, none⟩) _ _) rfl (by exact rfl)) hC11 ?_
          refine h_take (i := 1) (by exact rfl) rfl rfl rfl (by kernel_rfl) (fun w' hC => run_mv (v := .int _ _) rfl (by exact rfl)) hC11 ?_
          refine h_take (i := 2) (by exact rfl) rfl rfl rfl (by kernel_rfl) (fun w' hC => run_mv (v := .slice (some ⟨btH, 0, none⟩) _ _) rfl (by exact rfl)) hC11 ?_
          refine h_take (i := 3) (by exact rfl) rfl rfl rfl (by kernel_rfl) (fun w' hC => run_mv (v := .int _ _) rfl (by exact rfl)) hC11 ?_
          refine h_take (i := 4) (by exact rfl) rfl rfl rfl (by kernel_rfl) (fun w' hC => run_mv (v := .slice _ _ _) rfl (by exact rfl)) hC11 ?_
          refine h_take (i := 5) (by exact rfl) rfl rfl rfl (by kernel_rfl) (fun w' hC => run_lenSl rfl (by exact rfl) Try.underlying22) hC11 ?_
          refine h_take (i := 6) (by exact rfl) rfl rfl rfl (by kernel_rfl) (fun w' hC => run_add rfl (by exact rfl) (by exact rfl) (by omega) (by omega)) hC11 ?_
          refine h_take (i := 8) (by exact rfl) rfl rfl rfl (by kernel_rfl) (fun w' hC => run_mv (v := .slice _ _ _) rfl (by exact rfl)) hC11 ?_
          refine h_take (i := 9) (by exact rfl) rfl rfl rfl (by kernel_rfl) (fun w' hC => run_lenSl rfl (by exact rfl) Try.underlying22) hC11 ?_
          refine h_take (i := 10) (by exact rfl) rfl rfl rfl (by kernel_rfl) (fun w' hC => run_add rfl (by exact rfl) (by exact rfl) (by omega) (by omega)) hC11 ?_
          refine h_two (i := 7) (j := 11) (by kernel_rfl) ?_ ?_
          · skip
            refine h_do (by exact rfl) ?_
            refine r_make (len := (b.length + 1)) (zs := [_]) Try.underlying23 ty_3 (by exact rfl) rfl rfl (by exact rfl) (by exact rfl) (by omega) (by omega) (by omega) (by omega) ?_
            intro brB w12 hebrB hEw12 hrowB hzbrB
            have hs_w12 := (hEw12).size
            replace hV := evo_step0 hV hEw12
            replace hB7 := evo_step0 hB7 hEw12
            replace hC11 := evo_step0 hC11 hEw12
            replace ha := ha0.now hV
            replace hb := hb0.now hV
            replace houtB := houtB.evo0 hEw12
            replace houtH := houtH.evo0 hEw12
            refine h_next hC11 ?_
            refine h_take (i := 12) (by exact rfl) rfl rfl rfl (by kernel_rfl) (fun w' hC => run_ix (i0) rfl Try.underlying83 ty_23 (by exact rfl) (by exact rfl) (by first | exact rfl | omega) (by omega) rfl) hC11 ?_
            refine h_two (i := 11) (j := 13) (by kernel_rfl) ?_ ?_
            · skip
              refine h_do (by exact rfl) ?_
              refine r_make (len := (b.length + 1)) (zs := [_, _]) Try.underlying85 ty_50 (by exact rfl) rfl rfl (by exact rfl) (by exact rfl) (by omega) (by omega) (by omega) (by omega) ?_
              intro brH w13 hebrH hEw13 hrowH hzbrH
              have hs_w13 := (hEw13).size
              replace hV := evo_step0 hV hEw13
              replace hB7 := evo_step0 hB7 hEw13
              replace hC11 := evo_step0 hC11 hEw13
              replace ha := ha0.now hV
              replace hb := hb0.now hV
              replace houtB := houtB.evo0 hEw13
              replace houtH := houtH.evo0 hEw13
              replace hrowB := hrowB.evo0 hEw13
              refine h_next hC11 ?_
              refine h_one (i := 13) (by kernel_rfl) ?_
              refine h_do (by exact rfl) ?_
              refine r_storeF (v := .slice (some ⟨brB, 0, none⟩) _ _) (vs := [_]) (i0) (by exact rfl) rfl (by exact rfl) houtB (by omega) ty_23 (by exact rfl) rfl (by exact rfl) ?_
              intro w14 hEw14 hzw14 hb_new
              have hs_w14 := (hEw14).size
              replace hV := evo_step1 hV hEw14 (by first | exact .inl (by omega) | exact .inr (by simp))
              replace hB7 := evo_step1 hB7 hEw14 (by first | exact .inl (by omega) | exact .inr (by simp))
              replace hC11 := evo_step1 hC11 hEw14 (by first | exact .inl (by omega) | exact .inr (by simp))
              replace ha := ha0.now hV
              replace hb := hb0.now hV
              replace houtH := houtH.evo hEw14 (by simp; omega)
              replace hrowB := hrowB.evo hEw14 (by simp; omega)
              replace hrowH := hrowH.evo hEw14 (by simp; omega)
              replace houtB := hb_new
              clear hb_new
              refine h_next hC11 ?_
              refine h_take (i := 14) (by exact rfl) rfl rfl rfl (by kernel_rfl) (fun w' hC => run_ix (i0) rfl Try.underlying84 ty_85 (by exact rfl) (by exact rfl) (by first | exact rfl | omega) (by omega) rfl) hC11 ?_
              refine h_one (i := 15) (by kernel_rfl) ?_
              refine h_do (by exact rfl) ?_
              refine r_storeF (v := .slice (some ⟨brH, 0, none⟩) _ _) (vs := [_]) (i0) (by exact rfl) rfl (by exact rfl) houtH (by omega) ty_85 (by exact rfl) rfl (by exact rfl) ?_
              intro w15 hEw15 hzw15 hb_new
              have hs_w15 := (hEw15).size
              replace hV := evo_step1 hV hEw15 (by first | exact .inl (by omega) | exact .inr (by simp))
              replace hB7 := evo_step1 hB7 hEw15 (by first | exact .inl (by omega) | exact .inr (by simp))
              replace ha := ha0.now hV
              replace hb := hb0.now hV
              replace hrowB := hrowB.evo hEw15 (by simp; omega)
              replace hrowH := hrowH.evo hEw15 (by simp; omega)
              replace houtB := houtB.evo hEw15 (by simp; omega)
              replace houtH := hb_new
              clear hb_new
              refine h_last (by kernel_rfl) ?_
              refine h_done (by kernel_rfl) ?_
              have hTB := tabG_add (g := gP) (s := 1) (fun _ => rfl) hTB_old (by omega) (b' := brB) (by omega) (by omega) hB7 (fun z h1 h2 => by
                have h3 := (hoB z (by omega) h2).2
                have h4 := hsep z z (by omega) h2 (by omega) h2
                simp [h3, h4.1, h4.2.1]) houtB hrowB rfl
              have hTH := tabG_add (g := gS) (s := 2) (fun _ => rfl) hTH_old (by omega) (b' := brH) (by omega) (by omega) hB7 (fun z h1 h2 => by
                have h3 := (hoH z (by omega) h2).2
                have h4 := hsep z z (by omega) h2 (by omega) h2
                simp [h3, h4.1, h4.2.1]) houtH hrowH rfl
              have hsep1 := sep_add hsep hltB hltH (bB := brB) (bH := brH) (by omega) (by omega) (by omega)
              refine r_cut_end ?_ ?_
              · refine ⟨_, _, hTB, hTH, hsep1, (by first | assumption | omega | (dsimp only; omega) | (simp; done)), hV, hB7⟩
              · repeat (first | (with_reducible exact Agree.merge _ _ _) | (with_reducible exact Agree.refl _ _) | (with_reducible refine Agree.upd ?_ _ _ rfl) | ((with_reducible refine Agree.inner ?_ ?_); (kernel_rfl)))
            · skip
              refine h_do (by exact rfl) ?_
              refine r_storeF (v := .slice (some ⟨brB, 0, none⟩) _ _) (vs := [_]) (i0) (by exact rfl) rfl (by exact rfl) houtB (by omega) ty_23 (by exact rfl) rfl (by exact rfl) ?_
              intro w16 hEw16 hzw16 hb_new
              have hs_w16 := (hEw16).size
              replace hV := evo_step1 hV hEw16 (by first | exact .inl (by omega) | exact .inr (by simp))
              replace hB7 := evo_step1 hB7 hEw16 (by first | exact .inl (by omega) | exact .inr (by simp))
              replace hC11 := evo_step1 hC11 hEw16 (by first | exact .inl (by omega) | exact .inr (by simp))
              replace ha := ha0.now hV
              replace hb := hb0.now hV
              replace houtH := houtH.evo hEw16 (by simp; omega)
              replace hrowB := hrowB.evo hEw16 (by simp; omega)
              replace houtB := hb_new
              clear hb_new
              refine h_next hC11 ?_
              refine h_one (i := 11) (by kernel_rfl) ?_
              refine h_do (by exact rfl) ?_
              refine r_make (len := (b.length + 1)) (zs := [_, _]) Try.underlying85 ty_50 (by exact rfl) rfl rfl (by exact rfl) (by exact rfl) (by omega) (by omega) (by omega) (by omega) ?_
              intro brH w17 hebrH hEw17 hrowH hzbrH
              have hs_w17 := (hEw17).size
              replace hV := evo_step0 hV hEw17
              replace hB7 := evo_step0 hB7 hEw17
              replace hC11 := evo_step0 hC11 hEw17
              replace ha := ha0.now hV
              replace hb := hb0.now hV
              replace houtH := houtH.evo0 hEw17
              replace hrowB := hrowB.evo0 hEw17
              replace houtB := houtB.evo0 hEw17
              refine h_next hC11 ?_
              refine h_take (i := 14) (by exact rfl) rfl rfl rfl (by kernel_rfl) (fun w' hC => run_ix (i0) rfl Try.underlying84 ty_85 (by exact rfl) (by exact rfl) (by first | exact rfl | omega) (by omega) rfl) hC11 ?_
              refine h_one (i := 15) (by kernel_rfl) ?_
              refine h_do (by exact rfl) ?_
              refine r_storeF (v := .slice (some ⟨brH, 0, none⟩) _ _) (vs := [_]) (i0) (by exact rfl) rfl (by exact rfl) houtH (by omega) ty_85 (by exact rfl) rfl (by exact rfl) ?_
              intro w18 hEw18 hzw18 hb_new
              have hs_w18 := (hEw18).size
              replace hV := evo_step1 hV hEw18 (by first | exact .inl (by omega) | exact .inr (by simp))
              replace hB7 := evo_step1 hB7 hEw18 (by first | exact .inl (by omega) | exact .inr (by simp))
              replace ha := ha0.now hV
              replace hb := hb0.now hV
              replace hrowB := hrowB.evo hEw18 (by simp; omega)
              replace houtB := houtB.evo hEw18 (by simp; omega)
              replace hrowH := hrowH.evo hEw18 (by simp; omega)
              replace houtH := hb_new
              clear hb_new
              refine h_last (by kernel_rfl) ?_
              refine h_done (by kernel_rfl) ?_
              have hTB := tabG_add (g := gP) (s := 1) (fun _ => rfl) hTB_old (by omega) (b' := brB) (by omega) (by omega) hB7 (fun z h1 h2 => by
                have h3 := (hoB z (by omega) h2).2
                have h4 := hsep z z (by omega) h2 (by omega) h2
                simp [h3, h4.1, h4.2.1]) houtB hrowB rfl
              have hTH := tabG_add (g := gS) (s := 2) (fun _ => rfl) hTH_old (by omega) (b' := brH) (by omega) (by omega) hB7 (fun z h1 h2 => by
                have h3 := (hoH z (by omega) h2).2
                have h4 := hsep z z (by omega) h2 (by omega) h2
                simp [h3, h4.1, h4.2.1]) houtH hrowH rfl
              have hsep1 := sep_add hsep hltB hltH (bB := brB) (bH := brH) (by omega) (by omega) (by omega)
              refine r_cut_end ?_ ?_
              · refine ⟨_, _, hTB, hTH, hsep1, (by first | assumption | omega | (dsimp only; omega) | (simp; done)), hV, hB7⟩
              · repeat (first | (with_reducible exact Agree.merge _ _ _) | (with_reducible exact Agree.refl _ _) | (with_reducible refine Agree.upd ?_ _ _ rfl) | ((with_reducible refine Agree.inner ?_ ?_); (kernel_rfl)))
          · skip
            refine h_do (by exact rfl) ?_
            refine r_make (len := (b.length + 1)) (zs := [_, _]) Try.underlying85 ty_50 (by exact rfl) rfl rfl (by exact rfl) (by exact rfl) (by omega) (by omega) (by omega) (by omega) ?_
            intro brH w19 hebrH hEw19 hrowH hzbrH
            have hs_w19 := (hEw19).size
            replace hV := evo_step0 hV hEw19
            replace hB7 := evo_step0 hB7 hEw19
            replace hC11 := evo_step0 hC11 hEw19
            replace ha := ha0.now hV
            replace hb := hb0.now hV
            replace houtB := houtB.evo0 hEw19
            replace houtH := houtH.evo0 hEw19
            refine h_next hC11 ?_
            refine h_one (i := 7) (by kernel_rfl) ?_
            refine h_do (by exact rfl) ?_
            refine r_make (len := (b.length + 1)) (zs := [_]) Try.underlying23 ty_3 (by exact rfl) rfl rfl (by exact rfl) (by exact rfl) (by omega) (by omega) (by omega) (by omega) ?_
            intro brB w20 hebrB hEw20 hrowB hzbrB
            have hs_w20 := (hEw20).size
            replace hV := evo_step0 hV hEw20
            replace hB7 := evo_step0 hB7 hEw20
            replace hC11 := evo_step0 hC11 hEw20
            replace ha := ha0.now hV
            replace hb := hb0.now hV
            replace houtB := houtB.evo0 hEw20
            replace houtH := houtH.evo0 hEw20
            replace hrowH := hrowH.evo0 hEw20
            refine h_next hC11 ?_
            refine h_take (i := 12) (by exact rfl) rfl rfl rfl (by kernel_rfl) (fun w' hC => run_ix (i0) rfl Try.underlying83 ty_23 (by exact rfl) (by exact rfl) (by first | exact rfl | omega) (by omega) rfl) hC11 ?_
            refine h_one (i := 13) (by kernel_rfl) ?_
            refine h_do (by exact rfl) ?_
            refine r_storeF (v := .slice (some ⟨brB, 0, none⟩) _ _) (vs := [_]) (i0) (by exact rfl) rfl (by exact rfl) houtB (by omega) ty_23 (by exact rfl) rfl (by exact rfl) ?_
            intro w21 hEw21 hzw21 hb_new
            have hs_w21 := (hEw21).size
            replace hV := evo_step1 hV hEw21 (by first | exact .inl (by omega) | exact .inr (by simp))
            replace hB7 := evo_step1 hB7 hEw21 (by first | exact .inl (by omega) | exact .inr (by simp))
            replace hC11 := evo_step1 hC11 hEw21 (by first | exact .inl (by omega) | exact .inr (by simp))
            replace ha := ha0.now hV
            replace hb := hb0.now hV
            replace houtH := houtH.evo hEw21 (by simp; omega)
            replace hrowH := hrowH.evo hEw21 (by simp; omega)
            replace hrowB := hrowB.evo hEw21 (by simp; omega)
            replace houtB := hb_new
            clear hb_new
            refine h_next hC11 ?_
            refine h_take (i := 14) (by exact rfl) rfl rfl rfl (by kernel_rfl) (fun w' hC => run_ix (i0) rfl Try.underlying84 ty_85 (by exact rfl) (by exact rfl) (by first | exact rfl | omega) (by omega) rfl) hC11 ?_
            refine h_one (i := 15) (by kernel_rfl) ?_
            refine h_do (by exact rfl) ?_
            refine r_storeF (v := .slice (some ⟨brH, 0, none⟩) _ _) (vs := [_]) (i0) (by exact rfl) rfl (by exact rfl) houtH (by omega) ty_85 (by exact rfl) rfl (by exact rfl) ?_
            intro w22 hEw22 hzw22 hb_new
            have hs_w22 := (hEw22).size
            replace hV := evo_step1 hV hEw22 (by first | exact .inl (by omega) | exact .inr (by simp))
            replace hB7 := evo_step1 hB7 hEw22 (by first | exact .inl (by omega) | exact .inr (by simp))
            replace ha := ha0.now hV
            replace hb := hb0.now hV
            replace hrowH := hrowH.evo hEw22 (by simp; omega)
            replace hrowB := hrowB.evo hEw22 (by simp; omega)
            replace houtB := houtB.evo hEw22 (by simp; omega)
            replace houtH := hb_new
            clear hb_new
            refine h_last (by kernel_rfl) ?_
            refine h_done (by kernel_rfl) ?_
            have hTB := tabG_add (g := gP) (s := 1) (fun _ => rfl) hTB_old (by omega) (b' := brB) (by omega) (by omega) hB7 (fun z h1 h2 => by
              have h3 := (hoB z (by omega) h2).2
              have h4 := hsep z z (by omega) h2 (by omega) h2
              simp [h3, h4.1, h4.2.1]) houtB hrowB rfl
            have hTH := tabG_add (g := gS) (s := 2) (fun _ => rfl) hTH_old (by omega) (b' := brH) (by omega) (by omega) hB7 (fun z h1 h2 => by
              have h3 := (hoH z (by omega) h2).2
              have h4 := hsep z z (by omega) h2 (by omega) h2
              simp [h3, h4.1, h4.2.1]) houtH hrowH rfl
            have hsep1 := sep_add hsep hltB hltH (bB := brB) (bH := brH) (by omega) (by omega) (by omega)
            refine r_cut_end ?_ ?_
            · refine ⟨_, _, hTB, hTH, hsep1, (by first | assumption | omega | (dsimp only; omega) | (simp; done)), hV, hB7⟩
            · repeat (first | (with_reducible exact Agree.merge _ _ _) | (with_reducible exact Agree.refl _ _) | (with_reducible refine Agree.upd ?_ _ _ rfl) | ((with_reducible refine Agree.inner ?_ ?_); (kernel_rfl)))
        · rintro g w23 ⟨rbB1, rbH1, hTB, hTH, hsep1, hzl8, hV, hB7⟩
          have hs_w23hV := hV.size
          have hs_w23hB7 := hB7.size
          replace ha := ha0.now hV
          replace hb := hb0.now hV
          refine r_seq ?_
          refine r_region ?_
          refine r_op rfl rfl rfl (run_mv (v := .slice _ _ _) rfl (by exact rfl)) ?_
          refine r_op rfl rfl rfl (run_lenSl rfl (by exact rfl) Try.underlying22) ?_
          refine r_op rfl rfl rfl (run_asg (v := .int _ _) rfl (by exact rfl)) ?_
          refine r_nil ?_
          refine r_block ?_
          refine r_loop (α := Nat) [10, 12, 13, 14, 57, 58, 59, 60, 61, 62, 63, 64, 65, 66, 67, 68, 69, 70, 71, 72, 73, 74, 75, 76, 77, 78, 79, 80, 81, 82, 83, 84, 85, 86, 87, 88, 89, 90, 91, 92, 93, 94, 95, 96, 97, 98, 99, 100, 101, 102, 103, 104, 105, 106, 107, 108, 109, 110, 111, 112, 113, 114, 115, 116, 117, 118, 119, 120, 121, 122, 123, 124, 125, 126, 127, 128, 129, 130, 131, 132, 133, 134, 135, 136, 137, 138, 139, 140, 141, 142, 143, 144, 145, 146, 147, 148] (fun q g w => g 10 = .int .i64 ((q : Int) - 1) ∧ q ≤ (b.length + 1) ∧ Tab w w0.heap.size btB 23 3 1 (a.length + 1) (b.length + 1) i0 rbB1 (tabG gP a b i0 q) ∧ Tab w w0.heap.size btH 85 50 2 (a.length + 1) (b.length + 1) i0 rbH1 (tabG gS a b i0 q) ∧ w23.heap.size ≤ w.heap.size ∧ Evo w0 w []) (fun q => q) (b.length + 1) ?_ ?_
          · refine ⟨(by first | exact rfl | exact congrArg (Value.int _) (by omega) | exact congrArg (Value.int _) (by dsimp only; omega) | exact congrArg (Value.int _) (by simp) | exact congrArg S (by simp)), (by first | assumption | omega | (dsimp only; omega) | (simp; done)), (by first | assumption | omega | (dsimp only; omega) | (simp; done)), (by first | assumption | omega | (dsimp only; omega) | (simp; done)), (by first | assumption | omega | (dsimp only; omega) | (simp; done)), hV⟩
          · rintro q g w25 ⟨hj26, hq, hTB, hTH, hzl24, hV⟩
            have hs_w25hV := hV.size
            replace ha := ha0.now hV
            replace hb := hb0.now hV
            refine r_know (i := 10) (v := .int .i64 ((q : Int) - 1)) (by exact hj26) ?_
            refine r_seq ?_
            refine r_seq ?_
            refine r_region ?_
            refine r_op rfl rfl rfl (run_mv (v := .int _ _) rfl (by exact rfl)) ?_
            refine r_op rfl rfl rfl (run_geq rfl (by exact rfl) (by exact rfl)) ?_
            refine r_nil ?_
            refine r_cond (by exact rfl) (fun hc27 => ?_) (fun hc27 => ?_)
            · skip
              refine r_skip ?_
              refine r_seq ?_
              refine r_block ?_
              refine r_seq ?_
              obtain ⟨j0, rfl⟩ : ∃ j0, q = j0 + 1 := ⟨q - 1, by omega⟩
              replace hTB := tabG_start hTB
              replace hTH := tabG_start hTH
              refine r_region ?_
              refine r_opcall rfl rfl rfl (run_callf (vs := []) rfl (by exact rfl) Try.func37 rfl (by kernel_rfl)) kinds_calls ?_
              rintro e w28 ⟨rfl, hE28⟩
              refine ⟨_, rfl, ?_⟩
              have hs_w28 := (hE28).size
              replace hV := evo_step0 hV hE28
              replace ha := ha0.now hV
              replace hb := hb0.now hV
              replace hTB := hTB.evo0 hE28
              replace hTH := hTH.evo0 hE28
              refine r_op rfl rfl rfl (run_mv (v := .int _ _) rfl (by exact rfl)) ?_
              refine r_nil ?_
              refine r_block ?_
              refine r_loop (α := Nat) [12, 13, 14, 62, 63, 64, 65, 66, 67, 68, 69, 70, 71, 72, 73, 74, 75, 76, 77, 78, 79, 80, 81, 82, 83, 84, 85, 86, 87, 88, 89, 90, 91, 92, 93, 94, 95, 96, 97, 98, 99, 100, 101, 102, 103, 104, 105, 106, 107, 108, 109, 110, 111, 112, 113, 114, 115, 116, 117, 118, 119, 120, 121, 122, 123, 124, 125, 126, 127, 128, 129, 130, 131, 132, 133, 134, 135, 136, 137, 138, 139, 140, 141, 142, 143, 144, 145, 146, 147, 148] (fun x g w => g 62 = .int .i64 (x : Nat) ∧ x ≤ 6 ∧ Tab w w0.heap.size btB 23 3 1 (a.length + 1) (b.length + 1) i0 rbB1 (ovr gP i0 j0 ((bsA a b i0 j0 x).getD (0, 0, 0)) (tabG gP a b i0 (j0 + 1))) ∧ Tab w w0.heap.size btH 85 50 2 (a.length + 1) (b.length + 1) i0 rbH1 (ovr gS i0 j0 ((bsA a b i0 j0 x).getD (0, 0, 0)) (tabG gS a b i0 (j0 + 1))) ∧ w28.heap.size ≤ w.heap.size ∧ Evo w0 w []) (fun x => 6 - x) 0 ?_ ?_
              · refine ⟨(by first | exact rfl | exact congrArg (Value.int _) (by omega) | exact congrArg (Value.int _) (by dsimp only; omega) | exact congrArg (Value.int _) (by simp) | exact congrArg S (by simp)), (by first | assumption | omega | (dsimp only; omega) | (simp; done)), hTB, hTH, (by first | assumption | omega | (dsimp only; omega) | (simp; done)), hV⟩
              · rintro x g w30 ⟨hj31, hk_x, hTB, hTH, hzl29, hV⟩
                have hs_w30hV := hV.size
                replace ha := ha0.now hV
                replace hb := hb0.now hV
                refine r_know (i := 62) (v := .int .i64 (x : Nat)) (by exact hj31) ?_
                refine r_seq ?_
                refine r_region ?_
                refine r_op rfl rfl rfl (run_lss rfl (by exact rfl) (by exact rfl)) ?_
                refine r_nil ?_
                refine r_seq ?_
                refine r_cond (by exact rfl) (fun hc32 => ?_) (fun hc32 => ?_)
                · skip
                  refine r_skip ?_
                  refine r_seq ?_
                  refine r_block ?_
                  refine r_seq ?_
                  have hsb := stp_bd x
                  have hlB := hTB.lt.2 i0 (Nat.le_refl _) (by omega)
                  have hlH := hTH.lt.2 i0 (Nat.le_refl _) (by omega)
                  refine r_region ?_
                  refine r_op rfl rfl rfl (run_ixAg (ds := [_, _]) (x) rfl Try.underlying51 ty_50 ag_50 (by exact rfl) (by exact rfl) (by first | exact rfl | omega) (by omega) (kinds_at x (by omega))) ?_
                  refine r_var (zs := [_, _]) (vs := [_, _]) ty_50 (by exact rfl) rfl (by exact rfl) (fun _ => rfl) (by exact rfl) rfl rfl (by exact rfl) ?_
                  intro b33 w34 heb33 hEw34 hbb33 hzb33
                  have hs_w34 := (hEw34).size
                  replace hV := evo_step0 hV hEw34
                  replace ha := ha0.now hV
                  replace hb := hb0.now hV
                  replace hTB := hTB.evo0 hEw34
                  replace hTH := hTH.evo0 hEw34
                  have hAb33 := hbb33.at
                  refine r_nil ?_
                  refine r_seq ?_
                  refine r_seq ?_
                  refine r_region ?_
                  refine r_op rfl rfl rfl (run_mv (v := .int _ _) rfl (by exact rfl)) ?_
                  refine r_op rfl rfl rfl (run_ixP (0) rfl Try.underlying50 ty_3 (by exact rfl) (by exact rfl) (by exact rfl) (by omega)) ?_
                  refine r_op rfl rfl rfl (run_ld1 rfl ag_3 (by exact rfl) (hAb33.cell 0 (by exact rfl))) ?_
                  refine r_op rfl rfl rfl (run_add rfl (by exact rfl) (by exact rfl) (by omega) (by omega)) ?_
                  refine r_op rfl rfl rfl (run_mv (v := .slice _ _ _) rfl (by exact rfl)) ?_
                  refine r_op rfl rfl rfl (run_lenSl rfl (by exact rfl) Try.underlying22) ?_
                  refine r_op rfl rfl rfl (run_gtr rfl (by exact rfl) (by exact rfl)) ?_
                  refine r_op rfl rfl rfl (run_mv (v := .bool _) rfl (by exact rfl)) ?_
                  refine r_g rfl (wantF (by exact rfl)) rfl (fun hg => run_mv (v := .int _ _) rfl (by exact rfl)) ?_
                  refine r_g rfl (wantF (by exact rfl)) rfl (fun hg => run_ixP (1) rfl Try.underlying50 ty_3 (by exact rfl) (by exact rfl) (by exact rfl) (by omega)) ?_
                  refine r_g rfl (wantF (by exact rfl)) rfl (fun hg => run_ld1 rfl ag_3 (glv (by exact rfl) (fun h => h) hg) (hAb33.cell 1 (by exact rfl))) ?_
                  refine r_g rfl (wantF (by exact rfl)) rfl (fun hg => run_add rfl (glv (by exact rfl) (fun h => h) hg) (glv (by exact rfl) (fun h => h) hg) (by omega) (by omega)) ?_
                  refine r_g rfl (wantF (by exact rfl)) rfl (fun hg => run_mv (v := .slice _ _ _) rfl (by exact rfl)) ?_
                  refine r_g rfl (wantF (by exact rfl)) rfl (fun hg => run_lenSl rfl (glv (by exact rfl) (fun h => h) hg) Try.underlying22) ?_
                  refine r_g rfl (wantF (by exact rfl)) rfl (fun hg => run_gtr rfl (glv (by exact rfl) (fun h => h) hg) (glv (by exact rfl) (fun h => h) hg)) ?_
                  refine r_op rfl rfl rfl (run_pick_or rfl (by exact rfl) rfl (fun hq => glv (by exact rfl) (fun h => h) hq)) ?_
                  refine r_nil ?_
                  refine r_cond (by exact rfl) (fun hc35 => ?_) (fun hc35 => ?_)
                  · skip
                    refine r_exit rfl ?_
                    refine r_region ?_
                    refine r_op rfl rfl rfl (run_add rfl (by exact rfl) (by exact rfl) (by omega) (by omega)) ?_
                    refine r_op rfl rfl rfl (run_mv (v := .int _ _) rfl (by exact rfl)) ?_
                    refine r_nil ?_
                    refine r_again (x + 1) ?_ ?_ ?_
                    · first | omega | (dsimp only; omega)
                    · refine ⟨(by first | exact rfl | exact congrArg (Value.int _) (by omega) | exact congrArg (Value.int _) (by dsimp only; omega) | exact congrArg (Value.int _) (by simp) | exact congrArg S (by simp)), (by first | assumption | omega | (dsimp only; omega) | (simp; done)), (by first | (rw [bs_skip (by omega)]; assumption) | (rw [hbt]; assumption) | (rw [hbt]; exact tab_store2 hTB_old (by omega) hCst (by simp; omega) hxB hcurB rfl)), (by first | (rw [bs_skip (by omega)]; assumption) | (rw [hbt]; assumption) | (rw [hbt]; exact tab_store2 hTH_old (by omega) hCst (by simp; omega) hxH hcurH rfl)), (by first | assumption | omega | (dsimp only; omega) | (simp; done)), hV⟩
                    · repeat (first | (with_reducible exact Agree.merge _ _ _) | (with_reducible exact Agree.refl _ _) | (with_reducible refine Agree.upd ?_ _ _ rfl) | ((with_reducible refine Agree.inner ?_ ?_); (kernel_rfl)))
                  · skip
                    refine r_skip ?_
                    refine r_seq ?_
                    refine r_qregion (by kernel_rfl) (by kernel_rfl) ?_
                    refine q_op rfl rfl rfl (fun w' hC => run_mv (v := .slice _ _ _) rfl (by exact rfl)) ?_
                    refine q_op rfl rfl rfl (fun w' hC => run_mv (v := .int _ _) rfl (by exact rfl)) ?_
                    refine q_op rfl rfl rfl (fun w' hC => run_mv (v := .int _ _) rfl (by exact rfl)) ?_
                    refine q_op rfl rfl rfl (fun w' hC => run_ixP (0) rfl Try.underlying50 ty_3 (by exact rfl) (by exact rfl) (by exact rfl) (by omega)) ?_
                    refine q_op rfl rfl rfl (fun w' hC => run_ld1 rfl ag_3 (by exact rfl) ((hAb33.evo0 hC).cell 0 (by exact rfl))) ?_
                    refine q_op rfl rfl rfl (fun w' hC => run_add rfl (by exact rfl) (by exact rfl) (by omega) (by omega)) ?_
                    refine q_op rfl rfl rfl (fun w' hC => run_slR (i0) ((i0 + (stp x).1)) rfl Try.underlying22 ty_67 (by exact rfl) (ha.evo0 hC) (at1 (by exact rfl) (by omega)) (at1 (by exact rfl) (by omega)) (by first | omega | (simp; omega)) (by first | omega | (simp; omega)) rfl) ?_
                    have hS360 := (ha0.take ((i0 + (stp x).1))).drop (i0)
                    have hS36 := (ha.take ((i0 + (stp x).1))).drop (i0)
                    have hbd_hS36 := hS36.bd
                    refine q_op rfl rfl rfl (fun w' hC => run_mv (v := .slice _ _ _) rfl (by exact rfl)) ?_
                    refine q_op rfl rfl rfl (fun w' hC => run_mv (v := .int _ _) rfl (by exact rfl)) ?_
                    refine q_op rfl rfl rfl (fun w' hC => run_mv (v := .int _ _) rfl (by exact rfl)) ?_
                    refine q_op rfl rfl rfl (fun w' hC => run_ixP (1) rfl Try.underlying50 ty_3 (by exact rfl) (by exact rfl) (by exact rfl) (by omega)) ?_
                    refine q_op rfl rfl rfl (fun w' hC => run_ld1 rfl ag_3 (by exact rfl) ((hAb33.evo0 hC).cell 1 (by exact rfl))) ?_
                    refine q_op rfl rfl rfl (fun w' hC => run_add rfl (by exact rfl) (by exact rfl) (by omega) (by omega)) ?_
                    refine q_op rfl rfl rfl (fun w' hC => run_slR (j0) ((j0 + (stp x).2)) rfl Try.underlying22 ty_67 (by exact rfl) (hb.evo0 hC) (at1 (by exact rfl) (by omega)) (at1 (by exact rfl) (by omega)) (by first | omega | (simp; omega)) (by first | omega | (simp; omega)) rfl) ?_
                    have hS370 := (hb0.take ((j0 + (stp x).2))).drop (j0)
                    have hS37 := (hb.take ((j0 + (stp x).2))).drop (j0)
                    have hbd_hS37 := hS37.bd
                    refine q_call rfl rfl rfl (fun w' hC => run_callf rfl (argcons (v := .slice _ _ _) (by exact rfl) (argcons (v := .slice _ _ _) (by exact rfl) (rfl))) Try.func15 rfl (by kernel_rfl)) (fun w' hC => (rcost2_calls (hS36.evo0 hC) (hS37.evo0 hC)).mono (fun e w'' h => ⟨h.1, evo_step0 hC h.2⟩)) ?_
                    refine q_op rfl rfl rfl (fun w' hC => run_mv (v := .tuple _) rfl (by exact rfl)) ?_
                    refine q_op rfl rfl rfl (fun w' hC => run_extract (v := .int _ _) rfl (by exact rfl) (by exact rfl)) ?_
                    refine q_op rfl rfl rfl (fun w' hC => run_extract (v := .bool _) rfl (by exact rfl) (by exact rfl)) ?_
                    refine q_op rfl rfl rfl (fun w' hC => run_asg (v := .int _ _) rfl (by exact rfl)) ?_
                    refine q_op rfl rfl rfl (fun w' hC => run_asg (v := .bool _) rfl (by exact rfl)) ?_
                    refine q_nil (fun w38 hE39 => ?_)
                    have hs_w38 := (hE39).size
                    replace hV := evo_step0 hV hE39
                    replace ha := ha0.now hV
                    replace hb := hb0.now hV
                    replace hTB := hTB.evo0 hE39
                    replace hTH := hTH.evo0 hE39
                    replace hbb33 := hbb33.evo0 hE39
                    replace hAb33 := hAb33.evo0 hE39
                    refine r_seq ?_
                    have hcb : 0 ≤ (ourCost ((a.take (i0 + (stp x).1)).drop i0) ((b.take (j0 + (stp x).2)).drop j0)).1 ∧ (ourCost ((a.take (i0 + (stp x).1)).drop i0) ((b.take (j0 + (stp x).2)).drop j0)).1 ≤ 200000 := costF_bd a b i0 j0 (stp x).1 (stp x).2
                    have hpb : 0 ≤ prA a b (i0 + (stp x).1) (j0 + (stp x).2) ∧ prA a b (i0 + (stp x).1) (j0 + (stp x).2) ≤ 25600000 := prc_bdA a b (i0 + (stp x).1) (j0 + (stp x).2) (by omega) (by omega) (by omega) (by omega)
                    refine r_qregion (by kernel_rfl) (by kernel_rfl) ?_
                    refine q_op rfl rfl rfl (fun w' hC => run_mv (v := .int _ _) rfl (by exact rfl)) ?_
                    refine q_op rfl rfl rfl (fun w' hC => run_mv (v := .slice (some ⟨btB, 0, none⟩) _ _) rfl (by exact rfl)) ?_
                    refine q_op rfl rfl rfl (fun w' hC => run_mv (v := .int _ _) rfl (by exact rfl)) ?_
                    refine q_op rfl rfl rfl (fun w' hC => run_ixP (0) rfl Try.underlying50 ty_3 (by exact rfl) (by exact rfl) (by exact rfl) (by omega)) ?_
                    refine q_op rfl rfl rfl (fun w' hC => run_ld1 rfl ag_3 (by exact rfl) ((hAb33.evo0 hC).cell 0 (by exact rfl))) ?_
                    refine q_op rfl rfl rfl (fun w' hC => run_add rfl (by exact rfl) (by exact rfl) (by omega) (by omega)) ?_
                    refine q_op rfl rfl rfl (fun w' hC => run_ix ((i0 + (stp x).1)) rfl Try.underlying83 ty_23 (by exact rfl) (by exact rfl) (by first | exact rfl | omega) (by omega) rfl) ?_
                    refine q_op rfl rfl rfl (fun w' hC => run_ld1 rfl ag_23 (by exact rfl) ((hTB.evo0 hC).load (i0 + (stp x).1) (by omega) (by omega))) ?_
                    refine q_op rfl rfl rfl (fun w' hC => run_mv (v := .int _ _) rfl (by exact rfl)) ?_
                    refine q_op rfl rfl rfl (fun w' hC => run_ixP (1) rfl Try.underlying50 ty_3 (by exact rfl) (by exact rfl) (by exact rfl) (by omega)) ?_
                    refine q_op rfl rfl rfl (fun w' hC => run_ld1 rfl ag_3 (by exact rfl) ((hAb33.evo0 hC).cell 1 (by exact rfl))) ?_
                    refine q_op rfl rfl rfl (fun w' hC => run_add rfl (by exact rfl) (by exact rfl) (by omega) (by omega)) ?_
                    refine q_op rfl rfl rfl (fun w' hC => run_ix ((j0 + (stp x).2)) rfl Try.underlying23 ty_3 (by exact rfl) (by exact rfl) (by first | exact rfl | omega) (by omega) rfl) ?_
                    refine q_op rfl rfl rfl (fun w' hC => run_ld1 rfl ag_3 (by exact rfl) (tab_val (v := .int .i64 (prA a b (i0 + (stp x).1) (j0 + (stp x).2))) (r := []) (hTB.evo0 hC) (i0 + (stp x).1) (j0 + (stp x).2) (by omega) (by omega) (by omega) (by omega) rfl)) ?_
                    refine q_op rfl rfl rfl (fun w' hC => run_add rfl (by exact rfl) (by exact rfl) (by omega) (by omega)) ?_
                    refine q_op rfl rfl rfl (fun w' hC => run_asg (v := .int _ _) rfl (by exact rfl)) ?_
                    refine q_nil (fun w40 hE41 => ?_)
                    have hs_w40 := (hE41).size
                    replace hV := evo_step0 hV hE41
                    replace ha := ha0.now hV
                    replace hb := hb0.now hV
                    replace hTB := hTB.evo0 hE41
                    replace hTH := hTH.evo0 hE41
                    replace hbb33 := hbb33.evo0 hE41
                    replace hAb33 := hAb33.evo0 hE41
                    refine r_seq ?_
                    refine r_region ?_
                    refine r_op rfl rfl rfl (run_mv (v := .slice (some ⟨btH, 0, none⟩) _ _) rfl (by exact rfl)) ?_
                    refine r_op rfl rfl rfl (run_mv (v := .int _ _) rfl (by exact rfl)) ?_
                    refine r_op rfl rfl rfl (run_ix (i0) rfl Try.underlying84 ty_85 (by exact rfl) (by exact rfl) (by first | exact rfl | omega) (by omega) rfl) ?_
                    refine r_op rfl rfl rfl (run_ld1 rfl ag_85 (by exact rfl) (hTH.load i0 (Nat.le_refl _) (by omega))) ?_
                    refine r_op rfl rfl rfl (run_mv (v := .int _ _) rfl (by exact rfl)) ?_
                    refine r_op rfl rfl rfl (run_ix (j0) rfl Try.underlying85 ty_50 (by exact rfl) (by exact rfl) (by first | exact rfl | omega) (by omega) rfl) ?_
                    refine r_op rfl rfl rfl (run_ldN (cs := [_, _]) rfl ag_50 ty_50 (by exact rfl) rfl (tab_hereA hTH (Nat.le_refl _) (by omega) (by omega))) ?_
                    refine r_op rfl rfl rfl (run_bld (pv := []) (zs := [_, _]) (cells := [_, _]) rfl ty_50 (by exact rfl) pl_50 (by exact rfl) (by exact rfl)) ?_
                    refine r_op rfl rfl rfl (run_eqlA2 rfl Try.underlying50 Try.underlying3 ty_3 ag_3 (by kernel_rfl) (by exact rfl) (by exact rfl)) ?_
                    refine r_op rfl rfl rfl (run_mv (v := .bool _) rfl (by exact rfl)) ?_
                    refine r_g rfl (wantF (by exact rfl)) rfl (fun hg => run_mv (v := .int _ _) rfl (by exact rfl)) ?_
                    refine r_g rfl (wantF (by exact rfl)) rfl (fun hg => run_mv (v := .slice (some ⟨btB, 0, none⟩) _ _) rfl (by exact rfl)) ?_
                    refine r_g rfl (wantF (by exact rfl)) rfl (fun hg => run_mv (v := .int _ _) rfl (by exact rfl)) ?_
                    refine r_g rfl (wantF (by exact rfl)) rfl (fun hg => run_ix (i0) rfl Try.underlying83 ty_23 (glv (by exact rfl) (fun h => h) hg) (glv (by exact rfl) (fun h => h) hg) (by first | exact rfl | omega) (by omega) rfl) ?_
                    refine r_g rfl (wantF (by exact rfl)) rfl (fun hg => run_ld1 rfl ag_23 (glv (by exact rfl) (fun h => h) hg) (hTB.load i0 (Nat.le_refl _) (by omega))) ?_
                    refine r_g rfl (wantF (by exact rfl)) rfl (fun hg => run_mv (v := .int _ _) rfl (by exact rfl)) ?_
                    refine r_g rfl (wantF (by exact rfl)) rfl (fun hg => run_ix (j0) rfl Try.underlying23 ty_3 (glv (by exact rfl) (fun h => h) hg) (glv (by exact rfl) (fun h => h) hg) (by first | exact rfl | omega) (by omega) rfl) ?_
                    refine r_g rfl (wantF (by exact rfl)) rfl (fun hg => run_ld1 rfl ag_3 (glv (by exact rfl) (fun h => h) hg) (tab_here (v := .int .i64 ((bsA a b i0 j0 x).getD (0, 0, 0)).1) (r := []) hTB (Nat.le_refl _) (by omega) (by omega) rfl)) ?_
                    refine r_g rfl (wantF (by exact rfl)) rfl (fun hg => run_lss rfl (glv (by exact rfl) (fun h => h) hg) (glv (by exact rfl) (fun h => h) hg)) ?_
                    refine r_op rfl rfl rfl (run_pick_or rfl (by exact rfl) rfl (fun hq => glv (by exact rfl) (fun h => h) hq)) ?_
                    refine r_nil ?_
                    refine r_cond (by exact rfl) (fun hc42 => ?_) (fun hc42 => ?_)
                    · skip
                      have hbt := bs_take (by omega) (by omega) (0, 0, 0) ⟨by omega, by omega⟩ (hc42.imp bs_zero'.2 id)
                      have hcurB := hTB.row i0 (Nat.le_refl _) (by omega)
                      have hcurH := hTH.row i0 (Nat.le_refl _) (by omega)
                      have hTBq := hTB.out
                      have hTHq := hTH.out
                      have hTB_old := hTB
                      have hTH_old := hTH
                      obtain ⟨hobB, hnbB⟩ := hTB.old i0 (Nat.le_refl _) (by omega)
                      obtain ⟨hobH, hnbH⟩ := hTH.old i0 (Nat.le_refl _) (by omega)
                      obtain ⟨hd1, hd2, hd3⟩ := hsep1 i0 i0 (Nat.le_refl _) (by omega) (Nat.le_refl _) (by omega)
                      have hxB : ∀ z, i0 < z → z < a.length + 1 → rbB1 z ∉ [rbB1 i0, rbH1 i0] := fun z h1 h2 => by
                        have h3 := hTB.apart z i0 (by omega) h2 (Nat.le_refl _) (by omega)
                        have h4 := (hsep1 z i0 (by omega) h2 (Nat.le_refl _) (by omega)).2.2
                        simp only [List.mem_cons, List.not_mem_nil, or_false, not_or]
                        exact ⟨fun e => by have := h3 e; omega, h4⟩
                      have hxH : ∀ z, i0 < z → z < a.length + 1 → rbH1 z ∉ [rbB1 i0, rbH1 i0] := fun z h1 h2 => by
                        have h3 := hTH.apart z i0 (by omega) h2 (Nat.le_refl _) (by omega)
                        have h4 := (hsep1 i0 z (Nat.le_refl _) (by omega) (by omega) h2).2.2
                        simp only [List.mem_cons, List.not_mem_nil, or_false, not_or]
                        exact ⟨fun e => h4 e.symm, fun e => by have := h3 e; omega⟩
                      have hbb33_q := hbb33
                      have hAb33_q := hAb33
                      have hcurB_q := hcurB
                      have hcurH_q := hcurH
                      have hV_q := hV
                      refine h_region [rbB1 i0, rbH1 i0] (by kernel_rfl) ?_
                      intro w43 hE44 hCst
                      have hs_w43 := (hE44).size
                      replace hV := evo_step0 hV hE44
                      replace ha := ha0.now hV
                      replace hb := hb0.now hV
                      replace hbb33 := hbb33.evo0 hE44
                      replace hAb33 := hAb33.evo0 hE44
                      replace hcurB := hcurB.evo0 hE44
                      replace hcurH := hcurH.evo0 hE44
                      refine h_take (i := 0) (by exact rfl) rfl rfl rfl (by kernel_rfl) (fun w' hC => run_mv (v := .slice (some ⟨btB, 0, none⟩) _ _) rfl (by exact rfl)) hCst ?_
                      refine h_take (i := 1) (by exact rfl) rfl rfl rfl (by kernel_rfl) (fun w' hC => run_mv (v := .int _ _) rfl (by exact rfl)) hCst ?_
                      refine h_take (i := 2) (by exact rfl) rfl rfl rfl (by kernel_rfl) (fun w' hC => run_ix (i0) rfl Try.underlying83 ty_23 (by exact rfl) (by exact rfl) (by first | exact rfl | omega) (by omega) rfl) hCst ?_
                      refine h_take (i := 3) (by exact rfl) rfl rfl rfl (by kernel_rfl) (fun w' hC => run_ld1 rfl ag_23 (by exact rfl) ((hTBq.evo hC (by simp; omega)).cell0 (x := i0) (by omega) (rowsC_at (Nat.le_refl _)))) hCst ?_
                      refine h_take (i := 4) (by exact rfl) rfl rfl rfl (by kernel_rfl) (fun w' hC => run_mv (v := .int _ _) rfl (by exact rfl)) hCst ?_
                      refine h_take (i := 5) (by exact rfl) rfl rfl rfl (by kernel_rfl) (fun w' hC => run_mv (v := .slice (some ⟨btH, 0, none⟩) _ _) rfl (by exact rfl)) hCst ?_
                      refine h_take (i := 6) (by exact rfl) rfl rfl rfl (by kernel_rfl) (fun w' hC => run_mv (v := .int _ _) rfl (by exact rfl)) hCst ?_
                      refine h_take (i := 7) (by exact rfl) rfl rfl rfl (by kernel_rfl) (fun w' hC => run_ix (i0) rfl Try.underlying84 ty_85 (by exact rfl) (by exact rfl) (by first | exact rfl | omega) (by omega) rfl) hCst ?_
                      refine h_take (i := 8) (by exact rfl) rfl rfl rfl (by kernel_rfl) (fun w' hC => run_ld1 rfl ag_85 (by exact rfl) ((hTHq.evo hC (by simp; omega)).cell0 (x := i0) (by omega) (rowsC_at (Nat.le_refl _)))) hCst ?_
                      refine h_take (i := 9) (by exact rfl) rfl rfl rfl (by kernel_rfl) (fun w' hC => run_mv (v := .int _ _) rfl (by exact rfl)) hCst ?_
                      refine h_take (i := 10) (by exact rfl) rfl rfl rfl (by kernel_rfl) (fun w' hC => run_mv (v := .int _ _) rfl (by exact rfl)) hCst ?_
                      refine h_take (i := 11) (by exact rfl) rfl rfl rfl (by kernel_rfl) (fun w' hC => run_ldN rfl ag_50 ty_50 (by exact rfl) rfl (hAb33_q.evo hC (by simp; omega))) hCst ?_
                      refine h_take (i := 12) (by exact rfl) rfl rfl rfl (by kernel_rfl) (fun w' hC => run_ix (j0) rfl Try.underlying23 ty_3 (by exact rfl) (by exact rfl) (by first | exact rfl | omega) (by omega) rfl) hCst ?_
                      refine h_one (i := 13) (by kernel_rfl) ?_
                      refine h_do (by exact rfl) ?_
                      refine r_storeF (v := .int _ _) (vs := [_]) (j0) (by exact rfl) rfl (by exact rfl) hcurB (by omega) ty_3 (by exact rfl) rfl (by exact rfl) ?_
                      intro w45 hEw45 hzw45 hb_new
                      have hs_w45 := (hEw45).size
                      replace hV := evo_step1 hV hEw45 (by first | exact .inl (by omega) | exact .inr (by simp))
                      replace hCst := evo_step1 hCst hEw45 (by first | exact .inl (by omega) | exact .inr (by simp))
                      replace ha := ha0.now hV
                      replace hb := hb0.now hV
                      replace hbb33 := hbb33.evo hEw45 (by simp; omega)
                      replace hAb33 := hAb33.evo hEw45 (by simp; omega)
                      replace hcurH := hcurH.evo hEw45 (by simp; omega)
                      replace hcurB := hb_new
                      clear hb_new
                      refine h_next hCst ?_
                      refine h_take (i := 14) (by exact rfl) rfl rfl rfl (by kernel_rfl) (fun w' hC => run_ix (j0) rfl Try.underlying85 ty_50 (by exact rfl) (by exact rfl) (by first | exact rfl | omega) (by omega) rfl) hCst ?_
                      refine h_one (i := 15) (by kernel_rfl) ?_
                      refine h_do (by exact rfl) ?_
                      refine r_storeF (v := .agg _) (vs := [_, _]) (j0) (by exact rfl) rfl (by exact rfl) hcurH (by omega) ty_50 (by exact rfl) rfl (by exact rfl) ?_
                      intro w46 hEw46 hzw46 hb_new
                      have hs_w46 := (hEw46).size
                      replace hV := evo_step1 hV hEw46 (by first | exact .inl (by omega) | exact .inr (by simp))
                      replace hCst := evo_step1 hCst hEw46 (by first | exact .inl (by omega) | exact .inr (by simp))
                      replace ha := ha0.now hV
                      replace hb := hb0.now hV
                      replace hcurB := hcurB.evo hEw46 (by simp; omega)
                      replace hcurH := hb_new
                      clear hb_new
                      refine h_next hCst ?_
                      refine h_done (by kernel_rfl) ?_
                      refine r_blk ?_
                      refine r_region ?_
                      refine r_op rfl rfl rfl (run_add rfl (by exact rfl) (by exact rfl) (by omega) (by omega)) ?_
                      refine r_op rfl rfl rfl (run_mv (v := .int _ _) rfl (by exact rfl)) ?_
                      refine r_nil ?_
                      refine r_again (x + 1) ?_ ?_ ?_
                      · first | omega | (dsimp only; omega)
                      · refine ⟨(by first | exact rfl | exact congrArg (Value.int _) (by omega) | exact congrArg (Value.int _) (by dsimp only; omega) | exact congrArg (Value.int _) (by simp) | exact congrArg S (by simp)), (by first | assumption | omega | (dsimp only; omega) | (simp; done)), (by first | (rw [bs_skip (by omega)]; assumption) | (rw [hbt]; assumption) | (rw [hbt]; exact tab_store2 hTB_old (by omega) hCst (by simp; omega) hxB hcurB rfl)), (by first | (rw [bs_skip (by omega)]; assumption) | (rw [hbt]; assumption) | (rw [hbt]; exact tab_store2 hTH_old (by omega) hCst (by simp; omega) hxH hcurH rfl)), (by first | assumption | omega | (dsimp only; omega) | (simp; done)), hV⟩
                      · repeat (first | (with_reducible exact Agree.merge _ _ _) | (with_reducible exact Agree.refl _ _) | (with_reducible refine Agree.upd ?_ _ _ rfl) | ((with_reducible refine Agree.inner ?_ ?_); (kernel_rfl)))
                    · skip
                      have hbt := bs_keep (0, 0, 0) ⟨by omega, by omega⟩ (fun hn => hc42 (.inl (bs_zero'.1 hn))) (fun hn => hc42 (.inr hn))
                      refine r_skip ?_
                      refine r_blk ?_
                      refine r_region ?_
                      refine r_op rfl rfl rfl (run_add rfl (by exact rfl) (by exact rfl) (by omega) (by omega)) ?_
                      refine r_op rfl rfl rfl (run_mv (v := .int _ _) rfl (by exact rfl)) ?_
                      refine r_nil ?_
                      refine r_again (x + 1) ?_ ?_ ?_
                      · first | omega | (dsimp only; omega)
                      · refine ⟨(by first | exact rfl | exact congrArg (Value.int _) (by omega) | exact congrArg (Value.int _) (by dsimp only; omega) | exact congrArg (Value.int _) (by simp) | exact congrArg S (by simp)), (by first | assumption | omega | (dsimp only; omega) | (simp; done)), (by first | (rw [bs_skip (by omega)]; assumption) | (rw [hbt]; assumption) | (rw [hbt]; exact tab_store2 hTB_old (by omega) hCst (by simp; omega) hxB hcurB rfl)), (by first | (rw [bs_skip (by omega)]; assumption) | (rw [hbt]; assumption) | (rw [hbt]; exact tab_store2 hTH_old (by omega) hCst (by simp; omega) hxH hcurH rfl)), (by first | assumption | omega | (dsimp only; omega) | (simp; done)), hV⟩
                      · repeat (first | (with_reducible exact Agree.merge _ _ _) | (with_reducible exact Agree.refl _ _) | (with_reducible refine Agree.upd ?_ _ _ rfl) | ((with_reducible refine Agree.inner ?_ ?_); (kernel_rfl)))
                · skip
                  refine r_exit rfl ?_
                  refine r_blk ?_
                  refine r_region ?_
                  refine r_op rfl rfl rfl (run_mv (v := .int _ _) rfl (by exact rfl)) ?_
                  refine r_op rfl rfl rfl (run_sub rfl (by exact rfl) (by exact rfl) (by omega) (by omega)) ?_
                  refine r_op rfl rfl rfl (run_asg (v := .int _ _) rfl (by exact rfl)) ?_
                  refine r_nil ?_
                  refine r_again j0 ?_ ?_ ?_
                  · first | omega | (dsimp only; omega)
                  · refine ⟨(congrArg (Value.int _) (by omega)), (by first | assumption | omega | (dsimp only; omega) | (simp; done)), (by have hx6 : x = 6 := (by omega); subst hx6; rw [bs_all (by omega) (by omega)] at hTB; exact tabG_done hTB), (by have hx6 : x = 6 := (by omega); subst hx6; rw [bs_all (by omega) (by omega)] at hTH; exact tabG_done hTH), (by first | assumption | omega | (dsimp only; omega) | (simp; done)), hV⟩
                  · repeat (first | (with_reducible exact Agree.merge _ _ _) | (with_reducible exact Agree.refl _ _) | (with_reducible refine Agree.upd ?_ _ _ rfl) | ((with_reducible refine Agree.inner ?_ ?_); (kernel_rfl)))
            · skip
              refine r_exit rfl ?_
              refine r_blk ?_
              refine r_region ?_
              refine r_op rfl rfl rfl (run_mv (v := .int _ _) rfl (by exact rfl)) ?_
              refine r_op rfl rfl rfl (run_sub rfl (by exact rfl) (by exact rfl) (by omega) (by omega)) ?_
              refine r_op rfl rfl rfl (run_asg (v := .int _ _) rfl (by exact rfl)) ?_
              refine r_nil ?_
              refine r_again i0 ?_ ?_ ?_
              · first | omega | (dsimp only; omega)
              · refine ⟨rbB1, rbH1, (congrArg (Value.int _) (by omega)), (by first | assumption | omega | (dsimp only; omega) | (simp; done)), (by have hq0 : q = 0 := (by omega); subst hq0; exact tabG_full hTB), (by have hq0 : q = 0 := (by omega); subst hq0; exact tabG_full hTH), hsep1, (by first | assumption | omega | (dsimp only; omega) | (simp; done)), hV⟩
              · repeat (first | (with_reducible exact Agree.merge _ _ _) | (with_reducible exact Agree.refl _ _) | (with_reducible refine Agree.upd ?_ _ _ rfl) | ((with_reducible refine Agree.inner ?_ ?_); (kernel_rfl)))
      · skip
        refine r_exit rfl ?_
        refine r_seq ?_
        refine r_region ?_
        refine r_op rfl rfl rfl (run_asg (v := .slice _ _ _) rfl (by exact rfl)) ?_
        refine r_nil ?_
        refine r_seq ?_
        obtain rfl : k = 0 := by omega
        have hQ3 : Evo w5 w5 [] := Evo.refl _ _
        have hTB0 := fun (w' : World) (h : Evo w5 w' []) => hTB.evo0 h
        have hTH0 := fun (w' : World) (h : Evo w5 w' []) => hTH.evo0 h
        refine r_region ?_
        refine r_op rfl rfl rfl (run_asg (v := .int _ _) rfl (by exact rfl)) ?_
        refine r_op rfl rfl rfl (run_asg (v := .int _ _) rfl (by exact rfl)) ?_
        refine r_nil ?_
        refine r_seq ?_
        refine r_block ?_
        refine r_loop (α := Nat × Nat) [15, 16, 17, 18, 149, 150, 151, 152, 153, 154, 155, 156, 157, 158, 159, 160, 161, 162, 163, 164, 165, 166, 167, 168, 169, 170, 171, 172, 173, 174, 175, 176, 177, 178, 179, 180, 181, 182, 183, 184, 185, 186, 187, 188, 189] (fun p g w => ∃ vo : Value, ∃ pl : List Bead, g 15 = vo ∧ g 16 = .int .i64 (p.1 : Nat) ∧ g 17 = .int .i64 (p.2 : Nat) ∧ OwnE w w5.heap.size 41 vo pl ∧ p.1 ≤ a.length ∧ p.2 ≤ b.length ∧ pl ++ trc (costF ourCost a b) a.length b.length p.1 p.2 = trc (costF ourCost a b) a.length b.length 0 0 ∧ pl.length + (a.length - p.1) + (b.length - p.2) ≤ a.length + b.length ∧ w5.heap.size ≤ w.heap.size ∧ Evo w0 w [] ∧ Evo w5 w []) (fun p => a.length - p.1 + (b.length - p.2)) (0, 0) ?_ ?_
        · refine ⟨_, [], rfl, rfl, rfl, (OwnE.nil _ _ _), (by first | assumption | omega | (dsimp only; omega) | (simp; done)), (by first | assumption | omega | (dsimp only; omega) | (simp; done)), (by first | assumption | omega | (dsimp only; omega) | (simp; done)), (by first | assumption | omega | (dsimp only; omega) | (simp; done)), (by first | assumption | omega | (dsimp only; omega) | (simp; done)), hV, hQ3⟩
        · rintro p g w48 ⟨vo, pl, hj49, hj50, hj51, ho, hp1, hp2, hpl, hln, hzl47, hV, hQ3⟩
          have hs_w48hV := hV.size
          have hs_w48hQ3 := hQ3.size
          replace ha := ha0.now hV
          replace hb := hb0.now hV
          replace hTB := hTB0 _ hQ3
          replace hTH := hTH0 _ hQ3
          refine r_know (i := 15) (v := vo) (by exact hj49) ?_
          refine r_know (i := 16) (v := .int .i64 (p.1 : Nat)) (by exact hj50) ?_
          refine r_know (i := 17) (v := .int .i64 (p.2 : Nat)) (by exact hj51) ?_
          refine r_seq ?_
          refine r_seq ?_
          refine r_region ?_
          refine r_op rfl rfl rfl (run_mv (v := .int _ _) rfl (by exact rfl)) ?_
          refine r_op rfl rfl rfl (run_mv (v := .slice _ _ _) rfl (by exact rfl)) ?_
          refine r_op rfl rfl rfl (run_lenSl rfl (by exact rfl) Try.underlying22) ?_
          refine r_op rfl rfl rfl (run_lss rfl (by exact rfl) (by exact rfl)) ?_
          refine r_op rfl rfl rfl (run_mv (v := .bool _) rfl (by exact rfl)) ?_
          refine r_g rfl (wantF (by exact rfl)) rfl (fun hg => run_mv (v := .int _ _) rfl (by exact rfl)) ?_
          refine r_g rfl (wantF (by exact rfl)) rfl (fun hg => run_mv (v := .slice _ _ _) rfl (by exact rfl)) ?_
          refine r_g rfl (wantF (by exact rfl)) rfl (fun hg => run_lenSl rfl (glv (by exact rfl) (fun h => h) hg) Try.underlying22) ?_
          refine r_g rfl (wantF (by exact rfl)) rfl (fun hg => run_lss rfl (glv (by exact rfl) (fun h => h) hg) (glv (by exact rfl) (fun h => h) hg)) ?_
          refine r_op rfl rfl rfl (run_pick_or rfl (by exact rfl) rfl (fun hq => glv (by exact rfl) (fun h => h) hq)) ?_
          refine r_nil ?_
          refine r_cond (by exact rfl) (fun hc52 => ?_) (fun hc52 => ?_)
          · skip
            refine r_skip ?_
            refine r_block ?_
            refine r_seq ?_
            have hbs : (∃ y, y < 6 ∧ (beA a b p.1 p.2).2 = stp y) ∧ (p.1 + (beA a b p.1 p.2).2.1) ≤ a.length ∧ (p.2 + (beA a b p.1 p.2).2.2) ≤ b.length := by
              have h := best_step (cst := costF ourCost a b) hp1 hp2 (by omega)
              exact ⟨h.1, h.2.1, h.2.2.1⟩
            obtain ⟨⟨y, hy, hys⟩, hs1, hs2⟩ := hbs
            have hsb := stp_bd y
            rw [← hys] at hsb
            refine r_region ?_
            refine r_op rfl rfl rfl (run_mv (v := .slice (some ⟨btH, 0, none⟩) _ _) rfl (by exact rfl)) ?_
            refine r_op rfl rfl rfl (run_mv (v := .int _ _) rfl (by exact rfl)) ?_
            refine r_op rfl rfl rfl (run_ix (p.1) rfl Try.underlying84 ty_85 (by exact rfl) (by exact rfl) (by first | exact rfl | omega) (by omega) rfl) ?_
            refine r_op rfl rfl rfl (run_ld1 rfl ag_85 (by exact rfl) (hTH.load p.1 (by omega) (by omega))) ?_
            refine r_op rfl rfl rfl (run_mv (v := .int _ _) rfl (by exact rfl)) ?_
            refine r_op rfl rfl rfl (run_ix (p.2) rfl Try.underlying85 ty_50 (by exact rfl) (by exact rfl) (by first | exact rfl | omega) (by omega) rfl) ?_
            refine r_op rfl rfl rfl (run_ldN (cs := [_, _]) rfl ag_50 ty_50 (by exact rfl) rfl (tab_atF hTH p.1 p.2 (by omega) (by omega) (by omega))) ?_
            have hob53 := fun g hg => (ho.block (g := g) hg).2
            refine r_var (zs := [_, _]) (vs := [_, _]) ty_50 (by exact rfl) rfl (by exact rfl) (fun _ => rfl) (by exact rfl) rfl rfl (by exact rfl) ?_
            intro b54 w55 heb54 hEw55 hbb54 hzb54
            have hs_w55 := (hEw55).size
            replace hV := evo_step0 hV hEw55
            replace hQ3 := evo_step0 hQ3 hEw55
            replace ha := ha0.now hV
            replace hb := hb0.now hV
            replace hTB := hTB0 _ hQ3
            replace hTH := hTH0 _ hQ3
            replace ho := ho.evo0 hEw55
            have hAb54 := hbb54.at
            refine r_nil ?_
            refine r_seq ?_
            refine r_region ?_
            refine r_op rfl rfl rfl (run_mv (v := vo) rfl (by exact rfl)) ?_
            refine r_op rfl rfl rfl (run_mv (v := .int _ _) rfl (by exact rfl)) ?_
            refine r_op rfl rfl rfl (run_mv (v := .int _ _) rfl (by exact rfl)) ?_
            refine r_op rfl rfl rfl (run_ixP (0) rfl Try.underlying50 ty_3 (by exact rfl) (by exact rfl) (by exact rfl) (by omega)) ?_
            refine r_op rfl rfl rfl (run_ld1 rfl ag_3 (by exact rfl) (hAb54.cell 0 (by exact rfl))) ?_
            refine r_op rfl rfl rfl (run_add rfl (by exact rfl) (by exact rfl) (by omega) (by omega)) ?_
            refine r_op rfl rfl rfl (run_bld (pv := [(0, .int _ _), (1, .int _ _)]) (zs := [_, _]) (cells := [_, _]) rfl ty_39 (by exact rfl) pl_39 (by exact rfl) (by exact rfl)) ?_
            refine r_op rfl rfl rfl (run_mv (v := .int _ _) rfl (by exact rfl)) ?_
            refine r_op rfl rfl rfl (run_mv (v := .int _ _) rfl (by exact rfl)) ?_
            refine r_op rfl rfl rfl (run_ixP (1) rfl Try.underlying50 ty_3 (by exact rfl) (by exact rfl) (by exact rfl) (by omega)) ?_
            refine r_op rfl rfl rfl (run_ld1 rfl ag_3 (by exact rfl) (hAb54.cell 1 (by exact rfl))) ?_
            refine r_op rfl rfl rfl (run_add rfl (by exact rfl) (by exact rfl) (by omega) (by omega)) ?_
            refine r_op rfl rfl rfl (run_bld (pv := [(0, .int _ _), (1, .int _ _)]) (zs := [_, _]) (cells := [_, _]) rfl ty_39 (by exact rfl) pl_39 (by exact rfl) (by exact rfl)) ?_
            refine r_op rfl rfl rfl (run_bld (pv := [(0, .agg _), (1, .agg _)]) (zs := [_, _, _, _]) (cells := [_, _, _, _]) rfl ty_41 (by exact rfl) pl_41 (by exact rfl) (by exact rfl)) ?_
            refine r_append1E (u := .agg _) (y := ⟨_, _, _, _⟩) rfl rfl Try.underlying33 ty_41 (by exact rfl) ho (fun _ => (by exact rfl)) (by exact rfl) (by exact rfl) (by omega) (by omega) (by omega) ?_
            intro q_v56 v56 w57 hEw57 hov56 hlv56
            have hs_w57 := (hEw57).size
            replace hV := evo_stepo hV hEw57 (fun g hg => .inl (by first | exact (ho.block hg).1 | (have := ho.block hg; omega)))
            replace hQ3 := evo_stepo hQ3 hEw57 (fun g hg => .inl (by first | exact (ho.block hg).1 | (have := ho.block hg; omega)))
            replace ha := ha0.now hV
            replace hb := hb0.now hV
            replace hTB := hTB0 _ hQ3
            replace hTH := hTH0 _ hQ3
            replace hbb54 := hbb54.evo hEw57 (by intro hm; have hm2 := Option.mem_toList.1 hm; have := hob53 _ hm2; omega)
            replace hAb54 := hAb54.evo hEw57 (by intro hm; have hm2 := Option.mem_toList.1 hm; have := hob53 _ hm2; omega)
            refine r_op rfl rfl rfl (run_asg (v := v56) rfl (by exact rfl)) ?_
            refine r_nil ?_
            refine r_qregion (by kernel_rfl) (by kernel_rfl) ?_
            refine q_op rfl rfl rfl (fun w' hC => run_mv (v := .int _ _) rfl (by exact rfl)) ?_
            refine q_op rfl rfl rfl (fun w' hC => run_ixP (0) rfl Try.underlying50 ty_3 (by exact rfl) (by exact rfl) (by exact rfl) (by omega)) ?_
            refine q_op rfl rfl rfl (fun w' hC => run_ld1 rfl ag_3 (by exact rfl) ((hAb54.evo0 hC).cell 0 (by exact rfl))) ?_
            refine q_op rfl rfl rfl (fun w' hC => run_add rfl (by exact rfl) (by exact rfl) (by omega) (by omega)) ?_
            refine q_op rfl rfl rfl (fun w' hC => run_mv (v := .int _ _) rfl (by exact rfl)) ?_
            refine q_op rfl rfl rfl (fun w' hC => run_ixP (1) rfl Try.underlying50 ty_3 (by exact rfl) (by exact rfl) (by exact rfl) (by omega)) ?_
            refine q_op rfl rfl rfl (fun w' hC => run_ld1 rfl ag_3 (by exact rfl) ((hAb54.evo0 hC).cell 1 (by exact rfl))) ?_
            refine q_op rfl rfl rfl (fun w' hC => run_add rfl (by exact rfl) (by exact rfl) (by omega) (by omega)) ?_
            refine q_op rfl rfl rfl (fun w' hC => run_asg (v := .int _ _) rfl (by exact rfl)) ?_
            refine q_op rfl rfl rfl (fun w' hC => run_asg (v := .int _ _) rfl (by exact rfl)) ?_
            refine q_nil (fun w58 hE59 => ?_)
            have hs_w58 := (hE59).size
            replace hV := evo_step0 hV hE59
            replace hQ3 := evo_step0 hQ3 hE59
            replace ha := ha0.now hV
            replace hb := hb0.now hV
            replace hTB := hTB0 _ hQ3
            replace hTH := hTH0 _ hQ3
            replace hov56 := hov56.evo0 hE59
            refine r_blk ?_
            refine r_again ((p.1 + (beA a b p.1 p.2).2.1), (p.2 + (beA a b p.1 p.2).2.2)) ?_ ?_ ?_
            · first | omega | (dsimp only; omega)
            · refine ⟨_, _, (by first | exact rfl | exact congrArg (Value.int _) (by omega) | exact congrArg (Value.int _) (by dsimp only; omega) | exact congrArg (Value.int _) (by simp) | exact congrArg S (by simp)), (by first | exact rfl | exact congrArg (Value.int _) (by omega) | exact congrArg (Value.int _) (by dsimp only; omega) | exact congrArg (Value.int _) (by simp) | exact congrArg S (by simp)), (by first | exact rfl | exact congrArg (Value.int _) (by omega) | exact congrArg (Value.int _) (by dsimp only; omega) | exact congrArg (Value.int _) (by simp) | exact congrArg S (by simp)), hov56, (by first | assumption | omega | (dsimp only; omega) | (simp; done)), (by first | assumption | omega | (dsimp only; omega) | (simp; done)), (by rw [← hpl, trc_step hp1 hp2 (by omega)]; simp), (by simp only [List.length_append, List.length_cons, List.length_nil]; omega), (by first | assumption | omega | (dsimp only; omega) | (simp; done)), hV, hQ3⟩
            · repeat (first | (with_reducible exact Agree.merge _ _ _) | (with_reducible exact Agree.refl _ _) | (with_reducible refine Agree.upd ?_ _ _ rfl) | ((with_reducible refine Agree.inner ?_ ?_); (kernel_rfl)))
          · skip
            refine r_exit rfl ?_
            refine r_seq ?_
            refine r_qregion (by kernel_rfl) (by kernel_rfl) ?_
            refine q_op rfl rfl rfl (fun w' hC => run_mv (v := vo) rfl (by exact rfl)) ?_
            refine q_op rfl rfl rfl (fun w' hC => run_mv (v := .slice (some ⟨btB, 0, none⟩) _ _) rfl (by exact rfl)) ?_
            refine q_op rfl rfl rfl (fun w' hC => run_ix (0) rfl Try.underlying83 ty_23 (by exact rfl) (by exact rfl) (by first | exact rfl | omega) (by omega) rfl) ?_
            refine q_op rfl rfl rfl (fun w' hC => run_ld1 rfl ag_23 (by exact rfl) ((hTB.evo0 hC).load 0 (by omega) (by omega))) ?_
            refine q_op rfl rfl rfl (fun w' hC => run_ix (0) rfl Try.underlying23 ty_3 (by exact rfl) (by exact rfl) (by first | exact rfl | omega) (by omega) rfl) ?_
            refine q_op rfl rfl rfl (fun w' hC => run_ld1 rfl ag_3 (by exact rfl) (tab_valF (v := .int .i64 (prA a b 0 0)) (r := []) (hTB.evo0 hC) 0 0 (by omega) (by omega) (by omega) rfl)) ?_
            refine q_op rfl rfl rfl (fun w' hC => run_asg (v := vo) rfl (by exact rfl)) ?_
            refine q_op rfl rfl rfl (fun w' hC => run_asg (v := .int _ _) rfl (by exact rfl)) ?_
            refine q_op rfl rfl rfl (fun w' hC => run_asg (v := .int _ _) rfl (by exact rfl)) ?_
            refine q_nil (fun w60 hE61 => ?_)
            have hs_w60 := (hE61).size
            replace hV := evo_step0 hV hE61
            replace hQ3 := evo_step0 hQ3 hE61
            replace ha := ha0.now hV
            replace hb := hb0.now hV
            replace hTB := hTB0 _ hQ3
            replace hTH := hTH0 _ hQ3
            replace ho := ho.evo0 hE61
            refine r_ret (res3 (v := vo) (u := .int _ _) (x := .int _ _) rfl (by exact rfl) (by exact rfl) (by exact rfl)) ?_
            exact ⟨_, by rw [show alignL a b = _ from if_neg (by omega)], hV, by
              rw [show alignL a b = _ from if_neg (by omega)]
              rw [trc_end (by omega), List.append_nil] at hpl
              rw [← hpl]
              exact ho.base_le (by omega)⟩

end Go.Proofs.Ythfahceagabhiaa
