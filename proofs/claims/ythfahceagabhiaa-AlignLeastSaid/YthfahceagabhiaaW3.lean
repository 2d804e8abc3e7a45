import Derived.Test.YthfahceagabhiaaW2
import Derived.Test.YthfahceagabhiaaPc
namespace Go.Proofs.Ythfahceagabhiaa
open Go.RowKit Go.Vc
theorem ag_76 : aggP Try.prog 76 = some false := by kernel_rfl
theorem ag_78 : aggP Try.prog 78 = some true := by kernel_rfl
theorem ag_80 : aggP Try.prog 80 = some true := by kernel_rfl
theorem fo_78_0 : fieldP Try.prog 78 0 = some 0 := by kernel_rfl
theorem fo_78_1 : fieldP Try.prog 78 1 = some 1 := by kernel_rfl
theorem fo_80_0 : fieldP Try.prog 80 0 = some 0 := by kernel_rfl
theorem fo_80_1 : fieldP Try.prog 80 1 = some 1 := by kernel_rfl
theorem pl_39 : placesP Try.prog 39 = some [(0, 1), (1, 1)] := by kernel_rfl
theorem pl_41 : placesP Try.prog 41 = some [(0, 2), (2, 2)] := by kernel_rfl
theorem pl_78 : placesP Try.prog 78 = some [(0, 1), (1, 1)] := by kernel_rfl
theorem pl_80 : placesP Try.prog 80 = some [(0, 1), (1, 2)] := by kernel_rfl
theorem ty_39 : tyP Try.prog 39 = some (2, 16, some (.agg #[(.int .i64 0), (.int .i64 0)])) := by kernel_rfl
theorem ty_41 : tyP Try.prog 41 = some (4, 32, some (.agg #[(.int .i64 0), (.int .i64 0), (.int .i64 0), (.int .i64 0)])) := by kernel_rfl
theorem ty_76 : tyP Try.prog 76 = some (1, 24, some (.slice none 0 0)) := by kernel_rfl
theorem ty_78 : tyP Try.prog 78 = some (2, 16, some (.agg #[(.int .i64 0), (.int .i64 0)])) := by kernel_rfl
theorem ty_80 : tyP Try.prog 80 = some (3, 24, some (.agg #[(.int .i64 0), (.int .i64 0), (.int .i64 0)])) := by kernel_rfl
theorem steps_calls  {w0 : World}  :
    Calls Try.prog 36 #[] w0 fun e w' => ∃ b, e = .returned (.slice (some ⟨b, 0, none⟩) 6 6) ∧ Evo w0 w' [] ∧ w0.heap.size ≤ b ∧ RowE w' (some ⟨b, 0, none⟩) b 0 6 stepsR := by
  refine calls_enter (n := 8) (args := []) Try.func36 rfl Try.ntmps36 rfl ?_
  have hV : Evo w0 w0 [] := Evo.refl _ _
  refine r_seq ?_
  refine r_region ?_
  refine r_op rfl rfl rfl (run_asg (v := .slice _ _ _) rfl (by exact rfl)) ?_
  refine r_nil ?_
  refine r_seq ?_
  refine r_region ?_
  refine r_op rfl rfl rfl (run_bld (pv := [(0, .int _ _), (1, .int _ _)]) (zs := [_, _]) (cells := [_, _]) rfl ty_78 (by exact rfl) pl_78 (by exact rfl) (by exact rfl)) ?_
  refine r_op rfl rfl rfl (run_bld (pv := [(0, .int _ _), (1, .int _ _)]) (zs := [_, _]) (cells := [_, _]) rfl ty_78 (by exact rfl) pl_78 (by exact rfl) (by exact rfl)) ?_
  refine r_op rfl rfl rfl (run_bld (pv := [(0, .int _ _), (1, .int _ _)]) (zs := [_, _]) (cells := [_, _]) rfl ty_78 (by exact rfl) pl_78 (by exact rfl) (by exact rfl)) ?_
  refine r_op rfl rfl rfl (run_bld (pv := [(0, .int _ _), (1, .int _ _)]) (zs := [_, _]) (cells := [_, _]) rfl ty_78 (by exact rfl) pl_78 (by exact rfl) (by exact rfl)) ?_
  refine r_op rfl rfl rfl (run_bld (pv := [(0, .int _ _), (1, .int _ _)]) (zs := [_, _]) (cells := [_, _]) rfl ty_78 (by exact rfl) pl_78 (by exact rfl) (by exact rfl)) ?_
  refine r_op rfl rfl rfl (run_bld (pv := [(0, .int _ _), (1, .int _ _)]) (zs := [_, _]) (cells := [_, _]) rfl ty_78 (by exact rfl) pl_78 (by exact rfl) (by exact rfl)) ?_
  refine r_bslice (pv := [(0, .agg _), (1, .agg _), (2, .agg _), (3, .agg _), (4, .agg _), (5, .agg _)]) (zs := [_, _]) (cs := [_, _, _, _, _, _, _, _, _, _, _, _]) Try.underlying81 ty_78 (by exact rfl) rfl (by exact rfl) rfl (by exact rfl) ?_
  intro b1 w2 heb1 hEw2 hbb1 hzb1
  have hs_w2 := (hEw2).size
  replace hV := evo_step0 hV hEw2
  have hAb1 := hbb1.at
  have hrb1 : RowE w2 (some ⟨b1, 0, none⟩) b1 0 6 stepsR := rowLit stepsR hbb1 rfl rfl
  refine r_op rfl rfl rfl (run_asg (v := .slice (some ⟨b1, 0, none⟩) _ _) rfl (by exact rfl)) ?_
  refine r_nil ?_
  refine r_ret (res1 (v := .slice (some ⟨b1, 0, none⟩) _ _) rfl (by exact rfl)) ?_
  exact ⟨_, rfl, hV, by omega, hrb1⟩

theorem align_calls {aoa aob : Option Addr} {ba offa capa bb offb capb : Nat} {a b : List Side} {w0 : World} (ha : RowR w0 aoa ba offa capa a) (hb : RowR w0 aob bb offb capb b) :
    Calls Try.prog 17 #[.slice aoa a.length capa, .slice aob b.length capb] w0 fun e w' => ∃ v, e = .returned (.tuple #[v, .int .i64 (alignL a b).2.1, .int .i64 (alignL a b).2.2]) ∧ Evo w0 w' [] ∧ OwnE w' w0.heap.size 41 v (alignL a b).1 := by
  refine calls_enter (n := 185) (args := [.slice aoa a.length capa, .slice aob b.length capb]) Try.func17 rfl Try.ntmps17 rfl ?_
  have hV : Evo w0 w0 [] := Evo.refl _ _
  have ha0 := ha.keep
  have hbd_ha := ha.bd
  have hb0 := hb.keep
  have hbd_hb := hb.bd
  refine r_seq ?_
  refine r_region ?_
  refine r_op rfl rfl rfl (run_asg (v := .slice _ _ _) rfl (by exact rfl)) ?_
  refine r_op rfl rfl rfl (run_asg (v := .int _ _) rfl (by exact rfl)) ?_
  refine r_op rfl rfl rfl (run_asg (v := .int _ _) rfl (by exact rfl)) ?_
  refine r_nil ?_
  refine r_seq ?_
  refine r_seq ?_
  refine r_region ?_
  refine r_op rfl rfl rfl (run_mv (v := .slice _ _ _) rfl (by exact rfl)) ?_
  refine r_op rfl rfl rfl (run_lenSl rfl (by exact rfl) Try.underlying22) ?_
  refine r_op rfl rfl rfl (run_gtr rfl (by exact rfl) (by exact rfl)) ?_
  refine r_op rfl rfl rfl (run_mv (v := .bool _) rfl (by exact rfl)) ?_
  refine r_g rfl (wantF (by exact rfl)) rfl (fun hg => run_mv (v := .slice _ _ _) rfl (by exact rfl)) ?_
  refine r_g rfl (wantF (by exact rfl)) rfl (fun hg => run_lenSl rfl (glv (by exact rfl) (fun h => h) hg) Try.underlying22) ?_
  refine r_g rfl (wantF (by exact rfl)) rfl (fun hg => run_gtr rfl (glv (by exact rfl) (fun h => h) hg) (by exact rfl)) ?_
  refine r_op rfl rfl rfl (run_pick_or rfl (by exact rfl) rfl (fun hq => glv (by exact rfl) (fun h => h) hq)) ?_
  refine r_nil ?_
  refine r_cond (by exact rfl) (fun hc1 => ?_) (fun hc1 => ?_)
  · skip
    refine r_seq ?_
    refine r_region ?_
    refine r_op rfl rfl rfl (run_asg (v := .slice _ _ _) rfl (by exact rfl)) ?_
    refine r_op rfl rfl rfl (run_asg (v := .int _ _) rfl (by exact rfl)) ?_
    refine r_op rfl rfl rfl (run_asg (v := .int _ _) rfl (by exact rfl)) ?_
    refine r_nil ?_
    refine r_ret (res3 (v := .slice _ _ _) (u := .int _ _) (x := .int _ _) rfl (by exact rfl) (by exact rfl) (by exact rfl)) ?_
    exact ⟨_, by rw [show alignL a b = _ from if_pos (by omega)], hV, by rw [show alignL a b = _ from if_pos (by omega)]; exact OwnE.nil _ _ _⟩
  · skip
    refine r_skip ?_
    refine r_seq ?_
    refine r_region ?_
    refine r_op rfl rfl rfl (run_mv (v := .slice _ _ _) rfl (by exact rfl)) ?_
    refine r_op rfl rfl rfl (run_lenSl rfl (by exact rfl) Try.underlying22) ?_
    refine r_op rfl rfl rfl (run_add rfl (by exact rfl) (by exact rfl) (by omega) (by omega)) ?_
    refine r_make (len := (a.length + 1)) (zs := [_]) Try.underlying75 ty_76 (by exact rfl) rfl rfl (by exact rfl) (by exact rfl) (by omega) (by omega) (by omega) (by omega) ?_
    intro bt w2 hebt hEw2 hout hzbt
    have hs_w2 := (hEw2).size
    replace hV := evo_step0 hV hEw2
    replace ha := ha0.now hV
    replace hb := hb0.now hV
    refine r_op rfl rfl rfl (run_asg (v := .slice (some ⟨bt, 0, none⟩) _ _) rfl (by exact rfl)) ?_
    refine r_nil ?_
    refine r_seq ?_
    refine r_seq ?_
    refine r_region ?_
    refine r_op rfl rfl rfl (run_mv (v := .slice _ _ _) rfl (by exact rfl)) ?_
    refine r_op rfl rfl rfl (run_lenSl rfl (by exact rfl) Try.underlying22) ?_
    refine r_op rfl rfl rfl (run_asg (v := .int _ _) rfl (by exact rfl)) ?_
    refine r_nil ?_
    refine r_block ?_
    refine r_loop (α := Nat) [8, 9, 10, 12, 13, 14, 32, 33, 34, 35, 36, 37, 38, 39, 40, 41, 42, 43, 44, 45, 46, 47, 48, 49, 50, 51, 52, 53, 54, 55, 56, 57, 58, 59, 60, 61, 62, 63, 64, 65, 66, 67, 68, 69, 70, 71, 72, 73, 74, 75, 76, 77, 78, 79, 80, 81, 82, 83, 84, 85, 86, 87, 88, 89, 90, 91, 92, 93, 94, 95, 96, 97, 98, 99, 100, 101, 102, 103, 104, 105, 106, 107, 108, 109, 110, 111, 112, 113, 114, 115, 116, 117, 118, 119, 120, 121, 122, 123, 124, 125, 126, 127, 128, 129, 130, 131, 132, 133, 134, 135] (fun k g w => ∃ rb : Nat → Nat, g 8 = .int .i64 ((k : Int) - 1) ∧ k ≤ a.length + 1 ∧ Tab w w0.heap.size bt 76 80 3 (a.length + 1) (b.length + 1) k rb (tabF a b) ∧ w2.heap.size ≤ w.heap.size ∧ Evo w0 w []) (fun k => k) (a.length + 1) ?_ ?_
    · refine ⟨(fun _ => 0), (by first | exact rfl | exact congrArg (Value.int _) (by omega) | exact congrArg (Value.int _) (by dsimp only; omega) | exact congrArg (Value.int _) (by simp) | exact congrArg S (by simp)), (by first | assumption | omega | (dsimp only; omega) | (simp; done)), (Tab.new hout (by omega) _ _), (by first | assumption | omega | (dsimp only; omega) | (simp; done)), hV⟩
    · rintro k g w4 ⟨rb, hj5, hk, hT, hzl3, hV⟩
      have hs_w4hV := hV.size
      replace ha := ha0.now hV
      replace hb := hb0.now hV
      refine r_know (i := 8) (v := .int .i64 ((k : Int) - 1)) (by exact hj5) ?_
      refine r_seq ?_
      refine r_seq ?_
      refine r_region ?_
      refine r_op rfl rfl rfl (run_mv (v := .int _ _) rfl (by exact rfl)) ?_
      refine r_op rfl rfl rfl (run_geq rfl (by exact rfl) (by exact rfl)) ?_
      refine r_nil ?_
      refine r_cond (by exact rfl) (fun hc6 => ?_) (fun hc6 => ?_)
      · skip
        refine r_skip ?_
        refine r_seq ?_
        refine r_block ?_
        refine r_seq ?_
        obtain ⟨i0, rfl⟩ : ∃ i0, k = i0 + 1 := ⟨k - 1, by omega⟩
        have hT_old := hT
        have hout := hT.out
        have hbtb := hT.base
        have hbtl := hT.out.lt
        have hB7 : Evo w4 w4 [bt] := Evo.refl _ _
        refine r_region ?_
        refine r_op rfl rfl rfl (run_mv (v := .slice (some ⟨bt, 0, none⟩) _ _) rfl (by exact rfl)) ?_
        refine r_op rfl rfl rfl (run_mv (v := .int _ _) rfl (by exact rfl)) ?_
        refine r_op rfl rfl rfl (run_mv (v := .slice _ _ _) rfl (by exact rfl)) ?_
        refine r_op rfl rfl rfl (run_lenSl rfl (by exact rfl) Try.underlying22) ?_
        refine r_op rfl rfl rfl (run_add rfl (by exact rfl) (by exact rfl) (by omega) (by omega)) ?_
        refine r_make (len := (b.length + 1)) (zs := [_, _, _]) Try.underlying76 ty_80 (by exact rfl) rfl rfl (by exact rfl) (by exact rfl) (by omega) (by omega) (by omega) (by omega) ?_
        intro br w7 hebr hEw7 hrow hzbr
        have hs_w7 := (hEw7).size
        replace hV := evo_step0 hV hEw7
        replace hB7 := evo_step0 hB7 hEw7
        replace ha := ha0.now hV
        replace hb := hb0.now hV
        replace hout := hout.evo0 hEw7
        refine r_op rfl rfl rfl (run_ix (i0) rfl Try.underlying75 ty_76 (by exact rfl) (by exact rfl) (by first | exact rfl | omega) (by omega) rfl) ?_
        refine r_storeF (v := .slice (some ⟨br, 0, none⟩) _ _) (vs := [_]) (i0) (by exact rfl) rfl (by exact rfl) hout (by omega) ty_76 (by exact rfl) rfl (by exact rfl) ?_
        intro w8 hEw8 hzw8 hb_new
        have hs_w8 := (hEw8).size
        replace hV := evo_step1 hV hEw8 (by first | exact .inl (by omega) | exact .inr (by simp))
        replace hB7 := evo_step1 hB7 hEw8 (by first | exact .inl (by omega) | exact .inr (by simp))
        replace ha := ha0.now hV
        replace hb := hb0.now hV
        replace hrow := hrow.evo hEw8 (by simp; omega)
        replace hout := hb_new
        clear hb_new
        refine r_nil ?_
        refine r_seq ?_
        have hT := tab_add hT_old (by omega) (b' := br) (by omega) (by omega) hB7 hout hrow rfl
        obtain ⟨rb1, hrb1⟩ : ∃ r, r = (fun q => if q = i0 then br else rb q) := ⟨_, rfl⟩
        rw [← hrb1] at hT
        refine r_region ?_
        refine r_op rfl rfl rfl (run_mv (v := .slice _ _ _) rfl (by exact rfl)) ?_
        refine r_op rfl rfl rfl (run_lenSl rfl (by exact rfl) Try.underlying22) ?_
        refine r_op rfl rfl rfl (run_asg (v := .int _ _) rfl (by exact rfl)) ?_
        refine r_nil ?_
        refine r_block ?_
        refine r_loop (α := Nat) [9, 10, 12, 13, 14, 45, 46, 47, 48, 49, 50, 51, 52, 53, 54, 55, 56, 57, 58, 59, 60, 61, 62, 63, 64, 65, 66, 67, 68, 69, 70, 71, 72, 73, 74, 75, 76, 77, 78, 79, 80, 81, 82, 83, 84, 85, 86, 87, 88, 89, 90, 91, 92, 93, 94, 95, 96, 97, 98, 99, 100, 101, 102, 103, 104, 105, 106, 107, 108, 109, 110, 111, 112, 113, 114, 115, 116, 117, 118, 119, 120, 121, 122, 123, 124, 125, 126, 127, 128, 129, 130, 131, 132, 133, 134, 135] (fun q g w => g 9 = .int .i64 ((q : Int) - 1) ∧ q ≤ b.length + 1 ∧ Tab w w0.heap.size bt 76 80 3 (a.length + 1) (b.length + 1) i0 rb1 (tabC a b i0 q) ∧ w8.heap.size ≤ w.heap.size ∧ Evo w0 w []) (fun q => q) (b.length + 1) ?_ ?_
        · refine ⟨(by first | exact rfl | exact congrArg (Value.int _) (by omega) | exact congrArg (Value.int _) (by dsimp only; omega) | exact congrArg (Value.int _) (by simp) | exact congrArg S (by simp)), (by first | assumption | omega | (dsimp only; omega) | (simp; done)), (by first | assumption | omega | (dsimp only; omega) | (simp; done)), (by first | assumption | omega | (dsimp only; omega) | (simp; done)), hV⟩
        · rintro q g w10 ⟨hj11, hq, hT, hzl9, hV⟩
          have hs_w10hV := hV.size
          replace ha := ha0.now hV
          replace hb := hb0.now hV
          refine r_know (i := 9) (v := .int .i64 ((q : Int) - 1)) (by exact hj11) ?_
          refine r_seq ?_
          refine r_seq ?_
          refine r_region ?_
          refine r_op rfl rfl rfl (run_mv (v := .int _ _) rfl (by exact rfl)) ?_
          refine r_op rfl rfl rfl (run_geq rfl (by exact rfl) (by exact rfl)) ?_
          refine r_nil ?_
          refine r_cond (by exact rfl) (fun hc12 => ?_) (fun hc12 => ?_)
          · skip
            refine r_skip ?_
            refine r_seq ?_
            refine r_block ?_
            refine r_seq ?_
            refine r_seq ?_
            obtain ⟨j0, rfl⟩ : ∃ j0, q = j0 + 1 := ⟨q - 1, by omega⟩
            refine r_region ?_
            refine r_op rfl rfl rfl (run_mv (v := .int _ _) rfl (by exact rfl)) ?_
            refine r_op rfl rfl rfl (run_mv (v := .slice _ _ _) rfl (by exact rfl)) ?_
            refine r_op rfl rfl rfl (run_lenSl rfl (by exact rfl) Try.underlying22) ?_
            refine r_op rfl rfl rfl (run_eql rfl (by exact rfl) (by exact rfl)) ?_
            refine r_op rfl rfl rfl (run_mv (v := .bool _) rfl (by exact rfl)) ?_
            refine r_g rfl (wantT (by exact rfl)) rfl (fun hg => run_mv (v := .int _ _) rfl (by exact rfl)) ?_
            refine r_g rfl (wantT (by exact rfl)) rfl (fun hg => run_mv (v := .slice _ _ _) rfl (by exact rfl)) ?_
            refine r_g rfl (wantT (by exact rfl)) rfl (fun hg => run_lenSl rfl (glv (by exact rfl) (fun h => h) hg) Try.underlying22) ?_
            refine r_g rfl (wantT (by exact rfl)) rfl (fun hg => run_eql rfl (glv (by exact rfl) (fun h => h) hg) (glv (by exact rfl) (fun h => h) hg)) ?_
            refine r_op rfl rfl rfl (run_pick_and rfl (by exact rfl) (fun hq => glv (by exact rfl) (fun h => h) hq) rfl) ?_
            refine r_nil ?_
            refine r_cond (by exact rfl) (fun hc13 => ?_) (fun hc13 => ?_)
            · skip
              refine r_exit rfl ?_
              refine r_region ?_
              refine r_op rfl rfl rfl (run_mv (v := .int _ _) rfl (by exact rfl)) ?_
              refine r_op rfl rfl rfl (run_sub rfl (by exact rfl) (by exact rfl) (by omega) (by omega)) ?_
              refine r_op rfl rfl rfl (run_asg (v := .int _ _) rfl (by exact rfl)) ?_
              refine r_nil ?_
              refine r_again j0 ?_ ?_ ?_
              · first | omega | (dsimp only; omega)
              · refine ⟨(congrArg (Value.int _) (by omega)), (by first | assumption | omega | (dsimp only; omega) | (simp; done)), (by first | exact tab_corner hT (by omega) (by omega) | exact tab_done hT_old (by omega) hCst hcur (congrArg cellV (bs_done (by omega) (by omega) (by omega) _))), (by first | assumption | omega | (dsimp only; omega) | (simp; done)), hV⟩
              · repeat (first | (with_reducible exact Agree.merge _ _ _) | (with_reducible exact Agree.refl _ _) | (with_reducible refine Agree.upd ?_ _ _ rfl) | ((with_reducible refine Agree.inner ?_ ?_); (kernel_rfl)))
            · skip
              refine r_skip ?_
              refine r_seq ?_
              have hlt0 := hT.lt
              have hlti := hlt0.2 i0 (Nat.le_refl _) (by omega)
              have hQ2 : Evo w10 w10 [] := Evo.refl _ _
              have hT0 := fun (w' : World) (h : Evo w10 w' []) => hT.evo0 h
              refine r_region ?_
              refine r_op rfl rfl rfl (run_bld (pv := [(0, .int _ _)]) (zs := [_, _, _]) (cells := [_, _, _]) rfl ty_80 (by exact rfl) pl_80 (by exact rfl) (by exact rfl)) ?_
              refine r_var (zs := [_, _, _]) (vs := [_, _, _]) ty_80 (by exact rfl) rfl (by exact rfl) (fun _ => rfl) (by exact rfl) rfl rfl (by exact rfl) ?_
              intro b14 w15 heb14 hEw15 hbb14 hzb14
              have hs_w15 := (hEw15).size
              replace hV := evo_step0 hV hEw15
              replace hQ2 := evo_step0 hQ2 hEw15
              replace ha := ha0.now hV
              replace hb := hb0.now hV
              replace hT := hT0 _ hQ2
              have hAb14 := hbb14.at
              refine r_nil ?_
              refine r_seq ?_
              refine r_seq ?_
              refine r_region ?_
              refine r_opcall rfl rfl rfl (run_callf (vs := []) rfl (by exact rfl) Try.func36 rfl (by kernel_rfl)) steps_calls ?_
              rintro e w16 ⟨bs16, rfl, hE16, hbs16, hst16⟩
              refine ⟨_, rfl, ?_⟩
              have hs_w16 := (hE16).size
              replace hV := evo_step0 hV hE16
              replace hQ2 := evo_step0 hQ2 hE16
              replace ha := ha0.now hV
              replace hb := hb0.now hV
              replace hT := hT0 _ hQ2
              replace hbb14 := hbb14.evo0 hE16
              replace hAb14 := hAb14.evo0 hE16
              refine r_op rfl rfl rfl (run_lenSl rfl (by exact rfl) Try.underlying81) ?_
              refine r_op rfl rfl rfl (run_mv (v := .int _ _) rfl (by exact rfl)) ?_
              refine r_nil ?_
              refine r_block ?_
              refine r_loop (α := Nat) [12, 13, 14, 62, 63, 64, 65, 66, 67, 68, 69, 70, 71, 72, 73, 74, 75, 76, 77, 78, 79, 80, 81, 82, 83, 84, 85, 86, 87, 88, 89, 90, 91, 92, 93, 94, 95, 96, 97, 98, 99, 100, 101, 102, 103, 104, 105, 106, 107, 108, 109, 110, 111, 112, 113, 114, 115, 116, 117, 118, 119, 120, 121, 122, 123, 124, 125, 126, 127, 128] (fun x g w => g 62 = .int .i64 (x : Nat) ∧ x ≤ 6 ∧ RowE w (some ⟨bs16, 0, none⟩) bs16 0 6 stepsR ∧ Blk w b14 80 (cellV ((bsA a b i0 j0 x).getD (-1, 0, 0))) ∧ At w b14 0 (cellV ((bsA a b i0 j0 x).getD (-1, 0, 0))) ∧ w16.heap.size ≤ w.heap.size ∧ Evo w0 w [] ∧ Evo w10 w []) (fun x => 6 - x) 0 ?_ ?_
              · refine ⟨(by first | exact rfl | exact congrArg (Value.int _) (by omega) | exact congrArg (Value.int _) (by dsimp only; omega) | exact congrArg (Value.int _) (by simp) | exact congrArg S (by simp)), (by first | assumption | omega | (dsimp only; omega) | (simp; done)), (by first | assumption | omega | (dsimp only; omega) | (simp; done)), (by first | assumption | omega | (dsimp only; omega) | (simp; done)), (by first | assumption | omega | (dsimp only; omega) | (simp; done)), (by first | assumption | omega | (dsimp only; omega) | (simp; done)), hV, hQ2⟩
              · rintro x g w18 ⟨hj19, hk_x, hst16, hbb14, hAb14, hzl17, hV, hQ2⟩
                have hs_w18hV := hV.size
                have hs_w18hQ2 := hQ2.size
                have hlt20 := hbb14.lt
                replace ha := ha0.now hV
                replace hb := hb0.now hV
                replace hT := hT0 _ hQ2
                refine r_know (i := 62) (v := .int .i64 (x : Nat)) (by exact hj19) ?_
                refine r_seq ?_
                refine r_region ?_
                refine r_op rfl rfl rfl (run_lss rfl (by exact rfl) (by exact rfl)) ?_
                refine r_nil ?_
                refine r_seq ?_
                refine r_cond (by exact rfl) (fun hc21 => ?_) (fun hc21 => ?_)
                · skip
                  refine r_skip ?_
                  refine r_seq ?_
                  refine r_block ?_
                  refine r_seq ?_
                  have hst1 := stepsR_at x (by omega)
                  have hsb := stp_bd x
                  refine r_region ?_
                  refine r_op rfl rfl rfl (run_ix (x) rfl Try.underlying81 ty_78 (by exact rfl) (by exact rfl) (by first | exact rfl | omega) (by first | omega | (show x < 6; omega)) (hst16.addr (i := x) (by first | omega | (show x < 6; omega)))) ?_
                  have hA22 := hst16.atD (x) (by first | omega | (show x < 6; omega))
                  refine r_op rfl rfl rfl (run_ldN rfl ag_78 ty_78 (by exact rfl) rfl hA22) ?_
                  refine r_var (zs := [_, _]) (vs := [_, _]) ty_78 (by exact rfl) rfl (by exact rfl) (fun _ => rfl) (by exact rfl) rfl rfl (by exact rfl) ?_
                  intro b23 w24 heb23 hEw24 hbb23 hzb23
                  have hs_w24 := (hEw24).size
                  replace hV := evo_step0 hV hEw24
                  replace hQ2 := evo_step0 hQ2 hEw24
                  replace ha := ha0.now hV
                  replace hb := hb0.now hV
                  replace hT := hT0 _ hQ2
                  replace hst16 := hst16.evo0 hEw24
                  replace hbb14 := hbb14.evo0 hEw24
                  replace hAb14 := hAb14.evo0 hEw24
                  have hAb23 := hbb23.at
                  refine r_nil ?_
                  refine r_seq ?_
                  refine r_seq ?_
                  refine r_region ?_
                  refine r_op rfl rfl rfl (run_mv (v := .int _ _) rfl (by exact rfl)) ?_
                  refine r_op rfl rfl rfl (run_fa rfl (by exact rfl) fo_78_0) ?_
                  refine r_op rfl rfl rfl (run_ld1 rfl ag_3 (by exact rfl) (hAb23.cell 0 (by exact rfl))) ?_
                  refine r_op rfl rfl rfl (run_add rfl (by exact rfl) (by exact rfl) (by omega) (by omega)) ?_
                  refine r_op rfl rfl rfl (run_mv (v := .slice _ _ _) rfl (by exact rfl)) ?_
                  refine r_op rfl rfl rfl (run_lenSl rfl (by exact rfl) Try.underlying22) ?_
                  refine r_op rfl rfl rfl (run_gtr rfl (by exact rfl) (by exact rfl)) ?_
                  refine r_op rfl rfl rfl (run_mv (v := .bool _) rfl (by exact rfl)) ?_
                  refine r_g rfl (wantF (by exact rfl)) rfl (fun hg => run_mv (v := .int _ _) rfl (by exact rfl)) ?_
                  refine r_g rfl (wantF (by exact rfl)) rfl (fun hg => run_fa rfl (by exact rfl) fo_78_1) ?_
                  refine r_g rfl (wantF (by exact rfl)) rfl (fun hg => run_ld1 rfl ag_3 (glv (by exact rfl) (fun h => h) hg) (hAb23.cell 1 (by exact rfl))) ?_
                  refine r_g rfl (wantF (by exact rfl)) rfl (fun hg => run_add rfl (glv (by exact rfl) (fun h => h) hg) (glv (by exact rfl) (fun h => h) hg) (by omega) (by omega)) ?_
                  refine r_g rfl (wantF (by exact rfl)) rfl (fun hg => run_mv (v := .slice _ _ _) rfl (by exact rfl)) ?_
                  refine r_g rfl (wantF (by exact rfl)) rfl (fun hg => run_lenSl rfl (glv (by exact rfl) (fun h => h) hg) Try.underlying22) ?_
                  refine r_g rfl (wantF (by exact rfl)) rfl (fun hg => run_gtr rfl (glv (by exact rfl) (fun h => h) hg) (glv (by exact rfl) (fun h => h) hg)) ?_
                  refine r_op rfl rfl rfl (run_pick_or rfl (by exact rfl) rfl (fun hq => glv (by exact rfl) (fun h => h) hq)) ?_
                  refine r_nil ?_
                  refine r_cond (by exact rfl) (fun hc25 => ?_) (fun hc25 => ?_)
                  · skip
                    refine r_exit rfl ?_
                    refine r_region ?_
                    refine r_op rfl rfl rfl (run_add rfl (by exact rfl) (by exact rfl) (by omega) (by omega)) ?_
                    refine r_op rfl rfl rfl (run_mv (v := .int _ _) rfl (by exact rfl)) ?_
                    refine r_nil ?_
                    refine r_again (x + 1) ?_ ?_ ?_
                    · first | omega | (dsimp only; omega)
                    · refine ⟨(by first | exact rfl | exact congrArg (Value.int _) (by omega) | exact congrArg (Value.int _) (by dsimp only; omega) | exact congrArg (Value.int _) (by simp) | exact congrArg S (by simp)), (by first | assumption | omega | (dsimp only; omega) | (simp; done)), (by first | assumption | omega | (dsimp only; omega) | (simp; done)), (by first | (rw [bs_skip (by omega)]; assumption) | (rw [hbt]; assumption) | (have hz := hbb14; rw [hst1.1, hst1.2] at hz; rw [hbt]; exact hz)), (by first | (rw [bs_skip (by omega)]; assumption) | (rw [hbt]; assumption) | (have hz := hbb14; rw [hst1.1, hst1.2] at hz; rw [hbt]; exact hz.at)), (by first | assumption | omega | (dsimp only; omega) | (simp; done)), hV, hQ2⟩
                    · repeat (first | (with_reducible exact Agree.merge _ _ _) | (with_reducible exact Agree.refl _ _) | (with_reducible refine Agree.upd ?_ _ _ rfl) | ((with_reducible refine Agree.inner ?_ ?_); (kernel_rfl)))
                  · skip
                    refine r_skip ?_
                    refine r_seq ?_
                    refine r_qregion (by kernel_rfl) (by kernel_rfl) ?_
                    refine q_op rfl rfl rfl (fun w' hC => run_mv (v := .slice _ _ _) rfl (by exact rfl)) ?_
                    refine q_op rfl rfl rfl (fun w' hC => run_mv (v := .int _ _) rfl (by exact rfl)) ?_
                    refine q_op rfl rfl rfl (fun w' hC => run_mv (v := .int _ _) rfl (by exact rfl)) ?_
                    refine q_op rfl rfl rfl (fun w' hC => run_fa rfl (by exact rfl) fo_78_0) ?_
                    refine q_op rfl rfl rfl (fun w' hC => run_ld1 rfl ag_3 (by exact rfl) ((hAb23.evo0 hC).cell 0 (by exact rfl))) ?_
                    refine q_op rfl rfl rfl (fun w' hC => run_add rfl (by exact rfl) (by exact rfl) (by omega) (by omega)) ?_
                    refine q_op rfl rfl rfl (fun w' hC => run_slR (i0) ((i0 + (stp x).1)) rfl Try.underlying22 ty_67 (by exact rfl) (ha.evo0 hC) (at1 (by exact rfl) (by omega)) (at1 (by exact rfl) (by omega)) (by first | omega | (simp; omega)) (by first | omega | (simp; omega)) rfl) ?_
                    have hS260 := (ha0.take ((i0 + (stp x).1))).drop (i0)
                    have hS26 := (ha.take ((i0 + (stp x).1))).drop (i0)
                    have hbd_hS26 := hS26.bd
                    refine q_op rfl rfl rfl (fun w' hC => run_mv (v := .slice _ _ _) rfl (by exact rfl)) ?_
                    refine q_op rfl rfl rfl (fun w' hC => run_mv (v := .int _ _) rfl (by exact rfl)) ?_
                    refine q_op rfl rfl rfl (fun w' hC => run_mv (v := .int _ _) rfl (by exact rfl)) ?_
                    refine q_op rfl rfl rfl (fun w' hC => run_fa rfl (by exact rfl) fo_78_1) ?_
                    refine q_op rfl rfl rfl (fun w' hC => run_ld1 rfl ag_3 (by exact rfl) ((hAb23.evo0 hC).cell 1 (by exact rfl))) ?_
                    refine q_op rfl rfl rfl (fun w' hC => run_add rfl (by exact rfl) (by exact rfl) (by omega) (by omega)) ?_
                    refine q_op rfl rfl rfl (fun w' hC => run_slR (j0) ((j0 + (stp x).2)) rfl Try.underlying22 ty_67 (by exact rfl) (hb.evo0 hC) (at1 (by exact rfl) (by omega)) (at1 (by exact rfl) (by omega)) (by first | omega | (simp; omega)) (by first | omega | (simp; omega)) rfl) ?_
                    have hS270 := (hb0.take ((j0 + (stp x).2))).drop (j0)
                    have hS27 := (hb.take ((j0 + (stp x).2))).drop (j0)
                    have hbd_hS27 := hS27.bd
                    refine q_call rfl rfl rfl (fun w' hC => run_callf rfl (argcons (v := .slice _ _ _) (by exact rfl) (argcons (v := .slice _ _ _) (by exact rfl) (rfl))) Try.func14 rfl (by kernel_rfl)) (fun w' hC => (cost_calls (hS26.evo0 hC) (hS27.evo0 hC)).mono (fun e w'' h => ⟨h.1, evo_step0 hC h.2⟩)) ?_
                    refine q_op rfl rfl rfl (fun w' hC => run_mv (v := .tuple _) rfl (by exact rfl)) ?_
                    refine q_op rfl rfl rfl (fun w' hC => run_extract (v := .int _ _) rfl (by exact rfl) (by exact rfl)) ?_
                    refine q_op rfl rfl rfl (fun w' hC => run_extract (v := .bool _) rfl (by exact rfl) (by exact rfl)) ?_
                    refine q_op rfl rfl rfl (fun w' hC => run_asg (v := .int _ _) rfl (by exact rfl)) ?_
                    refine q_op rfl rfl rfl (fun w' hC => run_asg (v := .bool _) rfl (by exact rfl)) ?_
                    refine q_nil (fun w28 hE29 => ?_)
                    have hs_w28 := (hE29).size
                    replace hV := evo_step0 hV hE29
                    replace hQ2 := evo_step0 hQ2 hE29
                    replace ha := ha0.now hV
                    replace hb := hb0.now hV
                    replace hT := hT0 _ hQ2
                    replace hst16 := hst16.evo0 hE29
                    replace hbb14 := hbb14.evo0 hE29
                    replace hAb14 := hAb14.evo0 hE29
                    replace hbb23 := hbb23.evo0 hE29
                    replace hAb23 := hAb23.evo0 hE29
                    refine r_seq ?_
                    have hcb : 0 ≤ (ourCost ((a.take (i0 + (stp x).1)).drop i0) ((b.take (j0 + (stp x).2)).drop j0)).1 ∧ (ourCost ((a.take (i0 + (stp x).1)).drop i0) ((b.take (j0 + (stp x).2)).drop j0)).1 ≤ 200000 := costF_bd a b i0 j0 (stp x).1 (stp x).2
                    have hpb : 0 ≤ prA a b (i0 + (stp x).1) (j0 + (stp x).2) ∧ prA a b (i0 + (stp x).1) (j0 + (stp x).2) ≤ 25600000 := prc_bdA a b (i0 + (stp x).1) (j0 + (stp x).2) (by omega) (by omega) (by omega) (by omega)
                    refine r_qregion (by kernel_rfl) (by kernel_rfl) ?_
                    refine q_op rfl rfl rfl (fun w' hC => run_mv (v := .int _ _) rfl (by exact rfl)) ?_
                    refine q_op rfl rfl rfl (fun w' hC => run_mv (v := .slice (some ⟨bt, 0, none⟩) _ _) rfl (by exact rfl)) ?_
                    refine q_op rfl rfl rfl (fun w' hC => run_mv (v := .int _ _) rfl (by exact rfl)) ?_
                    refine q_op rfl rfl rfl (fun w' hC => run_fa rfl (by exact rfl) fo_78_0) ?_
                    refine q_op rfl rfl rfl (fun w' hC => run_ld1 rfl ag_3 (by exact rfl) ((hAb23.evo0 hC).cell 0 (by exact rfl))) ?_
                    refine q_op rfl rfl rfl (fun w' hC => run_add rfl (by exact rfl) (by exact rfl) (by omega) (by omega)) ?_
                    refine q_op rfl rfl rfl (fun w' hC => run_ix ((i0 + (stp x).1)) rfl Try.underlying75 ty_76 (by exact rfl) (by exact rfl) (by first | exact rfl | omega) (by omega) rfl) ?_
                    refine q_op rfl rfl rfl (fun w' hC => run_ld1 rfl ag_76 (by exact rfl) ((hT.evo0 hC).load (i0 + (stp x).1) (by omega) (by omega))) ?_
                    refine q_op rfl rfl rfl (fun w' hC => run_mv (v := .int _ _) rfl (by exact rfl)) ?_
                    refine q_op rfl rfl rfl (fun w' hC => run_fa rfl (by exact rfl) fo_78_1) ?_
                    refine q_op rfl rfl rfl (fun w' hC => run_ld1 rfl ag_3 (by exact rfl) ((hAb23.evo0 hC).cell 1 (by exact rfl))) ?_
                    refine q_op rfl rfl rfl (fun w' hC => run_add rfl (by exact rfl) (by exact rfl) (by omega) (by omega)) ?_
                    refine q_op rfl rfl rfl (fun w' hC => run_ix ((j0 + (stp x).2)) rfl Try.underlying76 ty_80 (by exact rfl) (by exact rfl) (by first | exact rfl | omega) (by omega) rfl) ?_
                    refine q_op rfl rfl rfl (fun w' hC => run_fa rfl (by exact rfl) fo_80_0) ?_
                    refine q_op rfl rfl rfl (fun w' hC => run_ld1 rfl ag_3 (by exact rfl) (tab_price (hT.evo0 hC) (i0 + (stp x).1) (j0 + (stp x).2) (by omega) (by omega) (by omega) (by omega))) ?_
                    refine q_op rfl rfl rfl (fun w' hC => run_add rfl (by exact rfl) (by exact rfl) (by omega) (by omega)) ?_
                    refine q_op rfl rfl rfl (fun w' hC => run_asg (v := .int _ _) rfl (by exact rfl)) ?_
                    refine q_nil (fun w30 hE31 => ?_)
                    have hs_w30 := (hE31).size
                    replace hV := evo_step0 hV hE31
                    replace hQ2 := evo_step0 hQ2 hE31
                    replace ha := ha0.now hV
                    replace hb := hb0.now hV
                    replace hT := hT0 _ hQ2
                    replace hst16 := hst16.evo0 hE31
                    replace hbb14 := hbb14.evo0 hE31
                    replace hAb14 := hAb14.evo0 hE31
                    replace hbb23 := hbb23.evo0 hE31
                    replace hAb23 := hAb23.evo0 hE31
                    refine r_seq ?_
                    refine r_region ?_
                    refine r_op rfl rfl rfl (run_fa rfl (by exact rfl) fo_80_0) ?_
                    refine r_op rfl rfl rfl (run_ld1 rfl ag_3 (by exact rfl) (hAb14.cell 0 (by exact rfl))) ?_
                    refine r_op rfl rfl rfl (run_lss rfl (by exact rfl) (by exact rfl)) ?_
                    refine r_op rfl rfl rfl (run_mv (v := .bool _) rfl (by exact rfl)) ?_
                    refine r_g rfl (wantF (by exact rfl)) rfl (fun hg => run_mv (v := .int _ _) rfl (by exact rfl)) ?_
                    refine r_g rfl (wantF (by exact rfl)) rfl (fun hg => run_fa rfl (by exact rfl) fo_80_0) ?_
                    refine r_g rfl (wantF (by exact rfl)) rfl (fun hg => run_ld1 rfl ag_3 (glv (by exact rfl) (fun h => h) hg) (hAb14.cell 0 (by exact rfl))) ?_
                    refine r_g rfl (wantF (by exact rfl)) rfl (fun hg => run_lss rfl (glv (by exact rfl) (fun h => h) hg) (glv (by exact rfl) (fun h => h) hg)) ?_
                    refine r_op rfl rfl rfl (run_pick_or rfl (by exact rfl) rfl (fun hq => glv (by exact rfl) (fun h => h) hq)) ?_
                    refine r_nil ?_
                    refine r_cond (by exact rfl) (fun hc32 => ?_) (fun hc32 => ?_)
                    · skip
                      have hbt := bs_take (by omega) (by omega) (-1, 0, 0) ⟨by omega, by omega⟩ (hc32.imp (bs_none (by omega) (by omega)).2 id)
                      refine r_region ?_
                      refine r_op rfl rfl rfl (run_mv (v := .int _ _) rfl (by exact rfl)) ?_
                      refine r_op rfl rfl rfl (run_ldN rfl ag_78 ty_78 (by exact rfl) rfl hAb23) ?_
                      refine r_op rfl rfl rfl (run_bld (pv := [(0, .int _ _), (1, .agg _)]) (zs := [_, _, _]) (cells := [_, _, _]) rfl ty_80 (by exact rfl) pl_80 (by exact rfl) (by exact rfl)) ?_
                      refine r_store (v := .agg _) (vs := [_, _, _]) (cs' := [_, _, _]) (by exact rfl) (by exact rfl) hbb14 ty_80 (by exact rfl) rfl (by exact rfl) rfl (by exact rfl) ?_
                      intro w33 hEw33 hzw33 hb_new
                      have hs_w33 := (hEw33).size
                      replace hV := evo_step1 hV hEw33 (by first | exact .inl (by omega) | exact .inr (by simp))
                      replace hQ2 := evo_step1 hQ2 hEw33 (by first | exact .inl (by omega) | exact .inr (by simp))
                      replace ha := ha0.now hV
                      replace hb := hb0.now hV
                      replace hT := hT0 _ hQ2
                      replace hst16 := hst16.evo hEw33 (by simp; omega)
                      replace hbb14 := hb_new
                      have hAb14 := hbb14.at
                      clear hb_new
                      refine r_nil ?_
                      refine r_blk ?_
                      refine r_region ?_
                      refine r_op rfl rfl rfl (run_add rfl (by exact rfl) (by exact rfl) (by omega) (by omega)) ?_
                      refine r_op rfl rfl rfl (run_mv (v := .int _ _) rfl (by exact rfl)) ?_
                      refine r_nil ?_
                      refine r_again (x + 1) ?_ ?_ ?_
                      · first | omega | (dsimp only; omega)
                      · refine ⟨(by first | exact rfl | exact congrArg (Value.int _) (by omega) | exact congrArg (Value.int _) (by dsimp only; omega) | exact congrArg (Value.int _) (by simp) | exact congrArg S (by simp)), (by first | assumption | omega | (dsimp only; omega) | (simp; done)), (by first | assumption | omega | (dsimp only; omega) | (simp; done)), (by first | (rw [bs_skip (by omega)]; assumption) | (rw [hbt]; assumption) | (have hz := hbb14; rw [hst1.1, hst1.2] at hz; rw [hbt]; exact hz)), (by first | (rw [bs_skip (by omega)]; assumption) | (rw [hbt]; assumption) | (have hz := hbb14; rw [hst1.1, hst1.2] at hz; rw [hbt]; exact hz.at)), (by first | assumption | omega | (dsimp only; omega) | (simp; done)), hV, hQ2⟩
                      · repeat (first | (with_reducible exact Agree.merge _ _ _) | (with_reducible exact Agree.refl _ _) | (with_reducible refine Agree.upd ?_ _ _ rfl) | ((with_reducible refine Agree.inner ?_ ?_); (kernel_rfl)))
                    · skip
                      have hbt := bs_keep (-1, 0, 0) ⟨by omega, by omega⟩ (fun hn => hc32 (.inl ((bs_none (by omega) (by omega)).1 hn))) (fun hn => hc32 (.inr hn))
                      refine r_skip ?_
                      refine r_blk ?_
                      refine r_region ?_
                      refine r_op rfl rfl rfl (run_add rfl (by exact rfl) (by exact rfl) (by omega) (by omega)) ?_
                      refine r_op rfl rfl rfl (run_mv (v := .int _ _) rfl (by exact rfl)) ?_
                      refine r_nil ?_
                      refine r_again (x + 1) ?_ ?_ ?_
                      · first | omega | (dsimp only; omega)
                      · refine ⟨(by first | exact rfl | exact congrArg (Value.int _) (by omega) | exact congrArg (Value.int _) (by dsimp only; omega) | exact congrArg (Value.int _) (by simp) | exact congrArg S (by simp)), (by first | assumption | omega | (dsimp only; omega) | (simp; done)), (by first | assumption | omega | (dsimp only; omega) | (simp; done)), (by first | (rw [bs_skip (by omega)]; assumption) | (rw [hbt]; assumption) | (have hz := hbb14; rw [hst1.1, hst1.2] at hz; rw [hbt]; exact hz)), (by first | (rw [bs_skip (by omega)]; assumption) | (rw [hbt]; assumption) | (have hz := hbb14; rw [hst1.1, hst1.2] at hz; rw [hbt]; exact hz.at)), (by first | assumption | omega | (dsimp only; omega) | (simp; done)), hV, hQ2⟩
                      · repeat (first | (with_reducible exact Agree.merge _ _ _) | (with_reducible exact Agree.refl _ _) | (with_reducible refine Agree.upd ?_ _ _ rfl) | ((with_reducible refine Agree.inner ?_ ?_); (kernel_rfl)))
                · skip
                  refine r_exit rfl ?_
                  obtain rfl : x = 6 := by omega
                  have hcur := hT.row i0 (Nat.le_refl _) (by omega)
                  have hob := (hT.old i0 (Nat.le_refl _) (by omega)).1
                  have hnb := (hT.old i0 (Nat.le_refl _) (by omega)).2
                  have hT_old := hT
                  have hTq := hT.out
                  have hbb14_q := hbb14
                  have hAb14_q := hAb14
                  have hcur_q := hcur
                  have hV_q := hV
                  refine h_region [rb1 i0] (by kernel_rfl) ?_
                  intro w34 hE35 hCst
                  have hs_w34 := (hE35).size
                  replace hV := evo_step0 hV hE35
                  replace ha := ha0.now hV
                  replace hb := hb0.now hV
                  replace hst16 := hst16.evo0 hE35
                  replace hbb14 := hbb14.evo0 hE35
                  replace hAb14 := hAb14.evo0 hE35
                  replace hcur := hcur.evo0 hE35
                  refine h_take (i := 0) (by exact rfl) rfl rfl rfl (by kernel_rfl) (fun w' hC => run_mv (v := .slice (some ⟨bt, 0, none⟩) _ _) rfl (by exact rfl)) hCst ?_
                  refine h_take (i := 1) (by exact rfl) rfl rfl rfl (by kernel_rfl) (fun w' hC => run_mv (v := .int _ _) rfl (by exact rfl)) hCst ?_
                  refine h_take (i := 2) (by exact rfl) rfl rfl rfl (by kernel_rfl) (fun w' hC => run_ix (i0) rfl Try.underlying75 ty_76 (by exact rfl) (by exact rfl) (by first | exact rfl | omega) (by omega) rfl) hCst ?_
                  refine h_take (i := 3) (by exact rfl) rfl rfl rfl (by kernel_rfl) (fun w' hC => run_ld1 rfl ag_76 (by exact rfl) ((hTq.evo hC (by simp; exact Ne.symm hnb)).cell0 (x := i0) (by omega) (rowsC_at (Nat.le_refl _)))) hCst ?_
                  refine h_take (i := 4) (by exact rfl) rfl rfl rfl (by kernel_rfl) (fun w' hC => run_mv (v := .int _ _) rfl (by exact rfl)) hCst ?_
                  refine h_take (i := 5) (by exact rfl) rfl rfl rfl (by kernel_rfl) (fun w' hC => run_ldN rfl ag_80 ty_80 (by exact rfl) rfl (hAb14_q.evo hC (by simp; omega))) hCst ?_
                  refine h_take (i := 6) (by exact rfl) rfl rfl rfl (by kernel_rfl) (fun w' hC => run_ix (j0) rfl Try.underlying76 ty_80 (by exact rfl) (by exact rfl) (by first | exact rfl | omega) (by omega) rfl) hCst ?_
                  refine h_one (i := 7) (by kernel_rfl) ?_
                  refine h_do (by exact rfl) ?_
                  refine r_storeF (v := .agg _) (vs := [_, _, _]) (j0) (by exact rfl) rfl (by exact rfl) hcur (by omega) ty_80 (by exact rfl) rfl (by exact rfl) ?_
                  intro w36 hEw36 hzw36 hb_new
                  have hs_w36 := (hEw36).size
                  replace hV := evo_step1 hV hEw36 (by first | exact .inl (by omega) | exact .inr (by simp))
                  replace hCst := evo_step1 hCst hEw36 (by first | exact .inl (by omega) | exact .inr (by simp))
                  replace ha := ha0.now hV
                  replace hb := hb0.now hV
                  replace hst16 := hst16.evo hEw36 (by simp; omega)
                  replace hcur := hb_new
                  clear hb_new
                  refine h_next hCst ?_
                  refine h_done (by kernel_rfl) ?_
                  refine r_blk ?_
                  refine r_region ?_
                  refine r_op rfl rfl rfl (run_mv (v := .int _ _) rfl (by exact rfl)) ?_
                  refine r_op rfl rfl rfl (run_sub rfl (by exact rfl) (by exact rfl) (by omega) (by omega)) ?_
                  refine r_op rfl rfl rfl (run_asg (v := .int _ _) rfl (by exact rfl)) ?_
                  refine r_nil ?_
                  refine r_again j0 ?_ ?_ ?_
                  · first | omega | (dsimp only; omega)
                  · refine ⟨(congrArg (Value.int _) (by omega)), (by first | assumption | omega | (dsimp only; omega) | (simp; done)), (by first | exact tab_corner hT (by omega) (by omega) | exact tab_done hT_old (by omega) hCst hcur (congrArg cellV (bs_done (by omega) (by omega) (by omega) _))), (by first | assumption | omega | (dsimp only; omega) | (simp; done)), hV⟩
                  · repeat (first | (with_reducible exact Agree.merge _ _ _) | (with_reducible exact Agree.refl _ _) | (with_reducible refine Agree.upd ?_ _ _ rfl) | ((with_reducible refine Agree.inner ?_ ?_); (kernel_rfl)))
          · skip
            refine r_exit rfl ?_
            refine r_blk ?_
            refine r_region ?_
            refine r_op rfl rfl rfl (run_mv (v := .int _ _) rfl (by exact rfl)) ?_
            refine r_op rfl rfl rfl (run_sub rfl (by exact rfl) (by exact rfl) (by omega) (by omega)) ?_
            refine r_op rfl rfl rfl (run_asg (v := .int _ _) rfl (by exact rfl)) ?_
            refine r_nil ?_
            refine r_again i0 ?_ ?_ ?_
            · first | omega | (dsimp only; omega)
            · refine ⟨rb1, (congrArg (Value.int _) (by omega)), (by first | assumption | omega | (dsimp only; omega) | (simp; done)), (by have hq0 : q = 0 := (by omega); subst hq0; exact tab_full hT), (by first | assumption | omega | (dsimp only; omega) | (simp; done)), hV⟩
            · repeat (first | (with_reducible exact Agree.merge _ _ _) | (with_reducible exact Agree.refl _ _) | (with_reducible refine Agree.upd ?_ _ _ rfl) | ((with_reducible refine Agree.inner ?_ ?_); (kernel_rfl)))
      · skip
        refine r_exit rfl ?_
        refine r_seq ?_
        refine r_seq ?_
        obtain rfl : k = 0 := by omega
        have hQ3 : Evo w4 w4 [] := Evo.refl _ _
        have hT0 := fun (w' : World) (h : Evo w4 w' []) => hT.evo0 h
        refine r_region ?_
        refine r_op rfl rfl rfl (run_asg (v := .int _ _) rfl (by exact rfl)) ?_
        refine r_op rfl rfl rfl (run_asg (v := .int _ _) rfl (by exact rfl)) ?_
        refine r_nil ?_
        refine r_block ?_
        refine r_loop (α := Nat × Nat) [4, 15, 16, 17, 136, 137, 138, 139, 140, 141, 142, 143, 144, 145, 146, 147, 148, 149, 150, 151, 152, 153, 154, 155, 156, 157, 158, 159, 160, 161, 162, 163, 164, 165, 166, 167, 168, 169, 170, 171, 172, 173, 174, 175, 176, 177] (fun p g w => ∃ vo : Value, ∃ pl : List Bead, g 4 = vo ∧ g 15 = .int .i64 (p.1 : Nat) ∧ g 16 = .int .i64 (p.2 : Nat) ∧ OwnE w w4.heap.size 41 vo pl ∧ p.1 ≤ a.length ∧ p.2 ≤ b.length ∧ pl ++ trc (costF ourCost a b) a.length b.length p.1 p.2 = trc (costF ourCost a b) a.length b.length 0 0 ∧ pl.length + (a.length - p.1) + (b.length - p.2) ≤ a.length + b.length ∧ w4.heap.size ≤ w.heap.size ∧ Evo w0 w [] ∧ Evo w4 w []) (fun p => a.length - p.1 + (b.length - p.2)) (0, 0) ?_ ?_
        · refine ⟨_, [], rfl, rfl, rfl, (OwnE.nil _ _ _), (by first | assumption | omega | (dsimp only; omega) | (simp; done)), (by first | assumption | omega | (dsimp only; omega) | (simp; done)), (by first | assumption | omega | (dsimp only; omega) | (simp; done)), (by first | assumption | omega | (dsimp only; omega) | (simp; done)), (by first | assumption | omega | (dsimp only; omega) | (simp; done)), hV, hQ3⟩
        · rintro p g w38 ⟨vo, pl, hj39, hj40, hj41, ho, hp1, hp2, hpl, hln, hzl37, hV, hQ3⟩
          have hs_w38hV := hV.size
          have hs_w38hQ3 := hQ3.size
          replace ha := ha0.now hV
          replace hb := hb0.now hV
          replace hT := hT0 _ hQ3
          refine r_know (i := 4) (v := vo) (by exact hj39) ?_
          refine r_know (i := 15) (v := .int .i64 (p.1 : Nat)) (by exact hj40) ?_
          refine r_know (i := 16) (v := .int .i64 (p.2 : Nat)) (by exact hj41) ?_
          refine r_seq ?_
          refine r_seq ?_
          refine r_region ?_
          refine r_op rfl rfl rfl (run_mv (v := .int _ _) rfl (by exact rfl)) ?_
          refine r_op rfl rfl rfl (run_mv (v := .slice _ _ _) rfl (by exact rfl)) ?_
          refine r_op rfl rfl rfl (run_lenSl rfl (by exact rfl) Try.underlying22) ?_
          refine r_op rfl rfl rfl (run_lss rfl (by exact rfl) (by exact rfl)) ?_
          refine r_op rfl rfl rfl (run_mv (v := .bool _) rfl (by exact rfl)) ?_
          refine r_g rfl (wantF (by exact rfl)) rfl (fun hg => run_mv (v := .int _ _) rfl (by exact rfl)) ?_
          refine r_g rfl (wantF (by exact rfl)) rfl (fun hg => run_mv (v := .slice _ _ _) rfl (by exact rfl)) ?_
          refine r_g rfl (wantF (by exact rfl)) rfl (fun hg => run_lenSl rfl (glv (by exact rfl) (fun h => h) hg) Try.underlying22) ?_
          refine r_g rfl (wantF (by exact rfl)) rfl (fun hg => run_lss rfl (glv (by exact rfl) (fun h => h) hg) (glv (by exact rfl) (fun h => h) hg)) ?_
          refine r_op rfl rfl rfl (run_pick_or rfl (by exact rfl) rfl (fun hq => glv (by exact rfl) (fun h => h) hq)) ?_
          refine r_nil ?_
          refine r_cond (by exact rfl) (fun hc42 => ?_) (fun hc42 => ?_)
          · skip
            refine r_skip ?_
            refine r_block ?_
            refine r_seq ?_
            have hbs : (∃ y, y < 6 ∧ (beA a b p.1 p.2).2 = stp y) ∧ (p.1 + (beA a b p.1 p.2).2.1) ≤ a.length ∧ (p.2 + (beA a b p.1 p.2).2.2) ≤ b.length := by
              have h := best_step (cst := costF ourCost a b) hp1 hp2 (by omega)
              exact ⟨h.1, h.2.1, h.2.2.1⟩
            obtain ⟨⟨y, hy, hys⟩, hs1, hs2⟩ := hbs
            have hsb := stp_bd y
            rw [← hys] at hsb
            refine r_region ?_
            refine r_op rfl rfl rfl (run_mv (v := .slice (some ⟨bt, 0, none⟩) _ _) rfl (by exact rfl)) ?_
            refine r_op rfl rfl rfl (run_mv (v := .int _ _) rfl (by exact rfl)) ?_
            refine r_op rfl rfl rfl (run_ix (p.1) rfl Try.underlying75 ty_76 (by exact rfl) (by exact rfl) (by first | exact rfl | omega) (by omega) rfl) ?_
            refine r_op rfl rfl rfl (run_ld1 rfl ag_76 (by exact rfl) (hT.load p.1 (by omega) (by omega))) ?_
            refine r_op rfl rfl rfl (run_mv (v := .int _ _) rfl (by exact rfl)) ?_
            refine r_op rfl rfl rfl (run_ix (p.2) rfl Try.underlying76 ty_80 (by exact rfl) (by exact rfl) (by first | exact rfl | omega) (by omega) rfl) ?_
            refine r_op rfl rfl rfl (run_fa rfl (by exact rfl) fo_80_1) ?_
            refine r_op rfl rfl rfl (run_ldN (cs := [_, _]) rfl ag_78 ty_78 (by exact rfl) rfl (tab_stepF hT p.1 p.2 (by omega) (by omega) (by omega))) ?_
            have hob43 := fun g hg => (ho.block (g := g) hg).2
            refine r_var (zs := [_, _]) (vs := [_, _]) ty_78 (by exact rfl) rfl (by exact rfl) (fun _ => rfl) (by exact rfl) rfl rfl (by exact rfl) ?_
            intro b44 w45 heb44 hEw45 hbb44 hzb44
            have hs_w45 := (hEw45).size
            replace hV := evo_step0 hV hEw45
            replace hQ3 := evo_step0 hQ3 hEw45
            replace ha := ha0.now hV
            replace hb := hb0.now hV
            replace hT := hT0 _ hQ3
            replace ho := ho.evo0 hEw45
            have hAb44 := hbb44.at
            refine r_nil ?_
            refine r_seq ?_
            refine r_region ?_
            refine r_op rfl rfl rfl (run_mv (v := vo) rfl (by exact rfl)) ?_
            refine r_op rfl rfl rfl (run_mv (v := .int _ _) rfl (by exact rfl)) ?_
            refine r_op rfl rfl rfl (run_mv (v := .int _ _) rfl (by exact rfl)) ?_
            refine r_op rfl rfl rfl (run_fa rfl (by exact rfl) fo_78_0) ?_
            refine r_op rfl rfl rfl (run_ld1 rfl ag_3 (by exact rfl) (hAb44.cell 0 (by exact rfl))) ?_
            refine r_op rfl rfl rfl (run_add rfl (by exact rfl) (by exact rfl) (by omega) (by omega)) ?_
            refine r_op rfl rfl rfl (run_bld (pv := [(0, .int _ _), (1, .int _ _)]) (zs := [_, _]) (cells := [_, _]) rfl ty_39 (by exact rfl) pl_39 (by exact rfl) (by exact rfl)) ?_
            refine r_op rfl rfl rfl (run_mv (v := .int _ _) rfl (by exact rfl)) ?_
            refine r_op rfl rfl rfl (run_mv (v := .int _ _) rfl (by exact rfl)) ?_
            refine r_op rfl rfl rfl (run_fa rfl (by exact rfl) fo_78_1) ?_
            refine r_op rfl rfl rfl (run_ld1 rfl ag_3 (by exact rfl) (hAb44.cell 1 (by exact rfl))) ?_
            refine r_op rfl rfl rfl (run_add rfl (by exact rfl) (by exact rfl) (by omega) (by omega)) ?_
            refine r_op rfl rfl rfl (run_bld (pv := [(0, .int _ _), (1, .int _ _)]) (zs := [_, _]) (cells := [_, _]) rfl ty_39 (by exact rfl) pl_39 (by exact rfl) (by exact rfl)) ?_
            refine r_op rfl rfl rfl (run_bld (pv := [(0, .agg _), (1, .agg _)]) (zs := [_, _, _, _]) (cells := [_, _, _, _]) rfl ty_41 (by exact rfl) pl_41 (by exact rfl) (by exact rfl)) ?_
            refine r_append1E (u := .agg _) (y := ⟨_, _, _, _⟩) rfl rfl Try.underlying33 ty_41 (by exact rfl) ho (fun _ => (by exact rfl)) (by exact rfl) (by exact rfl) (by omega) (by omega) (by omega) ?_
            intro q_v46 v46 w47 hEw47 hov46 hlv46
            have hs_w47 := (hEw47).size
            replace hV := evo_stepo hV hEw47 (fun g hg => .inl (by first | exact (ho.block hg).1 | (have := ho.block hg; omega)))
            replace hQ3 := evo_stepo hQ3 hEw47 (fun g hg => .inl (by first | exact (ho.block hg).1 | (have := ho.block hg; omega)))
            replace ha := ha0.now hV
            replace hb := hb0.now hV
            replace hT := hT0 _ hQ3
            replace hbb44 := hbb44.evo hEw47 (by intro hm; have hm2 := Option.mem_toList.1 hm; have := hob43 _ hm2; omega)
            replace hAb44 := hAb44.evo hEw47 (by intro hm; have hm2 := Option.mem_toList.1 hm; have := hob43 _ hm2; omega)
            refine r_op rfl rfl rfl (run_asg (v := v46) rfl (by exact rfl)) ?_
            refine r_nil ?_
            refine r_qregion (by kernel_rfl) (by kernel_rfl) ?_
            refine q_op rfl rfl rfl (fun w' hC => run_mv (v := .int _ _) rfl (by exact rfl)) ?_
            refine q_op rfl rfl rfl (fun w' hC => run_fa rfl (by exact rfl) fo_78_0) ?_
            refine q_op rfl rfl rfl (fun w' hC => run_ld1 rfl ag_3 (by exact rfl) ((hAb44.evo0 hC).cell 0 (by exact rfl))) ?_
            refine q_op rfl rfl rfl (fun w' hC => run_add rfl (by exact rfl) (by exact rfl) (by omega) (by omega)) ?_
            refine q_op rfl rfl rfl (fun w' hC => run_mv (v := .int _ _) rfl (by exact rfl)) ?_
            refine q_op rfl rfl rfl (fun w' hC => run_fa rfl (by exact rfl) fo_78_1) ?_
            refine q_op rfl rfl rfl (fun w' hC => run_ld1 rfl ag_3 (by exact rfl) ((hAb44.evo0 hC).cell 1 (by exact rfl))) ?_
            refine q_op rfl rfl rfl (fun w' hC => run_add rfl (by exact rfl) (by exact rfl) (by omega) (by omega)) ?_
            refine q_op rfl rfl rfl (fun w' hC => run_asg (v := .int _ _) rfl (by exact rfl)) ?_
            refine q_op rfl rfl rfl (fun w' hC => run_asg (v := .int _ _) rfl (by exact rfl)) ?_
            refine q_nil (fun w48 hE49 => ?_)
            have hs_w48 := (hE49).size
            replace hV := evo_step0 hV hE49
            replace hQ3 := evo_step0 hQ3 hE49
            replace ha := ha0.now hV
            replace hb := hb0.now hV
            replace hT := hT0 _ hQ3
            replace hov46 := hov46.evo0 hE49
            refine r_blk ?_
            refine r_again ((p.1 + (beA a b p.1 p.2).2.1), (p.2 + (beA a b p.1 p.2).2.2)) ?_ ?_ ?_
            · first | omega | (dsimp only; omega)
            · refine ⟨_, _, (by first | exact rfl | exact congrArg (Value.int _) (by omega) | exact congrArg (Value.int _) (by dsimp only; omega) | exact congrArg (Value.int _) (by simp) | exact congrArg S (by simp)), (by first | exact rfl | exact congrArg (Value.int _) (by omega) | exact congrArg (Value.int _) (by dsimp only; omega) | exact congrArg (Value.int _) (by simp) | exact congrArg S (by simp)), (by first | exact rfl | exact congrArg (Value.int _) (by omega) | exact congrArg (Value.int _) (by dsimp only; omega) | exact congrArg (Value.int _) (by simp) | exact congrArg S (by simp)), hov46, (by first | assumption | omega | (dsimp only; omega) | (simp; done)), (by first | assumption | omega | (dsimp only; omega) | (simp; done)), (by rw [← hpl, trc_step hp1 hp2 (by omega)]; simp), (by simp only [List.length_append, List.length_cons, List.length_nil]; omega), (by first | assumption | omega | (dsimp only; omega) | (simp; done)), hV, hQ3⟩
            · repeat (first | (with_reducible exact Agree.merge _ _ _) | (with_reducible exact Agree.refl _ _) | (with_reducible refine Agree.upd ?_ _ _ rfl) | ((with_reducible refine Agree.inner ?_ ?_); (kernel_rfl)))
          · skip
            refine r_exit rfl ?_
            refine r_seq ?_
            refine r_qregion (by kernel_rfl) (by kernel_rfl) ?_
            refine q_op rfl rfl rfl (fun w' hC => run_mv (v := vo) rfl (by exact rfl)) ?_
            refine q_op rfl rfl rfl (fun w' hC => run_mv (v := .slice (some ⟨bt, 0, none⟩) _ _) rfl (by exact rfl)) ?_
            refine q_op rfl rfl rfl (fun w' hC => run_ix (0) rfl Try.underlying75 ty_76 (by exact rfl) (by exact rfl) (by first | exact rfl | omega) (by omega) rfl) ?_
            refine q_op rfl rfl rfl (fun w' hC => run_ld1 rfl ag_76 (by exact rfl) ((hT.evo0 hC).load 0 (by omega) (by omega))) ?_
            refine q_op rfl rfl rfl (fun w' hC => run_ix (0) rfl Try.underlying76 ty_80 (by exact rfl) (by exact rfl) (by first | exact rfl | omega) (by omega) rfl) ?_
            refine q_op rfl rfl rfl (fun w' hC => run_fa rfl (by exact rfl) fo_80_0) ?_
            refine q_op rfl rfl rfl (fun w' hC => run_ld1 rfl ag_3 (by exact rfl) (tab_priceF (hT.evo0 hC) 0 0 (by omega) (by omega) (by omega))) ?_
            refine q_op rfl rfl rfl (fun w' hC => run_asg (v := vo) rfl (by exact rfl)) ?_
            refine q_op rfl rfl rfl (fun w' hC => run_asg (v := .int _ _) rfl (by exact rfl)) ?_
            refine q_op rfl rfl rfl (fun w' hC => run_asg (v := .int _ _) rfl (by exact rfl)) ?_
            refine q_nil (fun w50 hE51 => ?_)
            have hs_w50 := (hE51).size
            replace hV := evo_step0 hV hE51
            replace hQ3 := evo_step0 hQ3 hE51
            replace ha := ha0.now hV
            replace hb := hb0.now hV
            replace hT := hT0 _ hQ3
            replace ho := ho.evo0 hE51
            refine r_ret (res3 (v := vo) (u := .int _ _) (x := .int _ _) rfl (by exact rfl) (by exact rfl) (by exact rfl)) ?_
            exact ⟨_, by rw [show alignL a b = _ from if_neg (by omega)], hV, by
              rw [show alignL a b = _ from if_neg (by omega)]
              rw [trc_end (by omega), List.append_nil] at hpl
              rw [← hpl]
              exact ho.base_le (by omega)⟩

end Go.Proofs.Ythfahceagabhiaa
