/-
  Library, plain laws and walks that the statements reach (joined by a program out of smaller texts).
-/
import Derived.Test.YtlfjocbnbceceaaGreatDoorAdb
import Derived.Test.YtlfjocbnbceceaaGreatDoorAda
import Derived.Scope
set_option linter.unusedVariables false
set_option linter.unusedSimpArgs false
namespace Go.Proofs.YtlfjocbnbceceaaGreatDoor
open Go.RowKit Go.Vc
theorem rnormalize_calls {ao : Option Addr} {b off cap : Nat} {f : List Vc.Item} {w0 : World} (hf : RowE w0 ao b off cap f) (hsm : Small f) :
    Calls Tryz.prog 126 #[.slice ao f.length cap] w0 fun e w' => ∃ v, e = .returned v ∧ Evo w0 w' [] ∧ OwnE w' w0.heap.size 32 v (normL f) := by
 have hs1 := hsm.1; have hs2 := hsm.2
 refine calls_enter (n := 61) Tryz.func126 rfl Tryz.ntmps126 rfl ?_
 have hV : Evo w0 w0 [] := Evo.refl _ _
 have hf0 := keepE hf
 have hbd_hf := hf.bd
 refine Zs ?_
 refine Zn asS ?_
 refine Zs ?_
 refine Zn asS ?_
 refine r_seq ?_
 refine Zs ?_
 refine Zo mvS ?_
 refine Zo (run_lenSl rfl η Tryz.underlying33) ?_
 refine Zn mvI ?_
 refine r_block ?_
 refine r_loop (α := Nat) [3, 4, 5, 6, 9, 10, 11, 12, 13, 14, 15, 16, 17, 18, 19, 20, 21, 22, 23, 24, 25, 26, 27, 28, 29, 30, 31, 32, 33, 34, 35, 36, 37, 38, 39, 40, 41, 42, 43, 44, 45, 46, 47, 48, 49, 50, 51, 52, 53, 54, 55, 56, 57, 58, 59] (fun k g w => ∃ vo : Value, g 9 = .int .i64 (k : Nat) ∧ g 3 = vo ∧ k ≤ f.length ∧ OwnE w w0.heap.size 32 vo (normL (f.take k)) ∧ w0.heap.size ≤ w.heap.size ∧ Evo w0 w []) (fun k => f.length - k) 0 ?_ ?_
 ·refine ⟨_, σ, rfl, δ, (OwnE.nil _ _ _), δ, hV⟩
 rintro k g w2 ⟨vo, hj3, hj4, hk_k, hoo, hzl1, hV⟩
 have hs_w2hV := hV.size
 replace hf := hf0 _ hV
 refine Zk 9 (v := .int .i64 (k : Nat)) (by exact hj3) ?_
 refine Zk 3 (v := vo) (by exact hj4) ?_
 refine Zs ?_
 refine Zn (run_lss rfl η η) ?_
 refine r_seq ?_
 refine r_cond η (fun hc5 => ?_) (fun hc5 => ?_)
 ·skip
  refine r_skip ?_
  refine r_seq ?_
  refine r_block ?_
  refine Zs ?_
  refine Zo mvI ?_
  refine Zn asI ?_
  refine r_seq ?_
  have hobO := fun g hg => (hoo.block (g := g) hg).2
  refine r_region ?_
  refine Zo mvS ?_
  refine Zo mvI ?_
  refine Zo (run_ix (k) rfl Tryz.underlying33 ty_32 η η (by first | exact rfl | omega) ω (hf.addr (i := k) ω)) ?_
  have hA60 := fun (w' : World) (h : Evo w0 w' []) => (hf0 w' h).atD (k) ω
  have hA6 := hA60 _ hV
  refine Zo (run_ldN rfl ag_32 ty_32 η rfl hA6) ?_
  have hob7 := fun g hg => (hoo.block (g := g) hg).2
  refine r_var (zs := [_, _, _]) (vs := [_, _, _]) ty_32 η rfl η (fun _ => rfl) η rfl rfl η ?_
  intro b8 w9 heb8 hEw9 hbb8 hzb8
  have hs_w9 := (hEw9).size
  replace hV := evo_step0 hV hEw9
  replace hf := hf0 _ hV
  replace hoo := hoo.evo0 hEw9
  have hAb8 := hbb8.at
  refine r_nil ?_
  refine r_seq ?_
  refine r_seq ?_
  have hneO : ∀ g, vo.ownBlock = some g → g ≠ b8 := fun g hg h => by have := hobO g hg; omega
  have hn1 := normL_len (f.take k); have hn2 : (f.take k).length ≤ k := List.length_take_le _ _; have hn3 := sizeL_take f k; have hn4 := sizeL_at f k; have hz1 := sizeL_at (normL (f.take k)) ((normL (f.take k)).length - 1); have hz2 := normL_size (f.take k)
  refine r_region ?_
  refine Zo (run_fa rfl η fo_32_0) ?_
  refine Zo (run_ld1 rfl ag_3 η (hAb8.cell 0 η)) ?_
  refine Zn (run_neq rfl η η) ?_
  refine r_cond η (fun hc10 => ?_) (fun hc10 => ?_)
  ·skip
   refine Zs ?_
   refine Zo (run_mv (v := vo) rfl η) ?_
   refine Zo (run_ldN rfl ag_32 ty_32 η rfl hAb8) ?_
   refine r_append1E (u := .agg _) (y := ⟨_, _, _⟩) rfl rfl Tryz.underlying33 ty_32 η hoo (fun _ => η) η (by first | exact rfl | (show _ = List.toArray [_, _, _]; first | (dsimp only; done) | exact rfl | (dsimp only; exact rfl))) ((by first | omega | (simp; omega))) ((by first | omega | (simp; omega))) ω ?_
   intro q_v11 v11 w12 hEw12 hov11 hlv11
   have hs_w12 := (hEw12).size
   replace hV := evo_stepo hV hEw12 (fun g hg => .inl (by first | exact (hoo.block hg).1 | (have := hoo.block hg; omega)))
   replace hf := hf0 _ hV
   replace hbb8 := hbb8.evo hEw12 (by intro hm; have hm2 := Option.mem_toList.1 hm; have := hob7 _ hm2; omega)
   replace hAb8 := hAb8.evo hEw12 (by intro hm; have hm2 := Option.mem_toList.1 hm; have := hob7 _ hm2; omega)
   refine Zn (run_asg (v := v11) rfl η) ?_
   refine r_exit rfl ?_
   refine r_region ?_
   refine Zo (run_add rfl η η ω ω) ?_
   refine Zn mvI ?_
   refine r_again (k + 1) ?_ ?_ ?_
   ·first | omega | (dsimp only; omega)
   ·refine ⟨_, σ, rfl, δ, (by first | (rw [normL_succ f k ω, norm_other (by assumption)]; exact hov11) | (rw [normL_succ f k ω, norm_empty ω (by assumption)]; exact hov11) | (rw [normL_succ f k ω, norm_join ω (by assumption) (by assumption)]; exact hov11) | (rw [normL_succ f k ω, norm_add ω (by assumption) (by assumption)]; exact hov11)), δ, hV⟩
   exact ψ
  refine r_skip ?_
  refine r_seq ?_
  refine Zs ?_
  refine Zo (run_fa rfl η fo_32_1) ?_
  refine Zo (run_ld1 rfl ag_9 η (hAb8.cell 1 η)) ?_
  refine Zn (run_seql rfl η η) ?_
  refine r_cond η (fun hc13 => ?_) (fun hc13 => ?_)
  ·skip
   refine r_exit rfl ?_
   refine r_region ?_
   refine Zo (run_add rfl η η ω ω) ?_
   refine Zn mvI ?_
   refine r_again (k + 1) ?_ ?_ ?_
   ·first | omega | (dsimp only; omega)
   ·refine ⟨_, σ, rfl, δ, (by first | (rw [normL_succ f k ω, norm_other (by assumption)]; exact hoo) | (rw [normL_succ f k ω, norm_empty ω (by assumption)]; exact hoo) | (rw [normL_succ f k ω, norm_join ω (by assumption) (by assumption)]; exact hoo) | (rw [normL_succ f k ω, norm_add ω (by assumption) (by assumption)]; exact hoo)), δ, hV⟩
   exact ψ
  refine r_skip ?_
  refine Zs ?_
  refine Zo (run_mv (v := vo) rfl η) ?_
  refine Zo (run_lenOE rfl η Tryz.underlying33 hoo) ?_
  refine Zn asI ?_
  refine r_seq ?_
  obtain ⟨ao14, g14, cp14, hv14, hr14, hg14⟩ := hoo.rowOf
  subst hv14
  refine r_region ?_
  refine Zo mvI ?_
  refine Zo (run_gtr rfl η η) ?_
  refine Zo mvB ?_
  refine r_g rfl (wantT η) rfl (fun hg => mvS) ?_
  refine r_g rfl (wantT η) rfl (fun hg => mvI) ?_
  refine r_g rfl (wantT η) rfl (fun hg => run_sub rfl (glv η (fun h => h) hg) η ω ω) ?_
  refine r_g rfl (wantT η) rfl (fun hg => run_ix (((normL (f.take k)).length - 1)) rfl Tryz.underlying33 ty_32 (glv η (fun h => h) hg) (glv η (fun h => h) hg) ω ω (hr14.addr (i := ((normL (f.take k)).length - 1)) ω)) ?_
  refine r_g rfl (wantT η) rfl (fun hg => run_fa rfl (glv η (fun h => h) hg) fo_32_0) ?_
  refine r_g rfl (wantT η) rfl (fun hg => run_ld1 rfl ag_3 (glv η (fun h => h) hg) ((hr14.atD (((normL (f.take k)).length - 1)) ω).cell 0 η)) ?_
  refine r_g rfl (wantT η) rfl (fun hg => run_eql rfl (glv η (fun h => h) hg) η) ?_
  refine Zn (run_pick_and rfl η (fun hq => glv η (fun h => h) hq) rfl) ?_
  refine r_cond η (fun hc15 => ?_) (fun hc15 => ?_)
  ·skip
   have hbb8_q := hbb8
   have hAb8_q := hAb8
   have hr14_q := hr14
   have hV_q := hV
   refine h_region ([]) ζ ?_
   intro w16 hE17 hC18
   have hs_w16 := (hE17).size
   replace hV := evo_step0 hV hE17
   replace hoo := hoo.evo0 hE17
   replace hbb8 := hbb8.evo0 hE17
   replace hAb8 := hAb8.evo0 hE17
   replace hr14 := hr14.evo0 hE17
   refine Zt (i := 0) η (fun w' hC => mvS) hC18 ?_
   refine Zt (i := 1) η (fun w' hC => mvI) hC18 ?_
   refine Zt (i := 2) η (fun w' hC => run_sub rfl η η ω ω) hC18 ?_
   refine Zt (i := 3) η (fun w' hC => mvS) hC18 ?_
   refine Zt (i := 4) η (fun w' hC => mvI) hC18 ?_
   refine Zt (i := 5) η (fun w' hC => run_sub rfl η η ω ω) hC18 ?_
   refine Zt (i := 6) η (fun w' hC => run_ix (((normL (f.take k)).length - 1)) rfl Tryz.underlying33 ty_32 η η ω ω (hr14.addr (i := ((normL (f.take k)).length - 1)) ω)) hC18 ?_
   have hA19 := hr14.atD (((normL (f.take k)).length - 1)) ω
   have hA19_q := hr14_q.atD (((normL (f.take k)).length - 1)) ω
   refine Zt (i := 7) η (fun w' hC => run_fa rfl η fo_32_1) hC18 ?_
   refine Zt (i := 8) η (fun w' hC => run_ld1 rfl ag_9 η ((hA19_q.evo0 hC).cell 1 η)) hC18 ?_
   refine Zt (i := 9) η (fun w' hC => run_fa rfl η fo_32_1) hC18 ?_
   refine Zt (i := 10) η (fun w' hC => run_ld1 rfl ag_9 η ((hAb8_q.evo0 hC).cell 1 η)) hC18 ?_
   refine Zt (i := 11) η (fun w' hC => run_sadd rfl η η ω) hC18 ?_
   refine Zt (i := 12) η (fun w' hC => run_bld (pv := [(0, .int _ _), (1, S _)]) (zs := [_, _, _]) (cells := [_, _, _]) rfl ty_32 η pl_32 η η) hC18 ?_
   refine Zt (i := 13) η (fun w' hC => run_ix (((normL (f.take k)).length - 1)) rfl Tryz.underlying33 ty_32 η η ω ω (hr14.addr (i := ((normL (f.take k)).length - 1)) ω)) hC18 ?_
   have hA20 := hr14.atD (((normL (f.take k)).length - 1)) ω
   have hA20_q := hr14_q.atD (((normL (f.take k)).length - 1)) ω
   refine Zh (i := 14) ?_
   refine r_storeE (u := .agg _) (vs := [_, _, _]) (((normL (f.take k)).length - 1)) 0 ⟨_, _, _⟩ η rfl (by first | rfl | omega) η hoo hr14 ω ty_32 η rfl η rfl (by show [_, _, _] = [_, _, _]; first | (dsimp only; done) | exact rfl | (dsimp only; exact rfl)) ?_
   intro w21 hEw21 hzw21 ho_new
   have hs_w21 := (hEw21).size
   replace hV := evo_stepo hV hEw21 (fun g hg => .inl (by first | exact (hoo.block hg).1 | (have := hoo.block hg; omega)))
   replace hf := hf0 _ hV
   replace hoo := ho_new
   clear ho_new
   refine h_last ζ ?_
   refine h_done ζ ?_
   refine r_blk ?_
   refine r_region ?_
   refine Zo (run_add rfl η η ω ω) ?_
   refine Zn mvI ?_
   refine r_again (k + 1) ?_ ?_ ?_
   ·first | omega | (dsimp only; omega)
   ·refine ⟨_, σ, rfl, δ, (by first | (rw [normL_succ f k ω, norm_other (by assumption)]; exact hoo) | (rw [normL_succ f k ω, norm_empty ω (by assumption)]; exact hoo) | (rw [normL_succ f k ω, norm_join ω (by assumption) (by assumption)]; exact hoo) | (rw [normL_succ f k ω, norm_add ω (by assumption) (by assumption)]; exact hoo)), δ, hV⟩
   exact ψ
  refine r_region ?_
  refine Zo mvS ?_
  refine Zo (run_fa rfl η fo_32_1) ?_
  refine Zo (run_ld1 rfl ag_9 η (hAb8.cell 1 η)) ?_
  refine Zo (run_bld (pv := [(0, .int _ _), (1, S _)]) (zs := [_, _, _]) (cells := [_, _, _]) rfl ty_32 η pl_32 η η) ?_
  refine r_append1E (u := .agg _) (y := ⟨_, _, _⟩) rfl rfl Tryz.underlying33 ty_32 η hoo (fun _ => η) η (by first | exact rfl | (show _ = List.toArray [_, _, _]; first | (dsimp only; done) | exact rfl | (dsimp only; exact rfl))) ((by first | omega | (simp; omega))) ((by first | omega | (simp; omega))) ω ?_
  intro q_v22 v22 w23 hEw23 hov22 hlv22
  have hs_w23 := (hEw23).size
  replace hV := evo_stepo hV hEw23 (fun g hg => .inl (by first | exact (hoo.block hg).1 | (have := hoo.block hg; omega)))
  replace hf := hf0 _ hV
  refine Zn (run_asg (v := v22) rfl η) ?_
  refine r_blk ?_
  refine r_region ?_
  refine Zo (run_add rfl η η ω ω) ?_
  refine Zn mvI ?_
  refine r_again (k + 1) ?_ ?_ ?_
  ·first | omega | (dsimp only; omega)
  ·refine ⟨_, σ, rfl, δ, (by first | (rw [normL_succ f k ω, norm_other (by assumption)]; exact hov22) | (rw [normL_succ f k ω, norm_empty ω (by assumption)]; exact hov22) | (rw [normL_succ f k ω, norm_join ω (by assumption) (by assumption)]; exact hov22) | (rw [normL_succ f k ω, norm_add ω (by assumption) (by assumption)]; exact hov22)), δ, hV⟩
  exact ψ
 refine r_exit rfl ?_
 refine Zs ?_
 refine Zo (run_mv (v := vo) rfl η) ?_
 refine Zn (run_asg (v := vo) rfl η) ?_
 refine r_ret (res1 (v := vo) rfl η) ?_
 exact ⟨_, rfl, hV, by rw [List.take_of_length_le ω] at hoo; exact hoo⟩
theorem iplace_calls (x n : Int) {w0 : World} (hn : 1 ≤ n) (hn2 : n ≤ 1000000000) :
    Calls Tryz.prog 11 #[.int .i64 x, .int .i64 n] w0 fun e w' => e = .returned (.int .i64 (x % n)) ∧ w0 = w' := by
 refine calls_enter (n := 14) Tryz.func11 rfl Tryz.ntmps11 rfl ?_
 have hV : Evo w0 w0 [] := Evo.refl _ _
 refine Zs ?_
 refine Zn asI ?_
 refine Zs ?_
 refine Zo mvI ?_
 refine Zo mvI ?_
 refine Zo (run_rem rfl η η ω) ?_
 refine Zn asI ?_
 refine r_seq ?_
 refine Zs ?_
 refine Zo mvI ?_
 refine Zn (run_lss rfl η η) ?_
 refine r_cond η (fun hc1 => ?_) (fun hc1 => ?_)
 ·skip
  refine r_region ?_
  refine Zo mvI ?_
  refine Zo mvI ?_
  refine Zo (run_add rfl η η (by have := tmod_bd x n ω; omega) (by have := tmod_bd x n ω; omega)) ?_
  refine Zn asI ?_
  refine Zs ?_
  refine Zo mvI ?_
  refine Zn asI ?_
  refine r_ret (res1 (v := .int _ _) rfl η) ?_
  exact ⟨ret_int (by rw [← place_neg x n ω ω]), rfl⟩
 refine r_skip ?_
 refine Zs ?_
 refine Zo mvI ?_
 refine Zn asI ?_
 refine r_ret (res1 (v := .int _ _) rfl η) ?_
 exact ⟨ret_int (by rw [← place_pos x n ω ω]), rfl⟩
theorem inext_calls {T bs : Nat} {ao : Option Addr} {b off cap : Nat} {l : List Int} {N : Nat} {n : Int} {w0 : World} (hb : Blk w0 bs T [.slice ao l.length cap, .int .i64 (N : Nat)]) (hl : RowE w0 ao b off cap l) (hN : N ≤ 1000000) (hn : 1 ≤ n) (hn2 : n ≤ 1000000000) :
    Calls Tryz.prog 38 #[.pointer (some ⟨bs, 0, none⟩), .int .i64 n] w0 fun e w' => e = .returned (.int .i64 (nextL l N n)) ∧ Evo w0 w' [bs] ∧ Blk w' bs T [.slice ao l.length cap, .int .i64 (N + 1 : Nat)] := by
 have hAs := hb.at
 refine calls_enter (n := 36) Tryz.func38 rfl Tryz.ntmps38 rfl ?_
 have hV : Evo w0 w0 [bs] := Evo.refl _ _
 have hbd_hl := hl.bd
 refine Zs ?_
 refine Zn asI ?_
 refine Zs ?_
 refine Zn asI ?_
 refine r_seq ?_
 refine r_seq ?_
 refine r_qregion ζ ζ ?_
 refine Zq (fun w' hC => mvP) ?_
 refine Zq (fun w' hC => run_nc rfl η) ?_
 refine Zq (fun w' hC => run_fa rfl η fo_70_1) ?_
 refine Zq (fun w' hC => run_ld1 rfl ag_3 η ((hAs.evo0 hC).cell 1 η)) ?_
 refine Zq (fun w' hC => mvP) ?_
 refine Zq (fun w' hC => run_nc rfl η) ?_
 refine Zq (fun w' hC => run_fa rfl η fo_70_0) ?_
 refine Zq (fun w' hC => run_ld1 rfl ag_22 η ((hAs.evo0 hC).cell 0 η)) ?_
 refine Zq (fun w' hC => run_lenSl rfl η Tryz.underlying22) ?_
 refine Zq (fun w' hC => run_lss rfl η η) ?_
 refine q_nil (fun w1 hE2 => ?_)
 have hs_w1 := (hE2).size
 replace hV := evo_step0 hV hE2
 replace hb := hb.evo0 hE2
 replace hAs := hAs.evo0 hE2
 replace hl := hl.evo0 hE2
 refine r_cond η (fun hc3 => ?_) (fun hc3 => ?_)
 ·skip
  refine r_qregion ζ ζ ?_
  refine Zq (fun w' hC => mvP) ?_
  refine Zq (fun w' hC => run_nc rfl η) ?_
  refine Zq (fun w' hC => run_fa rfl η fo_70_0) ?_
  refine Zq (fun w' hC => run_ld1 rfl ag_22 η ((hAs.evo0 hC).cell 0 η)) ?_
  refine Zq (fun w' hC => mvP) ?_
  refine Zq (fun w' hC => run_nc rfl η) ?_
  refine Zq (fun w' hC => run_fa rfl η fo_70_1) ?_
  refine Zq (fun w' hC => run_ld1 rfl ag_3 η ((hAs.evo0 hC).cell 1 η)) ?_
  refine Zq (fun w' hC => run_ix (N) rfl Tryz.underlying22 ty_3 η η (by first | exact rfl | omega) ω (hl.addr (i := N) ω)) ?_
  have hA4 := hl.atD (N) ω
  refine Zq (fun w' hC => run_ld1 rfl ag_3 η ((hA4.evo0 hC).cell 0 η)) ?_
  refine Zq (fun w' hC => asI) ?_
  refine q_nil (fun w5 hE6 => ?_)
  have hs_w5 := (hE6).size
  replace hV := evo_step0 hV hE6
  replace hb := hb.evo0 hE6
  replace hAs := hAs.evo0 hE6
  refine Zs ?_
  refine Zo mvP ?_
  refine Zo (run_nc rfl η) ?_
  refine Zo (run_fa rfl η fo_70_1) ?_
  refine Zo (run_ld1 rfl ag_3 η (hAs.cell 1 η)) ?_
  refine Zo (run_add rfl η η ω ω) ?_
  refine Zo (run_nc rfl η) ?_
  refine Zo (run_fa rfl η fo_70_1) ?_
  refine r_store (v := .int _ _) (vs := [_]) (cs' := [_, _]) η η hb ty_3 η rfl η rfl η ?_
  intro w7 hEw7 hzw7 hb_new
  have hs_w7 := (hEw7).size
  replace hV := evo_step1 hV hEw7 (.inr (by simp))
  replace hb := hb_new
  clear hb_new
  refine r_nil ?_
  refine Zs ?_
  refine Zo mvI ?_
  refine Zo mvI ?_
  refine Zr [.int _ _, .int _ _] rfl η Tryz.func11 (iplace_calls _ _ ω ω) ?_
  rintro e w8 ⟨rfl, rfl⟩
  refine ⟨_, rfl, ?_⟩
  refine Zn asI ?_
  refine r_ret (res1 (v := .int _ _) rfl η) ?_
  exact ⟨ret_int (by first | rfl | (unfold nextL; simp [List.getD, List.getElem?_eq_none (by omega : l.length ≤ N)]; done)), hV, hb⟩
 refine r_skip ?_
 refine Zs ?_
 refine Zo mvP ?_
 refine Zo (run_nc rfl η) ?_
 refine Zo (run_fa rfl η fo_70_1) ?_
 refine Zo (run_ld1 rfl ag_3 η (hAs.cell 1 η)) ?_
 refine Zo (run_add rfl η η ω ω) ?_
 refine Zo (run_nc rfl η) ?_
 refine Zo (run_fa rfl η fo_70_1) ?_
 refine r_store (v := .int _ _) (vs := [_]) (cs' := [_, _]) η η hb ty_3 η rfl η rfl η ?_
 intro w9 hEw9 hzw9 hb_new
 have hs_w9 := (hEw9).size
 replace hV := evo_step1 hV hEw9 (.inr (by simp))
 replace hb := hb_new
 clear hb_new
 refine r_nil ?_
 refine Zs ?_
 refine Zo mvI ?_
 refine Zo mvI ?_
 refine Zr [.int _ _, .int _ _] rfl η Tryz.func11 (iplace_calls _ _ ω ω) ?_
 rintro e w10 ⟨rfl, rfl⟩
 refine ⟨_, rfl, ?_⟩
 refine Zn asI ?_
 refine r_ret (res1 (v := .int _ _) rfl η) ?_
 exact ⟨ret_int (by first | rfl | (unfold nextL; simp [List.getD, List.getElem?_eq_none (by omega : l.length ≤ N)]; done)), hV, hb⟩
theorem inx_calls {w0 : World} {T bs : Nat} {ao : Option Addr} {b off cap : Nat} {l : List Int} {N : Nat} {n : Int} (hb : Blk w0 bs T [.slice ao l.length cap, .int .i64 (N : Nat)]) (hl : RowE w0 ao b off cap l) (hN : N ≤ 1000000) (hn : 1 ≤ n) (hn2 : n ≤ 1000000000) :
    Calls Tryz.prog 38 #[.pointer (some ⟨bs, 0, none⟩), .int .i64 n] w0 fun e w' => ∃ r, e = .returned (.int .i64 r) ∧ (0 ≤ r ∧ r < n) ∧ Evo w0 w' [bs] ∧ Blk w' bs T [.slice ao l.length cap, .int .i64 (N + 1 : Nat)] :=
  (inext_calls hb hl hN hn hn2).mono fun e w' ⟨h1, h2, h3⟩ => ⟨_, h1, nextL_bd l N n hn, h2, h3⟩
def wordsL : List Str := [[114, 101, 100], [99, 97, 114], [82, 101, 100], [97], [99, 97, 114, 115], [49, 44, 53], [50, 50], [100, 111, 110, 39, 116], [46], [33], [32], [32, 32], [60], [38], [123], [34], [92], [120, 45, 121], [10], [61], [125], [62], [9], [98]]
theorem iwords_bd (j : Nat) : (wordsL.getD j default).length ≤ 5 := by
  rcases Nat.lt_or_ge j 24 with h | h
  · have : ∀ j, j < 24 → (wordsL.getD j default).length ≤ 5 := by decide
    exact this j h
  · have e : wordsL.getD j default = [] := by simp [List.getD, List.getElem?_eq_none (show wordsL.length ≤ j from h)]; rfl
    rw [e]; simp
theorem word_calls {T bs : Nat} {ao : Option Addr} {b off cap : Nat} {l : List Int} {N : Nat} {w0 : World} (hb : Blk w0 bs T [.slice ao l.length cap, .int .i64 (N : Nat)]) (hl : ∀ w', Evo w0 w' [bs] → RowE w' ao b off cap l) (hN : N ≤ 900000) :
    Calls Tryz.prog 125 #[.pointer (some ⟨bs, 0, none⟩)] w0 fun e w' => ∃ t : Str, ∃ N', e = .returned (S t) ∧ t.length ≤ 5 ∧ (N ≤ N' ∧ N' ≤ N + 1) ∧ Evo w0 w' [bs] ∧ Blk w' bs T [.slice ao l.length cap, .int .i64 (N' : Nat)] := by
 have hAs := hb.at; have hbslt := hb.lt
 refine calls_enter (n := 8) Tryz.func125 rfl Tryz.ntmps125 rfl ?_
 have hV : Evo w0 w0 [bs] := Evo.refl _ _
 have hl0 := hl
 replace hl := hl0 _ hV
 have hbd_hl := hl.bd
 refine Zs ?_
 refine Zn asT ?_
 refine Zs ?_
 refine r_bslice (pv := [(0, S _), (1, S _), (2, S _), (3, S _), (4, S _), (5, S _), (6, S _), (7, S _), (8, S _), (9, S _), (10, S _), (11, S _), (12, S _), (13, S _), (14, S _), (15, S _), (16, S _), (17, S _), (18, S _), (19, S _), (20, S _), (21, S _), (22, S _), (23, S _)]) (zs := [_]) (cs := [_, _, _, _, _, _, _, _, _, _, _, _, _, _, _, _, _, _, _, _, _, _, _, _]) Tryz.underlying77 ty_9 η rfl η rfl η ?_
 intro b1 w2 heb1 hEw2 hbb1 hzb1
 have hs_w2 := (hEw2).size
 replace hV := evo_step0 hV hEw2
 replace hb := hb.evo0 hEw2
 replace hl := hl0 _ hV
 have hrb1 : RowE w2 (some ⟨b1, 0, none⟩) b1 0 24 wordsL := rowLit wordsL hbb1 rfl rfl
 refine Zo mvP ?_
 refine Zr [.pointer _, .int _ _] rfl η Tryz.func38 (inx_calls hb hl ω ω ω) ?_
 rintro e w3 ⟨nx3, rfl, hx3, hE3, hn3⟩
 refine ⟨_, rfl, ?_⟩
 have hs_w3 := (hE3).size
 replace hV := evo_step1 hV hE3 (.inr (by simp))
 replace hrb1 := hrb1.evo hE3 θ
 replace hb := hn3
 clear hn3
 refine Zo (run_ix (nx3.toNat) rfl Tryz.underlying77 ty_9 η η ω (by show _ < 24; omega) (hrb1.addr (i := nx3.toNat) (by show _ < 24; omega))) ?_
 have hA4 := hrb1.atD (nx3.toNat) (by show _ < 24; omega)
 refine Zo (run_ld1 rfl ag_9 η (hA4.cell 0 η)) ?_
 refine Zn asT ?_
 refine r_ret (res1 (v := S _) rfl η) ?_
 exact ⟨_, N + 1, rfl, iwords_bd _, by omega, hV, hb⟩
theorem line_calls {T bs : Nat} {ao : Option Addr} {b off cap : Nat} {l : List Int} {N : Nat} {n : Int} {w0 : World} (hb : Blk w0 bs T [.slice ao l.length cap, .int .i64 (N : Nat)]) (hl : ∀ w', Evo w0 w' [bs] → RowE w' ao b off cap l) (hN : N ≤ 800000) (hn0 : 0 ≤ n) (hn3 : n ≤ 3) (hbs : bs < w0.heap.size) :
    Calls Tryz.prog 74 #[.pointer (some ⟨bs, 0, none⟩), .int .i64 n] w0 fun e w' => ∃ t : Str, ∃ N', e = .returned (S t) ∧ t.length ≤ 18 ∧ (N ≤ N' ∧ N' ≤ N + 7) ∧ Evo w0 w' [bs] ∧ Blk w' bs T [.slice ao l.length cap, .int .i64 (N' : Nat)] := by
 have hAs := hb.at; have hbslt := hb.lt
 refine calls_enter (n := 31) Tryz.func74 rfl Tryz.ntmps74 rfl ?_
 have hV : Evo w0 w0 [bs] := Evo.refl _ _
 have hl0 := hl
 replace hl := hl0 _ hV
 have hbd_hl := hl.bd
 refine Zs ?_
 refine Zn asT ?_
 refine Zs ?_
 refine Zn asT ?_
 refine r_seq ?_
 refine Zs ?_
 refine Zo mvP ?_
 refine Zo mvI ?_
 refine Zo (run_add rfl η η ω ω) ?_
 refine Zr [.pointer _, .int _ _] rfl η Tryz.func38 (inx_calls hb hl ω ω ω) ?_
 rintro e w1 ⟨nx1, rfl, hx1, hE1, hn1⟩
 refine ⟨_, rfl, ?_⟩
 have hs_w1 := (hE1).size
 replace hV := evo_step1 hV hE1 (.inr (by simp))
 replace hl := hl0 _ hV
 replace hb := hn1
 clear hn1
 have hAs := hb.at
 refine Zn asI ?_
 refine r_block ?_
 refine r_loop (α := Nat) [5, 6, 7, 12, 13, 14, 15, 16, 17, 18, 19, 20, 21, 22, 23, 24, 25, 26, 27, 28, 29] (fun i g w => ∃ t : Str, ∃ N1 : Nat, g 6 = .int .i64 (i : Nat) ∧ g 5 = S t ∧ Blk w bs T [.slice ao l.length cap, .int .i64 (N1 : Nat)] ∧ At w bs 0 [.slice ao l.length cap, .int .i64 (N1 : Nat)] ∧ (N + 1 ≤ N1 ∧ N1 + 2 * i ≤ N + 7) ∧ (t.length + 6 * i ≤ 18) ∧ w1.heap.size ≤ w.heap.size ∧ Evo w0 w [bs]) (fun i => i) nx1.toNat ?_ ?_
 ·refine ⟨[], _, (congrArg (Value.int _) ω), rfl, hb, hb.at, δ, θ, δ, hV⟩
 rintro i g w3 ⟨t, N1, hj4, hj5, hb, hAs, hN1, htl, hzl2, hV⟩
 have hs_w3hV := hV.size
 have hlt6 := hb.lt
 refine Zk 6 (v := .int .i64 (i : Nat)) (by exact hj4) ?_
 refine Zk 5 (v := S t) (by exact hj5) ?_
 refine r_seq ?_
 refine Zs ?_
 refine Zo mvI ?_
 refine Zn (run_gtr rfl η η) ?_
 refine r_cond η (fun hc7 => ?_) (fun hc7 => ?_)
 ·skip
  refine r_skip ?_
  refine r_seq ?_
  refine r_block ?_
  refine Zs ?_
  refine Zo mvP ?_
  refine Zr [.pointer _] rfl η Tryz.func125 (word_calls hb (fun w9 h9 => hl0 _ (Evo.trans hV h9 (fun x hx _ => hx))) ω) ?_
  rintro e w8 ⟨tw8, Nw8, rfl, htw8, hNw8, hE8, hn8⟩
  refine ⟨_, rfl, ?_⟩
  have hs_w8 := (hE8).size
  replace hV := evo_step1 hV hE8 (.inr (by simp))
  replace hl := hl0 _ hV
  replace hb := hn8
  clear hn8
  have hAs := hb.at
  refine Zn asT ?_
  refine r_seq ?_
  refine Zs ?_
  refine Zo mvT ?_
  refine Zo (run_sneq rfl η η) ?_
  refine Zo mvB ?_
  refine r_g rfl (wantT η) rfl (fun hg => mvP) ?_
  refine r_gnext rfl (wantT η) rfl (fun hg => run_callf rfl (argcons (v := .pointer _) (glv η (fun h => h) hg) (argcons (v := .int _ _) η (rfl))) Tryz.func38 rfl ζ) (fun hg => (inx_calls hb hl ω ω ω)) hb ?_
  intro nx10 w9 Ng10 hx10 hE10 hna10 hnb10 hbn
  have hs_w9 := (hE10).size
  replace hV := evo_step1 hV hE10 (.inr (by simp))
  replace hl := hl0 _ hV
  replace hb := hbn
  clear hbn
  have hAs := hb.at
  refine r_g rfl (wantT η) rfl (fun hg => run_gtr rfl (glv η (fun h => h) hg) η) ?_
  refine Zn (run_pick_and rfl η (fun hq => glv η (fun h => h) hq) rfl) ?_
  refine r_cond η (fun hc11 => ?_) (fun hc11 => ?_)
  ·skip
   refine r_region ?_
   refine Zo mvT ?_
   refine Zo (run_sadd rfl η η (by first | omega | (simp; done) | (simp; omega))) ?_
   refine Zn asT ?_
   refine r_region ?_
   refine Zo mvT ?_
   refine Zo mvT ?_
   refine Zo (run_sadd rfl η η (by first | omega | (simp; done) | (simp; omega))) ?_
   refine Zn asT ?_
   refine r_blk ?_
   refine r_region ?_
   refine Zo mvI ?_
   refine Zo (run_sub rfl η η ω ω) ?_
   refine Zn asI ?_
   refine r_again (i - 1) ?_ ?_ ?_
   ·first | omega | (dsimp only; omega)
   ·refine ⟨_, _, σ, rfl, hb, hb.at, δ, (by first | omega | (simp; omega)), δ, hV⟩
   exact ψ
  refine r_skip ?_
  refine r_region ?_
  refine Zo mvT ?_
  refine Zo mvT ?_
  refine Zo (run_sadd rfl η η (by first | omega | (simp; done) | (simp; omega))) ?_
  refine Zn asT ?_
  refine r_blk ?_
  refine r_region ?_
  refine Zo mvI ?_
  refine Zo (run_sub rfl η η ω ω) ?_
  refine Zn asI ?_
  refine r_again (i - 1) ?_ ?_ ?_
  ·first | omega | (dsimp only; omega)
  ·refine ⟨_, _, σ, rfl, hb, hb.at, δ, (by first | omega | (simp; omega)), δ, hV⟩
  exact ψ
 refine r_exit rfl ?_
 refine Zs ?_
 refine Zo mvT ?_
 refine Zn asT ?_
 refine r_ret (res1 (v := S _) rfl η) ?_
 exact ⟨_, N1, rfl, by omega, by omega, hV, hb⟩
theorem rconcat_calls {aoa aob : Option Addr} {ba offa capa bb offb capb : Nat} {a b : List Vc.Item} {w0 : World} (ha : RowE w0 aoa ba offa capa a) (hb : RowE w0 aob bb offb capb b) (hsm : Small (a ++ b)) :
    Calls Tryz.prog 76 #[.slice aoa a.length capa, .slice aob b.length capb] w0 fun e w' => ∃ v, e = .returned v ∧ Evo w0 w' [] ∧ OwnE w' w0.heap.size 32 v (normL (a ++ b)) := by
 have hs9 := hsm.1; rw [List.length_append] at hs9
 refine calls_enter (n := 10) Tryz.func76 rfl Tryz.ntmps76 rfl ?_
 have hV : Evo w0 w0 [] := Evo.refl _ _
 have ha0 := keepE ha
 have hbd_ha := ha.bd
 have hb0 := keepE hb
 have hbd_hb := hb.bd
 refine Zs ?_
 refine Zn asS ?_
 refine Zs ?_
 refine Zo mvS ?_
 refine r_appendE rfl Tryz.underlying33 ty_32 η (OwnE.nil (α := Vc.Item) _ w0.heap.size _) η η ha rfl (θ) (θ) ω ?_
 intro v1 w2 hEw2 hov1 hlv1
 have hs_w2 := (hEw2).size
 replace hV := evo_step0 hV hEw2
 replace hb := hb0 _ hV
 refine Zo mvS ?_
 refine r_appendE rfl Tryz.underlying33 ty_32 η hov1 η η hb rfl (θ) (θ) ω ?_
 intro v3 w4 hEw4 hov3 hlv3
 have hs_w4 := (hEw4).size
 replace hV := evo_stepo hV hEw4 (fun g hg => .inl (by first | exact (hov1.block hg).1 | (have := hov1.block hg; omega)))
 replace ha := ha0 _ hV
 replace hb := hb0 _ hV
 obtain ⟨ao5, g5, cp5, hv5, hr5, hg5⟩ := hov3.rowOf
 subst hv5
 refine Zr [.slice _ _ _] rfl η Tryz.func126 (rnormalize_calls hr5 (by first | assumption | exact hsm | exact small_ren (by assumption))) ?_
 rintro e w6 ⟨vn6, rfl, hE6, hon6⟩
 refine ⟨_, rfl, ?_⟩
 have hs_w6 := (hE6).size
 replace hV := evo_step0 hV hE6
 refine Zn (run_asg (v := vn6) rfl η) ?_
 refine r_ret (res1 (v := vn6) rfl η) ?_
 exact ⟨_, rfl, hV, by have h9 := hon6; rw [List.nil_append] at h9; exact h9.base_le ω⟩
set_option maxHeartbeats 4000000 in
theorem fragment_calls {T bs : Nat} {ao : Option Addr} {b off cap : Nat} {l : List Int} {N : Nat} {n : Int} {tags nested : Bool} {w0 : World} (hb : Blk w0 bs T [.slice ao l.length cap, .int .i64 (N : Nat)]) (hl : ∀ w', Evo w0 w' [bs] → RowE w' ao b off cap l) (hN : N ≤ 100000) (hn0 : 0 ≤ n) (hn9 : n ≤ 100) :
    Calls Tryz.prog 41 #[.pointer (some ⟨bs, 0, none⟩), .int .i64 n, .bool tags, .bool nested] w0 fun e w' => ∃ v, ∃ f : List Vc.Item, ∃ N', e = .returned v ∧ (valGo [] f = 0 ∧ (f.length : Int) ≤ 2 * n ∧ (sizeL f : Int) ≤ 30 * n ∧ (nested = true → shapeL f = some ([], []))) ∧ (N ≤ N' ∧ N' ≤ N + 2000) ∧ Evo w0 w' [bs] ∧ Blk w' bs T [.slice ao l.length cap, .int .i64 (N' : Nat)] ∧ OwnE w' w0.heap.size 32 v f := by
 have hAs := hb.at; have hbslt := hb.lt
 refine calls_enter (n := 141) Tryz.func41 rfl Tryz.ntmps41 rfl ?_
 have hV : Evo w0 w0 [bs] := Evo.refl _ _
 have hl0 := hl
 replace hl := hl0 _ hV
 have hbd_hl := hl.bd
 refine Zs ?_
 refine Zn asS ?_
 refine Zs ?_
 refine Zo asS ?_
 refine Zn asS ?_
 refine Zs ?_
 refine Zn asI ?_
 refine r_seq ?_
 refine Zs ?_
 refine Zo mvP ?_
 refine Zo mvI ?_
 refine Zo (run_add rfl η η ω ω) ?_
 refine Zr [.pointer _, .int _ _] rfl η Tryz.func38 (inx_calls hb hl ω ω ω) ?_
 rintro e w1 ⟨nx1, rfl, hx1, hE1, hn1⟩
 refine ⟨_, rfl, ?_⟩
 have hs_w1 := (hE1).size
 replace hV := evo_step1 hV hE1 (.inr (by simp))
 replace hl := hl0 _ hV
 replace hb := hn1
 clear hn1
 have hAs := hb.at
 refine Zn asI ?_
 refine r_block ?_
 refine r_loop (α := Nat) [9, 10, 11, 12, 13, 14, 20, 21, 22, 23, 24, 25, 26, 27, 28, 29, 30, 31, 32, 33, 34, 35, 36, 37, 38, 39, 40, 41, 42, 43, 44, 45, 46, 47, 48, 49, 50, 51, 52, 53, 54, 55, 56, 57, 58, 59, 60, 61, 62, 63, 64, 65, 66, 67, 68, 69, 70, 71, 72, 73, 74, 75, 76, 77, 78, 79, 80, 81, 82, 83, 84, 85, 86, 87, 88, 89, 90, 91, 92, 93, 94, 95, 96, 97, 98, 99, 100, 101, 102, 103, 104, 105, 106, 107, 108, 109, 110, 111, 112, 113, 114] (fun i g w => ∃ vf : Value, ∃ vo : Value, ∃ f : List Vc.Item, ∃ op : List Vc.Item, ∃ idn : Int, ∃ N1 : Nat, g 12 = .int .i64 (i : Nat) ∧ g 9 = vf ∧ g 10 = vo ∧ g 11 = .int .i64 idn ∧ OwnE w w0.heap.size 32 vf f ∧ OwnE w w0.heap.size 32 vo op ∧ Blk w bs T [.slice ao l.length cap, .int .i64 (N1 : Nat)] ∧ At w bs 0 [.slice ao l.length cap, .int .i64 (N1 : Nat)] ∧ FI f op idn ∧ NS nested f op ∧ (f.length + i ≤ nx1.toNat ∧ sizeL f + 18 * i ≤ 18 * nx1.toNat ∧ op.length + i ≤ nx1.toNat ∧ idn + i ≤ nx1.toNat ∧ N + 1 ≤ N1 ∧ N1 + 11 * i ≤ N + 1 + 11 * nx1.toNat) ∧ (∀ g, vf.ownBlock = some g → ∀ h, vo.ownBlock = some h → g ≠ h) ∧ (∀ o ∈ op, o.text.length ≤ 5) ∧ w1.heap.size ≤ w.heap.size ∧ Evo w0 w [bs]) (fun i => i) nx1.toNat ?_ ?_
 ·refine ⟨_, _, [], [], _, _, (congrArg (Value.int _) ω), rfl, rfl, rfl, (OwnE.nil _ _ _), (OwnE.nil _ _ _), hb, hb.at, FI.nil, (NS.nil _), (by first | (simp [sizeL]; done) | (simp [sizeL]; omega)), (fun g hg => by have h9 : (none : Option Nat) = some g := hg; cases h9), (by simp), δ, hV⟩
 rintro i g w3 ⟨vf, vo, f, op, idn, N1, hj4, hj5, hj6, hj7, hof, hop, hb, hAs, hFI, hNS, hsz, hsep, hopt, hzl2, hV⟩
 have hs_w3hV := hV.size
 have hlt8 := hb.lt
 replace hl := hl0 _ hV
 refine Zk 12 (v := .int .i64 (i : Nat)) (by exact hj4) ?_
 refine Zk 9 (v := vf) (by exact hj5) ?_
 refine Zk 10 (v := vo) (by exact hj6) ?_
 refine Zk 11 (v := .int .i64 idn) (by exact hj7) ?_
 refine r_seq ?_
 refine Zs ?_
 refine Zo mvI ?_
 refine Zn (run_gtr rfl η η) ?_
 refine r_cond η (fun hc9 => ?_) (fun hc9 => ?_)
 ·skip
  refine r_skip ?_
  refine r_seq ?_
  refine r_block ?_
  refine r_seq ?_
  have hpos := hFI.pos; have hobF := fun g hg => (hof.block (g := g) hg).2; have hobP := fun g hg => (hop.block (g := g) hg).2
  refine r_region ?_
  refine Zo mvP ?_
  refine Zr [.pointer _, .int _ _] rfl η Tryz.func74 (line_calls hb (fun w9 h9 => hl0 _ (Evo.trans hV h9 (fun x hx _ => hx))) ω ω ω ω) ?_
  rintro e w10 ⟨tl10, Nl10, rfl, htl10, hNl10, hE10, hn10⟩
  refine ⟨_, rfl, ?_⟩
  have hs_w10 := (hE10).size
  replace hV := evo_step1 hV hE10 (.inr (by simp))
  replace hof := hof.evo hE10 (by intro g hg hm; simp at hm; subst hm; have := hof.block hg; omega)
  replace hop := hop.evo hE10 (by intro g hg hm; simp at hm; subst hm; have := hop.block hg; omega)
  replace hb := hn10
  clear hn10
  have hAs := hb.at
  refine Zo (run_bld (pv := [(0, .int _ _), (1, S _)]) (zs := [_, _, _]) (cells := [_, _, _]) rfl ty_32 η pl_32 η η) ?_
  have hob11 := fun g hg => (hof.block (g := g) hg).2
  have hob12 := fun g hg => (hop.block (g := g) hg).2
  refine r_var (zs := [_, _, _]) (vs := [_, _, _]) ty_32 η rfl η (fun _ => rfl) η rfl rfl η ?_
  intro b13 w14 heb13 hEw14 hbb13 hzb13
  have hs_w14 := (hEw14).size
  replace hV := evo_step0 hV hEw14
  replace hl := hl0 _ hV
  replace hof := hof.evo0 hEw14
  replace hop := hop.evo0 hEw14
  replace hb := hb.evo0 hEw14
  replace hAs := hAs.evo0 hEw14
  have hAb13 := hbb13.at
  refine r_nil ?_
  refine r_seq ?_
  refine r_seq ?_
  have hofx : ∀ g, vf.ownBlock = some g → g ≠ b13 := fun g hg h => by have := hobF g hg; omega
  have hopx : ∀ g, vo.ownBlock = some g → g ≠ b13 := fun g hg h => by have := hobP g hg; omega
  refine r_region ?_
  refine Zo mvP ?_
  refine Zr [.pointer _, .int _ _] rfl η Tryz.func38 (inx_calls hb hl ω ω ω) ?_
  rintro e w15 ⟨nx15, rfl, hx15, hE15, hn15⟩
  refine ⟨_, rfl, ?_⟩
  have hs_w15 := (hE15).size
  replace hV := evo_step1 hV hE15 (.inr (by simp))
  replace hl := hl0 _ hV
  replace hof := hof.evo hE15 (by intro g hg hm; simp at hm; subst hm; have := hof.block hg; omega)
  replace hop := hop.evo hE15 (by intro g hg hm; simp at hm; subst hm; have := hop.block hg; omega)
  replace hbb13 := hbb13.evo hE15 θ
  replace hAb13 := hAb13.evo hE15 θ
  replace hb := hn15
  clear hn15
  have hAs := hb.at
  refine r_nil ?_
  refine r_block ?_
  refine r_seq ?_
  refine Zs ?_
  refine Zo (run_eql rfl η η) ?_
  refine Zn asB ?_
  refine r_cond η (fun hc16 => ?_) (fun hc16 => ?_)
  ·skip
   refine r_skip ?_
   refine r_cut [10, 11, 14, 32, 33, 34, 35, 36, 37, 38, 39, 40, 41, 42, 43, 44, 45, 46, 47, 48, 49, 50, 51, 52, 53, 54, 55, 56, 57, 58, 59, 60, 61, 62, 63, 64, 65, 66, 67, 68, 69, 70, 71, 72, 73, 74, 75, 76, 77, 78, 79, 80, 81, 82, 83, 84, 85, 86, 87, 88, 89, 90, 91, 92, 93, 94, 95, 96, 97, 98, 99, 100, 101, 102, 103, 104, 105, 106, 107, 108, 109, 110] (fun g w => ∃ vo2 : Value, ∃ op2 : List Vc.Item, ∃ idn2 : Int, ∃ N2 : Nat, ∃ kx : Int, ∃ tx : Str, ∃ ix : Int, g 10 = vo2 ∧ g 11 = .int .i64 idn2 ∧ OwnE w w0.heap.size 32 vf f ∧ OwnE w w0.heap.size 32 vo2 op2 ∧ Blk w b13 32 [.int .i64 kx, S tx, .int .i64 ix] ∧ At w b13 0 [.int .i64 kx, S tx, .int .i64 ix] ∧ Blk w bs T [.slice ao l.length cap, .int .i64 (N2 : Nat)] ∧ At w bs 0 [.slice ao l.length cap, .int .i64 (N2 : Nat)] ∧ (FI (normStep f ⟨kx, tx, ix⟩) op2 idn2) ∧ (NS nested (normStep f ⟨kx, tx, ix⟩) op2) ∧ (tx.length ≤ 18 ∧ op2.length ≤ op.length + 1 ∧ idn2 ≤ idn + 1 ∧ N1 ≤ N2 ∧ N2 ≤ N1 + 11) ∧ (∀ o ∈ op2, o.text.length ≤ 5) ∧ w15.heap.size ≤ w.heap.size ∧ Evo w0 w [bs]) ?_ ?_
   ·skip
    refine r_condT η hc16 ?_
    refine r_region ?_
    refine r_bslice (pv := [(0, S _), (1, S _), (2, S _)]) (zs := [_]) (cs := [_, _, _]) Tryz.underlying77 ty_9 η rfl η rfl η ?_
    intro b18 w19 heb18 hEw19 hbb18 hzb18
    have hs_w19 := (hEw19).size
    replace hV := evo_step0 hV hEw19
    replace hl := hl0 _ hV
    replace hof := hof.evo0 hEw19
    replace hop := hop.evo0 hEw19
    replace hbb13 := hbb13.evo0 hEw19
    replace hAb13 := hAb13.evo0 hEw19
    replace hb := hb.evo0 hEw19
    replace hAs := hAs.evo0 hEw19
    have hrb18 : RowE w19 (some ⟨b18, 0, none⟩) b18 0 3 slotW := rowLit slotW hbb18 rfl rfl
    refine Zo mvP ?_
    refine Zr [.pointer _, .int _ _] rfl η Tryz.func38 (inx_calls hb hl ω ω ω) ?_
    rintro e w20 ⟨nx20, rfl, hx20, hE20, hn20⟩
    refine ⟨_, rfl, ?_⟩
    have hs_w20 := (hE20).size
    replace hV := evo_step1 hV hE20 (.inr (by simp))
    replace hof := hof.evo hE20 (by intro g hg hm; simp at hm; subst hm; have := hof.block hg; omega)
    replace hop := hop.evo hE20 (by intro g hg hm; simp at hm; subst hm; have := hop.block hg; omega)
    replace hbb13 := hbb13.evo hE20 θ
    replace hAb13 := hAb13.evo hE20 θ
    replace hrb18 := hrb18.evo hE20 θ
    replace hb := hn20
    clear hn20
    have hAs := hb.at
    refine Zo (run_ix (nx20.toNat) rfl Tryz.underlying77 ty_9 η η ω (by show _ < 3; omega) (hrb18.addr (i := nx20.toNat) (by show _ < 3; omega))) ?_
    have hA21 := hrb18.atD (nx20.toNat) (by show _ < 3; omega)
    refine Zo (run_ld1 rfl ag_9 η (hA21.cell 0 η)) ?_
    refine Zo (run_bld (pv := [(0, .int _ _), (1, S _)]) (zs := [_, _, _]) (cells := [_, _, _]) rfl ty_32 η pl_32 η η) ?_
    refine r_store (v := .agg _) (vs := [_, _, _]) (cs' := [_, _, _]) η η hbb13 ty_32 η rfl η rfl η ?_
    intro w22 hEw22 hzw22 hb_new
    have hs_w22 := (hEw22).size
    replace hV := evo_step1 hV hEw22 ε
    replace hl := hl0 _ hV
    replace hof := hof.evo hEw22 (by intro g hg hm; simp at hm; subst hm; exact hofx _ hg rfl)
    replace hop := hop.evo hEw22 (by intro g hg hm; simp at hm; subst hm; exact hopx _ hg rfl)
    replace hb := hb.evo hEw22 θ
    replace hbb13 := hb_new
    have hAb13 := hbb13.at
    clear hb_new
    refine r_nil ?_
    refine r_cut_end ?_ ?_
    ·refine ⟨_, _, _, _, _, _, _, rfl, rfl, hof, (hop.base_le ω), hbb13, hbb13.at, hb, hb.at, (by first | exact hFI.text _ | exact hFI.slot (slotW_ok _ ω).1 | exact hFI.empty (emptyW_ok _ ω).1 ω | exact hFI.open_ (openW_ok _ ω).1 ω | exact hFI.close ω ω | exact hFI.closeNew (by decide) ω), (by first | exact hNS.otherB rfl rfl | exact hNS.open_ _ _ | exact hNS.close ω (fun h9 => by first | rfl | exact absurd h9 hc16) _ | exact NS.closeNew (hc16).2), ⟨by first | omega | exact Nat.le_trans (slotW_ok _ ω).2 (by decide) | exact Nat.le_trans (emptyW_ok _ ω).2 (by decide) | exact Nat.le_trans (openW_ok _ ω).2 (by decide) | exact Nat.le_trans (nameL_len _) (Nat.le_trans (text5 hopt _) (by decide)) | decide, by first | omega | (simp; done) | (simp; omega), by omega, by omega, by omega⟩, (by first | exact hopt | exact (fun o ho => (List.mem_append.1 ho).elim (hopt o) (fun h => by simp at h; subst h; exact (openW_ok _ ω).2)) | exact (fun o ho => (List.mem_append.1 ho).elim (fun h => hopt o (List.mem_of_mem_take h)) (fun h => hopt o (List.mem_of_mem_drop h)))), δ, hV⟩
    exact ψ
   rintro g w23 ⟨vo2, op2, idn2, N2, kx, tx, ix, hj24, hj25, hof, hop, hbb13, hAb13, hb, hAs, hFX, hNX, hsz2, hop2, hzl17, hV⟩
   have hs_w23hV := hV.size
   have hlt26 := hbb13.lt
   have hlt27 := hb.lt
   refine Zk 10 (v := vo2) (by exact hj24) ?_
   refine Zk 11 (v := .int .i64 idn2) (by exact hj25) ?_
   refine r_blk ?_
   have hobZ := fun g hg => (hop.block (g := g) hg).2
   have s32 : Small (f ++ [⟨kx, tx, ix⟩]) := ⟨by rw [List.length_append]; simp; omega, by rw [sizeL_append, sizeL_one]; simp; omega⟩
   refine r_region ?_
   refine Zo (run_mv (v := vf) rfl η) ?_
   refine Zo (run_ldN rfl ag_32 ty_32 η rfl hAb13) ?_
   refine r_bslice (pv := [(0, .agg _)]) (zs := [_, _, _]) (cs := [_, _, _]) Tryz.underlying33 ty_32 η rfl η rfl η ?_
   intro b28 w29 heb28 hEw29 hbb28 hzb28
   have hs_w29 := (hEw29).size
   replace hV := evo_step0 hV hEw29
   replace hl := hl0 _ hV
   replace hof := hof.evo0 hEw29
   replace hop := hop.evo0 hEw29
   replace hb := hb.evo0 hEw29
   have hrb28 : RowE w29 (some ⟨b28, 0, none⟩) b28 0 1 ([⟨kx, tx, ix⟩] : List Vc.Item) := rowLit ([⟨kx, tx, ix⟩] : List Vc.Item) hbb28 rfl rfl
   obtain ⟨ao30, g30, cp30, hv30, hr30, hg30⟩ := hof.rowOf
   subst hv30
   refine Zr [.slice _ _ _, .slice (some ⟨b28, 0, none⟩) _ _] rfl η Tryz.func76 (rconcat_calls hr30 hrb28 (by assumption)) ?_
   rintro e w31 ⟨vn31, rfl, hE31, hon31⟩
   refine ⟨_, rfl, ?_⟩
   have hs_w31 := (hE31).size
   replace hV := evo_step0 hV hE31
   replace hl := hl0 _ hV
   replace hof := hof.evo0 hE31
   replace hop := hop.evo0 hE31
   replace hb := hb.evo0 hE31
   replace hrb28 := hrb28.evo0 hE31
   replace hr30 := hr30.evo0 hE31
   refine Zn (run_asg (v := vn31) rfl η) ?_
   refine r_blk ?_
   refine r_region ?_
   refine Zo mvI ?_
   refine Zo (run_sub rfl η η ω ω) ?_
   refine Zn asI ?_
   refine r_again (i - 1) ?_ ?_ ?_
   ·first | omega | (dsimp only; omega)
   ·refine ⟨_, _, _, _, _, _, σ, rfl, rfl, rfl, (hon31.base_le ω), hop, hb, hb.at, (by rw [hFI.norm]; exact hFX), (by rw [hFI.norm]; exact hNX), (by have h1 := normL_len (f ++ [⟨kx, tx, ix⟩]); have h2 := normL_size (f ++ [⟨kx, tx, ix⟩]); rw [List.length_append] at h1; rw [sizeL_append, sizeL_one] at h2; simp at h1 h2; omega), (fun g hg h hh => by have h1 := (hon31).block (g := g) hg; have h2 := hobZ h hh; omega), hop2, δ, hV⟩
   exact ψ
  refine r_region ?_
  refine Zo (run_eql rfl η η) ?_
  refine Zn asB ?_
  refine r_cut [10, 11, 14, 32, 33, 34, 35, 36, 37, 38, 39, 40, 41, 42, 43, 44, 45, 46, 47, 48, 49, 50, 51, 52, 53, 54, 55, 56, 57, 58, 59, 60, 61, 62, 63, 64, 65, 66, 67, 68, 69, 70, 71, 72, 73, 74, 75, 76, 77, 78, 79, 80, 81, 82, 83, 84, 85, 86, 87, 88, 89, 90, 91, 92, 93, 94, 95, 96, 97, 98, 99, 100, 101, 102, 103, 104, 105, 106, 107, 108, 109, 110] (fun g w => ∃ vo2 : Value, ∃ op2 : List Vc.Item, ∃ idn2 : Int, ∃ N2 : Nat, ∃ kx : Int, ∃ tx : Str, ∃ ix : Int, g 10 = vo2 ∧ g 11 = .int .i64 idn2 ∧ OwnE w w0.heap.size 32 vf f ∧ OwnE w w0.heap.size 32 vo2 op2 ∧ Blk w b13 32 [.int .i64 kx, S tx, .int .i64 ix] ∧ At w b13 0 [.int .i64 kx, S tx, .int .i64 ix] ∧ Blk w bs T [.slice ao l.length cap, .int .i64 (N2 : Nat)] ∧ At w bs 0 [.slice ao l.length cap, .int .i64 (N2 : Nat)] ∧ (FI (normStep f ⟨kx, tx, ix⟩) op2 idn2) ∧ (NS nested (normStep f ⟨kx, tx, ix⟩) op2) ∧ (tx.length ≤ 18 ∧ op2.length ≤ op.length + 1 ∧ idn2 ≤ idn + 1 ∧ N1 ≤ N2 ∧ N2 ≤ N1 + 11) ∧ (∀ o ∈ op2, o.text.length ≤ 5) ∧ w15.heap.size ≤ w.heap.size ∧ Evo w0 w [bs]) ?_ ?_
  ·skip
   refine r_cond η (fun hc33 => ?_) (fun hc33 => ?_)
   ·skip
    refine r_region ?_
    refine r_bslice (pv := [(0, S _), (1, S _), (2, S _)]) (zs := [_]) (cs := [_, _, _]) Tryz.underlying77 ty_9 η rfl η rfl η ?_
    intro b34 w35 heb34 hEw35 hbb34 hzb34
    have hs_w35 := (hEw35).size
    replace hV := evo_step0 hV hEw35
    replace hl := hl0 _ hV
    replace hof := hof.evo0 hEw35
    replace hop := hop.evo0 hEw35
    replace hbb13 := hbb13.evo0 hEw35
    replace hAb13 := hAb13.evo0 hEw35
    replace hb := hb.evo0 hEw35
    replace hAs := hAs.evo0 hEw35
    have hrb34 : RowE w35 (some ⟨b34, 0, none⟩) b34 0 3 slotW := rowLit slotW hbb34 rfl rfl
    refine Zo mvP ?_
    refine Zr [.pointer _, .int _ _] rfl η Tryz.func38 (inx_calls hb hl ω ω ω) ?_
    rintro e w36 ⟨nx36, rfl, hx36, hE36, hn36⟩
    refine ⟨_, rfl, ?_⟩
    have hs_w36 := (hE36).size
    replace hV := evo_step1 hV hE36 (.inr (by simp))
    replace hof := hof.evo hE36 (by intro g hg hm; simp at hm; subst hm; have := hof.block hg; omega)
    replace hop := hop.evo hE36 (by intro g hg hm; simp at hm; subst hm; have := hop.block hg; omega)
    replace hbb13 := hbb13.evo hE36 θ
    replace hAb13 := hAb13.evo hE36 θ
    replace hrb34 := hrb34.evo hE36 θ
    replace hb := hn36
    clear hn36
    have hAs := hb.at
    refine Zo (run_ix (nx36.toNat) rfl Tryz.underlying77 ty_9 η η ω (by show _ < 3; omega) (hrb34.addr (i := nx36.toNat) (by show _ < 3; omega))) ?_
    have hA37 := hrb34.atD (nx36.toNat) (by show _ < 3; omega)
    refine Zo (run_ld1 rfl ag_9 η (hA37.cell 0 η)) ?_
    refine Zo (run_bld (pv := [(0, .int _ _), (1, S _)]) (zs := [_, _, _]) (cells := [_, _, _]) rfl ty_32 η pl_32 η η) ?_
    refine r_store (v := .agg _) (vs := [_, _, _]) (cs' := [_, _, _]) η η hbb13 ty_32 η rfl η rfl η ?_
    intro w38 hEw38 hzw38 hb_new
    have hs_w38 := (hEw38).size
    replace hV := evo_step1 hV hEw38 ε
    replace hl := hl0 _ hV
    replace hof := hof.evo hEw38 (by intro g hg hm; simp at hm; subst hm; exact hofx _ hg rfl)
    replace hop := hop.evo hEw38 (by intro g hg hm; simp at hm; subst hm; exact hopx _ hg rfl)
    replace hb := hb.evo hEw38 θ
    replace hbb13 := hb_new
    have hAb13 := hbb13.at
    clear hb_new
    refine r_nil ?_
    refine r_cut_end ?_ ?_
    ·refine ⟨_, _, _, _, _, _, _, rfl, rfl, hof, (hop.base_le ω), hbb13, hbb13.at, hb, hb.at, (by first | exact hFI.text _ | exact hFI.slot (slotW_ok _ ω).1 | exact hFI.empty (emptyW_ok _ ω).1 ω | exact hFI.open_ (openW_ok _ ω).1 ω | exact hFI.close ω ω | exact hFI.closeNew (by decide) ω), (by first | exact hNS.otherB rfl rfl | exact hNS.open_ _ _ | exact hNS.close ω (fun h9 => by first | rfl | exact absurd h9 hc33) _ | exact NS.closeNew (hc33).2), ⟨by first | omega | exact Nat.le_trans (slotW_ok _ ω).2 (by decide) | exact Nat.le_trans (emptyW_ok _ ω).2 (by decide) | exact Nat.le_trans (openW_ok _ ω).2 (by decide) | exact Nat.le_trans (nameL_len _) (Nat.le_trans (text5 hopt _) (by decide)) | decide, by first | omega | (simp; done) | (simp; omega), by omega, by omega, by omega⟩, (by first | exact hopt | exact (fun o ho => (List.mem_append.1 ho).elim (hopt o) (fun h => by simp at h; subst h; exact (openW_ok _ ω).2)) | exact (fun o ho => (List.mem_append.1 ho).elim (fun h => hopt o (List.mem_of_mem_take h)) (fun h => hopt o (List.mem_of_mem_drop h)))), δ, hV⟩
    exact ψ
   refine Zs ?_
   refine Zo (run_eql rfl η η) ?_
   refine Zn asB ?_
   refine r_cond η (fun hc39 => ?_) (fun hc39 => ?_)
   ·skip
    refine Zs ?_
    refine Zn (run_mvb rfl η) ?_
    refine r_cond η (fun hc40 => ?_) (fun hc40 => ?_)
    ·skip
     refine Zs ?_
     refine Zo mvI ?_
     refine Zo (run_add rfl η η ω ω) ?_
     refine Zn asI ?_
     refine r_region ?_
     refine r_bslice (pv := [(0, S _), (1, S _)]) (zs := [_]) (cs := [_, _]) Tryz.underlying77 ty_9 η rfl η rfl η ?_
     intro b41 w42 heb41 hEw42 hbb41 hzb41
     have hs_w42 := (hEw42).size
     replace hV := evo_step0 hV hEw42
     replace hl := hl0 _ hV
     replace hof := hof.evo0 hEw42
     replace hop := hop.evo0 hEw42
     replace hbb13 := hbb13.evo0 hEw42
     replace hAb13 := hAb13.evo0 hEw42
     replace hb := hb.evo0 hEw42
     replace hAs := hAs.evo0 hEw42
     have hrb41 : RowE w42 (some ⟨b41, 0, none⟩) b41 0 2 emptyW := rowLit emptyW hbb41 rfl rfl
     refine Zo mvP ?_
     refine Zr [.pointer _, .int _ _] rfl η Tryz.func38 (inx_calls hb hl ω ω ω) ?_
     rintro e w43 ⟨nx43, rfl, hx43, hE43, hn43⟩
     refine ⟨_, rfl, ?_⟩
     have hs_w43 := (hE43).size
     replace hV := evo_step1 hV hE43 (.inr (by simp))
     replace hof := hof.evo hE43 (by intro g hg hm; simp at hm; subst hm; have := hof.block hg; omega)
     replace hop := hop.evo hE43 (by intro g hg hm; simp at hm; subst hm; have := hop.block hg; omega)
     replace hbb13 := hbb13.evo hE43 θ
     replace hAb13 := hAb13.evo hE43 θ
     replace hrb41 := hrb41.evo hE43 θ
     replace hb := hn43
     clear hn43
     have hAs := hb.at
     refine Zo (run_ix (nx43.toNat) rfl Tryz.underlying77 ty_9 η η ω (by show _ < 2; omega) (hrb41.addr (i := nx43.toNat) (by show _ < 2; omega))) ?_
     have hA44 := hrb41.atD (nx43.toNat) (by show _ < 2; omega)
     refine Zo (run_ld1 rfl ag_9 η (hA44.cell 0 η)) ?_
     refine Zo mvI ?_
     refine Zo (run_bld (pv := [(0, .int _ _), (1, S _), (2, .int _ _)]) (zs := [_, _, _]) (cells := [_, _, _]) rfl ty_32 η pl_32 η η) ?_
     refine r_store (v := .agg _) (vs := [_, _, _]) (cs' := [_, _, _]) η η hbb13 ty_32 η rfl η rfl η ?_
     intro w45 hEw45 hzw45 hb_new
     have hs_w45 := (hEw45).size
     replace hV := evo_step1 hV hEw45 ε
     replace hl := hl0 _ hV
     replace hof := hof.evo hEw45 (by intro g hg hm; simp at hm; subst hm; exact hofx _ hg rfl)
     replace hop := hop.evo hEw45 (by intro g hg hm; simp at hm; subst hm; exact hopx _ hg rfl)
     replace hb := hb.evo hEw45 θ
     replace hbb13 := hb_new
     have hAb13 := hbb13.at
     clear hb_new
     refine r_nil ?_
     refine r_cut_end ?_ ?_
     ·refine ⟨_, _, _, _, _, _, _, rfl, rfl, hof, (hop.base_le ω), hbb13, hbb13.at, hb, hb.at, (by first | exact hFI.text _ | exact hFI.slot (slotW_ok _ ω).1 | exact hFI.empty (emptyW_ok _ ω).1 ω | exact hFI.open_ (openW_ok _ ω).1 ω | exact hFI.close ω ω | exact hFI.closeNew (by decide) ω), (by first | exact hNS.otherB rfl rfl | exact hNS.open_ _ _ | exact hNS.close ω (fun h9 => by first | rfl | exact absurd h9 hc40) _ | exact NS.closeNew (hc40).2), ⟨by first | omega | exact Nat.le_trans (slotW_ok _ ω).2 (by decide) | exact Nat.le_trans (emptyW_ok _ ω).2 (by decide) | exact Nat.le_trans (openW_ok _ ω).2 (by decide) | exact Nat.le_trans (nameL_len _) (Nat.le_trans (text5 hopt _) (by decide)) | decide, by first | omega | (simp; done) | (simp; omega), by omega, by omega, by omega⟩, (by first | exact hopt | exact (fun o ho => (List.mem_append.1 ho).elim (hopt o) (fun h => by simp at h; subst h; exact (openW_ok _ ω).2)) | exact (fun o ho => (List.mem_append.1 ho).elim (fun h => hopt o (List.mem_of_mem_take h)) (fun h => hopt o (List.mem_of_mem_drop h)))), δ, hV⟩
     exact ψ
    refine r_skip ?_
    refine r_cut_end ?_ ?_
    ·refine ⟨_, _, _, _, _, _, _, rfl, rfl, hof, (hop.base_le ω), hbb13, hbb13.at, hb, hb.at, (by first | exact hFI.text _ | exact hFI.slot (slotW_ok _ ω).1 | exact hFI.empty (emptyW_ok _ ω).1 ω | exact hFI.open_ (openW_ok _ ω).1 ω | exact hFI.close ω ω | exact hFI.closeNew (by decide) ω), (by first | exact hNS.otherB rfl rfl | exact hNS.open_ _ _ | exact hNS.close ω (fun h9 => by first | rfl | exact absurd h9 hc40) _ | exact NS.closeNew (hc40).2), ⟨by first | omega | exact Nat.le_trans (slotW_ok _ ω).2 (by decide) | exact Nat.le_trans (emptyW_ok _ ω).2 (by decide) | exact Nat.le_trans (openW_ok _ ω).2 (by decide) | exact Nat.le_trans (nameL_len _) (Nat.le_trans (text5 hopt _) (by decide)) | decide, by first | omega | (simp; done) | (simp; omega), by omega, by omega, by omega⟩, (by first | exact hopt | exact (fun o ho => (List.mem_append.1 ho).elim (hopt o) (fun h => by simp at h; subst h; exact (openW_ok _ ω).2)) | exact (fun o ho => (List.mem_append.1 ho).elim (fun h => hopt o (List.mem_of_mem_take h)) (fun h => hopt o (List.mem_of_mem_drop h)))), δ, hV⟩
    exact ψ
   refine r_seq ?_
   refine Zs ?_
   refine Zo (run_eql rfl η η) ?_
   refine Zn asB ?_
   refine r_cond η (fun hc46 => ?_) (fun hc46 => ?_)
   ·skip
    refine r_skip ?_
    refine r_condT η hc46 ?_
    refine Zs ?_
    refine Zn (run_mvb rfl η) ?_
    refine r_cond η (fun hc47 => ?_) (fun hc47 => ?_)
    ·skip
     refine Zs ?_
     refine Zo mvI ?_
     refine Zo (run_add rfl η η ω ω) ?_
     refine Zn asI ?_
     refine Zs ?_
     refine r_bslice (pv := [(0, S _), (1, S _), (2, S _)]) (zs := [_]) (cs := [_, _, _]) Tryz.underlying77 ty_9 η rfl η rfl η ?_
     intro b48 w49 heb48 hEw49 hbb48 hzb48
     have hs_w49 := (hEw49).size
     replace hV := evo_step0 hV hEw49
     replace hl := hl0 _ hV
     replace hof := hof.evo0 hEw49
     replace hop := hop.evo0 hEw49
     replace hbb13 := hbb13.evo0 hEw49
     replace hAb13 := hAb13.evo0 hEw49
     replace hb := hb.evo0 hEw49
     replace hAs := hAs.evo0 hEw49
     have hrb48 : RowE w49 (some ⟨b48, 0, none⟩) b48 0 3 openW := rowLit openW hbb48 rfl rfl
     refine Zo mvP ?_
     refine Zr [.pointer _, .int _ _] rfl η Tryz.func38 (inx_calls hb hl ω ω ω) ?_
     rintro e w50 ⟨nx50, rfl, hx50, hE50, hn50⟩
     refine ⟨_, rfl, ?_⟩
     have hs_w50 := (hE50).size
     replace hV := evo_step1 hV hE50 (.inr (by simp))
     replace hof := hof.evo hE50 (by intro g hg hm; simp at hm; subst hm; have := hof.block hg; omega)
     replace hop := hop.evo hE50 (by intro g hg hm; simp at hm; subst hm; have := hop.block hg; omega)
     replace hbb13 := hbb13.evo hE50 θ
     replace hAb13 := hAb13.evo hE50 θ
     replace hrb48 := hrb48.evo hE50 θ
     replace hb := hn50
     clear hn50
     have hAs := hb.at
     refine Zo (run_ix (nx50.toNat) rfl Tryz.underlying77 ty_9 η η ω (by show _ < 3; omega) (hrb48.addr (i := nx50.toNat) (by show _ < 3; omega))) ?_
     have hA51 := hrb48.atD (nx50.toNat) (by show _ < 3; omega)
     refine Zo (run_ld1 rfl ag_9 η (hA51.cell 0 η)) ?_
     refine Zo mvI ?_
     refine Zo (run_bld (pv := [(0, .int _ _), (1, S _), (2, .int _ _)]) (zs := [_, _, _]) (cells := [_, _, _]) rfl ty_32 η pl_32 η η) ?_
     refine r_store (v := .agg _) (vs := [_, _, _]) (cs' := [_, _, _]) η η hbb13 ty_32 η rfl η rfl η ?_
     intro w52 hEw52 hzw52 hb_new
     have hs_w52 := (hEw52).size
     replace hV := evo_step1 hV hEw52 ε
     replace hof := hof.evo hEw52 (by intro g hg hm; simp at hm; subst hm; exact hofx _ hg rfl)
     replace hop := hop.evo hEw52 (by intro g hg hm; simp at hm; subst hm; exact hopx _ hg rfl)
     replace hb := hb.evo hEw52 θ
     replace hbb13 := hb_new
     have hAb13 := hbb13.at
     clear hb_new
     refine r_nil ?_
     refine r_region ?_
     refine Zo (run_mv (v := vo) rfl η) ?_
     refine Zo (run_ldN rfl ag_32 ty_32 η rfl hAb13) ?_
     refine r_append1E (u := .agg _) (y := ⟨_, _, _⟩) rfl rfl Tryz.underlying33 ty_32 η hop (fun _ => η) η (by first | exact rfl | (show _ = List.toArray [_, _, _]; first | (dsimp only; done) | exact rfl | (dsimp only; exact rfl))) ((by first | omega | (simp; omega))) ((by first | omega | (simp; omega))) ω ?_
     intro q_v53 v53 w54 hEw54 hov53 hlv53
     have hs_w54 := (hEw54).size
     replace hV := evo_stepo hV hEw54 (fun g hg => .inl (by first | exact (hop.block hg).1 | (have := hop.block hg; omega)))
     replace hl := hl0 _ hV
     replace hof := hof.evo hEw54 (by intro g hg hm; exact hsep g hg _ (Option.mem_toList.1 hm) rfl)
     replace hb := hb.evo hEw54 (by intro hm; have hm2 := Option.mem_toList.1 hm; have := hop.block hm2; omega)
     replace hbb13 := hbb13.evo hEw54 (by intro hm; have hm2 := Option.mem_toList.1 hm; have := hob12 _ hm2; omega)
     replace hAb13 := hAb13.evo hEw54 (by intro hm; have hm2 := Option.mem_toList.1 hm; have := hob12 _ hm2; omega)
     refine Zn (run_asg (v := v53) rfl η) ?_
     refine r_cut_end ?_ ?_
     ·refine ⟨_, _, _, _, _, _, _, rfl, rfl, hof, (hov53.base_le ω), hbb13, hbb13.at, hb, hb.at, (by first | exact hFI.text _ | exact hFI.slot (slotW_ok _ ω).1 | exact hFI.empty (emptyW_ok _ ω).1 ω | exact hFI.open_ (openW_ok _ ω).1 ω | exact hFI.close ω ω | exact hFI.closeNew (by decide) ω), (by first | exact hNS.otherB rfl rfl | exact hNS.open_ _ _ | exact hNS.close ω (fun h9 => by first | rfl | exact absurd h9 hc47) _ | exact NS.closeNew (hc47).2), ⟨by first | omega | exact Nat.le_trans (slotW_ok _ ω).2 (by decide) | exact Nat.le_trans (emptyW_ok _ ω).2 (by decide) | exact Nat.le_trans (openW_ok _ ω).2 (by decide) | exact Nat.le_trans (nameL_len _) (Nat.le_trans (text5 hopt _) (by decide)) | decide, by first | omega | (simp; done) | (simp; omega), by omega, by omega, by omega⟩, (by first | exact hopt | exact (fun o ho => (List.mem_append.1 ho).elim (hopt o) (fun h => by simp at h; subst h; exact (openW_ok _ ω).2)) | exact (fun o ho => (List.mem_append.1 ho).elim (fun h => hopt o (List.mem_of_mem_take h)) (fun h => hopt o (List.mem_of_mem_drop h)))), δ, hV⟩
     exact ψ
    refine r_skip ?_
    refine r_cut_end ?_ ?_
    ·refine ⟨_, _, _, _, _, _, _, rfl, rfl, hof, (hop.base_le ω), hbb13, hbb13.at, hb, hb.at, (by first | exact hFI.text _ | exact hFI.slot (slotW_ok _ ω).1 | exact hFI.empty (emptyW_ok _ ω).1 ω | exact hFI.open_ (openW_ok _ ω).1 ω | exact hFI.close ω ω | exact hFI.closeNew (by decide) ω), (by first | exact hNS.otherB rfl rfl | exact hNS.open_ _ _ | exact hNS.close ω (fun h9 => by first | rfl | exact absurd h9 hc47) _ | exact NS.closeNew (hc47).2), ⟨by first | omega | exact Nat.le_trans (slotW_ok _ ω).2 (by decide) | exact Nat.le_trans (emptyW_ok _ ω).2 (by decide) | exact Nat.le_trans (openW_ok _ ω).2 (by decide) | exact Nat.le_trans (nameL_len _) (Nat.le_trans (text5 hopt _) (by decide)) | decide, by first | omega | (simp; done) | (simp; omega), by omega, by omega, by omega⟩, (by first | exact hopt | exact (fun o ho => (List.mem_append.1 ho).elim (hopt o) (fun h => by simp at h; subst h; exact (openW_ok _ ω).2)) | exact (fun o ho => (List.mem_append.1 ho).elim (fun h => hopt o (List.mem_of_mem_take h)) (fun h => hopt o (List.mem_of_mem_drop h)))), δ, hV⟩
    exact ψ
   refine r_region ?_
   refine Zo (run_eql rfl η η) ?_
   refine Zn asB ?_
   refine r_cond η (fun hc55 => ?_) (fun hc55 => ?_)
   ·skip
    refine Zs ?_
    refine Zn (run_mvb rfl η) ?_
    refine r_cond η (fun hc56 => ?_) (fun hc56 => ?_)
    ·skip
     refine Zs ?_
     refine Zo mvI ?_
     refine Zo (run_add rfl η η ω ω) ?_
     refine Zn asI ?_
     refine Zs ?_
     refine r_bslice (pv := [(0, S _), (1, S _), (2, S _)]) (zs := [_]) (cs := [_, _, _]) Tryz.underlying77 ty_9 η rfl η rfl η ?_
     intro b57 w58 heb57 hEw58 hbb57 hzb57
     have hs_w58 := (hEw58).size
     replace hV := evo_step0 hV hEw58
     replace hl := hl0 _ hV
     replace hof := hof.evo0 hEw58
     replace hop := hop.evo0 hEw58
     replace hbb13 := hbb13.evo0 hEw58
     replace hAb13 := hAb13.evo0 hEw58
     replace hb := hb.evo0 hEw58
     replace hAs := hAs.evo0 hEw58
     have hrb57 : RowE w58 (some ⟨b57, 0, none⟩) b57 0 3 openW := rowLit openW hbb57 rfl rfl
     refine Zo mvP ?_
     refine Zr [.pointer _, .int _ _] rfl η Tryz.func38 (inx_calls hb hl ω ω ω) ?_
     rintro e w59 ⟨nx59, rfl, hx59, hE59, hn59⟩
     refine ⟨_, rfl, ?_⟩
     have hs_w59 := (hE59).size
     replace hV := evo_step1 hV hE59 (.inr (by simp))
     replace hof := hof.evo hE59 (by intro g hg hm; simp at hm; subst hm; have := hof.block hg; omega)
     replace hop := hop.evo hE59 (by intro g hg hm; simp at hm; subst hm; have := hop.block hg; omega)
     replace hbb13 := hbb13.evo hE59 θ
     replace hAb13 := hAb13.evo hE59 θ
     replace hrb57 := hrb57.evo hE59 θ
     replace hb := hn59
     clear hn59
     have hAs := hb.at
     refine Zo (run_ix (nx59.toNat) rfl Tryz.underlying77 ty_9 η η ω (by show _ < 3; omega) (hrb57.addr (i := nx59.toNat) (by show _ < 3; omega))) ?_
     have hA60 := hrb57.atD (nx59.toNat) (by show _ < 3; omega)
     refine Zo (run_ld1 rfl ag_9 η (hA60.cell 0 η)) ?_
     refine Zo mvI ?_
     refine Zo (run_bld (pv := [(0, .int _ _), (1, S _), (2, .int _ _)]) (zs := [_, _, _]) (cells := [_, _, _]) rfl ty_32 η pl_32 η η) ?_
     refine r_store (v := .agg _) (vs := [_, _, _]) (cs' := [_, _, _]) η η hbb13 ty_32 η rfl η rfl η ?_
     intro w61 hEw61 hzw61 hb_new
     have hs_w61 := (hEw61).size
     replace hV := evo_step1 hV hEw61 ε
     replace hof := hof.evo hEw61 (by intro g hg hm; simp at hm; subst hm; exact hofx _ hg rfl)
     replace hop := hop.evo hEw61 (by intro g hg hm; simp at hm; subst hm; exact hopx _ hg rfl)
     replace hb := hb.evo hEw61 θ
     replace hbb13 := hb_new
     have hAb13 := hbb13.at
     clear hb_new
     refine r_nil ?_
     refine r_region ?_
     refine Zo (run_mv (v := vo) rfl η) ?_
     refine Zo (run_ldN rfl ag_32 ty_32 η rfl hAb13) ?_
     refine r_append1E (u := .agg _) (y := ⟨_, _, _⟩) rfl rfl Tryz.underlying33 ty_32 η hop (fun _ => η) η (by first | exact rfl | (show _ = List.toArray [_, _, _]; first | (dsimp only; done) | exact rfl | (dsimp only; exact rfl))) ((by first | omega | (simp; omega))) ((by first | omega | (simp; omega))) ω ?_
     intro q_v62 v62 w63 hEw63 hov62 hlv62
     have hs_w63 := (hEw63).size
     replace hV := evo_stepo hV hEw63 (fun g hg => .inl (by first | exact (hop.block hg).1 | (have := hop.block hg; omega)))
     replace hl := hl0 _ hV
     replace hof := hof.evo hEw63 (by intro g hg hm; exact hsep g hg _ (Option.mem_toList.1 hm) rfl)
     replace hb := hb.evo hEw63 (by intro hm; have hm2 := Option.mem_toList.1 hm; have := hop.block hm2; omega)
     replace hbb13 := hbb13.evo hEw63 (by intro hm; have hm2 := Option.mem_toList.1 hm; have := hob12 _ hm2; omega)
     replace hAb13 := hAb13.evo hEw63 (by intro hm; have hm2 := Option.mem_toList.1 hm; have := hob12 _ hm2; omega)
     refine Zn (run_asg (v := v62) rfl η) ?_
     refine r_cut_end ?_ ?_
     ·refine ⟨_, _, _, _, _, _, _, rfl, rfl, hof, (hov62.base_le ω), hbb13, hbb13.at, hb, hb.at, (by first | exact hFI.text _ | exact hFI.slot (slotW_ok _ ω).1 | exact hFI.empty (emptyW_ok _ ω).1 ω | exact hFI.open_ (openW_ok _ ω).1 ω | exact hFI.close ω ω | exact hFI.closeNew (by decide) ω), (by first | exact hNS.otherB rfl rfl | exact hNS.open_ _ _ | exact hNS.close ω (fun h9 => by first | rfl | exact absurd h9 hc56) _ | exact NS.closeNew (hc56).2), ⟨by first | omega | exact Nat.le_trans (slotW_ok _ ω).2 (by decide) | exact Nat.le_trans (emptyW_ok _ ω).2 (by decide) | exact Nat.le_trans (openW_ok _ ω).2 (by decide) | exact Nat.le_trans (nameL_len _) (Nat.le_trans (text5 hopt _) (by decide)) | decide, by first | omega | (simp; done) | (simp; omega), by omega, by omega, by omega⟩, (by first | exact hopt | exact (fun o ho => (List.mem_append.1 ho).elim (hopt o) (fun h => by simp at h; subst h; exact (openW_ok _ ω).2)) | exact (fun o ho => (List.mem_append.1 ho).elim (fun h => hopt o (List.mem_of_mem_take h)) (fun h => hopt o (List.mem_of_mem_drop h)))), δ, hV⟩
     exact ψ
    refine r_skip ?_
    refine r_cut_end ?_ ?_
    ·refine ⟨_, _, _, _, _, _, _, rfl, rfl, hof, (hop.base_le ω), hbb13, hbb13.at, hb, hb.at, (by first | exact hFI.text _ | exact hFI.slot (slotW_ok _ ω).1 | exact hFI.empty (emptyW_ok _ ω).1 ω | exact hFI.open_ (openW_ok _ ω).1 ω | exact hFI.close ω ω | exact hFI.closeNew (by decide) ω), (by first | exact hNS.otherB rfl rfl | exact hNS.open_ _ _ | exact hNS.close ω (fun h9 => by first | rfl | exact absurd h9 hc56) _ | exact NS.closeNew (hc56).2), ⟨by first | omega | exact Nat.le_trans (slotW_ok _ ω).2 (by decide) | exact Nat.le_trans (emptyW_ok _ ω).2 (by decide) | exact Nat.le_trans (openW_ok _ ω).2 (by decide) | exact Nat.le_trans (nameL_len _) (Nat.le_trans (text5 hopt _) (by decide)) | decide, by first | omega | (simp; done) | (simp; omega), by omega, by omega, by omega⟩, (by first | exact hopt | exact (fun o ho => (List.mem_append.1 ho).elim (hopt o) (fun h => by simp at h; subst h; exact (openW_ok _ ω).2)) | exact (fun o ho => (List.mem_append.1 ho).elim (fun h => hopt o (List.mem_of_mem_take h)) (fun h => hopt o (List.mem_of_mem_drop h)))), δ, hV⟩
    exact ψ
   refine r_seq ?_
   refine Zs ?_
   refine Zo (run_eql rfl η η) ?_
   refine Zn asB ?_
   refine r_cond η (fun hc64 => ?_) (fun hc64 => ?_)
   ·skip
    refine r_skip ?_
    refine r_condT η hc64 ?_
    refine Zs ?_
    refine Zo (run_mv (v := vo) rfl η) ?_
    refine Zo (run_lenOE rfl η Tryz.underlying33 hop) ?_
    refine Zo (run_sub rfl η η ω ω) ?_
    refine Zn asI ?_
    refine Zs ?_
    refine Zo mvI ?_
    refine Zn (run_geq rfl η η) ?_
    refine r_cond η (fun hc65 => ?_) (fun hc65 => ?_)
    ·skip
     refine r_seq ?_
     refine Zs ?_
     refine Zo (run_mvb rfl η) ?_
     refine Zn (run_not rfl η) ?_
     refine r_cond η (fun hc66 => ?_) (fun hc66 => ?_)
     ·skip
      refine r_region ?_
      refine Zo mvP ?_
      refine Zo mvI ?_
      refine Zo (run_add rfl η η ω ω) ?_
      refine Zr [.pointer _, .int _ _] rfl η Tryz.func38 (inx_calls hb hl ω ω ω) ?_
      rintro e w67 ⟨nx67, rfl, hx67, hE67, hn67⟩
      refine ⟨_, rfl, ?_⟩
      have hs_w67 := (hE67).size
      replace hV := evo_step1 hV hE67 (.inr (by simp))
      replace hof := hof.evo hE67 (by intro g hg hm; simp at hm; subst hm; have := hof.block hg; omega)
      replace hop := hop.evo hE67 (by intro g hg hm; simp at hm; subst hm; have := hop.block hg; omega)
      replace hbb13 := hbb13.evo hE67 θ
      replace hAb13 := hAb13.evo hE67 θ
      replace hb := hn67
      clear hn67
      have hAs := hb.at
      refine Zn asI ?_
      refine r_seq ?_
      obtain ⟨ao68, g68, cp68, hv68, hr68, hg68⟩ := hop.rowOf
      subst hv68
      have hk5 := text5 hopt nx67.toNat
      have hbb13_q := hbb13
      have hAb13_q := hAb13
      have hr68_q := hr68
      have hV_q := hV
      refine h_region ([]) ζ ?_
      intro w69 hE70 hC71
      have hs_w69 := (hE70).size
      replace hV := evo_step0 hV hE70
      replace hof := hof.evo0 hE70
      replace hop := hop.evo0 hE70
      replace hbb13 := hbb13.evo0 hE70
      replace hAb13 := hAb13.evo0 hE70
      replace hb := hb.evo0 hE70
      replace hr68 := hr68.evo0 hE70
      refine Zt (i := 0) η (fun w' hC => mvS) hC71 ?_
      refine Zt (i := 1) η (fun w' hC => mvI) hC71 ?_
      refine Zt (i := 2) η (fun w' hC => run_ix (nx67.toNat) rfl Tryz.underlying33 ty_32 η η ω ω (hr68.addr (i := nx67.toNat) ω)) hC71 ?_
      have hA72 := hr68.atD (nx67.toNat) ω
      have hA72_q := hr68_q.atD (nx67.toNat) ω
      refine Zt (i := 3) η (fun w' hC => run_fa rfl η fo_32_1) hC71 ?_
      refine Zt (i := 4) η (fun w' hC => run_ld1 rfl ag_9 η ((hA72_q.evo0 hC).cell 1 η)) hC71 ?_
      refine Zt (i := 6) η (fun w' hC => mvS) hC71 ?_
      refine Zt (i := 7) η (fun w' hC => mvI) hC71 ?_
      refine Zt (i := 8) η (fun w' hC => run_ix (nx67.toNat) rfl Tryz.underlying33 ty_32 η η ω ω (hr68.addr (i := nx67.toNat) ω)) hC71 ?_
      have hA73 := hr68.atD (nx67.toNat) ω
      have hA73_q := hr68_q.atD (nx67.toNat) ω
      refine Zt (i := 9) η (fun w' hC => run_fa rfl η fo_32_2) hC71 ?_
      refine Zt (i := 10) η (fun w' hC => run_ld1 rfl ag_3 η ((hA73_q.evo0 hC).cell 2 η)) hC71 ?_
      refine Zh (i := 5) ?_
      refine Zr [S _] rfl η Tryz.func75 (rname_calls ω) ?_
      rintro e w74 ⟨rfl, hE74⟩
      refine ⟨_, rfl, ?_⟩
      have hs_w74 := (hE74).size
      replace hV := evo_step0 hV hE74
      replace hC71 := evo_step0 hC71 hE74
      replace hof := hof.evo0 hE74
      replace hop := hop.evo0 hE74
      replace hbb13 := hbb13.evo0 hE74
      replace hAb13 := hAb13.evo0 hE74
      replace hb := hb.evo0 hE74
      replace hr68 := hr68.evo0 hE74
      refine h_next hC71 ?_
      refine Zt (i := 11) η (fun w' hC => run_bld (pv := [(0, .int _ _), (1, S _), (2, .int _ _)]) (zs := [_, _, _]) (cells := [_, _, _]) rfl ty_32 η pl_32 η η) hC71 ?_
      refine Zh (i := 12) ?_
      refine r_store (v := .agg _) (vs := [_, _, _]) (cs' := [_, _, _]) η η hbb13 ty_32 η rfl η rfl η ?_
      intro w75 hEw75 hzw75 hb_new
      have hs_w75 := (hEw75).size
      replace hV := evo_step1 hV hEw75 ε
      replace hof := hof.evo hEw75 (by intro g hg hm; simp at hm; subst hm; exact hofx _ hg rfl)
      replace hop := hop.evo hEw75 (by intro g hg hm; simp at hm; subst hm; exact hopx _ hg rfl)
      replace hb := hb.evo hEw75 θ
      replace hbb13 := hb_new
      have hAb13 := hbb13.at
      clear hb_new
      refine h_last ζ ?_
      refine h_done ζ ?_
      obtain ⟨ao76, g76, cp76, hv76, hr76, hg76⟩ := hop.rowOf
      injection hv76 with ha76 hx76 hc76
      subst ha76; subst hc76
      have hobQ := fun g hg => (hop.block (g := g) hg).2; have hobQF := fun g hg => (hof.block (g := g) hg).2
      have hbb13_q := hbb13
      have hAb13_q := hAb13
      have hr76_q := hr76
      have hV_q := hV
      refine h_region ([]) ζ ?_
      intro w77 hE78 hC79
      have hs_w77 := (hE78).size
      replace hV := evo_step0 hV hE78
      replace hof := hof.evo0 hE78
      replace hop := hop.evo0 hE78
      replace hb := hb.evo0 hE78
      replace hbb13 := hbb13.evo0 hE78
      replace hAb13 := hAb13.evo0 hE78
      replace hr76 := hr76.evo0 hE78
      refine Zt (i := 0) η (fun w' hC => mvS) hC79 ?_
      refine Zt (i := 1) η (fun w' hC => mvI) hC79 ?_
      refine Zt (i := 2) η (fun w' hC => by exact run_slE (0) (nx67.toNat) rfl Tryz.underlying33 ty_32 η (hr76_q.evo0 hC) lo0 (at1 η ω) (by first | omega | (simp; omega)) (by first | omega | (simp; omega)) List.drop_zero) hC79 ?_
      have hS80 := (by have h9 := (hr76.take (nx67.toNat)).drop (0); rw [List.drop_zero] at h9; exact h9)
      have hbd_hS80 := hS80.bd
      refine Zt (i := 4) η (fun w' hC => mvS) hC79 ?_
      refine Zt (i := 5) η (fun w' hC => mvI) hC79 ?_
      refine Zt (i := 6) η (fun w' hC => run_add rfl η η ω ω) hC79 ?_
      refine Zt (i := 7) η (fun w' hC => by exact run_slE0 ((nx67.toNat + 1)) rfl Tryz.underlying33 ty_32 rfl η (hr76_q.evo0 hC) (at1 η ω) (by first | omega | (simp; omega))) hC79 ?_
      have hS81 := hr76.drop ((nx67.toNat + 1))
      have hbd_hS81 := hS81.bd
      refine Zh (i := 3) ?_
      refine r_appendE rfl Tryz.underlying33 ty_32 η (OwnE.nil (α := Vc.Item) _ w75.heap.size _) η η hS80 rfl ((by first | omega | (simp; omega))) ((by first | omega | (simp; omega))) ω ?_
      intro v82 w83 hEw83 hov82 hlv82
      have hs_w83 := (hEw83).size
      replace hV := evo_step0 hV hEw83
      replace hC79 := evo_step0 hC79 hEw83
      replace hof := hof.evo0 hEw83
      replace hop := hop.evo0 hEw83
      replace hb := hb.evo0 hEw83
      replace hbb13 := hbb13.evo0 hEw83
      replace hAb13 := hAb13.evo0 hEw83
      replace hr76 := hr76.evo0 hEw83
      replace hS80 := hS80.evo0 hEw83
      replace hS81 := hS81.evo0 hEw83
      refine h_next hC79 ?_
      refine Zh (i := 8) ?_
      refine r_appendE rfl Tryz.underlying33 ty_32 η hov82 η η hS81 rfl ((by first | omega | (simp; omega))) ((by first | omega | (simp; omega))) ω ?_
      intro v84 w85 hEw85 hov84 hlv84
      have hs_w85 := (hEw85).size
      replace hV := evo_stepo hV hEw85 (fun g hg => .inl (by first | exact (hov82.block hg).1 | (have := hov82.block hg; omega)))
      replace hl := hl0 _ hV
      replace hof := hof.evo hEw85 (by intro g hg hm; have hm2 := Option.mem_toList.1 hm; have h1 := hov82.block hm2; have h2 := hobQF g hg; omega)
      replace hop := hop.evo hEw85 (by intro g hg hm; have hm2 := Option.mem_toList.1 hm; have h1 := hov82.block hm2; have h2 := hobQ g hg; omega)
      replace hb := hb.evo hEw85 (by intro hm; have hm2 := Option.mem_toList.1 hm; have := hov82.block hm2; omega)
      replace hbb13 := hbb13.evo hEw85 (by intro hm; have hm2 := Option.mem_toList.1 hm; have := hov82.block hm2; omega)
      replace hAb13 := hAb13.evo hEw85 (by intro hm; have hm2 := Option.mem_toList.1 hm; have := hov82.block hm2; omega)
      refine h_last ζ ?_
      refine Zh (i := 9) ?_
      refine Zo (run_asg (v := v84) rfl η) ?_
      refine h_last ζ ?_
      refine h_done ζ ?_
      refine r_cut_end ?_ ?_
      ·refine ⟨_, _, _, _, _, _, _, rfl, rfl, hof, (hov84.base_le ω), hbb13, hbb13.at, hb, hb.at, (by first | exact hFI.text _ | exact hFI.slot (slotW_ok _ ω).1 | exact hFI.empty (emptyW_ok _ ω).1 ω | exact hFI.open_ (openW_ok _ ω).1 ω | exact hFI.close ω ω | exact hFI.closeNew (by decide) ω), (by first | exact hNS.otherB rfl rfl | exact hNS.open_ _ _ | exact hNS.close ω (fun h9 => by first | rfl | exact absurd h9 hc66) _ | exact NS.closeNew (hc66).2), ⟨by first | omega | exact Nat.le_trans (slotW_ok _ ω).2 (by decide) | exact Nat.le_trans (emptyW_ok _ ω).2 (by decide) | exact Nat.le_trans (openW_ok _ ω).2 (by decide) | exact Nat.le_trans (nameL_len _) (Nat.le_trans (text5 hopt _) (by decide)) | decide, by first | omega | (simp; done) | (simp; omega), by omega, by omega, by omega⟩, (by first | exact hopt | exact (fun o ho => (List.mem_append.1 ho).elim (hopt o) (fun h => by simp at h; subst h; exact (openW_ok _ ω).2)) | exact (fun o ho => (List.mem_append.1 ho).elim (fun h => hopt o (List.mem_of_mem_take h)) (fun h => hopt o (List.mem_of_mem_drop h)))), δ, hV⟩
      exact ψ
     refine r_skip ?_
     refine r_seq ?_
     obtain ⟨ao86, g86, cp86, hv86, hr86, hg86⟩ := hop.rowOf
     subst hv86
     have hk5 := text5 hopt (op.length - 1)
     have hbb13_q := hbb13
     have hAb13_q := hAb13
     have hr86_q := hr86
     have hV_q := hV
     refine h_region ([]) ζ ?_
     intro w87 hE88 hC89
     have hs_w87 := (hE88).size
     replace hV := evo_step0 hV hE88
     replace hof := hof.evo0 hE88
     replace hop := hop.evo0 hE88
     replace hbb13 := hbb13.evo0 hE88
     replace hAb13 := hAb13.evo0 hE88
     replace hb := hb.evo0 hE88
     replace hr86 := hr86.evo0 hE88
     refine Zt (i := 0) η (fun w' hC => mvS) hC89 ?_
     refine Zt (i := 1) η (fun w' hC => mvI) hC89 ?_
     refine Zt (i := 2) η (fun w' hC => run_ix ((op.length - 1)) rfl Tryz.underlying33 ty_32 η η ω ω (hr86.addr (i := (op.length - 1)) ω)) hC89 ?_
     have hA90 := hr86.atD ((op.length - 1)) ω
     have hA90_q := hr86_q.atD ((op.length - 1)) ω
     refine Zt (i := 3) η (fun w' hC => run_fa rfl η fo_32_1) hC89 ?_
     refine Zt (i := 4) η (fun w' hC => run_ld1 rfl ag_9 η ((hA90_q.evo0 hC).cell 1 η)) hC89 ?_
     refine Zt (i := 6) η (fun w' hC => mvS) hC89 ?_
     refine Zt (i := 7) η (fun w' hC => mvI) hC89 ?_
     refine Zt (i := 8) η (fun w' hC => run_ix ((op.length - 1)) rfl Tryz.underlying33 ty_32 η η ω ω (hr86.addr (i := (op.length - 1)) ω)) hC89 ?_
     have hA91 := hr86.atD ((op.length - 1)) ω
     have hA91_q := hr86_q.atD ((op.length - 1)) ω
     refine Zt (i := 9) η (fun w' hC => run_fa rfl η fo_32_2) hC89 ?_
     refine Zt (i := 10) η (fun w' hC => run_ld1 rfl ag_3 η ((hA91_q.evo0 hC).cell 2 η)) hC89 ?_
     refine Zh (i := 5) ?_
     refine Zr [S _] rfl η Tryz.func75 (rname_calls ω) ?_
     rintro e w92 ⟨rfl, hE92⟩
     refine ⟨_, rfl, ?_⟩
     have hs_w92 := (hE92).size
     replace hV := evo_step0 hV hE92
     replace hC89 := evo_step0 hC89 hE92
     replace hof := hof.evo0 hE92
     replace hop := hop.evo0 hE92
     replace hbb13 := hbb13.evo0 hE92
     replace hAb13 := hAb13.evo0 hE92
     replace hb := hb.evo0 hE92
     replace hr86 := hr86.evo0 hE92
     refine h_next hC89 ?_
     refine Zt (i := 11) η (fun w' hC => run_bld (pv := [(0, .int _ _), (1, S _), (2, .int _ _)]) (zs := [_, _, _]) (cells := [_, _, _]) rfl ty_32 η pl_32 η η) hC89 ?_
     refine Zh (i := 12) ?_
     refine r_store (v := .agg _) (vs := [_, _, _]) (cs' := [_, _, _]) η η hbb13 ty_32 η rfl η rfl η ?_
     intro w93 hEw93 hzw93 hb_new
     have hs_w93 := (hEw93).size
     replace hV := evo_step1 hV hEw93 ε
     replace hof := hof.evo hEw93 (by intro g hg hm; simp at hm; subst hm; exact hofx _ hg rfl)
     replace hop := hop.evo hEw93 (by intro g hg hm; simp at hm; subst hm; exact hopx _ hg rfl)
     replace hb := hb.evo hEw93 θ
     replace hbb13 := hb_new
     have hAb13 := hbb13.at
     clear hb_new
     refine h_last ζ ?_
     refine h_done ζ ?_
     obtain ⟨ao94, g94, cp94, hv94, hr94, hg94⟩ := hop.rowOf
     injection hv94 with ha94 hx94 hc94
     subst ha94; subst hc94
     have hobQ := fun g hg => (hop.block (g := g) hg).2; have hobQF := fun g hg => (hof.block (g := g) hg).2
     have hbb13_q := hbb13
     have hAb13_q := hAb13
     have hr94_q := hr94
     have hV_q := hV
     refine h_region ([]) ζ ?_
     intro w95 hE96 hC97
     have hs_w95 := (hE96).size
     replace hV := evo_step0 hV hE96
     replace hof := hof.evo0 hE96
     replace hop := hop.evo0 hE96
     replace hb := hb.evo0 hE96
     replace hbb13 := hbb13.evo0 hE96
     replace hAb13 := hAb13.evo0 hE96
     replace hr94 := hr94.evo0 hE96
     refine Zt (i := 0) η (fun w' hC => mvS) hC97 ?_
     refine Zt (i := 1) η (fun w' hC => mvI) hC97 ?_
     refine Zt (i := 2) η (fun w' hC => by exact run_slE (0) ((op.length - 1)) rfl Tryz.underlying33 ty_32 η (hr94_q.evo0 hC) lo0 (at1 η ω) (by first | omega | (simp; omega)) (by first | omega | (simp; omega)) List.drop_zero) hC97 ?_
     have hS98 := (by have h9 := (hr94.take ((op.length - 1))).drop (0); rw [List.drop_zero] at h9; exact h9)
     have hbd_hS98 := hS98.bd
     refine Zt (i := 4) η (fun w' hC => mvS) hC97 ?_
     refine Zt (i := 5) η (fun w' hC => mvI) hC97 ?_
     refine Zt (i := 6) η (fun w' hC => run_add rfl η η ω ω) hC97 ?_
     refine Zt (i := 7) η (fun w' hC => by exact run_slE0 (((op.length - 1) + 1)) rfl Tryz.underlying33 ty_32 rfl η (hr94_q.evo0 hC) (at1 η ω) (by first | omega | (simp; omega))) hC97 ?_
     have hS99 := hr94.drop (((op.length - 1) + 1))
     have hbd_hS99 := hS99.bd
     refine Zh (i := 3) ?_
     refine r_appendE rfl Tryz.underlying33 ty_32 η (OwnE.nil (α := Vc.Item) _ w93.heap.size _) η η hS98 rfl ((by first | omega | (simp; omega))) ((by first | omega | (simp; omega))) ω ?_
     intro v100 w101 hEw101 hov100 hlv100
     have hs_w101 := (hEw101).size
     replace hV := evo_step0 hV hEw101
     replace hC97 := evo_step0 hC97 hEw101
     replace hof := hof.evo0 hEw101
     replace hop := hop.evo0 hEw101
     replace hb := hb.evo0 hEw101
     replace hbb13 := hbb13.evo0 hEw101
     replace hAb13 := hAb13.evo0 hEw101
     replace hr94 := hr94.evo0 hEw101
     replace hS98 := hS98.evo0 hEw101
     replace hS99 := hS99.evo0 hEw101
     refine h_next hC97 ?_
     refine Zh (i := 8) ?_
     refine r_appendE rfl Tryz.underlying33 ty_32 η hov100 η η hS99 rfl ((by first | omega | (simp; omega))) ((by first | omega | (simp; omega))) ω ?_
     intro v102 w103 hEw103 hov102 hlv102
     have hs_w103 := (hEw103).size
     replace hV := evo_stepo hV hEw103 (fun g hg => .inl (by first | exact (hov100.block hg).1 | (have := hov100.block hg; omega)))
     replace hl := hl0 _ hV
     replace hof := hof.evo hEw103 (by intro g hg hm; have hm2 := Option.mem_toList.1 hm; have h1 := hov100.block hm2; have h2 := hobQF g hg; omega)
     replace hop := hop.evo hEw103 (by intro g hg hm; have hm2 := Option.mem_toList.1 hm; have h1 := hov100.block hm2; have h2 := hobQ g hg; omega)
     replace hb := hb.evo hEw103 (by intro hm; have hm2 := Option.mem_toList.1 hm; have := hov100.block hm2; omega)
     replace hbb13 := hbb13.evo hEw103 (by intro hm; have hm2 := Option.mem_toList.1 hm; have := hov100.block hm2; omega)
     replace hAb13 := hAb13.evo hEw103 (by intro hm; have hm2 := Option.mem_toList.1 hm; have := hov100.block hm2; omega)
     refine h_last ζ ?_
     refine Zh (i := 9) ?_
     refine Zo (run_asg (v := v102) rfl η) ?_
     refine h_last ζ ?_
     refine h_done ζ ?_
     refine r_cut_end ?_ ?_
     ·refine ⟨_, _, _, _, _, _, _, rfl, rfl, hof, (hov102.base_le ω), hbb13, hbb13.at, hb, hb.at, (by first | exact hFI.text _ | exact hFI.slot (slotW_ok _ ω).1 | exact hFI.empty (emptyW_ok _ ω).1 ω | exact hFI.open_ (openW_ok _ ω).1 ω | exact hFI.close ω ω | exact hFI.closeNew (by decide) ω), (by first | exact hNS.otherB rfl rfl | exact hNS.open_ _ _ | exact hNS.close ω (fun h9 => by first | rfl | exact absurd h9 hc66) _ | exact NS.closeNew (hc66).2), ⟨by first | omega | exact Nat.le_trans (slotW_ok _ ω).2 (by decide) | exact Nat.le_trans (emptyW_ok _ ω).2 (by decide) | exact Nat.le_trans (openW_ok _ ω).2 (by decide) | exact Nat.le_trans (nameL_len _) (Nat.le_trans (text5 hopt _) (by decide)) | decide, by first | omega | (simp; done) | (simp; omega), by omega, by omega, by omega⟩, (by first | exact hopt | exact (fun o ho => (List.mem_append.1 ho).elim (hopt o) (fun h => by simp at h; subst h; exact (openW_ok _ ω).2)) | exact (fun o ho => (List.mem_append.1 ho).elim (fun h => hopt o (List.mem_of_mem_take h)) (fun h => hopt o (List.mem_of_mem_drop h)))), δ, hV⟩
     exact ψ
    refine Zs ?_
    refine Zo (run_mvb rfl η) ?_
    refine Zo mvB ?_
    refine r_g rfl (wantT η) rfl (fun hg => run_mvb rfl η) ?_
    refine r_g rfl (wantT η) rfl (fun hg => run_not rfl (glv η (fun h => h) hg)) ?_
    refine Zn (run_pick_and rfl η (fun hq => glv η (fun h => h) hq) rfl) ?_
    refine r_cond η (fun hc104 => ?_) (fun hc104 => ?_)
    ·skip
     refine Zs ?_
     refine Zo mvI ?_
     refine Zo (run_add rfl η η ω ω) ?_
     refine Zn asI ?_
     refine r_region ?_
     refine Zo mvI ?_
     refine Zo (run_bld (pv := [(0, .int _ _), (1, S _), (2, .int _ _)]) (zs := [_, _, _]) (cells := [_, _, _]) rfl ty_32 η pl_32 η η) ?_
     refine r_store (v := .agg _) (vs := [_, _, _]) (cs' := [_, _, _]) η η hbb13 ty_32 η rfl η rfl η ?_
     intro w105 hEw105 hzw105 hb_new
     have hs_w105 := (hEw105).size
     replace hV := evo_step1 hV hEw105 ε
     replace hl := hl0 _ hV
     replace hof := hof.evo hEw105 (by intro g hg hm; simp at hm; subst hm; exact hofx _ hg rfl)
     replace hop := hop.evo hEw105 (by intro g hg hm; simp at hm; subst hm; exact hopx _ hg rfl)
     replace hb := hb.evo hEw105 θ
     replace hbb13 := hb_new
     have hAb13 := hbb13.at
     clear hb_new
     refine r_nil ?_
     refine r_cut_end ?_ ?_
     ·refine ⟨_, _, _, _, _, _, _, rfl, rfl, hof, (hop.base_le ω), hbb13, hbb13.at, hb, hb.at, (by first | exact hFI.text _ | exact hFI.slot (slotW_ok _ ω).1 | exact hFI.empty (emptyW_ok _ ω).1 ω | exact hFI.open_ (openW_ok _ ω).1 ω | exact hFI.close ω ω | exact hFI.closeNew (by decide) ω), (by first | exact hNS.otherB rfl rfl | exact hNS.open_ _ _ | exact hNS.close ω (fun h9 => by first | rfl | exact absurd h9 hc104) _ | exact NS.closeNew (hc104).2), ⟨by first | omega | exact Nat.le_trans (slotW_ok _ ω).2 (by decide) | exact Nat.le_trans (emptyW_ok _ ω).2 (by decide) | exact Nat.le_trans (openW_ok _ ω).2 (by decide) | exact Nat.le_trans (nameL_len _) (Nat.le_trans (text5 hopt _) (by decide)) | decide, by first | omega | (simp; done) | (simp; omega), by omega, by omega, by omega⟩, (by first | exact hopt | exact (fun o ho => (List.mem_append.1 ho).elim (hopt o) (fun h => by simp at h; subst h; exact (openW_ok _ ω).2)) | exact (fun o ho => (List.mem_append.1 ho).elim (fun h => hopt o (List.mem_of_mem_take h)) (fun h => hopt o (List.mem_of_mem_drop h)))), δ, hV⟩
     exact ψ
    refine r_skip ?_
    refine r_cut_end ?_ ?_
    ·refine ⟨_, _, _, _, _, _, _, rfl, rfl, hof, (hop.base_le ω), hbb13, hbb13.at, hb, hb.at, (by first | exact hFI.text _ | exact hFI.slot (slotW_ok _ ω).1 | exact hFI.empty (emptyW_ok _ ω).1 ω | exact hFI.open_ (openW_ok _ ω).1 ω | exact hFI.close ω ω | exact hFI.closeNew (by decide) ω), (by first | exact hNS.otherB rfl rfl | exact hNS.open_ _ _ | exact hNS.close ω (fun h9 => by first | rfl | exact absurd h9 hc104) _ | exact NS.closeNew (hc104).2), ⟨by first | omega | exact Nat.le_trans (slotW_ok _ ω).2 (by decide) | exact Nat.le_trans (emptyW_ok _ ω).2 (by decide) | exact Nat.le_trans (openW_ok _ ω).2 (by decide) | exact Nat.le_trans (nameL_len _) (Nat.le_trans (text5 hopt _) (by decide)) | decide, by first | omega | (simp; done) | (simp; omega), by omega, by omega, by omega⟩, (by first | exact hopt | exact (fun o ho => (List.mem_append.1 ho).elim (hopt o) (fun h => by simp at h; subst h; exact (openW_ok _ ω).2)) | exact (fun o ho => (List.mem_append.1 ho).elim (fun h => hopt o (List.mem_of_mem_take h)) (fun h => hopt o (List.mem_of_mem_drop h)))), δ, hV⟩
    exact ψ
   refine r_region ?_
   refine Zo (run_eql rfl η η) ?_
   refine Zn asB ?_
   refine r_cond η (fun hc106 => ?_) (fun hc106 => ?_)
   ·skip
    refine Zs ?_
    refine Zo (run_mv (v := vo) rfl η) ?_
    refine Zo (run_lenOE rfl η Tryz.underlying33 hop) ?_
    refine Zo (run_sub rfl η η ω ω) ?_
    refine Zn asI ?_
    refine Zs ?_
    refine Zo mvI ?_
    refine Zn (run_geq rfl η η) ?_
    refine r_cond η (fun hc107 => ?_) (fun hc107 => ?_)
    ·skip
     refine r_seq ?_
     refine Zs ?_
     refine Zo (run_mvb rfl η) ?_
     refine Zn (run_not rfl η) ?_
     refine r_cond η (fun hc108 => ?_) (fun hc108 => ?_)
     ·skip
      refine r_region ?_
      refine Zo mvP ?_
      refine Zo mvI ?_
      refine Zo (run_add rfl η η ω ω) ?_
      refine Zr [.pointer _, .int _ _] rfl η Tryz.func38 (inx_calls hb hl ω ω ω) ?_
      rintro e w109 ⟨nx109, rfl, hx109, hE109, hn109⟩
      refine ⟨_, rfl, ?_⟩
      have hs_w109 := (hE109).size
      replace hV := evo_step1 hV hE109 (.inr (by simp))
      replace hof := hof.evo hE109 (by intro g hg hm; simp at hm; subst hm; have := hof.block hg; omega)
      replace hop := hop.evo hE109 (by intro g hg hm; simp at hm; subst hm; have := hop.block hg; omega)
      replace hbb13 := hbb13.evo hE109 θ
      replace hAb13 := hAb13.evo hE109 θ
      replace hb := hn109
      clear hn109
      have hAs := hb.at
      refine Zn asI ?_
      refine r_seq ?_
      obtain ⟨ao110, g110, cp110, hv110, hr110, hg110⟩ := hop.rowOf
      subst hv110
      have hk5 := text5 hopt nx109.toNat
      have hbb13_q := hbb13
      have hAb13_q := hAb13
      have hr110_q := hr110
      have hV_q := hV
      refine h_region ([]) ζ ?_
      intro w111 hE112 hC113
      have hs_w111 := (hE112).size
      replace hV := evo_step0 hV hE112
      replace hof := hof.evo0 hE112
      replace hop := hop.evo0 hE112
      replace hbb13 := hbb13.evo0 hE112
      replace hAb13 := hAb13.evo0 hE112
      replace hb := hb.evo0 hE112
      replace hr110 := hr110.evo0 hE112
      refine Zt (i := 0) η (fun w' hC => mvS) hC113 ?_
      refine Zt (i := 1) η (fun w' hC => mvI) hC113 ?_
      refine Zt (i := 2) η (fun w' hC => run_ix (nx109.toNat) rfl Tryz.underlying33 ty_32 η η ω ω (hr110.addr (i := nx109.toNat) ω)) hC113 ?_
      have hA114 := hr110.atD (nx109.toNat) ω
      have hA114_q := hr110_q.atD (nx109.toNat) ω
      refine Zt (i := 3) η (fun w' hC => run_fa rfl η fo_32_1) hC113 ?_
      refine Zt (i := 4) η (fun w' hC => run_ld1 rfl ag_9 η ((hA114_q.evo0 hC).cell 1 η)) hC113 ?_
      refine Zt (i := 6) η (fun w' hC => mvS) hC113 ?_
      refine Zt (i := 7) η (fun w' hC => mvI) hC113 ?_
      refine Zt (i := 8) η (fun w' hC => run_ix (nx109.toNat) rfl Tryz.underlying33 ty_32 η η ω ω (hr110.addr (i := nx109.toNat) ω)) hC113 ?_
      have hA115 := hr110.atD (nx109.toNat) ω
      have hA115_q := hr110_q.atD (nx109.toNat) ω
      refine Zt (i := 9) η (fun w' hC => run_fa rfl η fo_32_2) hC113 ?_
      refine Zt (i := 10) η (fun w' hC => run_ld1 rfl ag_3 η ((hA115_q.evo0 hC).cell 2 η)) hC113 ?_
      refine Zh (i := 5) ?_
      refine Zr [S _] rfl η Tryz.func75 (rname_calls ω) ?_
      rintro e w116 ⟨rfl, hE116⟩
      refine ⟨_, rfl, ?_⟩
      have hs_w116 := (hE116).size
      replace hV := evo_step0 hV hE116
      replace hC113 := evo_step0 hC113 hE116
      replace hof := hof.evo0 hE116
      replace hop := hop.evo0 hE116
      replace hbb13 := hbb13.evo0 hE116
      replace hAb13 := hAb13.evo0 hE116
      replace hb := hb.evo0 hE116
      replace hr110 := hr110.evo0 hE116
      refine h_next hC113 ?_
      refine Zt (i := 11) η (fun w' hC => run_bld (pv := [(0, .int _ _), (1, S _), (2, .int _ _)]) (zs := [_, _, _]) (cells := [_, _, _]) rfl ty_32 η pl_32 η η) hC113 ?_
      refine Zh (i := 12) ?_
      refine r_store (v := .agg _) (vs := [_, _, _]) (cs' := [_, _, _]) η η hbb13 ty_32 η rfl η rfl η ?_
      intro w117 hEw117 hzw117 hb_new
      have hs_w117 := (hEw117).size
      replace hV := evo_step1 hV hEw117 ε
      replace hof := hof.evo hEw117 (by intro g hg hm; simp at hm; subst hm; exact hofx _ hg rfl)
      replace hop := hop.evo hEw117 (by intro g hg hm; simp at hm; subst hm; exact hopx _ hg rfl)
      replace hb := hb.evo hEw117 θ
      replace hbb13 := hb_new
      have hAb13 := hbb13.at
      clear hb_new
      refine h_last ζ ?_
      refine h_done ζ ?_
      obtain ⟨ao118, g118, cp118, hv118, hr118, hg118⟩ := hop.rowOf
      injection hv118 with ha118 hx118 hc118
      subst ha118; subst hc118
      have hobQ := fun g hg => (hop.block (g := g) hg).2; have hobQF := fun g hg => (hof.block (g := g) hg).2
      have hbb13_q := hbb13
      have hAb13_q := hAb13
      have hr118_q := hr118
      have hV_q := hV
      refine h_region ([]) ζ ?_
      intro w119 hE120 hC121
      have hs_w119 := (hE120).size
      replace hV := evo_step0 hV hE120
      replace hof := hof.evo0 hE120
      replace hop := hop.evo0 hE120
      replace hb := hb.evo0 hE120
      replace hbb13 := hbb13.evo0 hE120
      replace hAb13 := hAb13.evo0 hE120
      replace hr118 := hr118.evo0 hE120
      refine Zt (i := 0) η (fun w' hC => mvS) hC121 ?_
      refine Zt (i := 1) η (fun w' hC => mvI) hC121 ?_
      refine Zt (i := 2) η (fun w' hC => by exact run_slE (0) (nx109.toNat) rfl Tryz.underlying33 ty_32 η (hr118_q.evo0 hC) lo0 (at1 η ω) (by first | omega | (simp; omega)) (by first | omega | (simp; omega)) List.drop_zero) hC121 ?_
      have hS122 := (by have h9 := (hr118.take (nx109.toNat)).drop (0); rw [List.drop_zero] at h9; exact h9)
      have hbd_hS122 := hS122.bd
      refine Zt (i := 4) η (fun w' hC => mvS) hC121 ?_
      refine Zt (i := 5) η (fun w' hC => mvI) hC121 ?_
      refine Zt (i := 6) η (fun w' hC => run_add rfl η η ω ω) hC121 ?_
      refine Zt (i := 7) η (fun w' hC => by exact run_slE0 ((nx109.toNat + 1)) rfl Tryz.underlying33 ty_32 rfl η (hr118_q.evo0 hC) (at1 η ω) (by first | omega | (simp; omega))) hC121 ?_
      have hS123 := hr118.drop ((nx109.toNat + 1))
      have hbd_hS123 := hS123.bd
      refine Zh (i := 3) ?_
      refine r_appendE rfl Tryz.underlying33 ty_32 η (OwnE.nil (α := Vc.Item) _ w117.heap.size _) η η hS122 rfl ((by first | omega | (simp; omega))) ((by first | omega | (simp; omega))) ω ?_
      intro v124 w125 hEw125 hov124 hlv124
      have hs_w125 := (hEw125).size
      replace hV := evo_step0 hV hEw125
      replace hC121 := evo_step0 hC121 hEw125
      replace hof := hof.evo0 hEw125
      replace hop := hop.evo0 hEw125
      replace hb := hb.evo0 hEw125
      replace hbb13 := hbb13.evo0 hEw125
      replace hAb13 := hAb13.evo0 hEw125
      replace hr118 := hr118.evo0 hEw125
      replace hS122 := hS122.evo0 hEw125
      replace hS123 := hS123.evo0 hEw125
      refine h_next hC121 ?_
      refine Zh (i := 8) ?_
      refine r_appendE rfl Tryz.underlying33 ty_32 η hov124 η η hS123 rfl ((by first | omega | (simp; omega))) ((by first | omega | (simp; omega))) ω ?_
      intro v126 w127 hEw127 hov126 hlv126
      have hs_w127 := (hEw127).size
      replace hV := evo_stepo hV hEw127 (fun g hg => .inl (by first | exact (hov124.block hg).1 | (have := hov124.block hg; omega)))
      replace hl := hl0 _ hV
      replace hof := hof.evo hEw127 (by intro g hg hm; have hm2 := Option.mem_toList.1 hm; have h1 := hov124.block hm2; have h2 := hobQF g hg; omega)
      replace hop := hop.evo hEw127 (by intro g hg hm; have hm2 := Option.mem_toList.1 hm; have h1 := hov124.block hm2; have h2 := hobQ g hg; omega)
      replace hb := hb.evo hEw127 (by intro hm; have hm2 := Option.mem_toList.1 hm; have := hov124.block hm2; omega)
      replace hbb13 := hbb13.evo hEw127 (by intro hm; have hm2 := Option.mem_toList.1 hm; have := hov124.block hm2; omega)
      replace hAb13 := hAb13.evo hEw127 (by intro hm; have hm2 := Option.mem_toList.1 hm; have := hov124.block hm2; omega)
      refine h_last ζ ?_
      refine Zh (i := 9) ?_
      refine Zo (run_asg (v := v126) rfl η) ?_
      refine h_last ζ ?_
      refine h_done ζ ?_
      refine r_cut_end ?_ ?_
      ·refine ⟨_, _, _, _, _, _, _, rfl, rfl, hof, (hov126.base_le ω), hbb13, hbb13.at, hb, hb.at, (by first | exact hFI.text _ | exact hFI.slot (slotW_ok _ ω).1 | exact hFI.empty (emptyW_ok _ ω).1 ω | exact hFI.open_ (openW_ok _ ω).1 ω | exact hFI.close ω ω | exact hFI.closeNew (by decide) ω), (by first | exact hNS.otherB rfl rfl | exact hNS.open_ _ _ | exact hNS.close ω (fun h9 => by first | rfl | exact absurd h9 hc108) _ | exact NS.closeNew (hc108).2), ⟨by first | omega | exact Nat.le_trans (slotW_ok _ ω).2 (by decide) | exact Nat.le_trans (emptyW_ok _ ω).2 (by decide) | exact Nat.le_trans (openW_ok _ ω).2 (by decide) | exact Nat.le_trans (nameL_len _) (Nat.le_trans (text5 hopt _) (by decide)) | decide, by first | omega | (simp; done) | (simp; omega), by omega, by omega, by omega⟩, (by first | exact hopt | exact (fun o ho => (List.mem_append.1 ho).elim (hopt o) (fun h => by simp at h; subst h; exact (openW_ok _ ω).2)) | exact (fun o ho => (List.mem_append.1 ho).elim (fun h => hopt o (List.mem_of_mem_take h)) (fun h => hopt o (List.mem_of_mem_drop h)))), δ, hV⟩
      exact ψ
     refine r_skip ?_
     refine r_seq ?_
     obtain ⟨ao128, g128, cp128, hv128, hr128, hg128⟩ := hop.rowOf
     subst hv128
     have hk5 := text5 hopt (op.length - 1)
     have hbb13_q := hbb13
     have hAb13_q := hAb13
     have hr128_q := hr128
     have hV_q := hV
     refine h_region ([]) ζ ?_
     intro w129 hE130 hC131
     have hs_w129 := (hE130).size
     replace hV := evo_step0 hV hE130
     replace hof := hof.evo0 hE130
     replace hop := hop.evo0 hE130
     replace hbb13 := hbb13.evo0 hE130
     replace hAb13 := hAb13.evo0 hE130
     replace hb := hb.evo0 hE130
     replace hr128 := hr128.evo0 hE130
     refine Zt (i := 0) η (fun w' hC => mvS) hC131 ?_
     refine Zt (i := 1) η (fun w' hC => mvI) hC131 ?_
     refine Zt (i := 2) η (fun w' hC => run_ix ((op.length - 1)) rfl Tryz.underlying33 ty_32 η η ω ω (hr128.addr (i := (op.length - 1)) ω)) hC131 ?_
     have hA132 := hr128.atD ((op.length - 1)) ω
     have hA132_q := hr128_q.atD ((op.length - 1)) ω
     refine Zt (i := 3) η (fun w' hC => run_fa rfl η fo_32_1) hC131 ?_
     refine Zt (i := 4) η (fun w' hC => run_ld1 rfl ag_9 η ((hA132_q.evo0 hC).cell 1 η)) hC131 ?_
     refine Zt (i := 6) η (fun w' hC => mvS) hC131 ?_
     refine Zt (i := 7) η (fun w' hC => mvI) hC131 ?_
     refine Zt (i := 8) η (fun w' hC => run_ix ((op.length - 1)) rfl Tryz.underlying33 ty_32 η η ω ω (hr128.addr (i := (op.length - 1)) ω)) hC131 ?_
     have hA133 := hr128.atD ((op.length - 1)) ω
     have hA133_q := hr128_q.atD ((op.length - 1)) ω
     refine Zt (i := 9) η (fun w' hC => run_fa rfl η fo_32_2) hC131 ?_
     refine Zt (i := 10) η (fun w' hC => run_ld1 rfl ag_3 η ((hA133_q.evo0 hC).cell 2 η)) hC131 ?_
     refine Zh (i := 5) ?_
     refine Zr [S _] rfl η Tryz.func75 (rname_calls ω) ?_
     rintro e w134 ⟨rfl, hE134⟩
     refine ⟨_, rfl, ?_⟩
     have hs_w134 := (hE134).size
     replace hV := evo_step0 hV hE134
     replace hC131 := evo_step0 hC131 hE134
     replace hof := hof.evo0 hE134
     replace hop := hop.evo0 hE134
     replace hbb13 := hbb13.evo0 hE134
     replace hAb13 := hAb13.evo0 hE134
     replace hb := hb.evo0 hE134
     replace hr128 := hr128.evo0 hE134
     refine h_next hC131 ?_
     refine Zt (i := 11) η (fun w' hC => run_bld (pv := [(0, .int _ _), (1, S _), (2, .int _ _)]) (zs := [_, _, _]) (cells := [_, _, _]) rfl ty_32 η pl_32 η η) hC131 ?_
     refine Zh (i := 12) ?_
     refine r_store (v := .agg _) (vs := [_, _, _]) (cs' := [_, _, _]) η η hbb13 ty_32 η rfl η rfl η ?_
     intro w135 hEw135 hzw135 hb_new
     have hs_w135 := (hEw135).size
     replace hV := evo_step1 hV hEw135 ε
     replace hof := hof.evo hEw135 (by intro g hg hm; simp at hm; subst hm; exact hofx _ hg rfl)
     replace hop := hop.evo hEw135 (by intro g hg hm; simp at hm; subst hm; exact hopx _ hg rfl)
     replace hb := hb.evo hEw135 θ
     replace hbb13 := hb_new
     have hAb13 := hbb13.at
     clear hb_new
     refine h_last ζ ?_
     refine h_done ζ ?_
     obtain ⟨ao136, g136, cp136, hv136, hr136, hg136⟩ := hop.rowOf
     injection hv136 with ha136 hx136 hc136
     subst ha136; subst hc136
     have hobQ := fun g hg => (hop.block (g := g) hg).2; have hobQF := fun g hg => (hof.block (g := g) hg).2
     have hbb13_q := hbb13
     have hAb13_q := hAb13
     have hr136_q := hr136
     have hV_q := hV
     refine h_region ([]) ζ ?_
     intro w137 hE138 hC139
     have hs_w137 := (hE138).size
     replace hV := evo_step0 hV hE138
     replace hof := hof.evo0 hE138
     replace hop := hop.evo0 hE138
     replace hb := hb.evo0 hE138
     replace hbb13 := hbb13.evo0 hE138
     replace hAb13 := hAb13.evo0 hE138
     replace hr136 := hr136.evo0 hE138
     refine Zt (i := 0) η (fun w' hC => mvS) hC139 ?_
     refine Zt (i := 1) η (fun w' hC => mvI) hC139 ?_
     refine Zt (i := 2) η (fun w' hC => by exact run_slE (0) ((op.length - 1)) rfl Tryz.underlying33 ty_32 η (hr136_q.evo0 hC) lo0 (at1 η ω) (by first | omega | (simp; omega)) (by first | omega | (simp; omega)) List.drop_zero) hC139 ?_
     have hS140 := (by have h9 := (hr136.take ((op.length - 1))).drop (0); rw [List.drop_zero] at h9; exact h9)
     have hbd_hS140 := hS140.bd
     refine Zt (i := 4) η (fun w' hC => mvS) hC139 ?_
     refine Zt (i := 5) η (fun w' hC => mvI) hC139 ?_
     refine Zt (i := 6) η (fun w' hC => run_add rfl η η ω ω) hC139 ?_
     refine Zt (i := 7) η (fun w' hC => by exact run_slE0 (((op.length - 1) + 1)) rfl Tryz.underlying33 ty_32 rfl η (hr136_q.evo0 hC) (at1 η ω) (by first | omega | (simp; omega))) hC139 ?_
     have hS141 := hr136.drop (((op.length - 1) + 1))
     have hbd_hS141 := hS141.bd
     refine Zh (i := 3) ?_
     refine r_appendE rfl Tryz.underlying33 ty_32 η (OwnE.nil (α := Vc.Item) _ w135.heap.size _) η η hS140 rfl ((by first | omega | (simp; omega))) ((by first | omega | (simp; omega))) ω ?_
     intro v142 w143 hEw143 hov142 hlv142
     have hs_w143 := (hEw143).size
     replace hV := evo_step0 hV hEw143
     replace hC139 := evo_step0 hC139 hEw143
     replace hof := hof.evo0 hEw143
     replace hop := hop.evo0 hEw143
     replace hb := hb.evo0 hEw143
     replace hbb13 := hbb13.evo0 hEw143
     replace hAb13 := hAb13.evo0 hEw143
     replace hr136 := hr136.evo0 hEw143
     replace hS140 := hS140.evo0 hEw143
     replace hS141 := hS141.evo0 hEw143
     refine h_next hC139 ?_
     refine Zh (i := 8) ?_
     refine r_appendE rfl Tryz.underlying33 ty_32 η hov142 η η hS141 rfl ((by first | omega | (simp; omega))) ((by first | omega | (simp; omega))) ω ?_
     intro v144 w145 hEw145 hov144 hlv144
     have hs_w145 := (hEw145).size
     replace hV := evo_stepo hV hEw145 (fun g hg => .inl (by first | exact (hov142.block hg).1 | (have := hov142.block hg; omega)))
     replace hl := hl0 _ hV
     replace hof := hof.evo hEw145 (by intro g hg hm; have hm2 := Option.mem_toList.1 hm; have h1 := hov142.block hm2; have h2 := hobQF g hg; omega)
     replace hop := hop.evo hEw145 (by intro g hg hm; have hm2 := Option.mem_toList.1 hm; have h1 := hov142.block hm2; have h2 := hobQ g hg; omega)
     replace hb := hb.evo hEw145 (by intro hm; have hm2 := Option.mem_toList.1 hm; have := hov142.block hm2; omega)
     replace hbb13 := hbb13.evo hEw145 (by intro hm; have hm2 := Option.mem_toList.1 hm; have := hov142.block hm2; omega)
     replace hAb13 := hAb13.evo hEw145 (by intro hm; have hm2 := Option.mem_toList.1 hm; have := hov142.block hm2; omega)
     refine h_last ζ ?_
     refine Zh (i := 9) ?_
     refine Zo (run_asg (v := v144) rfl η) ?_
     refine h_last ζ ?_
     refine h_done ζ ?_
     refine r_cut_end ?_ ?_
     ·refine ⟨_, _, _, _, _, _, _, rfl, rfl, hof, (hov144.base_le ω), hbb13, hbb13.at, hb, hb.at, (by first | exact hFI.text _ | exact hFI.slot (slotW_ok _ ω).1 | exact hFI.empty (emptyW_ok _ ω).1 ω | exact hFI.open_ (openW_ok _ ω).1 ω | exact hFI.close ω ω | exact hFI.closeNew (by decide) ω), (by first | exact hNS.otherB rfl rfl | exact hNS.open_ _ _ | exact hNS.close ω (fun h9 => by first | rfl | exact absurd h9 hc108) _ | exact NS.closeNew (hc108).2), ⟨by first | omega | exact Nat.le_trans (slotW_ok _ ω).2 (by decide) | exact Nat.le_trans (emptyW_ok _ ω).2 (by decide) | exact Nat.le_trans (openW_ok _ ω).2 (by decide) | exact Nat.le_trans (nameL_len _) (Nat.le_trans (text5 hopt _) (by decide)) | decide, by first | omega | (simp; done) | (simp; omega), by omega, by omega, by omega⟩, (by first | exact hopt | exact (fun o ho => (List.mem_append.1 ho).elim (hopt o) (fun h => by simp at h; subst h; exact (openW_ok _ ω).2)) | exact (fun o ho => (List.mem_append.1 ho).elim (fun h => hopt o (List.mem_of_mem_take h)) (fun h => hopt o (List.mem_of_mem_drop h)))), δ, hV⟩
     exact ψ
    refine Zs ?_
    refine Zo (run_mvb rfl η) ?_
    refine Zo mvB ?_
    refine r_g rfl (wantT η) rfl (fun hg => run_mvb rfl η) ?_
    refine r_g rfl (wantT η) rfl (fun hg => run_not rfl (glv η (fun h => h) hg)) ?_
    refine Zn (run_pick_and rfl η (fun hq => glv η (fun h => h) hq) rfl) ?_
    refine r_cond η (fun hc146 => ?_) (fun hc146 => ?_)
    ·skip
     refine Zs ?_
     refine Zo mvI ?_
     refine Zo (run_add rfl η η ω ω) ?_
     refine Zn asI ?_
     refine r_region ?_
     refine Zo mvI ?_
     refine Zo (run_bld (pv := [(0, .int _ _), (1, S _), (2, .int _ _)]) (zs := [_, _, _]) (cells := [_, _, _]) rfl ty_32 η pl_32 η η) ?_
     refine r_store (v := .agg _) (vs := [_, _, _]) (cs' := [_, _, _]) η η hbb13 ty_32 η rfl η rfl η ?_
     intro w147 hEw147 hzw147 hb_new
     have hs_w147 := (hEw147).size
     replace hV := evo_step1 hV hEw147 ε
     replace hl := hl0 _ hV
     replace hof := hof.evo hEw147 (by intro g hg hm; simp at hm; subst hm; exact hofx _ hg rfl)
     replace hop := hop.evo hEw147 (by intro g hg hm; simp at hm; subst hm; exact hopx _ hg rfl)
     replace hb := hb.evo hEw147 θ
     replace hbb13 := hb_new
     have hAb13 := hbb13.at
     clear hb_new
     refine r_nil ?_
     refine r_cut_end ?_ ?_
     ·refine ⟨_, _, _, _, _, _, _, rfl, rfl, hof, (hop.base_le ω), hbb13, hbb13.at, hb, hb.at, (by first | exact hFI.text _ | exact hFI.slot (slotW_ok _ ω).1 | exact hFI.empty (emptyW_ok _ ω).1 ω | exact hFI.open_ (openW_ok _ ω).1 ω | exact hFI.close ω ω | exact hFI.closeNew (by decide) ω), (by first | exact hNS.otherB rfl rfl | exact hNS.open_ _ _ | exact hNS.close ω (fun h9 => by first | rfl | exact absurd h9 hc146) _ | exact NS.closeNew (hc146).2), ⟨by first | omega | exact Nat.le_trans (slotW_ok _ ω).2 (by decide) | exact Nat.le_trans (emptyW_ok _ ω).2 (by decide) | exact Nat.le_trans (openW_ok _ ω).2 (by decide) | exact Nat.le_trans (nameL_len _) (Nat.le_trans (text5 hopt _) (by decide)) | decide, by first | omega | (simp; done) | (simp; omega), by omega, by omega, by omega⟩, (by first | exact hopt | exact (fun o ho => (List.mem_append.1 ho).elim (hopt o) (fun h => by simp at h; subst h; exact (openW_ok _ ω).2)) | exact (fun o ho => (List.mem_append.1 ho).elim (fun h => hopt o (List.mem_of_mem_take h)) (fun h => hopt o (List.mem_of_mem_drop h)))), δ, hV⟩
     exact ψ
    refine r_skip ?_
    refine r_cut_end ?_ ?_
    ·refine ⟨_, _, _, _, _, _, _, rfl, rfl, hof, (hop.base_le ω), hbb13, hbb13.at, hb, hb.at, (by first | exact hFI.text _ | exact hFI.slot (slotW_ok _ ω).1 | exact hFI.empty (emptyW_ok _ ω).1 ω | exact hFI.open_ (openW_ok _ ω).1 ω | exact hFI.close ω ω | exact hFI.closeNew (by decide) ω), (by first | exact hNS.otherB rfl rfl | exact hNS.open_ _ _ | exact hNS.close ω (fun h9 => by first | rfl | exact absurd h9 hc146) _ | exact NS.closeNew (hc146).2), ⟨by first | omega | exact Nat.le_trans (slotW_ok _ ω).2 (by decide) | exact Nat.le_trans (emptyW_ok _ ω).2 (by decide) | exact Nat.le_trans (openW_ok _ ω).2 (by decide) | exact Nat.le_trans (nameL_len _) (Nat.le_trans (text5 hopt _) (by decide)) | decide, by first | omega | (simp; done) | (simp; omega), by omega, by omega, by omega⟩, (by first | exact hopt | exact (fun o ho => (List.mem_append.1 ho).elim (hopt o) (fun h => by simp at h; subst h; exact (openW_ok _ ω).2)) | exact (fun o ho => (List.mem_append.1 ho).elim (fun h => hopt o (List.mem_of_mem_take h)) (fun h => hopt o (List.mem_of_mem_drop h)))), δ, hV⟩
    exact ψ
   refine r_skip ?_
   refine r_cut_end ?_ ?_
   ·refine ⟨_, _, _, _, _, _, _, rfl, rfl, hof, (hop.base_le ω), hbb13, hbb13.at, hb, hb.at, (by first | exact hFI.text _ | exact hFI.slot (slotW_ok _ ω).1 | exact hFI.empty (emptyW_ok _ ω).1 ω | exact hFI.open_ (openW_ok _ ω).1 ω | exact hFI.close ω ω | exact hFI.closeNew (by decide) ω), (by first | exact hNS.otherB rfl rfl | exact hNS.open_ _ _ | exact hNS.close ω (fun h9 => by first | rfl | exact absurd h9 hc106) _ | exact NS.closeNew (hc106).2), ⟨by first | omega | exact Nat.le_trans (slotW_ok _ ω).2 (by decide) | exact Nat.le_trans (emptyW_ok _ ω).2 (by decide) | exact Nat.le_trans (openW_ok _ ω).2 (by decide) | exact Nat.le_trans (nameL_len _) (Nat.le_trans (text5 hopt _) (by decide)) | decide, by first | omega | (simp; done) | (simp; omega), by omega, by omega, by omega⟩, (by first | exact hopt | exact (fun o ho => (List.mem_append.1 ho).elim (hopt o) (fun h => by simp at h; subst h; exact (openW_ok _ ω).2)) | exact (fun o ho => (List.mem_append.1 ho).elim (fun h => hopt o (List.mem_of_mem_take h)) (fun h => hopt o (List.mem_of_mem_drop h)))), δ, hV⟩
   exact ψ
  rintro g w148 ⟨vo2, op2, idn2, N2, kx, tx, ix, hj149, hj150, hof, hop, hbb13, hAb13, hb, hAs, hFX, hNX, hsz2, hop2, hzl32, hV⟩
  have hs_w148hV := hV.size
  have hlt151 := hbb13.lt
  have hlt152 := hb.lt
  refine Zk 10 (v := vo2) (by exact hj149) ?_
  refine Zk 11 (v := .int .i64 idn2) (by exact hj150) ?_
  refine r_blk ?_
  have hobZ := fun g hg => (hop.block (g := g) hg).2
  have s32 : Small (f ++ [⟨kx, tx, ix⟩]) := ⟨by rw [List.length_append]; simp; omega, by rw [sizeL_append, sizeL_one]; simp; omega⟩
  refine r_region ?_
  refine Zo (run_mv (v := vf) rfl η) ?_
  refine Zo (run_ldN rfl ag_32 ty_32 η rfl hAb13) ?_
  refine r_bslice (pv := [(0, .agg _)]) (zs := [_, _, _]) (cs := [_, _, _]) Tryz.underlying33 ty_32 η rfl η rfl η ?_
  intro b153 w154 heb153 hEw154 hbb153 hzb153
  have hs_w154 := (hEw154).size
  replace hV := evo_step0 hV hEw154
  replace hl := hl0 _ hV
  replace hof := hof.evo0 hEw154
  replace hop := hop.evo0 hEw154
  replace hb := hb.evo0 hEw154
  have hrb153 : RowE w154 (some ⟨b153, 0, none⟩) b153 0 1 ([⟨kx, tx, ix⟩] : List Vc.Item) := rowLit ([⟨kx, tx, ix⟩] : List Vc.Item) hbb153 rfl rfl
  obtain ⟨ao155, g155, cp155, hv155, hr155, hg155⟩ := hof.rowOf
  subst hv155
  refine Zr [.slice _ _ _, .slice (some ⟨b153, 0, none⟩) _ _] rfl η Tryz.func76 (rconcat_calls hr155 hrb153 (by assumption)) ?_
  rintro e w156 ⟨vn156, rfl, hE156, hon156⟩
  refine ⟨_, rfl, ?_⟩
  have hs_w156 := (hE156).size
  replace hV := evo_step0 hV hE156
  replace hl := hl0 _ hV
  replace hof := hof.evo0 hE156
  replace hop := hop.evo0 hE156
  replace hb := hb.evo0 hE156
  replace hrb153 := hrb153.evo0 hE156
  replace hr155 := hr155.evo0 hE156
  refine Zn (run_asg (v := vn156) rfl η) ?_
  refine r_blk ?_
  refine r_region ?_
  refine Zo mvI ?_
  refine Zo (run_sub rfl η η ω ω) ?_
  refine Zn asI ?_
  refine r_again (i - 1) ?_ ?_ ?_
  ·first | omega | (dsimp only; omega)
  ·refine ⟨_, _, _, _, _, _, σ, rfl, rfl, rfl, (hon156.base_le ω), hop, hb, hb.at, (by rw [hFI.norm]; exact hFX), (by rw [hFI.norm]; exact hNX), (by have h1 := normL_len (f ++ [⟨kx, tx, ix⟩]); have h2 := normL_size (f ++ [⟨kx, tx, ix⟩]); rw [List.length_append] at h1; rw [sizeL_append, sizeL_one] at h2; simp at h1 h2; omega), (fun g hg h hh => by have h1 := (hon156).block (g := g) hg; have h2 := hobZ h hh; omega), hop2, δ, hV⟩
  exact ψ
 refine r_exit rfl ?_
 refine r_seq ?_
 refine Zs ?_
 refine Zo (run_mv (v := vo) rfl η) ?_
 refine Zo (run_lenOE rfl η Tryz.underlying33 hop) ?_
 refine Zo (run_sub rfl η η ω ω) ?_
 refine Zn asI ?_
 refine r_block ?_
 obtain ⟨ao157, g157, cp157, hv157, hr157, hg157⟩ := hop.rowOf
 subst hv157
 refine r_loop (α := Nat) [9, 15, 118, 119, 120, 121, 122, 123, 124, 125, 126, 127, 128, 129, 130, 131, 132, 133, 134, 135, 136, 137, 138, 139] (fun j g w => ∃ vf2 : Value, ∃ f2 : List Vc.Item, g 15 = .int .i64 ((j : Nat) - 1) ∧ g 9 = vf2 ∧ OwnE w w0.heap.size 32 vf2 f2 ∧ RowE w ao157 g157 0 cp157 op ∧ Blk w bs T [.slice ao l.length cap, .int .i64 (N1 : Nat)] ∧ At w bs 0 [.slice ao l.length cap, .int .i64 (N1 : Nat)] ∧ FI f2 (op.take j) idn ∧ NS nested f2 (op.take j) ∧ (f2.length + j ≤ f.length + op.length ∧ sizeL f2 + 5 * j ≤ sizeL f + 5 * op.length ∧ j ≤ op.length) ∧ (op ≠ [] → ∀ g, vf2.ownBlock = some g → g ≠ g157) ∧ (op ≠ [] → g157 < w.heap.size) ∧ w3.heap.size ≤ w.heap.size ∧ Evo w0 w [bs]) (fun j => j) op.length ?_ ?_
 ·refine ⟨_, _, rfl, rfl, hof, hr157, hb, hb.at, (by rw [List.take_of_length_le (Nat.le_refl _)]; exact hFI), (by rw [List.take_of_length_le (Nat.le_refl _)]; exact hNS), δ, (fun hne g hg => hsep g hg _ (hg157 hne).1), (fun hne => (hg157 hne).2.2), δ, hV⟩
 rintro j g w159 ⟨vf2, f2, hj160, hj161, hof2, hro, hb, hAs, hFI2, hNS2, hsz3, hsep2, hgo, hzl158, hV⟩
 have hs_w159hV := hV.size
 have hlt162 := hb.lt
 refine Zk 15 (v := .int .i64 ((j : Nat) - 1)) (by exact hj160) ?_
 refine Zk 9 (v := vf2) (by exact hj161) ?_
 refine r_seq ?_
 refine Zs ?_
 refine Zo mvI ?_
 refine Zo (run_geq rfl η η) ?_
 refine Zo mvB ?_
 refine r_g rfl (wantT η) rfl (fun hg => run_mvb rfl η) ?_
 refine Zn (run_pick_and rfl η (fun hq => glv η (fun h => h) hq) rfl) ?_
 refine r_cond η (fun hc163 => ?_) (fun hc163 => ?_)
 ·skip
  refine r_skip ?_
  refine r_seq ?_
  refine r_block ?_
  have hk5 := text5 hopt (j - 1)
  have hV_q := hV
  refine h_region ([]) ζ ?_
  intro w164 hE165 hC166
  have hs_w164 := (hE165).size
  replace hV := evo_step0 hV hE165
  replace hof2 := hof2.evo0 hE165
  replace hro := hro.evo0 hE165
  replace hb := hb.evo0 hE165
  refine Zt (i := 0) η (fun w' hC => run_mv (v := vf2) rfl η) hC166 ?_
  refine Zt (i := 1) η (fun w' hC => mvS) hC166 ?_
  refine Zt (i := 2) η (fun w' hC => mvI) hC166 ?_
  refine Zt (i := 3) η (fun w' hC => run_ix ((j - 1)) rfl Tryz.underlying33 ty_32 η η ω ω (hro.addr (i := (j - 1)) ω)) hC166 ?_
  have hA167 := hro.atD ((j - 1)) ω
  refine Zt (i := 4) η (fun w' hC => run_fa rfl η fo_32_1) hC166 ?_
  refine Zt (i := 7) η (fun w' hC => mvS) hC166 ?_
  refine Zt (i := 8) η (fun w' hC => mvI) hC166 ?_
  refine Zt (i := 9) η (fun w' hC => run_ix ((j - 1)) rfl Tryz.underlying33 ty_32 η η ω ω (hro.addr (i := (j - 1)) ω)) hC166 ?_
  have hA168 := hro.atD ((j - 1)) ω
  refine Zt (i := 10) η (fun w' hC => run_fa rfl η fo_32_2) hC166 ?_
  refine h_two (i := 5) (j := 11) ζ ?_ ?_
  ·skip
   refine h_do η ?_
   refine Zo (run_ld1 rfl ag_9 η (hA167.cell 1 η)) ?_
   refine h_next hC166 ?_
   refine h_two (i := 6) (j := 11) ζ ?_ ?_
   ·skip
    refine h_do η ?_
    refine Zr [S _] rfl η Tryz.func75 (rname_calls ω) ?_
    rintro e w169 ⟨rfl, hE169⟩
    refine ⟨_, rfl, ?_⟩
    have hs_w169 := (hE169).size
    replace hV := evo_step0 hV hE169
    replace hC166 := evo_step0 hC166 hE169
    replace hof2 := hof2.evo0 hE169
    replace hro := hro.evo0 hE169
    replace hb := hb.evo0 hE169
    replace hA168 := hA168.evo0 hE169
    refine h_next hC166 ?_
    refine Zh (i := 11) ?_
    refine Zo (run_ld1 rfl ag_3 η (hA168.cell 2 η)) ?_
    refine h_next hC166 ?_
    refine Zt (i := 12) η (fun w' hC => run_bld (pv := [(0, .int _ _), (1, S _), (2, .int _ _)]) (zs := [_, _, _]) (cells := [_, _, _]) rfl ty_32 η pl_32 η η) hC166 ?_
    refine Zh (i := 13) ?_
    refine r_bslice (pv := [(0, .agg _)]) (zs := [_, _, _]) (cs := [_, _, _]) Tryz.underlying33 ty_32 η rfl η rfl η ?_
    intro b170 w171 heb170 hEw171 hbb170 hzb170
    have hs_w171 := (hEw171).size
    replace hV := evo_step0 hV hEw171
    replace hC166 := evo_step0 hC166 hEw171
    replace hof2 := hof2.evo0 hEw171
    replace hro := hro.evo0 hEw171
    replace hb := hb.evo0 hEw171
    have hrb170 := rowLit (α := Vc.Item) [⟨_, _, _⟩] hbb170 (by show [_, _, _] = [_, _, _]; first | (dsimp only; done) | exact rfl | (dsimp only; exact rfl)) rfl
    refine h_next hC166 ?_
    refine Zh (i := 14) ?_
    refine r_appendE rfl Tryz.underlying33 ty_32 η hof2 η η hrb170 rfl ((by first | omega | (simp; omega))) ((by first | omega | (simp; omega))) ω ?_
    intro v172 w173 hEw173 hov172 hlv172
    have hs_w173 := (hEw173).size
    replace hV := evo_stepo hV hEw173 (fun g hg => .inl (by first | exact (hof2.block hg).1 | (have := hof2.block hg; omega)))
    replace hl := hl0 _ hV
    replace hro := row_keep hro hEw173 (fun hne hm => hsep2 hne _ (Option.mem_toList.1 hm) rfl)
    replace hb := hb.evo hEw173 (by intro hm; have hm2 := Option.mem_toList.1 hm; have := hof2.block hm2; omega)
    refine h_last ζ ?_
    refine Zh (i := 15) ?_
    refine Zo (run_asg (v := v172) rfl η) ?_
    refine h_last ζ ?_
    refine h_done ζ ?_
    refine r_blk ?_
    refine r_region ?_
    refine Zo mvI ?_
    refine Zo (run_sub rfl η η ω ω) ?_
    refine Zn asI ?_
    refine r_again (j - 1) ?_ ?_ ?_
    ·first | omega | (dsimp only; omega)
    ·refine ⟨_, _, σ, rfl, hov172, hro, hb, hb.at, (hFI2.closeLast ω ω ω), (hNS2.closeLast ω ω _), (by rw [List.length_append, sizeL_append, sizeL_one]; have h1 := nameL_len (op.getD (j - 1) default).text; have h2 := text5 hopt (j - 1); simp only [List.length_cons, List.length_nil]; omega), (fun hne g hg => hlv172.elim (fun h => hsep2 hne g (h.symm.trans hg)) (fun h => by have h7 := hgo hne; have h8 := Option.some.inj (h.symm.trans hg); omega)), (fun hne => by have h7 := hgo hne; omega), δ, hV⟩
    exact ψ
   refine h_do η ?_
   refine Zo (run_ld1 rfl ag_3 η (hA168.cell 2 η)) ?_
   refine h_next hC166 ?_
   refine Zh (i := 6) ?_
   refine Zr [S _] rfl η Tryz.func75 (rname_calls ω) ?_
   rintro e w174 ⟨rfl, hE174⟩
   refine ⟨_, rfl, ?_⟩
   have hs_w174 := (hE174).size
   replace hV := evo_step0 hV hE174
   replace hC166 := evo_step0 hC166 hE174
   replace hof2 := hof2.evo0 hE174
   replace hro := hro.evo0 hE174
   replace hb := hb.evo0 hE174
   refine h_next hC166 ?_
   refine Zt (i := 12) η (fun w' hC => run_bld (pv := [(0, .int _ _), (1, S _), (2, .int _ _)]) (zs := [_, _, _]) (cells := [_, _, _]) rfl ty_32 η pl_32 η η) hC166 ?_
   refine Zh (i := 13) ?_
   refine r_bslice (pv := [(0, .agg _)]) (zs := [_, _, _]) (cs := [_, _, _]) Tryz.underlying33 ty_32 η rfl η rfl η ?_
   intro b175 w176 heb175 hEw176 hbb175 hzb175
   have hs_w176 := (hEw176).size
   replace hV := evo_step0 hV hEw176
   replace hC166 := evo_step0 hC166 hEw176
   replace hof2 := hof2.evo0 hEw176
   replace hro := hro.evo0 hEw176
   replace hb := hb.evo0 hEw176
   have hrb175 := rowLit (α := Vc.Item) [⟨_, _, _⟩] hbb175 (by show [_, _, _] = [_, _, _]; first | (dsimp only; done) | exact rfl | (dsimp only; exact rfl)) rfl
   refine h_next hC166 ?_
   refine Zh (i := 14) ?_
   refine r_appendE rfl Tryz.underlying33 ty_32 η hof2 η η hrb175 rfl ((by first | omega | (simp; omega))) ((by first | omega | (simp; omega))) ω ?_
   intro v177 w178 hEw178 hov177 hlv177
   have hs_w178 := (hEw178).size
   replace hV := evo_stepo hV hEw178 (fun g hg => .inl (by first | exact (hof2.block hg).1 | (have := hof2.block hg; omega)))
   replace hl := hl0 _ hV
   replace hro := row_keep hro hEw178 (fun hne hm => hsep2 hne _ (Option.mem_toList.1 hm) rfl)
   replace hb := hb.evo hEw178 (by intro hm; have hm2 := Option.mem_toList.1 hm; have := hof2.block hm2; omega)
   refine h_last ζ ?_
   refine Zh (i := 15) ?_
   refine Zo (run_asg (v := v177) rfl η) ?_
   refine h_last ζ ?_
   refine h_done ζ ?_
   refine r_blk ?_
   refine r_region ?_
   refine Zo mvI ?_
   refine Zo (run_sub rfl η η ω ω) ?_
   refine Zn asI ?_
   refine r_again (j - 1) ?_ ?_ ?_
   ·first | omega | (dsimp only; omega)
   ·refine ⟨_, _, σ, rfl, hov177, hro, hb, hb.at, (hFI2.closeLast ω ω ω), (hNS2.closeLast ω ω _), (by rw [List.length_append, sizeL_append, sizeL_one]; have h1 := nameL_len (op.getD (j - 1) default).text; have h2 := text5 hopt (j - 1); simp only [List.length_cons, List.length_nil]; omega), (fun hne g hg => hlv177.elim (fun h => hsep2 hne g (h.symm.trans hg)) (fun h => by have h7 := hgo hne; have h8 := Option.some.inj (h.symm.trans hg); omega)), (fun hne => by have h7 := hgo hne; omega), δ, hV⟩
   exact ψ
  refine h_do η ?_
  refine Zo (run_ld1 rfl ag_3 η (hA168.cell 2 η)) ?_
  refine h_next hC166 ?_
  refine Zh (i := 5) ?_
  refine Zo (run_ld1 rfl ag_9 η (hA167.cell 1 η)) ?_
  refine h_next hC166 ?_
  refine Zh (i := 6) ?_
  refine Zr [S _] rfl η Tryz.func75 (rname_calls ω) ?_
  rintro e w179 ⟨rfl, hE179⟩
  refine ⟨_, rfl, ?_⟩
  have hs_w179 := (hE179).size
  replace hV := evo_step0 hV hE179
  replace hC166 := evo_step0 hC166 hE179
  replace hof2 := hof2.evo0 hE179
  replace hro := hro.evo0 hE179
  replace hb := hb.evo0 hE179
  refine h_next hC166 ?_
  refine Zt (i := 12) η (fun w' hC => run_bld (pv := [(0, .int _ _), (1, S _), (2, .int _ _)]) (zs := [_, _, _]) (cells := [_, _, _]) rfl ty_32 η pl_32 η η) hC166 ?_
  refine Zh (i := 13) ?_
  refine r_bslice (pv := [(0, .agg _)]) (zs := [_, _, _]) (cs := [_, _, _]) Tryz.underlying33 ty_32 η rfl η rfl η ?_
  intro b180 w181 heb180 hEw181 hbb180 hzb180
  have hs_w181 := (hEw181).size
  replace hV := evo_step0 hV hEw181
  replace hC166 := evo_step0 hC166 hEw181
  replace hof2 := hof2.evo0 hEw181
  replace hro := hro.evo0 hEw181
  replace hb := hb.evo0 hEw181
  have hrb180 := rowLit (α := Vc.Item) [⟨_, _, _⟩] hbb180 (by show [_, _, _] = [_, _, _]; first | (dsimp only; done) | exact rfl | (dsimp only; exact rfl)) rfl
  refine h_next hC166 ?_
  refine Zh (i := 14) ?_
  refine r_appendE rfl Tryz.underlying33 ty_32 η hof2 η η hrb180 rfl ((by first | omega | (simp; omega))) ((by first | omega | (simp; omega))) ω ?_
  intro v182 w183 hEw183 hov182 hlv182
  have hs_w183 := (hEw183).size
  replace hV := evo_stepo hV hEw183 (fun g hg => .inl (by first | exact (hof2.block hg).1 | (have := hof2.block hg; omega)))
  replace hl := hl0 _ hV
  replace hro := row_keep hro hEw183 (fun hne hm => hsep2 hne _ (Option.mem_toList.1 hm) rfl)
  replace hb := hb.evo hEw183 (by intro hm; have hm2 := Option.mem_toList.1 hm; have := hof2.block hm2; omega)
  refine h_last ζ ?_
  refine Zh (i := 15) ?_
  refine Zo (run_asg (v := v182) rfl η) ?_
  refine h_last ζ ?_
  refine h_done ζ ?_
  refine r_blk ?_
  refine r_region ?_
  refine Zo mvI ?_
  refine Zo (run_sub rfl η η ω ω) ?_
  refine Zn asI ?_
  refine r_again (j - 1) ?_ ?_ ?_
  ·first | omega | (dsimp only; omega)
  ·refine ⟨_, _, σ, rfl, hov182, hro, hb, hb.at, (hFI2.closeLast ω ω ω), (hNS2.closeLast ω ω _), (by rw [List.length_append, sizeL_append, sizeL_one]; have h1 := nameL_len (op.getD (j - 1) default).text; have h2 := text5 hopt (j - 1); simp only [List.length_cons, List.length_nil]; omega), (fun hne g hg => hlv182.elim (fun h => hsep2 hne g (h.symm.trans hg)) (fun h => by have h7 := hgo hne; have h8 := Option.some.inj (h.symm.trans hg); omega)), (fun hne => by have h7 := hgo hne; omega), δ, hV⟩
  exact ψ
 refine r_exit rfl ?_
 refine Zs ?_
 refine Zo (run_mv (v := vf2) rfl η) ?_
 refine Zn (run_asg (v := vf2) rfl η) ?_
 refine r_ret (res1 (v := vf2) rfl η) ?_
 exact ⟨_, _, N1, rfl, ⟨hFI2.val, by omega, by omega, hNS2.done hc163⟩, by omega, hV, hb, hof2⟩
def isW (x : Vc.Item) : Prop := x.kind = 6 ∨ x.kind = 7
instance (x : Vc.Item) : Decidable (isW x) := by unfold isW; infer_instance
def gapW (x : Vc.Item) : Prop := x.kind = 8 ∨ x.kind = 2 ∨ x.kind = 3 ∨ x.kind = 4
instance (x : Vc.Item) : Decidable (gapW x) := by unfold gapW; infer_instance
def nextR : List Vc.Item → Nat → Int
  | [], _ => -1
  | x :: r, k => if isW x then (k : Int) else if gapW x then nextR r (k + 1) else -1
def nextT (l : List Vc.Item) (i : Nat) : Int := nextR (l.drop (i + 1)) (i + 1)
theorem drop_consT {l : List Vc.Item} {k : Nat} (h : k < l.length) : l.drop k = l.getD k default :: l.drop (k + 1) := by
  have e : l.getD k default = l[k] := by simp [List.getD, h]
  rw [e]; exact (List.drop_eq_getElem_cons h)
theorem next_hit {l : List Vc.Item} {k : Nat} (h : k < l.length) (h2 : isW (l.getD k default)) : nextR (l.drop k) k = (k : Int) := by rw [drop_consT h]; exact if_pos h2
theorem next_gap {l : List Vc.Item} {k : Nat} (h : k < l.length) (h2 : ¬ isW (l.getD k default)) (h3 : gapW (l.getD k default)) : nextR (l.drop k) k = nextR (l.drop (k + 1)) (k + 1) := by
  rw [drop_consT h]
  conv => lhs; unfold nextR
  rw [if_neg h2, if_pos h3]
theorem next_stop {l : List Vc.Item} {k : Nat} (h : k < l.length) (h2 : ¬ isW (l.getD k default)) (h3 : ¬ gapW (l.getD k default)) : nextR (l.drop k) k = -1 := by
  rw [drop_consT h]; unfold nextR; rw [if_neg h2, if_neg h3]
theorem next_end {l : List Vc.Item} {k : Nat} (h : l.length ≤ k) : nextR (l.drop k) k = -1 := by rw [List.drop_of_length_le h]; rfl
theorem nextR_bd (l : List Vc.Item) : ∀ (n k : Nat), l.length - k = n → k ≤ l.length → nextR (l.drop k) k = -1 ∨ ((k : Int) ≤ nextR (l.drop k) k ∧ nextR (l.drop k) k < (l.length : Int) ∧ isW (l.getD (nextR (l.drop k) k).toNat default))
  | 0, k, h, _ => .inl (next_end ω)
  | n + 1, k, h, _ => by
    have hk : k < l.length := by omega
    by_cases h2 : isW (l.getD k default)
    · rw [next_hit hk h2]; exact .inr ⟨by omega, by omega, by simpa using h2⟩
    · by_cases h3 : gapW (l.getD k default)
      · rw [next_gap hk h2 h3]
        rcases nextR_bd l n (k + 1) ω ω with h4 | ⟨h4, h5, h6⟩
        · exact .inl h4
        · exact .inr ⟨by omega, h5, h6⟩
      · exact .inl (next_stop hk h2 h3)
theorem nextT_bd {l : List Vc.Item} {i : Nat} (h : i < l.length) : nextT l i = -1 ∨ ((i : Int) + 1 ≤ nextT l i ∧ nextT l i < (l.length : Int) ∧ isW (l.getD (nextT l i).toNat default)) := by
  rcases nextR_bd l _ (i + 1) rfl ω with h1 | ⟨h1, h2, h3⟩
  · exact .inl h1
  · exact .inr ⟨by have : ((i + 1 : Nat) : Int) ≤ nextT l i := h1
                   omega, h2, h3⟩
def chainF (l : List Vc.Item) : Int → Int → List (List Str) → Int
  | _, e, [] => e
  | i, _, s :: r => if i < 0 then -1 else if lowS (l.getD i.toNat default).text ∈ s then chainF l (nextT l i.toNat) (i + 1) r else -1
theorem chain_neg {l : List Vc.Item} {i e : Int} {s : List Str} {r : List (List Str)} (h : i < 0) : chainF l i e (s :: r) = -1 := if_pos h
theorem chain_no {l : List Vc.Item} {i e : Int} {s : List Str} {r : List (List Str)} (h : ¬ i < 0) (h2 : ¬ lowS (l.getD i.toNat default).text ∈ s) : chainF l i e (s :: r) = -1 := by unfold chainF; rw [if_neg h, if_neg h2]
theorem chain_go {l : List Vc.Item} {i e : Int} {s : List Str} {r : List (List Str)} (h : ¬ i < 0) (h2 : lowS (l.getD i.toNat default).text ∈ s) : chainF l i e (s :: r) = chainF l (nextT l i.toNat) (i + 1) r := by
  conv => lhs; unfold chainF
  rw [if_neg h, if_pos h2]
end Go.Proofs.YtlfjocbnbceceaaGreatDoor
namespace Go.Vc
open Go Go.RowKit Go.IntWalk Go.Deep
structure TermL where
  words : List Ende
  req : List Str
  forb : List Str
deriving Inhabited
instance : Rep TermL where
  n := 3
  rep w cs x := (∃ ao b off cap ao1 b1 off1 cap1 ao2 b2 off2 cap2, cs = [.slice ao x.words.length cap, .slice ao1 x.req.length cap1, .slice ao2 x.forb.length cap2] ∧ RowE w ao b off cap x.words ∧ RowE w ao1 b1 off1 cap1 x.req ∧ RowE w ao2 b2 off2 cap2 x.forb) ∧ (x.words.length ≤ 4398046510976 ∧ ∀ y ∈ x.words, BdE y)
  len := fun ⟨⟨_, _, _, _, _, _, _, _, _, _, _, _, h, _⟩, _⟩ => by rw [h]; rfl
  evo0 := fun ⟨⟨ao, b, off, cap, ao1, b1, off1, cap1, ao2, b2, off2, cap2, h, h1, h2, h3⟩, hb⟩ he => ⟨⟨ao, b, off, cap, ao1, b1, off1, cap1, ao2, b2, off2, cap2, h, h1.evo0 he, h2.evo0 he, h3.evo0 he⟩, hb⟩
  pos := by decide
theorem term_at {w : World} {ao : Option Addr} {b off cap : Nat} {l : List TermL} (h : RowR w ao b off cap l) (k : Nat) (hk : k < l.length) :
    ∃ aoW bW offW capW aoQ bQ offQ capQ aoF bF offF capF, At w b (off + k * 3) [.slice aoW (l.getD k default).words.length capW, .slice aoQ (l.getD k default).req.length capQ, .slice aoF (l.getD k default).forb.length capF] ∧ RowE w aoW bW offW capW (l.getD k default).words ∧ RowE w aoQ bQ offQ capQ (l.getD k default).req ∧ RowE w aoF bF offF capF (l.getD k default).forb := by
  obtain ⟨cs, h1, ⟨ao, b, off, cap, ao1, b1, off1, cap1, ao2, b2, off2, cap2, h2, h3, h4, h5⟩, _⟩ := h.atD k hk
  exact ⟨_, _, _, _, _, _, _, _, _, _, _, _, h2 ▸ h1, h3, h4, h5⟩
theorem term_atK {w : World} {E : List Nat} {ao : Option Addr} {b off cap : Nat} {l : List TermL} (h : RowRK w E ao b off cap l) (k : Nat) (hk : k < l.length) :
    ∃ aoW bW offW capW aoQ bQ offQ capQ aoF bF offF capF, ∀ w', Evo w w' E → At w' b (off + k * 3) [.slice aoW (l.getD k default).words.length capW, .slice aoQ (l.getD k default).req.length capQ, .slice aoF (l.getD k default).forb.length capF] ∧ RowE w' aoW bW offW capW (l.getD k default).words ∧ RowE w' aoQ bQ offQ capQ (l.getD k default).req ∧ RowE w' aoF bF offF capF (l.getD k default).forb := by
  obtain ⟨cs, h1⟩ := h.atD k hk
  obtain ⟨ao, b, off, cap, ao1, b1, off1, cap1, ao2, b2, off2, cap2, h2, h3, h4, h5⟩ := (h1 w (Evo.refl _ _)).2.1
  refine ⟨ao, b, off, cap, ao1, b1, off1, cap1, ao2, b2, off2, cap2, fun w' he => ⟨h2 ▸ (h1 w' he).1, ?_⟩⟩
  obtain ⟨ao', b', off', cap', ao1', b1', off1', cap1', ao2', b2', off2', cap2', h2', h3', h4', h5'⟩ := (h1 w' he).2.1
  rw [h2] at h2'
  simp only [List.cons.injEq, Value.slice.injEq, and_true, true_and] at h2'
  obtain ⟨⟨rfl, rfl⟩, ⟨rfl, rfl⟩, rfl, rfl⟩ := h2'
  exact ⟨rowE_same h3' h3, rowE_same h4' h4, rowE_same h5' h5⟩
theorem term_bd {w : World} {ao : Option Addr} {b off cap : Nat} {l : List TermL} (h : RowR w ao b off cap l) : ∀ x ∈ l, x.words.length ≤ 4398046510976 ∧ ∀ y ∈ x.words, BdE y := fun x hx => by
  obtain ⟨css, _, hl, hr⟩ := h
  obtain ⟨i, hi⟩ := List.getElem?_of_mem hx
  have hi2 : i < l.length := (List.getElem?_eq_some_iff.1 hi).1
  exact (hr i (css[i]'ω) x (by simp [hl, hi2]) hi).2
structure SetS where
  ks : List Str
deriving Inhabited
def eU : Unit → Value := fun _ => Value.agg #[]
def SetIs (w : World) (b : Nat) (ks : List Str) : Prop := ∃ m : List (Str × Unit), MapIs w b S eU m ∧ ∀ s, (getM m s).isSome = true ↔ s ∈ ks
theorem SetIs.evo {w w' : World} {b : Nat} {ks : List Str} {E : List Nat} (h : SetIs w b ks) (he : Evo w w' E) (hn : b ∉ E) : SetIs w' b ks := by
  obtain ⟨m, h1, h2⟩ := h; exact ⟨m, h1.evo he hn, h2⟩
theorem SetIs.evo0 {w w' : World} {b : Nat} {ks : List Str} (h : SetIs w b ks) (he : Evo w w' []) : SetIs w' b ks := h.evo he (by simp)
theorem SetIs.lt {w : World} {b : Nat} {ks : List Str} (h : SetIs w b ks) : b < w.heap.size := by obtain ⟨m, h1, _⟩ := h; exact h1.lt
theorem SetIs.bd {w : World} {b : Nat} {ks : List Str} (_ : SetIs w b ks) : True := trivial
instance : Rep SetS where
  n := 1
  rep w cs x := ∃ b, cs = [.map (some b)] ∧ SetIs w b x.ks
  len := fun ⟨_, h, _⟩ => by rw [h]; rfl
  evo0 := fun ⟨b, h, hm⟩ he => ⟨b, h, hm.evo0 he⟩
  pos := by decide
theorem set_atK {w : World} {E : List Nat} {ao : Option Addr} {b off cap : Nat} {l : List SetS} (h : RowRK w E ao b off cap l) (k : Nat) (hk : k < l.length) :
    ∃ bM, ∀ w', Evo w w' E → At w' b (off + k * 1) [.map (some bM)] ∧ SetIs w' bM (l.getD k default).ks := by
  obtain ⟨cs, h1⟩ := h.atD k hk
  obtain ⟨bM, h2, _⟩ := (h1 w (Evo.refl _ _)).2
  refine ⟨bM, fun w' he => ⟨h2 ▸ (h1 w' he).1, ?_⟩⟩
  obtain ⟨b', h4, h5⟩ := (h1 w' he).2
  rw [h2] at h4
  simp only [List.cons.injEq, Value.map.injEq, Option.some.injEq, and_true] at h4
  rw [h4]; exact h5
end Go.Vc
namespace Go.Proofs.YtlfjocbnbceceaaGreatDoor
open Go.RowKit Go.Vc
theorem ag_96 : aggP Tryz.prog 96 = some true := by kernel_rfl
theorem fo_96_0 : fieldP Tryz.prog 96 0 = some 0 := by kernel_rfl
theorem tisword_calls {x : Vc.Item} {w0 : World}  :
    Calls Tryz.prog 191 #[.agg (Enc.enc x).toArray] w0 fun e w' => e = .returned (.bool (decide (isW x))) ∧ Evo w0 w' [] := by
 refine calls_enter (n := 11) Tryz.func191 rfl Tryz.ntmps191 rfl ?_
 have hV : Evo w0 w0 [] := Evo.refl _ _
 refine Zs ?_
 refine r_box (vs := [_, _, _]) η η rfl ?_
 intro b1 w2 heb1 hEw2 hbb1 hzb1
 have hs_w2 := (hEw2).size
 replace hV := evo_step0 hV hEw2
 refine Zn asB ?_
 refine Zs ?_
 refine Zo (run_fa rfl η fo_96_0) ?_
 refine Zo (run_ld1 rfl ag_3 η (hbb1.at.cell 0 η)) ?_
 refine Zo (run_eql rfl η η) ?_
 refine Zo mvB ?_
 refine r_g rfl (wantF η) rfl (fun hg => run_fa rfl η fo_96_0) ?_
 refine r_g rfl (wantF η) rfl (fun hg => run_ld1 rfl ag_3 (glv η (fun h => h) hg) (hbb1.at.cell 0 η)) ?_
 refine r_g rfl (wantF η) rfl (fun hg => run_eql rfl (glv η (fun h => h) hg) η) ?_
 refine Zo (run_pick_or rfl η rfl (fun hq => glv η (fun h => h) hq)) ?_
 refine Zn asB ?_
 refine r_ret (res1 (v := .bool _) rfl η) ?_
 exact ⟨ret_bool (decide_eq_decide.2 (by unfold isW; omega)), hV⟩
theorem ttnext_calls {ao : Option Addr} {b off cap : Nat} {l : List Vc.Item} {i : Int} {w0 : World} (hl : RowE w0 ao b off cap l) (h0 : 0 ≤ i) (h1 : i < l.length) :
    Calls Tryz.prog 212 #[.slice ao l.length cap, .int .i64 i] w0 fun e w' => e = .returned (.int .i64 (nextT l i.toNat)) ∧ Evo w0 w' [] := by
 refine calls_enter (n := 28) Tryz.func212 rfl Tryz.ntmps212 rfl ?_
 have hV : Evo w0 w0 [] := Evo.refl _ _
 have hl0 := keepE hl
 have hbd_hl := hl.bd
 refine Zs ?_
 refine Zn asI ?_
 refine r_seq ?_
 refine Zs ?_
 refine Zo mvI ?_
 refine Zo (run_add rfl η η ω ω) ?_
 refine Zn asI ?_
 refine r_block ?_
 refine r_loop (α := Nat) [4, 5, 8, 9, 10, 11, 12, 13, 14, 15, 16, 17, 18, 19, 20, 21, 22, 23, 24, 25, 26, 27] (fun k g w => g 5 = .int .i64 (k : Nat) ∧ k ≤ l.length ∧ nextR (l.drop k) k = nextT l i.toNat ∧ w0.heap.size ≤ w.heap.size ∧ Evo w0 w []) (fun k => l.length - k) (i.toNat + 1) ?_ ?_
 ·refine ⟨(congrArg (Value.int _) ω), δ, rfl, δ, hV⟩
 rintro k g w2 ⟨hj3, hk, hnx, hzl1, hV⟩
 have hs_w2hV := hV.size
 replace hl := hl0 _ hV
 refine Zk 5 (v := .int .i64 (k : Nat)) (by exact hj3) ?_
 refine r_seq ?_
 refine Zs ?_
 refine Zo mvI ?_
 refine Zo mvS ?_
 refine Zo (run_lenSl rfl η Tryz.underlying94) ?_
 refine Zn (run_lss rfl η η) ?_
 refine r_cond η (fun hc4 => ?_) (fun hc4 => ?_)
 ·skip
  refine r_skip ?_
  refine r_seq ?_
  refine r_block ?_
  refine Zs ?_
  refine Zo mvS ?_
  refine Zo mvI ?_
  refine Zo (run_ix (k) rfl Tryz.underlying94 ty_96 η η (by first | exact rfl | omega) ω (hl.addr (i := k) ω)) ?_
  have hA50 := fun (w' : World) (h : Evo w0 w' []) => (hl0 w' h).atD (k) ω
  have hA5 := hA50 _ hV
  refine Zo (run_fa rfl η fo_96_0) ?_
  refine Zn (run_ld1 rfl ag_3 η (hA5.cell 0 η)) ?_
  refine r_block ?_
  refine r_seq ?_
  refine Zs ?_
  refine Zo (run_eql rfl η η) ?_
  refine Zn asB ?_
  refine r_cond η (fun hc6 => ?_) (fun hc6 => ?_)
  ·skip
   refine r_skip ?_
   refine r_condT η hc6 ?_
   refine Zs ?_
   refine Zo mvI ?_
   refine Zn asI ?_
   refine r_ret (res1 (v := .int _ _) rfl η) ?_
   first | exact ⟨ret_int (by rw [← hnx, next_hit (l := l) (k := k) ω (by first | assumption | (unfold isW; omega))]), hV⟩ | exact ⟨ret_int (by rw [← hnx, next_stop (l := l) (k := k) ω (by first | assumption | (unfold isW; omega)) (by unfold gapW; omega)]), hV⟩ | exact ⟨ret_int (by rw [← hnx, next_end (l := l) (k := k) ω]), hV⟩
  refine r_region ?_
  refine Zo (run_eql rfl η η) ?_
  refine Zn asB ?_
  refine r_cond η (fun hc7 => ?_) (fun hc7 => ?_)
  ·skip
   refine Zs ?_
   refine Zo mvI ?_
   refine Zn asI ?_
   refine r_ret (res1 (v := .int _ _) rfl η) ?_
   first | exact ⟨ret_int (by rw [← hnx, next_hit (l := l) (k := k) ω (by first | assumption | (unfold isW; omega))]), hV⟩ | exact ⟨ret_int (by rw [← hnx, next_stop (l := l) (k := k) ω (by first | assumption | (unfold isW; omega)) (by unfold gapW; omega)]), hV⟩ | exact ⟨ret_int (by rw [← hnx, next_end (l := l) (k := k) ω]), hV⟩
  refine r_seq ?_
  refine Zs ?_
  refine Zo (run_eql rfl η η) ?_
  refine Zn asB ?_
  refine r_cond η (fun hc8 => ?_) (fun hc8 => ?_)
  ·skip
   refine r_skip ?_
   refine r_condT η hc8 ?_
   refine r_skip ?_
   refine r_blk ?_
   refine r_blk ?_
   refine r_region ?_
   refine Zo mvI ?_
   refine Zo (run_add rfl η η ω ω) ?_
   refine Zn asI ?_
   refine r_again (k + 1) ?_ ?_ ?_
   ·first | omega | (dsimp only; omega)
   ·refine ⟨(congrArg (Value.int _) ω), δ, (by rw [← hnx, next_gap (l := l) (k := k) ω (by first | assumption | (unfold isW; omega)) (by unfold gapW; omega)]), δ, hV⟩
   exact ψ
  refine Zs ?_
  refine Zo (run_eql rfl η η) ?_
  refine Zn asB ?_
  refine r_cond η (fun hc9 => ?_) (fun hc9 => ?_)
  ·skip
   refine r_skip ?_
   refine r_condT η hc9 ?_
   refine r_skip ?_
   refine r_blk ?_
   refine r_blk ?_
   refine r_region ?_
   refine Zo mvI ?_
   refine Zo (run_add rfl η η ω ω) ?_
   refine Zn asI ?_
   refine r_again (k + 1) ?_ ?_ ?_
   ·first | omega | (dsimp only; omega)
   ·refine ⟨(congrArg (Value.int _) ω), δ, (by rw [← hnx, next_gap (l := l) (k := k) ω (by first | assumption | (unfold isW; omega)) (by unfold gapW; omega)]), δ, hV⟩
   exact ψ
  refine Zs ?_
  refine Zo (run_eql rfl η η) ?_
  refine Zn asB ?_
  refine r_cond η (fun hc10 => ?_) (fun hc10 => ?_)
  ·skip
   refine r_skip ?_
   refine r_condT η hc10 ?_
   refine r_skip ?_
   refine r_blk ?_
   refine r_blk ?_
   refine r_region ?_
   refine Zo mvI ?_
   refine Zo (run_add rfl η η ω ω) ?_
   refine Zn asI ?_
   refine r_again (k + 1) ?_ ?_ ?_
   ·first | omega | (dsimp only; omega)
   ·refine ⟨(congrArg (Value.int _) ω), δ, (by rw [← hnx, next_gap (l := l) (k := k) ω (by first | assumption | (unfold isW; omega)) (by unfold gapW; omega)]), δ, hV⟩
   exact ψ
  refine r_region ?_
  refine Zo (run_eql rfl η η) ?_
  refine Zn asB ?_
  refine r_cond η (fun hc11 => ?_) (fun hc11 => ?_)
  ·skip
   refine r_skip ?_
   refine r_blk ?_
   refine r_blk ?_
   refine r_region ?_
   refine Zo mvI ?_
   refine Zo (run_add rfl η η ω ω) ?_
   refine Zn asI ?_
   refine r_again (k + 1) ?_ ?_ ?_
   ·first | omega | (dsimp only; omega)
   ·refine ⟨(congrArg (Value.int _) ω), δ, (by rw [← hnx, next_gap (l := l) (k := k) ω (by first | assumption | (unfold isW; omega)) (by unfold gapW; omega)]), δ, hV⟩
   exact ψ
  refine Zs ?_
  refine Zn asI ?_
  refine r_ret (res1 (v := .int _ _) rfl η) ?_
  first | exact ⟨ret_int (by rw [← hnx, next_hit (l := l) (k := k) ω (by first | assumption | (unfold isW; omega))]), hV⟩ | exact ⟨ret_int (by rw [← hnx, next_stop (l := l) (k := k) ω (by first | assumption | (unfold isW; omega)) (by unfold gapW; omega)]), hV⟩ | exact ⟨ret_int (by rw [← hnx, next_end (l := l) (k := k) ω]), hV⟩
 refine r_exit rfl ?_
 refine Zs ?_
 refine Zn asI ?_
 refine r_ret (res1 (v := .int _ _) rfl η) ?_
 first | exact ⟨ret_int (by rw [← hnx, next_hit (l := l) (k := k) ω (by first | assumption | (unfold isW; omega))]), hV⟩ | exact ⟨ret_int (by rw [← hnx, next_stop (l := l) (k := k) ω (by first | assumption | (unfold isW; omega)) (by unfold gapW; omega)]), hV⟩ | exact ⟨ret_int (by rw [← hnx, next_end (l := l) (k := k) ω]), hV⟩
theorem ag_171 : aggP Tryz.prog 171 = some false := by kernel_rfl
theorem ag_77 : aggP Tryz.prog 77 = some false := by kernel_rfl
theorem fo_96_1 : fieldP Tryz.prog 96 1 = some 1 := by kernel_rfl
theorem ty_171 : tyP Tryz.prog 171 = some (1, 8, some (.map none)) := by kernel_rfl
theorem ty_77 : tyP Tryz.prog 77 = some (1, 24, some (.slice none 0 0)) := by kernel_rfl
theorem getM_isSome_mem {m : List (Str × Unit)} {x : Str} : (getM m x).isSome = true ↔ x ∈ m.map (·.1) := by
  unfold getM
  rw [Option.isSome_map, List.find?_isSome]
  simp only [decide_eq_true_eq, List.mem_map]
theorem KeyIs.some {m : List (Str × Unit)} {l : List Str} (h : KeyIs m l) (s : Str) : (getM m s).isSome = true ↔ s ∈ l := by
  rw [getM_isSome_mem]; exact h.2 s
def nth (ss : List SetS) : List (List Str) := ss.map (·.ks)
theorem nth_drop {ss : List SetS} {k : Nat} (h : k < ss.length) : nth (ss.drop k) = (ss.getD k default).ks :: nth (ss.drop (k + 1)) := by
  have e : ss.getD k default = ss[k] := by simp [List.getD, h]
  rw [e, List.drop_eq_getElem_cons h]; rfl
def atOk (l : List Vc.Item) (i : Int) : Prop := i = -1 ∨ (0 ≤ i ∧ i < (l.length : Int))
theorem atOk_next {l : List Vc.Item} {i : Int} (h : 0 ≤ i) (h2 : i < (l.length : Int)) : atOk l (nextT l i.toNat) := by
  rcases nextT_bd (l := l) (i := i.toNat) ω with h3 | ⟨h3, h4, _⟩
  · exact .inl h3
  · exact .inr ⟨by omega, h4⟩
theorem tchain_calls {ao : Option Addr} {b off cap : Nat} {l : List Vc.Item} {i : Int} {aos : Option Addr} {bs offs caps : Nat} {ss : List SetS} {w0 : World} (hl : RowE w0 ao b off cap l) (hs : RowR w0 aos bs offs caps ss) (hq : ∀ x ∈ l, x.text.length ≤ 140737488355328) (h0 : 0 ≤ i) (h1 : i < l.length) :
    Calls Tryz.prog 192 #[.slice ao l.length cap, .int .i64 i, .slice aos ss.length caps] w0 fun e w' => e = .returned (.int .i64 (chainF l i (-1) (nth ss))) ∧ Evo w0 w' [] := by
 refine calls_enter (n := 40) Tryz.func192 rfl Tryz.ntmps192 rfl ?_
 have hV : Evo w0 w0 [] := Evo.refl _ _
 have hl0 := keepE hl
 have hbd_hl := hl.bd
 have hs0 := hs.keep
 have hbd_hs := hs.bd
 refine Zs ?_
 refine Zn asI ?_
 refine Zs ?_
 refine Zn asI ?_
 refine r_seq ?_
 refine Zs ?_
 refine Zo mvS ?_
 refine Zo (run_lenSl rfl η Tryz.underlying200) ?_
 refine Zn mvI ?_
 refine r_block ?_
 refine r_loop (α := Nat) [1, 6, 7, 9, 10, 11, 14, 15, 16, 17, 18, 19, 20, 21, 22, 23, 24, 25, 26, 27, 28, 29, 30, 31, 32, 33, 34, 35, 36, 37, 38] (fun k g w => ∃ at1 : Int, ∃ en : Int, g 14 = .int .i64 (k : Nat) ∧ g 1 = .int .i64 at1 ∧ g 7 = .int .i64 en ∧ k ≤ ss.length ∧ atOk l at1 ∧ chainF l at1 en (nth (ss.drop k)) = chainF l i (-1) (nth ss) ∧ w0.heap.size ≤ w.heap.size ∧ Evo w0 w []) (fun k => ss.length - k) 0 ?_ ?_
 ·refine ⟨i, (-1), σ, rfl, rfl, δ, (.inr ⟨h0, h1⟩), rfl, δ, hV⟩
 rintro k g w2 ⟨at1, en, hj3, hj4, hj5, hk_k, hat, hch, hzl1, hV⟩
 have hs_w2hV := hV.size
 replace hl := hl0 _ hV
 replace hs := hs0.now hV
 refine Zk 14 (v := .int .i64 (k : Nat)) (by exact hj3) ?_
 refine Zk 1 (v := .int .i64 at1) (by exact hj4) ?_
 refine Zk 7 (v := .int .i64 en) (by exact hj5) ?_
 refine Zs ?_
 refine Zn (run_lss rfl η η) ?_
 refine r_seq ?_
 refine r_cond η (fun hc6 => ?_) (fun hc6 => ?_)
 ·skip
  refine r_skip ?_
  refine r_seq ?_
  refine r_block ?_
  refine Zs ?_
  refine Zo (run_ix (k) rfl Tryz.underlying200 ty_171 η η (by first | exact rfl | omega) ω (hs.addr (i := k) ω)) ?_
  obtain ⟨bM7, hX⟩ := set_atK hs0 (k) ω
  have hA70 := fun (w' : World) (h : Evo w0 w' []) => (hX w' h).1
  have hA7 := hA70 _ hV
  have hM70 := fun (w' : World) (h : Evo w0 w' []) => (hX w' h).2
  have hM7 := hM70 _ hV
  clear hX
  refine Zo (run_ld1 rfl ag_171 η (hA7.cell 0 η)) ?_
  refine Zn asM ?_
  refine r_seq ?_
  refine Zs ?_
  refine Zo mvI ?_
  refine Zn (run_lss rfl η η) ?_
  refine r_cond η (fun hc8 => ?_) (fun hc8 => ?_)
  ·skip
   refine Zs ?_
   refine Zn asI ?_
   refine r_ret (res1 (v := .int _ _) rfl η) ?_
   first | exact ⟨ret_int (by rw [← hch, nth_drop (ss := ss) (k := k) ω, chain_neg ω]), hV⟩ | exact ⟨ret_int (by rw [← hch, nth_drop (ss := ss) (k := k) ω, chain_no ω (fun q => by have h9 := (hKS _).2 q; simp_all)]), hV⟩ | exact ⟨ret_int (by rw [← hch, List.drop_of_length_le ω]; rfl), hV⟩
  refine r_skip ?_
  refine r_seq ?_
  refine r_seq ?_
  have hai : 0 ≤ at1 ∧ at1 < l.length := by rcases hat with h9 | h9 <;> omega
  have hqi := hq _ (getD_in (show at1.toNat < l.length by omega))
  refine r_region ?_
  refine Zo mvM ?_
  refine Zo mvS ?_
  refine Zo mvI ?_
  refine Zo (run_ix (at1.toNat) rfl Tryz.underlying94 ty_96 η η ω ω (hl.addr (i := at1.toNat) ω)) ?_
  have hA90 := fun (w' : World) (h : Evo w0 w' []) => (hl0 w' h).atD (at1.toNat) ω
  have hA9 := hA90 _ hV
  refine Zo (run_fa rfl η fo_96_1) ?_
  refine Zo (run_ld1 rfl ag_9 η (hA9.cell 1 η)) ?_
  refine Zr [S _] rfl η Tryz.func183 (lower_calls (by first | omega | (simp; omega))) ?_
  rintro e w10 ⟨rfl, hE10⟩
  refine ⟨_, rfl, ?_⟩
  have hs_w10 := (hE10).size
  replace hV := evo_step0 hV hE10
  replace hM7 := hM70 _ hV
  obtain ⟨mS, hMS, hKS⟩ := hM7
  refine Zo (run_lookup2 (a := (lowS (l.getD at1.toNat default).text)) (z := ()) (v := .agg _) (key_str Tryz.underlying9) rfl Tryz.underlying171 ty_172 η η hMS rfl) ?_
  refine Zo mvU ?_
  refine Zo (run_extract (v := .agg _) rfl η η) ?_
  refine Zo (run_extract (v := .bool _) rfl η η) ?_
  refine r_var (zs := []) (vs := []) ty_172 η rfl η (fun _ => rfl) η rfl rfl η ?_
  intro b11 w12 heb11 hEw12 hbb11 hzb11
  have hs_w12 := (hEw12).size
  replace hV := evo_step0 hV hEw12
  replace hl := hl0 _ hV
  replace hs := hs0.now hV
  replace hMS := hMS.evo0 hEw12
  refine Zn asB ?_
  refine Zs ?_
  refine Zo (run_mvb rfl η) ?_
  refine Zn (run_not rfl η) ?_
  refine r_cond η (fun hc13 => ?_) (fun hc13 => ?_)
  ·skip
   refine Zs ?_
   refine Zn asI ?_
   refine r_ret (res1 (v := .int _ _) rfl η) ?_
   first | exact ⟨ret_int (by rw [← hch, nth_drop (ss := ss) (k := k) ω, chain_neg ω]), hV⟩ | exact ⟨ret_int (by rw [← hch, nth_drop (ss := ss) (k := k) ω, chain_no ω (fun q => by have h9 := (hKS _).2 q; simp_all)]), hV⟩ | exact ⟨ret_int (by rw [← hch, List.drop_of_length_le ω]; rfl), hV⟩
  refine r_skip ?_
  refine Zs ?_
  refine Zo mvI ?_
  refine Zo (run_add rfl η η ω ω) ?_
  refine Zn asI ?_
  refine r_region ?_
  refine Zo mvS ?_
  refine Zo mvI ?_
  refine Zr [.slice _ _ _, .int _ _] rfl η Tryz.func212 (ttnext_calls hl (i := at1) ω ω) ?_
  rintro e w14 ⟨rfl, hE14⟩
  refine ⟨_, rfl, ?_⟩
  have hs_w14 := (hE14).size
  replace hV := evo_step0 hV hE14
  replace hl := hl0 _ hV
  replace hs := hs0.now hV
  replace hMS := hMS.evo0 hE14
  refine Zn asI ?_
  refine r_blk ?_
  refine r_region ?_
  refine Zo (run_add rfl η η ω ω) ?_
  refine Zn mvI ?_
  refine r_again (k + 1) ?_ ?_ ?_
  ·first | omega | (dsimp only; omega)
  ·refine ⟨_, _, σ, rfl, rfl, δ, (atOk_next ω (by rcases hat with h9 | h9 <;> omega)), (by rw [← hch, nth_drop (ss := ss) (k := k) ω, chain_go ω ((hKS _).1 (by first | exact hc13 | exact Classical.not_not.1 hc13 | simpa [Option.isSome_iff_ne_none] using hc13))]), δ, hV⟩
  exact ψ
 refine r_exit rfl ?_
 refine Zs ?_
 refine Zo mvI ?_
 refine Zn asI ?_
 refine r_ret (res1 (v := .int _ _) rfl η) ?_
 first | exact ⟨ret_int (by rw [← hch, nth_drop (ss := ss) (k := k) ω, chain_neg ω]), hV⟩ | exact ⟨ret_int (by rw [← hch, nth_drop (ss := ss) (k := k) ω, chain_no ω (fun q => by have h9 := (hKS _).2 q; simp_all)]), hV⟩ | exact ⟨ret_int (by rw [← hch, List.drop_of_length_le ω]; rfl), hV⟩
def chainG (l : List Vc.Item) : Int → Int → List (List Str) → Int
  | _, e, [] => e
  | i, _, s :: r => if (i < 0 ∨ ¬ isW (l.getD i.toNat default)) ∨ ¬ lowS (l.getD i.toNat default).text ∈ s then -1 else chainG l (nextT l i.toNat) (i + 1) r
theorem chainG_no {l : List Vc.Item} {i e : Int} {s : List Str} {r : List (List Str)} (h : (i < 0 ∨ ¬ isW (l.getD i.toNat default)) ∨ ¬ lowS (l.getD i.toNat default).text ∈ s) : chainG l i e (s :: r) = -1 := if_pos h
theorem chainG_go {l : List Vc.Item} {i e : Int} {s : List Str} {r : List (List Str)} (h : ¬ ((i < 0 ∨ ¬ isW (l.getD i.toNat default)) ∨ ¬ lowS (l.getD i.toNat default).text ∈ s)) : chainG l i e (s :: r) = chainG l (nextT l i.toNat) (i + 1) r := by
  conv => lhs; unfold chainG
  rw [if_neg h]
end Go.Proofs.YtlfjocbnbceceaaGreatDoor
namespace Go.Vc
open Go Go.RowKit Go.IntWalk
theorem ownE_lit {α : Type} [Enc α] {w : World} {b base : Nat} {E : TypeId} {cs : List Value} (L : List α) (h : Blk w b E cs) (hc : cs = (L.map Enc.enc).flatten) (hb : base ≤ b) (hl : L.length ≤ 10000) : OwnE w base E (.slice (some ⟨b, 0, none⟩) L.length L.length) L := by
  subst hc
  have hall : ∀ cs ∈ L.map (Enc.enc : α → List Value), cs.length = Enc.n α := fun cs hcs => by
    obtain ⟨x, _, rfl⟩ := List.mem_map.1 hcs; exact Enc.len x
  have hfl := flatten_length _ _ hall
  refine ⟨⟨hfl, .inr ⟨b, L.length, _, by rw [List.length_map], hb, h, by simp, by unfold maxLen; omega, ?_, ?_⟩⟩, hall, by rw [List.length_map]; omega⟩
  · rw [List.length_map] at hfl; simpa using hfl
  · show List.take _ ((L.map Enc.enc).flatten.toArray).toList = _
    rw [← hfl]; exact List.take_length
end Go.Vc
namespace Go.Proofs.YtlfjocbnbceceaaGreatDoor
open Go.RowKit Go.Vc
theorem oforms_calls {ao : Option Addr} {b off cap : Nat} {c : List Clas} {p q : Str} {w0 : World} (hc : RowR w0 ao b off cap c) (hen : (endsL c q).length ≤ 4398046510976) (hbe : ∀ k, BdE ((endsL c q).getD k default)) (hp : p.length ≤ 140737488355328) (hq : q.length ≤ 140737488355328) :
    Calls Tryz.prog 208 #[.slice ao c.length cap, (.agg #[S p, S q])] w0 fun e w' => ∃ v, e = .returned v ∧ Evo w0 w' [] ∧ OwnE w' w0.heap.size 9 v (formsC c p q) := by
 refine calls_enter (n := 53) Tryz.func208 rfl Tryz.ntmps208 rfl ?_
 have hV : Evo w0 w0 [] := Evo.refl _ _
 have hc0 := hc.keep
 have hbd_hc := hc.bd
 refine Zs ?_
 refine r_box (vs := [_, _]) η η rfl ?_
 intro b1 w2 heb1 hEw2 hbb1 hzb1
 have hs_w2 := (hEw2).size
 replace hV := evo_step0 hV hEw2
 refine Zn asS ?_
 refine Zs ?_
 refine Zo (run_fa rfl η fo_88_0) ?_
 refine Zo (run_ld1 rfl ag_9 η (hbb1.at.cell 0 η)) ?_
 refine Zr [S _] rfl η Tryz.func183 (lower_calls (by first | omega | (simp; omega))) ?_
 rintro e w3 ⟨rfl, hE3⟩
 refine ⟨_, rfl, ?_⟩
 have hs_w3 := (hE3).size
 replace hV := evo_step0 hV hE3
 replace hbb1 := hbb1.evo0 hE3
 refine Zn asT ?_
 refine r_seq ?_
 refine Zs ?_
 refine Zo mvT ?_
 refine Zn (run_seql rfl η η) ?_
 refine r_cond η (fun hc4 => ?_) (fun hc4 => ?_)
 ·skip
  refine Zs ?_
  refine Zn asS ?_
  refine r_ret (res1 (v := .slice _ _ _) rfl η) ?_
  exact ⟨_, rfl, hV, by rw [forms_nil hc4]; exact OwnE.nil _ _ _⟩
 refine r_skip ?_
 refine Zs ?_
 refine r_makeMap (α := Str) (β := Unit) S (fun _ : Unit => Value.agg #[]) rfl ?_
 intro b5 w6 heb5 hEw6 hmb5 hzb5
 have hs_w6 := (hEw6).size
 replace hV := evo_step0 hV hEw6
 replace hbb1 := hbb1.evo0 hEw6
 refine Zo mvT ?_
 refine Zo (run_bld (pv := []) (zs := []) (cells := []) rfl ty_172 η pl_172 η η) ?_
 refine r_mapins (a := _) (v := ()) (key_str Tryz.underlying9) Tryz.underlying171 η η η hmb5 ?_
 intro w7 hEw7 hzw7 hm_new
 have hs_w7 := (hEw7).size
 replace hV := evo_step1 hV hEw7 ε
 replace hbb1 := hbb1.evo hEw7 θ
 replace hmb5 := hm_new
 clear hm_new
 refine Zo mvM ?_
 refine Zn asM ?_
 refine r_seq ?_
 refine Zs ?_
 refine Zo mvS ?_
 refine Zo (run_fa rfl η fo_88_1) ?_
 refine Zo (run_ld1 rfl ag_9 η (hbb1.at.cell 1 η)) ?_
 refine Zr [.slice _ _ _, S _] rfl η Tryz.func225 (ends_calls hc0 hV) ?_
 rintro e w8 ⟨ao8, b8, off8, cap8, rfl, hE8, hr80⟩
 refine ⟨_, rfl, ?_⟩
 have hs_w8 := (hE8).size
 replace hV := evo_step0 hV hE8
 replace hc := hc0.now hV
 replace hmb5 := hmb5.evo0 hE8
 have hr8 := hr80 _ hV
 have hbd_hr8 := hr8.bd
 refine Zo (run_lenSl rfl η Tryz.underlying108) ?_
 refine Zn mvI ?_
 refine r_block ?_
 refine r_loop (α := Nat) [8, 9, 10, 25, 26, 27, 28, 29, 30, 31, 32, 33, 34, 35, 36, 37, 38, 39, 40, 41, 42, 43, 44, 45, 46, 47, 48, 49, 50] (fun k g w => ∃ m : List (Str × Unit), g 25 = .int .i64 (k : Nat) ∧ k ≤ (if q = [] then ([] : List Ende) else endsL c q).length ∧ MapIs w b5 S (fun _ : Unit => Value.agg #[]) m ∧ KeyIs m (foldF (fun _ => true) (lowS p) fwd ((if q = [] then ([] : List Ende) else endsL c q).take k)) ∧ w8.heap.size ≤ w.heap.size ∧ Evo w0 w []) (fun k => (if q = [] then ([] : List Ende) else endsL c q).length - k) 0 ?_ ?_
 ·refine ⟨_, σ, δ, hmb5, (KeyIs.one _), δ, hV⟩
 rintro k g w10 ⟨m, hj11, hk_k, hmb5, hks, hzl9, hV⟩
 have hs_w10hV := hV.size
 have hlt12 := hmb5.lt
 replace hr8 := hr80 _ hV
 refine Zk 25 (v := .int .i64 (k : Nat)) (by exact hj11) ?_
 have hbk := ends_ifbd hbe k
 have hb1 := hbk.1
 have hb2 := hbk.2
 refine Zs ?_
 refine Zn (run_lss rfl η η) ?_
 refine r_seq ?_
 refine r_cond η (fun hc13 => ?_) (fun hc13 => ?_)
 ·skip
  refine r_skip ?_
  refine r_seq ?_
  refine r_block ?_
  refine Zs ?_
  refine Zo (run_ix (k) rfl Tryz.underlying108 ty_112 η η (by first | exact rfl | omega) ω (hr8.addr (i := k) ω)) ?_
  have hA140 := fun (w' : World) (h : Evo w0 w' []) => (hr80 w' h).atD (k) ω
  have hA14 := hA140 _ hV
  refine Zo (run_ldN rfl ag_112 ty_112 η rfl hA14) ?_
  refine r_var (zs := [_, _]) (vs := [_, _]) ty_112 η rfl η (fun _ => rfl) η rfl rfl η ?_
  intro b15 w16 heb15 hEw16 hbb15 hzb15
  have hs_w16 := (hEw16).size
  replace hV := evo_step0 hV hEw16
  replace hmb5 := hmb5.evo0 hEw16
  refine r_nil ?_
  refine Zs ?_
  refine Zo mvT ?_
  refine Zo (run_fa rfl η fo_112_0) ?_
  refine Zo (run_ld1 rfl ag_9 η (hbb15.at.cell 0 η)) ?_
  refine Zr [S _, S _] rfl η Tryz.func226 (s_cs_calls (by first | omega | (simp; omega)) (by first | omega | (simp; omega))) ?_
  rintro e w17 ⟨rfl, hE17⟩
  refine ⟨_, rfl, ?_⟩
  have hs_w17 := (hE17).size
  replace hV := evo_step0 hV hE17
  replace hc := hc0.now hV
  replace hmb5 := hmb5.evo0 hE17
  replace hbb15 := hbb15.evo0 hE17
  refine Zo mvU ?_
  refine Zo (run_extract (v := S _) rfl η η) ?_
  refine Zo (run_extract (v := .bool _) rfl η η) ?_
  refine Zo asT ?_
  refine Zn asB ?_
  refine r_seq ?_
  have hcl := cut_len (lowS p) ((if q = [] then ([] : List Ende) else endsL c q).getD k default).strip; have hlw := lowS_len p
  refine r_region ?_
  refine Zo (run_mvb rfl η) ?_
  refine Zo mvB ?_
  refine r_g rfl (wantT η) rfl (fun hg => mvT) ?_
  refine r_g rfl (wantT η) rfl (fun hg => run_fa rfl η fo_112_1) ?_
  refine r_g rfl (wantT η) rfl (fun hg => run_ld1 rfl ag_9 (glv η (fun h => h) hg) (hbb15.at.cell 1 η)) ?_
  refine r_g rfl (wantT η) rfl (fun hg => run_sadd rfl (glv η (fun h => h) hg) (glv η (fun h => h) hg) (by first | omega | (simp; done) | (simp; omega))) ?_
  refine r_g rfl (wantT η) rfl (fun hg => run_sneq rfl (glv η (fun h => h) hg) η) ?_
  refine Zn (run_pick_and rfl η (fun hq => glv η (fun h => h) hq) rfl) ?_
  refine r_cond η (fun hc18 => ?_) (fun hc18 => ?_)
  ·skip
   refine r_region ?_
   refine Zo mvM ?_
   refine Zo mvT ?_
   refine Zo (run_fa rfl η fo_112_1) ?_
   refine Zo (run_ld1 rfl ag_9 η (hbb15.at.cell 1 η)) ?_
   refine Zo (run_sadd rfl η η (by first | omega | (simp; done) | (simp; omega))) ?_
   refine Zo (run_bld (pv := []) (zs := []) (cells := []) rfl ty_172 η pl_172 η η) ?_
   refine r_mapset (a := _) (v := ()) (key_str Tryz.underlying9) Tryz.underlying171 η η η hmb5 ?_
   intro w19 hEw19 hzw19 hm_new
   have hs_w19 := (hEw19).size
   replace hV := evo_step1 hV hEw19 ε
   replace hc := hc0.now hV
   replace hmb5 := hm_new
   clear hm_new
   refine r_nil ?_
   refine r_blk ?_
   refine r_region ?_
   refine Zo (run_add rfl η η ω ω) ?_
   refine Zn mvI ?_
   refine r_again (k + 1) ?_ ?_ ?_
   ·first | omega | (dsimp only; omega)
   ·refine ⟨_, σ, δ, hmb5, (by first | exact cut_yes hks ω hc18 | exact cut_no hks ω hc18), δ, hV⟩
   exact ψ
  refine r_skip ?_
  refine r_blk ?_
  refine r_region ?_
  refine Zo (run_add rfl η η ω ω) ?_
  refine Zn mvI ?_
  refine r_again (k + 1) ?_ ?_ ?_
  ·first | omega | (dsimp only; omega)
  ·refine ⟨_, σ, δ, hmb5, (by first | exact cut_yes hks ω hc18 | exact cut_no hks ω hc18), δ, hV⟩
  exact ψ
 refine r_exit rfl ?_
 refine Zs ?_
 refine Zo mvM ?_
 refine Zr [.map _] rfl η Tryz.func227 (sorted_calls hmb5 (key_len hks (fun k => ends_ifbd hbe k) (by rw [lowS_len]; omega)) (by have h9 := key_cnt hks (foldF_sorted _ _ _ _); have h8 := foldF_len (fun _ => true) (lowS p) fwd ((if q = [] then ([] : List Ende) else endsL c q).take k); have h7 : ((if q = [] then ([] : List Ende) else endsL c q).take k).length ≤ (if q = [] then ([] : List Ende) else endsL c q).length := List.length_take_le' _ _; have h6 := ends_iflen hen; omega)) ?_
 rintro e w20 ⟨vs20, rfl, hE20, hsr20⟩
 refine ⟨_, rfl, ?_⟩
 have hs_w20 := (hE20).size
 replace hV := evo_step0 hV hE20
 replace hc := hc0.now hV
 replace hmb5 := hmb5.evo0 hE20
 refine Zn (run_asg (v := vs20) rfl η) ?_
 refine r_ret (res1 (v := vs20) rfl η) ?_
 have e9 : sortS (m.map (·.1)) = formsC c p q := by rw [hks.sorted (foldF_sorted _ _ _ _), forms_if (by assumption), List.take_of_length_le ω]
 exact ⟨_, rfl, hV, by have h9 := hsr20; rw [e9] at h9; exact h9.base_le ω⟩
theorem set_step {m : List (Str × Unit)} {l : List Str} {k : Nat} (hk : k < l.length) (h : ∀ s, (getM m s).isSome = true ↔ s ∈ l.take k) (s : Str) : (getM (setM m (l.getD k default) ()) s).isSome = true ↔ s ∈ l.take (k + 1) := by
  rw [take_succD l k hk, List.mem_append, List.mem_singleton, getM_setM]
  by_cases e : s = l.getD k default
  · simp [e]
  · rw [if_neg (by first | exact e | exact fun q => e q.symm), h s]
    exact ⟨.inl, fun q => q.elim id (fun q => absurd q e)⟩
theorem set_calls {ao : Option Addr} {b off cap : Nat} {l : List Str} {w0 : World} (hl : RowE w0 ao b off cap l) :
    Calls Tryz.prog 190 #[.slice ao l.length cap] w0 fun e w' => ∃ bm, e = .returned (.map (some bm)) ∧ Evo w0 w' [] ∧ SetIs w' bm l ∧ w0.heap.size ≤ bm := by
 refine calls_enter (n := 18) Tryz.func190 rfl Tryz.ntmps190 rfl ?_
 have hV : Evo w0 w0 [] := Evo.refl _ _
 have hl0 := keepE hl
 have hbd_hl := hl.bd
 refine Zs ?_
 refine Zn asM ?_
 refine Zs ?_
 refine r_makeMap (α := Str) (β := Unit) S eU rfl ?_
 intro b1 w2 heb1 hEw2 hmb1 hzb1
 have hs_w2 := (hEw2).size
 replace hV := evo_step0 hV hEw2
 replace hl := hl0 _ hV
 refine Zn asM ?_
 refine r_seq ?_
 refine Zs ?_
 refine Zo mvS ?_
 refine Zo (run_lenSl rfl η Tryz.underlying77) ?_
 refine Zn mvI ?_
 refine r_block ?_
 refine r_loop (α := Nat) [5, 9, 10, 11, 12, 13, 14, 15, 16] (fun k g w => ∃ m : List (Str × Unit), g 9 = .int .i64 (k : Nat) ∧ k ≤ l.length ∧ MapIs w b1 S eU m ∧ (∀ s, (getM m s).isSome = true ↔ s ∈ l.take k) ∧ w2.heap.size ≤ w.heap.size ∧ Evo w0 w []) (fun k => l.length - k) 0 ?_ ?_
 ·refine ⟨_, σ, δ, hmb1, (fun s => by simp [getM]), δ, hV⟩
 rintro k g w4 ⟨m, hj5, hk_k, hmb1, hms, hzl3, hV⟩
 have hs_w4hV := hV.size
 have hlt6 := hmb1.lt
 replace hl := hl0 _ hV
 refine Zk 9 (v := .int .i64 (k : Nat)) (by exact hj5) ?_
 refine Zs ?_
 refine Zn (run_lss rfl η η) ?_
 refine r_seq ?_
 refine r_cond η (fun hc7 => ?_) (fun hc7 => ?_)
 ·skip
  refine r_skip ?_
  refine r_seq ?_
  refine r_block ?_
  refine Zs ?_
  refine Zo (run_ix (k) rfl Tryz.underlying77 ty_9 η η (by first | exact rfl | omega) ω (hl.addr (i := k) ω)) ?_
  have hA80 := fun (w' : World) (h : Evo w0 w' []) => (hl0 w' h).atD (k) ω
  have hA8 := hA80 _ hV
  refine Zo (run_ld1 rfl ag_9 η (hA8.cell 0 η)) ?_
  refine Zn asT ?_
  refine r_region ?_
  refine Zo mvM ?_
  refine Zo mvT ?_
  refine Zo (run_bld (pv := []) (zs := []) (cells := []) rfl ty_172 η pl_172 η η) ?_
  refine r_mapset (a := _) (v := ()) (key_str Tryz.underlying9) Tryz.underlying171 η η η hmb1 ?_
  intro w9 hEw9 hzw9 hm_new
  have hs_w9 := (hEw9).size
  replace hV := evo_step1 hV hEw9 ε
  replace hl := hl0 _ hV
  replace hmb1 := hm_new
  clear hm_new
  refine r_nil ?_
  refine r_blk ?_
  refine r_region ?_
  refine Zo (run_add rfl η η ω ω) ?_
  refine Zn mvI ?_
  refine r_again (k + 1) ?_ ?_ ?_
  ·first | omega | (dsimp only; omega)
  ·refine ⟨_, σ, δ, hmb1, (set_step ω hms), δ, hV⟩
  exact ψ
 refine r_exit rfl ?_
 refine Zs ?_
 refine Zo mvM ?_
 refine Zn asM ?_
 refine r_ret (res1 (v := .map _) rfl η) ?_
 exact ⟨_, rfl, hV, ⟨m, hmb1, fun s => by rw [hms s, List.take_of_length_le ω]⟩, by omega⟩
theorem ag_83 : aggP Tryz.prog 83 = some false := by kernel_rfl
theorem ag_88 : aggP Tryz.prog 88 = some true := by kernel_rfl
theorem fo_85_0 : fieldP Tryz.prog 85 0 = some 0 := by kernel_rfl
theorem ty_88 : tyP Tryz.prog 88 = some (2, 32, some (.agg #[(.string ⟨#[]⟩), (.string ⟨#[]⟩)])) := by kernel_rfl
def formsT (c : List Clas) (ws : List Ende) : List (List Str) := ws.map (fun y => formsC c y.strip y.add)
theorem formsT_succ {c : List Clas} {ws : List Ende} {k : Nat} (hk : k < ws.length) : formsT c (ws.take (k + 1)) = formsT c (ws.take k) ++ [formsC c (ws.getD k default).strip (ws.getD k default).add] := by
  unfold formsT; rw [take_succD ws k hk, List.map_append]; rfl
theorem formsT_len (c : List Clas) (ws : List Ende) : (formsT c ws).length = ws.length := by unfold formsT; rw [List.length_map]
theorem ende_getD {ws : List Ende} (h : ∀ y ∈ ws, BdE y) (k : Nat) : BdE (ws.getD k default) := by
  rcases Nat.lt_or_ge k ws.length with h1 | h1
  · exact h _ (getD_in h1)
  · rw [List.getD_eq_getElem?_getD, List.getElem?_eq_none h1]; exact ⟨Nat.zero_le _, Nat.zero_le _⟩
end Go.Proofs.YtlfjocbnbceceaaGreatDoor
namespace Go.Proofs.YtlfjocbnbceceaaGreatDoor
open Go Go.RowKit Go.Vc
structure Spt where
  t : Int
  fr : Int
  to : Int
deriving DecidableEq, Inhabited
instance : Enc Spt := ⟨3, fun x => [.int .i64 x.t, .int .i64 x.fr, .int .i64 x.to], fun _ => rfl, fun _ => rfl, by decide⟩
section
variable (l : List Vc.Item)
theorem chainFG : ∀ (ss : List (List Str)) (i e : Int), i < l.length → (i < 0 ∨ isW (l.getD i.toNat default)) → chainF l i e ss = chainG l i e ss
  | [], _, _, _, _ => rfl
  | s :: r, i, e, hl, h => by
    by_cases h0 : i < 0
    · rw [chain_neg h0, chainG_no (.inl (.inl h0))]
    · have hw : isW (l.getD i.toNat default) := h.resolve_left h0
      by_cases h2 : lowS (l.getD i.toNat default).text ∈ s
      · rw [chain_go h0 h2, chainG_go (by rintro ((q | q) | q); exact h0 q; exact q hw; exact q h2)]
        rcases nextT_bd (l := l) (i := i.toNat) ω with h3 | ⟨h3, h4, h5⟩
        · exact chainFG r _ _ ω (.inl ω)
        · exact chainFG r _ _ h4 (.inr h5)
      · rw [chain_no h0 h2, chainG_no (.inr h2)]
theorem chainG_bd : ∀ (ss : List (List Str)) (i e : Int), i < l.length → chainG l i e ss = -1 ∨ chainG l i e ss = e ∨ (i + 1 ≤ chainG l i e ss ∧ chainG l i e ss ≤ l.length)
  | [], _, _, _ => .inr (.inl rfl)
  | s :: r, i, e, hl => by
    by_cases h : (i < 0 ∨ ¬ isW (l.getD i.toNat default)) ∨ ¬ lowS (l.getD i.toNat default).text ∈ s
    · exact .inl (chainG_no h)
    · rw [chainG_go h]
      have h0 : ¬ i < 0 := fun q => h (.inl (.inl q))
      rcases nextT_bd (l := l) (i := i.toNat) ω with h3 | ⟨h3, h4, h5⟩
      · rcases chainG_bd r (nextT l i.toNat) (i + 1) ω with h6 | h6 | ⟨h6, h7⟩
        · exact .inl h6
        · exact .inr (.inr ⟨by omega, by omega⟩)
        · cases r with
          | nil => exact .inr (.inr ⟨by show i + 1 ≤ i + 1; omega, by show i + 1 ≤ _; omega⟩)
          | cons s2 r2 => exact .inl (chainG_no (.inl (.inl ω)))
      · rcases chainG_bd r (nextT l i.toNat) (i + 1) h4 with h6 | h6 | ⟨h6, h7⟩
        · exact .inl h6
        · exact .inr (.inr ⟨by omega, by omega⟩)
        · exact .inr (.inr ⟨by omega, h7⟩)
def cT (i : Nat) (ss : List (List Str)) : Int := chainG l i (-1) ss
theorem cT_no {i : Nat} (h : ¬ isW (l.getD i default)) (ss : List (List Str)) : cT l i ss = -1 := by
  unfold cT
  cases ss with
  | nil => rfl
  | cons s r => exact chainG_no (.inl (.inr (by simpa using h)))
theorem cT_bd {i : Nat} (hi : i < l.length) (ss : List (List Str)) : cT l i ss = -1 ∨ ((i : Int) + 1 ≤ cT l i ss ∧ cT l i ss ≤ l.length) := by
  rcases chainG_bd l ss i (-1) ω with h | h | h
  · exact .inl h
  · exact .inl h
  · exact .inr h
variable (fs : List (List (List Str)))
def longer (o : Option (Nat × Int)) (k : Nat) : Bool := o.all fun q => decide ((fs.getD q.1 default).length < (fs.getD k default).length)
def bestK (i : Nat) : Nat → Option (Nat × Int)
  | 0 => none
  | k + 1 => if 0 ≤ cT l i (fs.getD k default) ∧ longer fs (bestK i k) k = true then some (k, cT l i (fs.getD k default)) else bestK i k
theorem best_yes {i k : Nat} (h : 0 ≤ cT l i (fs.getD k default) ∧ longer fs (bestK l fs i k) k = true) : bestK l fs i (k + 1) = some (k, cT l i (fs.getD k default)) := if_pos h
theorem best_no {i k : Nat} (h : ¬ (0 ≤ cT l i (fs.getD k default) ∧ longer fs (bestK l fs i k) k = true)) : bestK l fs i (k + 1) = bestK l fs i k := if_neg h
theorem best_none {i : Nat} (h : ¬ isW (l.getD i default)) : ∀ k, bestK l fs i k = none
  | 0 => rfl
  | k + 1 => by rw [best_no l fs (by rw [cT_no l h]; omega)]; exact best_none h k
theorem best_bd {i : Nat} (hi : i < l.length) : ∀ (k : Nat) (q : Nat × Int), bestK l fs i k = some q → q.1 < k ∧ (i : Int) + 1 ≤ q.2 ∧ q.2 ≤ l.length ∧ q.2 = cT l i (fs.getD q.1 default)
  | 0, q, h => by cases h
  | k + 1, q, h => by
    by_cases h1 : 0 ≤ cT l i (fs.getD k default) ∧ longer fs (bestK l fs i k) k = true
    · rw [best_yes l fs h1] at h
      cases h
      rcases cT_bd l hi (fs.getD k default) with h2 | h2
      · omega
      · exact ⟨Nat.lt_succ_self _, h2.1, h2.2, rfl⟩
    · rw [best_no l fs h1] at h
      have := best_bd hi k q h
      exact ⟨by omega, this.2⟩
def bestI (o : Option (Nat × Int)) : Int × Int := match o with | none => (-1, -1) | some q => ((q.1 : Int), q.2)
def bestF (i : Nat) (o : Option (Nat × Int)) : Int := match o with | none => 0 | some _ => (i : Int)
def bestE (o : Option (Nat × Int)) : Int := match o with | none => 0 | some q => q.2
theorem longer_iff (o : Option (Nat × Int)) (k : Nat) : longer fs o k = true ↔ ((bestI o).1 < 0 ∨ (fs.getD (bestI o).1.toNat default).length < (fs.getD k default).length) := by
  cases o with
  | none => simp [longer, bestI]
  | some q =>
    have h : ¬ ((q.1 : Nat) : Int) < 0 := by omega
    simp only [longer, bestI, Option.all_some, decide_eq_true_eq, h, false_or, Int.toNat_natCast]
def spotsG : Nat → Nat → List Spt
  | 0, _ => []
  | n + 1, i => match bestK l fs i fs.length with
    | none => spotsG n (i + 1)
    | some q => ⟨(q.1 : Int), i, q.2⟩ :: spotsG n q.2.toNat
def spotsF (i : Nat) : List Spt := spotsG l fs (l.length - i) i
theorem spotsG_out : ∀ (n i : Nat), l.length ≤ i → spotsG l fs n i = []
  | 0, _, _ => rfl
  | n + 1, i, h => by
    have hb := best_none l fs (i := i) (by rw [List.getD_eq_getElem?_getD, List.getElem?_eq_none h]; decide) fs.length
    unfold spotsG
    rw [hb]
    exact spotsG_out n (i + 1) ω
theorem spotsG_more : ∀ (n m i : Nat), l.length - i ≤ n → l.length - i ≤ m → spotsG l fs n i = spotsG l fs m i
  | 0, m, i, h1, h2 => by rw [spotsG_out l fs 0 i ω, spotsG_out l fs m i ω]
  | n + 1, 0, i, h1, h2 => by rw [spotsG_out l fs _ i ω, spotsG_out l fs _ i ω]
  | n + 1, m + 1, i, h1, h2 => by
    rcases Nat.lt_or_ge i l.length with hi | hi
    · unfold spotsG
      cases hb : bestK l fs i fs.length with
      | none => exact spotsG_more n m (i + 1) ω ω
      | some q =>
        have h3 := best_bd l fs hi _ _ hb
        exact congrArg _ (spotsG_more n m q.2.toNat ω ω)
    · rw [spotsG_out l fs _ i hi, spotsG_out l fs _ i hi]
theorem spots_none {i : Nat} (hi : i < l.length) (h : bestK l fs i fs.length = none) : spotsF l fs i = spotsF l fs (i + 1) := by
  unfold spotsF
  obtain ⟨n, hn⟩ : ∃ n, l.length - i = n + 1 := ⟨l.length - i - 1, by omega⟩
  rw [hn]
  conv => lhs; unfold spotsG
  rw [h]
  exact spotsG_more l fs _ _ _ ω ω
theorem spots_some {i : Nat} (hi : i < l.length) {q : Nat × Int} (h : bestK l fs i fs.length = some q) : spotsF l fs i = ⟨(q.1 : Int), i, q.2⟩ :: spotsF l fs q.2.toNat := by
  have h3 := best_bd l fs hi _ _ h
  unfold spotsF
  obtain ⟨n, hn⟩ : ∃ n, l.length - i = n + 1 := ⟨l.length - i - 1, by omega⟩
  rw [hn]
  conv => lhs; unfold spotsG
  rw [h]
  exact congrArg _ (spotsG_more l fs _ _ _ ω ω)
theorem spots_end {i : Nat} (h : l.length ≤ i) : spotsF l fs i = [] := spotsG_out l fs _ i h
end
theorem bestI_none {o : Option (Nat × Int)} (h : (bestI o).1 < 0) : o = none := by
  cases o with
  | none => rfl
  | some q => exact absurd h (by show ¬ ((q.1 : Nat) : Int) < 0; omega)
theorem ag_85 : aggP Tryz.prog 85 = some true := by kernel_rfl
theorem pl_187 : placesP Tryz.prog 187 = some [(0, 1), (1, 1), (2, 1)] := by kernel_rfl
theorem ty_187 : tyP Tryz.prog 187 = some (3, 24, some (.agg #[(.int .i64 0), (.int .i64 0), (.int .i64 0)])) := by kernel_rfl
theorem ty_85 : tyP Tryz.prog 85 = some (3, 72, some (.agg #[(.slice none 0 0), (.slice none 0 0), (.slice none 0 0)])) := by kernel_rfl
def fsT (c : List Clas) (ts : List TermL) : List (List (List Str)) := ts.map (fun t => formsT c t.words)
theorem fsT_len (c : List Clas) (ts : List TermL) : (fsT c ts).length = ts.length := by unfold fsT; rw [List.length_map]
theorem fsT_get {c : List Clas} {ts : List TermL} {k : Nat} (h : k < ts.length) : (fsT c ts).getD k default = formsT c (ts.getD k default).words := by
  unfold fsT; simp [List.getD, h]
theorem fsT_glen {c : List Clas} {ts : List TermL} {k : Nat} (h : k < ts.length) : ((fsT c ts).getD k default).length = (ts.getD k default).words.length := by rw [fsT_get h, formsT_len]
theorem termD_bd {ts : List TermL} (h : ∀ x ∈ ts, x.words.length ≤ 4398046510976 ∧ ∀ y ∈ x.words, BdE y) (k : Nat) : (ts.getD k default).words.length ≤ 4398046510976 ∧ ∀ y ∈ (ts.getD k default).words, BdE y := by
  rcases Nat.lt_or_ge k ts.length with h1 | h1
  · exact h _ (getD_in h1)
  · rw [List.getD_eq_getElem?_getD, List.getElem?_eq_none h1]; exact ⟨Nat.zero_le _, fun y hy => by cases hy⟩
theorem bestI_lt {l : List Vc.Item} {fs : List (List (List Str))} {i k n : Nat} (hi : i < l.length) (hk : k ≤ n) (hn : 0 < n) : (bestI (bestK l fs i k)).1.toNat < n := by
  cases h : bestK l fs i k with
  | none => exact hn
  | some q => have := (best_bd l fs hi k q h).1; show ((q.1 : Nat) : Int).toNat < n; omega
theorem bestI_bd {l : List Vc.Item} {fs : List (List (List Str))} {i k : Nat} (hi : i < l.length) : -1 ≤ (bestI (bestK l fs i k)).1 ∧ (bestI (bestK l fs i k)).1 < (k : Int) + 0 ∨ (bestI (bestK l fs i k)).1 = -1 := by
  cases h : bestK l fs i k with
  | none => exact .inr rfl
  | some q => have := (best_bd l fs hi k q h).1; exact .inl ⟨by show -1 ≤ ((q.1 : Nat) : Int); omega, by show ((q.1 : Nat) : Int) < _; omega⟩
end Go.Proofs.YtlfjocbnbceceaaGreatDoor
namespace Go.Vc
open Go Go.RowKit Go.IntWalk
def FRow (w : World) (bt : Nat) (v : Value) (l : List (List Str)) : Prop := ∀ w', Evo w w' [bt] → ∃ ao b off cap, v = .slice ao (l.map SetS.mk).length cap ∧ RowR w' ao b off cap (l.map SetS.mk)
theorem FRow.evo {w w' : World} {bt : Nat} {v : Value} {l : List (List Str)} (h : FRow w bt v l) (he : Evo w w' [bt]) : FRow w' bt v l := fun w2 h2 => h w2 (Evo.trans he h2 (fun x hx _ => hx))
theorem FRow.of {w : World} {base E bt : Nat} {v : Value} {l : List (List Str)} (h : OwnR w base E [bt] v (l.map SetS.mk)) (hb : bt < base) : FRow w bt v l := fun w' he => by
  obtain ⟨ao, g, cap, hv, hr⟩ := (h.evoY he (fun y hy => by have e : y = bt := (by simpa using hy); omega)).rowOf
  exact ⟨ao, g, 0, cap, hv, hr⟩
theorem nth_mk (l : List (List Str)) : (l.map SetS.mk).map (·.ks) = l := by rw [List.map_map]; exact List.map_id' l
section
variable {P : Program} {n : Nat} {f : Fr} {w : World}
theorem Kx_goto {B : Exit → Act → World → Prop} (hB : ∀ i a w, ¬ B (.goto i) a w) {i : Nat} {a : Act} {w : World} : ∀ k : List Kont, ¬ Kx P B k (.goto i) a w
  | [], h => hB i a w h
  | .code _ :: k, h => Kx_goto hB k h
  | .blk _ :: k, h => Kx_goto hB k h
  | .stop _ :: k, h => Kx_goto hB k h
theorem r_scope {fn : Func} {R : Ending → World → Prop} {c : Code} {k : List Kont} (h : KF P (bodyPost P fn R) n (.code c :: k) f w) : KF P (bodyPost P fn R) n (.code (.scope c) :: k) f w := by
  intro a ha
  show (Code.scope c).wp P (Kx P (bodyPost P fn R) k) a w
  refine wp_scope_straight (wp_mono (h a ha) fun e a w hq => ?_)
  cases e with
  | goto i => exact (Kx_goto (P := P) (fun _ _ _ h => h) k hq).elim
  | normal => exact hq
  | exit i => exact hq
  | ret => exact hq
  | panic c => exact hq
  | outgrown => exact hq
theorem r_label {B : Exit → Act → World → Prop} {l : Nat} {k : List Kont} (h : KF P B n k f w) : KF P B n (.code (.label l) :: k) f w := fun a ha => wp_label (h a ha)
end
theorem rowLitRK {α : Type} [Rep α] {w : World} {b : Nat} {T : TypeId} {cs : List Value} {x : α} (E : List Nat) (h : Blk w b T cs) (hb : b ∉ E) (hr : ∀ w', Evo w w' E → Rep.rep w' cs x) : RowRK w E (some ⟨b, 0, none⟩) b 0 1 [x] := by
  refine ⟨[cs], fun w' he => ⟨⟨by simp, fun _ => rfl, fun i c hi => ?_⟩, RepL.one (hr w' he)⟩⟩
  cases i with
  | zero =>
    simp at hi; subst hi
    refine ⟨Rep.len (hr w' he), ?_⟩
    have := (h.evo he hb).at
    simpa using this
  | succ i => simp at hi
section
variable {P : Program} {B : Exit → Act → World → Prop} {n : Nat} {k : List Kont} {f : Fr} {w : World} {ops : Array Oper} {rest : List Oper}
theorem r_makeB {T E d m bb len : Nat} {t : TypeId} {pos : String} {aft : Array Edge} {x y : Operand} {z : Value} {zs : List Value} {κ κ' : IntKind} {i j : Int}
    (hu : P.underlying T = some (.slice E)) (ht : tyP P E = some (m, bb, some z)) (hz : z.cells = zs.toArray) (hm : (Nat.beq zs.length m && Nat.ble 1 m) = true) (hd : Nat.blt d n = true)
    (hx : opv f x = .int κ i) (hy : opv f y = .int κ' j) (hi : i = (len : Int)) (hj : j = (len : Int)) (hlen : len ≤ 140737488355328) (hb : bb * len ≤ 281474976710656)
    (h : ∀ b w', b = w.heap.size → Evo w w' [] → FB w' b E m len (fun _ => zs) → w'.heap.size = b + 1 → KL P B n ops k rest (upd f d (.slice (some ⟨b, 0, none⟩) len len)) w') :
    KL P B n ops k (⟨some d, .makeSlice T x y, t, pos, aft, none⟩ :: rest) f w := by
  simp only [Bool.and_eq_true, Nat.ble_eq] at hm
  have hzl := Nat.eq_of_beq_eq_true hm.1
  obtain ⟨it, hit, h1, h2, h3⟩ := info_of ht
  have hll : len ≤ len * m := Nat.le_mul_of_pos_right len ω
  have hbb : (bb : Int) * (len : Int) = ((bb * len : Nat) : Int) := by simp
  have hrun := run_make (P := P) w T E it z hu hit h3 κ κ' (len : Int) (len : Int) ω (Int.le_refl _) (by rw [h2, hbb]; omega) ω
  simp only [Int.toNat_natCast, h1] at hrun
  rw [madeCells_flat hz hzl ω len] at hrun
  refine r_op (v := .slice (some ⟨w.heap.size, 0, none⟩) len len) (w' := w.alloc (.cells (flat len (fun _ => zs)).toArray E)) rfl rfl hd ?_ (h _ _ rfl (Evo.alloc _ _ _) ⟨heap_alloc_new w _, fun _ => hzl⟩ (by simp))
  subst hi
  subst hj
  simp [execOp, hx, hy, hrun]
end
end Go.Vc
