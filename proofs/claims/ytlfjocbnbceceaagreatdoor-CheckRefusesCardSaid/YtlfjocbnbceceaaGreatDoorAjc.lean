/-
  Library, plain laws and walks that the statements reach (joined by a program out of smaller texts).
-/
import Derived.Test.YtlfjocbnbceceaaGreatDoorAjb
import Derived.Test.YtlfjocbnbceceaaGreatDoorAja
set_option linter.unusedVariables false
set_option linter.unusedSimpArgs false
namespace Go.Proofs.YtlfjocbnbceceaaGreatDoor
open Go.RowKit Go.Vc
theorem istag_calls {x : Vc.Item} {w0 : World}  :
    Calls Tryz.prog 90 #[.agg (Enc.enc x).toArray] w0 fun e w' => e = .returned (.bool (isTag x)) ∧ Evo w0 w' [] := by
 refine calls_enter (n := 16) Tryz.func90 rfl Tryz.ntmps90 rfl ?_
 have hV : Evo w0 w0 [] := Evo.refl _ _
 refine Zs ?_
 refine r_box (vs := [_, _, _]) η η rfl ?_
 intro b1 w2 J1 E2 B1 Y1
 have Q2 := E2.size
 replace hV := Z0 hV E2
 refine Zn asB ?_
 refine Zs ?_
 refine Zo (run_fa rfl η fo_32_0) ?_
 refine Zo (run_ld1 rfl ag_3 η (B1.at.cell 0 η)) ?_
 refine Zo (run_eql rfl η η) ?_
 refine Zo mvB ?_
 refine r_g rfl (wantF η) rfl (fun hg => run_fa rfl η fo_32_0) ?_
 refine r_g rfl (wantF η) rfl (fun hg => run_ld1 rfl ag_3 (glv η (fun h => h) hg) (B1.at.cell 0 η)) ?_
 refine r_g rfl (wantF η) rfl (fun hg => run_eql rfl (glv η (fun h => h) hg) η) ?_
 refine Zo (run_pick_or rfl η rfl (fun hq => glv η (fun h => h) hq)) ?_
 refine Zo mvB ?_
 refine r_g rfl (wantF η) rfl (fun hg => run_fa rfl η fo_32_0) ?_
 refine r_g rfl (wantF η) rfl (fun hg => run_ld1 rfl ag_3 (glv η (fun h => h) hg) (B1.at.cell 0 η)) ?_
 refine r_g rfl (wantF η) rfl (fun hg => run_eql rfl (glv η (fun h => h) hg) η) ?_
 refine Zo (run_pick_or rfl η rfl (fun hq => glv η (fun h => h) hq)) ?_
 refine Zn asB ?_
 refine r_ret (res1 (v := .bool _) rfl η) ?_
 exact ⟨ret_bool (by rw [Bool.eq_iff_iff, decide_eq_true_iff, isTag_iff]), hV⟩
theorem ei_32 : ∀ (w : World) (x y : Vc.Item), (Op.equalIn 10000 32 (.agg (Enc.enc x).toArray) (.agg (Enc.enc y).toArray)).run Tryz.prog w = .ok (decide (x = y)) w := fun w x y => equalIn_item 9998 Tryz.underlying32 Tryz.stoodInHeld32 (by decide) (by decide) (by decide) rfl rfl rfl Tryz.underlying3 Tryz.underlying9 Tryz.underlying3 ag_3 ag_9 ag_3 x y
theorem itake_bothI {α : Type} [Inhabited α] {a b : List α} {k : Nat} (hp : a.take k = b.take k) (ha : k < a.length) (hb : k < b.length) (h : a.getD k default = b.getD k default) : a.take (k + 1) = b.take (k + 1) := by
  rw [take_succD a k ha, take_succD b k hb, hp, h]
theorem same_calls {aoa aob : Option Addr} {ba offa capa bb offb capb : Nat} {a b : List Vc.Item} {w0 : World} (ha : RowE w0 aoa ba offa capa a) (hb : RowE w0 aob bb offb capb b) :
    Calls Tryz.prog 27 #[.slice aoa a.length capa, .slice aob b.length capb] w0 fun e w' => e = .returned (.bool (decide (a = b))) ∧ Evo w0 w' [] := by
 refine calls_enter (n := 26) Tryz.func27 rfl Tryz.ntmps27 rfl ?_
 have hV : Evo w0 w0 [] := Evo.refl _ _
 have ha0 := keepE ha
 have hbd_ha := ha.bd
 have hb0 := keepE hb
 have hbd_hb := hb.bd
 refine Zs ?_
 refine Zn asB ?_
 refine r_seq ?_
 refine Zs ?_
 refine Zo mvS ?_
 refine Zo (run_lenSl rfl η Tryz.underlying33) ?_
 refine Zo mvS ?_
 refine Zo (run_lenSl rfl η Tryz.underlying33) ?_
 refine Zn (run_neq rfl η η) ?_
 refine r_cond η (fun hc1 => ?_) (fun hc1 => ?_)
 ·skip
  refine Zs ?_
  refine Zn asB ?_
  refine r_ret (res1 (v := .bool _) rfl η) ?_
  exact ⟨by rw [decide_eq_false (fun h => by subst h; omega)], hV⟩
 refine r_skip ?_
 refine r_seq ?_
 refine Zs ?_
 refine Zo mvS ?_
 refine Zo (run_lenSl rfl η Tryz.underlying33) ?_
 refine Zn mvI ?_
 refine r_block ?_
 refine r_loop (α := Nat) [4, 5, 13, 14, 15, 16, 17, 18, 19, 20, 21, 22, 23, 24, 25] (fun k g w => g 13 = .int .i64 (k : Nat) ∧ k ≤ a.length ∧ a.take k = b.take k ∧ w0.heap.size ≤ w.heap.size ∧ Evo w0 w []) (fun k => a.length - k) 0 ?_ ?_
 ·refine ⟨σ, δ, (by simp), δ, hV⟩
 rintro k g w3 ⟨hj4, hk_k, hpre, hzl2, hV⟩
 have hs_w3hV := hV.size
 replace ha := ha0 _ hV
 replace hb := hb0 _ hV
 refine Zk 13 (v := .int .i64 (k : Nat)) (by exact hj4) ?_
 refine Zs ?_
 refine Zn (run_lss rfl η η) ?_
 refine r_seq ?_
 refine r_cond η (fun hc5 => ?_) (fun hc5 => ?_)
 ·skip
  refine r_skip ?_
  refine r_seq ?_
  refine r_block ?_
  refine Zs ?_
  refine Zo mvI ?_
  refine Zn asI ?_
  refine r_seq ?_
  refine r_qregion ζ ζ ?_
  refine Zq (fun w' hC => mvS) ?_
  refine Zq (fun w' hC => mvI) ?_
  refine Zq (fun w' hC => run_ix (k) rfl Tryz.underlying33 ty_32 η η (by first | exact rfl | omega) ω (ha.addr (i := k) ω)) ?_
  have hA60 := fun (w' : World) (h : Evo w0 w' []) => (ha0 w' h).atD (k) ω
  have hA6 := hA60 _ hV
  refine Zq (fun w' hC => run_ldN rfl ag_32 ty_32 η rfl (hA6.evo0 hC)) ?_
  refine Zq (fun w' hC => mvS) ?_
  refine Zq (fun w' hC => mvI) ?_
  refine Zq (fun w' hC => run_ix (k) rfl Tryz.underlying33 ty_32 η η (by first | exact rfl | omega) ω (hb.addr (i := k) ω)) ?_
  have hA70 := fun (w' : World) (h : Evo w0 w' []) => (hb0 w' h).atD (k) ω
  have hA7 := hA70 _ hV
  refine Zq (fun w' hC => run_ldN rfl ag_32 ty_32 η rfl (hA7.evo0 hC)) ?_
  refine Zq (fun w' hC => run_neqI _ _ rfl Tryz.eqGuardType32 ei_32 η η) ?_
  refine q_nil (fun w8 F9 => ?_)
  have Q8 := F9.size
  replace hV := Z0 hV F9
  replace ha := ha0 _ hV
  replace hb := hb0 _ hV
  refine r_cond η (fun hc10 => ?_) (fun hc10 => ?_)
  ·skip
   refine Zs ?_
   refine Zn asB ?_
   refine r_ret (res1 (v := .bool _) rfl η) ?_
   exact ⟨by rw [decide_eq_false (fun h => by subst h; exact hc10 rfl)], hV⟩
  refine r_skip ?_
  refine r_blk ?_
  refine r_region ?_
  refine Zo (run_add rfl η η ω ω) ?_
  refine Zn mvI ?_
  refine r_again (k + 1) ?_ ?_ ?_
  ·first | omega | (dsimp only; omega)
  ·refine ⟨σ, δ, (itake_bothI hpre ω ω (Classical.not_not.1 hc10)), δ, hV⟩
  exact ψ
 refine r_exit rfl ?_
 refine Zs ?_
 refine Zn asB ?_
 refine r_ret (res1 (v := .bool _) rfl η) ?_
 exact ⟨by rw [decide_eq_true (by rw [List.take_of_length_le ω, List.take_of_length_le ω] at hpre; exact hpre)], hV⟩
def KF : List Vc.Item := [⟨2, [98], 1⟩, ⟨1, [97, 98], 0⟩, ⟨3, [98], 1⟩]
theorem kf_small : Small KF := by unfold Small; decide +kernel
theorem pl_32 : placesP Tryz.prog 32 = some [(0, 1), (1, 1), (2, 1)] := ζ
theorem normalize_calls {ao : Option Addr} {b off cap : Nat} {f : List Vc.Item} {w0 : World} (hf : RowE w0 ao b off cap f) (hsm : Small f) :
    Calls Tryz.prog 51 #[.slice ao f.length cap] w0 fun e w' => ∃ v, e = .returned v ∧ Evo w0 w' [] ∧ OwnE w' w0.heap.size 32 v (normL f) := by
 have hs1 := hsm.1; have hs2 := hsm.2
 refine calls_enter (n := 56) Tryz.func51 rfl Tryz.ntmps51 rfl ?_
 have hV : Evo w0 w0 [] := Evo.refl _ _
 have hf0 := keepE hf
 have hbd_hf := hf.bd
 refine Zs ?_
 refine Zn asS ?_
 refine Zs ?_
 refine Zn asS ?_
 refine r_seq ?_
 refine Zs ?_
 refine Zn asI ?_
 refine r_block ?_
 refine r_loop (α := Nat) [3, 4, 5, 6, 7, 8, 9, 10, 11, 12, 13, 14, 15, 16, 17, 18, 19, 20, 21, 22, 23, 24, 25, 26, 27, 28, 29, 30, 31, 32, 33, 34, 35, 36, 37, 38, 39, 40, 41, 42, 43, 44, 45, 46, 47, 48, 49, 50, 51, 52, 53, 54] (fun i0 g w => ∃ vo : Value, g 4 = .int .i64 (i0 : Nat) ∧ g 3 = vo ∧ OwnE w w0.heap.size 32 vo (normL (f.take i0)) ∧ i0 ≤ f.length ∧ (i0 < f.length → (f.getD i0 default).kind = 1 → lastNT (normL (f.take i0))) ∧ w0.heap.size ≤ w.heap.size ∧ Evo w0 w []) (fun i0 => f.length - i0) 0 ?_ ?_
 ·refine ⟨_, σ, rfl, (OwnE.nil _ _ _), δ, (fun _ _ => lastNT_nil), δ, hV⟩
 rintro i0 g w2 ⟨vo, hj3, hj4, hoo, hi0, hnt, hzl1, hV⟩
 have hs_w2hV := hV.size
 replace hf := hf0 _ hV
 refine Zk 4 (v := .int .i64 (i0 : Nat)) (by exact hj3) ?_
 refine Zk 3 (v := vo) (by exact hj4) ?_
 refine r_seq ?_
 refine Zs ?_
 refine Zo mvI ?_
 refine Zo mvS ?_
 refine Zo (run_lenSl rfl η Tryz.underlying33) ?_
 refine Zn (run_lss rfl η η) ?_
 refine r_cond η (fun hc5 => ?_) (fun hc5 => ?_)
 ·skip
  refine r_skip ?_
  refine r_block ?_
  refine r_seq ?_
  refine r_seq ?_
  have hn1 := normL_len (f.take i0); have hn2 : (f.take i0).length ≤ i0 := List.length_take_le _ _; have hn3 := sizeL_take f i0; have hn4 := sizeL_at f i0
  refine r_region ?_
  refine Zo mvS ?_
  refine Zo mvI ?_
  refine Zo (run_ix (i0) rfl Tryz.underlying33 ty_32 η η (by first | exact rfl | omega) ω (hf.addr (i := i0) ω)) ?_
  have hA60 := fun (w' : World) (h : Evo w0 w' []) => (hf0 w' h).atD (i0) ω
  have hA6 := hA60 _ hV
  refine Zo (run_fa rfl η fo_32_0) ?_
  refine Zo (run_ld1 rfl ag_3 η (hA6.cell 0 η)) ?_
  refine Zn (run_neq rfl η η) ?_
  refine r_cond η (fun hc7 => ?_) (fun hc7 => ?_)
  ·skip
   refine Zs ?_
   refine Zo (run_mv (v := vo) rfl η) ?_
   refine Zo mvS ?_
   refine Zo mvI ?_
   refine Zo (run_ix (i0) rfl Tryz.underlying33 ty_32 η η (by first | exact rfl | omega) ω (hf.addr (i := i0) ω)) ?_
   have hA80 := fun (w' : World) (h : Evo w0 w' []) => (hf0 w' h).atD (i0) ω
   have hA8 := hA80 _ hV
   refine Zo (run_ldN rfl ag_32 ty_32 η rfl hA8) ?_
   refine r_append1E (u := .agg _) (y := ⟨_, _, _⟩) rfl rfl Tryz.underlying33 ty_32 η hoo (fun _ => η) η (by first | exact rfl | (show _ = List.toArray [_, _, _]; first | (dsimp only; done) | exact rfl | (dsimp only; exact rfl))) ((by first | omega | (simp; omega))) ((by first | omega | (simp; omega))) ω ?_
   intro q_v9 v9 w10 E10 hov9 hlv9
   have Q10 := E10.size
   replace hV := evo_stepo hV E10 (fun g hg => .inl (by first | exact (hoo.block hg).1 | (have := hoo.block hg; omega)))
   replace hf := hf0 _ hV
   refine Zn (run_asg (v := v9) rfl η) ?_
   refine Zs ?_
   refine Zo mvI ?_
   refine Zo (run_add rfl η η ω ω) ?_
   refine Zn asI ?_
   refine r_exit rfl ?_
   refine r_again (i0 + 1) ?_ ?_ ?_
   ·first | omega | (dsimp only; omega)
   ·refine ⟨_, σ, rfl, (by rw [normL_succ f i0 ω, norm_other (by assumption)]; exact hov9), δ, (fun _ _ => by rw [normL_succ f i0 ω, norm_other (by assumption)]; exact lastNT_snoc (by assumption)), δ, hV⟩
   exact ψ
  refine r_skip ?_
  refine r_seq ?_
  have hobO := fun g hg => (hoo.block (g := g) hg).2
  have hlnt := hnt ω ω
  refine r_region ?_
  refine Zn asS ?_
  refine r_seq ?_
  refine r_block ?_
  refine r_loop (α := Nat) [4, 5, 25, 26, 27, 28, 29, 30, 31, 32, 33, 34, 35, 36, 37, 38, 39, 40, 41, 42, 43, 44, 45] (fun i g w => ∃ vb : Value, ∃ bs : Str, g 4 = .int .i64 (i : Nat) ∧ g 5 = vb ∧ OwnE w w0.heap.size 32 vo (normL (f.take i0)) ∧ OwnE w w2.heap.size 5 vb bs ∧ i0 ≤ i ∧ i ≤ f.length ∧ bs.length ≤ sizeL (f.take i) ∧ (normL (f.take i)) = joinT (normL (f.take i0)) bs ∧ (i0 < i ∨ (i < f.length ∧ (f.getD i default).kind = 1)) ∧ w2.heap.size ≤ w.heap.size ∧ Evo w0 w []) (fun i => f.length - i) i0 ?_ ?_
  ·refine ⟨_, [], σ, rfl, δ, (OwnE.nil _ _ _), δ, δ, (by simp), (joinT_nil _).symm, (.inr ω), δ, hV⟩
  rintro i g w12 ⟨vb, bs, hj13, hj14, hoo, hbb, hii, hil, hbl, hjn, hgo, hzl11, hV⟩
  have hs_w12hV := hV.size
  replace hf := hf0 _ hV
  replace hA6 := hA60 _ hV
  refine Zk 4 (v := .int .i64 (i : Nat)) (by exact hj13) ?_
  refine Zk 5 (v := vb) (by exact hj14) ?_
  refine r_seq ?_
  refine Zs ?_
  refine Zo mvI ?_
  refine Zo mvS ?_
  refine Zo (run_lenSl rfl η Tryz.underlying33) ?_
  refine Zo (run_lss rfl η η) ?_
  refine Zo mvB ?_
  refine r_g rfl (wantT η) rfl (fun hg => mvS) ?_
  refine r_g rfl (wantT η) rfl (fun hg => mvI) ?_
  refine r_g rfl (wantT η) rfl (fun hg => run_ix (i) rfl Tryz.underlying33 ty_32 (glv η (fun h => h) hg) (glv η (fun h => h) hg) (by first | exact rfl | omega) ω (hf.addr (i := i) ω)) ?_
  refine r_g rfl (wantT η) rfl (fun hg => run_fa rfl (glv η (fun h => h) hg) fo_32_0) ?_
  refine r_g rfl (wantT η) rfl (fun hg => run_ld1 rfl ag_3 (glv η (fun h => h) hg) ((hf.atD (i) ω).cell 0 η)) ?_
  refine r_g rfl (wantT η) rfl (fun hg => run_eql rfl (glv η (fun h => h) hg) η) ?_
  refine Zn (run_pick_and rfl η (fun hq => glv η (fun h => h) hq) rfl) ?_
  refine r_cond η (fun hc15 => ?_) (fun hc15 => ?_)
  ·skip
   refine r_skip ?_
   refine r_block ?_
   refine r_seq ?_
   have hn3 := sizeL_take f (i + 1); have hn5 := sizeL_succ f i ω
   refine r_region ?_
   refine Zo (run_mv (v := vb) rfl η) ?_
   refine Zo mvS ?_
   refine Zo mvI ?_
   refine Zo (run_ix (i) rfl Tryz.underlying33 ty_32 η η (by first | exact rfl | omega) ω (hf.addr (i := i) ω)) ?_
   have hA160 := fun (w' : World) (h : Evo w0 w' []) => (hf0 w' h).atD (i) ω
   have hA16 := hA160 _ hV
   refine Zo (run_fa rfl η fo_32_1) ?_
   refine Zo (run_ld1 rfl ag_9 η (hA16.cell 1 η)) ?_
   refine r_appendS rfl Tryz.underlying123 Tryz.underlying9 ty_5 rfl hbb η η (by first | omega | (simp; omega)) ω ?_
   intro v17 w18 E18 hov17
   have Q18 := E18.size
   replace hV := evo_stepo hV E18 (fun g hg => .inl (by first | exact (hbb.block hg).1 | (have := hbb.block hg; omega)))
   replace hf := hf0 _ hV
   replace hoo := hoo.evo E18 (by intro g hg hm; have hm2 := Option.mem_toList.1 hm; have h1 := hbb.block hm2; have h2 := hobO g hg; omega)
   refine Zn (run_asg (v := v17) rfl η) ?_
   refine r_region ?_
   refine Zo mvI ?_
   refine Zo (run_add rfl η η ω ω) ?_
   refine Zn asI ?_
   refine r_blk ?_
   refine r_again (i + 1) ?_ ?_ ?_
   ·first | omega | (dsimp only; omega)
   ·refine ⟨_, _, σ, rfl, δ, hov17, δ, δ, (by rw [List.length_append, sizeL_succ f i ω]; omega), (by rw [normL_succ f i ω, hjn, join_step hlnt ω]), (.inl ω), δ, hV⟩
   exact ψ
  refine r_exit rfl ?_
  refine r_seq ?_
  have hlt0 : i0 < i := hgo.resolve_right ω
  have hn1 := normL_len (f.take i0); have hn2 : (f.take i0).length ≤ i0 := List.length_take_le _ _; have hn3 := sizeL_take f i0; have hn4 := sizeL_at f i0
  refine r_region ?_
  refine Zo (run_mv (v := vb) rfl η) ?_
  refine Zo (run_lenOE rfl η Tryz.underlying123 hbb) ?_
  refine Zn (run_gtr rfl η η) ?_
  refine r_cond η (fun hc19 => ?_) (fun hc19 => ?_)
  ·skip
   obtain ⟨ao20, g20, cp20, hv20, hr20, hg20⟩ := hbb.rowOf
   subst hv20
   refine r_region ?_
   refine Zo (run_mv (v := vo) rfl η) ?_
   refine Zo mvS ?_
   refine Zo (run_cvBS rfl Tryz.underlying123 Tryz.underlying5 Tryz.underlying9 η (by first | rfl | simp) hr20) ?_
   refine Zo (run_bld (pv := [(0, .int _ _), (1, S _)]) (zs := [_, _, _]) (cells := [_, _, _]) rfl ty_32 η pl_32 η η) ?_
   refine r_append1E (u := .agg _) (y := ⟨_, _, _⟩) rfl rfl Tryz.underlying33 ty_32 η hoo (fun _ => η) η (by first | exact rfl | (show _ = List.toArray [_, _, _]; first | (dsimp only; done) | exact rfl | (dsimp only; exact rfl))) ((by first | omega | (simp; omega))) ((by first | omega | (simp; omega))) ω ?_
   intro q_v21 v21 w22 E22 hov21 hlv21
   have Q22 := E22.size
   replace hV := evo_stepo hV E22 (fun g hg => .inl (by first | exact (hoo.block hg).1 | (have := hoo.block hg; omega)))
   replace hf := hf0 _ hV
   refine Zn (run_asg (v := v21) rfl η) ?_
   refine r_blk ?_
   refine r_again i ?_ ?_ ?_
   ·first | omega | (dsimp only; omega)
   ·refine ⟨_, σ, rfl, (by first | (rw [hjn, joinT_yes ω]; exact hov21) | (rw [hjn, joinT_no ω]; exact hov21)), δ, (fun h1 h2 => absurd h2 ω), δ, hV⟩
   exact ψ
  refine r_skip ?_
  refine r_blk ?_
  refine r_again i ?_ ?_ ?_
  ·first | omega | (dsimp only; omega)
  ·refine ⟨_, σ, rfl, (by first | (rw [hjn, joinT_yes ω]; exact hoo) | (rw [hjn, joinT_no ω]; exact hoo)), δ, (fun h1 h2 => absurd h2 ω), δ, hV⟩
  exact ψ
 refine r_exit rfl ?_
 refine Zs ?_
 refine Zo (run_mv (v := vo) rfl η) ?_
 refine Zn (run_asg (v := vo) rfl η) ?_
 refine r_ret (res1 (v := vo) rfl η) ?_
 exact ⟨_, rfl, hV, by rw [List.take_of_length_le ω] at hoo; exact hoo⟩
theorem ag_33 : aggP Tryz.prog 33 = some false := ζ
theorem ty_33 : tyP Tryz.prog 33 = some (1, 24, some (.slice none 0 0)) := ζ
theorem grow_calls {c : Nat} {w0 : World} (hc : c ≤ 200000) :
    Calls Tryz.prog 93 #[.slice none 0 0, .int .i64 (c : Nat)] w0 fun e w' => ∃ v, e = .returned v ∧ Evo w0 w' [] ∧ OwnE (α := Vc.Item) w' w0.heap.size 32 v [] := by
 have hnil : RowE w0 none 0 0 0 ([] : List Vc.Item) := RowE.nil _ _ _ _ _
 refine calls_enter (n := 27) Tryz.func93 rfl Tryz.ntmps93 rfl ?_
 have hV : Evo w0 w0 [] := Evo.refl _ _
 have hnil0 := keepE hnil
 have hbd_hnil := hnil.bd
 refine Zs ?_
 refine Zn asS ?_
 refine r_seq ?_
 refine Zs ?_
 refine Zo mvI ?_
 refine Zn (run_lss rfl η η) ?_
 refine r_cond η (fun hc1 => ?_) (fun hc1 => ?_)
 ·skip
  exfalso; omega
 refine r_skip ?_
 refine r_seq ?_
 refine Zs ?_
 refine Zo mvI ?_
 refine Zo mvS ?_
 refine Zo (run_capSl rfl η Tryz.underlying33) ?_
 refine Zo mvS ?_
 refine Zo (run_lenSl rfl η Tryz.underlying33) ?_
 refine Zo (run_sub rfl η η ω ω) ?_
 refine Zo (run_sub rfl η η ω ω) ?_
 refine Zn asI ?_
 refine Zs ?_
 refine Zo mvI ?_
 refine Zn (run_gtr rfl η η) ?_
 refine r_cond η (fun hc2 => ?_) (fun hc2 => ?_)
 ·skip
  refine r_region ?_
  refine Zo mvS ?_
  refine Zo mvS ?_
  refine Zo (run_capSl rfl η Tryz.underlying33) ?_
  refine Zo (by exact run_slE (0) (0) rfl Tryz.underlying33 ty_32 η hnil lo0 (at1 η ω) (by first | omega | (simp; omega)) (by first | omega | (simp; omega)) List.drop_zero) ?_
  have hS30 := fun (w' : World) (h : Evo w0 w' []) => (by have h9 := ((hnil0 w' h).take (0)).drop (0); rw [List.drop_zero] at h9; exact h9)
  have hS3 := (by have h9 := (hnil.take (0)).drop (0); rw [List.drop_zero] at h9; exact h9)
  have hbd_hS3 := hS3.bd
  refine Zo mvI ?_
  refine r_appendZ (α := Vc.Item) (c := c) rfl Tryz.underlying33 Tryz.underlying3 ty_32 rfl rfl η (by first | exact rfl | exact congrArg (Value.int _) ω) ω ω ω (Nat.le_refl _) ?_
  intro gz4 cz5 w6 E6 hcz hzo
  have Q6 := E6.size
  replace hV := Z0 hV E6
  refine Zo mvS ?_
  refine Zo (run_lenSl rfl η Tryz.underlying33) ?_
  refine Zo (by exact run_sl00 rfl Tryz.underlying33 ty_32 η ⟨_, by exact rfl⟩) ?_
  refine Zn asS ?_
  refine Zs ?_
  refine Zo mvS ?_
  refine Zn asS ?_
  refine r_ret (res1 (v := .slice _ _ _) rfl η) ?_
  exact ⟨_, rfl, hV, by first | exact hzo | exact OwnE.nil _ _ _⟩
 refine r_skip ?_
 refine Zs ?_
 refine Zo mvS ?_
 refine Zn asS ?_
 refine r_ret (res1 (v := .slice _ _ _) rfl η) ?_
 exact ⟨_, rfl, hV, by first | exact hzo | exact OwnE.nil _ _ _⟩
theorem slconcat_calls {ao : Option Addr} {b off cap : Nat} {ll : List (List Vc.Item)} {w0 : World} (hs : RowR w0 ao b off cap ll) (hn : ll.length ≤ 1000) (hb : ll.flatten.length ≤ 200000) :
    Calls Tryz.prog 52 #[.slice ao ll.length cap] w0 fun e w' => ∃ v, e = .returned v ∧ Evo w0 w' [] ∧ OwnE w' w0.heap.size 32 v ll.flatten := by
 refine calls_enter (n := 36) Tryz.func52 rfl Tryz.ntmps52 rfl ?_
 have hV : Evo w0 w0 [] := Evo.refl _ _
 have hs0 := hs.keep
 have hbd_hs := hs.bd
 refine Zs ?_
 refine Zn asS ?_
 refine Zs ?_
 refine Zn asI ?_
 refine r_seq ?_
 refine Zs ?_
 refine Zo mvS ?_
 refine Zo (run_lenSl rfl η Tryz.underlying124) ?_
 refine Zn mvI ?_
 refine r_block ?_
 refine r_loop (α := Nat) [3, 5, 11, 12, 13, 14, 15, 16, 17, 18, 19, 20, 21, 22] (fun k g w => g 11 = .int .i64 (k : Nat) ∧ g 3 = .int .i64 (((ll.take k).flatten).length : Nat) ∧ k ≤ ll.length ∧ w0.heap.size ≤ w.heap.size ∧ Evo w0 w []) (fun k => ll.length - k) 0 ?_ ?_
 ·refine ⟨σ, rfl, δ, δ, hV⟩
 rintro k g w2 ⟨hj3, hj4, hk_k, hzl1, hV⟩
 have hs_w2hV := hV.size
 replace hs := hs0.now hV
 refine Zk 11 (v := .int .i64 (k : Nat)) (by exact hj3) ?_
 refine Zk 3 (v := .int .i64 (((ll.take k).flatten).length : Nat)) (by exact hj4) ?_
 refine Zs ?_
 refine Zn (run_lss rfl η η) ?_
 refine r_seq ?_
 refine r_cond η (fun hc5 => ?_) (fun hc5 => ?_)
 ·skip
  refine r_skip ?_
  refine r_seq ?_
  refine r_block ?_
  refine Zs ?_
  refine Zo (run_ix (k) rfl Tryz.underlying124 ty_33 η η (by first | exact rfl | omega) ω (hs.addr (i := k) ω)) ?_
  obtain ⟨ao6, b6, off6, cap6, hX⟩ := sl_atK hs0 (k) ω
  have hA60 := fun (w' : World) (h : Evo w0 w' []) => (hX w' h).1
  have hA6 := hA60 _ hV
  have hR60 := fun (w' : World) (h : Evo w0 w' []) => (hX w' h).2
  have hR6 := hR60 _ hV
  clear hX
  have hbd_hR6 := hR6.bd
  refine Zo (run_ld1 rfl ag_33 η (hA6.cell 0 η)) ?_
  refine Zn asS ?_
  refine r_seq ?_
  have hf1 := flat_take ll (k + 1); have hf2 : ((ll.take (k + 1)).flatten).length = ((ll.take k).flatten).length + (ll.getD k default).length := by rw [flat_succL ll k ω, List.length_append]
  refine r_region ?_
  refine Zo mvI ?_
  refine Zo mvS ?_
  refine Zo (run_lenSl rfl η Tryz.underlying33) ?_
  refine Zo (run_add rfl η η ω ω) ?_
  refine Zn asI ?_
  refine Zs ?_
  refine Zo mvI ?_
  refine Zn (run_lss rfl η η) ?_
  refine r_cond η (fun hc7 => ?_) (fun hc7 => ?_)
  ·skip
   exfalso; omega
  refine r_skip ?_
  refine r_blk ?_
  refine r_region ?_
  refine Zo (run_add rfl η η ω ω) ?_
  refine Zn mvI ?_
  refine r_again (k + 1) ?_ ?_ ?_
  ·first | omega | (dsimp only; omega)
  ·refine ⟨σ, (congrArg (Value.int _) ω), δ, δ, hV⟩
  exact ψ
 refine r_exit rfl ?_
 refine r_seq ?_
 have hf3 := flat_take ll k
 refine r_region ?_
 refine Zo mvI ?_
 refine Zr [.slice _ _ _, .int _ _] rfl η Tryz.func93 (grow_calls ω) ?_
 rintro e w8 ⟨vg8, rfl, F8, hog8⟩
 refine ⟨_, rfl, ?_⟩
 have Q8 := F8.size
 replace hV := Z0 hV F8
 replace hs := hs0.now hV
 refine Zn (run_asg (v := vg8) rfl η) ?_
 refine r_seq ?_
 refine Zs ?_
 refine Zo mvS ?_
 refine Zo (run_lenSl rfl η Tryz.underlying124) ?_
 refine Zn mvI ?_
 refine r_block ?_
 refine r_loop (α := Nat) [6, 8, 27, 28, 29, 30, 31, 32, 33, 34] (fun k g w => ∃ vo : Value, g 27 = .int .i64 (k : Nat) ∧ g 6 = vo ∧ k ≤ ll.length ∧ OwnE w w0.heap.size 32 vo ((ll.take k).flatten) ∧ w8.heap.size ≤ w.heap.size ∧ Evo w0 w []) (fun k => ll.length - k) 0 ?_ ?_
 ·refine ⟨_, σ, rfl, δ, (hog8.base_le ω), δ, hV⟩
 rintro k g w10 ⟨vo, hj11, hj12, hk_k, hoo, hzl9, hV⟩
 have hs_w10hV := hV.size
 replace hs := hs0.now hV
 refine Zk 27 (v := .int .i64 (k : Nat)) (by exact hj11) ?_
 refine Zk 6 (v := vo) (by exact hj12) ?_
 refine Zs ?_
 refine Zn (run_lss rfl η η) ?_
 refine r_seq ?_
 refine r_cond η (fun hc13 => ?_) (fun hc13 => ?_)
 ·skip
  refine r_skip ?_
  refine r_seq ?_
  refine r_block ?_
  refine Zs ?_
  refine Zo (run_ix (k) rfl Tryz.underlying124 ty_33 η η (by first | exact rfl | omega) ω (hs.addr (i := k) ω)) ?_
  obtain ⟨ao14, b14, off14, cap14, hX⟩ := sl_atK hs0 (k) ω
  have hA140 := fun (w' : World) (h : Evo w0 w' []) => (hX w' h).1
  have hA14 := hA140 _ hV
  have hR140 := fun (w' : World) (h : Evo w0 w' []) => (hX w' h).2
  have hR14 := hR140 _ hV
  clear hX
  have hbd_hR14 := hR14.bd
  refine Zo (run_ld1 rfl ag_33 η (hA14.cell 0 η)) ?_
  refine Zn asS ?_
  have hf1 := flat_take ll (k + 1); have hf2 : ((ll.take (k + 1)).flatten).length = ((ll.take k).flatten).length + (ll.getD k default).length := by rw [flat_succL ll k ω, List.length_append]
  refine r_region ?_
  refine Zo (run_mv (v := vo) rfl η) ?_
  refine Zo mvS ?_
  refine r_appendE rfl Tryz.underlying33 ty_32 η hoo η η hR14 rfl (ω) (ω) ω ?_
  intro v15 w16 E16 hov15 hlv15
  have Q16 := E16.size
  replace hV := evo_stepo hV E16 (fun g hg => .inl (by first | exact (hoo.block hg).1 | (have := hoo.block hg; omega)))
  replace hs := hs0.now hV
  refine Zn (run_asg (v := v15) rfl η) ?_
  refine r_blk ?_
  refine r_region ?_
  refine Zo (run_add rfl η η ω ω) ?_
  refine Zn mvI ?_
  refine r_again (k + 1) ?_ ?_ ?_
  ·first | omega | (dsimp only; omega)
  ·refine ⟨_, σ, rfl, δ, (by rw [flat_succL ll k ω]; exact hov15), δ, hV⟩
  exact ψ
 refine r_exit rfl ?_
 refine Zs ?_
 refine Zo (run_mv (v := vo) rfl η) ?_
 refine Zn (run_asg (v := vo) rfl η) ?_
 refine r_ret (res1 (v := vo) rfl η) ?_
 exact ⟨_, rfl, hV, by rw [List.take_of_length_le ω] at hoo; exact hoo⟩
theorem concat_calls {aoa aob : Option Addr} {ba offa capa bb offb capb : Nat} {a b : List Vc.Item} {w0 : World} (ha : RowE w0 aoa ba offa capa a) (hb : RowE w0 aob bb offb capb b) (hsm : Small (a ++ b)) :
    Calls Tryz.prog 28 #[.slice aoa a.length capa, .slice aob b.length capb] w0 fun e w' => ∃ v, e = .returned v ∧ Evo w0 w' [] ∧ OwnE w' w0.heap.size 32 v (normL (a ++ b)) := by
 refine calls_enter (n := 10) Tryz.func28 rfl Tryz.ntmps28 rfl ?_
 have hV : Evo w0 w0 [] := Evo.refl _ _
 have ha0 := keepE ha
 have hbd_ha := ha.bd
 have hb0 := keepE hb
 have hbd_hb := hb.bd
 refine Zs ?_
 refine Zn asS ?_
 refine Zs ?_
 refine Zo mvS ?_
 refine Zo mvS ?_
 refine r_bslice (pv := [(0, .slice _ _ _), (1, .slice _ _ _)]) (zs := [_]) (cs := [_, _]) Tryz.underlying124 ty_33 η rfl η rfl η ?_
 intro b1 w2 J1 E2 B1 Y1
 have Q2 := E2.size
 replace hV := Z0 hV E2
 replace ha := ha0 _ hV
 replace hb := hb0 _ hV
 have hrb1 : RowR w2 (some ⟨b1, 0, none⟩) b1 0 2 ([a, b] : List (List Vc.Item)) := rowLitR [[_], [_]] ([a, b] : List (List Vc.Item)) B1 rfl (RepL.append (RepL.one (sl_rep ha)) (RepL.one (sl_rep hb))) rfl
 refine Zr [.slice (some ⟨b1, 0, none⟩) _ _] rfl η Tryz.func52 (slconcat_calls hrb1 (by simp) (by rw [flat2]; have h9 := hsm.1; omega)) ?_
 rintro e w3 ⟨vc3, rfl, F3, hoc3⟩
 refine ⟨_, rfl, ?_⟩
 have Q3 := F3.size
 replace hV := Z0 hV F3
 replace ha := ha0 _ hV
 replace hb := hb0 _ hV
 replace hrb1 := hrb1.evo0 F3
 obtain ⟨ao4, g4, cp4, hv4, hr4, hg4⟩ := hoc3.rowOf
 subst hv4
 refine Zr [.slice _ _ _] rfl η Tryz.func51 (normalize_calls hr4 (by first | assumption | exact kf_small | exact small_take (by assumption) _ | exact small_norm (by assumption) | (rw [flat2]; assumption))) ?_
 rintro e w5 ⟨vn5, rfl, F5, hon5⟩
 refine ⟨_, rfl, ?_⟩
 have Q5 := F5.size
 replace hV := Z0 hV F5
 refine Zn (run_asg (v := vn5) rfl η) ?_
 refine r_ret (res1 (v := vn5) rfl η) ?_
 exact ⟨_, rfl, hV, by have h9 := hon5; rw [flat2] at h9; exact h9.base_le ω⟩
theorem plain_calls {ao : Option Addr} {b off cap : Nat} {f : List Vc.Item} {w0 : World} (hf : RowE w0 ao b off cap f) (hsm : Small f) :
    Calls Tryz.prog 66 #[.slice ao f.length cap] w0 fun e w' => e = .returned (S (plainL f)) ∧ Evo w0 w' [] := by
 have hs1 := hsm.1; have hs2 := hsm.2
 refine calls_enter (n := 28) Tryz.func66 rfl Tryz.ntmps66 rfl ?_
 have hV : Evo w0 w0 [] := Evo.refl _ _
 have hf0 := keepE hf
 have hbd_hf := hf.bd
 refine Zs ?_
 refine Zn asT ?_
 refine Zs ?_
 refine Zn asS ?_
 refine r_seq ?_
 refine Zs ?_
 refine Zo mvS ?_
 refine Zo (run_lenSl rfl η Tryz.underlying33) ?_
 refine Zn mvI ?_
 refine r_block ?_
 refine r_loop (α := Nat) [3, 5, 8, 9, 10, 11, 12, 13, 14, 15, 16, 17, 18, 19, 20, 21, 22, 23, 24, 25] (fun k g w => ∃ vo : Value, g 8 = .int .i64 (k : Nat) ∧ g 3 = vo ∧ k ≤ f.length ∧ OwnE w w0.heap.size 5 vo (plainL (f.take k)) ∧ w0.heap.size ≤ w.heap.size ∧ Evo w0 w []) (fun k => f.length - k) 0 ?_ ?_
 ·refine ⟨_, σ, rfl, δ, (OwnE.nil _ _ _), δ, hV⟩
 rintro k g w2 ⟨vo, hj3, hj4, hk_k, hoo, hzl1, hV⟩
 have hs_w2hV := hV.size
 replace hf := hf0 _ hV
 refine Zk 8 (v := .int .i64 (k : Nat)) (by exact hj3) ?_
 refine Zk 3 (v := vo) (by exact hj4) ?_
 refine Zs ?_
 refine Zn (run_lss rfl η η) ?_
 refine r_seq ?_
 refine r_cond η (fun hc5 => ?_) (fun hc5 => ?_)
 ·skip
  refine r_skip ?_
  refine r_seq ?_
  refine r_block ?_
  refine r_seq ?_
  have hobO := fun g hg => (hoo.block (g := g) hg).2
  refine r_region ?_
  refine Zo (run_ix (k) rfl Tryz.underlying33 ty_32 η η (by first | exact rfl | omega) ω (hf.addr (i := k) ω)) ?_
  have hA60 := fun (w' : World) (h : Evo w0 w' []) => (hf0 w' h).atD (k) ω
  have hA6 := hA60 _ hV
  refine Zo (run_ldN rfl ag_32 ty_32 η rfl hA6) ?_
  have hob7 := fun g hg => (hoo.block (g := g) hg).2
  refine r_var (zs := [_, _, _]) (vs := [_, _, _]) ty_32 η rfl η (fun _ => rfl) η rfl rfl η ?_
  intro b8 w9 J8 E9 B8 Y8
  have Q9 := E9.size
  replace hV := Z0 hV E9
  replace hf := hf0 _ hV
  replace hoo := hoo.evo0 E9
  refine r_nil ?_
  refine r_seq ?_
  have hneO : ∀ g, vo.ownBlock = some g → g ≠ b8 := fun g hg h => by have := hobO g hg; omega
  have hp1 := plainL_len (f.take k); have hp2 := sizeL_take f k; have hp3 := sizeL_at f k; have hp5 : (f.take k).length ≤ k := List.length_take_le _ _
  refine r_region ?_
  refine Zo (run_fa rfl η fo_32_0) ?_
  refine Zn (run_ld1 rfl ag_3 η (B8.at.cell 0 η)) ?_
  refine r_block ?_
  refine Zs ?_
  refine Zo (run_eql rfl η η) ?_
  refine Zn asB ?_
  refine r_cond η (fun hc10 => ?_) (fun hc10 => ?_)
  ·skip
   refine r_region ?_
   refine Zo (run_mv (v := vo) rfl η) ?_
   refine Zo (run_fa rfl η fo_32_1) ?_
   refine Zo (run_ld1 rfl ag_9 η (B8.at.cell 1 η)) ?_
   refine r_appendS rfl Tryz.underlying123 Tryz.underlying9 ty_5 rfl hoo η η (by first | omega | (simp; omega)) ω ?_
   intro v11 w12 E12 hov11
   have Q12 := E12.size
   replace hV := evo_stepo hV E12 (fun g hg => .inl (by first | exact (hoo.block hg).1 | (have := hoo.block hg; omega)))
   replace hf := hf0 _ hV
   refine Zn (run_asg (v := v11) rfl η) ?_
   refine r_blk ?_
   refine r_blk ?_
   refine r_region ?_
   refine Zo (run_add rfl η η ω ω) ?_
   refine Zn mvI ?_
   refine r_again (k + 1) ?_ ?_ ?_
   ·first | omega | (dsimp only; omega)
   ·refine ⟨_, σ, rfl, δ, (by first | (rw [plainL_succ f k ω, plainI_text (by assumption)]; exact hov11) | (rw [plainL_succ f k ω, plainI_slot (by assumption)]; exact hov11) | (rw [plainL_succ f k ω, plainI_other (by assumption) (by assumption), List.append_nil]; exact hov11)), δ, hV⟩
   exact ψ
  refine Zs ?_
  refine Zo (run_eql rfl η η) ?_
  refine Zn asB ?_
  refine r_cond η (fun hc13 => ?_) (fun hc13 => ?_)
  ·skip
   refine r_region ?_
   refine Zo (run_mv (v := vo) rfl η) ?_
   refine r_append1E (u := .int _ _) (y := (255 : UInt8)) rfl rfl Tryz.underlying123 ty_5 η hoo (fun _ => η) η (by first | exact rfl | (show _ = List.toArray [_]; first | (dsimp only; done) | exact rfl | (dsimp only; exact rfl))) ((by first | omega | (simp; omega))) ((by first | omega | (simp; omega))) ω ?_
   intro q_v14 v14 w15 E15 hov14 hlv14
   have Q15 := E15.size
   replace hV := evo_stepo hV E15 (fun g hg => .inl (by first | exact (hoo.block hg).1 | (have := hoo.block hg; omega)))
   replace hf := hf0 _ hV
   refine Zn (run_asg (v := v14) rfl η) ?_
   refine r_blk ?_
   refine r_blk ?_
   refine r_region ?_
   refine Zo (run_add rfl η η ω ω) ?_
   refine Zn mvI ?_
   refine r_again (k + 1) ?_ ?_ ?_
   ·first | omega | (dsimp only; omega)
   ·refine ⟨_, σ, rfl, δ, (by first | (rw [plainL_succ f k ω, plainI_text (by assumption)]; exact hov14) | (rw [plainL_succ f k ω, plainI_slot (by assumption)]; exact hov14) | (rw [plainL_succ f k ω, plainI_other (by assumption) (by assumption), List.append_nil]; exact hov14)), δ, hV⟩
   exact ψ
  refine r_skip ?_
  refine r_blk ?_
  refine r_blk ?_
  refine r_region ?_
  refine Zo (run_add rfl η η ω ω) ?_
  refine Zn mvI ?_
  refine r_again (k + 1) ?_ ?_ ?_
  ·first | omega | (dsimp only; omega)
  ·refine ⟨_, σ, rfl, δ, (by first | (rw [plainL_succ f k ω, plainI_text (by assumption)]; exact hoo) | (rw [plainL_succ f k ω, plainI_slot (by assumption)]; exact hoo) | (rw [plainL_succ f k ω, plainI_other (by assumption) (by assumption), List.append_nil]; exact hoo)), δ, hV⟩
  exact ψ
 refine r_exit rfl ?_
 refine r_seq ?_
 obtain ⟨ao16, g16, cp16, hv16, hr16, hg16⟩ := hoo.rowOf
 subst hv16
 refine r_region ?_
 refine Zo mvS ?_
 refine Zo (run_cvBS rfl Tryz.underlying123 Tryz.underlying5 Tryz.underlying9 η (by first | rfl | simp) hr16) ?_
 refine Zn asT ?_
 refine r_ret (res1 (v := S _) rfl η) ?_
 exact ⟨by rw [List.take_of_length_le ω], hV⟩
theorem rnormalize_calls {ao : Option Addr} {b off cap : Nat} {f : List Vc.Item} {w0 : World} (hf : RowE w0 ao b off cap f) (hsm : Small f) :
    Calls Tryz.prog 126 #[.slice ao f.length cap] w0 fun e w' => ∃ v, e = .returned v ∧ Evo w0 w' [] ∧ OwnE w' w0.heap.size 32 v (normL f) := by
 have hs1 := hsm.1; have hs2 := hsm.2
 refine calls_enter (n := 61) Tryz.func126 rfl Tryz.ntmps126 rfl ?_
 have hV : Evo w0 w0 [] := Evo.refl _ _
 have hf0 := keepE hf
 have hbd_hf := hf.bd
 refine Zs ?_
 refine Zn asS ?_
 refine Zs ?_
 refine Zn asS ?_
 refine r_seq ?_
 refine Zs ?_
 refine Zo mvS ?_
 refine Zo (run_lenSl rfl η Tryz.underlying33) ?_
 refine Zn mvI ?_
 refine r_block ?_
 refine r_loop (α := Nat) [3, 4, 5, 6, 9, 10, 11, 12, 13, 14, 15, 16, 17, 18, 19, 20, 21, 22, 23, 24, 25, 26, 27, 28, 29, 30, 31, 32, 33, 34, 35, 36, 37, 38, 39, 40, 41, 42, 43, 44, 45, 46, 47, 48, 49, 50, 51, 52, 53, 54, 55, 56, 57, 58, 59] (fun k g w => ∃ vo : Value, g 9 = .int .i64 (k : Nat) ∧ g 3 = vo ∧ k ≤ f.length ∧ OwnE w w0.heap.size 32 vo (normL (f.take k)) ∧ w0.heap.size ≤ w.heap.size ∧ Evo w0 w []) (fun k => f.length - k) 0 ?_ ?_
 ·refine ⟨_, σ, rfl, δ, (OwnE.nil _ _ _), δ, hV⟩
 rintro k g w2 ⟨vo, hj3, hj4, hk_k, hoo, hzl1, hV⟩
 have hs_w2hV := hV.size
 replace hf := hf0 _ hV
 refine Zk 9 (v := .int .i64 (k : Nat)) (by exact hj3) ?_
 refine Zk 3 (v := vo) (by exact hj4) ?_
 refine Zs ?_
 refine Zn (run_lss rfl η η) ?_
 refine r_seq ?_
 refine r_cond η (fun hc5 => ?_) (fun hc5 => ?_)
 ·skip
  refine r_skip ?_
  refine r_seq ?_
  refine r_block ?_
  refine Zs ?_
  refine Zo mvI ?_
  refine Zn asI ?_
  refine r_seq ?_
  have hobO := fun g hg => (hoo.block (g := g) hg).2
  refine r_region ?_
  refine Zo mvS ?_
  refine Zo mvI ?_
  refine Zo (run_ix (k) rfl Tryz.underlying33 ty_32 η η (by first | exact rfl | omega) ω (hf.addr (i := k) ω)) ?_
  have hA60 := fun (w' : World) (h : Evo w0 w' []) => (hf0 w' h).atD (k) ω
  have hA6 := hA60 _ hV
  refine Zo (run_ldN rfl ag_32 ty_32 η rfl hA6) ?_
  have hob7 := fun g hg => (hoo.block (g := g) hg).2
  refine r_var (zs := [_, _, _]) (vs := [_, _, _]) ty_32 η rfl η (fun _ => rfl) η rfl rfl η ?_
  intro b8 w9 J8 E9 B8 Y8
  have Q9 := E9.size
  replace hV := Z0 hV E9
  replace hf := hf0 _ hV
  replace hoo := hoo.evo0 E9
  have hAb8 := B8.at
  refine r_nil ?_
  refine r_seq ?_
  refine r_seq ?_
  have hneO : ∀ g, vo.ownBlock = some g → g ≠ b8 := fun g hg h => by have := hobO g hg; omega
  have hn1 := normL_len (f.take k); have hn2 : (f.take k).length ≤ k := List.length_take_le _ _; have hn3 := sizeL_take f k; have hn4 := sizeL_at f k; have hz1 := sizeL_at (normL (f.take k)) ((normL (f.take k)).length - 1); have hz2 := normL_size (f.take k)
  refine r_region ?_
  refine Zo (run_fa rfl η fo_32_0) ?_
  refine Zo (run_ld1 rfl ag_3 η (hAb8.cell 0 η)) ?_
  refine Zn (run_neq rfl η η) ?_
  refine r_cond η (fun hc10 => ?_) (fun hc10 => ?_)
  ·skip
   refine Zs ?_
   refine Zo (run_mv (v := vo) rfl η) ?_
   refine Zo (run_ldN rfl ag_32 ty_32 η rfl hAb8) ?_
   refine r_append1E (u := .agg _) (y := ⟨_, _, _⟩) rfl rfl Tryz.underlying33 ty_32 η hoo (fun _ => η) η (by first | exact rfl | (show _ = List.toArray [_, _, _]; first | (dsimp only; done) | exact rfl | (dsimp only; exact rfl))) ((by first | omega | (simp; omega))) ((by first | omega | (simp; omega))) ω ?_
   intro q_v11 v11 w12 E12 hov11 hlv11
   have Q12 := E12.size
   replace hV := evo_stepo hV E12 (fun g hg => .inl (by first | exact (hoo.block hg).1 | (have := hoo.block hg; omega)))
   replace hf := hf0 _ hV
   replace B8 := B8.evo E12 (by intro hm; have hm2 := Option.mem_toList.1 hm; have := hob7 _ hm2; omega)
   replace hAb8 := hAb8.evo E12 (by intro hm; have hm2 := Option.mem_toList.1 hm; have := hob7 _ hm2; omega)
   refine Zn (run_asg (v := v11) rfl η) ?_
   refine r_exit rfl ?_
   refine r_region ?_
   refine Zo (run_add rfl η η ω ω) ?_
   refine Zn mvI ?_
   refine r_again (k + 1) ?_ ?_ ?_
   ·first | omega | (dsimp only; omega)
   ·refine ⟨_, σ, rfl, δ, (by first | (rw [normL_succ f k ω, norm_other (by assumption)]; exact hov11) | (rw [normL_succ f k ω, norm_empty ω (by assumption)]; exact hov11) | (rw [normL_succ f k ω, norm_join ω (by assumption) (by assumption)]; exact hov11) | (rw [normL_succ f k ω, norm_add ω (by assumption) (by assumption)]; exact hov11)), δ, hV⟩
   exact ψ
  refine r_skip ?_
  refine r_seq ?_
  refine Zs ?_
  refine Zo (run_fa rfl η fo_32_1) ?_
  refine Zo (run_ld1 rfl ag_9 η (hAb8.cell 1 η)) ?_
  refine Zn (run_seql rfl η η) ?_
  refine r_cond η (fun hc13 => ?_) (fun hc13 => ?_)
  ·skip
   refine r_exit rfl ?_
   refine r_region ?_
   refine Zo (run_add rfl η η ω ω) ?_
   refine Zn mvI ?_
   refine r_again (k + 1) ?_ ?_ ?_
   ·first | omega | (dsimp only; omega)
   ·refine ⟨_, σ, rfl, δ, (by first | (rw [normL_succ f k ω, norm_other (by assumption)]; exact hoo) | (rw [normL_succ f k ω, norm_empty ω (by assumption)]; exact hoo) | (rw [normL_succ f k ω, norm_join ω (by assumption) (by assumption)]; exact hoo) | (rw [normL_succ f k ω, norm_add ω (by assumption) (by assumption)]; exact hoo)), δ, hV⟩
   exact ψ
  refine r_skip ?_
  refine Zs ?_
  refine Zo (run_mv (v := vo) rfl η) ?_
  refine Zo (run_lenOE rfl η Tryz.underlying33 hoo) ?_
  refine Zn asI ?_
  refine r_seq ?_
  obtain ⟨ao14, g14, cp14, hv14, hr14, hg14⟩ := hoo.rowOf
  subst hv14
  refine r_region ?_
  refine Zo mvI ?_
  refine Zo (run_gtr rfl η η) ?_
  refine Zo mvB ?_
  refine r_g rfl (wantT η) rfl (fun hg => mvS) ?_
  refine r_g rfl (wantT η) rfl (fun hg => mvI) ?_
  refine r_g rfl (wantT η) rfl (fun hg => run_sub rfl (glv η (fun h => h) hg) η ω ω) ?_
  refine r_g rfl (wantT η) rfl (fun hg => run_ix (((normL (f.take k)).length - 1)) rfl Tryz.underlying33 ty_32 (glv η (fun h => h) hg) (glv η (fun h => h) hg) ω ω (hr14.addr (i := ((normL (f.take k)).length - 1)) ω)) ?_
  refine r_g rfl (wantT η) rfl (fun hg => run_fa rfl (glv η (fun h => h) hg) fo_32_0) ?_
  refine r_g rfl (wantT η) rfl (fun hg => run_ld1 rfl ag_3 (glv η (fun h => h) hg) ((hr14.atD (((normL (f.take k)).length - 1)) ω).cell 0 η)) ?_
  refine r_g rfl (wantT η) rfl (fun hg => run_eql rfl (glv η (fun h => h) hg) η) ?_
  refine Zn (run_pick_and rfl η (fun hq => glv η (fun h => h) hq) rfl) ?_
  refine r_cond η (fun hc15 => ?_) (fun hc15 => ?_)
  ·skip
   have hbb8_q := B8
   have hAb8_q := hAb8
   have hr14_q := hr14
   have hV_q := hV
   refine h_region ([]) ζ ?_
   intro w16 F17 hC18
   have Q16 := F17.size
   replace hV := Z0 hV F17
   replace hoo := hoo.evo0 F17
   replace B8 := B8.evo0 F17
   replace hAb8 := hAb8.evo0 F17
   replace hr14 := hr14.evo0 F17
   refine Zt (i := 0) η (fun w' hC => mvS) hC18 ?_
   refine Zt (i := 1) η (fun w' hC => mvI) hC18 ?_
   refine Zt (i := 2) η (fun w' hC => run_sub rfl η η ω ω) hC18 ?_
   refine Zt (i := 3) η (fun w' hC => mvS) hC18 ?_
   refine Zt (i := 4) η (fun w' hC => mvI) hC18 ?_
   refine Zt (i := 5) η (fun w' hC => run_sub rfl η η ω ω) hC18 ?_
   refine Zt (i := 6) η (fun w' hC => run_ix (((normL (f.take k)).length - 1)) rfl Tryz.underlying33 ty_32 η η ω ω (hr14.addr (i := ((normL (f.take k)).length - 1)) ω)) hC18 ?_
   have hA19 := hr14.atD (((normL (f.take k)).length - 1)) ω
   have hA19_q := hr14_q.atD (((normL (f.take k)).length - 1)) ω
   refine Zt (i := 7) η (fun w' hC => run_fa rfl η fo_32_1) hC18 ?_
   refine Zt (i := 8) η (fun w' hC => run_ld1 rfl ag_9 η ((hA19_q.evo0 hC).cell 1 η)) hC18 ?_
   refine Zt (i := 9) η (fun w' hC => run_fa rfl η fo_32_1) hC18 ?_
   refine Zt (i := 10) η (fun w' hC => run_ld1 rfl ag_9 η ((hAb8_q.evo0 hC).cell 1 η)) hC18 ?_
   refine Zt (i := 11) η (fun w' hC => run_sadd rfl η η ω) hC18 ?_
   refine Zt (i := 12) η (fun w' hC => run_bld (pv := [(0, .int _ _), (1, S _)]) (zs := [_, _, _]) (cells := [_, _, _]) rfl ty_32 η pl_32 η η) hC18 ?_
   refine Zt (i := 13) η (fun w' hC => run_ix (((normL (f.take k)).length - 1)) rfl Tryz.underlying33 ty_32 η η ω ω (hr14.addr (i := ((normL (f.take k)).length - 1)) ω)) hC18 ?_
   have hA20 := hr14.atD (((normL (f.take k)).length - 1)) ω
   have hA20_q := hr14_q.atD (((normL (f.take k)).length - 1)) ω
   refine Zh (i := 14) ?_
   refine r_storeE (u := .agg _) (vs := [_, _, _]) (((normL (f.take k)).length - 1)) 0 ⟨_, _, _⟩ η rfl (by first | rfl | omega) η hoo hr14 ω ty_32 η rfl η rfl (by show [_, _, _] = [_, _, _]; first | (dsimp only; done) | exact rfl | (dsimp only; exact rfl)) ?_
   intro w21 E21 V21 ho_new
   have Q21 := E21.size
   replace hV := evo_stepo hV E21 (fun g hg => .inl (by first | exact (hoo.block hg).1 | (have := hoo.block hg; omega)))
   replace hf := hf0 _ hV
   replace hoo := ho_new
   clear ho_new
   refine h_last ζ ?_
   refine h_done ζ ?_
   refine r_blk ?_
   refine r_region ?_
   refine Zo (run_add rfl η η ω ω) ?_
   refine Zn mvI ?_
   refine r_again (k + 1) ?_ ?_ ?_
   ·first | omega | (dsimp only; omega)
   ·refine ⟨_, σ, rfl, δ, (by first | (rw [normL_succ f k ω, norm_other (by assumption)]; exact hoo) | (rw [normL_succ f k ω, norm_empty ω (by assumption)]; exact hoo) | (rw [normL_succ f k ω, norm_join ω (by assumption) (by assumption)]; exact hoo) | (rw [normL_succ f k ω, norm_add ω (by assumption) (by assumption)]; exact hoo)), δ, hV⟩
   exact ψ
  refine r_region ?_
  refine Zo mvS ?_
  refine Zo (run_fa rfl η fo_32_1) ?_
  refine Zo (run_ld1 rfl ag_9 η (hAb8.cell 1 η)) ?_
  refine Zo (run_bld (pv := [(0, .int _ _), (1, S _)]) (zs := [_, _, _]) (cells := [_, _, _]) rfl ty_32 η pl_32 η η) ?_
  refine r_append1E (u := .agg _) (y := ⟨_, _, _⟩) rfl rfl Tryz.underlying33 ty_32 η hoo (fun _ => η) η (by first | exact rfl | (show _ = List.toArray [_, _, _]; first | (dsimp only; done) | exact rfl | (dsimp only; exact rfl))) ((by first | omega | (simp; omega))) ((by first | omega | (simp; omega))) ω ?_
  intro q_v22 v22 w23 E23 hov22 hlv22
  have Q23 := E23.size
  replace hV := evo_stepo hV E23 (fun g hg => .inl (by first | exact (hoo.block hg).1 | (have := hoo.block hg; omega)))
  replace hf := hf0 _ hV
  refine Zn (run_asg (v := v22) rfl η) ?_
  refine r_blk ?_
  refine r_region ?_
  refine Zo (run_add rfl η η ω ω) ?_
  refine Zn mvI ?_
  refine r_again (k + 1) ?_ ?_ ?_
  ·first | omega | (dsimp only; omega)
  ·refine ⟨_, σ, rfl, δ, (by first | (rw [normL_succ f k ω, norm_other (by assumption)]; exact hov22) | (rw [normL_succ f k ω, norm_empty ω (by assumption)]; exact hov22) | (rw [normL_succ f k ω, norm_join ω (by assumption) (by assumption)]; exact hov22) | (rw [normL_succ f k ω, norm_add ω (by assumption) (by assumption)]; exact hov22)), δ, hV⟩
  exact ψ
 refine r_exit rfl ?_
 refine Zs ?_
 refine Zo (run_mv (v := vo) rfl η) ?_
 refine Zn (run_asg (v := vo) rfl η) ?_
 refine r_ret (res1 (v := vo) rfl η) ?_
 exact ⟨_, rfl, hV, by rw [List.take_of_length_le ω] at hoo; exact hoo⟩
theorem iplace_calls (x n : Int) {w0 : World} (hn : 1 ≤ n) (hn2 : n ≤ 1000000000) :
    Calls Tryz.prog 11 #[.int .i64 x, .int .i64 n] w0 fun e w' => e = .returned (.int .i64 (x % n)) ∧ w0 = w' := by
 refine calls_enter (n := 14) Tryz.func11 rfl Tryz.ntmps11 rfl ?_
 have hV : Evo w0 w0 [] := Evo.refl _ _
 refine Zs ?_
 refine Zn asI ?_
 refine Zs ?_
 refine Zo mvI ?_
 refine Zo mvI ?_
 refine Zo (run_rem rfl η η ω) ?_
 refine Zn asI ?_
 refine r_seq ?_
 refine Zs ?_
 refine Zo mvI ?_
 refine Zn (run_lss rfl η η) ?_
 refine r_cond η (fun hc1 => ?_) (fun hc1 => ?_)
 ·skip
  refine r_region ?_
  refine Zo mvI ?_
  refine Zo mvI ?_
  refine Zo (run_add rfl η η (by have := tmod_bd x n ω; omega) (by have := tmod_bd x n ω; omega)) ?_
  refine Zn asI ?_
  refine Zs ?_
  refine Zo mvI ?_
  refine Zn asI ?_
  refine r_ret (res1 (v := .int _ _) rfl η) ?_
  exact ⟨ret_int (by rw [← place_neg x n ω ω]), rfl⟩
 refine r_skip ?_
 refine Zs ?_
 refine Zo mvI ?_
 refine Zn asI ?_
 refine r_ret (res1 (v := .int _ _) rfl η) ?_
 exact ⟨ret_int (by rw [← place_pos x n ω ω]), rfl⟩
theorem inext_calls {T bs : Nat} {ao : Option Addr} {b off cap : Nat} {l : List Int} {N : Nat} {n : Int} {w0 : World} (hb : Blk w0 bs T [.slice ao l.length cap, .int .i64 (N : Nat)]) (hl : RowE w0 ao b off cap l) (hN : N ≤ 1000000) (hn : 1 ≤ n) (hn2 : n ≤ 1000000000) :
    Calls Tryz.prog 38 #[.pointer (some ⟨bs, 0, none⟩), .int .i64 n] w0 fun e w' => e = .returned (.int .i64 (nextL l N n)) ∧ Evo w0 w' [bs] ∧ Blk w' bs T [.slice ao l.length cap, .int .i64 (N + 1 : Nat)] := by
 have hAs := hb.at
 refine calls_enter (n := 36) Tryz.func38 rfl Tryz.ntmps38 rfl ?_
 have hV : Evo w0 w0 [bs] := Evo.refl _ _
 have hbd_hl := hl.bd
 refine Zs ?_
 refine Zn asI ?_
 refine Zs ?_
 refine Zn asI ?_
 refine r_seq ?_
 refine r_seq ?_
 refine r_qregion ζ ζ ?_
 refine Zq (fun w' hC => mvP) ?_
 refine Zq (fun w' hC => run_nc rfl η) ?_
 refine Zq (fun w' hC => run_fa rfl η fo_70_1) ?_
 refine Zq (fun w' hC => run_ld1 rfl ag_3 η ((hAs.evo0 hC).cell 1 η)) ?_
 refine Zq (fun w' hC => mvP) ?_
 refine Zq (fun w' hC => run_nc rfl η) ?_
 refine Zq (fun w' hC => run_fa rfl η fo_70_0) ?_
 refine Zq (fun w' hC => run_ld1 rfl ag_22 η ((hAs.evo0 hC).cell 0 η)) ?_
 refine Zq (fun w' hC => run_lenSl rfl η Tryz.underlying22) ?_
 refine Zq (fun w' hC => run_lss rfl η η) ?_
 refine q_nil (fun w1 F2 => ?_)
 have Q1 := F2.size
 replace hV := Z0 hV F2
 replace hb := hb.evo0 F2
 replace hAs := hAs.evo0 F2
 replace hl := hl.evo0 F2
 refine r_cond η (fun hc3 => ?_) (fun hc3 => ?_)
 ·skip
  refine r_qregion ζ ζ ?_
  refine Zq (fun w' hC => mvP) ?_
  refine Zq (fun w' hC => run_nc rfl η) ?_
  refine Zq (fun w' hC => run_fa rfl η fo_70_0) ?_
  refine Zq (fun w' hC => run_ld1 rfl ag_22 η ((hAs.evo0 hC).cell 0 η)) ?_
  refine Zq (fun w' hC => mvP) ?_
  refine Zq (fun w' hC => run_nc rfl η) ?_
  refine Zq (fun w' hC => run_fa rfl η fo_70_1) ?_
  refine Zq (fun w' hC => run_ld1 rfl ag_3 η ((hAs.evo0 hC).cell 1 η)) ?_
  refine Zq (fun w' hC => run_ix (N) rfl Tryz.underlying22 ty_3 η η (by first | exact rfl | omega) ω (hl.addr (i := N) ω)) ?_
  have hA4 := hl.atD (N) ω
  refine Zq (fun w' hC => run_ld1 rfl ag_3 η ((hA4.evo0 hC).cell 0 η)) ?_
  refine Zq (fun w' hC => asI) ?_
  refine q_nil (fun w5 F6 => ?_)
  have Q5 := F6.size
  replace hV := Z0 hV F6
  replace hb := hb.evo0 F6
  replace hAs := hAs.evo0 F6
  refine Zs ?_
  refine Zo mvP ?_
  refine Zo (run_nc rfl η) ?_
  refine Zo (run_fa rfl η fo_70_1) ?_
  refine Zo (run_ld1 rfl ag_3 η (hAs.cell 1 η)) ?_
  refine Zo (run_add rfl η η ω ω) ?_
  refine Zo (run_nc rfl η) ?_
  refine Zo (run_fa rfl η fo_70_1) ?_
  refine r_store (v := .int _ _) (vs := [_]) (cs' := [_, _]) η η hb ty_3 η rfl η rfl η ?_
  intro w7 E7 V7 hb_new
  have Q7 := E7.size
  replace hV := Z1 hV E7 (.inr (by simp))
  replace hb := hb_new
  clear hb_new
  refine r_nil ?_
  refine Zs ?_
  refine Zo mvI ?_
  refine Zo mvI ?_
  refine Zr [.int _ _, .int _ _] rfl η Tryz.func11 (iplace_calls _ _ ω ω) ?_
  rintro e w8 ⟨rfl, rfl⟩
  refine ⟨_, rfl, ?_⟩
  refine Zn asI ?_
  refine r_ret (res1 (v := .int _ _) rfl η) ?_
  exact ⟨ret_int (by first | rfl | (unfold nextL; simp [List.getD, List.getElem?_eq_none (by omega : l.length ≤ N)]; done)), hV, hb⟩
 refine r_skip ?_
 refine Zs ?_
 refine Zo mvP ?_
 refine Zo (run_nc rfl η) ?_
 refine Zo (run_fa rfl η fo_70_1) ?_
 refine Zo (run_ld1 rfl ag_3 η (hAs.cell 1 η)) ?_
 refine Zo (run_add rfl η η ω ω) ?_
 refine Zo (run_nc rfl η) ?_
 refine Zo (run_fa rfl η fo_70_1) ?_
 refine r_store (v := .int _ _) (vs := [_]) (cs' := [_, _]) η η hb ty_3 η rfl η rfl η ?_
 intro w9 E9 V9 hb_new
 have Q9 := E9.size
 replace hV := Z1 hV E9 (.inr (by simp))
 replace hb := hb_new
 clear hb_new
 refine r_nil ?_
 refine Zs ?_
 refine Zo mvI ?_
 refine Zo mvI ?_
 refine Zr [.int _ _, .int _ _] rfl η Tryz.func11 (iplace_calls _ _ ω ω) ?_
 rintro e w10 ⟨rfl, rfl⟩
 refine ⟨_, rfl, ?_⟩
 refine Zn asI ?_
 refine r_ret (res1 (v := .int _ _) rfl η) ?_
 exact ⟨ret_int (by first | rfl | (unfold nextL; simp [List.getD, List.getElem?_eq_none (by omega : l.length ≤ N)]; done)), hV, hb⟩
theorem inx_calls {w0 : World} {T bs : Nat} {ao : Option Addr} {b off cap : Nat} {l : List Int} {N : Nat} {n : Int} (hb : Blk w0 bs T [.slice ao l.length cap, .int .i64 (N : Nat)]) (hl : RowE w0 ao b off cap l) (hN : N ≤ 1000000) (hn : 1 ≤ n) (hn2 : n ≤ 1000000000) :
    Calls Tryz.prog 38 #[.pointer (some ⟨bs, 0, none⟩), .int .i64 n] w0 fun e w' => ∃ r, e = .returned (.int .i64 r) ∧ (0 ≤ r ∧ r < n) ∧ Evo w0 w' [bs] ∧ Blk w' bs T [.slice ao l.length cap, .int .i64 (N + 1 : Nat)] :=
  (inext_calls hb hl hN hn hn2).mono fun e w' ⟨h1, h2, h3⟩ => ⟨_, h1, nextL_bd l N n hn, h2, h3⟩
def wordsL : List Str := [[114, 101, 100], [99, 97, 114], [82, 101, 100], [97], [99, 97, 114, 115], [49, 44, 53], [50, 50], [100, 111, 110, 39, 116], [46], [33], [32], [32, 32], [60], [38], [123], [34], [92], [120, 45, 121], [10], [61], [125], [62], [9], [98]]
theorem iwords_bd (j : Nat) : (wordsL.getD j default).length ≤ 5 := by
  rcases Nat.lt_or_ge j 24 with h | h
  · have : ∀ j, j < 24 → (wordsL.getD j default).length ≤ 5 := by decide
    exact this j h
  · have e : wordsL.getD j default = [] := by simp [List.getD, List.getElem?_eq_none (show wordsL.length ≤ j from h)]; rfl
    rw [e]; simp
theorem word_calls {T bs : Nat} {ao : Option Addr} {b off cap : Nat} {l : List Int} {N : Nat} {w0 : World} (hb : Blk w0 bs T [.slice ao l.length cap, .int .i64 (N : Nat)]) (hl : ∀ w', Evo w0 w' [bs] → RowE w' ao b off cap l) (hN : N ≤ 900000) :
    Calls Tryz.prog 125 #[.pointer (some ⟨bs, 0, none⟩)] w0 fun e w' => ∃ t : Str, ∃ N', e = .returned (S t) ∧ t.length ≤ 5 ∧ (N ≤ N' ∧ N' ≤ N + 1) ∧ Evo w0 w' [bs] ∧ Blk w' bs T [.slice ao l.length cap, .int .i64 (N' : Nat)] := by
 have hAs := hb.at; have hbslt := hb.lt
 refine calls_enter (n := 8) Tryz.func125 rfl Tryz.ntmps125 rfl ?_
 have hV : Evo w0 w0 [bs] := Evo.refl _ _
 have hl0 := hl
 replace hl := hl0 _ hV
 have hbd_hl := hl.bd
 refine Zs ?_
 refine Zn asT ?_
 refine Zs ?_
 refine r_bslice (pv := [(0, S _), (1, S _), (2, S _), (3, S _), (4, S _), (5, S _), (6, S _), (7, S _), (8, S _), (9, S _), (10, S _), (11, S _), (12, S _), (13, S _), (14, S _), (15, S _), (16, S _), (17, S _), (18, S _), (19, S _), (20, S _), (21, S _), (22, S _), (23, S _)]) (zs := [_]) (cs := [_, _, _, _, _, _, _, _, _, _, _, _, _, _, _, _, _, _, _, _, _, _, _, _]) Tryz.underlying77 ty_9 η rfl η rfl η ?_
 intro b1 w2 J1 E2 B1 Y1
 have Q2 := E2.size
 replace hV := Z0 hV E2
 replace hb := hb.evo0 E2
 replace hl := hl0 _ hV
 have hrb1 : RowE w2 (some ⟨b1, 0, none⟩) b1 0 24 wordsL := rowLit wordsL B1 rfl rfl
 refine Zo mvP ?_
 refine Zr [.pointer _, .int _ _] rfl η Tryz.func38 (inx_calls hb hl ω ω ω) ?_
 rintro e w3 ⟨nx3, rfl, hx3, F3, hn3⟩
 refine ⟨_, rfl, ?_⟩
 have Q3 := F3.size
 replace hV := Z1 hV F3 (.inr (by simp))
 replace hrb1 := hrb1.evo F3 θ
 replace hb := hn3
 clear hn3
 refine Zo (run_ix (nx3.toNat) rfl Tryz.underlying77 ty_9 η η ω (by show _ < 24; omega) (hrb1.addr (i := nx3.toNat) (by show _ < 24; omega))) ?_
 have hA4 := hrb1.atD (nx3.toNat) (by show _ < 24; omega)
 refine Zo (run_ld1 rfl ag_9 η (hA4.cell 0 η)) ?_
 refine Zn asT ?_
 refine r_ret (res1 (v := S _) rfl η) ?_
 exact ⟨_, N + 1, rfl, iwords_bd _, by omega, hV, hb⟩
theorem line_calls {T bs : Nat} {ao : Option Addr} {b off cap : Nat} {l : List Int} {N : Nat} {n : Int} {w0 : World} (hb : Blk w0 bs T [.slice ao l.length cap, .int .i64 (N : Nat)]) (hl : ∀ w', Evo w0 w' [bs] → RowE w' ao b off cap l) (hN : N ≤ 800000) (hn0 : 0 ≤ n) (hn3 : n ≤ 3) (hbs : bs < w0.heap.size) :
    Calls Tryz.prog 74 #[.pointer (some ⟨bs, 0, none⟩), .int .i64 n] w0 fun e w' => ∃ t : Str, ∃ N', e = .returned (S t) ∧ t.length ≤ 18 ∧ (N ≤ N' ∧ N' ≤ N + 7) ∧ Evo w0 w' [bs] ∧ Blk w' bs T [.slice ao l.length cap, .int .i64 (N' : Nat)] := by
 have hAs := hb.at; have hbslt := hb.lt
 refine calls_enter (n := 31) Tryz.func74 rfl Tryz.ntmps74 rfl ?_
 have hV : Evo w0 w0 [bs] := Evo.refl _ _
 have hl0 := hl
 replace hl := hl0 _ hV
 have hbd_hl := hl.bd
 refine Zs ?_
 refine Zn asT ?_
 refine Zs ?_
 refine Zn asT ?_
 refine r_seq ?_
 refine Zs ?_
 refine Zo mvP ?_
 refine Zo mvI ?_
 refine Zo (run_add rfl η η ω ω) ?_
 refine Zr [.pointer _, .int _ _] rfl η Tryz.func38 (inx_calls hb hl ω ω ω) ?_
 rintro e w1 ⟨nx1, rfl, hx1, F1, hn1⟩
 refine ⟨_, rfl, ?_⟩
 have Q1 := F1.size
 replace hV := Z1 hV F1 (.inr (by simp))
 replace hl := hl0 _ hV
 replace hb := hn1
 clear hn1
 have hAs := hb.at
 refine Zn asI ?_
 refine r_block ?_
 refine r_loop (α := Nat) [5, 6, 7, 12, 13, 14, 15, 16, 17, 18, 19, 20, 21, 22, 23, 24, 25, 26, 27, 28, 29] (fun i g w => ∃ t : Str, ∃ N1 : Nat, g 6 = .int .i64 (i : Nat) ∧ g 5 = S t ∧ Blk w bs T [.slice ao l.length cap, .int .i64 (N1 : Nat)] ∧ At w bs 0 [.slice ao l.length cap, .int .i64 (N1 : Nat)] ∧ (N + 1 ≤ N1 ∧ N1 + 2 * i ≤ N + 7) ∧ (t.length + 6 * i ≤ 18) ∧ w1.heap.size ≤ w.heap.size ∧ Evo w0 w [bs]) (fun i => i) nx1.toNat ?_ ?_
 ·refine ⟨[], _, (congrArg (Value.int _) ω), rfl, hb, hb.at, δ, θ, δ, hV⟩
 rintro i g w3 ⟨t, N1, hj4, hj5, hb, hAs, hN1, htl, hzl2, hV⟩
 have hs_w3hV := hV.size
 have hlt6 := hb.lt
 refine Zk 6 (v := .int .i64 (i : Nat)) (by exact hj4) ?_
 refine Zk 5 (v := S t) (by exact hj5) ?_
 refine r_seq ?_
 refine Zs ?_
 refine Zo mvI ?_
 refine Zn (run_gtr rfl η η) ?_
 refine r_cond η (fun hc7 => ?_) (fun hc7 => ?_)
 ·skip
  refine r_skip ?_
  refine r_seq ?_
  refine r_block ?_
  refine Zs ?_
  refine Zo mvP ?_
  refine Zr [.pointer _] rfl η Tryz.func125 (word_calls hb (fun w9 h9 => hl0 _ (Evo.trans hV h9 (fun x hx _ => hx))) ω) ?_
  rintro e w8 ⟨tw8, Nw8, rfl, htw8, hNw8, F8, hn8⟩
  refine ⟨_, rfl, ?_⟩
  have Q8 := F8.size
  replace hV := Z1 hV F8 (.inr (by simp))
  replace hl := hl0 _ hV
  replace hb := hn8
  clear hn8
  have hAs := hb.at
  refine Zn asT ?_
  refine r_seq ?_
  refine Zs ?_
  refine Zo mvT ?_
  refine Zo (run_sneq rfl η η) ?_
  refine Zo mvB ?_
  refine r_g rfl (wantT η) rfl (fun hg => mvP) ?_
  refine r_gnext rfl (wantT η) rfl (fun hg => run_callf rfl (argcons (v := .pointer _) (glv η (fun h => h) hg) (argcons (v := .int _ _) η (rfl))) Tryz.func38 rfl ζ) (fun hg => (inx_calls hb hl ω ω ω)) hb ?_
  intro nx10 w9 Ng10 hx10 F10 hna10 hnb10 hbn
  have Q9 := F10.size
  replace hV := Z1 hV F10 (.inr (by simp))
  replace hl := hl0 _ hV
  replace hb := hbn
  clear hbn
  have hAs := hb.at
  refine r_g rfl (wantT η) rfl (fun hg => run_gtr rfl (glv η (fun h => h) hg) η) ?_
  refine Zn (run_pick_and rfl η (fun hq => glv η (fun h => h) hq) rfl) ?_
  refine r_cond η (fun hc11 => ?_) (fun hc11 => ?_)
  ·skip
   refine r_region ?_
   refine Zo mvT ?_
   refine Zo (run_sadd rfl η η (by first | omega | (simp; done) | (simp; omega))) ?_
   refine Zn asT ?_
   refine r_region ?_
   refine Zo mvT ?_
   refine Zo mvT ?_
   refine Zo (run_sadd rfl η η (by first | omega | (simp; done) | (simp; omega))) ?_
   refine Zn asT ?_
   refine r_blk ?_
   refine r_region ?_
   refine Zo mvI ?_
   refine Zo (run_sub rfl η η ω ω) ?_
   refine Zn asI ?_
   refine r_again (i - 1) ?_ ?_ ?_
   ·first | omega | (dsimp only; omega)
   ·refine ⟨_, _, σ, rfl, hb, hb.at, δ, (by first | omega | (simp; omega)), δ, hV⟩
   exact ψ
  refine r_skip ?_
  refine r_region ?_
  refine Zo mvT ?_
  refine Zo mvT ?_
  refine Zo (run_sadd rfl η η (by first | omega | (simp; done) | (simp; omega))) ?_
  refine Zn asT ?_
  refine r_blk ?_
  refine r_region ?_
  refine Zo mvI ?_
  refine Zo (run_sub rfl η η ω ω) ?_
  refine Zn asI ?_
  refine r_again (i - 1) ?_ ?_ ?_
  ·first | omega | (dsimp only; omega)
  ·refine ⟨_, _, σ, rfl, hb, hb.at, δ, (by first | omega | (simp; omega)), δ, hV⟩
  exact ψ
 refine r_exit rfl ?_
 refine Zs ?_
 refine Zo mvT ?_
 refine Zn asT ?_
 refine r_ret (res1 (v := S _) rfl η) ?_
 exact ⟨_, N1, rfl, by omega, by omega, hV, hb⟩
theorem rconcat_calls {aoa aob : Option Addr} {ba offa capa bb offb capb : Nat} {a b : List Vc.Item} {w0 : World} (ha : RowE w0 aoa ba offa capa a) (hb : RowE w0 aob bb offb capb b) (hsm : Small (a ++ b)) :
    Calls Tryz.prog 76 #[.slice aoa a.length capa, .slice aob b.length capb] w0 fun e w' => ∃ v, e = .returned v ∧ Evo w0 w' [] ∧ OwnE w' w0.heap.size 32 v (normL (a ++ b)) := by
 have hs9 := hsm.1; rw [List.length_append] at hs9
 refine calls_enter (n := 10) Tryz.func76 rfl Tryz.ntmps76 rfl ?_
 have hV : Evo w0 w0 [] := Evo.refl _ _
 have ha0 := keepE ha
 have hbd_ha := ha.bd
 have hb0 := keepE hb
 have hbd_hb := hb.bd
 refine Zs ?_
 refine Zn asS ?_
 refine Zs ?_
 refine Zo mvS ?_
 refine r_appendE rfl Tryz.underlying33 ty_32 η (OwnE.nil (α := Vc.Item) _ w0.heap.size _) η η ha rfl (θ) (θ) ω ?_
 intro v1 w2 E2 hov1 hlv1
 have Q2 := E2.size
 replace hV := Z0 hV E2
 replace hb := hb0 _ hV
 refine Zo mvS ?_
 refine r_appendE rfl Tryz.underlying33 ty_32 η hov1 η η hb rfl (θ) (θ) ω ?_
 intro v3 w4 E4 hov3 hlv3
 have Q4 := E4.size
 replace hV := evo_stepo hV E4 (fun g hg => .inl (by first | exact (hov1.block hg).1 | (have := hov1.block hg; omega)))
 replace ha := ha0 _ hV
 replace hb := hb0 _ hV
 obtain ⟨ao5, g5, cp5, hv5, hr5, hg5⟩ := hov3.rowOf
 subst hv5
 refine Zr [.slice _ _ _] rfl η Tryz.func126 (rnormalize_calls hr5 (by first | assumption | exact hsm | exact small_ren (by assumption))) ?_
 rintro e w6 ⟨vn6, rfl, F6, hon6⟩
 refine ⟨_, rfl, ?_⟩
 have Q6 := F6.size
 replace hV := Z0 hV F6
 refine Zn (run_asg (v := vn6) rfl η) ?_
 refine r_ret (res1 (v := vn6) rfl η) ?_
 exact ⟨_, rfl, hV, by have h9 := hon6; rw [List.nil_append] at h9; exact h9.base_le ω⟩
set_option maxHeartbeats 4000000 in
theorem fragment_calls {T bs : Nat} {ao : Option Addr} {b off cap : Nat} {l : List Int} {N : Nat} {n : Int} {tags nested : Bool} {w0 : World} (hb : Blk w0 bs T [.slice ao l.length cap, .int .i64 (N : Nat)]) (hl : ∀ w', Evo w0 w' [bs] → RowE w' ao b off cap l) (hN : N ≤ 100000) (hn0 : 0 ≤ n) (hn9 : n ≤ 100) :
    Calls Tryz.prog 41 #[.pointer (some ⟨bs, 0, none⟩), .int .i64 n, .bool tags, .bool nested] w0 fun e w' => ∃ v, ∃ f : List Vc.Item, ∃ N', e = .returned v ∧ (valGo [] f = 0 ∧ (f.length : Int) ≤ 2 * n ∧ (sizeL f : Int) ≤ 30 * n ∧ (nested = true → shapeL f = some ([], []))) ∧ (N ≤ N' ∧ N' ≤ N + 2000) ∧ Evo w0 w' [bs] ∧ Blk w' bs T [.slice ao l.length cap, .int .i64 (N' : Nat)] ∧ OwnE w' w0.heap.size 32 v f := by
 have hAs := hb.at; have hbslt := hb.lt
 refine calls_enter (n := 141) Tryz.func41 rfl Tryz.ntmps41 rfl ?_
 have hV : Evo w0 w0 [bs] := Evo.refl _ _
 have hl0 := hl
 replace hl := hl0 _ hV
 have hbd_hl := hl.bd
 refine Zs ?_
 refine Zn asS ?_
 refine Zs ?_
 refine Zo asS ?_
 refine Zn asS ?_
 refine Zs ?_
 refine Zn asI ?_
 refine r_seq ?_
 refine Zs ?_
 refine Zo mvP ?_
 refine Zo mvI ?_
 refine Zo (run_add rfl η η ω ω) ?_
 refine Zr [.pointer _, .int _ _] rfl η Tryz.func38 (inx_calls hb hl ω ω ω) ?_
 rintro e w1 ⟨nx1, rfl, hx1, F1, hn1⟩
 refine ⟨_, rfl, ?_⟩
 have Q1 := F1.size
 replace hV := Z1 hV F1 (.inr (by simp))
 replace hl := hl0 _ hV
 replace hb := hn1
 clear hn1
 have hAs := hb.at
 refine Zn asI ?_
 refine r_block ?_
 refine r_loop (α := Nat) [9, 10, 11, 12, 13, 14, 20, 21, 22, 23, 24, 25, 26, 27, 28, 29, 30, 31, 32, 33, 34, 35, 36, 37, 38, 39, 40, 41, 42, 43, 44, 45, 46, 47, 48, 49, 50, 51, 52, 53, 54, 55, 56, 57, 58, 59, 60, 61, 62, 63, 64, 65, 66, 67, 68, 69, 70, 71, 72, 73, 74, 75, 76, 77, 78, 79, 80, 81, 82, 83, 84, 85, 86, 87, 88, 89, 90, 91, 92, 93, 94, 95, 96, 97, 98, 99, 100, 101, 102, 103, 104, 105, 106, 107, 108, 109, 110, 111, 112, 113, 114] (fun i g w => ∃ vf : Value, ∃ vo : Value, ∃ f : List Vc.Item, ∃ op : List Vc.Item, ∃ idn : Int, ∃ N1 : Nat, g 12 = .int .i64 (i : Nat) ∧ g 9 = vf ∧ g 10 = vo ∧ g 11 = .int .i64 idn ∧ OwnE w w0.heap.size 32 vf f ∧ OwnE w w0.heap.size 32 vo op ∧ Blk w bs T [.slice ao l.length cap, .int .i64 (N1 : Nat)] ∧ At w bs 0 [.slice ao l.length cap, .int .i64 (N1 : Nat)] ∧ FI f op idn ∧ NS nested f op ∧ (f.length + i ≤ nx1.toNat ∧ sizeL f + 18 * i ≤ 18 * nx1.toNat ∧ op.length + i ≤ nx1.toNat ∧ idn + i ≤ nx1.toNat ∧ N + 1 ≤ N1 ∧ N1 + 11 * i ≤ N + 1 + 11 * nx1.toNat) ∧ (∀ g, vf.ownBlock = some g → ∀ h, vo.ownBlock = some h → g ≠ h) ∧ (∀ o ∈ op, o.text.length ≤ 5) ∧ w1.heap.size ≤ w.heap.size ∧ Evo w0 w [bs]) (fun i => i) nx1.toNat ?_ ?_
 ·refine ⟨_, _, [], [], _, _, (congrArg (Value.int _) ω), rfl, rfl, rfl, (OwnE.nil _ _ _), (OwnE.nil _ _ _), hb, hb.at, FI.nil, (NS.nil _), (by first | (simp [sizeL]; done) | (simp [sizeL]; omega)), (fun g hg => by have h9 : (none : Option Nat) = some g := hg; cases h9), (by simp), δ, hV⟩
 rintro i g w3 ⟨vf, vo, f, op, idn, N1, hj4, hj5, hj6, hj7, hof, hop, hb, hAs, hFI, hNS, hsz, hsep, hopt, hzl2, hV⟩
 have hs_w3hV := hV.size
 have hlt8 := hb.lt
 replace hl := hl0 _ hV
 refine Zk 12 (v := .int .i64 (i : Nat)) (by exact hj4) ?_
 refine Zk 9 (v := vf) (by exact hj5) ?_
 refine Zk 10 (v := vo) (by exact hj6) ?_
 refine Zk 11 (v := .int .i64 idn) (by exact hj7) ?_
 refine r_seq ?_
 refine Zs ?_
 refine Zo mvI ?_
 refine Zn (run_gtr rfl η η) ?_
 refine r_cond η (fun hc9 => ?_) (fun hc9 => ?_)
 ·skip
  refine r_skip ?_
  refine r_seq ?_
  refine r_block ?_
  refine r_seq ?_
  have hpos := hFI.pos; have hobF := fun g hg => (hof.block (g := g) hg).2; have hobP := fun g hg => (hop.block (g := g) hg).2
  refine r_region ?_
  refine Zo mvP ?_
  refine Zr [.pointer _, .int _ _] rfl η Tryz.func74 (line_calls hb (fun w9 h9 => hl0 _ (Evo.trans hV h9 (fun x hx _ => hx))) ω ω ω ω) ?_
  rintro e w10 ⟨tl10, Nl10, rfl, htl10, hNl10, F10, hn10⟩
  refine ⟨_, rfl, ?_⟩
  have Q10 := F10.size
  replace hV := Z1 hV F10 (.inr (by simp))
  replace hof := hof.evo F10 (by intro g hg hm; simp at hm; subst hm; have := hof.block hg; omega)
  replace hop := hop.evo F10 (by intro g hg hm; simp at hm; subst hm; have := hop.block hg; omega)
  replace hb := hn10
  clear hn10
  have hAs := hb.at
  refine Zo (run_bld (pv := [(0, .int _ _), (1, S _)]) (zs := [_, _, _]) (cells := [_, _, _]) rfl ty_32 η pl_32 η η) ?_
  have hob11 := fun g hg => (hof.block (g := g) hg).2
  have hob12 := fun g hg => (hop.block (g := g) hg).2
  refine r_var (zs := [_, _, _]) (vs := [_, _, _]) ty_32 η rfl η (fun _ => rfl) η rfl rfl η ?_
  intro b13 w14 J13 E14 B13 Y13
  have Q14 := E14.size
  replace hV := Z0 hV E14
  replace hl := hl0 _ hV
  replace hof := hof.evo0 E14
  replace hop := hop.evo0 E14
  replace hb := hb.evo0 E14
  replace hAs := hAs.evo0 E14
  have hAb13 := B13.at
  refine r_nil ?_
  refine r_seq ?_
  refine r_seq ?_
  have hofx : ∀ g, vf.ownBlock = some g → g ≠ b13 := fun g hg h => by have := hobF g hg; omega
  have hopx : ∀ g, vo.ownBlock = some g → g ≠ b13 := fun g hg h => by have := hobP g hg; omega
  refine r_region ?_
  refine Zo mvP ?_
  refine Zr [.pointer _, .int _ _] rfl η Tryz.func38 (inx_calls hb hl ω ω ω) ?_
  rintro e w15 ⟨nx15, rfl, hx15, F15, hn15⟩
  refine ⟨_, rfl, ?_⟩
  have Q15 := F15.size
  replace hV := Z1 hV F15 (.inr (by simp))
  replace hl := hl0 _ hV
  replace hof := hof.evo F15 (by intro g hg hm; simp at hm; subst hm; have := hof.block hg; omega)
  replace hop := hop.evo F15 (by intro g hg hm; simp at hm; subst hm; have := hop.block hg; omega)
  replace B13 := B13.evo F15 θ
  replace hAb13 := hAb13.evo F15 θ
  replace hb := hn15
  clear hn15
  have hAs := hb.at
  refine r_nil ?_
  refine r_block ?_
  refine r_seq ?_
  refine Zs ?_
  refine Zo (run_eql rfl η η) ?_
  refine Zn asB ?_
  refine r_cond η (fun hc16 => ?_) (fun hc16 => ?_)
  ·skip
   refine r_skip ?_
   refine r_cut [10, 11, 14, 32, 33, 34, 35, 36, 37, 38, 39, 40, 41, 42, 43, 44, 45, 46, 47, 48, 49, 50, 51, 52, 53, 54, 55, 56, 57, 58, 59, 60, 61, 62, 63, 64, 65, 66, 67, 68, 69, 70, 71, 72, 73, 74, 75, 76, 77, 78, 79, 80, 81, 82, 83, 84, 85, 86, 87, 88, 89, 90, 91, 92, 93, 94, 95, 96, 97, 98, 99, 100, 101, 102, 103, 104, 105, 106, 107, 108, 109, 110] (fun g w => ∃ vo2 : Value, ∃ op2 : List Vc.Item, ∃ idn2 : Int, ∃ N2 : Nat, ∃ kx : Int, ∃ tx : Str, ∃ ix : Int, g 10 = vo2 ∧ g 11 = .int .i64 idn2 ∧ OwnE w w0.heap.size 32 vf f ∧ OwnE w w0.heap.size 32 vo2 op2 ∧ Blk w b13 32 [.int .i64 kx, S tx, .int .i64 ix] ∧ At w b13 0 [.int .i64 kx, S tx, .int .i64 ix] ∧ Blk w bs T [.slice ao l.length cap, .int .i64 (N2 : Nat)] ∧ At w bs 0 [.slice ao l.length cap, .int .i64 (N2 : Nat)] ∧ (FI (normStep f ⟨kx, tx, ix⟩) op2 idn2) ∧ (NS nested (normStep f ⟨kx, tx, ix⟩) op2) ∧ (tx.length ≤ 18 ∧ op2.length ≤ op.length + 1 ∧ idn2 ≤ idn + 1 ∧ N1 ≤ N2 ∧ N2 ≤ N1 + 11) ∧ (∀ o ∈ op2, o.text.length ≤ 5) ∧ w15.heap.size ≤ w.heap.size ∧ Evo w0 w [bs]) ?_ ?_
   ·skip
    refine r_condT η hc16 ?_
    refine r_region ?_
    refine r_bslice (pv := [(0, S _), (1, S _), (2, S _)]) (zs := [_]) (cs := [_, _, _]) Tryz.underlying77 ty_9 η rfl η rfl η ?_
    intro b18 w19 J18 E19 B18 Y18
    have Q19 := E19.size
    replace hV := Z0 hV E19
    replace hl := hl0 _ hV
    replace hof := hof.evo0 E19
    replace hop := hop.evo0 E19
    replace B13 := B13.evo0 E19
    replace hAb13 := hAb13.evo0 E19
    replace hb := hb.evo0 E19
    replace hAs := hAs.evo0 E19
    have hrb18 : RowE w19 (some ⟨b18, 0, none⟩) b18 0 3 slotW := rowLit slotW B18 rfl rfl
    refine Zo mvP ?_
    refine Zr [.pointer _, .int _ _] rfl η Tryz.func38 (inx_calls hb hl ω ω ω) ?_
    rintro e w20 ⟨nx20, rfl, hx20, F20, hn20⟩
    refine ⟨_, rfl, ?_⟩
    have Q20 := F20.size
    replace hV := Z1 hV F20 (.inr (by simp))
    replace hof := hof.evo F20 (by intro g hg hm; simp at hm; subst hm; have := hof.block hg; omega)
    replace hop := hop.evo F20 (by intro g hg hm; simp at hm; subst hm; have := hop.block hg; omega)
    replace B13 := B13.evo F20 θ
    replace hAb13 := hAb13.evo F20 θ
    replace hrb18 := hrb18.evo F20 θ
    replace hb := hn20
    clear hn20
    have hAs := hb.at
    refine Zo (run_ix (nx20.toNat) rfl Tryz.underlying77 ty_9 η η ω (by show _ < 3; omega) (hrb18.addr (i := nx20.toNat) (by show _ < 3; omega))) ?_
    have hA21 := hrb18.atD (nx20.toNat) (by show _ < 3; omega)
    refine Zo (run_ld1 rfl ag_9 η (hA21.cell 0 η)) ?_
    refine Zo (run_bld (pv := [(0, .int _ _), (1, S _)]) (zs := [_, _, _]) (cells := [_, _, _]) rfl ty_32 η pl_32 η η) ?_
    refine r_store (v := .agg _) (vs := [_, _, _]) (cs' := [_, _, _]) η η B13 ty_32 η rfl η rfl η ?_
    intro w22 E22 V22 hb_new
    have Q22 := E22.size
    replace hV := Z1 hV E22 ε
    replace hl := hl0 _ hV
    replace hof := hof.evo E22 (by intro g hg hm; simp at hm; subst hm; exact hofx _ hg rfl)
    replace hop := hop.evo E22 (by intro g hg hm; simp at hm; subst hm; exact hopx _ hg rfl)
    replace hb := hb.evo E22 θ
    replace B13 := hb_new
    have hAb13 := B13.at
    clear hb_new
    refine r_nil ?_
    refine r_cut_end ?_ ?_
    ·refine ⟨_, _, _, _, _, _, _, rfl, rfl, hof, (hop.base_le ω), B13, B13.at, hb, hb.at, (by first | exact hFI.text _ | exact hFI.slot (slotW_ok _ ω).1 | exact hFI.empty (emptyW_ok _ ω).1 ω | exact hFI.open_ (openW_ok _ ω).1 ω | exact hFI.close ω ω | exact hFI.closeNew (by decide) ω), (by first | exact hNS.otherB rfl rfl | exact hNS.open_ _ _ | exact hNS.close ω (fun h9 => by first | rfl | exact absurd h9 hc16) _ | exact NS.closeNew (hc16).2), ⟨by first | omega | exact Nat.le_trans (slotW_ok _ ω).2 (by decide) | exact Nat.le_trans (emptyW_ok _ ω).2 (by decide) | exact Nat.le_trans (openW_ok _ ω).2 (by decide) | exact Nat.le_trans (nameL_len _) (Nat.le_trans (text5 hopt _) (by decide)) | decide, by first | omega | (simp; done) | (simp; omega), by omega, by omega, by omega⟩, (by first | exact hopt | exact (fun o ho => (List.mem_append.1 ho).elim (hopt o) (fun h => by simp at h; subst h; exact (openW_ok _ ω).2)) | exact (fun o ho => (List.mem_append.1 ho).elim (fun h => hopt o (List.mem_of_mem_take h)) (fun h => hopt o (List.mem_of_mem_drop h)))), δ, hV⟩
    exact ψ
   rintro g w23 ⟨vo2, op2, idn2, N2, kx, tx, ix, hj24, hj25, hof, hop, B13, hAb13, hb, hAs, hFX, hNX, hsz2, hop2, hzl17, hV⟩
   have hs_w23hV := hV.size
   have hlt26 := B13.lt
   have hlt27 := hb.lt
   refine Zk 10 (v := vo2) (by exact hj24) ?_
   refine Zk 11 (v := .int .i64 idn2) (by exact hj25) ?_
   refine r_blk ?_
   have hobZ := fun g hg => (hop.block (g := g) hg).2
   have s32 : Small (f ++ [⟨kx, tx, ix⟩]) := ⟨by rw [List.length_append]; simp; omega, by rw [sizeL_append, sizeL_one]; simp; omega⟩
   refine r_region ?_
   refine Zo (run_mv (v := vf) rfl η) ?_
   refine Zo (run_ldN rfl ag_32 ty_32 η rfl hAb13) ?_
   refine r_bslice (pv := [(0, .agg _)]) (zs := [_, _, _]) (cs := [_, _, _]) Tryz.underlying33 ty_32 η rfl η rfl η ?_
   intro b28 w29 J28 E29 B28 Y28
   have Q29 := E29.size
   replace hV := Z0 hV E29
   replace hl := hl0 _ hV
   replace hof := hof.evo0 E29
   replace hop := hop.evo0 E29
   replace hb := hb.evo0 E29
   have hrb28 : RowE w29 (some ⟨b28, 0, none⟩) b28 0 1 ([⟨kx, tx, ix⟩] : List Vc.Item) := rowLit ([⟨kx, tx, ix⟩] : List Vc.Item) B28 rfl rfl
   obtain ⟨ao30, g30, cp30, hv30, hr30, hg30⟩ := hof.rowOf
   subst hv30
   refine Zr [.slice _ _ _, .slice (some ⟨b28, 0, none⟩) _ _] rfl η Tryz.func76 (rconcat_calls hr30 hrb28 (by assumption)) ?_
   rintro e w31 ⟨vn31, rfl, F31, hon31⟩
   refine ⟨_, rfl, ?_⟩
   have Q31 := F31.size
   replace hV := Z0 hV F31
   replace hl := hl0 _ hV
   replace hof := hof.evo0 F31
   replace hop := hop.evo0 F31
   replace hb := hb.evo0 F31
   replace hrb28 := hrb28.evo0 F31
   replace hr30 := hr30.evo0 F31
   refine Zn (run_asg (v := vn31) rfl η) ?_
   refine r_blk ?_
   refine r_region ?_
   refine Zo mvI ?_
   refine Zo (run_sub rfl η η ω ω) ?_
   refine Zn asI ?_
   refine r_again (i - 1) ?_ ?_ ?_
   ·first | omega | (dsimp only; omega)
   ·refine ⟨_, _, _, _, _, _, σ, rfl, rfl, rfl, (hon31.base_le ω), hop, hb, hb.at, (by rw [hFI.norm]; exact hFX), (by rw [hFI.norm]; exact hNX), (by have h1 := normL_len (f ++ [⟨kx, tx, ix⟩]); have h2 := normL_size (f ++ [⟨kx, tx, ix⟩]); rw [List.length_append] at h1; rw [sizeL_append, sizeL_one] at h2; simp at h1 h2; omega), (fun g hg h hh => by have h1 := (hon31).block (g := g) hg; have h2 := hobZ h hh; omega), hop2, δ, hV⟩
   exact ψ
  refine r_region ?_
  refine Zo (run_eql rfl η η) ?_
  refine Zn asB ?_
  refine r_cut [10, 11, 14, 32, 33, 34, 35, 36, 37, 38, 39, 40, 41, 42, 43, 44, 45, 46, 47, 48, 49, 50, 51, 52, 53, 54, 55, 56, 57, 58, 59, 60, 61, 62, 63, 64, 65, 66, 67, 68, 69, 70, 71, 72, 73, 74, 75, 76, 77, 78, 79, 80, 81, 82, 83, 84, 85, 86, 87, 88, 89, 90, 91, 92, 93, 94, 95, 96, 97, 98, 99, 100, 101, 102, 103, 104, 105, 106, 107, 108, 109, 110] (fun g w => ∃ vo2 : Value, ∃ op2 : List Vc.Item, ∃ idn2 : Int, ∃ N2 : Nat, ∃ kx : Int, ∃ tx : Str, ∃ ix : Int, g 10 = vo2 ∧ g 11 = .int .i64 idn2 ∧ OwnE w w0.heap.size 32 vf f ∧ OwnE w w0.heap.size 32 vo2 op2 ∧ Blk w b13 32 [.int .i64 kx, S tx, .int .i64 ix] ∧ At w b13 0 [.int .i64 kx, S tx, .int .i64 ix] ∧ Blk w bs T [.slice ao l.length cap, .int .i64 (N2 : Nat)] ∧ At w bs 0 [.slice ao l.length cap, .int .i64 (N2 : Nat)] ∧ (FI (normStep f ⟨kx, tx, ix⟩) op2 idn2) ∧ (NS nested (normStep f ⟨kx, tx, ix⟩) op2) ∧ (tx.length ≤ 18 ∧ op2.length ≤ op.length + 1 ∧ idn2 ≤ idn + 1 ∧ N1 ≤ N2 ∧ N2 ≤ N1 + 11) ∧ (∀ o ∈ op2, o.text.length ≤ 5) ∧ w15.heap.size ≤ w.heap.size ∧ Evo w0 w [bs]) ?_ ?_
  ·skip
   refine r_cond η (fun hc33 => ?_) (fun hc33 => ?_)
   ·skip
    refine r_region ?_
    refine r_bslice (pv := [(0, S _), (1, S _), (2, S _)]) (zs := [_]) (cs := [_, _, _]) Tryz.underlying77 ty_9 η rfl η rfl η ?_
    intro b34 w35 J34 E35 B34 Y34
    have Q35 := E35.size
    replace hV := Z0 hV E35
    replace hl := hl0 _ hV
    replace hof := hof.evo0 E35
    replace hop := hop.evo0 E35
    replace B13 := B13.evo0 E35
    replace hAb13 := hAb13.evo0 E35
    replace hb := hb.evo0 E35
    replace hAs := hAs.evo0 E35
    have hrb34 : RowE w35 (some ⟨b34, 0, none⟩) b34 0 3 slotW := rowLit slotW B34 rfl rfl
    refine Zo mvP ?_
    refine Zr [.pointer _, .int _ _] rfl η Tryz.func38 (inx_calls hb hl ω ω ω) ?_
    rintro e w36 ⟨nx36, rfl, hx36, F36, hn36⟩
    refine ⟨_, rfl, ?_⟩
    have Q36 := F36.size
    replace hV := Z1 hV F36 (.inr (by simp))
    replace hof := hof.evo F36 (by intro g hg hm; simp at hm; subst hm; have := hof.block hg; omega)
    replace hop := hop.evo F36 (by intro g hg hm; simp at hm; subst hm; have := hop.block hg; omega)
    replace B13 := B13.evo F36 θ
    replace hAb13 := hAb13.evo F36 θ
    replace hrb34 := hrb34.evo F36 θ
    replace hb := hn36
    clear hn36
    have hAs := hb.at
    refine Zo (run_ix (nx36.toNat) rfl Tryz.underlying77 ty_9 η η ω (by show _ < 3; omega) (hrb34.addr (i := nx36.toNat) (by show _ < 3; omega))) ?_
    have hA37 := hrb34.atD (nx36.toNat) (by show _ < 3; omega)
    refine Zo (run_ld1 rfl ag_9 η (hA37.cell 0 η)) ?_
    refine Zo (run_bld (pv := [(0, .int _ _), (1, S _)]) (zs := [_, _, _]) (cells := [_, _, _]) rfl ty_32 η pl_32 η η) ?_
    refine r_store (v := .agg _) (vs := [_, _, _]) (cs' := [_, _, _]) η η B13 ty_32 η rfl η rfl η ?_
    intro w38 E38 V38 hb_new
    have Q38 := E38.size
    replace hV := Z1 hV E38 ε
    replace hl := hl0 _ hV
    replace hof := hof.evo E38 (by intro g hg hm; simp at hm; subst hm; exact hofx _ hg rfl)
    replace hop := hop.evo E38 (by intro g hg hm; simp at hm; subst hm; exact hopx _ hg rfl)
    replace hb := hb.evo E38 θ
    replace B13 := hb_new
    have hAb13 := B13.at
    clear hb_new
    refine r_nil ?_
    refine r_cut_end ?_ ?_
    ·refine ⟨_, _, _, _, _, _, _, rfl, rfl, hof, (hop.base_le ω), B13, B13.at, hb, hb.at, (by first | exact hFI.text _ | exact hFI.slot (slotW_ok _ ω).1 | exact hFI.empty (emptyW_ok _ ω).1 ω | exact hFI.open_ (openW_ok _ ω).1 ω | exact hFI.close ω ω | exact hFI.closeNew (by decide) ω), (by first | exact hNS.otherB rfl rfl | exact hNS.open_ _ _ | exact hNS.close ω (fun h9 => by first | rfl | exact absurd h9 hc33) _ | exact NS.closeNew (hc33).2), ⟨by first | omega | exact Nat.le_trans (slotW_ok _ ω).2 (by decide) | exact Nat.le_trans (emptyW_ok _ ω).2 (by decide) | exact Nat.le_trans (openW_ok _ ω).2 (by decide) | exact Nat.le_trans (nameL_len _) (Nat.le_trans (text5 hopt _) (by decide)) | decide, by first | omega | (simp; done) | (simp; omega), by omega, by omega, by omega⟩, (by first | exact hopt | exact (fun o ho => (List.mem_append.1 ho).elim (hopt o) (fun h => by simp at h; subst h; exact (openW_ok _ ω).2)) | exact (fun o ho => (List.mem_append.1 ho).elim (fun h => hopt o (List.mem_of_mem_take h)) (fun h => hopt o (List.mem_of_mem_drop h)))), δ, hV⟩
    exact ψ
   refine Zs ?_
   refine Zo (run_eql rfl η η) ?_
   refine Zn asB ?_
   refine r_cond η (fun hc39 => ?_) (fun hc39 => ?_)
   ·skip
    refine Zs ?_
    refine Zn (run_mvb rfl η) ?_
    refine r_cond η (fun hc40 => ?_) (fun hc40 => ?_)
    ·skip
     refine Zs ?_
     refine Zo mvI ?_
     refine Zo (run_add rfl η η ω ω) ?_
     refine Zn asI ?_
     refine r_region ?_
     refine r_bslice (pv := [(0, S _), (1, S _)]) (zs := [_]) (cs := [_, _]) Tryz.underlying77 ty_9 η rfl η rfl η ?_
     intro b41 w42 J41 E42 B41 Y41
     have Q42 := E42.size
     replace hV := Z0 hV E42
     replace hl := hl0 _ hV
     replace hof := hof.evo0 E42
     replace hop := hop.evo0 E42
     replace B13 := B13.evo0 E42
     replace hAb13 := hAb13.evo0 E42
     replace hb := hb.evo0 E42
     replace hAs := hAs.evo0 E42
     have hrb41 : RowE w42 (some ⟨b41, 0, none⟩) b41 0 2 emptyW := rowLit emptyW B41 rfl rfl
     refine Zo mvP ?_
     refine Zr [.pointer _, .int _ _] rfl η Tryz.func38 (inx_calls hb hl ω ω ω) ?_
     rintro e w43 ⟨nx43, rfl, hx43, F43, hn43⟩
     refine ⟨_, rfl, ?_⟩
     have Q43 := F43.size
     replace hV := Z1 hV F43 (.inr (by simp))
     replace hof := hof.evo F43 (by intro g hg hm; simp at hm; subst hm; have := hof.block hg; omega)
     replace hop := hop.evo F43 (by intro g hg hm; simp at hm; subst hm; have := hop.block hg; omega)
     replace B13 := B13.evo F43 θ
     replace hAb13 := hAb13.evo F43 θ
     replace hrb41 := hrb41.evo F43 θ
     replace hb := hn43
     clear hn43
     have hAs := hb.at
     refine Zo (run_ix (nx43.toNat) rfl Tryz.underlying77 ty_9 η η ω (by show _ < 2; omega) (hrb41.addr (i := nx43.toNat) (by show _ < 2; omega))) ?_
     have hA44 := hrb41.atD (nx43.toNat) (by show _ < 2; omega)
     refine Zo (run_ld1 rfl ag_9 η (hA44.cell 0 η)) ?_
     refine Zo mvI ?_
     refine Zo (run_bld (pv := [(0, .int _ _), (1, S _), (2, .int _ _)]) (zs := [_, _, _]) (cells := [_, _, _]) rfl ty_32 η pl_32 η η) ?_
     refine r_store (v := .agg _) (vs := [_, _, _]) (cs' := [_, _, _]) η η B13 ty_32 η rfl η rfl η ?_
     intro w45 E45 V45 hb_new
     have Q45 := E45.size
     replace hV := Z1 hV E45 ε
     replace hl := hl0 _ hV
     replace hof := hof.evo E45 (by intro g hg hm; simp at hm; subst hm; exact hofx _ hg rfl)
     replace hop := hop.evo E45 (by intro g hg hm; simp at hm; subst hm; exact hopx _ hg rfl)
     replace hb := hb.evo E45 θ
     replace B13 := hb_new
     have hAb13 := B13.at
     clear hb_new
     refine r_nil ?_
     refine r_cut_end ?_ ?_
     ·refine ⟨_, _, _, _, _, _, _, rfl, rfl, hof, (hop.base_le ω), B13, B13.at, hb, hb.at, (by first | exact hFI.text _ | exact hFI.slot (slotW_ok _ ω).1 | exact hFI.empty (emptyW_ok _ ω).1 ω | exact hFI.open_ (openW_ok _ ω).1 ω | exact hFI.close ω ω | exact hFI.closeNew (by decide) ω), (by first | exact hNS.otherB rfl rfl | exact hNS.open_ _ _ | exact hNS.close ω (fun h9 => by first | rfl | exact absurd h9 hc40) _ | exact NS.closeNew (hc40).2), ⟨by first | omega | exact Nat.le_trans (slotW_ok _ ω).2 (by decide) | exact Nat.le_trans (emptyW_ok _ ω).2 (by decide) | exact Nat.le_trans (openW_ok _ ω).2 (by decide) | exact Nat.le_trans (nameL_len _) (Nat.le_trans (text5 hopt _) (by decide)) | decide, by first | omega | (simp; done) | (simp; omega), by omega, by omega, by omega⟩, (by first | exact hopt | exact (fun o ho => (List.mem_append.1 ho).elim (hopt o) (fun h => by simp at h; subst h; exact (openW_ok _ ω).2)) | exact (fun o ho => (List.mem_append.1 ho).elim (fun h => hopt o (List.mem_of_mem_take h)) (fun h => hopt o (List.mem_of_mem_drop h)))), δ, hV⟩
     exact ψ
    refine r_skip ?_
    refine r_cut_end ?_ ?_
    ·refine ⟨_, _, _, _, _, _, _, rfl, rfl, hof, (hop.base_le ω), B13, B13.at, hb, hb.at, (by first | exact hFI.text _ | exact hFI.slot (slotW_ok _ ω).1 | exact hFI.empty (emptyW_ok _ ω).1 ω | exact hFI.open_ (openW_ok _ ω).1 ω | exact hFI.close ω ω | exact hFI.closeNew (by decide) ω), (by first | exact hNS.otherB rfl rfl | exact hNS.open_ _ _ | exact hNS.close ω (fun h9 => by first | rfl | exact absurd h9 hc40) _ | exact NS.closeNew (hc40).2), ⟨by first | omega | exact Nat.le_trans (slotW_ok _ ω).2 (by decide) | exact Nat.le_trans (emptyW_ok _ ω).2 (by decide) | exact Nat.le_trans (openW_ok _ ω).2 (by decide) | exact Nat.le_trans (nameL_len _) (Nat.le_trans (text5 hopt _) (by decide)) | decide, by first | omega | (simp; done) | (simp; omega), by omega, by omega, by omega⟩, (by first | exact hopt | exact (fun o ho => (List.mem_append.1 ho).elim (hopt o) (fun h => by simp at h; subst h; exact (openW_ok _ ω).2)) | exact (fun o ho => (List.mem_append.1 ho).elim (fun h => hopt o (List.mem_of_mem_take h)) (fun h => hopt o (List.mem_of_mem_drop h)))), δ, hV⟩
    exact ψ
   refine r_seq ?_
   refine Zs ?_
   refine Zo (run_eql rfl η η) ?_
   refine Zn asB ?_
   refine r_cond η (fun hc46 => ?_) (fun hc46 => ?_)
   ·skip
    refine r_skip ?_
    refine r_condT η hc46 ?_
    refine Zs ?_
    refine Zn (run_mvb rfl η) ?_
    refine r_cond η (fun hc47 => ?_) (fun hc47 => ?_)
    ·skip
     refine Zs ?_
     refine Zo mvI ?_
     refine Zo (run_add rfl η η ω ω) ?_
     refine Zn asI ?_
     refine Zs ?_
     refine r_bslice (pv := [(0, S _), (1, S _), (2, S _)]) (zs := [_]) (cs := [_, _, _]) Tryz.underlying77 ty_9 η rfl η rfl η ?_
     intro b48 w49 J48 E49 B48 Y48
     have Q49 := E49.size
     replace hV := Z0 hV E49
     replace hl := hl0 _ hV
     replace hof := hof.evo0 E49
     replace hop := hop.evo0 E49
     replace B13 := B13.evo0 E49
     replace hAb13 := hAb13.evo0 E49
     replace hb := hb.evo0 E49
     replace hAs := hAs.evo0 E49
     have hrb48 : RowE w49 (some ⟨b48, 0, none⟩) b48 0 3 openW := rowLit openW B48 rfl rfl
     refine Zo mvP ?_
     refine Zr [.pointer _, .int _ _] rfl η Tryz.func38 (inx_calls hb hl ω ω ω) ?_
     rintro e w50 ⟨nx50, rfl, hx50, F50, hn50⟩
     refine ⟨_, rfl, ?_⟩
     have Q50 := F50.size
     replace hV := Z1 hV F50 (.inr (by simp))
     replace hof := hof.evo F50 (by intro g hg hm; simp at hm; subst hm; have := hof.block hg; omega)
     replace hop := hop.evo F50 (by intro g hg hm; simp at hm; subst hm; have := hop.block hg; omega)
     replace B13 := B13.evo F50 θ
     replace hAb13 := hAb13.evo F50 θ
     replace hrb48 := hrb48.evo F50 θ
     replace hb := hn50
     clear hn50
     have hAs := hb.at
     refine Zo (run_ix (nx50.toNat) rfl Tryz.underlying77 ty_9 η η ω (by show _ < 3; omega) (hrb48.addr (i := nx50.toNat) (by show _ < 3; omega))) ?_
     have hA51 := hrb48.atD (nx50.toNat) (by show _ < 3; omega)
     refine Zo (run_ld1 rfl ag_9 η (hA51.cell 0 η)) ?_
     refine Zo mvI ?_
     refine Zo (run_bld (pv := [(0, .int _ _), (1, S _), (2, .int _ _)]) (zs := [_, _, _]) (cells := [_, _, _]) rfl ty_32 η pl_32 η η) ?_
     refine r_store (v := .agg _) (vs := [_, _, _]) (cs' := [_, _, _]) η η B13 ty_32 η rfl η rfl η ?_
     intro w52 E52 V52 hb_new
     have Q52 := E52.size
     replace hV := Z1 hV E52 ε
     replace hof := hof.evo E52 (by intro g hg hm; simp at hm; subst hm; exact hofx _ hg rfl)
     replace hop := hop.evo E52 (by intro g hg hm; simp at hm; subst hm; exact hopx _ hg rfl)
     replace hb := hb.evo E52 θ
     replace B13 := hb_new
     have hAb13 := B13.at
     clear hb_new
     refine r_nil ?_
     refine r_region ?_
     refine Zo (run_mv (v := vo) rfl η) ?_
     refine Zo (run_ldN rfl ag_32 ty_32 η rfl hAb13) ?_
     refine r_append1E (u := .agg _) (y := ⟨_, _, _⟩) rfl rfl Tryz.underlying33 ty_32 η hop (fun _ => η) η (by first | exact rfl | (show _ = List.toArray [_, _, _]; first | (dsimp only; done) | exact rfl | (dsimp only; exact rfl))) ((by first | omega | (simp; omega))) ((by first | omega | (simp; omega))) ω ?_
     intro q_v53 v53 w54 E54 hov53 hlv53
     have Q54 := E54.size
     replace hV := evo_stepo hV E54 (fun g hg => .inl (by first | exact (hop.block hg).1 | (have := hop.block hg; omega)))
     replace hl := hl0 _ hV
     replace hof := hof.evo E54 (by intro g hg hm; exact hsep g hg _ (Option.mem_toList.1 hm) rfl)
     replace hb := hb.evo E54 (by intro hm; have hm2 := Option.mem_toList.1 hm; have := hop.block hm2; omega)
     replace B13 := B13.evo E54 (by intro hm; have hm2 := Option.mem_toList.1 hm; have := hob12 _ hm2; omega)
     replace hAb13 := hAb13.evo E54 (by intro hm; have hm2 := Option.mem_toList.1 hm; have := hob12 _ hm2; omega)
     refine Zn (run_asg (v := v53) rfl η) ?_
     refine r_cut_end ?_ ?_
     ·refine ⟨_, _, _, _, _, _, _, rfl, rfl, hof, (hov53.base_le ω), B13, B13.at, hb, hb.at, (by first | exact hFI.text _ | exact hFI.slot (slotW_ok _ ω).1 | exact hFI.empty (emptyW_ok _ ω).1 ω | exact hFI.open_ (openW_ok _ ω).1 ω | exact hFI.close ω ω | exact hFI.closeNew (by decide) ω), (by first | exact hNS.otherB rfl rfl | exact hNS.open_ _ _ | exact hNS.close ω (fun h9 => by first | rfl | exact absurd h9 hc47) _ | exact NS.closeNew (hc47).2), ⟨by first | omega | exact Nat.le_trans (slotW_ok _ ω).2 (by decide) | exact Nat.le_trans (emptyW_ok _ ω).2 (by decide) | exact Nat.le_trans (openW_ok _ ω).2 (by decide) | exact Nat.le_trans (nameL_len _) (Nat.le_trans (text5 hopt _) (by decide)) | decide, by first | omega | (simp; done) | (simp; omega), by omega, by omega, by omega⟩, (by first | exact hopt | exact (fun o ho => (List.mem_append.1 ho).elim (hopt o) (fun h => by simp at h; subst h; exact (openW_ok _ ω).2)) | exact (fun o ho => (List.mem_append.1 ho).elim (fun h => hopt o (List.mem_of_mem_take h)) (fun h => hopt o (List.mem_of_mem_drop h)))), δ, hV⟩
     exact ψ
    refine r_skip ?_
    refine r_cut_end ?_ ?_
    ·refine ⟨_, _, _, _, _, _, _, rfl, rfl, hof, (hop.base_le ω), B13, B13.at, hb, hb.at, (by first | exact hFI.text _ | exact hFI.slot (slotW_ok _ ω).1 | exact hFI.empty (emptyW_ok _ ω).1 ω | exact hFI.open_ (openW_ok _ ω).1 ω | exact hFI.close ω ω | exact hFI.closeNew (by decide) ω), (by first | exact hNS.otherB rfl rfl | exact hNS.open_ _ _ | exact hNS.close ω (fun h9 => by first | rfl | exact absurd h9 hc47) _ | exact NS.closeNew (hc47).2), ⟨by first | omega | exact Nat.le_trans (slotW_ok _ ω).2 (by decide) | exact Nat.le_trans (emptyW_ok _ ω).2 (by decide) | exact Nat.le_trans (openW_ok _ ω).2 (by decide) | exact Nat.le_trans (nameL_len _) (Nat.le_trans (text5 hopt _) (by decide)) | decide, by first | omega | (simp; done) | (simp; omega), by omega, by omega, by omega⟩, (by first | exact hopt | exact (fun o ho => (List.mem_append.1 ho).elim (hopt o) (fun h => by simp at h; subst h; exact (openW_ok _ ω).2)) | exact (fun o ho => (List.mem_append.1 ho).elim (fun h => hopt o (List.mem_of_mem_take h)) (fun h => hopt o (List.mem_of_mem_drop h)))), δ, hV⟩
    exact ψ
   refine r_region ?_
   refine Zo (run_eql rfl η η) ?_
   refine Zn asB ?_
   refine r_cond η (fun hc55 => ?_) (fun hc55 => ?_)
   ·skip
    refine Zs ?_
    refine Zn (run_mvb rfl η) ?_
    refine r_cond η (fun hc56 => ?_) (fun hc56 => ?_)
    ·skip
     refine Zs ?_
     refine Zo mvI ?_
     refine Zo (run_add rfl η η ω ω) ?_
     refine Zn asI ?_
     refine Zs ?_
     refine r_bslice (pv := [(0, S _), (1, S _), (2, S _)]) (zs := [_]) (cs := [_, _, _]) Tryz.underlying77 ty_9 η rfl η rfl η ?_
     intro b57 w58 J57 E58 B57 Y57
     have Q58 := E58.size
     replace hV := Z0 hV E58
     replace hl := hl0 _ hV
     replace hof := hof.evo0 E58
     replace hop := hop.evo0 E58
     replace B13 := B13.evo0 E58
     replace hAb13 := hAb13.evo0 E58
     replace hb := hb.evo0 E58
     replace hAs := hAs.evo0 E58
     have hrb57 : RowE w58 (some ⟨b57, 0, none⟩) b57 0 3 openW := rowLit openW B57 rfl rfl
     refine Zo mvP ?_
     refine Zr [.pointer _, .int _ _] rfl η Tryz.func38 (inx_calls hb hl ω ω ω) ?_
     rintro e w59 ⟨nx59, rfl, hx59, F59, hn59⟩
     refine ⟨_, rfl, ?_⟩
     have Q59 := F59.size
     replace hV := Z1 hV F59 (.inr (by simp))
     replace hof := hof.evo F59 (by intro g hg hm; simp at hm; subst hm; have := hof.block hg; omega)
     replace hop := hop.evo F59 (by intro g hg hm; simp at hm; subst hm; have := hop.block hg; omega)
     replace B13 := B13.evo F59 θ
     replace hAb13 := hAb13.evo F59 θ
     replace hrb57 := hrb57.evo F59 θ
     replace hb := hn59
     clear hn59
     have hAs := hb.at
     refine Zo (run_ix (nx59.toNat) rfl Tryz.underlying77 ty_9 η η ω (by show _ < 3; omega) (hrb57.addr (i := nx59.toNat) (by show _ < 3; omega))) ?_
     have hA60 := hrb57.atD (nx59.toNat) (by show _ < 3; omega)
     refine Zo (run_ld1 rfl ag_9 η (hA60.cell 0 η)) ?_
     refine Zo mvI ?_
     refine Zo (run_bld (pv := [(0, .int _ _), (1, S _), (2, .int _ _)]) (zs := [_, _, _]) (cells := [_, _, _]) rfl ty_32 η pl_32 η η) ?_
     refine r_store (v := .agg _) (vs := [_, _, _]) (cs' := [_, _, _]) η η B13 ty_32 η rfl η rfl η ?_
     intro w61 E61 V61 hb_new
     have Q61 := E61.size
     replace hV := Z1 hV E61 ε
     replace hof := hof.evo E61 (by intro g hg hm; simp at hm; subst hm; exact hofx _ hg rfl)
     replace hop := hop.evo E61 (by intro g hg hm; simp at hm; subst hm; exact hopx _ hg rfl)
     replace hb := hb.evo E61 θ
     replace B13 := hb_new
     have hAb13 := B13.at
     clear hb_new
     refine r_nil ?_
     refine r_region ?_
     refine Zo (run_mv (v := vo) rfl η) ?_
     refine Zo (run_ldN rfl ag_32 ty_32 η rfl hAb13) ?_
     refine r_append1E (u := .agg _) (y := ⟨_, _, _⟩) rfl rfl Tryz.underlying33 ty_32 η hop (fun _ => η) η (by first | exact rfl | (show _ = List.toArray [_, _, _]; first | (dsimp only; done) | exact rfl | (dsimp only; exact rfl))) ((by first | omega | (simp; omega))) ((by first | omega | (simp; omega))) ω ?_
     intro q_v62 v62 w63 E63 hov62 hlv62
     have Q63 := E63.size
     replace hV := evo_stepo hV E63 (fun g hg => .inl (by first | exact (hop.block hg).1 | (have := hop.block hg; omega)))
     replace hl := hl0 _ hV
     replace hof := hof.evo E63 (by intro g hg hm; exact hsep g hg _ (Option.mem_toList.1 hm) rfl)
     replace hb := hb.evo E63 (by intro hm; have hm2 := Option.mem_toList.1 hm; have := hop.block hm2; omega)
     replace B13 := B13.evo E63 (by intro hm; have hm2 := Option.mem_toList.1 hm; have := hob12 _ hm2; omega)
     replace hAb13 := hAb13.evo E63 (by intro hm; have hm2 := Option.mem_toList.1 hm; have := hob12 _ hm2; omega)
     refine Zn (run_asg (v := v62) rfl η) ?_
     refine r_cut_end ?_ ?_
     ·refine ⟨_, _, _, _, _, _, _, rfl, rfl, hof, (hov62.base_le ω), B13, B13.at, hb, hb.at, (by first | exact hFI.text _ | exact hFI.slot (slotW_ok _ ω).1 | exact hFI.empty (emptyW_ok _ ω).1 ω | exact hFI.open_ (openW_ok _ ω).1 ω | exact hFI.close ω ω | exact hFI.closeNew (by decide) ω), (by first | exact hNS.otherB rfl rfl | exact hNS.open_ _ _ | exact hNS.close ω (fun h9 => by first | rfl | exact absurd h9 hc56) _ | exact NS.closeNew (hc56).2), ⟨by first | omega | exact Nat.le_trans (slotW_ok _ ω).2 (by decide) | exact Nat.le_trans (emptyW_ok _ ω).2 (by decide) | exact Nat.le_trans (openW_ok _ ω).2 (by decide) | exact Nat.le_trans (nameL_len _) (Nat.le_trans (text5 hopt _) (by decide)) | decide, by first | omega | (simp; done) | (simp; omega), by omega, by omega, by omega⟩, (by first | exact hopt | exact (fun o ho => (List.mem_append.1 ho).elim (hopt o) (fun h => by simp at h; subst h; exact (openW_ok _ ω).2)) | exact (fun o ho => (List.mem_append.1 ho).elim (fun h => hopt o (List.mem_of_mem_take h)) (fun h => hopt o (List.mem_of_mem_drop h)))), δ, hV⟩
     exact ψ
    refine r_skip ?_
    refine r_cut_end ?_ ?_
    ·refine ⟨_, _, _, _, _, _, _, rfl, rfl, hof, (hop.base_le ω), B13, B13.at, hb, hb.at, (by first | exact hFI.text _ | exact hFI.slot (slotW_ok _ ω).1 | exact hFI.empty (emptyW_ok _ ω).1 ω | exact hFI.open_ (openW_ok _ ω).1 ω | exact hFI.close ω ω | exact hFI.closeNew (by decide) ω), (by first | exact hNS.otherB rfl rfl | exact hNS.open_ _ _ | exact hNS.close ω (fun h9 => by first | rfl | exact absurd h9 hc56) _ | exact NS.closeNew (hc56).2), ⟨by first | omega | exact Nat.le_trans (slotW_ok _ ω).2 (by decide) | exact Nat.le_trans (emptyW_ok _ ω).2 (by decide) | exact Nat.le_trans (openW_ok _ ω).2 (by decide) | exact Nat.le_trans (nameL_len _) (Nat.le_trans (text5 hopt _) (by decide)) | decide, by first | omega | (simp; done) | (simp; omega), by omega, by omega, by omega⟩, (by first | exact hopt | exact (fun o ho => (List.mem_append.1 ho).elim (hopt o) (fun h => by simp at h; subst h; exact (openW_ok _ ω).2)) | exact (fun o ho => (List.mem_append.1 ho).elim (fun h => hopt o (List.mem_of_mem_take h)) (fun h => hopt o (List.mem_of_mem_drop h)))), δ, hV⟩
    exact ψ
   refine r_seq ?_
   refine Zs ?_
   refine Zo (run_eql rfl η η) ?_
   refine Zn asB ?_
   refine r_cond η (fun hc64 => ?_) (fun hc64 => ?_)
   ·skip
    refine r_skip ?_
    refine r_condT η hc64 ?_
    refine Zs ?_
    refine Zo (run_mv (v := vo) rfl η) ?_
    refine Zo (run_lenOE rfl η Tryz.underlying33 hop) ?_
    refine Zo (run_sub rfl η η ω ω) ?_
    refine Zn asI ?_
    refine Zs ?_
    refine Zo mvI ?_
    refine Zn (run_geq rfl η η) ?_
    refine r_cond η (fun hc65 => ?_) (fun hc65 => ?_)
    ·skip
     refine r_seq ?_
     refine Zs ?_
     refine Zo (run_mvb rfl η) ?_
     refine Zn (run_not rfl η) ?_
     refine r_cond η (fun hc66 => ?_) (fun hc66 => ?_)
     ·skip
      refine r_region ?_
      refine Zo mvP ?_
      refine Zo mvI ?_
      refine Zo (run_add rfl η η ω ω) ?_
      refine Zr [.pointer _, .int _ _] rfl η Tryz.func38 (inx_calls hb hl ω ω ω) ?_
      rintro e w67 ⟨nx67, rfl, hx67, F67, hn67⟩
      refine ⟨_, rfl, ?_⟩
      have Q67 := F67.size
      replace hV := Z1 hV F67 (.inr (by simp))
      replace hof := hof.evo F67 (by intro g hg hm; simp at hm; subst hm; have := hof.block hg; omega)
      replace hop := hop.evo F67 (by intro g hg hm; simp at hm; subst hm; have := hop.block hg; omega)
      replace B13 := B13.evo F67 θ
      replace hAb13 := hAb13.evo F67 θ
      replace hb := hn67
      clear hn67
      have hAs := hb.at
      refine Zn asI ?_
      refine r_seq ?_
      obtain ⟨ao68, g68, cp68, hv68, hr68, hg68⟩ := hop.rowOf
      subst hv68
      have hk5 := text5 hopt nx67.toNat
      have hbb13_q := B13
      have hAb13_q := hAb13
      have hr68_q := hr68
      have hV_q := hV
      refine h_region ([]) ζ ?_
      intro w69 F70 hC71
      have Q69 := F70.size
      replace hV := Z0 hV F70
      replace hof := hof.evo0 F70
      replace hop := hop.evo0 F70
      replace B13 := B13.evo0 F70
      replace hAb13 := hAb13.evo0 F70
      replace hb := hb.evo0 F70
      replace hr68 := hr68.evo0 F70
      refine Zt (i := 0) η (fun w' hC => mvS) hC71 ?_
      refine Zt (i := 1) η (fun w' hC => mvI) hC71 ?_
      refine Zt (i := 2) η (fun w' hC => run_ix (nx67.toNat) rfl Tryz.underlying33 ty_32 η η ω ω (hr68.addr (i := nx67.toNat) ω)) hC71 ?_
      have hA72 := hr68.atD (nx67.toNat) ω
      have hA72_q := hr68_q.atD (nx67.toNat) ω
      refine Zt (i := 3) η (fun w' hC => run_fa rfl η fo_32_1) hC71 ?_
      refine Zt (i := 4) η (fun w' hC => run_ld1 rfl ag_9 η ((hA72_q.evo0 hC).cell 1 η)) hC71 ?_
      refine Zt (i := 6) η (fun w' hC => mvS) hC71 ?_
      refine Zt (i := 7) η (fun w' hC => mvI) hC71 ?_
      refine Zt (i := 8) η (fun w' hC => run_ix (nx67.toNat) rfl Tryz.underlying33 ty_32 η η ω ω (hr68.addr (i := nx67.toNat) ω)) hC71 ?_
      have hA73 := hr68.atD (nx67.toNat) ω
      have hA73_q := hr68_q.atD (nx67.toNat) ω
      refine Zt (i := 9) η (fun w' hC => run_fa rfl η fo_32_2) hC71 ?_
      refine Zt (i := 10) η (fun w' hC => run_ld1 rfl ag_3 η ((hA73_q.evo0 hC).cell 2 η)) hC71 ?_
      refine Zh (i := 5) ?_
      refine Zr [S _] rfl η Tryz.func75 (rname_calls ω) ?_
      rintro e w74 ⟨rfl, F74⟩
      refine ⟨_, rfl, ?_⟩
      have Q74 := F74.size
      replace hV := Z0 hV F74
      replace hC71 := Z0 hC71 F74
      replace hof := hof.evo0 F74
      replace hop := hop.evo0 F74
      replace B13 := B13.evo0 F74
      replace hAb13 := hAb13.evo0 F74
      replace hb := hb.evo0 F74
      replace hr68 := hr68.evo0 F74
      refine h_next hC71 ?_
      refine Zt (i := 11) η (fun w' hC => run_bld (pv := [(0, .int _ _), (1, S _), (2, .int _ _)]) (zs := [_, _, _]) (cells := [_, _, _]) rfl ty_32 η pl_32 η η) hC71 ?_
      refine Zh (i := 12) ?_
      refine r_store (v := .agg _) (vs := [_, _, _]) (cs' := [_, _, _]) η η B13 ty_32 η rfl η rfl η ?_
      intro w75 E75 V75 hb_new
      have Q75 := E75.size
      replace hV := Z1 hV E75 ε
      replace hof := hof.evo E75 (by intro g hg hm; simp at hm; subst hm; exact hofx _ hg rfl)
      replace hop := hop.evo E75 (by intro g hg hm; simp at hm; subst hm; exact hopx _ hg rfl)
      replace hb := hb.evo E75 θ
      replace B13 := hb_new
      have hAb13 := B13.at
      clear hb_new
      refine h_last ζ ?_
      refine h_done ζ ?_
      obtain ⟨ao76, g76, cp76, hv76, hr76, hg76⟩ := hop.rowOf
      injection hv76 with ha76 hx76 hc76
      subst ha76; subst hc76
      have hobQ := fun g hg => (hop.block (g := g) hg).2; have hobQF := fun g hg => (hof.block (g := g) hg).2
      have hbb13_q := B13
      have hAb13_q := hAb13
      have hr76_q := hr76
      have hV_q := hV
      refine h_region ([]) ζ ?_
      intro w77 F78 hC79
      have Q77 := F78.size
      replace hV := Z0 hV F78
      replace hof := hof.evo0 F78
      replace hop := hop.evo0 F78
      replace hb := hb.evo0 F78
      replace B13 := B13.evo0 F78
      replace hAb13 := hAb13.evo0 F78
      replace hr76 := hr76.evo0 F78
      refine Zt (i := 0) η (fun w' hC => mvS) hC79 ?_
      refine Zt (i := 1) η (fun w' hC => mvI) hC79 ?_
      refine Zt (i := 2) η (fun w' hC => by exact run_slE (0) (nx67.toNat) rfl Tryz.underlying33 ty_32 η (hr76_q.evo0 hC) lo0 (at1 η ω) (by first | omega | (simp; omega)) (by first | omega | (simp; omega)) List.drop_zero) hC79 ?_
      have hS80 := (by have h9 := (hr76.take (nx67.toNat)).drop (0); rw [List.drop_zero] at h9; exact h9)
      have hbd_hS80 := hS80.bd
      refine Zt (i := 4) η (fun w' hC => mvS) hC79 ?_
      refine Zt (i := 5) η (fun w' hC => mvI) hC79 ?_
      refine Zt (i := 6) η (fun w' hC => run_add rfl η η ω ω) hC79 ?_
      refine Zt (i := 7) η (fun w' hC => by exact run_slE0 ((nx67.toNat + 1)) rfl Tryz.underlying33 ty_32 rfl η (hr76_q.evo0 hC) (at1 η ω) (by first | omega | (simp; omega))) hC79 ?_
      have hS81 := hr76.drop ((nx67.toNat + 1))
      have hbd_hS81 := hS81.bd
      refine Zh (i := 3) ?_
      refine r_appendE rfl Tryz.underlying33 ty_32 η (OwnE.nil (α := Vc.Item) _ w75.heap.size _) η η hS80 rfl ((by first | omega | (simp; omega))) ((by first | omega | (simp; omega))) ω ?_
      intro v82 w83 E83 hov82 hlv82
      have Q83 := E83.size
      replace hV := Z0 hV E83
      replace hC79 := Z0 hC79 E83
      replace hof := hof.evo0 E83
      replace hop := hop.evo0 E83
      replace hb := hb.evo0 E83
      replace B13 := B13.evo0 E83
      replace hAb13 := hAb13.evo0 E83
      replace hr76 := hr76.evo0 E83
      replace hS80 := hS80.evo0 E83
      replace hS81 := hS81.evo0 E83
      refine h_next hC79 ?_
      refine Zh (i := 8) ?_
      refine r_appendE rfl Tryz.underlying33 ty_32 η hov82 η η hS81 rfl ((by first | omega | (simp; omega))) ((by first | omega | (simp; omega))) ω ?_
      intro v84 w85 E85 hov84 hlv84
      have Q85 := E85.size
      replace hV := evo_stepo hV E85 (fun g hg => .inl (by first | exact (hov82.block hg).1 | (have := hov82.block hg; omega)))
      replace hl := hl0 _ hV
      replace hof := hof.evo E85 (by intro g hg hm; have hm2 := Option.mem_toList.1 hm; have h1 := hov82.block hm2; have h2 := hobQF g hg; omega)
      replace hop := hop.evo E85 (by intro g hg hm; have hm2 := Option.mem_toList.1 hm; have h1 := hov82.block hm2; have h2 := hobQ g hg; omega)
      replace hb := hb.evo E85 (by intro hm; have hm2 := Option.mem_toList.1 hm; have := hov82.block hm2; omega)
      replace B13 := B13.evo E85 (by intro hm; have hm2 := Option.mem_toList.1 hm; have := hov82.block hm2; omega)
      replace hAb13 := hAb13.evo E85 (by intro hm; have hm2 := Option.mem_toList.1 hm; have := hov82.block hm2; omega)
      refine h_last ζ ?_
      refine Zh (i := 9) ?_
      refine Zo (run_asg (v := v84) rfl η) ?_
      refine h_last ζ ?_
      refine h_done ζ ?_
      refine r_cut_end ?_ ?_
      ·refine ⟨_, _, _, _, _, _, _, rfl, rfl, hof, (hov84.base_le ω), B13, B13.at, hb, hb.at, (by first | exact hFI.text _ | exact hFI.slot (slotW_ok _ ω).1 | exact hFI.empty (emptyW_ok _ ω).1 ω | exact hFI.open_ (openW_ok _ ω).1 ω | exact hFI.close ω ω | exact hFI.closeNew (by decide) ω), (by first | exact hNS.otherB rfl rfl | exact hNS.open_ _ _ | exact hNS.close ω (fun h9 => by first | rfl | exact absurd h9 hc66) _ | exact NS.closeNew (hc66).2), ⟨by first | omega | exact Nat.le_trans (slotW_ok _ ω).2 (by decide) | exact Nat.le_trans (emptyW_ok _ ω).2 (by decide) | exact Nat.le_trans (openW_ok _ ω).2 (by decide) | exact Nat.le_trans (nameL_len _) (Nat.le_trans (text5 hopt _) (by decide)) | decide, by first | omega | (simp; done) | (simp; omega), by omega, by omega, by omega⟩, (by first | exact hopt | exact (fun o ho => (List.mem_append.1 ho).elim (hopt o) (fun h => by simp at h; subst h; exact (openW_ok _ ω).2)) | exact (fun o ho => (List.mem_append.1 ho).elim (fun h => hopt o (List.mem_of_mem_take h)) (fun h => hopt o (List.mem_of_mem_drop h)))), δ, hV⟩
      exact ψ
     refine r_skip ?_
     refine r_seq ?_
     obtain ⟨ao86, g86, cp86, hv86, hr86, hg86⟩ := hop.rowOf
     subst hv86
     have hk5 := text5 hopt (op.length - 1)
     have hbb13_q := B13
     have hAb13_q := hAb13
     have hr86_q := hr86
     have hV_q := hV
     refine h_region ([]) ζ ?_
     intro w87 F88 hC89
     have Q87 := F88.size
     replace hV := Z0 hV F88
     replace hof := hof.evo0 F88
     replace hop := hop.evo0 F88
     replace B13 := B13.evo0 F88
     replace hAb13 := hAb13.evo0 F88
     replace hb := hb.evo0 F88
     replace hr86 := hr86.evo0 F88
     refine Zt (i := 0) η (fun w' hC => mvS) hC89 ?_
     refine Zt (i := 1) η (fun w' hC => mvI) hC89 ?_
     refine Zt (i := 2) η (fun w' hC => run_ix ((op.length - 1)) rfl Tryz.underlying33 ty_32 η η ω ω (hr86.addr (i := (op.length - 1)) ω)) hC89 ?_
     have hA90 := hr86.atD ((op.length - 1)) ω
     have hA90_q := hr86_q.atD ((op.length - 1)) ω
     refine Zt (i := 3) η (fun w' hC => run_fa rfl η fo_32_1) hC89 ?_
     refine Zt (i := 4) η (fun w' hC => run_ld1 rfl ag_9 η ((hA90_q.evo0 hC).cell 1 η)) hC89 ?_
     refine Zt (i := 6) η (fun w' hC => mvS) hC89 ?_
     refine Zt (i := 7) η (fun w' hC => mvI) hC89 ?_
     refine Zt (i := 8) η (fun w' hC => run_ix ((op.length - 1)) rfl Tryz.underlying33 ty_32 η η ω ω (hr86.addr (i := (op.length - 1)) ω)) hC89 ?_
     have hA91 := hr86.atD ((op.length - 1)) ω
     have hA91_q := hr86_q.atD ((op.length - 1)) ω
     refine Zt (i := 9) η (fun w' hC => run_fa rfl η fo_32_2) hC89 ?_
     refine Zt (i := 10) η (fun w' hC => run_ld1 rfl ag_3 η ((hA91_q.evo0 hC).cell 2 η)) hC89 ?_
     refine Zh (i := 5) ?_
     refine Zr [S _] rfl η Tryz.func75 (rname_calls ω) ?_
     rintro e w92 ⟨rfl, F92⟩
     refine ⟨_, rfl, ?_⟩
     have Q92 := F92.size
     replace hV := Z0 hV F92
     replace hC89 := Z0 hC89 F92
     replace hof := hof.evo0 F92
     replace hop := hop.evo0 F92
     replace B13 := B13.evo0 F92
     replace hAb13 := hAb13.evo0 F92
     replace hb := hb.evo0 F92
     replace hr86 := hr86.evo0 F92
     refine h_next hC89 ?_
     refine Zt (i := 11) η (fun w' hC => run_bld (pv := [(0, .int _ _), (1, S _), (2, .int _ _)]) (zs := [_, _, _]) (cells := [_, _, _]) rfl ty_32 η pl_32 η η) hC89 ?_
     refine Zh (i := 12) ?_
     refine r_store (v := .agg _) (vs := [_, _, _]) (cs' := [_, _, _]) η η B13 ty_32 η rfl η rfl η ?_
     intro w93 E93 V93 hb_new
     have Q93 := E93.size
     replace hV := Z1 hV E93 ε
     replace hof := hof.evo E93 (by intro g hg hm; simp at hm; subst hm; exact hofx _ hg rfl)
     replace hop := hop.evo E93 (by intro g hg hm; simp at hm; subst hm; exact hopx _ hg rfl)
     replace hb := hb.evo E93 θ
     replace B13 := hb_new
     have hAb13 := B13.at
     clear hb_new
     refine h_last ζ ?_
     refine h_done ζ ?_
     obtain ⟨ao94, g94, cp94, hv94, hr94, hg94⟩ := hop.rowOf
     injection hv94 with ha94 hx94 hc94
     subst ha94; subst hc94
     have hobQ := fun g hg => (hop.block (g := g) hg).2; have hobQF := fun g hg => (hof.block (g := g) hg).2
     have hbb13_q := B13
     have hAb13_q := hAb13
     have hr94_q := hr94
     have hV_q := hV
     refine h_region ([]) ζ ?_
     intro w95 F96 hC97
     have Q95 := F96.size
     replace hV := Z0 hV F96
     replace hof := hof.evo0 F96
     replace hop := hop.evo0 F96
     replace hb := hb.evo0 F96
     replace B13 := B13.evo0 F96
     replace hAb13 := hAb13.evo0 F96
     replace hr94 := hr94.evo0 F96
     refine Zt (i := 0) η (fun w' hC => mvS) hC97 ?_
     refine Zt (i := 1) η (fun w' hC => mvI) hC97 ?_
     refine Zt (i := 2) η (fun w' hC => by exact run_slE (0) ((op.length - 1)) rfl Tryz.underlying33 ty_32 η (hr94_q.evo0 hC) lo0 (at1 η ω) (by first | omega | (simp; omega)) (by first | omega | (simp; omega)) List.drop_zero) hC97 ?_
     have hS98 := (by have h9 := (hr94.take ((op.length - 1))).drop (0); rw [List.drop_zero] at h9; exact h9)
     have hbd_hS98 := hS98.bd
     refine Zt (i := 4) η (fun w' hC => mvS) hC97 ?_
     refine Zt (i := 5) η (fun w' hC => mvI) hC97 ?_
     refine Zt (i := 6) η (fun w' hC => run_add rfl η η ω ω) hC97 ?_
     refine Zt (i := 7) η (fun w' hC => by exact run_slE0 (((op.length - 1) + 1)) rfl Tryz.underlying33 ty_32 rfl η (hr94_q.evo0 hC) (at1 η ω) (by first | omega | (simp; omega))) hC97 ?_
     have hS99 := hr94.drop (((op.length - 1) + 1))
     have hbd_hS99 := hS99.bd
     refine Zh (i := 3) ?_
     refine r_appendE rfl Tryz.underlying33 ty_32 η (OwnE.nil (α := Vc.Item) _ w93.heap.size _) η η hS98 rfl ((by first | omega | (simp; omega))) ((by first | omega | (simp; omega))) ω ?_
     intro v100 w101 E101 hov100 hlv100
     have Q101 := E101.size
     replace hV := Z0 hV E101
     replace hC97 := Z0 hC97 E101
     replace hof := hof.evo0 E101
     replace hop := hop.evo0 E101
     replace hb := hb.evo0 E101
     replace B13 := B13.evo0 E101
     replace hAb13 := hAb13.evo0 E101
     replace hr94 := hr94.evo0 E101
     replace hS98 := hS98.evo0 E101
     replace hS99 := hS99.evo0 E101
     refine h_next hC97 ?_
     refine Zh (i := 8) ?_
     refine r_appendE rfl Tryz.underlying33 ty_32 η hov100 η η hS99 rfl ((by first | omega | (simp; omega))) ((by first | omega | (simp; omega))) ω ?_
     intro v102 w103 E103 hov102 hlv102
     have Q103 := E103.size
     replace hV := evo_stepo hV E103 (fun g hg => .inl (by first | exact (hov100.block hg).1 | (have := hov100.block hg; omega)))
     replace hl := hl0 _ hV
     replace hof := hof.evo E103 (by intro g hg hm; have hm2 := Option.mem_toList.1 hm; have h1 := hov100.block hm2; have h2 := hobQF g hg; omega)
     replace hop := hop.evo E103 (by intro g hg hm; have hm2 := Option.mem_toList.1 hm; have h1 := hov100.block hm2; have h2 := hobQ g hg; omega)
     replace hb := hb.evo E103 (by intro hm; have hm2 := Option.mem_toList.1 hm; have := hov100.block hm2; omega)
     replace B13 := B13.evo E103 (by intro hm; have hm2 := Option.mem_toList.1 hm; have := hov100.block hm2; omega)
     replace hAb13 := hAb13.evo E103 (by intro hm; have hm2 := Option.mem_toList.1 hm; have := hov100.block hm2; omega)
     refine h_last ζ ?_
     refine Zh (i := 9) ?_
     refine Zo (run_asg (v := v102) rfl η) ?_
     refine h_last ζ ?_
     refine h_done ζ ?_
     refine r_cut_end ?_ ?_
     ·refine ⟨_, _, _, _, _, _, _, rfl, rfl, hof, (hov102.base_le ω), B13, B13.at, hb, hb.at, (by first | exact hFI.text _ | exact hFI.slot (slotW_ok _ ω).1 | exact hFI.empty (emptyW_ok _ ω).1 ω | exact hFI.open_ (openW_ok _ ω).1 ω | exact hFI.close ω ω | exact hFI.closeNew (by decide) ω), (by first | exact hNS.otherB rfl rfl | exact hNS.open_ _ _ | exact hNS.close ω (fun h9 => by first | rfl | exact absurd h9 hc66) _ | exact NS.closeNew (hc66).2), ⟨by first | omega | exact Nat.le_trans (slotW_ok _ ω).2 (by decide) | exact Nat.le_trans (emptyW_ok _ ω).2 (by decide) | exact Nat.le_trans (openW_ok _ ω).2 (by decide) | exact Nat.le_trans (nameL_len _) (Nat.le_trans (text5 hopt _) (by decide)) | decide, by first | omega | (simp; done) | (simp; omega), by omega, by omega, by omega⟩, (by first | exact hopt | exact (fun o ho => (List.mem_append.1 ho).elim (hopt o) (fun h => by simp at h; subst h; exact (openW_ok _ ω).2)) | exact (fun o ho => (List.mem_append.1 ho).elim (fun h => hopt o (List.mem_of_mem_take h)) (fun h => hopt o (List.mem_of_mem_drop h)))), δ, hV⟩
     exact ψ
    refine Zs ?_
    refine Zo (run_mvb rfl η) ?_
    refine Zo mvB ?_
    refine r_g rfl (wantT η) rfl (fun hg => run_mvb rfl η) ?_
    refine r_g rfl (wantT η) rfl (fun hg => run_not rfl (glv η (fun h => h) hg)) ?_
    refine Zn (run_pick_and rfl η (fun hq => glv η (fun h => h) hq) rfl) ?_
    refine r_cond η (fun hc104 => ?_) (fun hc104 => ?_)
    ·skip
     refine Zs ?_
     refine Zo mvI ?_
     refine Zo (run_add rfl η η ω ω) ?_
     refine Zn asI ?_
     refine r_region ?_
     refine Zo mvI ?_
     refine Zo (run_bld (pv := [(0, .int _ _), (1, S _), (2, .int _ _)]) (zs := [_, _, _]) (cells := [_, _, _]) rfl ty_32 η pl_32 η η) ?_
     refine r_store (v := .agg _) (vs := [_, _, _]) (cs' := [_, _, _]) η η B13 ty_32 η rfl η rfl η ?_
     intro w105 E105 V105 hb_new
     have Q105 := E105.size
     replace hV := Z1 hV E105 ε
     replace hl := hl0 _ hV
     replace hof := hof.evo E105 (by intro g hg hm; simp at hm; subst hm; exact hofx _ hg rfl)
     replace hop := hop.evo E105 (by intro g hg hm; simp at hm; subst hm; exact hopx _ hg rfl)
     replace hb := hb.evo E105 θ
     replace B13 := hb_new
     have hAb13 := B13.at
     clear hb_new
     refine r_nil ?_
     refine r_cut_end ?_ ?_
     ·refine ⟨_, _, _, _, _, _, _, rfl, rfl, hof, (hop.base_le ω), B13, B13.at, hb, hb.at, (by first | exact hFI.text _ | exact hFI.slot (slotW_ok _ ω).1 | exact hFI.empty (emptyW_ok _ ω).1 ω | exact hFI.open_ (openW_ok _ ω).1 ω | exact hFI.close ω ω | exact hFI.closeNew (by decide) ω), (by first | exact hNS.otherB rfl rfl | exact hNS.open_ _ _ | exact hNS.close ω (fun h9 => by first | rfl | exact absurd h9 hc104) _ | exact NS.closeNew (hc104).2), ⟨by first | omega | exact Nat.le_trans (slotW_ok _ ω).2 (by decide) | exact Nat.le_trans (emptyW_ok _ ω).2 (by decide) | exact Nat.le_trans (openW_ok _ ω).2 (by decide) | exact Nat.le_trans (nameL_len _) (Nat.le_trans (text5 hopt _) (by decide)) | decide, by first | omega | (simp; done) | (simp; omega), by omega, by omega, by omega⟩, (by first | exact hopt | exact (fun o ho => (List.mem_append.1 ho).elim (hopt o) (fun h => by simp at h; subst h; exact (openW_ok _ ω).2)) | exact (fun o ho => (List.mem_append.1 ho).elim (fun h => hopt o (List.mem_of_mem_take h)) (fun h => hopt o (List.mem_of_mem_drop h)))), δ, hV⟩
     exact ψ
    refine r_skip ?_
    refine r_cut_end ?_ ?_
    ·refine ⟨_, _, _, _, _, _, _, rfl, rfl, hof, (hop.base_le ω), B13, B13.at, hb, hb.at, (by first | exact hFI.text _ | exact hFI.slot (slotW_ok _ ω).1 | exact hFI.empty (emptyW_ok _ ω).1 ω | exact hFI.open_ (openW_ok _ ω).1 ω | exact hFI.close ω ω | exact hFI.closeNew (by decide) ω), (by first | exact hNS.otherB rfl rfl | exact hNS.open_ _ _ | exact hNS.close ω (fun h9 => by first | rfl | exact absurd h9 hc104) _ | exact NS.closeNew (hc104).2), ⟨by first | omega | exact Nat.le_trans (slotW_ok _ ω).2 (by decide) | exact Nat.le_trans (emptyW_ok _ ω).2 (by decide) | exact Nat.le_trans (openW_ok _ ω).2 (by decide) | exact Nat.le_trans (nameL_len _) (Nat.le_trans (text5 hopt _) (by decide)) | decide, by first | omega | (simp; done) | (simp; omega), by omega, by omega, by omega⟩, (by first | exact hopt | exact (fun o ho => (List.mem_append.1 ho).elim (hopt o) (fun h => by simp at h; subst h; exact (openW_ok _ ω).2)) | exact (fun o ho => (List.mem_append.1 ho).elim (fun h => hopt o (List.mem_of_mem_take h)) (fun h => hopt o (List.mem_of_mem_drop h)))), δ, hV⟩
    exact ψ
   refine r_region ?_
   refine Zo (run_eql rfl η η) ?_
   refine Zn asB ?_
   refine r_cond η (fun hc106 => ?_) (fun hc106 => ?_)
   ·skip
    refine Zs ?_
    refine Zo (run_mv (v := vo) rfl η) ?_
    refine Zo (run_lenOE rfl η Tryz.underlying33 hop) ?_
    refine Zo (run_sub rfl η η ω ω) ?_
    refine Zn asI ?_
    refine Zs ?_
    refine Zo mvI ?_
    refine Zn (run_geq rfl η η) ?_
    refine r_cond η (fun hc107 => ?_) (fun hc107 => ?_)
    ·skip
     refine r_seq ?_
     refine Zs ?_
     refine Zo (run_mvb rfl η) ?_
     refine Zn (run_not rfl η) ?_
     refine r_cond η (fun hc108 => ?_) (fun hc108 => ?_)
     ·skip
      refine r_region ?_
      refine Zo mvP ?_
      refine Zo mvI ?_
      refine Zo (run_add rfl η η ω ω) ?_
      refine Zr [.pointer _, .int _ _] rfl η Tryz.func38 (inx_calls hb hl ω ω ω) ?_
      rintro e w109 ⟨nx109, rfl, hx109, F109, hn109⟩
      refine ⟨_, rfl, ?_⟩
      have Q109 := F109.size
      replace hV := Z1 hV F109 (.inr (by simp))
      replace hof := hof.evo F109 (by intro g hg hm; simp at hm; subst hm; have := hof.block hg; omega)
      replace hop := hop.evo F109 (by intro g hg hm; simp at hm; subst hm; have := hop.block hg; omega)
      replace B13 := B13.evo F109 θ
      replace hAb13 := hAb13.evo F109 θ
      replace hb := hn109
      clear hn109
      have hAs := hb.at
      refine Zn asI ?_
      refine r_seq ?_
      obtain ⟨ao110, g110, cp110, hv110, hr110, hg110⟩ := hop.rowOf
      subst hv110
      have hk5 := text5 hopt nx109.toNat
      have hbb13_q := B13
      have hAb13_q := hAb13
      have hr110_q := hr110
      have hV_q := hV
      refine h_region ([]) ζ ?_
      intro w111 F112 hC113
      have Q111 := F112.size
      replace hV := Z0 hV F112
      replace hof := hof.evo0 F112
      replace hop := hop.evo0 F112
      replace B13 := B13.evo0 F112
      replace hAb13 := hAb13.evo0 F112
      replace hb := hb.evo0 F112
      replace hr110 := hr110.evo0 F112
      refine Zt (i := 0) η (fun w' hC => mvS) hC113 ?_
      refine Zt (i := 1) η (fun w' hC => mvI) hC113 ?_
      refine Zt (i := 2) η (fun w' hC => run_ix (nx109.toNat) rfl Tryz.underlying33 ty_32 η η ω ω (hr110.addr (i := nx109.toNat) ω)) hC113 ?_
      have hA114 := hr110.atD (nx109.toNat) ω
      have hA114_q := hr110_q.atD (nx109.toNat) ω
      refine Zt (i := 3) η (fun w' hC => run_fa rfl η fo_32_1) hC113 ?_
      refine Zt (i := 4) η (fun w' hC => run_ld1 rfl ag_9 η ((hA114_q.evo0 hC).cell 1 η)) hC113 ?_
      refine Zt (i := 6) η (fun w' hC => mvS) hC113 ?_
      refine Zt (i := 7) η (fun w' hC => mvI) hC113 ?_
      refine Zt (i := 8) η (fun w' hC => run_ix (nx109.toNat) rfl Tryz.underlying33 ty_32 η η ω ω (hr110.addr (i := nx109.toNat) ω)) hC113 ?_
      have hA115 := hr110.atD (nx109.toNat) ω
      have hA115_q := hr110_q.atD (nx109.toNat) ω
      refine Zt (i := 9) η (fun w' hC => run_fa rfl η fo_32_2) hC113 ?_
      refine Zt (i := 10) η (fun w' hC => run_ld1 rfl ag_3 η ((hA115_q.evo0 hC).cell 2 η)) hC113 ?_
      refine Zh (i := 5) ?_
      refine Zr [S _] rfl η Tryz.func75 (rname_calls ω) ?_
      rintro e w116 ⟨rfl, F116⟩
      refine ⟨_, rfl, ?_⟩
      have Q116 := F116.size
      replace hV := Z0 hV F116
      replace hC113 := Z0 hC113 F116
      replace hof := hof.evo0 F116
      replace hop := hop.evo0 F116
      replace B13 := B13.evo0 F116
      replace hAb13 := hAb13.evo0 F116
      replace hb := hb.evo0 F116
      replace hr110 := hr110.evo0 F116
      refine h_next hC113 ?_
      refine Zt (i := 11) η (fun w' hC => run_bld (pv := [(0, .int _ _), (1, S _), (2, .int _ _)]) (zs := [_, _, _]) (cells := [_, _, _]) rfl ty_32 η pl_32 η η) hC113 ?_
      refine Zh (i := 12) ?_
      refine r_store (v := .agg _) (vs := [_, _, _]) (cs' := [_, _, _]) η η B13 ty_32 η rfl η rfl η ?_
      intro w117 E117 V117 hb_new
      have Q117 := E117.size
      replace hV := Z1 hV E117 ε
      replace hof := hof.evo E117 (by intro g hg hm; simp at hm; subst hm; exact hofx _ hg rfl)
      replace hop := hop.evo E117 (by intro g hg hm; simp at hm; subst hm; exact hopx _ hg rfl)
      replace hb := hb.evo E117 θ
      replace B13 := hb_new
      have hAb13 := B13.at
      clear hb_new
      refine h_last ζ ?_
      refine h_done ζ ?_
      obtain ⟨ao118, g118, cp118, hv118, hr118, hg118⟩ := hop.rowOf
      injection hv118 with ha118 hx118 hc118
      subst ha118; subst hc118
      have hobQ := fun g hg => (hop.block (g := g) hg).2; have hobQF := fun g hg => (hof.block (g := g) hg).2
      have hbb13_q := B13
      have hAb13_q := hAb13
      have hr118_q := hr118
      have hV_q := hV
      refine h_region ([]) ζ ?_
      intro w119 F120 hC121
      have Q119 := F120.size
      replace hV := Z0 hV F120
      replace hof := hof.evo0 F120
      replace hop := hop.evo0 F120
      replace hb := hb.evo0 F120
      replace B13 := B13.evo0 F120
      replace hAb13 := hAb13.evo0 F120
      replace hr118 := hr118.evo0 F120
      refine Zt (i := 0) η (fun w' hC => mvS) hC121 ?_
      refine Zt (i := 1) η (fun w' hC => mvI) hC121 ?_
      refine Zt (i := 2) η (fun w' hC => by exact run_slE (0) (nx109.toNat) rfl Tryz.underlying33 ty_32 η (hr118_q.evo0 hC) lo0 (at1 η ω) (by first | omega | (simp; omega)) (by first | omega | (simp; omega)) List.drop_zero) hC121 ?_
      have hS122 := (by have h9 := (hr118.take (nx109.toNat)).drop (0); rw [List.drop_zero] at h9; exact h9)
      have hbd_hS122 := hS122.bd
      refine Zt (i := 4) η (fun w' hC => mvS) hC121 ?_
      refine Zt (i := 5) η (fun w' hC => mvI) hC121 ?_
      refine Zt (i := 6) η (fun w' hC => run_add rfl η η ω ω) hC121 ?_
      refine Zt (i := 7) η (fun w' hC => by exact run_slE0 ((nx109.toNat + 1)) rfl Tryz.underlying33 ty_32 rfl η (hr118_q.evo0 hC) (at1 η ω) (by first | omega | (simp; omega))) hC121 ?_
      have hS123 := hr118.drop ((nx109.toNat + 1))
      have hbd_hS123 := hS123.bd
      refine Zh (i := 3) ?_
      refine r_appendE rfl Tryz.underlying33 ty_32 η (OwnE.nil (α := Vc.Item) _ w117.heap.size _) η η hS122 rfl ((by first | omega | (simp; omega))) ((by first | omega | (simp; omega))) ω ?_
      intro v124 w125 E125 hov124 hlv124
      have Q125 := E125.size
      replace hV := Z0 hV E125
      replace hC121 := Z0 hC121 E125
      replace hof := hof.evo0 E125
      replace hop := hop.evo0 E125
      replace hb := hb.evo0 E125
      replace B13 := B13.evo0 E125
      replace hAb13 := hAb13.evo0 E125
      replace hr118 := hr118.evo0 E125
      replace hS122 := hS122.evo0 E125
      replace hS123 := hS123.evo0 E125
      refine h_next hC121 ?_
      refine Zh (i := 8) ?_
      refine r_appendE rfl Tryz.underlying33 ty_32 η hov124 η η hS123 rfl ((by first | omega | (simp; omega))) ((by first | omega | (simp; omega))) ω ?_
      intro v126 w127 E127 hov126 hlv126
      have Q127 := E127.size
      replace hV := evo_stepo hV E127 (fun g hg => .inl (by first | exact (hov124.block hg).1 | (have := hov124.block hg; omega)))
      replace hl := hl0 _ hV
      replace hof := hof.evo E127 (by intro g hg hm; have hm2 := Option.mem_toList.1 hm; have h1 := hov124.block hm2; have h2 := hobQF g hg; omega)
      replace hop := hop.evo E127 (by intro g hg hm; have hm2 := Option.mem_toList.1 hm; have h1 := hov124.block hm2; have h2 := hobQ g hg; omega)
      replace hb := hb.evo E127 (by intro hm; have hm2 := Option.mem_toList.1 hm; have := hov124.block hm2; omega)
      replace B13 := B13.evo E127 (by intro hm; have hm2 := Option.mem_toList.1 hm; have := hov124.block hm2; omega)
      replace hAb13 := hAb13.evo E127 (by intro hm; have hm2 := Option.mem_toList.1 hm; have := hov124.block hm2; omega)
      refine h_last ζ ?_
      refine Zh (i := 9) ?_
      refine Zo (run_asg (v := v126) rfl η) ?_
      refine h_last ζ ?_
      refine h_done ζ ?_
      refine r_cut_end ?_ ?_
      ·refine ⟨_, _, _, _, _, _, _, rfl, rfl, hof, (hov126.base_le ω), B13, B13.at, hb, hb.at, (by first | exact hFI.text _ | exact hFI.slot (slotW_ok _ ω).1 | exact hFI.empty (emptyW_ok _ ω).1 ω | exact hFI.open_ (openW_ok _ ω).1 ω | exact hFI.close ω ω | exact hFI.closeNew (by decide) ω), (by first | exact hNS.otherB rfl rfl | exact hNS.open_ _ _ | exact hNS.close ω (fun h9 => by first | rfl | exact absurd h9 hc108) _ | exact NS.closeNew (hc108).2), ⟨by first | omega | exact Nat.le_trans (slotW_ok _ ω).2 (by decide) | exact Nat.le_trans (emptyW_ok _ ω).2 (by decide) | exact Nat.le_trans (openW_ok _ ω).2 (by decide) | exact Nat.le_trans (nameL_len _) (Nat.le_trans (text5 hopt _) (by decide)) | decide, by first | omega | (simp; done) | (simp; omega), by omega, by omega, by omega⟩, (by first | exact hopt | exact (fun o ho => (List.mem_append.1 ho).elim (hopt o) (fun h => by simp at h; subst h; exact (openW_ok _ ω).2)) | exact (fun o ho => (List.mem_append.1 ho).elim (fun h => hopt o (List.mem_of_mem_take h)) (fun h => hopt o (List.mem_of_mem_drop h)))), δ, hV⟩
      exact ψ
     refine r_skip ?_
     refine r_seq ?_
     obtain ⟨ao128, g128, cp128, hv128, hr128, hg128⟩ := hop.rowOf
     subst hv128
     have hk5 := text5 hopt (op.length - 1)
     have hbb13_q := B13
     have hAb13_q := hAb13
     have hr128_q := hr128
     have hV_q := hV
     refine h_region ([]) ζ ?_
     intro w129 F130 hC131
     have Q129 := F130.size
     replace hV := Z0 hV F130
     replace hof := hof.evo0 F130
     replace hop := hop.evo0 F130
     replace B13 := B13.evo0 F130
     replace hAb13 := hAb13.evo0 F130
     replace hb := hb.evo0 F130
     replace hr128 := hr128.evo0 F130
     refine Zt (i := 0) η (fun w' hC => mvS) hC131 ?_
     refine Zt (i := 1) η (fun w' hC => mvI) hC131 ?_
     refine Zt (i := 2) η (fun w' hC => run_ix ((op.length - 1)) rfl Tryz.underlying33 ty_32 η η ω ω (hr128.addr (i := (op.length - 1)) ω)) hC131 ?_
     have hA132 := hr128.atD ((op.length - 1)) ω
     have hA132_q := hr128_q.atD ((op.length - 1)) ω
     refine Zt (i := 3) η (fun w' hC => run_fa rfl η fo_32_1) hC131 ?_
     refine Zt (i := 4) η (fun w' hC => run_ld1 rfl ag_9 η ((hA132_q.evo0 hC).cell 1 η)) hC131 ?_
     refine Zt (i := 6) η (fun w' hC => mvS) hC131 ?_
     refine Zt (i := 7) η (fun w' hC => mvI) hC131 ?_
     refine Zt (i := 8) η (fun w' hC => run_ix ((op.length - 1)) rfl Tryz.underlying33 ty_32 η η ω ω (hr128.addr (i := (op.length - 1)) ω)) hC131 ?_
     have hA133 := hr128.atD ((op.length - 1)) ω
     have hA133_q := hr128_q.atD ((op.length - 1)) ω
     refine Zt (i := 9) η (fun w' hC => run_fa rfl η fo_32_2) hC131 ?_
     refine Zt (i := 10) η (fun w' hC => run_ld1 rfl ag_3 η ((hA133_q.evo0 hC).cell 2 η)) hC131 ?_
     refine Zh (i := 5) ?_
     refine Zr [S _] rfl η Tryz.func75 (rname_calls ω) ?_
     rintro e w134 ⟨rfl, F134⟩
     refine ⟨_, rfl, ?_⟩
     have Q134 := F134.size
     replace hV := Z0 hV F134
     replace hC131 := Z0 hC131 F134
     replace hof := hof.evo0 F134
     replace hop := hop.evo0 F134
     replace B13 := B13.evo0 F134
     replace hAb13 := hAb13.evo0 F134
     replace hb := hb.evo0 F134
     replace hr128 := hr128.evo0 F134
     refine h_next hC131 ?_
     refine Zt (i := 11) η (fun w' hC => run_bld (pv := [(0, .int _ _), (1, S _), (2, .int _ _)]) (zs := [_, _, _]) (cells := [_, _, _]) rfl ty_32 η pl_32 η η) hC131 ?_
     refine Zh (i := 12) ?_
     refine r_store (v := .agg _) (vs := [_, _, _]) (cs' := [_, _, _]) η η B13 ty_32 η rfl η rfl η ?_
     intro w135 E135 V135 hb_new
     have Q135 := E135.size
     replace hV := Z1 hV E135 ε
     replace hof := hof.evo E135 (by intro g hg hm; simp at hm; subst hm; exact hofx _ hg rfl)
     replace hop := hop.evo E135 (by intro g hg hm; simp at hm; subst hm; exact hopx _ hg rfl)
     replace hb := hb.evo E135 θ
     replace B13 := hb_new
     have hAb13 := B13.at
     clear hb_new
     refine h_last ζ ?_
     refine h_done ζ ?_
     obtain ⟨ao136, g136, cp136, hv136, hr136, hg136⟩ := hop.rowOf
     injection hv136 with ha136 hx136 hc136
     subst ha136; subst hc136
     have hobQ := fun g hg => (hop.block (g := g) hg).2; have hobQF := fun g hg => (hof.block (g := g) hg).2
     have hbb13_q := B13
     have hAb13_q := hAb13
     have hr136_q := hr136
     have hV_q := hV
     refine h_region ([]) ζ ?_
     intro w137 F138 hC139
     have Q137 := F138.size
     replace hV := Z0 hV F138
     replace hof := hof.evo0 F138
     replace hop := hop.evo0 F138
     replace hb := hb.evo0 F138
     replace B13 := B13.evo0 F138
     replace hAb13 := hAb13.evo0 F138
     replace hr136 := hr136.evo0 F138
     refine Zt (i := 0) η (fun w' hC => mvS) hC139 ?_
     refine Zt (i := 1) η (fun w' hC => mvI) hC139 ?_
     refine Zt (i := 2) η (fun w' hC => by exact run_slE (0) ((op.length - 1)) rfl Tryz.underlying33 ty_32 η (hr136_q.evo0 hC) lo0 (at1 η ω) (by first | omega | (simp; omega)) (by first | omega | (simp; omega)) List.drop_zero) hC139 ?_
     have hS140 := (by have h9 := (hr136.take ((op.length - 1))).drop (0); rw [List.drop_zero] at h9; exact h9)
     have hbd_hS140 := hS140.bd
     refine Zt (i := 4) η (fun w' hC => mvS) hC139 ?_
     refine Zt (i := 5) η (fun w' hC => mvI) hC139 ?_
     refine Zt (i := 6) η (fun w' hC => run_add rfl η η ω ω) hC139 ?_
     refine Zt (i := 7) η (fun w' hC => by exact run_slE0 (((op.length - 1) + 1)) rfl Tryz.underlying33 ty_32 rfl η (hr136_q.evo0 hC) (at1 η ω) (by first | omega | (simp; omega))) hC139 ?_
     have hS141 := hr136.drop (((op.length - 1) + 1))
     have hbd_hS141 := hS141.bd
     refine Zh (i := 3) ?_
     refine r_appendE rfl Tryz.underlying33 ty_32 η (OwnE.nil (α := Vc.Item) _ w135.heap.size _) η η hS140 rfl ((by first | omega | (simp; omega))) ((by first | omega | (simp; omega))) ω ?_
     intro v142 w143 E143 hov142 hlv142
     have Q143 := E143.size
     replace hV := Z0 hV E143
     replace hC139 := Z0 hC139 E143
     replace hof := hof.evo0 E143
     replace hop := hop.evo0 E143
     replace hb := hb.evo0 E143
     replace B13 := B13.evo0 E143
     replace hAb13 := hAb13.evo0 E143
     replace hr136 := hr136.evo0 E143
     replace hS140 := hS140.evo0 E143
     replace hS141 := hS141.evo0 E143
     refine h_next hC139 ?_
     refine Zh (i := 8) ?_
     refine r_appendE rfl Tryz.underlying33 ty_32 η hov142 η η hS141 rfl ((by first | omega | (simp; omega))) ((by first | omega | (simp; omega))) ω ?_
     intro v144 w145 E145 hov144 hlv144
     have Q145 := E145.size
     replace hV := evo_stepo hV E145 (fun g hg => .inl (by first | exact (hov142.block hg).1 | (have := hov142.block hg; omega)))
     replace hl := hl0 _ hV
     replace hof := hof.evo E145 (by intro g hg hm; have hm2 := Option.mem_toList.1 hm; have h1 := hov142.block hm2; have h2 := hobQF g hg; omega)
     replace hop := hop.evo E145 (by intro g hg hm; have hm2 := Option.mem_toList.1 hm; have h1 := hov142.block hm2; have h2 := hobQ g hg; omega)
     replace hb := hb.evo E145 (by intro hm; have hm2 := Option.mem_toList.1 hm; have := hov142.block hm2; omega)
     replace B13 := B13.evo E145 (by intro hm; have hm2 := Option.mem_toList.1 hm; have := hov142.block hm2; omega)
     replace hAb13 := hAb13.evo E145 (by intro hm; have hm2 := Option.mem_toList.1 hm; have := hov142.block hm2; omega)
     refine h_last ζ ?_
     refine Zh (i := 9) ?_
     refine Zo (run_asg (v := v144) rfl η) ?_
     refine h_last ζ ?_
     refine h_done ζ ?_
     refine r_cut_end ?_ ?_
     ·refine ⟨_, _, _, _, _, _, _, rfl, rfl, hof, (hov144.base_le ω), B13, B13.at, hb, hb.at, (by first | exact hFI.text _ | exact hFI.slot (slotW_ok _ ω).1 | exact hFI.empty (emptyW_ok _ ω).1 ω | exact hFI.open_ (openW_ok _ ω).1 ω | exact hFI.close ω ω | exact hFI.closeNew (by decide) ω), (by first | exact hNS.otherB rfl rfl | exact hNS.open_ _ _ | exact hNS.close ω (fun h9 => by first | rfl | exact absurd h9 hc108) _ | exact NS.closeNew (hc108).2), ⟨by first | omega | exact Nat.le_trans (slotW_ok _ ω).2 (by decide) | exact Nat.le_trans (emptyW_ok _ ω).2 (by decide) | exact Nat.le_trans (openW_ok _ ω).2 (by decide) | exact Nat.le_trans (nameL_len _) (Nat.le_trans (text5 hopt _) (by decide)) | decide, by first | omega | (simp; done) | (simp; omega), by omega, by omega, by omega⟩, (by first | exact hopt | exact (fun o ho => (List.mem_append.1 ho).elim (hopt o) (fun h => by simp at h; subst h; exact (openW_ok _ ω).2)) | exact (fun o ho => (List.mem_append.1 ho).elim (fun h => hopt o (List.mem_of_mem_take h)) (fun h => hopt o (List.mem_of_mem_drop h)))), δ, hV⟩
     exact ψ
    refine Zs ?_
    refine Zo (run_mvb rfl η) ?_
    refine Zo mvB ?_
    refine r_g rfl (wantT η) rfl (fun hg => run_mvb rfl η) ?_
    refine r_g rfl (wantT η) rfl (fun hg => run_not rfl (glv η (fun h => h) hg)) ?_
    refine Zn (run_pick_and rfl η (fun hq => glv η (fun h => h) hq) rfl) ?_
    refine r_cond η (fun hc146 => ?_) (fun hc146 => ?_)
    ·skip
     refine Zs ?_
     refine Zo mvI ?_
     refine Zo (run_add rfl η η ω ω) ?_
     refine Zn asI ?_
     refine r_region ?_
     refine Zo mvI ?_
     refine Zo (run_bld (pv := [(0, .int _ _), (1, S _), (2, .int _ _)]) (zs := [_, _, _]) (cells := [_, _, _]) rfl ty_32 η pl_32 η η) ?_
     refine r_store (v := .agg _) (vs := [_, _, _]) (cs' := [_, _, _]) η η B13 ty_32 η rfl η rfl η ?_
     intro w147 E147 V147 hb_new
     have Q147 := E147.size
     replace hV := Z1 hV E147 ε
     replace hl := hl0 _ hV
     replace hof := hof.evo E147 (by intro g hg hm; simp at hm; subst hm; exact hofx _ hg rfl)
     replace hop := hop.evo E147 (by intro g hg hm; simp at hm; subst hm; exact hopx _ hg rfl)
     replace hb := hb.evo E147 θ
     replace B13 := hb_new
     have hAb13 := B13.at
     clear hb_new
     refine r_nil ?_
     refine r_cut_end ?_ ?_
     ·refine ⟨_, _, _, _, _, _, _, rfl, rfl, hof, (hop.base_le ω), B13, B13.at, hb, hb.at, (by first | exact hFI.text _ | exact hFI.slot (slotW_ok _ ω).1 | exact hFI.empty (emptyW_ok _ ω).1 ω | exact hFI.open_ (openW_ok _ ω).1 ω | exact hFI.close ω ω | exact hFI.closeNew (by decide) ω), (by first | exact hNS.otherB rfl rfl | exact hNS.open_ _ _ | exact hNS.close ω (fun h9 => by first | rfl | exact absurd h9 hc146) _ | exact NS.closeNew (hc146).2), ⟨by first | omega | exact Nat.le_trans (slotW_ok _ ω).2 (by decide) | exact Nat.le_trans (emptyW_ok _ ω).2 (by decide) | exact Nat.le_trans (openW_ok _ ω).2 (by decide) | exact Nat.le_trans (nameL_len _) (Nat.le_trans (text5 hopt _) (by decide)) | decide, by first | omega | (simp; done) | (simp; omega), by omega, by omega, by omega⟩, (by first | exact hopt | exact (fun o ho => (List.mem_append.1 ho).elim (hopt o) (fun h => by simp at h; subst h; exact (openW_ok _ ω).2)) | exact (fun o ho => (List.mem_append.1 ho).elim (fun h => hopt o (List.mem_of_mem_take h)) (fun h => hopt o (List.mem_of_mem_drop h)))), δ, hV⟩
     exact ψ
    refine r_skip ?_
    refine r_cut_end ?_ ?_
    ·refine ⟨_, _, _, _, _, _, _, rfl, rfl, hof, (hop.base_le ω), B13, B13.at, hb, hb.at, (by first | exact hFI.text _ | exact hFI.slot (slotW_ok _ ω).1 | exact hFI.empty (emptyW_ok _ ω).1 ω | exact hFI.open_ (openW_ok _ ω).1 ω | exact hFI.close ω ω | exact hFI.closeNew (by decide) ω), (by first | exact hNS.otherB rfl rfl | exact hNS.open_ _ _ | exact hNS.close ω (fun h9 => by first | rfl | exact absurd h9 hc146) _ | exact NS.closeNew (hc146).2), ⟨by first | omega | exact Nat.le_trans (slotW_ok _ ω).2 (by decide) | exact Nat.le_trans (emptyW_ok _ ω).2 (by decide) | exact Nat.le_trans (openW_ok _ ω).2 (by decide) | exact Nat.le_trans (nameL_len _) (Nat.le_trans (text5 hopt _) (by decide)) | decide, by first | omega | (simp; done) | (simp; omega), by omega, by omega, by omega⟩, (by first | exact hopt | exact (fun o ho => (List.mem_append.1 ho).elim (hopt o) (fun h => by simp at h; subst h; exact (openW_ok _ ω).2)) | exact (fun o ho => (List.mem_append.1 ho).elim (fun h => hopt o (List.mem_of_mem_take h)) (fun h => hopt o (List.mem_of_mem_drop h)))), δ, hV⟩
    exact ψ
   refine r_skip ?_
   refine r_cut_end ?_ ?_
   ·refine ⟨_, _, _, _, _, _, _, rfl, rfl, hof, (hop.base_le ω), B13, B13.at, hb, hb.at, (by first | exact hFI.text _ | exact hFI.slot (slotW_ok _ ω).1 | exact hFI.empty (emptyW_ok _ ω).1 ω | exact hFI.open_ (openW_ok _ ω).1 ω | exact hFI.close ω ω | exact hFI.closeNew (by decide) ω), (by first | exact hNS.otherB rfl rfl | exact hNS.open_ _ _ | exact hNS.close ω (fun h9 => by first | rfl | exact absurd h9 hc106) _ | exact NS.closeNew (hc106).2), ⟨by first | omega | exact Nat.le_trans (slotW_ok _ ω).2 (by decide) | exact Nat.le_trans (emptyW_ok _ ω).2 (by decide) | exact Nat.le_trans (openW_ok _ ω).2 (by decide) | exact Nat.le_trans (nameL_len _) (Nat.le_trans (text5 hopt _) (by decide)) | decide, by first | omega | (simp; done) | (simp; omega), by omega, by omega, by omega⟩, (by first | exact hopt | exact (fun o ho => (List.mem_append.1 ho).elim (hopt o) (fun h => by simp at h; subst h; exact (openW_ok _ ω).2)) | exact (fun o ho => (List.mem_append.1 ho).elim (fun h => hopt o (List.mem_of_mem_take h)) (fun h => hopt o (List.mem_of_mem_drop h)))), δ, hV⟩
   exact ψ
  rintro g w148 ⟨vo2, op2, idn2, N2, kx, tx, ix, hj149, hj150, hof, hop, B13, hAb13, hb, hAs, hFX, hNX, hsz2, hop2, hzl32, hV⟩
  have hs_w148hV := hV.size
  have hlt151 := B13.lt
  have hlt152 := hb.lt
  refine Zk 10 (v := vo2) (by exact hj149) ?_
  refine Zk 11 (v := .int .i64 idn2) (by exact hj150) ?_
  refine r_blk ?_
  have hobZ := fun g hg => (hop.block (g := g) hg).2
  have s32 : Small (f ++ [⟨kx, tx, ix⟩]) := ⟨by rw [List.length_append]; simp; omega, by rw [sizeL_append, sizeL_one]; simp; omega⟩
  refine r_region ?_
  refine Zo (run_mv (v := vf) rfl η) ?_
  refine Zo (run_ldN rfl ag_32 ty_32 η rfl hAb13) ?_
  refine r_bslice (pv := [(0, .agg _)]) (zs := [_, _, _]) (cs := [_, _, _]) Tryz.underlying33 ty_32 η rfl η rfl η ?_
  intro b153 w154 J153 E154 B153 Y153
  have Q154 := E154.size
  replace hV := Z0 hV E154
  replace hl := hl0 _ hV
  replace hof := hof.evo0 E154
  replace hop := hop.evo0 E154
  replace hb := hb.evo0 E154
  have hrb153 : RowE w154 (some ⟨b153, 0, none⟩) b153 0 1 ([⟨kx, tx, ix⟩] : List Vc.Item) := rowLit ([⟨kx, tx, ix⟩] : List Vc.Item) B153 rfl rfl
  obtain ⟨ao155, g155, cp155, hv155, hr155, hg155⟩ := hof.rowOf
  subst hv155
  refine Zr [.slice _ _ _, .slice (some ⟨b153, 0, none⟩) _ _] rfl η Tryz.func76 (rconcat_calls hr155 hrb153 (by assumption)) ?_
  rintro e w156 ⟨vn156, rfl, F156, hon156⟩
  refine ⟨_, rfl, ?_⟩
  have Q156 := F156.size
  replace hV := Z0 hV F156
  replace hl := hl0 _ hV
  replace hof := hof.evo0 F156
  replace hop := hop.evo0 F156
  replace hb := hb.evo0 F156
  replace hrb153 := hrb153.evo0 F156
  replace hr155 := hr155.evo0 F156
  refine Zn (run_asg (v := vn156) rfl η) ?_
  refine r_blk ?_
  refine r_region ?_
  refine Zo mvI ?_
  refine Zo (run_sub rfl η η ω ω) ?_
  refine Zn asI ?_
  refine r_again (i - 1) ?_ ?_ ?_
  ·first | omega | (dsimp only; omega)
  ·refine ⟨_, _, _, _, _, _, σ, rfl, rfl, rfl, (hon156.base_le ω), hop, hb, hb.at, (by rw [hFI.norm]; exact hFX), (by rw [hFI.norm]; exact hNX), (by have h1 := normL_len (f ++ [⟨kx, tx, ix⟩]); have h2 := normL_size (f ++ [⟨kx, tx, ix⟩]); rw [List.length_append] at h1; rw [sizeL_append, sizeL_one] at h2; simp at h1 h2; omega), (fun g hg h hh => by have h1 := (hon156).block (g := g) hg; have h2 := hobZ h hh; omega), hop2, δ, hV⟩
  exact ψ
 refine r_exit rfl ?_
 refine r_seq ?_
 refine Zs ?_
 refine Zo (run_mv (v := vo) rfl η) ?_
 refine Zo (run_lenOE rfl η Tryz.underlying33 hop) ?_
 refine Zo (run_sub rfl η η ω ω) ?_
 refine Zn asI ?_
 refine r_block ?_
 obtain ⟨ao157, g157, cp157, hv157, hr157, hg157⟩ := hop.rowOf
 subst hv157
 refine r_loop (α := Nat) [9, 15, 118, 119, 120, 121, 122, 123, 124, 125, 126, 127, 128, 129, 130, 131, 132, 133, 134, 135, 136, 137, 138, 139] (fun j g w => ∃ vf2 : Value, ∃ f2 : List Vc.Item, g 15 = .int .i64 ((j : Nat) - 1) ∧ g 9 = vf2 ∧ OwnE w w0.heap.size 32 vf2 f2 ∧ RowE w ao157 g157 0 cp157 op ∧ Blk w bs T [.slice ao l.length cap, .int .i64 (N1 : Nat)] ∧ At w bs 0 [.slice ao l.length cap, .int .i64 (N1 : Nat)] ∧ FI f2 (op.take j) idn ∧ NS nested f2 (op.take j) ∧ (f2.length + j ≤ f.length + op.length ∧ sizeL f2 + 5 * j ≤ sizeL f + 5 * op.length ∧ j ≤ op.length) ∧ (op ≠ [] → ∀ g, vf2.ownBlock = some g → g ≠ g157) ∧ (op ≠ [] → g157 < w.heap.size) ∧ w3.heap.size ≤ w.heap.size ∧ Evo w0 w [bs]) (fun j => j) op.length ?_ ?_
 ·refine ⟨_, _, rfl, rfl, hof, hr157, hb, hb.at, (by rw [List.take_of_length_le (Nat.le_refl _)]; exact hFI), (by rw [List.take_of_length_le (Nat.le_refl _)]; exact hNS), δ, (fun hne g hg => hsep g hg _ (hg157 hne).1), (fun hne => (hg157 hne).2.2), δ, hV⟩
 rintro j g w159 ⟨vf2, f2, hj160, hj161, hof2, hro, hb, hAs, hFI2, hNS2, hsz3, hsep2, hgo, hzl158, hV⟩
 have hs_w159hV := hV.size
 have hlt162 := hb.lt
 refine Zk 15 (v := .int .i64 ((j : Nat) - 1)) (by exact hj160) ?_
 refine Zk 9 (v := vf2) (by exact hj161) ?_
 refine r_seq ?_
 refine Zs ?_
 refine Zo mvI ?_
 refine Zo (run_geq rfl η η) ?_
 refine Zo mvB ?_
 refine r_g rfl (wantT η) rfl (fun hg => run_mvb rfl η) ?_
 refine Zn (run_pick_and rfl η (fun hq => glv η (fun h => h) hq) rfl) ?_
 refine r_cond η (fun hc163 => ?_) (fun hc163 => ?_)
 ·skip
  refine r_skip ?_
  refine r_seq ?_
  refine r_block ?_
  have hk5 := text5 hopt (j - 1)
  have hV_q := hV
  refine h_region ([]) ζ ?_
  intro w164 F165 hC166
  have Q164 := F165.size
  replace hV := Z0 hV F165
  replace hof2 := hof2.evo0 F165
  replace hro := hro.evo0 F165
  replace hb := hb.evo0 F165
  refine Zt (i := 0) η (fun w' hC => run_mv (v := vf2) rfl η) hC166 ?_
  refine Zt (i := 1) η (fun w' hC => mvS) hC166 ?_
  refine Zt (i := 2) η (fun w' hC => mvI) hC166 ?_
  refine Zt (i := 3) η (fun w' hC => run_ix ((j - 1)) rfl Tryz.underlying33 ty_32 η η ω ω (hro.addr (i := (j - 1)) ω)) hC166 ?_
  have hA167 := hro.atD ((j - 1)) ω
  refine Zt (i := 4) η (fun w' hC => run_fa rfl η fo_32_1) hC166 ?_
  refine Zt (i := 7) η (fun w' hC => mvS) hC166 ?_
  refine Zt (i := 8) η (fun w' hC => mvI) hC166 ?_
  refine Zt (i := 9) η (fun w' hC => run_ix ((j - 1)) rfl Tryz.underlying33 ty_32 η η ω ω (hro.addr (i := (j - 1)) ω)) hC166 ?_
  have hA168 := hro.atD ((j - 1)) ω
  refine Zt (i := 10) η (fun w' hC => run_fa rfl η fo_32_2) hC166 ?_
  refine h_two (i := 5) (j := 11) ζ ?_ ?_
  ·skip
   refine h_do η ?_
   refine Zo (run_ld1 rfl ag_9 η (hA167.cell 1 η)) ?_
   refine h_next hC166 ?_
   refine h_two (i := 6) (j := 11) ζ ?_ ?_
   ·skip
    refine h_do η ?_
    refine Zr [S _] rfl η Tryz.func75 (rname_calls ω) ?_
    rintro e w169 ⟨rfl, F169⟩
    refine ⟨_, rfl, ?_⟩
    have Q169 := F169.size
    replace hV := Z0 hV F169
    replace hC166 := Z0 hC166 F169
    replace hof2 := hof2.evo0 F169
    replace hro := hro.evo0 F169
    replace hb := hb.evo0 F169
    replace hA168 := hA168.evo0 F169
    refine h_next hC166 ?_
    refine Zh (i := 11) ?_
    refine Zo (run_ld1 rfl ag_3 η (hA168.cell 2 η)) ?_
    refine h_next hC166 ?_
    refine Zt (i := 12) η (fun w' hC => run_bld (pv := [(0, .int _ _), (1, S _), (2, .int _ _)]) (zs := [_, _, _]) (cells := [_, _, _]) rfl ty_32 η pl_32 η η) hC166 ?_
    refine Zh (i := 13) ?_
    refine r_bslice (pv := [(0, .agg _)]) (zs := [_, _, _]) (cs := [_, _, _]) Tryz.underlying33 ty_32 η rfl η rfl η ?_
    intro b170 w171 J170 E171 B170 Y170
    have Q171 := E171.size
    replace hV := Z0 hV E171
    replace hC166 := Z0 hC166 E171
    replace hof2 := hof2.evo0 E171
    replace hro := hro.evo0 E171
    replace hb := hb.evo0 E171
    have hrb170 := rowLit (α := Vc.Item) [⟨_, _, _⟩] B170 (by show [_, _, _] = [_, _, _]; first | (dsimp only; done) | exact rfl | (dsimp only; exact rfl)) rfl
    refine h_next hC166 ?_
    refine Zh (i := 14) ?_
    refine r_appendE rfl Tryz.underlying33 ty_32 η hof2 η η hrb170 rfl ((by first | omega | (simp; omega))) ((by first | omega | (simp; omega))) ω ?_
    intro v172 w173 E173 hov172 hlv172
    have Q173 := E173.size
    replace hV := evo_stepo hV E173 (fun g hg => .inl (by first | exact (hof2.block hg).1 | (have := hof2.block hg; omega)))
    replace hl := hl0 _ hV
    replace hro := row_keep hro E173 (fun hne hm => hsep2 hne _ (Option.mem_toList.1 hm) rfl)
    replace hb := hb.evo E173 (by intro hm; have hm2 := Option.mem_toList.1 hm; have := hof2.block hm2; omega)
    refine h_last ζ ?_
    refine Zh (i := 15) ?_
    refine Zo (run_asg (v := v172) rfl η) ?_
    refine h_last ζ ?_
    refine h_done ζ ?_
    refine r_blk ?_
    refine r_region ?_
    refine Zo mvI ?_
    refine Zo (run_sub rfl η η ω ω) ?_
    refine Zn asI ?_
    refine r_again (j - 1) ?_ ?_ ?_
    ·first | omega | (dsimp only; omega)
    ·refine ⟨_, _, σ, rfl, hov172, hro, hb, hb.at, (hFI2.closeLast ω ω ω), (hNS2.closeLast ω ω _), (by rw [List.length_append, sizeL_append, sizeL_one]; have h1 := nameL_len (op.getD (j - 1) default).text; have h2 := text5 hopt (j - 1); simp only [List.length_cons, List.length_nil]; omega), (fun hne g hg => hlv172.elim (fun h => hsep2 hne g (h.symm.trans hg)) (fun h => by have h7 := hgo hne; have h8 := Option.some.inj (h.symm.trans hg); omega)), (fun hne => by have h7 := hgo hne; omega), δ, hV⟩
    exact ψ
   refine h_do η ?_
   refine Zo (run_ld1 rfl ag_3 η (hA168.cell 2 η)) ?_
   refine h_next hC166 ?_
   refine Zh (i := 6) ?_
   refine Zr [S _] rfl η Tryz.func75 (rname_calls ω) ?_
   rintro e w174 ⟨rfl, F174⟩
   refine ⟨_, rfl, ?_⟩
   have Q174 := F174.size
   replace hV := Z0 hV F174
   replace hC166 := Z0 hC166 F174
   replace hof2 := hof2.evo0 F174
   replace hro := hro.evo0 F174
   replace hb := hb.evo0 F174
   refine h_next hC166 ?_
   refine Zt (i := 12) η (fun w' hC => run_bld (pv := [(0, .int _ _), (1, S _), (2, .int _ _)]) (zs := [_, _, _]) (cells := [_, _, _]) rfl ty_32 η pl_32 η η) hC166 ?_
   refine Zh (i := 13) ?_
   refine r_bslice (pv := [(0, .agg _)]) (zs := [_, _, _]) (cs := [_, _, _]) Tryz.underlying33 ty_32 η rfl η rfl η ?_
   intro b175 w176 J175 E176 B175 Y175
   have Q176 := E176.size
   replace hV := Z0 hV E176
   replace hC166 := Z0 hC166 E176
   replace hof2 := hof2.evo0 E176
   replace hro := hro.evo0 E176
   replace hb := hb.evo0 E176
   have hrb175 := rowLit (α := Vc.Item) [⟨_, _, _⟩] B175 (by show [_, _, _] = [_, _, _]; first | (dsimp only; done) | exact rfl | (dsimp only; exact rfl)) rfl
   refine h_next hC166 ?_
   refine Zh (i := 14) ?_
   refine r_appendE rfl Tryz.underlying33 ty_32 η hof2 η η hrb175 rfl ((by first | omega | (simp; omega))) ((by first | omega | (simp; omega))) ω ?_
   intro v177 w178 E178 hov177 hlv177
   have Q178 := E178.size
   replace hV := evo_stepo hV E178 (fun g hg => .inl (by first | exact (hof2.block hg).1 | (have := hof2.block hg; omega)))
   replace hl := hl0 _ hV
   replace hro := row_keep hro E178 (fun hne hm => hsep2 hne _ (Option.mem_toList.1 hm) rfl)
   replace hb := hb.evo E178 (by intro hm; have hm2 := Option.mem_toList.1 hm; have := hof2.block hm2; omega)
   refine h_last ζ ?_
   refine Zh (i := 15) ?_
   refine Zo (run_asg (v := v177) rfl η) ?_
   refine h_last ζ ?_
   refine h_done ζ ?_
   refine r_blk ?_
   refine r_region ?_
   refine Zo mvI ?_
   refine Zo (run_sub rfl η η ω ω) ?_
   refine Zn asI ?_
   refine r_again (j - 1) ?_ ?_ ?_
   ·first | omega | (dsimp only; omega)
   ·refine ⟨_, _, σ, rfl, hov177, hro, hb, hb.at, (hFI2.closeLast ω ω ω), (hNS2.closeLast ω ω _), (by rw [List.length_append, sizeL_append, sizeL_one]; have h1 := nameL_len (op.getD (j - 1) default).text; have h2 := text5 hopt (j - 1); simp only [List.length_cons, List.length_nil]; omega), (fun hne g hg => hlv177.elim (fun h => hsep2 hne g (h.symm.trans hg)) (fun h => by have h7 := hgo hne; have h8 := Option.some.inj (h.symm.trans hg); omega)), (fun hne => by have h7 := hgo hne; omega), δ, hV⟩
   exact ψ
  refine h_do η ?_
  refine Zo (run_ld1 rfl ag_3 η (hA168.cell 2 η)) ?_
  refine h_next hC166 ?_
  refine Zh (i := 5) ?_
  refine Zo (run_ld1 rfl ag_9 η (hA167.cell 1 η)) ?_
  refine h_next hC166 ?_
  refine Zh (i := 6) ?_
  refine Zr [S _] rfl η Tryz.func75 (rname_calls ω) ?_
  rintro e w179 ⟨rfl, F179⟩
  refine ⟨_, rfl, ?_⟩
  have Q179 := F179.size
  replace hV := Z0 hV F179
  replace hC166 := Z0 hC166 F179
  replace hof2 := hof2.evo0 F179
  replace hro := hro.evo0 F179
  replace hb := hb.evo0 F179
  refine h_next hC166 ?_
  refine Zt (i := 12) η (fun w' hC => run_bld (pv := [(0, .int _ _), (1, S _), (2, .int _ _)]) (zs := [_, _, _]) (cells := [_, _, _]) rfl ty_32 η pl_32 η η) hC166 ?_
  refine Zh (i := 13) ?_
  refine r_bslice (pv := [(0, .agg _)]) (zs := [_, _, _]) (cs := [_, _, _]) Tryz.underlying33 ty_32 η rfl η rfl η ?_
  intro b180 w181 J180 E181 B180 Y180
  have Q181 := E181.size
  replace hV := Z0 hV E181
  replace hC166 := Z0 hC166 E181
  replace hof2 := hof2.evo0 E181
  replace hro := hro.evo0 E181
  replace hb := hb.evo0 E181
  have hrb180 := rowLit (α := Vc.Item) [⟨_, _, _⟩] B180 (by show [_, _, _] = [_, _, _]; first | (dsimp only; done) | exact rfl | (dsimp only; exact rfl)) rfl
  refine h_next hC166 ?_
  refine Zh (i := 14) ?_
  refine r_appendE rfl Tryz.underlying33 ty_32 η hof2 η η hrb180 rfl ((by first | omega | (simp; omega))) ((by first | omega | (simp; omega))) ω ?_
  intro v182 w183 E183 hov182 hlv182
  have Q183 := E183.size
  replace hV := evo_stepo hV E183 (fun g hg => .inl (by first | exact (hof2.block hg).1 | (have := hof2.block hg; omega)))
  replace hl := hl0 _ hV
  replace hro := row_keep hro E183 (fun hne hm => hsep2 hne _ (Option.mem_toList.1 hm) rfl)
  replace hb := hb.evo E183 (by intro hm; have hm2 := Option.mem_toList.1 hm; have := hof2.block hm2; omega)
  refine h_last ζ ?_
  refine Zh (i := 15) ?_
  refine Zo (run_asg (v := v182) rfl η) ?_
  refine h_last ζ ?_
  refine h_done ζ ?_
  refine r_blk ?_
  refine r_region ?_
  refine Zo mvI ?_
  refine Zo (run_sub rfl η η ω ω) ?_
  refine Zn asI ?_
  refine r_again (j - 1) ?_ ?_ ?_
  ·first | omega | (dsimp only; omega)
  ·refine ⟨_, _, σ, rfl, hov182, hro, hb, hb.at, (hFI2.closeLast ω ω ω), (hNS2.closeLast ω ω _), (by rw [List.length_append, sizeL_append, sizeL_one]; have h1 := nameL_len (op.getD (j - 1) default).text; have h2 := text5 hopt (j - 1); simp only [List.length_cons, List.length_nil]; omega), (fun hne g hg => hlv182.elim (fun h => hsep2 hne g (h.symm.trans hg)) (fun h => by have h7 := hgo hne; have h8 := Option.some.inj (h.symm.trans hg); omega)), (fun hne => by have h7 := hgo hne; omega), δ, hV⟩
  exact ψ
 refine r_exit rfl ?_
 refine Zs ?_
 refine Zo (run_mv (v := vf2) rfl η) ?_
 refine Zn (run_asg (v := vf2) rfl η) ?_
 refine r_ret (res1 (v := vf2) rfl η) ?_
 exact ⟨_, _, N1, rfl, ⟨hFI2.val, by omega, by omega, hNS2.done hc163⟩, by omega, hV, hb, hof2⟩
def isW (x : Vc.Item) : Prop := x.kind = 6 ∨ x.kind = 7
instance (x : Vc.Item) : Decidable (isW x) := by unfold isW; infer_instance
def gapW (x : Vc.Item) : Prop := x.kind = 8 ∨ x.kind = 2 ∨ x.kind = 3 ∨ x.kind = 4
instance (x : Vc.Item) : Decidable (gapW x) := by unfold gapW; infer_instance
def nextR : List Vc.Item → Nat → Int
  | [], _ => -1
  | x :: r, k => if isW x then (k : Int) else if gapW x then nextR r (k + 1) else -1
def nextT (l : List Vc.Item) (i : Nat) : Int := nextR (l.drop (i + 1)) (i + 1)
theorem drop_consT {l : List Vc.Item} {k : Nat} (h : k < l.length) : l.drop k = l.getD k default :: l.drop (k + 1) := by
  have e : l.getD k default = l[k] := by simp [List.getD, h]
  rw [e]; exact (List.drop_eq_getElem_cons h)
theorem next_hit {l : List Vc.Item} {k : Nat} (h : k < l.length) (h2 : isW (l.getD k default)) : nextR (l.drop k) k = (k : Int) := by rw [drop_consT h]; exact if_pos h2
theorem next_gap {l : List Vc.Item} {k : Nat} (h : k < l.length) (h2 : ¬ isW (l.getD k default)) (h3 : gapW (l.getD k default)) : nextR (l.drop k) k = nextR (l.drop (k + 1)) (k + 1) := by
  rw [drop_consT h]
  conv => lhs; unfold nextR
  rw [if_neg h2, if_pos h3]
theorem next_stop {l : List Vc.Item} {k : Nat} (h : k < l.length) (h2 : ¬ isW (l.getD k default)) (h3 : ¬ gapW (l.getD k default)) : nextR (l.drop k) k = -1 := by
  rw [drop_consT h]; unfold nextR; rw [if_neg h2, if_neg h3]
theorem next_end {l : List Vc.Item} {k : Nat} (h : l.length ≤ k) : nextR (l.drop k) k = -1 := by rw [List.drop_of_length_le h]; rfl
theorem nextR_bd (l : List Vc.Item) : ∀ (n k : Nat), l.length - k = n → k ≤ l.length → nextR (l.drop k) k = -1 ∨ ((k : Int) ≤ nextR (l.drop k) k ∧ nextR (l.drop k) k < (l.length : Int) ∧ isW (l.getD (nextR (l.drop k) k).toNat default))
  | 0, k, h, _ => .inl (next_end ω)
  | n + 1, k, h, _ => by
    have hk : k < l.length := by omega
    by_cases h2 : isW (l.getD k default)
    · rw [next_hit hk h2]; exact .inr ⟨by omega, by omega, by simpa using h2⟩
    · by_cases h3 : gapW (l.getD k default)
      · rw [next_gap hk h2 h3]
        rcases nextR_bd l n (k + 1) ω ω with h4 | ⟨h4, h5, h6⟩
        · exact .inl h4
        · exact .inr ⟨by omega, h5, h6⟩
      · exact .inl (next_stop hk h2 h3)
theorem nextT_bd {l : List Vc.Item} {i : Nat} (h : i < l.length) : nextT l i = -1 ∨ ((i : Int) + 1 ≤ nextT l i ∧ nextT l i < (l.length : Int) ∧ isW (l.getD (nextT l i).toNat default)) := by
  rcases nextR_bd l _ (i + 1) rfl ω with h1 | ⟨h1, h2, h3⟩
  · exact .inl h1
  · exact .inr ⟨by have : ((i + 1 : Nat) : Int) ≤ nextT l i := h1
                   omega, h2, h3⟩
def chainF (l : List Vc.Item) : Int → Int → List (List Str) → Int
  | _, e, [] => e
  | i, _, s :: r => if i < 0 then -1 else if lowS (l.getD i.toNat default).text ∈ s then chainF l (nextT l i.toNat) (i + 1) r else -1
theorem chain_neg {l : List Vc.Item} {i e : Int} {s : List Str} {r : List (List Str)} (h : i < 0) : chainF l i e (s :: r) = -1 := if_pos h
theorem chain_no {l : List Vc.Item} {i e : Int} {s : List Str} {r : List (List Str)} (h : ¬ i < 0) (h2 : ¬ lowS (l.getD i.toNat default).text ∈ s) : chainF l i e (s :: r) = -1 := by unfold chainF; rw [if_neg h, if_neg h2]
theorem chain_go {l : List Vc.Item} {i e : Int} {s : List Str} {r : List (List Str)} (h : ¬ i < 0) (h2 : lowS (l.getD i.toNat default).text ∈ s) : chainF l i e (s :: r) = chainF l (nextT l i.toNat) (i + 1) r := by
  conv => lhs; unfold chainF
  rw [if_neg h, if_pos h2]
end Go.Proofs.YtlfjocbnbceceaaGreatDoor
namespace Go.Vc
open Go Go.RowKit Go.IntWalk Go.Deep
structure TermL where
  words : List Ende
  req : List Str
  forb : List Str
deriving Inhabited
instance : Rep TermL where
  n := 3
  rep w cs x := (∃ ao b off cap ao1 b1 off1 cap1 ao2 b2 off2 cap2, cs = [.slice ao x.words.length cap, .slice ao1 x.req.length cap1, .slice ao2 x.forb.length cap2] ∧ RowE w ao b off cap x.words ∧ RowE w ao1 b1 off1 cap1 x.req ∧ RowE w ao2 b2 off2 cap2 x.forb) ∧ (x.words.length ≤ 4398046510976 ∧ ∀ y ∈ x.words, BdE y)
  len := fun ⟨⟨_, _, _, _, _, _, _, _, _, _, _, _, h, _⟩, _⟩ => by rw [h]; rfl
  evo0 := fun ⟨⟨ao, b, off, cap, ao1, b1, off1, cap1, ao2, b2, off2, cap2, h, h1, h2, h3⟩, hb⟩ he => ⟨⟨ao, b, off, cap, ao1, b1, off1, cap1, ao2, b2, off2, cap2, h, h1.evo0 he, h2.evo0 he, h3.evo0 he⟩, hb⟩
  pos := by decide
theorem term_at {w : World} {ao : Option Addr} {b off cap : Nat} {l : List TermL} (h : RowR w ao b off cap l) (k : Nat) (hk : k < l.length) :
    ∃ aoW bW offW capW aoQ bQ offQ capQ aoF bF offF capF, At w b (off + k * 3) [.slice aoW (l.getD k default).words.length capW, .slice aoQ (l.getD k default).req.length capQ, .slice aoF (l.getD k default).forb.length capF] ∧ RowE w aoW bW offW capW (l.getD k default).words ∧ RowE w aoQ bQ offQ capQ (l.getD k default).req ∧ RowE w aoF bF offF capF (l.getD k default).forb := by
  obtain ⟨cs, h1, ⟨ao, b, off, cap, ao1, b1, off1, cap1, ao2, b2, off2, cap2, h2, h3, h4, h5⟩, _⟩ := h.atD k hk
  exact ⟨_, _, _, _, _, _, _, _, _, _, _, _, h2 ▸ h1, h3, h4, h5⟩
theorem term_atK {w : World} {E : List Nat} {ao : Option Addr} {b off cap : Nat} {l : List TermL} (h : RowRK w E ao b off cap l) (k : Nat) (hk : k < l.length) :
    ∃ aoW bW offW capW aoQ bQ offQ capQ aoF bF offF capF, ∀ w', Evo w w' E → At w' b (off + k * 3) [.slice aoW (l.getD k default).words.length capW, .slice aoQ (l.getD k default).req.length capQ, .slice aoF (l.getD k default).forb.length capF] ∧ RowE w' aoW bW offW capW (l.getD k default).words ∧ RowE w' aoQ bQ offQ capQ (l.getD k default).req ∧ RowE w' aoF bF offF capF (l.getD k default).forb := by
  obtain ⟨cs, h1⟩ := h.atD k hk
  obtain ⟨ao, b, off, cap, ao1, b1, off1, cap1, ao2, b2, off2, cap2, h2, h3, h4, h5⟩ := (h1 w (Evo.refl _ _)).2.1
  refine ⟨ao, b, off, cap, ao1, b1, off1, cap1, ao2, b2, off2, cap2, fun w' he => ⟨h2 ▸ (h1 w' he).1, ?_⟩⟩
  obtain ⟨ao', b', off', cap', ao1', b1', off1', cap1', ao2', b2', off2', cap2', h2', h3', h4', h5'⟩ := (h1 w' he).2.1
  rw [h2] at h2'
  simp only [List.cons.injEq, Value.slice.injEq, and_true, true_and] at h2'
  obtain ⟨⟨rfl, rfl⟩, ⟨rfl, rfl⟩, rfl, rfl⟩ := h2'
  exact ⟨rowE_same h3' h3, rowE_same h4' h4, rowE_same h5' h5⟩
theorem term_bd {w : World} {ao : Option Addr} {b off cap : Nat} {l : List TermL} (h : RowR w ao b off cap l) : ∀ x ∈ l, x.words.length ≤ 4398046510976 ∧ ∀ y ∈ x.words, BdE y := fun x hx => by
  obtain ⟨css, _, hl, hr⟩ := h
  obtain ⟨i, hi⟩ := List.getElem?_of_mem hx
  have hi2 : i < l.length := (List.getElem?_eq_some_iff.1 hi).1
  exact (hr i (css[i]'ω) x (by simp [hl, hi2]) hi).2
structure SetS where
  ks : List Str
deriving Inhabited
def eU : Unit → Value := fun _ => Value.agg #[]
def SetIs (w : World) (b : Nat) (ks : List Str) : Prop := ∃ m : List (Str × Unit), MapIs w b S eU m ∧ ∀ s, (getM m s).isSome = true ↔ s ∈ ks
theorem SetIs.evo {w w' : World} {b : Nat} {ks : List Str} {E : List Nat} (h : SetIs w b ks) (he : Evo w w' E) (hn : b ∉ E) : SetIs w' b ks := by
  obtain ⟨m, h1, h2⟩ := h; exact ⟨m, h1.evo he hn, h2⟩
theorem SetIs.evo0 {w w' : World} {b : Nat} {ks : List Str} (h : SetIs w b ks) (he : Evo w w' []) : SetIs w' b ks := h.evo he (by simp)
theorem SetIs.lt {w : World} {b : Nat} {ks : List Str} (h : SetIs w b ks) : b < w.heap.size := by obtain ⟨m, h1, _⟩ := h; exact h1.lt
theorem SetIs.bd {w : World} {b : Nat} {ks : List Str} (_ : SetIs w b ks) : True := trivial
instance : Rep SetS where
  n := 1
  rep w cs x := ∃ b, cs = [.map (some b)] ∧ SetIs w b x.ks
  len := fun ⟨_, h, _⟩ => by rw [h]; rfl
  evo0 := fun ⟨b, h, hm⟩ he => ⟨b, h, hm.evo0 he⟩
  pos := by decide
theorem set_atK {w : World} {E : List Nat} {ao : Option Addr} {b off cap : Nat} {l : List SetS} (h : RowRK w E ao b off cap l) (k : Nat) (hk : k < l.length) :
    ∃ bM, ∀ w', Evo w w' E → At w' b (off + k * 1) [.map (some bM)] ∧ SetIs w' bM (l.getD k default).ks := by
  obtain ⟨cs, h1⟩ := h.atD k hk
  obtain ⟨bM, h2, _⟩ := (h1 w (Evo.refl _ _)).2
  refine ⟨bM, fun w' he => ⟨h2 ▸ (h1 w' he).1, ?_⟩⟩
  obtain ⟨b', h4, h5⟩ := (h1 w' he).2
  rw [h2] at h4
  simp only [List.cons.injEq, Value.map.injEq, Option.some.injEq, and_true] at h4
  rw [h4]; exact h5
end Go.Vc
namespace Go.Proofs.YtlfjocbnbceceaaGreatDoor
open Go.RowKit Go.Vc
theorem ag_96 : aggP Tryz.prog 96 = some true := ζ
theorem fo_96_0 : fieldP Tryz.prog 96 0 = some 0 := ζ
theorem tisword_calls {x : Vc.Item} {w0 : World}  :
    Calls Tryz.prog 191 #[.agg (Enc.enc x).toArray] w0 fun e w' => e = .returned (.bool (decide (isW x))) ∧ Evo w0 w' [] := by
 refine calls_enter (n := 11) Tryz.func191 rfl Tryz.ntmps191 rfl ?_
 have hV : Evo w0 w0 [] := Evo.refl _ _
 refine Zs ?_
 refine r_box (vs := [_, _, _]) η η rfl ?_
 intro b1 w2 J1 E2 B1 Y1
 have Q2 := E2.size
 replace hV := Z0 hV E2
 refine Zn asB ?_
 refine Zs ?_
 refine Zo (run_fa rfl η fo_96_0) ?_
 refine Zo (run_ld1 rfl ag_3 η (B1.at.cell 0 η)) ?_
 refine Zo (run_eql rfl η η) ?_
 refine Zo mvB ?_
 refine r_g rfl (wantF η) rfl (fun hg => run_fa rfl η fo_96_0) ?_
 refine r_g rfl (wantF η) rfl (fun hg => run_ld1 rfl ag_3 (glv η (fun h => h) hg) (B1.at.cell 0 η)) ?_
 refine r_g rfl (wantF η) rfl (fun hg => run_eql rfl (glv η (fun h => h) hg) η) ?_
 refine Zo (run_pick_or rfl η rfl (fun hq => glv η (fun h => h) hq)) ?_
 refine Zn asB ?_
 refine r_ret (res1 (v := .bool _) rfl η) ?_
 exact ⟨ret_bool (decide_eq_decide.2 (by unfold isW; omega)), hV⟩
theorem ttnext_calls {ao : Option Addr} {b off cap : Nat} {l : List Vc.Item} {i : Int} {w0 : World} (hl : RowE w0 ao b off cap l) (h0 : 0 ≤ i) (h1 : i < l.length) :
    Calls Tryz.prog 212 #[.slice ao l.length cap, .int .i64 i] w0 fun e w' => e = .returned (.int .i64 (nextT l i.toNat)) ∧ Evo w0 w' [] := by
 refine calls_enter (n := 28) Tryz.func212 rfl Tryz.ntmps212 rfl ?_
 have hV : Evo w0 w0 [] := Evo.refl _ _
 have hl0 := keepE hl
 have hbd_hl := hl.bd
 refine Zs ?_
 refine Zn asI ?_
 refine r_seq ?_
 refine Zs ?_
 refine Zo mvI ?_
 refine Zo (run_add rfl η η ω ω) ?_
 refine Zn asI ?_
 refine r_block ?_
 refine r_loop (α := Nat) [4, 5, 8, 9, 10, 11, 12, 13, 14, 15, 16, 17, 18, 19, 20, 21, 22, 23, 24, 25, 26, 27] (fun k g w => g 5 = .int .i64 (k : Nat) ∧ k ≤ l.length ∧ nextR (l.drop k) k = nextT l i.toNat ∧ w0.heap.size ≤ w.heap.size ∧ Evo w0 w []) (fun k => l.length - k) (i.toNat + 1) ?_ ?_
 ·refine ⟨(congrArg (Value.int _) ω), δ, rfl, δ, hV⟩
 rintro k g w2 ⟨hj3, hk, hnx, hzl1, hV⟩
 have hs_w2hV := hV.size
 replace hl := hl0 _ hV
 refine Zk 5 (v := .int .i64 (k : Nat)) (by exact hj3) ?_
 refine r_seq ?_
 refine Zs ?_
 refine Zo mvI ?_
 refine Zo mvS ?_
 refine Zo (run_lenSl rfl η Tryz.underlying94) ?_
 refine Zn (run_lss rfl η η) ?_
 refine r_cond η (fun hc4 => ?_) (fun hc4 => ?_)
 ·skip
  refine r_skip ?_
  refine r_seq ?_
  refine r_block ?_
  refine Zs ?_
  refine Zo mvS ?_
  refine Zo mvI ?_
  refine Zo (run_ix (k) rfl Tryz.underlying94 ty_96 η η (by first | exact rfl | omega) ω (hl.addr (i := k) ω)) ?_
  have hA50 := fun (w' : World) (h : Evo w0 w' []) => (hl0 w' h).atD (k) ω
  have hA5 := hA50 _ hV
  refine Zo (run_fa rfl η fo_96_0) ?_
  refine Zn (run_ld1 rfl ag_3 η (hA5.cell 0 η)) ?_
  refine r_block ?_
  refine r_seq ?_
  refine Zs ?_
  refine Zo (run_eql rfl η η) ?_
  refine Zn asB ?_
  refine r_cond η (fun hc6 => ?_) (fun hc6 => ?_)
  ·skip
   refine r_skip ?_
   refine r_condT η hc6 ?_
   refine Zs ?_
   refine Zo mvI ?_
   refine Zn asI ?_
   refine r_ret (res1 (v := .int _ _) rfl η) ?_
   first | exact ⟨ret_int (by rw [← hnx, next_hit (l := l) (k := k) ω (by first | assumption | (unfold isW; omega))]), hV⟩ | exact ⟨ret_int (by rw [← hnx, next_stop (l := l) (k := k) ω (by first | assumption | (unfold isW; omega)) (by unfold gapW; omega)]), hV⟩ | exact ⟨ret_int (by rw [← hnx, next_end (l := l) (k := k) ω]), hV⟩
  refine r_region ?_
  refine Zo (run_eql rfl η η) ?_
  refine Zn asB ?_
  refine r_cond η (fun hc7 => ?_) (fun hc7 => ?_)
  ·skip
   refine Zs ?_
   refine Zo mvI ?_
   refine Zn asI ?_
   refine r_ret (res1 (v := .int _ _) rfl η) ?_
   first | exact ⟨ret_int (by rw [← hnx, next_hit (l := l) (k := k) ω (by first | assumption | (unfold isW; omega))]), hV⟩ | exact ⟨ret_int (by rw [← hnx, next_stop (l := l) (k := k) ω (by first | assumption | (unfold isW; omega)) (by unfold gapW; omega)]), hV⟩ | exact ⟨ret_int (by rw [← hnx, next_end (l := l) (k := k) ω]), hV⟩
  refine r_seq ?_
  refine Zs ?_
  refine Zo (run_eql rfl η η) ?_
  refine Zn asB ?_
  refine r_cond η (fun hc8 => ?_) (fun hc8 => ?_)
  ·skip
   refine r_skip ?_
   refine r_condT η hc8 ?_
   refine r_skip ?_
   refine r_blk ?_
   refine r_blk ?_
   refine r_region ?_
   refine Zo mvI ?_
   refine Zo (run_add rfl η η ω ω) ?_
   refine Zn asI ?_
   refine r_again (k + 1) ?_ ?_ ?_
   ·first | omega | (dsimp only; omega)
   ·refine ⟨(congrArg (Value.int _) ω), δ, (by rw [← hnx, next_gap (l := l) (k := k) ω (by first | assumption | (unfold isW; omega)) (by unfold gapW; omega)]), δ, hV⟩
   exact ψ
  refine Zs ?_
  refine Zo (run_eql rfl η η) ?_
  refine Zn asB ?_
  refine r_cond η (fun hc9 => ?_) (fun hc9 => ?_)
  ·skip
   refine r_skip ?_
   refine r_condT η hc9 ?_
   refine r_skip ?_
   refine r_blk ?_
   refine r_blk ?_
   refine r_region ?_
   refine Zo mvI ?_
   refine Zo (run_add rfl η η ω ω) ?_
   refine Zn asI ?_
   refine r_again (k + 1) ?_ ?_ ?_
   ·first | omega | (dsimp only; omega)
   ·refine ⟨(congrArg (Value.int _) ω), δ, (by rw [← hnx, next_gap (l := l) (k := k) ω (by first | assumption | (unfold isW; omega)) (by unfold gapW; omega)]), δ, hV⟩
   exact ψ
  refine Zs ?_
  refine Zo (run_eql rfl η η) ?_
  refine Zn asB ?_
  refine r_cond η (fun hc10 => ?_) (fun hc10 => ?_)
  ·skip
   refine r_skip ?_
   refine r_condT η hc10 ?_
   refine r_skip ?_
   refine r_blk ?_
   refine r_blk ?_
   refine r_region ?_
   refine Zo mvI ?_
   refine Zo (run_add rfl η η ω ω) ?_
   refine Zn asI ?_
   refine r_again (k + 1) ?_ ?_ ?_
   ·first | omega | (dsimp only; omega)
   ·refine ⟨(congrArg (Value.int _) ω), δ, (by rw [← hnx, next_gap (l := l) (k := k) ω (by first | assumption | (unfold isW; omega)) (by unfold gapW; omega)]), δ, hV⟩
   exact ψ
  refine r_region ?_
  refine Zo (run_eql rfl η η) ?_
  refine Zn asB ?_
  refine r_cond η (fun hc11 => ?_) (fun hc11 => ?_)
  ·skip
   refine r_skip ?_
   refine r_blk ?_
   refine r_blk ?_
   refine r_region ?_
   refine Zo mvI ?_
   refine Zo (run_add rfl η η ω ω) ?_
   refine Zn asI ?_
   refine r_again (k + 1) ?_ ?_ ?_
   ·first | omega | (dsimp only; omega)
   ·refine ⟨(congrArg (Value.int _) ω), δ, (by rw [← hnx, next_gap (l := l) (k := k) ω (by first | assumption | (unfold isW; omega)) (by unfold gapW; omega)]), δ, hV⟩
   exact ψ
  refine Zs ?_
  refine Zn asI ?_
  refine r_ret (res1 (v := .int _ _) rfl η) ?_
  first | exact ⟨ret_int (by rw [← hnx, next_hit (l := l) (k := k) ω (by first | assumption | (unfold isW; omega))]), hV⟩ | exact ⟨ret_int (by rw [← hnx, next_stop (l := l) (k := k) ω (by first | assumption | (unfold isW; omega)) (by unfold gapW; omega)]), hV⟩ | exact ⟨ret_int (by rw [← hnx, next_end (l := l) (k := k) ω]), hV⟩
 refine r_exit rfl ?_
 refine Zs ?_
 refine Zn asI ?_
 refine r_ret (res1 (v := .int _ _) rfl η) ?_
 first | exact ⟨ret_int (by rw [← hnx, next_hit (l := l) (k := k) ω (by first | assumption | (unfold isW; omega))]), hV⟩ | exact ⟨ret_int (by rw [← hnx, next_stop (l := l) (k := k) ω (by first | assumption | (unfold isW; omega)) (by unfold gapW; omega)]), hV⟩ | exact ⟨ret_int (by rw [← hnx, next_end (l := l) (k := k) ω]), hV⟩
theorem ag_171 : aggP Tryz.prog 171 = some false := ζ
theorem ag_77 : aggP Tryz.prog 77 = some false := ζ
theorem fo_96_1 : fieldP Tryz.prog 96 1 = some 1 := ζ
theorem ty_171 : tyP Tryz.prog 171 = some (1, 8, some (.map none)) := ζ
theorem ty_77 : tyP Tryz.prog 77 = some (1, 24, some (.slice none 0 0)) := ζ
theorem getM_isSome_mem {m : List (Str × Unit)} {x : Str} : (getM m x).isSome = true ↔ x ∈ m.map (·.1) := by
  unfold getM
  rw [Option.isSome_map, List.find?_isSome]
  simp only [decide_eq_true_eq, List.mem_map]
theorem KeyIs.some {m : List (Str × Unit)} {l : List Str} (h : KeyIs m l) (s : Str) : (getM m s).isSome = true ↔ s ∈ l := by
  rw [getM_isSome_mem]; exact h.2 s
def nth (ss : List SetS) : List (List Str) := ss.map (·.ks)
theorem nth_drop {ss : List SetS} {k : Nat} (h : k < ss.length) : nth (ss.drop k) = (ss.getD k default).ks :: nth (ss.drop (k + 1)) := by
  have e : ss.getD k default = ss[k] := by simp [List.getD, h]
  rw [e, List.drop_eq_getElem_cons h]; rfl
def atOk (l : List Vc.Item) (i : Int) : Prop := i = -1 ∨ (0 ≤ i ∧ i < (l.length : Int))
theorem atOk_next {l : List Vc.Item} {i : Int} (h : 0 ≤ i) (h2 : i < (l.length : Int)) : atOk l (nextT l i.toNat) := by
  rcases nextT_bd (l := l) (i := i.toNat) ω with h3 | ⟨h3, h4, _⟩
  · exact .inl h3
  · exact .inr ⟨by omega, h4⟩
theorem tchain_calls {ao : Option Addr} {b off cap : Nat} {l : List Vc.Item} {i : Int} {aos : Option Addr} {bs offs caps : Nat} {ss : List SetS} {w0 : World} (hl : RowE w0 ao b off cap l) (hs : RowR w0 aos bs offs caps ss) (hq : ∀ x ∈ l, x.text.length ≤ 140737488355328) (h0 : 0 ≤ i) (h1 : i < l.length) :
    Calls Tryz.prog 192 #[.slice ao l.length cap, .int .i64 i, .slice aos ss.length caps] w0 fun e w' => e = .returned (.int .i64 (chainF l i (-1) (nth ss))) ∧ Evo w0 w' [] := by
 refine calls_enter (n := 40) Tryz.func192 rfl Tryz.ntmps192 rfl ?_
 have hV : Evo w0 w0 [] := Evo.refl _ _
 have hl0 := keepE hl
 have hbd_hl := hl.bd
 have hs0 := hs.keep
 have hbd_hs := hs.bd
 refine Zs ?_
 refine Zn asI ?_
 refine Zs ?_
 refine Zn asI ?_
 refine r_seq ?_
 refine Zs ?_
 refine Zo mvS ?_
 refine Zo (run_lenSl rfl η Tryz.underlying200) ?_
 refine Zn mvI ?_
 refine r_block ?_
 refine r_loop (α := Nat) [1, 6, 7, 9, 10, 11, 14, 15, 16, 17, 18, 19, 20, 21, 22, 23, 24, 25, 26, 27, 28, 29, 30, 31, 32, 33, 34, 35, 36, 37, 38] (fun k g w => ∃ at1 : Int, ∃ en : Int, g 14 = .int .i64 (k : Nat) ∧ g 1 = .int .i64 at1 ∧ g 7 = .int .i64 en ∧ k ≤ ss.length ∧ atOk l at1 ∧ chainF l at1 en (nth (ss.drop k)) = chainF l i (-1) (nth ss) ∧ w0.heap.size ≤ w.heap.size ∧ Evo w0 w []) (fun k => ss.length - k) 0 ?_ ?_
 ·refine ⟨i, (-1), σ, rfl, rfl, δ, (.inr ⟨h0, h1⟩), rfl, δ, hV⟩
 rintro k g w2 ⟨at1, en, hj3, hj4, hj5, hk_k, hat, hch, hzl1, hV⟩
 have hs_w2hV := hV.size
 replace hl := hl0 _ hV
 replace hs := hs0.now hV
 refine Zk 14 (v := .int .i64 (k : Nat)) (by exact hj3) ?_
 refine Zk 1 (v := .int .i64 at1) (by exact hj4) ?_
 refine Zk 7 (v := .int .i64 en) (by exact hj5) ?_
 refine Zs ?_
 refine Zn (run_lss rfl η η) ?_
 refine r_seq ?_
 refine r_cond η (fun hc6 => ?_) (fun hc6 => ?_)
 ·skip
  refine r_skip ?_
  refine r_seq ?_
  refine r_block ?_
  refine Zs ?_
  refine Zo (run_ix (k) rfl Tryz.underlying200 ty_171 η η (by first | exact rfl | omega) ω (hs.addr (i := k) ω)) ?_
  obtain ⟨bM7, hX⟩ := set_atK hs0 (k) ω
  have hA70 := fun (w' : World) (h : Evo w0 w' []) => (hX w' h).1
  have hA7 := hA70 _ hV
  have hM70 := fun (w' : World) (h : Evo w0 w' []) => (hX w' h).2
  have hM7 := hM70 _ hV
  clear hX
  refine Zo (run_ld1 rfl ag_171 η (hA7.cell 0 η)) ?_
  refine Zn asM ?_
  refine r_seq ?_
  refine Zs ?_
  refine Zo mvI ?_
  refine Zn (run_lss rfl η η) ?_
  refine r_cond η (fun hc8 => ?_) (fun hc8 => ?_)
  ·skip
   refine Zs ?_
   refine Zn asI ?_
   refine r_ret (res1 (v := .int _ _) rfl η) ?_
   first | exact ⟨ret_int (by rw [← hch, nth_drop (ss := ss) (k := k) ω, chain_neg ω]), hV⟩ | exact ⟨ret_int (by rw [← hch, nth_drop (ss := ss) (k := k) ω, chain_no ω (fun q => by have h9 := (hKS _).2 q; simp_all)]), hV⟩ | exact ⟨ret_int (by rw [← hch, List.drop_of_length_le ω]; rfl), hV⟩
  refine r_skip ?_
  refine r_seq ?_
  refine r_seq ?_
  have hai : 0 ≤ at1 ∧ at1 < l.length := by rcases hat with h9 | h9 <;> omega
  have hqi := hq _ (getD_in (show at1.toNat < l.length by omega))
  refine r_region ?_
  refine Zo mvM ?_
  refine Zo mvS ?_
  refine Zo mvI ?_
  refine Zo (run_ix (at1.toNat) rfl Tryz.underlying94 ty_96 η η ω ω (hl.addr (i := at1.toNat) ω)) ?_
  have hA90 := fun (w' : World) (h : Evo w0 w' []) => (hl0 w' h).atD (at1.toNat) ω
  have hA9 := hA90 _ hV
  refine Zo (run_fa rfl η fo_96_1) ?_
  refine Zo (run_ld1 rfl ag_9 η (hA9.cell 1 η)) ?_
  refine Zr [S _] rfl η Tryz.func183 (lower_calls (by first | omega | (simp; omega))) ?_
  rintro e w10 ⟨rfl, F10⟩
  refine ⟨_, rfl, ?_⟩
  have Q10 := F10.size
  replace hV := Z0 hV F10
  replace hM7 := hM70 _ hV
  obtain ⟨mS, hMS, hKS⟩ := hM7
  refine Zo (run_lookup2 (a := (lowS (l.getD at1.toNat default).text)) (z := ()) (v := .agg _) (key_str Tryz.underlying9) rfl Tryz.underlying171 ty_172 η η hMS rfl) ?_
  refine Zo mvU ?_
  refine Zo (run_extract (v := .agg _) rfl η η) ?_
  refine Zo (run_extract (v := .bool _) rfl η η) ?_
  refine r_var (zs := []) (vs := []) ty_172 η rfl η (fun _ => rfl) η rfl rfl η ?_
  intro b11 w12 J11 E12 B11 Y11
  have Q12 := E12.size
  replace hV := Z0 hV E12
  replace hl := hl0 _ hV
  replace hs := hs0.now hV
  replace hMS := hMS.evo0 E12
  refine Zn asB ?_
  refine Zs ?_
  refine Zo (run_mvb rfl η) ?_
  refine Zn (run_not rfl η) ?_
  refine r_cond η (fun hc13 => ?_) (fun hc13 => ?_)
  ·skip
   refine Zs ?_
   refine Zn asI ?_
   refine r_ret (res1 (v := .int _ _) rfl η) ?_
   first | exact ⟨ret_int (by rw [← hch, nth_drop (ss := ss) (k := k) ω, chain_neg ω]), hV⟩ | exact ⟨ret_int (by rw [← hch, nth_drop (ss := ss) (k := k) ω, chain_no ω (fun q => by have h9 := (hKS _).2 q; simp_all)]), hV⟩ | exact ⟨ret_int (by rw [← hch, List.drop_of_length_le ω]; rfl), hV⟩
  refine r_skip ?_
  refine Zs ?_
  refine Zo mvI ?_
  refine Zo (run_add rfl η η ω ω) ?_
  refine Zn asI ?_
  refine r_region ?_
  refine Zo mvS ?_
  refine Zo mvI ?_
  refine Zr [.slice _ _ _, .int _ _] rfl η Tryz.func212 (ttnext_calls hl (i := at1) ω ω) ?_
  rintro e w14 ⟨rfl, F14⟩
  refine ⟨_, rfl, ?_⟩
  have Q14 := F14.size
  replace hV := Z0 hV F14
  replace hl := hl0 _ hV
  replace hs := hs0.now hV
  replace hMS := hMS.evo0 F14
  refine Zn asI ?_
  refine r_blk ?_
  refine r_region ?_
  refine Zo (run_add rfl η η ω ω) ?_
  refine Zn mvI ?_
  refine r_again (k + 1) ?_ ?_ ?_
  ·first | omega | (dsimp only; omega)
  ·refine ⟨_, _, σ, rfl, rfl, δ, (atOk_next ω (by rcases hat with h9 | h9 <;> omega)), (by rw [← hch, nth_drop (ss := ss) (k := k) ω, chain_go ω ((hKS _).1 (by first | exact hc13 | exact Classical.not_not.1 hc13 | simpa [Option.isSome_iff_ne_none] using hc13))]), δ, hV⟩
  exact ψ
 refine r_exit rfl ?_
 refine Zs ?_
 refine Zo mvI ?_
 refine Zn asI ?_
 refine r_ret (res1 (v := .int _ _) rfl η) ?_
 first | exact ⟨ret_int (by rw [← hch, nth_drop (ss := ss) (k := k) ω, chain_neg ω]), hV⟩ | exact ⟨ret_int (by rw [← hch, nth_drop (ss := ss) (k := k) ω, chain_no ω (fun q => by have h9 := (hKS _).2 q; simp_all)]), hV⟩ | exact ⟨ret_int (by rw [← hch, List.drop_of_length_le ω]; rfl), hV⟩
def chainG (l : List Vc.Item) : Int → Int → List (List Str) → Int
  | _, e, [] => e
  | i, _, s :: r => if (i < 0 ∨ ¬ isW (l.getD i.toNat default)) ∨ ¬ lowS (l.getD i.toNat default).text ∈ s then -1 else chainG l (nextT l i.toNat) (i + 1) r
theorem chainG_no {l : List Vc.Item} {i e : Int} {s : List Str} {r : List (List Str)} (h : (i < 0 ∨ ¬ isW (l.getD i.toNat default)) ∨ ¬ lowS (l.getD i.toNat default).text ∈ s) : chainG l i e (s :: r) = -1 := if_pos h
theorem chainG_go {l : List Vc.Item} {i e : Int} {s : List Str} {r : List (List Str)} (h : ¬ ((i < 0 ∨ ¬ isW (l.getD i.toNat default)) ∨ ¬ lowS (l.getD i.toNat default).text ∈ s)) : chainG l i e (s :: r) = chainG l (nextT l i.toNat) (i + 1) r := by
  conv => lhs; unfold chainG
  rw [if_neg h]
end Go.Proofs.YtlfjocbnbceceaaGreatDoor
namespace Go.Vc
open Go Go.RowKit Go.IntWalk
theorem ownE_lit {α : Type} [Enc α] {w : World} {b base : Nat} {E : TypeId} {cs : List Value} (L : List α) (h : Blk w b E cs) (hc : cs = (L.map Enc.enc).flatten) (hb : base ≤ b) (hl : L.length ≤ 10000) : OwnE w base E (.slice (some ⟨b, 0, none⟩) L.length L.length) L := by
  subst hc
  have hall : ∀ cs ∈ L.map (Enc.enc : α → List Value), cs.length = Enc.n α := fun cs hcs => by
    obtain ⟨x, _, rfl⟩ := List.mem_map.1 hcs; exact Enc.len x
  have hfl := flatten_length _ _ hall
  refine ⟨⟨hfl, .inr ⟨b, L.length, _, by rw [List.length_map], hb, h, by simp, by unfold maxLen; omega, ?_, ?_⟩⟩, hall, by rw [List.length_map]; omega⟩
  · rw [List.length_map] at hfl; simpa using hfl
  · show List.take _ ((L.map Enc.enc).flatten.toArray).toList = _
    rw [← hfl]; exact List.take_length
end Go.Vc
namespace Go.Proofs.YtlfjocbnbceceaaGreatDoor
open Go.RowKit Go.Vc
theorem oforms_calls {ao : Option Addr} {b off cap : Nat} {c : List Clas} {p q : Str} {w0 : World} (hc : RowR w0 ao b off cap c) (hen : (endsL c q).length ≤ 4398046510976) (hbe : ∀ k, BdE ((endsL c q).getD k default)) (hp : p.length ≤ 140737488355328) (hq : q.length ≤ 140737488355328) :
    Calls Tryz.prog 208 #[.slice ao c.length cap, (.agg #[S p, S q])] w0 fun e w' => ∃ v, e = .returned v ∧ Evo w0 w' [] ∧ OwnE w' w0.heap.size 9 v (formsC c p q) := by
 refine calls_enter (n := 53) Tryz.func208 rfl Tryz.ntmps208 rfl ?_
 have hV : Evo w0 w0 [] := Evo.refl _ _
 have hc0 := hc.keep
 have hbd_hc := hc.bd
 refine Zs ?_
 refine r_box (vs := [_, _]) η η rfl ?_
 intro b1 w2 J1 E2 B1 Y1
 have Q2 := E2.size
 replace hV := Z0 hV E2
 refine Zn asS ?_
 refine Zs ?_
 refine Zo (run_fa rfl η fo_88_0) ?_
 refine Zo (run_ld1 rfl ag_9 η (B1.at.cell 0 η)) ?_
 refine Zr [S _] rfl η Tryz.func183 (lower_calls (by first | omega | (simp; omega))) ?_
 rintro e w3 ⟨rfl, F3⟩
 refine ⟨_, rfl, ?_⟩
 have Q3 := F3.size
 replace hV := Z0 hV F3
 replace B1 := B1.evo0 F3
 refine Zn asT ?_
 refine r_seq ?_
 refine Zs ?_
 refine Zo mvT ?_
 refine Zn (run_seql rfl η η) ?_
 refine r_cond η (fun hc4 => ?_) (fun hc4 => ?_)
 ·skip
  refine Zs ?_
  refine Zn asS ?_
  refine r_ret (res1 (v := .slice _ _ _) rfl η) ?_
  exact ⟨_, rfl, hV, by rw [forms_nil hc4]; exact OwnE.nil _ _ _⟩
 refine r_skip ?_
 refine Zs ?_
 refine r_makeMap (α := Str) (β := Unit) S (fun _ : Unit => Value.agg #[]) rfl ?_
 intro b5 w6 J5 E6 hmb5 Y5
 have Q6 := E6.size
 replace hV := Z0 hV E6
 replace B1 := B1.evo0 E6
 refine Zo mvT ?_
 refine Zo (run_bld (pv := []) (zs := []) (cells := []) rfl ty_172 η pl_172 η η) ?_
 refine r_mapins (a := _) (v := ()) (key_str Tryz.underlying9) Tryz.underlying171 η η η hmb5 ?_
 intro w7 E7 V7 hm_new
 have Q7 := E7.size
 replace hV := Z1 hV E7 ε
 replace B1 := B1.evo E7 θ
 replace hmb5 := hm_new
 clear hm_new
 refine Zo mvM ?_
 refine Zn asM ?_
 refine r_seq ?_
 refine Zs ?_
 refine Zo mvS ?_
 refine Zo (run_fa rfl η fo_88_1) ?_
 refine Zo (run_ld1 rfl ag_9 η (B1.at.cell 1 η)) ?_
 refine Zr [.slice _ _ _, S _] rfl η Tryz.func225 (ends_calls hc0 hV) ?_
 rintro e w8 ⟨ao8, b8, off8, cap8, rfl, F8, hr80⟩
 refine ⟨_, rfl, ?_⟩
 have Q8 := F8.size
 replace hV := Z0 hV F8
 replace hc := hc0.now hV
 replace hmb5 := hmb5.evo0 F8
 have hr8 := hr80 _ hV
 have hbd_hr8 := hr8.bd
 refine Zo (run_lenSl rfl η Tryz.underlying108) ?_
 refine Zn mvI ?_
 refine r_block ?_
 refine r_loop (α := Nat) [8, 9, 10, 25, 26, 27, 28, 29, 30, 31, 32, 33, 34, 35, 36, 37, 38, 39, 40, 41, 42, 43, 44, 45, 46, 47, 48, 49, 50] (fun k g w => ∃ m : List (Str × Unit), g 25 = .int .i64 (k : Nat) ∧ k ≤ (if q = [] then ([] : List Ende) else endsL c q).length ∧ MapIs w b5 S (fun _ : Unit => Value.agg #[]) m ∧ KeyIs m (foldF (fun _ => true) (lowS p) fwd ((if q = [] then ([] : List Ende) else endsL c q).take k)) ∧ w8.heap.size ≤ w.heap.size ∧ Evo w0 w []) (fun k => (if q = [] then ([] : List Ende) else endsL c q).length - k) 0 ?_ ?_
 ·refine ⟨_, σ, δ, hmb5, (KeyIs.one _), δ, hV⟩
 rintro k g w10 ⟨m, hj11, hk_k, hmb5, hks, hzl9, hV⟩
 have hs_w10hV := hV.size
 have hlt12 := hmb5.lt
 replace hr8 := hr80 _ hV
 refine Zk 25 (v := .int .i64 (k : Nat)) (by exact hj11) ?_
 have hbk := ends_ifbd hbe k
 have hb1 := hbk.1
 have hb2 := hbk.2
 refine Zs ?_
 refine Zn (run_lss rfl η η) ?_
 refine r_seq ?_
 refine r_cond η (fun hc13 => ?_) (fun hc13 => ?_)
 ·skip
  refine r_skip ?_
  refine r_seq ?_
  refine r_block ?_
  refine Zs ?_
  refine Zo (run_ix (k) rfl Tryz.underlying108 ty_112 η η (by first | exact rfl | omega) ω (hr8.addr (i := k) ω)) ?_
  have hA140 := fun (w' : World) (h : Evo w0 w' []) => (hr80 w' h).atD (k) ω
  have hA14 := hA140 _ hV
  refine Zo (run_ldN rfl ag_112 ty_112 η rfl hA14) ?_
  refine r_var (zs := [_, _]) (vs := [_, _]) ty_112 η rfl η (fun _ => rfl) η rfl rfl η ?_
  intro b15 w16 J15 E16 B15 Y15
  have Q16 := E16.size
  replace hV := Z0 hV E16
  replace hmb5 := hmb5.evo0 E16
  refine r_nil ?_
  refine Zs ?_
  refine Zo mvT ?_
  refine Zo (run_fa rfl η fo_112_0) ?_
  refine Zo (run_ld1 rfl ag_9 η (B15.at.cell 0 η)) ?_
  refine Zr [S _, S _] rfl η Tryz.func226 (s_cs_calls (by first | omega | (simp; omega)) (by first | omega | (simp; omega))) ?_
  rintro e w17 ⟨rfl, F17⟩
  refine ⟨_, rfl, ?_⟩
  have Q17 := F17.size
  replace hV := Z0 hV F17
  replace hc := hc0.now hV
  replace hmb5 := hmb5.evo0 F17
  replace B15 := B15.evo0 F17
  refine Zo mvU ?_
  refine Zo (run_extract (v := S _) rfl η η) ?_
  refine Zo (run_extract (v := .bool _) rfl η η) ?_
  refine Zo asT ?_
  refine Zn asB ?_
  refine r_seq ?_
  have hcl := cut_len (lowS p) ((if q = [] then ([] : List Ende) else endsL c q).getD k default).strip; have hlw := lowS_len p
  refine r_region ?_
  refine Zo (run_mvb rfl η) ?_
  refine Zo mvB ?_
  refine r_g rfl (wantT η) rfl (fun hg => mvT) ?_
  refine r_g rfl (wantT η) rfl (fun hg => run_fa rfl η fo_112_1) ?_
  refine r_g rfl (wantT η) rfl (fun hg => run_ld1 rfl ag_9 (glv η (fun h => h) hg) (B15.at.cell 1 η)) ?_
  refine r_g rfl (wantT η) rfl (fun hg => run_sadd rfl (glv η (fun h => h) hg) (glv η (fun h => h) hg) (by first | omega | (simp; done) | (simp; omega))) ?_
  refine r_g rfl (wantT η) rfl (fun hg => run_sneq rfl (glv η (fun h => h) hg) η) ?_
  refine Zn (run_pick_and rfl η (fun hq => glv η (fun h => h) hq) rfl) ?_
  refine r_cond η (fun hc18 => ?_) (fun hc18 => ?_)
  ·skip
   refine r_region ?_
   refine Zo mvM ?_
   refine Zo mvT ?_
   refine Zo (run_fa rfl η fo_112_1) ?_
   refine Zo (run_ld1 rfl ag_9 η (B15.at.cell 1 η)) ?_
   refine Zo (run_sadd rfl η η (by first | omega | (simp; done) | (simp; omega))) ?_
   refine Zo (run_bld (pv := []) (zs := []) (cells := []) rfl ty_172 η pl_172 η η) ?_
   refine r_mapset (a := _) (v := ()) (key_str Tryz.underlying9) Tryz.underlying171 η η η hmb5 ?_
   intro w19 E19 V19 hm_new
   have Q19 := E19.size
   replace hV := Z1 hV E19 ε
   replace hc := hc0.now hV
   replace hmb5 := hm_new
   clear hm_new
   refine r_nil ?_
   refine r_blk ?_
   refine r_region ?_
   refine Zo (run_add rfl η η ω ω) ?_
   refine Zn mvI ?_
   refine r_again (k + 1) ?_ ?_ ?_
   ·first | omega | (dsimp only; omega)
   ·refine ⟨_, σ, δ, hmb5, (by first | exact cut_yes hks ω hc18 | exact cut_no hks ω hc18), δ, hV⟩
   exact ψ
  refine r_skip ?_
  refine r_blk ?_
  refine r_region ?_
  refine Zo (run_add rfl η η ω ω) ?_
  refine Zn mvI ?_
  refine r_again (k + 1) ?_ ?_ ?_
  ·first | omega | (dsimp only; omega)
  ·refine ⟨_, σ, δ, hmb5, (by first | exact cut_yes hks ω hc18 | exact cut_no hks ω hc18), δ, hV⟩
  exact ψ
 refine r_exit rfl ?_
 refine Zs ?_
 refine Zo mvM ?_
 refine Zr [.map _] rfl η Tryz.func227 (sorted_calls hmb5 (key_len hks (fun k => ends_ifbd hbe k) (by rw [lowS_len]; omega)) (by have h9 := key_cnt hks (foldF_sorted _ _ _ _); have h8 := foldF_len (fun _ => true) (lowS p) fwd ((if q = [] then ([] : List Ende) else endsL c q).take k); have h7 : ((if q = [] then ([] : List Ende) else endsL c q).take k).length ≤ (if q = [] then ([] : List Ende) else endsL c q).length := List.length_take_le' _ _; have h6 := ends_iflen hen; omega)) ?_
 rintro e w20 ⟨vs20, rfl, F20, hsr20⟩
 refine ⟨_, rfl, ?_⟩
 have Q20 := F20.size
 replace hV := Z0 hV F20
 replace hc := hc0.now hV
 replace hmb5 := hmb5.evo0 F20
 refine Zn (run_asg (v := vs20) rfl η) ?_
 refine r_ret (res1 (v := vs20) rfl η) ?_
 have e9 : sortS (m.map (·.1)) = formsC c p q := by rw [hks.sorted (foldF_sorted _ _ _ _), forms_if (by assumption), List.take_of_length_le ω]
 exact ⟨_, rfl, hV, by have h9 := hsr20; rw [e9] at h9; exact h9.base_le ω⟩
theorem set_step {m : List (Str × Unit)} {l : List Str} {k : Nat} (hk : k < l.length) (h : ∀ s, (getM m s).isSome = true ↔ s ∈ l.take k) (s : Str) : (getM (setM m (l.getD k default) ()) s).isSome = true ↔ s ∈ l.take (k + 1) := by
  rw [take_succD l k hk, List.mem_append, List.mem_singleton, getM_setM]
  by_cases e : s = l.getD k default
  · simp [e]
  · rw [if_neg (by first | exact e | exact fun q => e q.symm), h s]
    exact ⟨.inl, fun q => q.elim id (fun q => absurd q e)⟩
theorem set_calls {ao : Option Addr} {b off cap : Nat} {l : List Str} {w0 : World} (hl : RowE w0 ao b off cap l) :
    Calls Tryz.prog 190 #[.slice ao l.length cap] w0 fun e w' => ∃ bm, e = .returned (.map (some bm)) ∧ Evo w0 w' [] ∧ SetIs w' bm l ∧ w0.heap.size ≤ bm := by
 refine calls_enter (n := 18) Tryz.func190 rfl Tryz.ntmps190 rfl ?_
 have hV : Evo w0 w0 [] := Evo.refl _ _
 have hl0 := keepE hl
 have hbd_hl := hl.bd
 refine Zs ?_
 refine Zn asM ?_
 refine Zs ?_
 refine r_makeMap (α := Str) (β := Unit) S eU rfl ?_
 intro b1 w2 J1 E2 hmb1 Y1
 have Q2 := E2.size
 replace hV := Z0 hV E2
 replace hl := hl0 _ hV
 refine Zn asM ?_
 refine r_seq ?_
 refine Zs ?_
 refine Zo mvS ?_
 refine Zo (run_lenSl rfl η Tryz.underlying77) ?_
 refine Zn mvI ?_
 refine r_block ?_
 refine r_loop (α := Nat) [5, 9, 10, 11, 12, 13, 14, 15, 16] (fun k g w => ∃ m : List (Str × Unit), g 9 = .int .i64 (k : Nat) ∧ k ≤ l.length ∧ MapIs w b1 S eU m ∧ (∀ s, (getM m s).isSome = true ↔ s ∈ l.take k) ∧ w2.heap.size ≤ w.heap.size ∧ Evo w0 w []) (fun k => l.length - k) 0 ?_ ?_
 ·refine ⟨_, σ, δ, hmb1, (fun s => by simp [getM]), δ, hV⟩
 rintro k g w4 ⟨m, hj5, hk_k, hmb1, hms, hzl3, hV⟩
 have hs_w4hV := hV.size
 have hlt6 := hmb1.lt
 replace hl := hl0 _ hV
 refine Zk 9 (v := .int .i64 (k : Nat)) (by exact hj5) ?_
 refine Zs ?_
 refine Zn (run_lss rfl η η) ?_
 refine r_seq ?_
 refine r_cond η (fun hc7 => ?_) (fun hc7 => ?_)
 ·skip
  refine r_skip ?_
  refine r_seq ?_
  refine r_block ?_
  refine Zs ?_
  refine Zo (run_ix (k) rfl Tryz.underlying77 ty_9 η η (by first | exact rfl | omega) ω (hl.addr (i := k) ω)) ?_
  have hA80 := fun (w' : World) (h : Evo w0 w' []) => (hl0 w' h).atD (k) ω
  have hA8 := hA80 _ hV
  refine Zo (run_ld1 rfl ag_9 η (hA8.cell 0 η)) ?_
  refine Zn asT ?_
  refine r_region ?_
  refine Zo mvM ?_
  refine Zo mvT ?_
  refine Zo (run_bld (pv := []) (zs := []) (cells := []) rfl ty_172 η pl_172 η η) ?_
  refine r_mapset (a := _) (v := ()) (key_str Tryz.underlying9) Tryz.underlying171 η η η hmb1 ?_
  intro w9 E9 V9 hm_new
  have Q9 := E9.size
  replace hV := Z1 hV E9 ε
  replace hl := hl0 _ hV
  replace hmb1 := hm_new
  clear hm_new
  refine r_nil ?_
  refine r_blk ?_
  refine r_region ?_
  refine Zo (run_add rfl η η ω ω) ?_
  refine Zn mvI ?_
  refine r_again (k + 1) ?_ ?_ ?_
  ·first | omega | (dsimp only; omega)
  ·refine ⟨_, σ, δ, hmb1, (set_step ω hms), δ, hV⟩
  exact ψ
 refine r_exit rfl ?_
 refine Zs ?_
 refine Zo mvM ?_
 refine Zn asM ?_
 refine r_ret (res1 (v := .map _) rfl η) ?_
 exact ⟨_, rfl, hV, ⟨m, hmb1, fun s => by rw [hms s, List.take_of_length_le ω]⟩, by omega⟩
end Go.Proofs.YtlfjocbnbceceaaGreatDoor
