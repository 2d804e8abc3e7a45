import Derived.Test.YtkdgoghmkmpfnaaW24
namespace Go.Proofs.Ytkdgoghmkmpfnaa
open Go.RowKit Go.Vc

theorem cno {a b : List Vc.Item} (h : ((¬ (shapeL a).isSome = true ∨ ¬ (shapeL b).isSome = true) ∨ ¬ shC a = shC b) ∨ ¬ shO a = shO b) : compatL a b = false := compat_no h
theorem cyes {a b : List Vc.Item} (h : ¬ (((¬ (shapeL a).isSome = true ∨ ¬ (shapeL b).isSome = true) ∨ ¬ shC a = shC b) ∨ ¬ shO a = shO b)) (hp : (tagsL a).Perm (tagsL b)) : compatL a b = decide (sortS (slotsL a) = sortS (slotsL b)) := compat_yes h hp
theorem tags_size (f : List Vc.Item) : sizeL (tagsL f) ≤ sizeL f := by
  induction f with
  | nil => exact Nat.le_refl _
  | cons x f ih =>
    have h1 : sizeL (x :: f) = x.text.length + sizeL f := by simp [sizeL]
    unfold tagsL at *
    rw [List.filter_cons, h1]
    split
    · have h2 : sizeL (x :: f.filter isTag) = x.text.length + sizeL (f.filter isTag) := by simp [sizeL]
      rw [h2]; omega
    · omega
theorem tags_small {f : List Vc.Item} (h : Small f) : Small (tagsL f) := ⟨Nat.le_trans (tagsL_len f) h.1, Nat.le_trans (tags_size f) h.2⟩
theorem getM_zero {m : List (Vc.Item × Int)} (h : ∀ p ∈ m, p.2 = 0) (x : Vc.Item) : (getM m x).getD 0 = 0 := by
  unfold getM
  cases e : m.find? (fun p => decide (p.1 = x)) with
  | none => rfl
  | some p => exact h p (List.mem_of_find?_eq_some e)
theorem getM_of_mem : ∀ {m : List (Vc.Item × Int)} {p : Vc.Item × Int}, (m.map (·.1)).Nodup → p ∈ m → getM m p.1 = some p.2
  | q :: m, p, hn, hp => by
    obtain ⟨h1, h2⟩ := List.nodup_cons.1 hn
    rw [getM_cons]
    rcases List.mem_cons.1 hp with rfl | hp
    · rw [if_pos rfl]
    · rw [if_neg (fun e => h1 (by show q.1 ∈ _; rw [e]; exact List.mem_map_of_mem hp)), getM_of_mem h2 hp]

theorem compatible_calls {aoa aob : Option Addr} {ba offa capa bb offb capb : Nat} {a b : List Vc.Item} {w0 : World} (ha : RowE w0 aoa ba offa capa a) (hb : RowE w0 aob bb offb capb b) (hsa : Small a) (hsb : Small b) :
    Calls Try.prog 45 #[.slice aoa a.length capa, .slice aob b.length capb] w0 fun e w' => e = .returned (.bool (compatL a b)) ∧ Evo w0 w' [] := by
 have hs1 := hsa.1; have hs2 := hsb.1; have ht1 := tagsL_len a; have ht2 := tagsL_len b; have hu1 := slotsL_len a; have hu2 := slotsL_len b
 refine calls_enter (n := 90) (args := [.slice aoa a.length capa, .slice aob b.length capb]) Try.func45 rfl Try.ntmps45 rfl ?_
 have hV : Evo w0 w0 [] := Evo.refl _ _
 have ha0 := keepE ha
 have hbd_ha := ha.bd
 have hb0 := keepE hb
 have hbd_hb := hb.bd
 refine r_seq ?_
 refine r_region ?_
 refine r_op rfl rfl rfl (run_asg (v := .bool _) rfl (by exact rfl)) ?_
 refine r_nil ?_
 refine r_seq ?_
 refine r_region ?_
 refine r_op rfl rfl rfl (run_mv (v := .slice _ _ _) rfl (by exact rfl)) ?_
 refine r_opcall rfl rfl rfl (run_callf (vs := [.slice _ _ _]) rfl (by exact rfl) Try.func26 rfl (by kernel_rfl)) (shape_calls ha (by first | assumption | exact MF.small (by assumption) | exact kf_small | exact small_take (by assumption) _)) ?_
 rintro e w1 ⟨vp1, vq1, rfl, hE1, hop1, hoq1⟩
 refine ⟨_, rfl, ?_⟩
 have hs_w1 := (hE1).size
 replace hV := evo_step0 hV hE1
 replace ha := ha0 _ hV
 replace hb := hb0 _ hV
 refine r_op rfl rfl rfl (run_mv (v := .tuple _) rfl (by exact rfl)) ?_
 refine r_op rfl rfl rfl (run_extract (v := vp1) rfl (by exact rfl) (by exact rfl)) ?_
 refine r_op rfl rfl rfl (run_extract (v := vq1) rfl (by exact rfl) (by exact rfl)) ?_
 refine r_op rfl rfl rfl (run_extract (v := .bool _) rfl (by exact rfl) (by exact rfl)) ?_
 refine r_op rfl rfl rfl (run_asg (v := vp1) rfl (by exact rfl)) ?_
 refine r_op rfl rfl rfl (run_asg (v := vq1) rfl (by exact rfl)) ?_
 refine r_op rfl rfl rfl (run_asg (v := .bool _) rfl (by exact rfl)) ?_
 refine r_nil ?_
 refine r_seq ?_
 refine r_region ?_
 refine r_op rfl rfl rfl (run_mv (v := .slice _ _ _) rfl (by exact rfl)) ?_
 refine r_opcall rfl rfl rfl (run_callf (vs := [.slice _ _ _]) rfl (by exact rfl) Try.func26 rfl (by kernel_rfl)) (shape_calls hb (by first | assumption | exact MF.small (by assumption) | exact kf_small | exact small_take (by assumption) _)) ?_
 rintro e w2 ⟨vp2, vq2, rfl, hE2, hop2, hoq2⟩
 refine ⟨_, rfl, ?_⟩
 have hs_w2 := (hE2).size
 replace hV := evo_step0 hV hE2
 replace ha := ha0 _ hV
 replace hb := hb0 _ hV
 replace hop1 := hop1.evo0 hE2
 replace hoq1 := hoq1.evo0 hE2
 refine r_op rfl rfl rfl (run_mv (v := .tuple _) rfl (by exact rfl)) ?_
 refine r_op rfl rfl rfl (run_extract (v := vp2) rfl (by exact rfl) (by exact rfl)) ?_
 refine r_op rfl rfl rfl (run_extract (v := vq2) rfl (by exact rfl) (by exact rfl)) ?_
 refine r_op rfl rfl rfl (run_extract (v := .bool _) rfl (by exact rfl) (by exact rfl)) ?_
 refine r_op rfl rfl rfl (run_asg (v := vp2) rfl (by exact rfl)) ?_
 refine r_op rfl rfl rfl (run_asg (v := vq2) rfl (by exact rfl)) ?_
 refine r_op rfl rfl rfl (run_asg (v := .bool _) rfl (by exact rfl)) ?_
 refine r_nil ?_
 refine r_seq ?_
 refine r_seq ?_
 refine r_region ?_
 refine r_op rfl rfl rfl (run_mvb rfl (by exact rfl)) ?_
 refine r_op rfl rfl rfl (run_not rfl (by exact rfl)) ?_
 refine r_op rfl rfl rfl (run_mv (v := .bool _) rfl (by exact rfl)) ?_
 refine r_g rfl (wantF (by exact rfl)) rfl (fun hg => run_mvb rfl (by exact rfl)) ?_
 refine r_g rfl (wantF (by exact rfl)) rfl (fun hg => run_not rfl (glv (by exact rfl) (fun h => h) hg)) ?_
 refine r_op rfl rfl rfl (run_pick_or rfl (by exact rfl) rfl (fun hq => glv (by exact rfl) (fun h => h) hq)) ?_
 refine r_op rfl rfl rfl (run_mv (v := .bool _) rfl (by exact rfl)) ?_
 refine r_g rfl (wantF (by exact rfl)) rfl (fun hg => run_mv (v := vp1) rfl (by exact rfl)) ?_
 refine r_g rfl (wantF (by exact rfl)) rfl (fun hg => run_mv (v := vp2) rfl (by exact rfl)) ?_
 obtain ⟨ao3, g3, cp3, hv3, hr3, hg3⟩ := hop1.rowOf
 subst hv3
 obtain ⟨ao4, g4, cp4, hv4, hr4, hg4⟩ := hop2.rowOf
 subst hv4
 refine r_gcall rfl (wantF (by exact rfl)) rfl (fun hg => run_callf rfl (argcons (v := .slice _ _ _) (glv (by exact rfl) (fun h => h) hg) (argcons (v := .slice _ _ _) (glv (by exact rfl) (fun h => h) hg) (rfl))) Try.func80 rfl (by kernel_rfl)) (fun hg => (sleqi_calls hr3 hr4).mono (fun e w' h => ⟨h.1, h.2⟩)) (fun w5 hE6 => ?_)
 have hs_w5 := (hE6).size
 replace hV := evo_step0 hV hE6
 replace ha := ha0 _ hV
 replace hb := hb0 _ hV
 replace hop1 := hop1.evo0 hE6
 replace hoq1 := hoq1.evo0 hE6
 replace hop2 := hop2.evo0 hE6
 replace hoq2 := hoq2.evo0 hE6
 replace hr3 := hr3.evo0 hE6
 replace hr4 := hr4.evo0 hE6
 refine r_g rfl (wantF (by exact rfl)) rfl (fun hg => run_not rfl (glv (by exact rfl) (fun h => h) hg)) ?_
 refine r_op rfl rfl rfl (run_pick_or rfl (by exact rfl) rfl (fun hq => glv (by exact rfl) (fun h => h) hq)) ?_
 refine r_op rfl rfl rfl (run_mv (v := .bool _) rfl (by exact rfl)) ?_
 refine r_g rfl (wantF (by exact rfl)) rfl (fun hg => run_mv (v := vq1) rfl (by exact rfl)) ?_
 refine r_g rfl (wantF (by exact rfl)) rfl (fun hg => run_mv (v := vq2) rfl (by exact rfl)) ?_
 obtain ⟨ao7, g7, cp7, hv7, hr7, hg7⟩ := hoq1.rowOf
 subst hv7
 obtain ⟨ao8, g8, cp8, hv8, hr8, hg8⟩ := hoq2.rowOf
 subst hv8
 refine r_gcall rfl (wantF (by exact rfl)) rfl (fun hg => run_callf rfl (argcons (v := .slice _ _ _) (glv (by exact rfl) (fun h => h) hg) (argcons (v := .slice _ _ _) (glv (by exact rfl) (fun h => h) hg) (rfl))) Try.func80 rfl (by kernel_rfl)) (fun hg => (sleqi_calls hr7 hr8).mono (fun e w' h => ⟨h.1, h.2⟩)) (fun w9 hE10 => ?_)
 have hs_w9 := (hE10).size
 replace hV := evo_step0 hV hE10
 replace ha := ha0 _ hV
 replace hb := hb0 _ hV
 replace hop1 := hop1.evo0 hE10
 replace hoq1 := hoq1.evo0 hE10
 replace hop2 := hop2.evo0 hE10
 replace hoq2 := hoq2.evo0 hE10
 replace hr3 := hr3.evo0 hE10
 replace hr4 := hr4.evo0 hE10
 replace hr7 := hr7.evo0 hE10
 replace hr8 := hr8.evo0 hE10
 refine r_g rfl (wantF (by exact rfl)) rfl (fun hg => run_not rfl (glv (by exact rfl) (fun h => h) hg)) ?_
 refine r_op rfl rfl rfl (run_pick_or rfl (by exact rfl) rfl (fun hq => glv (by exact rfl) (fun h => h) hq)) ?_
 refine r_nil ?_
 refine r_cond (by exact rfl) (fun hc11 => ?_) (fun hc11 => ?_)
 ·skip
  refine r_seq ?_
  refine r_region ?_
  refine r_op rfl rfl rfl (run_asg (v := .bool _) rfl (by exact rfl)) ?_
  refine r_nil ?_
  refine r_ret (res1 (v := .bool _) rfl (by exact rfl)) ?_
  exact ⟨by rw [cno hc11], hV⟩
 ·skip
  refine r_skip ?_
  refine r_seq ?_
  refine r_region ?_
  refine r_makeMap (α := Vc.Item) (β := Int) (fun x : Vc.Item => Value.agg (Enc.enc x).toArray) (Value.int .i64) rfl ?_
  intro b12 w13 heb12 hEw13 hmb12 hzb12
  have hs_w13 := (hEw13).size
  replace hV := evo_step0 hV hEw13
  replace ha := ha0 _ hV
  replace hb := hb0 _ hV
  replace hop1 := hop1.evo0 hEw13
  replace hoq1 := hoq1.evo0 hEw13
  replace hop2 := hop2.evo0 hEw13
  replace hoq2 := hoq2.evo0 hEw13
  replace hr3 := hr3.evo0 hEw13
  replace hr4 := hr4.evo0 hEw13
  replace hr7 := hr7.evo0 hEw13
  replace hr8 := hr8.evo0 hEw13
  refine r_op rfl rfl rfl (run_asg (v := .map _) rfl (by exact rfl)) ?_
  refine r_nil ?_
  refine r_seq ?_
  refine r_seq ?_
  refine r_region ?_
  refine r_op rfl rfl rfl (run_mv (v := .slice _ _ _) rfl (by exact rfl)) ?_
  refine r_opcall rfl rfl rfl (run_callf (vs := [.slice _ _ _]) rfl (by exact rfl) Try.func50 rfl (by kernel_rfl)) (tags_calls ha (by first | assumption | exact MF.small (by assumption) | exact kf_small | exact small_take (by assumption) _)) ?_
  rintro e w14 ⟨vn14, rfl, hE14, hon14⟩
  refine ⟨_, rfl, ?_⟩
  have hs_w14 := (hE14).size
  replace hV := evo_step0 hV hE14
  replace ha := ha0 _ hV
  replace hb := hb0 _ hV
  replace hop1 := hop1.evo0 hE14
  replace hoq1 := hoq1.evo0 hE14
  replace hop2 := hop2.evo0 hE14
  replace hoq2 := hoq2.evo0 hE14
  replace hr3 := hr3.evo0 hE14
  replace hr4 := hr4.evo0 hE14
  replace hr7 := hr7.evo0 hE14
  replace hr8 := hr8.evo0 hE14
  replace hmb12 := hmb12.evo0 hE14
  refine r_op rfl rfl rfl (run_lenOE rfl (by exact rfl) Try.underlying30 hon14) ?_
  refine r_op rfl rfl rfl (run_mv (v := .int _ _) rfl (by exact rfl)) ?_
  refine r_nil ?_
  refine r_block ?_
  have hI15 : Evo w14 w14 [b12] := Evo.refl _ _
  obtain ⟨ao16, g16, cp16, hv16, hr16, hg16⟩ := hon14.rowOf
  subst hv16
  have hr160 := fun w9 (h9 : Evo w14 w9 [b12]) => row_keep hr16 h9 (fun hne hm => by have h2 := (hg16 hne).2; simp at hm; omega)
  refine r_loop (α := Nat) [13, 52, 53, 54, 55, 56, 57, 58, 59, 60, 61, 62] (fun k g w => ∃ m : List (Vc.Item × Int), g 52 = .int .i64 (k : Nat) ∧ k ≤ (tagsL a).length ∧ MapIs w b12 (fun x : Vc.Item => Value.agg (Enc.enc x).toArray) (Value.int .i64) m ∧ (∀ x, (getM m x).getD 0 = ((((tagsL a).take k).count x : Nat) : Int)) ∧ w14.heap.size ≤ w.heap.size ∧ Evo w0 w [] ∧ Evo w14 w [b12]) (fun k => (tagsL a).length - k) 0 ?_ ?_
  ·refine ⟨_, (by first | exact rfl | exact congrArg (Value.int _) (by omega) | exact congrArg (Value.int _) (by dsimp only; omega) | exact congrArg (Value.int _) (by simp) | exact congrArg S (by simp)), (by first | assumption | omega | (dsimp only; omega) | (simp; done)), hmb12, (fun x => by first | rfl | (have h9 := hmm x; rw [List.take_of_length_le (by omega)] at h9; rw [h9]; try simp)), (by first | assumption | omega | (dsimp only; omega) | (simp; done)), hV, hI15⟩
  ·rintro k g w18 ⟨m, hj19, hk_k, hmb12, hmm, hzl17, hV, hI15⟩
   have hs_w18hV := hV.size
   have hs_w18hI15 := hI15.size
   have hlt20 := hmb12.lt
   replace ha := ha0 _ hV
   replace hb := hb0 _ hV
   replace hr16 := hr160 _ hI15
   refine r_know (i := 52) (v := .int .i64 (k : Nat)) (by exact hj19) ?_
   refine r_seq ?_
   refine r_region ?_
   refine r_op rfl rfl rfl (run_lss rfl (by exact rfl) (by exact rfl)) ?_
   refine r_nil ?_
   refine r_seq ?_
   refine r_cond (by exact rfl) (fun hc21 => ?_) (fun hc21 => ?_)
   ·skip
    refine r_skip ?_
    refine r_seq ?_
    refine r_block ?_
    refine r_seq ?_
    refine r_region ?_
    refine r_op rfl rfl rfl (run_ix (k) rfl Try.underlying30 ty_26 (by exact rfl) (by exact rfl) (by first | exact rfl | omega) (by omega) (hr16.addr (i := k) (by omega))) ?_
    have hA220 := fun (w' : World) (h : Evo w14 w' [b12]) => (hr160 w' h).atD (k) (by omega)
    have hA22 := hA220 _ hI15
    refine r_op rfl rfl rfl (run_ldN rfl ag_26 ty_26 (by exact rfl) rfl hA22) ?_
    refine r_var (zs := [_, _, _]) (vs := [_, _, _]) ty_26 (by exact rfl) rfl (by exact rfl) (fun _ => rfl) (by exact rfl) rfl rfl (by exact rfl) ?_
    intro b23 w24 heb23 hEw24 hbb23 hzb23
    have hs_w24 := (hEw24).size
    replace hV := evo_step0 hV hEw24
    replace hI15 := evo_step0 hI15 hEw24
    replace ha := ha0 _ hV
    replace hb := hb0 _ hV
    replace hr16 := hr160 _ hI15
    replace hmb12 := hmb12.evo0 hEw24
    have hAb23 := hbb23.at
    refine r_nil ?_
    have hA9 := hmm ((tagsL a).getD k default); have hB9 : (getM (setM m ((tagsL a).getD k default) ((getM m ((tagsL a).getD k default)).getD 0)) ((tagsL a).getD k default)).getD 0 = (getM m ((tagsL a).getD k default)).getD 0 := by rw [getM_setM, if_pos rfl]; rfl
    have hl9 := List.count_le_length (a := ((tagsL a).getD k default)) (l := (tagsL a).take k); have hm9 : ((tagsL a).take k).length ≤ (tagsL a).length := List.length_take_le' _ _; have hn9 := List.count_le_length (a := ((tagsL a).getD k default)) (l := (tagsL a))
    have hl9 := List.count_le_length (a := ((tagsL a).getD k default)) (l := (tagsL b).take k); have hm9 : ((tagsL b).take k).length ≤ (tagsL b).length := List.length_take_le' _ _; have hn9 := List.count_le_length (a := ((tagsL a).getD k default)) (l := (tagsL b))
    refine r_cut [56, 57, 58, 59, 60, 61] (fun g w => ∃ m2 : List (Vc.Item × Int), MapIs w b12 (fun x : Vc.Item => Value.agg (Enc.enc x).toArray) (Value.int .i64) m2 ∧ (∀ x, (getM m2 x).getD 0 = ((((tagsL a).take k).count x : Nat) : Int) + if ((tagsL a).getD k default) = x then 1 else 0) ∧ w24.heap.size ≤ w.heap.size ∧ Evo w0 w [] ∧ Evo w14 w [b12]) ?_ ?_
    ·skip
     have hmb12_q := hmb12
     have hbb23_q := hbb23
     have hAb23_q := hAb23
     have hV_q := hV
     have hI15_q := hI15
     refine h_region ([b12]) (by kernel_rfl) ?_
     intro w26 hE27 hC28
     have hs_w26 := (hE27).size
     replace hV := evo_step0 hV hE27
     replace hI15 := evo_step0 hI15 hE27
     replace ha := ha0 _ hV
     replace hb := hb0 _ hV
     replace hr16 := hr160 _ hI15
     replace hmb12 := hmb12.evo0 hE27
     replace hbb23 := hbb23.evo0 hE27
     replace hAb23 := hAb23.evo0 hE27
     refine h_take (i := 0) (by exact rfl) rfl rfl rfl (by kernel_rfl) (fun w' hC => run_mv (v := .map _) rfl (by exact rfl)) hC28 ?_
     refine h_take (i := 1) (by exact rfl) rfl rfl rfl (by kernel_rfl) (fun w' hC => run_ldN rfl ag_26 ty_26 (by exact rfl) rfl (hAb23_q.evo hC (by simp; omega))) hC28 ?_
     refine h_two (i := 2) (j := 4) (by kernel_rfl) ?_ ?_
     ·skip
      refine h_do (by exact rfl) ?_
      refine r_op rfl rfl rfl (run_lookup1 (a := ((tagsL a).getD k default)) (z := 0) (v := .int _ _) kitem rfl Try.underlying88 ty_3 (by exact rfl) (by exact rfl) hmb12 rfl) ?_
      refine h_next hC28 ?_
      refine h_take (i := 3) (by exact rfl) rfl rfl rfl (by kernel_rfl) (fun w' hC => run_add rfl (by exact rfl) (by exact rfl) (by omega) (by omega)) hC28 ?_
      refine h_one (i := 4) (by kernel_rfl) ?_
      refine h_do (by exact rfl) ?_
      refine r_mapEntry (a := ((tagsL a).getD k default)) (z := 0) kitem rfl Try.underlying88 ty_3 (by exact rfl) (by exact rfl) hmb12 ?_
      intro s29 w29 hE29 hzw29 hm_new hst29
      have hs_w29 := (hE29).size
      replace hV := evo_step1 hV hE29 (by first | exact .inl (by omega) | exact .inr (by simp))
      replace hI15 := evo_step1 hI15 hE29 (by first | exact .inl (by omega) | exact .inr (by simp))
      replace hC28 := evo_step1 hC28 hE29 (by first | exact .inl (by omega) | exact .inr (by simp))
      replace ha := ha0 _ hV
      replace hb := hb0 _ hV
      replace hr16 := hr160 _ hI15
      replace hmb12 := hm_new
      clear hm_new
      refine h_next hC28 ?_
      refine h_take (i := 5) (by exact rfl) rfl rfl rfl (by kernel_rfl) (fun w' hC => run_extract (v := .int _ _) rfl (by exact rfl) (by exact rfl)) hC28 ?_
      refine h_one (i := 6) (by kernel_rfl) ?_
      refine h_do (by exact rfl) ?_
      refine r_entryStore (a := ((tagsL a).getD k default)) kitem (by exact rfl) (by exact rfl) (by exact rfl) hmb12 hst29 ?_
      intro w30 hE30 hzw30 hm_new
      have hs_w30 := (hE30).size
      replace hV := evo_step1 hV hE30 (by first | exact .inl (by omega) | exact .inr (by simp))
      replace hI15 := evo_step1 hI15 hE30 (by first | exact .inl (by omega) | exact .inr (by simp))
      replace ha := ha0 _ hV
      replace hb := hb0 _ hV
      replace hr16 := hr160 _ hI15
      replace hmb12 := hm_new
      clear hm_new
      refine h_last (by kernel_rfl) ?_
      refine h_done (by kernel_rfl) ?_
      refine r_cut_end ?_ ?_
      ·refine ⟨_, hmb12, (by first | exact bump_first hmm (1) | exact bump_then hmm (1)), (by first | assumption | omega | (dsimp only; omega) | (simp; done)), hV, hI15⟩
      ·repeat (first | (with_reducible exact Agree.merge _ _ _) | (with_reducible exact Agree.refl _ _) | (with_reducible refine Agree.upd ?_ _ _ rfl) | ((with_reducible refine Agree.inner ?_ ?_); (kernel_rfl)))
     ·skip
      refine h_do (by exact rfl) ?_
      refine r_mapEntry (a := ((tagsL a).getD k default)) (z := 0) kitem rfl Try.underlying88 ty_3 (by exact rfl) (by exact rfl) hmb12 ?_
      intro s31 w31 hE31 hzw31 hm_new hst31
      have hs_w31 := (hE31).size
      replace hV := evo_step1 hV hE31 (by first | exact .inl (by omega) | exact .inr (by simp))
      replace hI15 := evo_step1 hI15 hE31 (by first | exact .inl (by omega) | exact .inr (by simp))
      replace hC28 := evo_step1 hC28 hE31 (by first | exact .inl (by omega) | exact .inr (by simp))
      replace ha := ha0 _ hV
      replace hb := hb0 _ hV
      replace hr16 := hr160 _ hI15
      replace hbb23 := hbb23.evo hE31 (by simp; omega)
      replace hAb23 := hAb23.evo hE31 (by simp; omega)
      replace hmb12 := hm_new
      clear hm_new
      refine h_next hC28 ?_
      refine h_take (i := 5) (by exact rfl) rfl rfl rfl (by kernel_rfl) (fun w' hC => run_extract (v := .int _ _) rfl (by exact rfl) (by exact rfl)) hC28 ?_
      refine h_one (i := 2) (by kernel_rfl) ?_
      refine h_do (by exact rfl) ?_
      refine r_op rfl rfl rfl (run_lookup1 (a := ((tagsL a).getD k default)) (z := 0) (v := .int _ _) kitem rfl Try.underlying88 ty_3 (by exact rfl) (by exact rfl) hmb12 rfl) ?_
      refine h_next hC28 ?_
      refine h_take (i := 3) (by exact rfl) rfl rfl rfl (by kernel_rfl) (fun w' hC => run_add rfl (by exact rfl) (by exact rfl) (by omega) (by omega)) hC28 ?_
      refine h_one (i := 6) (by kernel_rfl) ?_
      refine h_do (by exact rfl) ?_
      refine r_entryStore (a := ((tagsL a).getD k default)) kitem (by exact rfl) (by exact rfl) (by exact rfl) hmb12 hst31 ?_
      intro w32 hE32 hzw32 hm_new
      have hs_w32 := (hE32).size
      replace hV := evo_step1 hV hE32 (by first | exact .inl (by omega) | exact .inr (by simp))
      replace hI15 := evo_step1 hI15 hE32 (by first | exact .inl (by omega) | exact .inr (by simp))
      replace ha := ha0 _ hV
      replace hb := hb0 _ hV
      replace hr16 := hr160 _ hI15
      replace hmb12 := hm_new
      clear hm_new
      refine h_last (by kernel_rfl) ?_
      refine h_done (by kernel_rfl) ?_
      refine r_cut_end ?_ ?_
      ·refine ⟨_, hmb12, (by first | exact bump_first hmm (1) | exact bump_then hmm (1)), (by first | assumption | omega | (dsimp only; omega) | (simp; done)), hV, hI15⟩
      ·repeat (first | (with_reducible exact Agree.merge _ _ _) | (with_reducible exact Agree.refl _ _) | (with_reducible refine Agree.upd ?_ _ _ rfl) | ((with_reducible refine Agree.inner ?_ ?_); (kernel_rfl)))
    ·rintro g w33 ⟨m2, hmb12, hm2, hzl25, hV, hI15⟩
     have hs_w33hV := hV.size
     have hs_w33hI15 := hI15.size
     have hlt34 := hmb12.lt
     replace ha := ha0 _ hV
     replace hb := hb0 _ hV
     replace hr16 := hr160 _ hI15
     replace hA22 := hA220 _ hI15
     refine r_blk ?_
     refine r_region ?_
     refine r_op rfl rfl rfl (run_add rfl (by exact rfl) (by exact rfl) (by omega) (by omega)) ?_
     refine r_op rfl rfl rfl (run_mv (v := .int _ _) rfl (by exact rfl)) ?_
     refine r_nil ?_
     refine r_again (k + 1) ?_ ?_ ?_
     ·first | omega | (dsimp only; omega)
     ·refine ⟨_, (by first | exact rfl | exact congrArg (Value.int _) (by omega) | exact congrArg (Value.int _) (by dsimp only; omega) | exact congrArg (Value.int _) (by simp) | exact congrArg S (by simp)), (by first | assumption | omega | (dsimp only; omega) | (simp; done)), hmb12, (fun x => by have h9 := hm2 x; have h8 := cnt_succ (tagsL a) k (by omega) x; rw [h9, h8]; first | done | (split <;> omega)), (by first | assumption | omega | (dsimp only; omega) | (simp; done)), hV, hI15⟩
     ·repeat (first | (with_reducible exact Agree.merge _ _ _) | (with_reducible exact Agree.refl _ _) | (with_reducible refine Agree.upd ?_ _ _ rfl) | ((with_reducible refine Agree.inner ?_ ?_); (kernel_rfl)))
   ·skip
    refine r_exit rfl ?_
    refine r_seq ?_
    refine r_seq ?_
    refine r_region ?_
    refine r_op rfl rfl rfl (run_mv (v := .slice _ _ _) rfl (by exact rfl)) ?_
    refine r_opcall rfl rfl rfl (run_callf (vs := [.slice _ _ _]) rfl (by exact rfl) Try.func50 rfl (by kernel_rfl)) (tags_calls hb (by first | assumption | exact MF.small (by assumption) | exact kf_small | exact small_take (by assumption) _)) ?_
    rintro e w35 ⟨vn35, rfl, hE35, hon35⟩
    refine ⟨_, rfl, ?_⟩
    have hs_w35 := (hE35).size
    replace hV := evo_step0 hV hE35
    replace hI15 := evo_step0 hI15 hE35
    replace ha := ha0 _ hV
    replace hb := hb0 _ hV
    replace hr16 := hr160 _ hI15
    replace hmb12 := hmb12.evo0 hE35
    refine r_op rfl rfl rfl (run_lenOE rfl (by exact rfl) Try.underlying30 hon35) ?_
    refine r_op rfl rfl rfl (run_mv (v := .int _ _) rfl (by exact rfl)) ?_
    refine r_nil ?_
    refine r_block ?_
    have hI36 : Evo w35 w35 [b12] := Evo.refl _ _
    obtain ⟨ao37, g37, cp37, hv37, hr37, hg37⟩ := hon35.rowOf
    subst hv37
    have hr370 := fun w9 (h9 : Evo w35 w9 [b12]) => row_keep hr37 h9 (fun hne hm => by have h2 := (hg37 hne).2; simp at hm; omega)
    refine r_loop (α := Nat) [15, 66, 67, 68, 69, 70, 71, 72, 73, 74, 75, 76] (fun k g w => ∃ m : List (Vc.Item × Int), g 66 = .int .i64 (k : Nat) ∧ k ≤ (tagsL b).length ∧ MapIs w b12 (fun x : Vc.Item => Value.agg (Enc.enc x).toArray) (Value.int .i64) m ∧ (∀ x, (getM m x).getD 0 = (((tagsL a).count x : Nat) : Int) - (((tagsL b).take k).count x : Nat)) ∧ w35.heap.size ≤ w.heap.size ∧ Evo w0 w [] ∧ Evo w14 w [b12] ∧ Evo w35 w [b12]) (fun k => (tagsL b).length - k) 0 ?_ ?_
    ·refine ⟨_, (by first | exact rfl | exact congrArg (Value.int _) (by omega) | exact congrArg (Value.int _) (by dsimp only; omega) | exact congrArg (Value.int _) (by simp) | exact congrArg S (by simp)), (by first | assumption | omega | (dsimp only; omega) | (simp; done)), hmb12, (fun x => by first | rfl | (have h9 := hmm x; rw [List.take_of_length_le (by omega)] at h9; rw [h9]; try simp)), (by first | assumption | omega | (dsimp only; omega) | (simp; done)), hV, hI15, hI36⟩
    ·rintro k g w39 ⟨m, hj40, hk_k, hmb12, hmm, hzl38, hV, hI15, hI36⟩
     have hs_w39hV := hV.size
     have hs_w39hI15 := hI15.size
     have hs_w39hI36 := hI36.size
     have hlt41 := hmb12.lt
     replace ha := ha0 _ hV
     replace hb := hb0 _ hV
     replace hr16 := hr160 _ hI15
     replace hr37 := hr370 _ hI36
     refine r_know (i := 66) (v := .int .i64 (k : Nat)) (by exact hj40) ?_
     refine r_seq ?_
     refine r_region ?_
     refine r_op rfl rfl rfl (run_lss rfl (by exact rfl) (by exact rfl)) ?_
     refine r_nil ?_
     refine r_seq ?_
     refine r_cond (by exact rfl) (fun hc42 => ?_) (fun hc42 => ?_)
     ·skip
      refine r_skip ?_
      refine r_seq ?_
      refine r_block ?_
      refine r_seq ?_
      refine r_region ?_
      refine r_op rfl rfl rfl (run_ix (k) rfl Try.underlying30 ty_26 (by exact rfl) (by exact rfl) (by first | exact rfl | omega) (by omega) (hr37.addr (i := k) (by omega))) ?_
      have hA430 := fun (w' : World) (h : Evo w35 w' [b12]) => (hr370 w' h).atD (k) (by omega)
      have hA43 := hA430 _ hI36
      refine r_op rfl rfl rfl (run_ldN rfl ag_26 ty_26 (by exact rfl) rfl hA43) ?_
      refine r_var (zs := [_, _, _]) (vs := [_, _, _]) ty_26 (by exact rfl) rfl (by exact rfl) (fun _ => rfl) (by exact rfl) rfl rfl (by exact rfl) ?_
      intro b44 w45 heb44 hEw45 hbb44 hzb44
      have hs_w45 := (hEw45).size
      replace hV := evo_step0 hV hEw45
      replace hI15 := evo_step0 hI15 hEw45
      replace hI36 := evo_step0 hI36 hEw45
      replace ha := ha0 _ hV
      replace hb := hb0 _ hV
      replace hr16 := hr160 _ hI15
      replace hr37 := hr370 _ hI36
      replace hmb12 := hmb12.evo0 hEw45
      have hAb44 := hbb44.at
      refine r_nil ?_
      have hA9 := hmm ((tagsL b).getD k default); have hB9 : (getM (setM m ((tagsL b).getD k default) ((getM m ((tagsL b).getD k default)).getD 0)) ((tagsL b).getD k default)).getD 0 = (getM m ((tagsL b).getD k default)).getD 0 := by rw [getM_setM, if_pos rfl]; rfl
      have hl9 := List.count_le_length (a := ((tagsL b).getD k default)) (l := (tagsL a).take k); have hm9 : ((tagsL a).take k).length ≤ (tagsL a).length := List.length_take_le' _ _; have hn9 := List.count_le_length (a := ((tagsL b).getD k default)) (l := (tagsL a))
      have hl9 := List.count_le_length (a := ((tagsL b).getD k default)) (l := (tagsL b).take k); have hm9 : ((tagsL b).take k).length ≤ (tagsL b).length := List.length_take_le' _ _; have hn9 := List.count_le_length (a := ((tagsL b).getD k default)) (l := (tagsL b))
      refine r_cut [70, 71, 72, 73, 74, 75] (fun g w => ∃ m2 : List (Vc.Item × Int), MapIs w b12 (fun x : Vc.Item => Value.agg (Enc.enc x).toArray) (Value.int .i64) m2 ∧ (∀ x, (getM m2 x).getD 0 = (((tagsL a).count x : Nat) : Int) - (((tagsL b).take k).count x : Nat) + if ((tagsL b).getD k default) = x then -1 else 0) ∧ w45.heap.size ≤ w.heap.size ∧ Evo w0 w [] ∧ Evo w14 w [b12] ∧ Evo w35 w [b12]) ?_ ?_
      ·skip
       have hmb12_q := hmb12
       have hbb44_q := hbb44
       have hAb44_q := hAb44
       have hV_q := hV
       have hI15_q := hI15
       have hI36_q := hI36
       refine h_region ([b12]) (by kernel_rfl) ?_
       intro w47 hE48 hC49
       have hs_w47 := (hE48).size
       replace hV := evo_step0 hV hE48
       replace hI15 := evo_step0 hI15 hE48
       replace hI36 := evo_step0 hI36 hE48
       replace ha := ha0 _ hV
       replace hb := hb0 _ hV
       replace hr16 := hr160 _ hI15
       replace hr37 := hr370 _ hI36
       replace hmb12 := hmb12.evo0 hE48
       replace hbb44 := hbb44.evo0 hE48
       replace hAb44 := hAb44.evo0 hE48
       refine h_take (i := 0) (by exact rfl) rfl rfl rfl (by kernel_rfl) (fun w' hC => run_mv (v := .map _) rfl (by exact rfl)) hC49 ?_
       refine h_take (i := 1) (by exact rfl) rfl rfl rfl (by kernel_rfl) (fun w' hC => run_ldN rfl ag_26 ty_26 (by exact rfl) rfl (hAb44_q.evo hC (by simp; omega))) hC49 ?_
       refine h_two (i := 2) (j := 4) (by kernel_rfl) ?_ ?_
       ·skip
        refine h_do (by exact rfl) ?_
        refine r_op rfl rfl rfl (run_lookup1 (a := ((tagsL b).getD k default)) (z := 0) (v := .int _ _) kitem rfl Try.underlying88 ty_3 (by exact rfl) (by exact rfl) hmb12 rfl) ?_
        refine h_next hC49 ?_
        refine h_take (i := 3) (by exact rfl) rfl rfl rfl (by kernel_rfl) (fun w' hC => run_sub rfl (by exact rfl) (by exact rfl) (by omega) (by omega)) hC49 ?_
        refine h_one (i := 4) (by kernel_rfl) ?_
        refine h_do (by exact rfl) ?_
        refine r_mapEntry (a := ((tagsL b).getD k default)) (z := 0) kitem rfl Try.underlying88 ty_3 (by exact rfl) (by exact rfl) hmb12 ?_
        intro s50 w50 hE50 hzw50 hm_new hst50
        have hs_w50 := (hE50).size
        replace hV := evo_step1 hV hE50 (by first | exact .inl (by omega) | exact .inr (by simp))
        replace hI15 := evo_step1 hI15 hE50 (by first | exact .inl (by omega) | exact .inr (by simp))
        replace hI36 := evo_step1 hI36 hE50 (by first | exact .inl (by omega) | exact .inr (by simp))
        replace hC49 := evo_step1 hC49 hE50 (by first | exact .inl (by omega) | exact .inr (by simp))
        replace ha := ha0 _ hV
        replace hb := hb0 _ hV
        replace hr16 := hr160 _ hI15
        replace hr37 := hr370 _ hI36
        replace hmb12 := hm_new
        clear hm_new
        refine h_next hC49 ?_
        refine h_take (i := 5) (by exact rfl) rfl rfl rfl (by kernel_rfl) (fun w' hC => run_extract (v := .int _ _) rfl (by exact rfl) (by exact rfl)) hC49 ?_
        refine h_one (i := 6) (by kernel_rfl) ?_
        refine h_do (by exact rfl) ?_
        refine r_entryStore (a := ((tagsL b).getD k default)) kitem (by exact rfl) (by exact rfl) (by exact rfl) hmb12 hst50 ?_
        intro w51 hE51 hzw51 hm_new
        have hs_w51 := (hE51).size
        replace hV := evo_step1 hV hE51 (by first | exact .inl (by omega) | exact .inr (by simp))
        replace hI15 := evo_step1 hI15 hE51 (by first | exact .inl (by omega) | exact .inr (by simp))
        replace hI36 := evo_step1 hI36 hE51 (by first | exact .inl (by omega) | exact .inr (by simp))
        replace ha := ha0 _ hV
        replace hb := hb0 _ hV
        replace hr16 := hr160 _ hI15
        replace hr37 := hr370 _ hI36
        replace hmb12 := hm_new
        clear hm_new
        refine h_last (by kernel_rfl) ?_
        refine h_done (by kernel_rfl) ?_
        refine r_cut_end ?_ ?_
        ·refine ⟨_, hmb12, (by first | exact bump_first hmm (-1) | exact bump_then hmm (-1)), (by first | assumption | omega | (dsimp only; omega) | (simp; done)), hV, hI15, hI36⟩
        ·repeat (first | (with_reducible exact Agree.merge _ _ _) | (with_reducible exact Agree.refl _ _) | (with_reducible refine Agree.upd ?_ _ _ rfl) | ((with_reducible refine Agree.inner ?_ ?_); (kernel_rfl)))
       ·skip
        refine h_do (by exact rfl) ?_
        refine r_mapEntry (a := ((tagsL b).getD k default)) (z := 0) kitem rfl Try.underlying88 ty_3 (by exact rfl) (by exact rfl) hmb12 ?_
        intro s52 w52 hE52 hzw52 hm_new hst52
        have hs_w52 := (hE52).size
        replace hV := evo_step1 hV hE52 (by first | exact .inl (by omega) | exact .inr (by simp))
        replace hI15 := evo_step1 hI15 hE52 (by first | exact .inl (by omega) | exact .inr (by simp))
        replace hI36 := evo_step1 hI36 hE52 (by first | exact .inl (by omega) | exact .inr (by simp))
        replace hC49 := evo_step1 hC49 hE52 (by first | exact .inl (by omega) | exact .inr (by simp))
        replace ha := ha0 _ hV
        replace hb := hb0 _ hV
        replace hr16 := hr160 _ hI15
        replace hr37 := hr370 _ hI36
        replace hbb44 := hbb44.evo hE52 (by simp; omega)
        replace hAb44 := hAb44.evo hE52 (by simp; omega)
        replace hmb12 := hm_new
        clear hm_new
        refine h_next hC49 ?_
        refine h_take (i := 5) (by exact rfl) rfl rfl rfl (by kernel_rfl) (fun w' hC => run_extract (v := .int _ _) rfl (by exact rfl) (by exact rfl)) hC49 ?_
        refine h_one (i := 2) (by kernel_rfl) ?_
        refine h_do (by exact rfl) ?_
        refine r_op rfl rfl rfl (run_lookup1 (a := ((tagsL b).getD k default)) (z := 0) (v := .int _ _) kitem rfl Try.underlying88 ty_3 (by exact rfl) (by exact rfl) hmb12 rfl) ?_
        refine h_next hC49 ?_
        refine h_take (i := 3) (by exact rfl) rfl rfl rfl (by kernel_rfl) (fun w' hC => run_sub rfl (by exact rfl) (by exact rfl) (by omega) (by omega)) hC49 ?_
        refine h_one (i := 6) (by kernel_rfl) ?_
        refine h_do (by exact rfl) ?_
        refine r_entryStore (a := ((tagsL b).getD k default)) kitem (by exact rfl) (by exact rfl) (by exact rfl) hmb12 hst52 ?_
        intro w53 hE53 hzw53 hm_new
        have hs_w53 := (hE53).size
        replace hV := evo_step1 hV hE53 (by first | exact .inl (by omega) | exact .inr (by simp))
        replace hI15 := evo_step1 hI15 hE53 (by first | exact .inl (by omega) | exact .inr (by simp))
        replace hI36 := evo_step1 hI36 hE53 (by first | exact .inl (by omega) | exact .inr (by simp))
        replace ha := ha0 _ hV
        replace hb := hb0 _ hV
        replace hr16 := hr160 _ hI15
        replace hr37 := hr370 _ hI36
        replace hmb12 := hm_new
        clear hm_new
        refine h_last (by kernel_rfl) ?_
        refine h_done (by kernel_rfl) ?_
        refine r_cut_end ?_ ?_
        ·refine ⟨_, hmb12, (by first | exact bump_first hmm (-1) | exact bump_then hmm (-1)), (by first | assumption | omega | (dsimp only; omega) | (simp; done)), hV, hI15, hI36⟩
        ·repeat (first | (with_reducible exact Agree.merge _ _ _) | (with_reducible exact Agree.refl _ _) | (with_reducible refine Agree.upd ?_ _ _ rfl) | ((with_reducible refine Agree.inner ?_ ?_); (kernel_rfl)))
      ·rintro g w54 ⟨m2, hmb12, hm2, hzl46, hV, hI15, hI36⟩
       have hs_w54hV := hV.size
       have hs_w54hI15 := hI15.size
       have hs_w54hI36 := hI36.size
       have hlt55 := hmb12.lt
       replace ha := ha0 _ hV
       replace hb := hb0 _ hV
       replace hr16 := hr160 _ hI15
       replace hr37 := hr370 _ hI36
       replace hA43 := hA430 _ hI36
       refine r_blk ?_
       refine r_region ?_
       refine r_op rfl rfl rfl (run_add rfl (by exact rfl) (by exact rfl) (by omega) (by omega)) ?_
       refine r_op rfl rfl rfl (run_mv (v := .int _ _) rfl (by exact rfl)) ?_
       refine r_nil ?_
       refine r_again (k + 1) ?_ ?_ ?_
       ·first | omega | (dsimp only; omega)
       ·refine ⟨_, (by first | exact rfl | exact congrArg (Value.int _) (by omega) | exact congrArg (Value.int _) (by dsimp only; omega) | exact congrArg (Value.int _) (by simp) | exact congrArg S (by simp)), (by first | assumption | omega | (dsimp only; omega) | (simp; done)), hmb12, (fun x => by have h9 := hm2 x; have h8 := cnt_succ (tagsL b) k (by omega) x; rw [h9, h8]; first | done | (split <;> omega)), (by first | assumption | omega | (dsimp only; omega) | (simp; done)), hV, hI15, hI36⟩
       ·repeat (first | (with_reducible exact Agree.merge _ _ _) | (with_reducible exact Agree.refl _ _) | (with_reducible refine Agree.upd ?_ _ _ rfl) | ((with_reducible refine Agree.inner ?_ ?_); (kernel_rfl)))
     ·skip
      refine r_exit rfl ?_
      refine r_seq ?_
      refine r_seq ?_
      have hmf : ∀ x, (getM m x).getD 0 = (((tagsL a).count x : Nat) : Int) - ((tagsL b).count x : Nat) := fun x => by have h9 := hmm x; rw [List.take_of_length_le (by omega)] at h9; exact h9
      refine r_region ?_
      refine r_op rfl rfl rfl (run_mv (v := .map _) rfl (by exact rfl)) ?_
      refine r_range rfl Try.underlying88 (by exact rfl) hmb12 ?_
      intro r56 w57 her56 hEw57 hir56 hzr56
      have hs_w57 := (hEw57).size
      replace hV := evo_step0 hV hEw57
      replace hI15 := evo_step0 hI15 hEw57
      replace hI36 := evo_step0 hI36 hEw57
      replace ha := ha0 _ hV
      replace hb := hb0 _ hV
      replace hr16 := hr160 _ hI15
      replace hr37 := hr370 _ hI36
      replace hmb12 := hmb12.evo0 hEw57
      refine r_nil ?_
      refine r_block ?_
      refine r_loop (α := List (Vc.Item × Int)) [4, 17, 79, 80, 81, 82, 83, 84] (fun left g w => ∃ la : Option (Vc.Item × Int), IterIs w r56 b12 (fun x : Vc.Item => Value.agg (Enc.enc x).toArray) (Value.int .i64) m left la ∧ (∀ p ∈ left, p ∈ m) ∧ (∀ p ∈ m, p.2 = 0 ∨ p ∈ left) ∧ w0.heap.size ≤ r56 ∧ w57.heap.size ≤ w.heap.size ∧ Evo w0 w [] ∧ Evo w14 w [b12] ∧ Evo w35 w [b12]) (fun left => left.length) m ?_ ?_
      ·refine ⟨_, hir56, (fun p h => h), (fun p h => .inr h), (by first | assumption | omega | (dsimp only; omega) | (simp; done)), (by first | assumption | omega | (dsimp only; omega) | (simp; done)), hV, hI15, hI36⟩
      ·rintro left g w59 ⟨la, hir56, hin, hzz, hrl, hzl58, hV, hI15, hI36⟩
       have hs_w59hV := hV.size
       have hs_w59hI15 := hI15.size
       have hs_w59hI36 := hI36.size
       replace ha := ha0 _ hV
       replace hb := hb0 _ hV
       replace hr16 := hr160 _ hI15
       replace hr37 := hr370 _ hI36
       refine r_seq ?_
       refine r_region ?_
       refine r_next rfl (by exact rfl) hir56 (fun hn60 => ?_) (fun l1_60 p60 l2_60 w60 hl60 hE60 hz60 hi_new => ?_)
       ·skip
        subst hn60
        refine r_op rfl rfl rfl (run_extract (v := .bool _) rfl (by exact rfl) (by exact rfl)) ?_
        refine r_nil ?_
        refine r_seq ?_
        refine r_cond_no (by exact rfl) ?_
        refine r_exit rfl ?_
        refine r_seq ?_
        refine r_region ?_
        refine r_op rfl rfl rfl (run_mv (v := .slice _ _ _) rfl (by exact rfl)) ?_
        refine r_opcall rfl rfl rfl (run_callf (vs := [.slice _ _ _]) rfl (by exact rfl) Try.func53 rfl (by kernel_rfl)) (slots_calls ha (by first | assumption | exact MF.small (by assumption) | exact kf_small | exact small_take (by assumption) _)) ?_
        rintro e w61 ⟨vn61, rfl, hE61, hon61⟩
        refine ⟨_, rfl, ?_⟩
        have hs_w61 := (hE61).size
        replace hV := evo_step0 hV hE61
        replace hI15 := evo_step0 hI15 hE61
        replace hI36 := evo_step0 hI36 hE61
        replace ha := ha0 _ hV
        replace hb := hb0 _ hV
        replace hr16 := hr160 _ hI15
        replace hr37 := hr370 _ hI36
        replace hir56 := hir56.evo0 hE61
        refine r_op rfl rfl rfl (run_mv (v := .slice _ _ _) rfl (by exact rfl)) ?_
        refine r_opcall rfl rfl rfl (run_callf (vs := [.slice _ _ _]) rfl (by exact rfl) Try.func53 rfl (by kernel_rfl)) (slots_calls hb (by first | assumption | exact MF.small (by assumption) | exact kf_small | exact small_take (by assumption) _)) ?_
        rintro e w62 ⟨vn62, rfl, hE62, hon62⟩
        refine ⟨_, rfl, ?_⟩
        have hs_w62 := (hE62).size
        replace hV := evo_step0 hV hE62
        replace hI15 := evo_step0 hI15 hE62
        replace hI36 := evo_step0 hI36 hE62
        replace ha := ha0 _ hV
        replace hb := hb0 _ hV
        replace hr16 := hr160 _ hI15
        replace hr37 := hr370 _ hI36
        replace hir56 := hir56.evo0 hE62
        replace hon61 := hon61.evo0 hE62
        obtain ⟨ao63, g63, cp63, hv63, hr63, hg63⟩ := hon61.rowOf
        subst hv63
        obtain ⟨ao64, g64, cp64, hv64, hr64, hg64⟩ := hon62.rowOf
        subst hv64
        refine r_opcall rfl rfl rfl (run_callf (vs := [.slice _ _ _, .slice _ _ _]) rfl (by exact rfl) Try.func81 rfl (by kernel_rfl)) (sleqs_calls hr63 hr64) ?_
        rintro e w65 ⟨rfl, hE65⟩
        refine ⟨_, rfl, ?_⟩
        have hs_w65 := (hE65).size
        replace hV := evo_step0 hV hE65
        replace hI15 := evo_step0 hI15 hE65
        replace hI36 := evo_step0 hI36 hE65
        replace ha := ha0 _ hV
        replace hb := hb0 _ hV
        replace hr16 := hr160 _ hI15
        replace hr37 := hr370 _ hI36
        replace hir56 := hir56.evo0 hE65
        replace hon61 := hon61.evo0 hE65
        replace hon62 := hon62.evo0 hE65
        replace hr63 := hr63.evo0 hE65
        replace hr64 := hr64.evo0 hE65
        refine r_op rfl rfl rfl (run_asg (v := .bool _) rfl (by exact rfl)) ?_
        refine r_nil ?_
        refine r_ret (res1 (v := .bool _) rfl (by exact rfl)) ?_
        exact ⟨ret_bool (cyes (by assumption) (perm_counts (fun x => by rw [← hmf x]; exact getM_zero (fun p hp => (hzz p hp).elim id (fun h9 => by cases h9)) x))).symm, hV⟩
       ·skip
        have hs_w60 := (hE60).size
        replace hV := evo_step1 hV hE60 (by first | exact .inl (by omega) | exact .inr (by simp))
        replace hI15 := evo_step1 hI15 hE60 (by first | exact .inl (by omega) | exact .inr (by simp))
        replace hI36 := evo_step1 hI36 hE60 (by first | exact .inl (by omega) | exact .inr (by simp))
        replace ha := ha0 _ hV
        replace hb := hb0 _ hV
        replace hr16 := hr160 _ hI15
        replace hr37 := hr370 _ hI36
        replace hir56 := hi_new
        clear hi_new
        refine r_op rfl rfl rfl (run_extract (v := .bool _) rfl (by exact rfl) (by exact rfl)) ?_
        refine r_nil ?_
        refine r_seq ?_
        refine r_cond_yes (by exact rfl) ?_
        refine r_skip ?_
        refine r_block ?_
        refine r_seq ?_
        refine r_region ?_
        refine r_op rfl rfl rfl (run_entryI rfl (by exact rfl) hir56) ?_
        refine r_op rfl rfl rfl (run_extract (v := .int _ _) rfl (by exact rfl) (by exact rfl)) ?_
        refine r_op rfl rfl rfl (run_asg (v := .int _ _) rfl (by exact rfl)) ?_
        refine r_nil ?_
        refine r_seq ?_
        refine r_region ?_
        refine r_op rfl rfl rfl (run_mv (v := .int _ _) rfl (by exact rfl)) ?_
        refine r_op rfl rfl rfl (run_neq rfl (by exact rfl) (by exact rfl)) ?_
        refine r_nil ?_
        refine r_cond (by exact rfl) (fun hc66 => ?_) (fun hc66 => ?_)
        ·skip
         refine r_seq ?_
         refine r_region ?_
         refine r_op rfl rfl rfl (run_asg (v := .bool _) rfl (by exact rfl)) ?_
         refine r_nil ?_
         refine r_ret (res1 (v := .bool _) rfl (by exact rfl)) ?_
         exact ⟨by rw [compat_noC (x := p60.1) (by have h9 := hmf p60.1; rw [getM_of_mem hir56.map.nodup (hin p60 (by rw [hl60]; simp))] at h9; intro h8; exact hc66 (by simp at h9; omega))], hV⟩
        ·skip
         refine r_skip ?_
         refine r_blk ?_
         refine r_again (l1_60 ++ l2_60) ?_ ?_ ?_
         ·rw [hl60]; simp
         ·refine ⟨_, hir56, (fun q hq => hin q (by rw [hl60]; exact (List.mem_append.1 hq).elim (fun h9 => List.mem_append_left _ h9) (fun h9 => List.mem_append_right _ (List.mem_cons_of_mem _ h9)))), (fun q hq => (hzz q hq).elim .inl (fun h9 => by rw [hl60] at h9; exact (List.mem_append.1 h9).elim (fun h8 => .inr (List.mem_append_left _ h8)) (fun h8 => (List.mem_cons.1 h8).elim (fun h7 => .inl (by rw [h7]; exact Classical.not_not.1 hc66)) (fun h7 => .inr (List.mem_append_right _ h7))))), (by first | assumption | omega | (dsimp only; omega) | (simp; done)), (by first | assumption | omega | (dsimp only; omega) | (simp; done)), hV, hI15, hI36⟩
         ·repeat (first | (with_reducible exact Agree.merge _ _ _) | (with_reducible exact Agree.refl _ _) | (with_reducible refine Agree.upd ?_ _ _ rfl) | ((with_reducible refine Agree.inner ?_ ?_); (kernel_rfl)))

theorem rcompatible_calls {aoa aob : Option Addr} {ba offa capa bb offb capb : Nat} {a b : List Vc.Item} {w0 : World} (ha : RowE w0 aoa ba offa capa a) (hb : RowE w0 aob bb offb capb b) (hsa : Small a) (hsb : Small b) :
    Calls Try.prog 46 #[.slice aoa a.length capa, .slice aob b.length capb] w0 fun e w' => e = .returned (.bool (compatL a b)) ∧ Evo w0 w' [] := by
 have hs1 := hsa.1; have hs2 := hsb.1; have ht1 := tagsL_len a; have ht2 := tagsL_len b; have hu1 := slotsL_len a; have hu2 := slotsL_len b; have hta := tags_small hsa; have htb := tags_small hsb
 refine calls_enter (n := 80) (args := [.slice aoa a.length capa, .slice aob b.length capb]) Try.func46 rfl Try.ntmps46 rfl ?_
 have hV : Evo w0 w0 [] := Evo.refl _ _
 have ha0 := keepE ha
 have hbd_ha := ha.bd
 have hb0 := keepE hb
 have hbd_hb := hb.bd
 refine r_seq ?_
 refine r_region ?_
 refine r_op rfl rfl rfl (run_asg (v := .bool _) rfl (by exact rfl)) ?_
 refine r_nil ?_
 refine r_seq ?_
 refine r_region ?_
 refine r_op rfl rfl rfl (run_mv (v := .slice _ _ _) rfl (by exact rfl)) ?_
 refine r_opcall rfl rfl rfl (run_callf (vs := [.slice _ _ _]) rfl (by exact rfl) Try.func27 rfl (by kernel_rfl)) (rshape_calls ha (by first | assumption | exact MF.small (by assumption) | exact kf_small | exact small_take (by assumption) _)) ?_
 rintro e w1 ⟨vp1, vq1, rfl, hE1, hop1, hoq1⟩
 refine ⟨_, rfl, ?_⟩
 have hs_w1 := (hE1).size
 replace hV := evo_step0 hV hE1
 replace ha := ha0 _ hV
 replace hb := hb0 _ hV
 refine r_op rfl rfl rfl (run_mv (v := .tuple _) rfl (by exact rfl)) ?_
 refine r_op rfl rfl rfl (run_extract (v := vp1) rfl (by exact rfl) (by exact rfl)) ?_
 refine r_op rfl rfl rfl (run_extract (v := vq1) rfl (by exact rfl) (by exact rfl)) ?_
 refine r_op rfl rfl rfl (run_extract (v := .bool _) rfl (by exact rfl) (by exact rfl)) ?_
 refine r_op rfl rfl rfl (run_asg (v := vp1) rfl (by exact rfl)) ?_
 refine r_op rfl rfl rfl (run_asg (v := vq1) rfl (by exact rfl)) ?_
 refine r_op rfl rfl rfl (run_asg (v := .bool _) rfl (by exact rfl)) ?_
 refine r_nil ?_
 refine r_seq ?_
 refine r_region ?_
 refine r_op rfl rfl rfl (run_mv (v := .slice _ _ _) rfl (by exact rfl)) ?_
 refine r_opcall rfl rfl rfl (run_callf (vs := [.slice _ _ _]) rfl (by exact rfl) Try.func27 rfl (by kernel_rfl)) (rshape_calls hb (by first | assumption | exact MF.small (by assumption) | exact kf_small | exact small_take (by assumption) _)) ?_
 rintro e w2 ⟨vp2, vq2, rfl, hE2, hop2, hoq2⟩
 refine ⟨_, rfl, ?_⟩
 have hs_w2 := (hE2).size
 replace hV := evo_step0 hV hE2
 replace ha := ha0 _ hV
 replace hb := hb0 _ hV
 replace hop1 := hop1.evo0 hE2
 replace hoq1 := hoq1.evo0 hE2
 refine r_op rfl rfl rfl (run_mv (v := .tuple _) rfl (by exact rfl)) ?_
 refine r_op rfl rfl rfl (run_extract (v := vp2) rfl (by exact rfl) (by exact rfl)) ?_
 refine r_op rfl rfl rfl (run_extract (v := vq2) rfl (by exact rfl) (by exact rfl)) ?_
 refine r_op rfl rfl rfl (run_extract (v := .bool _) rfl (by exact rfl) (by exact rfl)) ?_
 refine r_op rfl rfl rfl (run_asg (v := vp2) rfl (by exact rfl)) ?_
 refine r_op rfl rfl rfl (run_asg (v := vq2) rfl (by exact rfl)) ?_
 refine r_op rfl rfl rfl (run_asg (v := .bool _) rfl (by exact rfl)) ?_
 refine r_nil ?_
 refine r_seq ?_
 refine r_seq ?_
 refine r_region ?_
 refine r_op rfl rfl rfl (run_mvb rfl (by exact rfl)) ?_
 refine r_op rfl rfl rfl (run_not rfl (by exact rfl)) ?_
 refine r_op rfl rfl rfl (run_mv (v := .bool _) rfl (by exact rfl)) ?_
 refine r_g rfl (wantF (by exact rfl)) rfl (fun hg => run_mvb rfl (by exact rfl)) ?_
 refine r_g rfl (wantF (by exact rfl)) rfl (fun hg => run_not rfl (glv (by exact rfl) (fun h => h) hg)) ?_
 refine r_op rfl rfl rfl (run_pick_or rfl (by exact rfl) rfl (fun hq => glv (by exact rfl) (fun h => h) hq)) ?_
 refine r_op rfl rfl rfl (run_mv (v := .bool _) rfl (by exact rfl)) ?_
 refine r_g rfl (wantF (by exact rfl)) rfl (fun hg => run_mv (v := vp1) rfl (by exact rfl)) ?_
 refine r_g rfl (wantF (by exact rfl)) rfl (fun hg => run_mv (v := vp2) rfl (by exact rfl)) ?_
 obtain ⟨ao3, g3, cp3, hv3, hr3, hg3⟩ := hop1.rowOf
 subst hv3
 obtain ⟨ao4, g4, cp4, hv4, hr4, hg4⟩ := hop2.rowOf
 subst hv4
 refine r_gcall rfl (wantF (by exact rfl)) rfl (fun hg => run_callf rfl (argcons (v := .slice _ _ _) (glv (by exact rfl) (fun h => h) hg) (argcons (v := .slice _ _ _) (glv (by exact rfl) (fun h => h) hg) (rfl))) Try.func28 rfl (by kernel_rfl)) (fun hg => (sameints_calls hr3 hr4).mono (fun e w' h => ⟨h.1, h.2⟩)) (fun w5 hE6 => ?_)
 have hs_w5 := (hE6).size
 replace hV := evo_step0 hV hE6
 replace ha := ha0 _ hV
 replace hb := hb0 _ hV
 replace hop1 := hop1.evo0 hE6
 replace hoq1 := hoq1.evo0 hE6
 replace hop2 := hop2.evo0 hE6
 replace hoq2 := hoq2.evo0 hE6
 replace hr3 := hr3.evo0 hE6
 replace hr4 := hr4.evo0 hE6
 refine r_g rfl (wantF (by exact rfl)) rfl (fun hg => run_not rfl (glv (by exact rfl) (fun h => h) hg)) ?_
 refine r_op rfl rfl rfl (run_pick_or rfl (by exact rfl) rfl (fun hq => glv (by exact rfl) (fun h => h) hq)) ?_
 refine r_op rfl rfl rfl (run_mv (v := .bool _) rfl (by exact rfl)) ?_
 refine r_g rfl (wantF (by exact rfl)) rfl (fun hg => run_mv (v := vq1) rfl (by exact rfl)) ?_
 refine r_g rfl (wantF (by exact rfl)) rfl (fun hg => run_mv (v := vq2) rfl (by exact rfl)) ?_
 obtain ⟨ao7, g7, cp7, hv7, hr7, hg7⟩ := hoq1.rowOf
 subst hv7
 obtain ⟨ao8, g8, cp8, hv8, hr8, hg8⟩ := hoq2.rowOf
 subst hv8
 refine r_gcall rfl (wantF (by exact rfl)) rfl (fun hg => run_callf rfl (argcons (v := .slice _ _ _) (glv (by exact rfl) (fun h => h) hg) (argcons (v := .slice _ _ _) (glv (by exact rfl) (fun h => h) hg) (rfl))) Try.func28 rfl (by kernel_rfl)) (fun hg => (sameints_calls hr7 hr8).mono (fun e w' h => ⟨h.1, h.2⟩)) (fun w9 hE10 => ?_)
 have hs_w9 := (hE10).size
 replace hV := evo_step0 hV hE10
 replace ha := ha0 _ hV
 replace hb := hb0 _ hV
 replace hop1 := hop1.evo0 hE10
 replace hoq1 := hoq1.evo0 hE10
 replace hop2 := hop2.evo0 hE10
 replace hoq2 := hoq2.evo0 hE10
 replace hr3 := hr3.evo0 hE10
 replace hr4 := hr4.evo0 hE10
 replace hr7 := hr7.evo0 hE10
 replace hr8 := hr8.evo0 hE10
 refine r_g rfl (wantF (by exact rfl)) rfl (fun hg => run_not rfl (glv (by exact rfl) (fun h => h) hg)) ?_
 refine r_op rfl rfl rfl (run_pick_or rfl (by exact rfl) rfl (fun hq => glv (by exact rfl) (fun h => h) hq)) ?_
 refine r_op rfl rfl rfl (run_mv (v := .bool _) rfl (by exact rfl)) ?_
 refine r_splitL (i := 44) (by exact rfl) (fun hs11 => ?_) (fun hs11 => ?_)
 ·skip
  refine r_guard_no (by exact rfl) (by exact rfl) rfl rfl ?_
  refine r_guard_no (by exact rfl) (by exact rfl) rfl rfl ?_
  refine r_guard_no (by exact rfl) (by exact rfl) rfl rfl ?_
  refine r_guard_no (by exact rfl) (by exact rfl) rfl rfl ?_
  refine r_guard_no (by exact rfl) (by exact rfl) rfl rfl ?_
  refine r_guard_no (by exact rfl) (by exact rfl) rfl rfl ?_
  refine r_op rfl rfl rfl (run_pick_yes (v := .bool true) rfl (by exact rfl) (by exact rfl)) ?_
  refine r_nil ?_
  refine r_cond_yes (by exact rfl) ?_
  refine r_seq ?_
  refine r_region ?_
  refine r_op rfl rfl rfl (run_asg (v := .bool _) rfl (by exact rfl)) ?_
  refine r_nil ?_
  refine r_ret (res1 (v := .bool _) rfl (by exact rfl)) ?_
  exact ⟨by rw [cno hs11], hV⟩
 ·skip
  refine r_guard_yes (by exact rfl) (by exact rfl) ?_
  refine r_op rfl rfl rfl (run_mv (v := .slice _ _ _) rfl (by exact rfl)) ?_
  refine r_guard_yes (by exact rfl) (by exact rfl) ?_
  refine r_opcall rfl rfl rfl (run_callf (vs := [.slice _ _ _]) rfl (by exact rfl) Try.func54 rfl (by kernel_rfl)) (rslots_calls ha (by first | assumption | exact MF.small (by assumption) | exact kf_small | exact small_take (by assumption) _)) ?_
  rintro e w12 ⟨vn12, rfl, hE12, hon12⟩
  refine ⟨_, rfl, ?_⟩
  have hs_w12 := (hE12).size
  replace hV := evo_step0 hV hE12
  replace ha := ha0 _ hV
  replace hb := hb0 _ hV
  replace hop1 := hop1.evo0 hE12
  replace hoq1 := hoq1.evo0 hE12
  replace hop2 := hop2.evo0 hE12
  replace hoq2 := hoq2.evo0 hE12
  replace hr3 := hr3.evo0 hE12
  replace hr4 := hr4.evo0 hE12
  replace hr7 := hr7.evo0 hE12
  replace hr8 := hr8.evo0 hE12
  refine r_guard_yes (by exact rfl) (by exact rfl) ?_
  refine r_op rfl rfl rfl (run_mv (v := .slice _ _ _) rfl (by exact rfl)) ?_
  refine r_guard_yes (by exact rfl) (by exact rfl) ?_
  refine r_opcall rfl rfl rfl (run_callf (vs := [.slice _ _ _]) rfl (by exact rfl) Try.func54 rfl (by kernel_rfl)) (rslots_calls hb (by first | assumption | exact MF.small (by assumption) | exact kf_small | exact small_take (by assumption) _)) ?_
  rintro e w13 ⟨vn13, rfl, hE13, hon13⟩
  refine ⟨_, rfl, ?_⟩
  have hs_w13 := (hE13).size
  replace hV := evo_step0 hV hE13
  replace ha := ha0 _ hV
  replace hb := hb0 _ hV
  replace hop1 := hop1.evo0 hE13
  replace hoq1 := hoq1.evo0 hE13
  replace hop2 := hop2.evo0 hE13
  replace hoq2 := hoq2.evo0 hE13
  replace hr3 := hr3.evo0 hE13
  replace hr4 := hr4.evo0 hE13
  replace hr7 := hr7.evo0 hE13
  replace hr8 := hr8.evo0 hE13
  replace hon12 := hon12.evo0 hE13
  refine r_guard_yes (by exact rfl) (by exact rfl) ?_
  obtain ⟨ao14, g14, cp14, hv14, hr14, hg14⟩ := hon12.rowOf
  subst hv14
  obtain ⟨ao15, g15, cp15, hv15, hr15, hg15⟩ := hon13.rowOf
  subst hv15
  refine r_opcall rfl rfl rfl (run_callf (vs := [.slice _ _ _, .slice _ _ _]) rfl (by exact rfl) Try.func52 rfl (by kernel_rfl)) (sametexts_calls hr14 hr15) ?_
  rintro e w16 ⟨rfl, hE16⟩
  refine ⟨_, rfl, ?_⟩
  have hs_w16 := (hE16).size
  replace hV := evo_step0 hV hE16
  replace ha := ha0 _ hV
  replace hb := hb0 _ hV
  replace hop1 := hop1.evo0 hE16
  replace hoq1 := hoq1.evo0 hE16
  replace hop2 := hop2.evo0 hE16
  replace hoq2 := hoq2.evo0 hE16
  replace hr3 := hr3.evo0 hE16
  replace hr4 := hr4.evo0 hE16
  replace hr7 := hr7.evo0 hE16
  replace hr8 := hr8.evo0 hE16
  replace hon12 := hon12.evo0 hE16
  replace hon13 := hon13.evo0 hE16
  replace hr14 := hr14.evo0 hE16
  replace hr15 := hr15.evo0 hE16
  refine r_guard_yes (by exact rfl) (by exact rfl) ?_
  refine r_op rfl rfl rfl (run_not rfl (by exact rfl)) ?_
  refine r_op rfl rfl rfl (run_pick_no (v := .bool _) rfl (by exact rfl) (by exact rfl)) ?_
  refine r_nil ?_
  refine r_cond (by exact rfl) (fun hc17 => ?_) (fun hc17 => ?_)
  ·skip
   refine r_seq ?_
   refine r_region ?_
   refine r_op rfl rfl rfl (run_asg (v := .bool _) rfl (by exact rfl)) ?_
   refine r_nil ?_
   refine r_ret (res1 (v := .bool _) rfl (by exact rfl)) ?_
   exact ⟨by rw [compat_noS hc17], hV⟩
  ·skip
   refine r_skip ?_
   refine r_seq ?_
   refine r_region ?_
   refine r_op rfl rfl rfl (run_mv (v := .slice _ _ _) rfl (by exact rfl)) ?_
   refine r_opcall rfl rfl rfl (run_callf (vs := [.slice _ _ _]) rfl (by exact rfl) Try.func51 rfl (by kernel_rfl)) (rtags_calls ha (by first | assumption | exact MF.small (by assumption) | exact kf_small | exact small_take (by assumption) _)) ?_
   rintro e w18 ⟨vn18, rfl, hE18, hon18⟩
   refine ⟨_, rfl, ?_⟩
   have hs_w18 := (hE18).size
   replace hV := evo_step0 hV hE18
   replace ha := ha0 _ hV
   replace hb := hb0 _ hV
   replace hop1 := hop1.evo0 hE18
   replace hoq1 := hoq1.evo0 hE18
   replace hop2 := hop2.evo0 hE18
   replace hoq2 := hoq2.evo0 hE18
   replace hr3 := hr3.evo0 hE18
   replace hr4 := hr4.evo0 hE18
   replace hr7 := hr7.evo0 hE18
   replace hr8 := hr8.evo0 hE18
   replace hon12 := hon12.evo0 hE18
   replace hon13 := hon13.evo0 hE18
   replace hr14 := hr14.evo0 hE18
   replace hr15 := hr15.evo0 hE18
   refine r_op rfl rfl rfl (run_mv (v := .slice _ _ _) rfl (by exact rfl)) ?_
   refine r_opcall rfl rfl rfl (run_callf (vs := [.slice _ _ _]) rfl (by exact rfl) Try.func51 rfl (by kernel_rfl)) (rtags_calls hb (by first | assumption | exact MF.small (by assumption) | exact kf_small | exact small_take (by assumption) _)) ?_
   rintro e w19 ⟨vn19, rfl, hE19, hon19⟩
   refine ⟨_, rfl, ?_⟩
   have hs_w19 := (hE19).size
   replace hV := evo_step0 hV hE19
   replace ha := ha0 _ hV
   replace hb := hb0 _ hV
   replace hop1 := hop1.evo0 hE19
   replace hoq1 := hoq1.evo0 hE19
   replace hop2 := hop2.evo0 hE19
   replace hoq2 := hoq2.evo0 hE19
   replace hr3 := hr3.evo0 hE19
   replace hr4 := hr4.evo0 hE19
   replace hr7 := hr7.evo0 hE19
   replace hr8 := hr8.evo0 hE19
   replace hon12 := hon12.evo0 hE19
   replace hon13 := hon13.evo0 hE19
   replace hr14 := hr14.evo0 hE19
   replace hr15 := hr15.evo0 hE19
   replace hon18 := hon18.evo0 hE19
   refine r_op rfl rfl rfl (run_asg (v := vn18) rfl (by exact rfl)) ?_
   refine r_op rfl rfl rfl (run_asg (v := vn19) rfl (by exact rfl)) ?_
   refine r_nil ?_
   refine r_seq ?_
   refine r_seq ?_
   refine r_region ?_
   refine r_op rfl rfl rfl (run_mv (v := vn18) rfl (by exact rfl)) ?_
   refine r_op rfl rfl rfl (run_lenOE rfl (by exact rfl) Try.underlying30 hon18) ?_
   refine r_op rfl rfl rfl (run_mv (v := vn19) rfl (by exact rfl)) ?_
   refine r_op rfl rfl rfl (run_lenOE rfl (by exact rfl) Try.underlying30 hon19) ?_
   refine r_op rfl rfl rfl (run_neq rfl (by exact rfl) (by exact rfl)) ?_
   refine r_nil ?_
   refine r_cond (by exact rfl) (fun hc20 => ?_) (fun hc20 => ?_)
   ·skip
    refine r_seq ?_
    refine r_region ?_
    refine r_op rfl rfl rfl (run_asg (v := .bool _) rfl (by exact rfl)) ?_
    refine r_nil ?_
    refine r_ret (res1 (v := .bool _) rfl (by exact rfl)) ?_
    exact ⟨by rw [compat_noL hc20], hV⟩
   ·skip
    refine r_skip ?_
    refine r_seq ?_
    refine r_seq ?_
    refine r_region ?_
    refine r_op rfl rfl rfl (run_mv (v := vn18) rfl (by exact rfl)) ?_
    refine r_op rfl rfl rfl (run_lenOE rfl (by exact rfl) Try.underlying30 hon18) ?_
    refine r_op rfl rfl rfl (run_mv (v := .int _ _) rfl (by exact rfl)) ?_
    refine r_nil ?_
    refine r_block ?_
    have hI21 : Evo w19 w19 [] := Evo.refl _ _
    obtain ⟨ao22, g22, cp22, hv22, hr22, hg22⟩ := hon18.rowOf
    subst hv22
    have hr220 := keepE hr22
    obtain ⟨ao23, g23, cp23, hv23, hr23, hg23⟩ := hon19.rowOf
    subst hv23
    have hr230 := keepE hr23
    refine r_loop (α := Nat) [4, 13, 63, 64, 65, 66, 67, 68, 69, 70, 71, 72, 73, 74, 75, 76, 77, 78, 79] (fun k g w => g 63 = .int .i64 (k : Nat) ∧ k ≤ (tagsL a).length ∧ (∀ j, j < k → (tagsL a).count ((tagsL a).getD j default) = (tagsL b).count ((tagsL a).getD j default)) ∧ w19.heap.size ≤ w.heap.size ∧ Evo w0 w [] ∧ Evo w19 w []) (fun k => (tagsL a).length - k) 0 ?_ ?_
    ·refine ⟨(by first | exact rfl | exact congrArg (Value.int _) (by omega) | exact congrArg (Value.int _) (by dsimp only; omega) | exact congrArg (Value.int _) (by simp) | exact congrArg S (by simp)), (by first | assumption | omega | (dsimp only; omega) | (simp; done)), (fun j h1 => by omega), (by first | assumption | omega | (dsimp only; omega) | (simp; done)), hV, hI21⟩
    ·rintro k g w25 ⟨hj26, hk_k, hall, hzl24, hV, hI21⟩
     have hs_w25hV := hV.size
     have hs_w25hI21 := hI21.size
     replace ha := ha0 _ hV
     replace hb := hb0 _ hV
     replace hr22 := hr220 _ hI21
     replace hr23 := hr230 _ hI21
     refine r_know (i := 63) (v := .int .i64 (k : Nat)) (by exact hj26) ?_
     refine r_seq ?_
     refine r_region ?_
     refine r_op rfl rfl rfl (run_lss rfl (by exact rfl) (by exact rfl)) ?_
     refine r_nil ?_
     refine r_seq ?_
     refine r_cond (by exact rfl) (fun hc27 => ?_) (fun hc27 => ?_)
     ·skip
      refine r_skip ?_
      refine r_seq ?_
      refine r_block ?_
      refine r_seq ?_
      refine r_region ?_
      refine r_op rfl rfl rfl (run_mv (v := .int _ _) rfl (by exact rfl)) ?_
      refine r_op rfl rfl rfl (run_asg (v := .int _ _) rfl (by exact rfl)) ?_
      refine r_nil ?_
      refine r_seq ?_
      refine r_qregion (by kernel_rfl) (by kernel_rfl) ?_
      refine q_op rfl rfl rfl (fun w' hC => run_mv (v := .slice _ _ _) rfl (by exact rfl)) ?_
      refine q_op rfl rfl rfl (fun w' hC => run_mv (v := .slice _ _ _) rfl (by exact rfl)) ?_
      refine q_op rfl rfl rfl (fun w' hC => run_mv (v := .int _ _) rfl (by exact rfl)) ?_
      refine q_op rfl rfl rfl (fun w' hC => run_ix (k) rfl Try.underlying30 ty_26 (by exact rfl) (by exact rfl) (by first | exact rfl | omega) (by omega) (hr22.addr (i := k) (by omega))) ?_
      have hA280 := fun (w' : World) (h : Evo w19 w' []) => (hr220 w' h).atD (k) (by omega)
      have hA28 := hA280 _ hI21
      refine q_op rfl rfl rfl (fun w' hC => run_ldN rfl ag_26 ty_26 (by exact rfl) rfl (hA28.evo0 hC)) ?_
      refine q_call rfl rfl rfl (fun w' hC => run_callf rfl (argcons (v := .slice _ _ _) (by exact rfl) (argcons (v := .agg _) (by exact rfl) (rfl))) Try.func82 rfl (by kernel_rfl)) (fun w' hC => (count_calls (hr22.evo0 hC) (by first | assumption | exact MF.small (by assumption) | exact kf_small | exact small_take (by assumption) _)).mono (fun e w'' h => ⟨h.1, evo_step0 hC h.2⟩)) ?_
      refine q_op rfl rfl rfl (fun w' hC => run_mv (v := .slice _ _ _) rfl (by exact rfl)) ?_
      refine q_op rfl rfl rfl (fun w' hC => run_mv (v := .slice _ _ _) rfl (by exact rfl)) ?_
      refine q_op rfl rfl rfl (fun w' hC => run_mv (v := .int _ _) rfl (by exact rfl)) ?_
      refine q_op rfl rfl rfl (fun w' hC => run_ix (k) rfl Try.underlying30 ty_26 (by exact rfl) (by exact rfl) (by first | exact rfl | omega) (by omega) (hr22.addr (i := k) (by omega))) ?_
      have hA290 := fun (w' : World) (h : Evo w19 w' []) => (hr220 w' h).atD (k) (by omega)
      have hA29 := hA290 _ hI21
      refine q_op rfl rfl rfl (fun w' hC => run_ldN rfl ag_26 ty_26 (by exact rfl) rfl (hA29.evo0 hC)) ?_
      refine q_call rfl rfl rfl (fun w' hC => run_callf rfl (argcons (v := .slice _ _ _) (by exact rfl) (argcons (v := .agg _) (by exact rfl) (rfl))) Try.func82 rfl (by kernel_rfl)) (fun w' hC => (count_calls (hr23.evo0 hC) (by first | assumption | exact MF.small (by assumption) | exact kf_small | exact small_take (by assumption) _)).mono (fun e w'' h => ⟨h.1, evo_step0 hC h.2⟩)) ?_
      refine q_op rfl rfl rfl (fun w' hC => run_neq rfl (by exact rfl) (by exact rfl)) ?_
      refine q_nil (fun w30 hE31 => ?_)
      have hs_w30 := (hE31).size
      replace hV := evo_step0 hV hE31
      replace hI21 := evo_step0 hI21 hE31
      replace ha := ha0 _ hV
      replace hb := hb0 _ hV
      replace hr22 := hr220 _ hI21
      replace hr23 := hr230 _ hI21
      refine r_cond (by exact rfl) (fun hc32 => ?_) (fun hc32 => ?_)
      ·skip
       refine r_seq ?_
       refine r_region ?_
       refine r_op rfl rfl rfl (run_asg (v := .bool _) rfl (by exact rfl)) ?_
       refine r_nil ?_
       refine r_ret (res1 (v := .bool _) rfl (by exact rfl)) ?_
       exact ⟨by rw [compat_noC hc32], hV⟩
      ·skip
       refine r_skip ?_
       refine r_blk ?_
       refine r_region ?_
       refine r_op rfl rfl rfl (run_add rfl (by exact rfl) (by exact rfl) (by omega) (by omega)) ?_
       refine r_op rfl rfl rfl (run_mv (v := .int _ _) rfl (by exact rfl)) ?_
       refine r_nil ?_
       refine r_again (k + 1) ?_ ?_ ?_
       ·first | omega | (dsimp only; omega)
       ·refine ⟨(by first | exact rfl | exact congrArg (Value.int _) (by omega) | exact congrArg (Value.int _) (by dsimp only; omega) | exact congrArg (Value.int _) (by simp) | exact congrArg S (by simp)), (by first | assumption | omega | (dsimp only; omega) | (simp; done)), (upto0 hall (by have h9 := hc32; omega)), (by first | assumption | omega | (dsimp only; omega) | (simp; done)), hV, hI21⟩
       ·repeat (first | (with_reducible exact Agree.merge _ _ _) | (with_reducible exact Agree.refl _ _) | (with_reducible refine Agree.upd ?_ _ _ rfl) | ((with_reducible refine Agree.inner ?_ ?_); (kernel_rfl)))
     ·skip
      refine r_exit rfl ?_
      refine r_seq ?_
      refine r_region ?_
      refine r_op rfl rfl rfl (run_asg (v := .bool _) rfl (by exact rfl)) ?_
      refine r_nil ?_
      refine r_ret (res1 (v := .bool _) rfl (by exact rfl)) ?_
      exact ⟨by rw [cyes (by assumption) (perm_of_counts (by omega) (fun x hx => Nat.le_of_eq (by obtain ⟨j, hj, e⟩ := List.getElem_of_mem hx; have h9 := hall j (by omega); rw [show (tagsL a).getD j default = x by simp [List.getD, hj, e]] at h9; exact h9))), decide_eq_true (Classical.not_not.1 (by assumption))], hV⟩

end Go.Proofs.Ytkdgoghmkmpfnaa
