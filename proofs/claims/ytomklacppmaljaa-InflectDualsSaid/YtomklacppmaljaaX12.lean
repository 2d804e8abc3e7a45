import Derived.Test.YtomklacppmaljaaX11
namespace Go.Proofs.Ytomklacppmaljaa
open Go.RowKit Go.Vc

theorem scut_yes {s : Str} {E : List Ende} {k : Nat} {m : List (Str × Unit)} (h : KeyIs m (foldF isLow s bwd (E.take k))) (hk : k < E.length) (h1 : ((decide ((E.getD k default).add <:+ s) = true ∧ ¬ (if (E.getD k default).add <:+ s then s.take (s.length - (E.getD k default).add.length) else s) ++ (E.getD k default).strip = []) ∧ lowS ((if (E.getD k default).add <:+ s then s.take (s.length - (E.getD k default).add.length) else s) ++ (E.getD k default).strip) = (if (E.getD k default).add <:+ s then s.take (s.length - (E.getD k default).add.length) else s) ++ (E.getD k default).strip)) :
    KeyIs (setM m ((if (E.getD k default).add <:+ s then s.take (s.length - (E.getD k default).add.length) else s) ++ (E.getD k default).strip) ()) (foldF isLow s bwd (E.take (k + 1))) := by
  have hs := of_decide_eq_true h1.1.1
  rw [if_pos hs] at h1 ⊢
  have e : turnL s (bwd (E.getD k default)).1 (bwd (E.getD k default)).2 = some (s.take (s.length - (E.getD k default).add.length) ++ (E.getD k default).strip) := if_pos hs
  have h2 := fold_yes (ok := isLow) (s := s) (b := bwd) hk ⟨by rw [e]; rfl, by rw [e]; exact h1.1.2⟩ (by rw [e]; exact decide_eq_true h1.2)
  rw [e] at h2
  rw [h2]
  exact h.add _
theorem scut_no {s : Str} {E : List Ende} {k : Nat} {m : List (Str × Unit)} (h : KeyIs m (foldF isLow s bwd (E.take k))) (hk : k < E.length) (h1 : ¬ ((decide ((E.getD k default).add <:+ s) = true ∧ ¬ (if (E.getD k default).add <:+ s then s.take (s.length - (E.getD k default).add.length) else s) ++ (E.getD k default).strip = []) ∧ lowS ((if (E.getD k default).add <:+ s then s.take (s.length - (E.getD k default).add.length) else s) ++ (E.getD k default).strip) = (if (E.getD k default).add <:+ s then s.take (s.length - (E.getD k default).add.length) else s) ++ (E.getD k default).strip)) :
    KeyIs m (foldF isLow s bwd (E.take (k + 1))) := by
  rw [fold_no (ok := isLow) (s := s) (b := bwd) hk]
  · exact h
  · intro h2
    by_cases hs : (E.getD k default).add <:+ s
    · have e : turnL s (bwd (E.getD k default)).1 (bwd (E.getD k default)).2 = some (s.take (s.length - (E.getD k default).add.length) ++ (E.getD k default).strip) := if_pos hs
      rw [e] at h2
      exact h1 (by rw [if_pos hs]; exact ⟨⟨decide_eq_true hs, h2.1.2⟩, of_decide_eq_true h2.2⟩)
    · have e : turnL s (bwd (E.getD k default)).1 (bwd (E.getD k default)).2 = none := if_neg hs
      rw [e] at h2
      exact absurd h2.1.1 (by simp)
theorem skey_len {m : List (Str × Unit)} {ok : Str → Bool} {s : Str} {E : List Ende} {k : Nat} (h : KeyIs m (foldF ok s bwd (E.take k))) (hb : ∀ k, BdE (E.getD k default)) (hs : s.length ≤ 4000) : ∀ p ∈ m, p.1.length ≤ maxLen := fun p hp => by
  have h1 := (h.2 p.1).1 (List.mem_map.2 ⟨p, hp, rfl⟩)
  unfold maxLen
  rcases foldF_mem.1 h1 with h2 | ⟨_, _, x, hx, h2⟩
  · rw [h2]; omega
  · have h3 := turn_len s (bwd x).1 (bwd x).2
    rw [h2] at h3
    obtain ⟨i, hi, rfl⟩ := List.mem_iff_getElem.1 (List.mem_of_mem_take hx)
    have h4 := (hb i).1
    have e : E.getD i default = E[i] := by simp [List.getD, hi]
    rw [e] at h4
    have h5 : p.1.length ≤ s.length + E[i].strip.length := h3
    omega
theorem stems_nil {c : List Clas} {p q : Str} (h : lowS p = []) : stemsC c q p = [] := by unfold stemsC; rw [if_pos (lowS_nil.1 h)]
theorem stems_if {c : List Clas} {p q : Str} (h : ¬ lowS p = []) : stemsC c q p = foldF isLow (lowS p) bwd (if q = [] then [] else endsL c q) := by unfold stemsC; rw [if_neg (fun e => h (lowS_nil.2 e))]

theorem stems_calls {ao : Option Addr} {b off cap : Nat} {c : List Clas} {p q : Str} {w0 : World} (hc : RowR w0 ao b off cap c) (hen : (endsL c q).length ≤ 4398046510976) (hbe : ∀ k, BdE ((endsL c q).getD k default)) (hp : p.length ≤ 4000) (hq : q.length ≤ 140737488355328) :
    Calls Try.prog 31 #[.slice ao c.length cap, S q, S p] w0 fun e w' => ∃ ao' b' off' cap', e = .returned (.slice ao' (stemsC c q p).length cap') ∧ Evo w0 w' [] ∧ RowE w' ao' b' off' cap' (stemsC c q p) := by
 refine calls_enter (n := 58) (args := [.slice ao c.length cap, S q, S p]) Try.func31 rfl Try.ntmps31 rfl ?_
 have hV : Evo w0 w0 [] := Evo.refl _ _
 have hc0 := hc.keep
 have hbd_hc := hc.bd
 refine r_seq ?_
 refine r_region ?_
 refine r_op rfl rfl rfl (run_asg (v := .slice _ _ _) rfl (by exact rfl)) ?_
 refine r_nil ?_
 refine r_seq ?_
 refine r_region ?_
 refine r_op rfl rfl rfl (run_mv (v := S _) rfl (by exact rfl)) ?_
 refine r_opcall rfl rfl rfl (run_callf (vs := [S _]) rfl (by exact rfl) Try.func70 rfl (by kernel_rfl)) (lower_calls (by first | omega | (simp; omega))) ?_
 rintro e w1 ⟨rfl, hE1⟩
 refine ⟨_, rfl, ?_⟩
 have hs_w1 := (hE1).size
 replace hV := evo_step0 hV hE1
 replace hc := hc0.now hV
 refine r_op rfl rfl rfl (run_asg (v := S _) rfl (by exact rfl)) ?_
 refine r_nil ?_
 refine r_seq ?_
 refine r_seq ?_
 refine r_region ?_
 refine r_op rfl rfl rfl (run_mv (v := S _) rfl (by exact rfl)) ?_
 refine r_op rfl rfl rfl (run_seql rfl (by exact rfl) (by exact rfl)) ?_
 refine r_nil ?_
 refine r_cond (by exact rfl) (fun hc2 => ?_) (fun hc2 => ?_)
 ·skip
  refine r_seq ?_
  refine r_region ?_
  refine r_op rfl rfl rfl (run_asg (v := .slice _ _ _) rfl (by exact rfl)) ?_
  refine r_nil ?_
  refine r_ret (res1 (v := .slice _ _ _) rfl (by exact rfl)) ?_
  exact ⟨none, 0, 0, 0, by rw [stems_nil hc2]; rfl, hV, by rw [stems_nil hc2]; exact RowE.nil _ _ _ _ _⟩
 ·skip
  refine r_skip ?_
  refine r_seq ?_
  refine r_region ?_
  refine r_makeMap (α := Str) (β := Unit) S (fun _ : Unit => Value.agg #[]) rfl ?_
  intro b3 w4 heb3 hEw4 hmb3 hzb3
  have hs_w4 := (hEw4).size
  replace hV := evo_step0 hV hEw4
  replace hc := hc0.now hV
  refine r_op rfl rfl rfl (run_mv (v := S _) rfl (by exact rfl)) ?_
  refine r_op rfl rfl rfl (run_bld (pv := []) (zs := []) (cells := []) rfl ty_106 (by exact rfl) pl_106 (by exact rfl) (by exact rfl)) ?_
  refine r_mapins (a := _) (v := ()) (key_str Try.underlying9) Try.underlying107 (by exact rfl) (by exact rfl) (by exact rfl) hmb3 ?_
  intro w5 hEw5 hzw5 hm_new
  have hs_w5 := (hEw5).size
  replace hV := evo_step1 hV hEw5 (by first | exact .inl (by omega) | exact .inr (by simp))
  replace hc := hc0.now hV
  replace hmb3 := hm_new
  clear hm_new
  refine r_op rfl rfl rfl (run_mv (v := .map _) rfl (by exact rfl)) ?_
  refine r_op rfl rfl rfl (run_asg (v := .map _) rfl (by exact rfl)) ?_
  refine r_nil ?_
  refine r_seq ?_
  refine r_seq ?_
  refine r_region ?_
  refine r_op rfl rfl rfl (run_mv (v := .slice _ _ _) rfl (by exact rfl)) ?_
  refine r_op rfl rfl rfl (run_mv (v := S _) rfl (by exact rfl)) ?_
  refine r_opcall rfl rfl rfl (run_callf (vs := [.slice _ _ _, S _]) rfl (by exact rfl) Try.func71 rfl (by kernel_rfl)) (ends_calls hc0 hV) ?_
  rintro e w6 ⟨ao6, b6, off6, cap6, rfl, hE6, hr60⟩
  refine ⟨_, rfl, ?_⟩
  have hs_w6 := (hE6).size
  replace hV := evo_step0 hV hE6
  replace hc := hc0.now hV
  replace hmb3 := hmb3.evo0 hE6
  have hr6 := hr60 _ hV
  have hbd_hr6 := hr6.bd
  refine r_op rfl rfl rfl (run_lenSl rfl (by exact rfl) Try.underlying41) ?_
  refine r_op rfl rfl rfl (run_mv (v := .int _ _) rfl (by exact rfl)) ?_
  refine r_nil ?_
  refine r_block ?_
  refine r_loop (α := Nat) [10, 11, 12, 13, 26, 27, 28, 29, 30, 31, 32, 33, 34, 35, 36, 37, 38, 39, 40, 41, 42, 43, 44, 45, 46, 47, 48, 49, 50, 51, 52, 53, 54, 55] (fun k g w => ∃ m : List (Str × Unit), g 26 = .int .i64 (k : Nat) ∧ k ≤ (if q = [] then ([] : List Ende) else endsL c q).length ∧ MapIs w b3 S (fun _ : Unit => Value.agg #[]) m ∧ KeyIs m (foldF isLow (lowS p) bwd ((if q = [] then ([] : List Ende) else endsL c q).take k)) ∧ w6.heap.size ≤ w.heap.size ∧ Evo w0 w []) (fun k => (if q = [] then ([] : List Ende) else endsL c q).length - k) 0 ?_ ?_
  ·refine ⟨_, (by first | exact rfl | exact congrArg (Value.int _) (by omega) | exact congrArg (Value.int _) (by dsimp only; omega) | exact congrArg (Value.int _) (by simp) | exact congrArg S (by simp)), (by first | assumption | omega | (dsimp only; omega) | (simp; done)), hmb3, (KeyIs.one _), (by first | assumption | omega | (dsimp only; omega) | (simp; done)), hV⟩
  ·rintro k g w8 ⟨m, hj9, hk_k, hmb3, hks, hzl7, hV⟩
   have hs_w8hV := hV.size
   have hlt10 := hmb3.lt
   replace hc := hc0.now hV
   replace hr6 := hr60 _ hV
   refine r_know (i := 26) (v := .int .i64 (k : Nat)) (by exact hj9) ?_
   have hbk := ends_ifbd hbe k
   have hb1 := hbk.1
   have hb2 := hbk.2
   have hcl := cut_len (lowS p) ((if q = [] then ([] : List Ende) else endsL c q).getD k default).add
   have hlw := lowS_len p
   refine r_seq ?_
   refine r_region ?_
   refine r_op rfl rfl rfl (run_lss rfl (by exact rfl) (by exact rfl)) ?_
   refine r_nil ?_
   refine r_seq ?_
   refine r_cond (by exact rfl) (fun hc11 => ?_) (fun hc11 => ?_)
   ·skip
    refine r_skip ?_
    refine r_seq ?_
    refine r_block ?_
    refine r_seq ?_
    refine r_region ?_
    refine r_op rfl rfl rfl (run_ix (k) rfl Try.underlying41 ty_46 (by exact rfl) (by exact rfl) (by first | exact rfl | omega) (by omega) (hr6.addr (i := k) (by omega))) ?_
    have hA120 := fun (w' : World) (h : Evo w0 w' []) => (hr60 w' h).atD (k) (by omega)
    have hA12 := hA120 _ hV
    refine r_op rfl rfl rfl (run_ldN rfl ag_46 ty_46 (by exact rfl) rfl hA12) ?_
    refine r_var (zs := [_, _]) (vs := [_, _]) ty_46 (by exact rfl) rfl (by exact rfl) (fun _ => rfl) (by exact rfl) rfl rfl (by exact rfl) ?_
    intro b13 w14 heb13 hEw14 hbb13 hzb13
    have hs_w14 := (hEw14).size
    replace hV := evo_step0 hV hEw14
    replace hc := hc0.now hV
    replace hmb3 := hmb3.evo0 hEw14
    have hAb13 := hbb13.at
    refine r_nil ?_
    refine r_seq ?_
    refine r_region ?_
    refine r_op rfl rfl rfl (run_mv (v := S _) rfl (by exact rfl)) ?_
    refine r_op rfl rfl rfl (run_fa rfl (by exact rfl) fo_46_1) ?_
    refine r_op rfl rfl rfl (run_ld1 rfl ag_9 (by exact rfl) (hAb13.cell 1 (by exact rfl))) ?_
    refine r_opcall rfl rfl rfl (run_callf (vs := [S _, S _]) rfl (by exact rfl) Try.func72 rfl (by kernel_rfl)) (s_cs_calls (by first | omega | (simp; omega)) (by first | omega | (simp; omega))) ?_
    rintro e w15 ⟨rfl, hE15⟩
    refine ⟨_, rfl, ?_⟩
    have hs_w15 := (hE15).size
    replace hV := evo_step0 hV hE15
    replace hc := hc0.now hV
    replace hmb3 := hmb3.evo0 hE15
    replace hbb13 := hbb13.evo0 hE15
    replace hAb13 := hAb13.evo0 hE15
    refine r_op rfl rfl rfl (run_mv (v := .tuple _) rfl (by exact rfl)) ?_
    refine r_op rfl rfl rfl (run_extract (v := S _) rfl (by exact rfl) (by exact rfl)) ?_
    refine r_op rfl rfl rfl (run_extract (v := .bool _) rfl (by exact rfl) (by exact rfl)) ?_
    refine r_op rfl rfl rfl (run_asg (v := S _) rfl (by exact rfl)) ?_
    refine r_op rfl rfl rfl (run_asg (v := .bool _) rfl (by exact rfl)) ?_
    refine r_nil ?_
    refine r_seq ?_
    refine r_region ?_
    refine r_op rfl rfl rfl (run_mv (v := S _) rfl (by exact rfl)) ?_
    refine r_op rfl rfl rfl (run_fa rfl (by exact rfl) fo_46_0) ?_
    refine r_op rfl rfl rfl (run_ld1 rfl ag_9 (by exact rfl) (hAb13.cell 0 (by exact rfl))) ?_
    refine r_op rfl rfl rfl (run_sadd rfl (by exact rfl) (by exact rfl) (by first | omega | (simp; omega))) ?_
    refine r_op rfl rfl rfl (run_asg (v := S _) rfl (by exact rfl)) ?_
    refine r_nil ?_
    refine r_seq ?_
    have hap : ((if ((if q = [] then ([] : List Ende) else endsL c q).getD k default).add <:+ lowS p then (lowS p).take ((lowS p).length - ((if q = [] then ([] : List Ende) else endsL c q).getD k default).add.length) else lowS p) ++ ((if q = [] then ([] : List Ende) else endsL c q).getD k default).strip).length ≤ 140737488355328 := by rw [List.length_append]; omega
    refine r_region ?_
    refine r_op rfl rfl rfl (run_mvb rfl (by exact rfl)) ?_
    refine r_op rfl rfl rfl (run_mv (v := .bool _) rfl (by exact rfl)) ?_
    refine r_g rfl (wantT (by exact rfl)) rfl (fun hg => run_mv (v := S _) rfl (by exact rfl)) ?_
    refine r_g rfl (wantT (by exact rfl)) rfl (fun hg => run_sneq rfl (glv (by exact rfl) (fun h => h) hg) (by exact rfl)) ?_
    refine r_op rfl rfl rfl (run_pick_and rfl (by exact rfl) (fun hq => glv (by exact rfl) (fun h => h) hq) rfl) ?_
    refine r_op rfl rfl rfl (run_mv (v := .bool _) rfl (by exact rfl)) ?_
    refine r_g rfl (wantT (by exact rfl)) rfl (fun hg => run_mv (v := S _) rfl (by exact rfl)) ?_
    refine r_gcall rfl (wantT (by exact rfl)) rfl (fun hg => run_callf rfl (argcons (v := S _) (glv (by exact rfl) (fun h => h) hg) (rfl)) Try.func70 rfl (by kernel_rfl)) (fun hg => (lower_calls (by first | omega | (simp; omega))).mono (fun e w' h => ⟨h.1, h.2⟩)) (fun w16 hE17 => ?_)
    have hs_w16 := (hE17).size
    replace hV := evo_step0 hV hE17
    replace hc := hc0.now hV
    replace hmb3 := hmb3.evo0 hE17
    refine r_g rfl (wantT (by exact rfl)) rfl (fun hg => run_mv (v := S _) rfl (by exact rfl)) ?_
    refine r_g rfl (wantT (by exact rfl)) rfl (fun hg => run_seql rfl (glv (by exact rfl) (fun h => h) hg) (glv (by exact rfl) (fun h => h) hg)) ?_
    refine r_op rfl rfl rfl (run_pick_and rfl (by exact rfl) (fun hq => glv (by exact rfl) (fun h => h) hq) rfl) ?_
    refine r_nil ?_
    refine r_cond (by exact rfl) (fun hc18 => ?_) (fun hc18 => ?_)
    ·skip
     refine r_region ?_
     refine r_op rfl rfl rfl (run_mv (v := .map _) rfl (by exact rfl)) ?_
     refine r_op rfl rfl rfl (run_mv (v := S _) rfl (by exact rfl)) ?_
     refine r_op rfl rfl rfl (run_bld (pv := []) (zs := []) (cells := []) rfl ty_106 (by exact rfl) pl_106 (by exact rfl) (by exact rfl)) ?_
     refine r_mapset (a := _) (v := ()) (key_str Try.underlying9) Try.underlying107 (by exact rfl) (by exact rfl) (by exact rfl) hmb3 ?_
     intro w19 hEw19 hzw19 hm_new
     have hs_w19 := (hEw19).size
     replace hV := evo_step1 hV hEw19 (by first | exact .inl (by omega) | exact .inr (by simp))
     replace hc := hc0.now hV
     replace hmb3 := hm_new
     clear hm_new
     refine r_nil ?_
     refine r_blk ?_
     refine r_region ?_
     refine r_op rfl rfl rfl (run_add rfl (by exact rfl) (by exact rfl) (by omega) (by omega)) ?_
     refine r_op rfl rfl rfl (run_mv (v := .int _ _) rfl (by exact rfl)) ?_
     refine r_nil ?_
     refine r_again (k + 1) ?_ ?_ ?_
     ·first | omega | (dsimp only; omega)
     ·refine ⟨_, (by first | exact rfl | exact congrArg (Value.int _) (by omega) | exact congrArg (Value.int _) (by dsimp only; omega) | exact congrArg (Value.int _) (by simp) | exact congrArg S (by simp)), (by first | assumption | omega | (dsimp only; omega) | (simp; done)), hmb3, (by first | exact scut_yes hks (by omega) hc18 | exact scut_no hks (by omega) hc18), (by first | assumption | omega | (dsimp only; omega) | (simp; done)), hV⟩
     ·repeat (first | (with_reducible exact Agree.merge _ _ _) | (with_reducible exact Agree.refl _ _) | (with_reducible refine Agree.upd ?_ _ _ rfl) | ((with_reducible refine Agree.inner ?_ ?_); (kernel_rfl)))
    ·skip
     refine r_skip ?_
     refine r_blk ?_
     refine r_region ?_
     refine r_op rfl rfl rfl (run_add rfl (by exact rfl) (by exact rfl) (by omega) (by omega)) ?_
     refine r_op rfl rfl rfl (run_mv (v := .int _ _) rfl (by exact rfl)) ?_
     refine r_nil ?_
     refine r_again (k + 1) ?_ ?_ ?_
     ·first | omega | (dsimp only; omega)
     ·refine ⟨_, (by first | exact rfl | exact congrArg (Value.int _) (by omega) | exact congrArg (Value.int _) (by dsimp only; omega) | exact congrArg (Value.int _) (by simp) | exact congrArg S (by simp)), (by first | assumption | omega | (dsimp only; omega) | (simp; done)), hmb3, (by first | exact scut_yes hks (by omega) hc18 | exact scut_no hks (by omega) hc18), (by first | assumption | omega | (dsimp only; omega) | (simp; done)), hV⟩
     ·repeat (first | (with_reducible exact Agree.merge _ _ _) | (with_reducible exact Agree.refl _ _) | (with_reducible refine Agree.upd ?_ _ _ rfl) | ((with_reducible refine Agree.inner ?_ ?_); (kernel_rfl)))
   ·skip
    refine r_exit rfl ?_
    refine r_seq ?_
    refine r_region ?_
    refine r_op rfl rfl rfl (run_mv (v := .map _) rfl (by exact rfl)) ?_
    refine r_opcall rfl rfl rfl (run_callf (vs := [.map _]) rfl (by exact rfl) Try.func73 rfl (by kernel_rfl)) (sorted_calls hmb3 (skey_len hks (fun k => ends_ifbd hbe k) (by rw [lowS_len]; omega)) (by have h9 := key_cnt hks (foldF_sorted _ _ _ _); have h8 := foldF_len isLow (lowS p) bwd ((if q = [] then ([] : List Ende) else endsL c q).take k); have h7 : ((if q = [] then ([] : List Ende) else endsL c q).take k).length ≤ (if q = [] then ([] : List Ende) else endsL c q).length := List.length_take_le' _ _; have h6 := ends_iflen hen; omega)) ?_
    rintro e w20 ⟨vs20, rfl, hE20, hsr20⟩
    refine ⟨_, rfl, ?_⟩
    have hs_w20 := (hE20).size
    replace hV := evo_step0 hV hE20
    replace hc := hc0.now hV
    replace hmb3 := hmb3.evo0 hE20
    refine r_op rfl rfl rfl (run_asg (v := vs20) rfl (by exact rfl)) ?_
    refine r_nil ?_
    refine r_ret (res1 (v := vs20) rfl (by exact rfl)) ?_
    obtain ⟨ao9, g9, cp9, hv9, hr9, _⟩ := hsr20.rowOf
    have e9 : sortS (m.map (·.1)) = stemsC c q p := by rw [hks.sorted (foldF_sorted _ _ _ _), stems_if (by assumption), List.take_of_length_le (by omega)]
    rw [e9] at hv9 hr9
    exact ⟨_, g9, 0, cp9, by rw [hv9], hV, hr9⟩

end Go.Proofs.Ytomklacppmaljaa
