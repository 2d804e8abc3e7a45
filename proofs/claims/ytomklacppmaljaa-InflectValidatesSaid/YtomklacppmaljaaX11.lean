import Derived.Test.YtomklacppmaljaaX10
namespace Go.Proofs.Ytomklacppmaljaa
open Go.RowKit Go.Vc
theorem pl_106 : placesP Try.prog 106 = some [] := by kernel_rfl
theorem ty_106 : tyP Try.prog 106 = some (0, 0, some (.agg #[])) := by kernel_rfl
theorem cut_len (s t : Str) : (if t <:+ s then s.take (s.length - t.length) else s).length ≤ s.length := by
  split
  · exact List.length_take_le' _ _
  · exact Nat.le_refl _
theorem key_len {m : List (Str × Unit)} {ok : Str → Bool} {s : Str} {E : List Ende} {k : Nat} (h : KeyIs m (foldF ok s fwd (E.take k))) (hb : ∀ k, BdE (E.getD k default)) (hs : s.length ≤ 4000) : ∀ p ∈ m, p.1.length ≤ maxLen := fun p hp => by
  have h1 := (h.2 p.1).1 (List.mem_map.2 ⟨p, hp, rfl⟩)
  unfold maxLen
  rcases foldF_mem.1 h1 with h2 | ⟨_, _, x, hx, h2⟩
  · rw [h2]; omega
  · have h3 := turn_len s (fwd x).1 (fwd x).2
    rw [h2] at h3
    obtain ⟨i, hi, rfl⟩ := List.mem_iff_getElem.1 (List.mem_of_mem_take hx)
    have h4 := (hb i).2
    have e : E.getD i default = E[i] := by simp [List.getD, hi]
    rw [e] at h4
    have h5 : p.1.length ≤ s.length + E[i].add.length := h3
    omega
theorem key_cnt {m : List (Str × Unit)} {l : List Str} (h : KeyIs m l) (hl : l.Pairwise (fun a b => a < b)) : m.length = l.length := by
  have := congrArg List.length (h.sorted hl)
  rw [sortS_len, List.length_map] at this
  exact this

theorem forms_calls {ao : Option Addr} {b off cap : Nat} {c : List Clas} {p q : Str} {w0 : World} (hc : RowR w0 ao b off cap c) (hen : (endsL c q).length ≤ 4398046510976) (hbe : ∀ k, BdE ((endsL c q).getD k default)) (hp : p.length ≤ 4000) (hq : q.length ≤ 140737488355328) :
    Calls Try.prog 29 #[.slice ao c.length cap, (.agg #[S p, S q])] w0 fun e w' => ∃ ao' b' off' cap', e = .returned (.slice ao' (formsC c p q).length cap') ∧ Evo w0 w' [] ∧ RowE w' ao' b' off' cap' (formsC c p q) := by
 refine calls_enter (n := 53) (args := [.slice ao c.length cap, (.agg #[S p, S q])]) Try.func29 rfl Try.ntmps29 rfl ?_
 have hV : Evo w0 w0 [] := Evo.refl _ _
 have hc0 := hc.keep
 have hbd_hc := hc.bd
 refine r_seq ?_
 refine r_region ?_
 refine r_box (vs := [_, _]) (by exact rfl) (by exact rfl) rfl ?_
 intro b1 w2 heb1 hEw2 hbb1 hzb1
 have hs_w2 := (hEw2).size
 replace hV := evo_step0 hV hEw2
 replace hc := hc0.now hV
 have hAb1 := hbb1.at
 refine r_op rfl rfl rfl (run_asg (v := .slice _ _ _) rfl (by exact rfl)) ?_
 refine r_nil ?_
 refine r_seq ?_
 refine r_region ?_
 refine r_op rfl rfl rfl (run_fa rfl (by exact rfl) fo_33_0) ?_
 refine r_op rfl rfl rfl (run_ld1 rfl ag_9 (by exact rfl) (hAb1.cell 0 (by exact rfl))) ?_
 refine r_opcall rfl rfl rfl (run_callf (vs := [S _]) rfl (by exact rfl) Try.func70 rfl (by kernel_rfl)) (lower_calls (by first | omega | (simp; omega))) ?_
 rintro e w3 ⟨rfl, hE3⟩
 refine ⟨_, rfl, ?_⟩
 have hs_w3 := (hE3).size
 replace hV := evo_step0 hV hE3
 replace hc := hc0.now hV
 replace hbb1 := hbb1.evo0 hE3
 replace hAb1 := hAb1.evo0 hE3
 refine r_op rfl rfl rfl (run_asg (v := S _) rfl (by exact rfl)) ?_
 refine r_nil ?_
 refine r_seq ?_
 refine r_seq ?_
 refine r_region ?_
 refine r_op rfl rfl rfl (run_mv (v := S _) rfl (by exact rfl)) ?_
 refine r_op rfl rfl rfl (run_seql rfl (by exact rfl) (by exact rfl)) ?_
 refine r_nil ?_
 refine r_cond (by exact rfl) (fun hc4 => ?_) (fun hc4 => ?_)
 ·skip
  refine r_seq ?_
  refine r_region ?_
  refine r_op rfl rfl rfl (run_asg (v := .slice _ _ _) rfl (by exact rfl)) ?_
  refine r_nil ?_
  refine r_ret (res1 (v := .slice _ _ _) rfl (by exact rfl)) ?_
  exact ⟨none, 0, 0, 0, by rw [forms_nil hc4]; rfl, hV, by rw [forms_nil hc4]; exact RowE.nil _ _ _ _ _⟩
 ·skip
  refine r_skip ?_
  refine r_seq ?_
  refine r_region ?_
  refine r_makeMap (α := Str) (β := Unit) S (fun _ : Unit => Value.agg #[]) rfl ?_
  intro b5 w6 heb5 hEw6 hmb5 hzb5
  have hs_w6 := (hEw6).size
  replace hV := evo_step0 hV hEw6
  replace hc := hc0.now hV
  replace hbb1 := hbb1.evo0 hEw6
  replace hAb1 := hAb1.evo0 hEw6
  refine r_op rfl rfl rfl (run_mv (v := S _) rfl (by exact rfl)) ?_
  refine r_op rfl rfl rfl (run_bld (pv := []) (zs := []) (cells := []) rfl ty_106 (by exact rfl) pl_106 (by exact rfl) (by exact rfl)) ?_
  refine r_mapins (a := _) (v := ()) (key_str Try.underlying9) Try.underlying107 (by exact rfl) (by exact rfl) (by exact rfl) hmb5 ?_
  intro w7 hEw7 hzw7 hm_new
  have hs_w7 := (hEw7).size
  replace hV := evo_step1 hV hEw7 (by first | exact .inl (by omega) | exact .inr (by simp))
  replace hc := hc0.now hV
  replace hbb1 := hbb1.evo hEw7 (by simp; omega)
  replace hAb1 := hAb1.evo hEw7 (by simp; omega)
  replace hmb5 := hm_new
  clear hm_new
  refine r_op rfl rfl rfl (run_mv (v := .map _) rfl (by exact rfl)) ?_
  refine r_op rfl rfl rfl (run_asg (v := .map _) rfl (by exact rfl)) ?_
  refine r_nil ?_
  refine r_seq ?_
  refine r_seq ?_
  refine r_region ?_
  refine r_op rfl rfl rfl (run_mv (v := .slice _ _ _) rfl (by exact rfl)) ?_
  refine r_op rfl rfl rfl (run_fa rfl (by exact rfl) fo_33_1) ?_
  refine r_op rfl rfl rfl (run_ld1 rfl ag_9 (by exact rfl) (hAb1.cell 1 (by exact rfl))) ?_
  refine r_opcall rfl rfl rfl (run_callf (vs := [.slice _ _ _, S _]) rfl (by exact rfl) Try.func71 rfl (by kernel_rfl)) (ends_calls hc0 hV) ?_
  rintro e w8 ⟨ao8, b8, off8, cap8, rfl, hE8, hr80⟩
  refine ⟨_, rfl, ?_⟩
  have hs_w8 := (hE8).size
  replace hV := evo_step0 hV hE8
  replace hc := hc0.now hV
  replace hmb5 := hmb5.evo0 hE8
  have hr8 := hr80 _ hV
  have hbd_hr8 := hr8.bd
  refine r_op rfl rfl rfl (run_lenSl rfl (by exact rfl) Try.underlying41) ?_
  refine r_op rfl rfl rfl (run_mv (v := .int _ _) rfl (by exact rfl)) ?_
  refine r_nil ?_
  refine r_block ?_
  refine r_loop (α := Nat) [8, 9, 10, 25, 26, 27, 28, 29, 30, 31, 32, 33, 34, 35, 36, 37, 38, 39, 40, 41, 42, 43, 44, 45, 46, 47, 48, 49, 50] (fun k g w => ∃ m : List (Str × Unit), g 25 = .int .i64 (k : Nat) ∧ k ≤ (if q = [] then ([] : List Ende) else endsL c q).length ∧ MapIs w b5 S (fun _ : Unit => Value.agg #[]) m ∧ KeyIs m (foldF (fun _ => true) (lowS p) fwd ((if q = [] then ([] : List Ende) else endsL c q).take k)) ∧ w8.heap.size ≤ w.heap.size ∧ Evo w0 w []) (fun k => (if q = [] then ([] : List Ende) else endsL c q).length - k) 0 ?_ ?_
  ·refine ⟨_, (by first | exact rfl | exact congrArg (Value.int _) (by omega) | exact congrArg (Value.int _) (by dsimp only; omega) | exact congrArg (Value.int _) (by simp) | exact congrArg S (by simp)), (by first | assumption | omega | (dsimp only; omega) | (simp; done)), hmb5, (KeyIs.one _), (by first | assumption | omega | (dsimp only; omega) | (simp; done)), hV⟩
  ·rintro k g w10 ⟨m, hj11, hk_k, hmb5, hks, hzl9, hV⟩
   have hs_w10hV := hV.size
   have hlt12 := hmb5.lt
   replace hc := hc0.now hV
   replace hr8 := hr80 _ hV
   refine r_know (i := 25) (v := .int .i64 (k : Nat)) (by exact hj11) ?_
   have hbk := ends_ifbd hbe k
   have hb1 := hbk.1
   have hb2 := hbk.2
   refine r_seq ?_
   refine r_region ?_
   refine r_op rfl rfl rfl (run_lss rfl (by exact rfl) (by exact rfl)) ?_
   refine r_nil ?_
   refine r_seq ?_
   refine r_cond (by exact rfl) (fun hc13 => ?_) (fun hc13 => ?_)
   ·skip
    refine r_skip ?_
    refine r_seq ?_
    refine r_block ?_
    refine r_seq ?_
    refine r_region ?_
    refine r_op rfl rfl rfl (run_ix (k) rfl Try.underlying41 ty_46 (by exact rfl) (by exact rfl) (by first | exact rfl | omega) (by omega) (hr8.addr (i := k) (by omega))) ?_
    have hA140 := fun (w' : World) (h : Evo w0 w' []) => (hr80 w' h).atD (k) (by omega)
    have hA14 := hA140 _ hV
    refine r_op rfl rfl rfl (run_ldN rfl ag_46 ty_46 (by exact rfl) rfl hA14) ?_
    refine r_var (zs := [_, _]) (vs := [_, _]) ty_46 (by exact rfl) rfl (by exact rfl) (fun _ => rfl) (by exact rfl) rfl rfl (by exact rfl) ?_
    intro b15 w16 heb15 hEw16 hbb15 hzb15
    have hs_w16 := (hEw16).size
    replace hV := evo_step0 hV hEw16
    replace hc := hc0.now hV
    replace hmb5 := hmb5.evo0 hEw16
    have hAb15 := hbb15.at
    refine r_nil ?_
    refine r_seq ?_
    refine r_region ?_
    refine r_op rfl rfl rfl (run_mv (v := S _) rfl (by exact rfl)) ?_
    refine r_op rfl rfl rfl (run_fa rfl (by exact rfl) fo_46_0) ?_
    refine r_op rfl rfl rfl (run_ld1 rfl ag_9 (by exact rfl) (hAb15.cell 0 (by exact rfl))) ?_
    refine r_opcall rfl rfl rfl (run_callf (vs := [S _, S _]) rfl (by exact rfl) Try.func72 rfl (by kernel_rfl)) (s_cs_calls (by first | omega | (simp; omega)) (by first | omega | (simp; omega))) ?_
    rintro e w17 ⟨rfl, hE17⟩
    refine ⟨_, rfl, ?_⟩
    have hs_w17 := (hE17).size
    replace hV := evo_step0 hV hE17
    replace hc := hc0.now hV
    replace hmb5 := hmb5.evo0 hE17
    replace hbb15 := hbb15.evo0 hE17
    replace hAb15 := hAb15.evo0 hE17
    refine r_op rfl rfl rfl (run_mv (v := .tuple _) rfl (by exact rfl)) ?_
    refine r_op rfl rfl rfl (run_extract (v := S _) rfl (by exact rfl) (by exact rfl)) ?_
    refine r_op rfl rfl rfl (run_extract (v := .bool _) rfl (by exact rfl) (by exact rfl)) ?_
    refine r_op rfl rfl rfl (run_asg (v := S _) rfl (by exact rfl)) ?_
    refine r_op rfl rfl rfl (run_asg (v := .bool _) rfl (by exact rfl)) ?_
    refine r_nil ?_
    refine r_seq ?_
    have hcl := cut_len (lowS p) ((if q = [] then ([] : List Ende) else endsL c q).getD k default).strip; have hlw := lowS_len p
    refine r_region ?_
    refine r_op rfl rfl rfl (run_mvb rfl (by exact rfl)) ?_
    refine r_op rfl rfl rfl (run_mv (v := .bool _) rfl (by exact rfl)) ?_
    refine r_g rfl (wantT (by exact rfl)) rfl (fun hg => run_mv (v := S _) rfl (by exact rfl)) ?_
    refine r_g rfl (wantT (by exact rfl)) rfl (fun hg => run_fa rfl (by exact rfl) fo_46_1) ?_
    refine r_g rfl (wantT (by exact rfl)) rfl (fun hg => run_ld1 rfl ag_9 (glv (by exact rfl) (fun h => h) hg) (hAb15.cell 1 (by exact rfl))) ?_
    refine r_g rfl (wantT (by exact rfl)) rfl (fun hg => run_sadd rfl (glv (by exact rfl) (fun h => h) hg) (glv (by exact rfl) (fun h => h) hg) (by first | omega | (simp; omega))) ?_
    refine r_g rfl (wantT (by exact rfl)) rfl (fun hg => run_sneq rfl (glv (by exact rfl) (fun h => h) hg) (by exact rfl)) ?_
    refine r_op rfl rfl rfl (run_pick_and rfl (by exact rfl) (fun hq => glv (by exact rfl) (fun h => h) hq) rfl) ?_
    refine r_nil ?_
    refine r_cond (by exact rfl) (fun hc18 => ?_) (fun hc18 => ?_)
    ·skip
     refine r_region ?_
     refine r_op rfl rfl rfl (run_mv (v := .map _) rfl (by exact rfl)) ?_
     refine r_op rfl rfl rfl (run_mv (v := S _) rfl (by exact rfl)) ?_
     refine r_op rfl rfl rfl (run_fa rfl (by exact rfl) fo_46_1) ?_
     refine r_op rfl rfl rfl (run_ld1 rfl ag_9 (by exact rfl) (hAb15.cell 1 (by exact rfl))) ?_
     refine r_op rfl rfl rfl (run_sadd rfl (by exact rfl) (by exact rfl) (by first | omega | (simp; omega))) ?_
     refine r_op rfl rfl rfl (run_bld (pv := []) (zs := []) (cells := []) rfl ty_106 (by exact rfl) pl_106 (by exact rfl) (by exact rfl)) ?_
     refine r_mapset (a := _) (v := ()) (key_str Try.underlying9) Try.underlying107 (by exact rfl) (by exact rfl) (by exact rfl) hmb5 ?_
     intro w19 hEw19 hzw19 hm_new
     have hs_w19 := (hEw19).size
     replace hV := evo_step1 hV hEw19 (by first | exact .inl (by omega) | exact .inr (by simp))
     replace hc := hc0.now hV
     replace hmb5 := hm_new
     clear hm_new
     refine r_nil ?_
     refine r_blk ?_
     refine r_region ?_
     refine r_op rfl rfl rfl (run_add rfl (by exact rfl) (by exact rfl) (by omega) (by omega)) ?_
     refine r_op rfl rfl rfl (run_mv (v := .int _ _) rfl (by exact rfl)) ?_
     refine r_nil ?_
     refine r_again (k + 1) ?_ ?_ ?_
     ·first | omega | (dsimp only; omega)
     ·refine ⟨_, (by first | exact rfl | exact congrArg (Value.int _) (by omega) | exact congrArg (Value.int _) (by dsimp only; omega) | exact congrArg (Value.int _) (by simp) | exact congrArg S (by simp)), (by first | assumption | omega | (dsimp only; omega) | (simp; done)), hmb5, (by first | exact cut_yes hks (by omega) hc18 | exact cut_no hks (by omega) hc18), (by first | assumption | omega | (dsimp only; omega) | (simp; done)), hV⟩
     ·repeat (first | (with_reducible exact Agree.merge _ _ _) | (with_reducible exact Agree.refl _ _) | (with_reducible refine Agree.upd ?_ _ _ rfl) | ((with_reducible refine Agree.inner ?_ ?_); (kernel_rfl)))
    ·skip
     refine r_skip ?_
     refine r_blk ?_
     refine r_region ?_
     refine r_op rfl rfl rfl (run_add rfl (by exact rfl) (by exact rfl) (by omega) (by omega)) ?_
     refine r_op rfl rfl rfl (run_mv (v := .int _ _) rfl (by exact rfl)) ?_
     refine r_nil ?_
     refine r_again (k + 1) ?_ ?_ ?_
     ·first | omega | (dsimp only; omega)
     ·refine ⟨_, (by first | exact rfl | exact congrArg (Value.int _) (by omega) | exact congrArg (Value.int _) (by dsimp only; omega) | exact congrArg (Value.int _) (by simp) | exact congrArg S (by simp)), (by first | assumption | omega | (dsimp only; omega) | (simp; done)), hmb5, (by first | exact cut_yes hks (by omega) hc18 | exact cut_no hks (by omega) hc18), (by first | assumption | omega | (dsimp only; omega) | (simp; done)), hV⟩
     ·repeat (first | (with_reducible exact Agree.merge _ _ _) | (with_reducible exact Agree.refl _ _) | (with_reducible refine Agree.upd ?_ _ _ rfl) | ((with_reducible refine Agree.inner ?_ ?_); (kernel_rfl)))
   ·skip
    refine r_exit rfl ?_
    refine r_seq ?_
    refine r_region ?_
    refine r_op rfl rfl rfl (run_mv (v := .map _) rfl (by exact rfl)) ?_
    refine r_opcall rfl rfl rfl (run_callf (vs := [.map _]) rfl (by exact rfl) Try.func73 rfl (by kernel_rfl)) (sorted_calls hmb5 (key_len hks (fun k => ends_ifbd hbe k) (by rw [lowS_len]; omega)) (by have h9 := key_cnt hks (foldF_sorted _ _ _ _); have h8 := foldF_len (fun _ => true) (lowS p) fwd ((if q = [] then ([] : List Ende) else endsL c q).take k); have h7 : ((if q = [] then ([] : List Ende) else endsL c q).take k).length ≤ (if q = [] then ([] : List Ende) else endsL c q).length := List.length_take_le' _ _; have h6 := ends_iflen hen; omega)) ?_
    rintro e w20 ⟨vs20, rfl, hE20, hsr20⟩
    refine ⟨_, rfl, ?_⟩
    have hs_w20 := (hE20).size
    replace hV := evo_step0 hV hE20
    replace hc := hc0.now hV
    replace hmb5 := hmb5.evo0 hE20
    refine r_op rfl rfl rfl (run_asg (v := vs20) rfl (by exact rfl)) ?_
    refine r_nil ?_
    refine r_ret (res1 (v := vs20) rfl (by exact rfl)) ?_
    obtain ⟨ao9, g9, cp9, hv9, hr9, _⟩ := hsr20.rowOf
    have e9 : sortS (m.map (·.1)) = formsC c p q := by rw [hks.sorted (foldF_sorted _ _ _ _), forms_if (by assumption), List.take_of_length_le (by omega)]
    rw [e9] at hv9 hr9
    exact ⟨_, g9, 0, cp9, by rw [hv9], hV, hr9⟩

end Go.Proofs.Ytomklacppmaljaa
