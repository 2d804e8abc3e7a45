import Derived.Test.YtkdgoghmkmpfnaaW7
import Derived.Test.YtkdgoghmkmpfnaaLb
namespace Go.Proofs.Ytkdgoghmkmpfnaa
open Go.RowKit Go.Vc

theorem lim_bd (n : Int) : 0 ≤ IntKind.i64.wrap ((IntKind.u64.wrap n).tmod 5) ∧ IntKind.i64.wrap ((IntKind.u64.wrap n).tmod 5) ≤ 4 := by
  have h : IntKind.u64.wrap n = n % 18446744073709551616 := IntKind.wrap_u64 n
  have h0 : 0 ≤ IntKind.u64.wrap n := by rw [h]; omega
  have h1 : (IntKind.u64.wrap n).tmod 5 = IntKind.u64.wrap n % 5 := Int.tmod_eq_emod_of_nonneg h0
  rw [h1, wrap_in (by omega) (by omega)]
  omega
theorem rep_len : ∀ k, lengthL (List.replicate k (⟨5, [110], 0⟩ : Vc.Item)) = (k : Int)
  | 0 => rfl
  | k + 1 => by
    have h : lengthL (List.replicate (k + 1) (⟨5, [110], 0⟩ : Vc.Item)) = widthL (⟨5, [110], 0⟩ : Vc.Item) + lengthL (List.replicate k (⟨5, [110], 0⟩ : Vc.Item)) := by simp [lengthL, List.replicate_succ]
    rw [h, rep_len k, width_other (by decide)]; omega
theorem rep_size : ∀ k, sizeL (List.replicate k (⟨5, [110], 0⟩ : Vc.Item)) = k
  | 0 => rfl
  | k + 1 => by
    have h : sizeL (List.replicate (k + 1) (⟨5, [110], 0⟩ : Vc.Item)) = 1 + sizeL (List.replicate k (⟨5, [110], 0⟩ : Vc.Item)) := by simp [sizeL, List.replicate_succ]
    rw [h, rep_size k]; omega
theorem rep_go : ∀ k (b : List Vc.Item), valGo b (List.replicate k (⟨5, [110], 0⟩ : Vc.Item)) = 0
  | 0, b => rfl
  | k + 1, b => by
    rw [List.replicate_succ, valGo, if_pos (chk_notag (.inr rfl) ((formed_slot rfl).2 ⟨by decide, rfl⟩))]
    exact rep_go k _
theorem rep_val {k : Nat} : validateL (List.replicate k (⟨5, [110], 0⟩ : Vc.Item)) = if 512 < k then 3 else 0 := by
  by_cases h : 512 < k
  · rw [if_pos h, val_limit (.inl (by simp; omega))]
  · rw [if_neg h, val_start (by rw [rep_len]; simp; omega), rep_go]
theorem rep_small {k : Nat} (h : k ≤ 1000) : Small (List.replicate k (⟨5, [110], 0⟩ : Vc.Item)) := ⟨by simp; omega, by rw [rep_size]; omega⟩
theorem txt_len (t : Str) : lengthL [(⟨1, t, 0⟩ : Vc.Item)] = (t.length : Int) := by rw [lengthL_one, width_text rfl]
theorem txt_val {t : Str} (h0 : 0 < t.length) : validateL [(⟨1, t, 0⟩ : Vc.Item)] = if 1024 < t.length then 3 else 0 := by
  by_cases h : 1024 < t.length
  · rw [if_pos h, val_limit (.inr (by rw [txt_len]; omega))]
  · rw [if_neg h, val_start (by rw [txt_len]; simp; omega), valGo, if_pos (chk_notag (.inl rfl) ((formed_textb rfl).2 ⟨⟨by intro e; simp at e; subst e; simp at h0, rfl⟩, .inl rfl⟩))]
    rfl
theorem txt_small {t : Str} (h : t.length ≤ 100000) : Small [(⟨1, t, 0⟩ : Vc.Item)] := ⟨by simp, by rw [sizeL_one]; simp; omega⟩

theorem limits_law {n : Int} {slots : Bool} {w0 : World}  :
    Calls Try.prog 6 #[.int .i64 n, .bool slots] w0 fun e w' => e = .returned (.bool true) ∧ Evo w0 w' [] := by
 have hbd := lim_bd n
 refine calls_enter (n := 51) (args := [.int .i64 n, .bool slots]) Try.func6 rfl Try.ntmps6 rfl ?_
 have hV : Evo w0 w0 [] := Evo.refl _ _
 refine r_seq ?_
 refine r_region ?_
 refine r_op rfl rfl rfl (run_asg (v := .bool _) rfl (by exact rfl)) ?_
 refine r_nil ?_
 refine r_seq ?_
 refine r_region ?_
 refine r_op rfl rfl rfl (run_mv (v := .int _ _) rfl (by exact rfl)) ?_
 refine r_op rfl rfl rfl (run_cvInt rfl Try.underlying3 Try.underlying40 (by exact rfl)) ?_
 refine r_op rfl rfl rfl (run_rem rfl (by exact rfl) (by exact rfl) (by omega)) ?_
 refine r_op rfl rfl rfl (run_cvInt rfl Try.underlying40 Try.underlying3 (by exact rfl)) ?_
 refine r_op rfl rfl rfl (run_add rfl (by exact rfl) (by exact rfl) (by omega) (by omega)) ?_
 refine r_op rfl rfl rfl (run_asg (v := .int _ _) rfl (by exact rfl)) ?_
 refine r_nil ?_
 refine r_seq ?_
 refine r_region ?_
 refine r_op rfl rfl rfl (run_asg (v := .slice _ _ _) rfl (by exact rfl)) ?_
 refine r_nil ?_
 refine r_seq ?_
 refine r_seq ?_
 refine r_region ?_
 refine r_op rfl rfl rfl (run_asg (v := .int _ _) rfl (by exact rfl)) ?_
 refine r_nil ?_
 refine r_block ?_
 refine r_loop (α := Nat) [5, 6, 14, 15, 16, 17, 18, 19, 20, 21, 22, 23, 24, 25] (fun k g w => ∃ vo : Value, g 6 = .int .i64 (k : Nat) ∧ g 5 = vo ∧ OwnE w w0.heap.size 26 vo (List.replicate k (⟨5, [110], 0⟩ : Vc.Item)) ∧ (k : Int) ≤ 510 + IntKind.i64.wrap ((IntKind.u64.wrap n).tmod 5) ∧ w0.heap.size ≤ w.heap.size ∧ Evo w0 w []) (fun k => (510 + IntKind.i64.wrap ((IntKind.u64.wrap n).tmod 5)).toNat - k) 0 ?_ ?_
 ·refine ⟨_, (by first | exact rfl | exact congrArg (Value.int _) (by omega) | exact congrArg (Value.int _) (by dsimp only; omega) | exact congrArg (Value.int _) (by simp) | exact congrArg S (by simp)), rfl, (OwnE.nil _ _ _), (by first | assumption | omega | (dsimp only; omega) | (simp; done)), (by first | assumption | omega | (dsimp only; omega) | (simp; done)), hV⟩
 ·rintro k g w2 ⟨vo, hj3, hj4, hoo, hkn, hzl1, hV⟩
  have hs_w2hV := hV.size
  refine r_know (i := 6) (v := .int .i64 (k : Nat)) (by exact hj3) ?_
  refine r_know (i := 5) (v := vo) (by exact hj4) ?_
  refine r_seq ?_
  refine r_seq ?_
  refine r_region ?_
  refine r_op rfl rfl rfl (run_mv (v := .int _ _) rfl (by exact rfl)) ?_
  refine r_op rfl rfl rfl (run_mv (v := .int _ _) rfl (by exact rfl)) ?_
  refine r_op rfl rfl rfl (run_lss rfl (by exact rfl) (by exact rfl)) ?_
  refine r_op rfl rfl rfl (run_mv (v := .bool _) rfl (by exact rfl)) ?_
  refine r_g rfl (wantT (by exact rfl)) rfl (fun hg => run_mvb rfl (by exact rfl)) ?_
  refine r_op rfl rfl rfl (run_pick_and rfl (by exact rfl) (fun hq => glv (by exact rfl) (fun h => h) hq) rfl) ?_
  refine r_nil ?_
  refine r_cond (by exact rfl) (fun hc5 => ?_) (fun hc5 => ?_)
  ·skip
   refine r_skip ?_
   refine r_seq ?_
   refine r_block ?_
   refine r_region ?_
   refine r_op rfl rfl rfl (run_mv (v := vo) rfl (by exact rfl)) ?_
   refine r_op rfl rfl rfl (run_bld (pv := [(0, .int _ _), (1, S _)]) (zs := [_, _, _]) (cells := [_, _, _]) rfl ty_26 (by exact rfl) pl_26 (by exact rfl) (by exact rfl)) ?_
   refine r_append1E (u := .agg _) (y := ⟨_, _, _⟩) rfl rfl Try.underlying30 ty_26 (by exact rfl) hoo (fun _ => (by exact rfl)) (by exact rfl) (by first | exact rfl | (show _ = List.toArray [_, _, _]; first | (dsimp only; done) | exact rfl | (dsimp only; exact rfl))) ((by simp; omega)) ((by simp; omega)) (by omega) ?_
   intro q_v6 v6 w7 hEw7 hov6 hlv6
   have hs_w7 := (hEw7).size
   replace hV := evo_stepo hV hEw7 (fun g hg => .inl (by first | exact (hoo.block hg).1 | (have := hoo.block hg; omega)))
   refine r_op rfl rfl rfl (run_asg (v := v6) rfl (by exact rfl)) ?_
   refine r_nil ?_
   refine r_blk ?_
   refine r_region ?_
   refine r_op rfl rfl rfl (run_mv (v := .int _ _) rfl (by exact rfl)) ?_
   refine r_op rfl rfl rfl (run_add rfl (by exact rfl) (by exact rfl) (by omega) (by omega)) ?_
   refine r_op rfl rfl rfl (run_asg (v := .int _ _) rfl (by exact rfl)) ?_
   refine r_nil ?_
   refine r_again (k + 1) ?_ ?_ ?_
   ·first | omega | (dsimp only; omega)
   ·refine ⟨_, (by first | exact rfl | exact congrArg (Value.int _) (by omega) | exact congrArg (Value.int _) (by dsimp only; omega) | exact congrArg (Value.int _) (by simp) | exact congrArg S (by simp)), rfl, (by rw [List.replicate_succ']; exact hov6), (by first | assumption | omega | (dsimp only; omega) | (simp; done)), (by first | assumption | omega | (dsimp only; omega) | (simp; done)), hV⟩
   ·repeat (first | (with_reducible exact Agree.merge _ _ _) | (with_reducible exact Agree.refl _ _) | (with_reducible refine Agree.upd ?_ _ _ rfl) | ((with_reducible refine Agree.inner ?_ ?_); (kernel_rfl)))
  ·skip
   refine r_exit rfl ?_
   refine r_seq ?_
   refine r_region ?_
   refine r_op rfl rfl rfl (run_asg (v := .int _ _) rfl (by exact rfl)) ?_
   refine r_nil ?_
   refine r_seq ?_
   refine r_seq ?_
   refine r_region ?_
   refine r_op rfl rfl rfl (run_mvb rfl (by exact rfl)) ?_
   refine r_op rfl rfl rfl (run_not rfl (by exact rfl)) ?_
   refine r_nil ?_
   refine r_cond (by exact rfl) (fun hc8 => ?_) (fun hc8 => ?_)
   ·skip
    refine r_seq ?_
    refine r_region ?_
    refine r_op rfl rfl rfl (run_mv (v := .int _ _) rfl (by exact rfl)) ?_
    refine r_op rfl rfl rfl (run_add rfl (by exact rfl) (by exact rfl) (by omega) (by omega)) ?_
    refine r_op rfl rfl rfl (run_asg (v := .int _ _) rfl (by exact rfl)) ?_
    refine r_nil ?_
    refine r_seq ?_
    refine r_region ?_
    refine r_op rfl rfl rfl (run_asg (v := .int _ _) rfl (by exact rfl)) ?_
    refine r_nil ?_
    refine r_region ?_
    refine r_op rfl rfl rfl (run_mv (v := .int _ _) rfl (by exact rfl)) ?_
    refine r_make (len := (510 + IntKind.i64.wrap ((IntKind.u64.wrap n).tmod 5) + 512).toNat) (zs := [_]) Try.underlying23 ty_5 (by exact rfl) rfl rfl (by exact rfl) (by exact rfl) (by omega) (by omega) (by omega) (by omega) ?_
    intro b9 w10 heb9 hEw10 hfb9 hzb9
    have hs_w10 := (hEw10).size
    replace hV := evo_step0 hV hEw10
    replace hoo := hoo.evo0 hEw10
    have hrb9 := fb_bytes hfb9 (by omega)
    refine r_op rfl rfl rfl (run_cvBS rfl Try.underlying23 Try.underlying5 Try.underlying9 (by exact rfl) (by first | rfl | simp) hrb9) ?_
    refine r_op rfl rfl rfl (run_bld (pv := [(0, .int _ _), (1, S _)]) (zs := [_, _, _]) (cells := [_, _, _]) rfl ty_26 (by exact rfl) pl_26 (by exact rfl) (by exact rfl)) ?_
    refine r_bslice (pv := [(0, .agg _)]) (zs := [_, _, _]) (cs := [_, _, _]) Try.underlying30 ty_26 (by exact rfl) rfl (by exact rfl) rfl (by exact rfl) ?_
    intro b11 w12 heb11 hEw12 hbb11 hzb11
    have hs_w12 := (hEw12).size
    replace hV := evo_step0 hV hEw12
    replace hoo := hoo.evo0 hEw12
    replace hfb9 := hfb9.evo0 hEw12
    replace hrb9 := hrb9.evo0 hEw12
    have hAb11 := hbb11.at
    have hrb11 : RowE w12 (some ⟨b11, 0, none⟩) b11 0 1 ([⟨1, (List.replicate (510 + IntKind.i64.wrap ((IntKind.u64.wrap n).tmod 5) + 512).toNat (0 : UInt8)), 0⟩] : List Vc.Item) := rowLit ([⟨1, (List.replicate (510 + IntKind.i64.wrap ((IntKind.u64.wrap n).tmod 5) + 512).toNat (0 : UInt8)), 0⟩] : List Vc.Item) hbb11 rfl rfl
    refine r_op rfl rfl rfl (run_asg (v := .slice (some ⟨b11, 0, none⟩) _ _) rfl (by exact rfl)) ?_
    refine r_nil ?_
    refine r_seq ?_
    have htl : (List.replicate (510 + IntKind.i64.wrap ((IntKind.u64.wrap n).tmod 5) + 512).toNat (0 : UInt8)).length = (510 + IntKind.i64.wrap ((IntKind.u64.wrap n).tmod 5) + 512).toNat := List.length_replicate ..
    have sm : Small [(⟨1, (List.replicate (510 + IntKind.i64.wrap ((IntKind.u64.wrap n).tmod 5) + 512).toNat (0 : UInt8)), 0⟩ : Vc.Item)] := txt_small (by rw [htl]; omega)
    have vl := txt_val (t := (List.replicate (510 + IntKind.i64.wrap ((IntKind.u64.wrap n).tmod 5) + 512).toNat (0 : UInt8))) (by rw [htl]; omega); have ll := txt_len (List.replicate (510 + IntKind.i64.wrap ((IntKind.u64.wrap n).tmod 5) + 512).toNat (0 : UInt8)); rw [htl] at vl ll
    refine r_region ?_
    refine r_op rfl rfl rfl (run_asg (v := .int _ _) rfl (by exact rfl)) ?_
    refine r_nil ?_
    refine r_seq ?_
    refine r_seq ?_
    refine r_region ?_
    refine r_op rfl rfl rfl (run_mv (v := .int _ _) rfl (by exact rfl)) ?_
    refine r_op rfl rfl rfl (run_mv (v := .int _ _) rfl (by exact rfl)) ?_
    refine r_op rfl rfl rfl (run_gtr rfl (by exact rfl) (by exact rfl)) ?_
    refine r_nil ?_
    refine r_cond (by exact rfl) (fun hc13 => ?_) (fun hc13 => ?_)
    ·skip
     refine r_region ?_
     refine r_op rfl rfl rfl (run_asg (v := .int _ _) rfl (by exact rfl)) ?_
     refine r_nil ?_
     refine r_seq ?_
     refine r_region ?_
     refine r_op rfl rfl rfl (run_mv (v := .slice (some ⟨b11, 0, none⟩) _ _) rfl (by exact rfl)) ?_
     refine r_opcall rfl rfl rfl (run_callf (vs := [.slice (some ⟨b11, 0, none⟩) _ _]) rfl (by exact rfl) Try.func19 rfl (by kernel_rfl)) (validate_calls hrb11 (by assumption)) ?_
     rintro e w14 ⟨rfl, hE14⟩
     refine ⟨_, rfl, ?_⟩
     have hs_w14 := (hE14).size
     replace hV := evo_step0 hV hE14
     replace hoo := hoo.evo0 hE14
     replace hfb9 := hfb9.evo0 hE14
     replace hrb9 := hrb9.evo0 hE14
     replace hrb11 := hrb11.evo0 hE14
     refine r_op rfl rfl rfl (run_mv (v := .int _ _) rfl (by exact rfl)) ?_
     refine r_op rfl rfl rfl (run_eql rfl (by exact rfl) (by exact rfl)) ?_
     refine r_op rfl rfl rfl (run_mv (v := .bool _) rfl (by exact rfl)) ?_
     refine r_g rfl (wantT (by exact rfl)) rfl (fun hg => run_mv (v := .slice (some ⟨b11, 0, none⟩) _ _) rfl (by exact rfl)) ?_
     refine r_gcall rfl (wantT (by exact rfl)) rfl (fun hg => run_callf rfl (argcons (v := .slice (some ⟨b11, 0, none⟩) _ _) (glv (by exact rfl) (fun h => h) hg) (rfl)) Try.func25 rfl (by kernel_rfl)) (fun hg => (length_calls hrb11 (by assumption)).mono (fun e w' h => ⟨h.1, h.2⟩)) (fun w15 hE16 => ?_)
     have hs_w15 := (hE16).size
     replace hV := evo_step0 hV hE16
     replace hoo := hoo.evo0 hE16
     replace hfb9 := hfb9.evo0 hE16
     replace hrb9 := hrb9.evo0 hE16
     replace hrb11 := hrb11.evo0 hE16
     refine r_g rfl (wantT (by exact rfl)) rfl (fun hg => run_mv (v := .int _ _) rfl (by exact rfl)) ?_
     refine r_g rfl (wantT (by exact rfl)) rfl (fun hg => run_eql rfl (glv (by exact rfl) (fun h => h) hg) (glv (by exact rfl) (fun h => h) hg)) ?_
     refine r_op rfl rfl rfl (run_pick_and rfl (by exact rfl) (fun hq => glv (by exact rfl) (fun h => h) hq) rfl) ?_
     refine r_op rfl rfl rfl (run_mv (v := .bool _) rfl (by exact rfl)) ?_
     refine r_gcall rfl (wantT (by exact rfl)) rfl (fun hg => run_callf rfl (rfl) Try.func21 rfl (by kernel_rfl)) (fun hg => (known_calls ).mono (fun e w' h => ⟨h.1, h.2⟩)) (fun w17 hE18 => ?_)
     have hs_w17 := (hE18).size
     replace hV := evo_step0 hV hE18
     replace hoo := hoo.evo0 hE18
     replace hfb9 := hfb9.evo0 hE18
     replace hrb9 := hrb9.evo0 hE18
     replace hrb11 := hrb11.evo0 hE18
     refine r_op rfl rfl rfl (run_pick_and rfl (by exact rfl) (fun hq => glv (by exact rfl) (fun h => h) hq) rfl) ?_
     refine r_op rfl rfl rfl (run_asg (v := .bool _) rfl (by exact rfl)) ?_
     refine r_nil ?_
     refine r_ret (res1 (v := .bool _) rfl (by exact rfl)) ?_
     exact ⟨ret_bool (decide_eq_true ⟨⟨by first | (rw [vl, if_pos (by omega)]; done) | (rw [vl, if_neg (by omega)]; done), by rw [ll]; omega⟩, trivial⟩), hV⟩
    ·skip
     refine r_skip ?_
     refine r_seq ?_
     refine r_region ?_
     refine r_op rfl rfl rfl (run_mv (v := .slice (some ⟨b11, 0, none⟩) _ _) rfl (by exact rfl)) ?_
     refine r_opcall rfl rfl rfl (run_callf (vs := [.slice (some ⟨b11, 0, none⟩) _ _]) rfl (by exact rfl) Try.func19 rfl (by kernel_rfl)) (validate_calls hrb11 (by assumption)) ?_
     rintro e w19 ⟨rfl, hE19⟩
     refine ⟨_, rfl, ?_⟩
     have hs_w19 := (hE19).size
     replace hV := evo_step0 hV hE19
     replace hoo := hoo.evo0 hE19
     replace hfb9 := hfb9.evo0 hE19
     replace hrb9 := hrb9.evo0 hE19
     replace hrb11 := hrb11.evo0 hE19
     refine r_op rfl rfl rfl (run_mv (v := .int _ _) rfl (by exact rfl)) ?_
     refine r_op rfl rfl rfl (run_eql rfl (by exact rfl) (by exact rfl)) ?_
     refine r_op rfl rfl rfl (run_mv (v := .bool _) rfl (by exact rfl)) ?_
     refine r_g rfl (wantT (by exact rfl)) rfl (fun hg => run_mv (v := .slice (some ⟨b11, 0, none⟩) _ _) rfl (by exact rfl)) ?_
     refine r_gcall rfl (wantT (by exact rfl)) rfl (fun hg => run_callf rfl (argcons (v := .slice (some ⟨b11, 0, none⟩) _ _) (glv (by exact rfl) (fun h => h) hg) (rfl)) Try.func25 rfl (by kernel_rfl)) (fun hg => (length_calls hrb11 (by assumption)).mono (fun e w' h => ⟨h.1, h.2⟩)) (fun w20 hE21 => ?_)
     have hs_w20 := (hE21).size
     replace hV := evo_step0 hV hE21
     replace hoo := hoo.evo0 hE21
     replace hfb9 := hfb9.evo0 hE21
     replace hrb9 := hrb9.evo0 hE21
     replace hrb11 := hrb11.evo0 hE21
     refine r_g rfl (wantT (by exact rfl)) rfl (fun hg => run_mv (v := .int _ _) rfl (by exact rfl)) ?_
     refine r_g rfl (wantT (by exact rfl)) rfl (fun hg => run_eql rfl (glv (by exact rfl) (fun h => h) hg) (glv (by exact rfl) (fun h => h) hg)) ?_
     refine r_op rfl rfl rfl (run_pick_and rfl (by exact rfl) (fun hq => glv (by exact rfl) (fun h => h) hq) rfl) ?_
     refine r_op rfl rfl rfl (run_mv (v := .bool _) rfl (by exact rfl)) ?_
     refine r_gcall rfl (wantT (by exact rfl)) rfl (fun hg => run_callf rfl (rfl) Try.func21 rfl (by kernel_rfl)) (fun hg => (known_calls ).mono (fun e w' h => ⟨h.1, h.2⟩)) (fun w22 hE23 => ?_)
     have hs_w22 := (hE23).size
     replace hV := evo_step0 hV hE23
     replace hoo := hoo.evo0 hE23
     replace hfb9 := hfb9.evo0 hE23
     replace hrb9 := hrb9.evo0 hE23
     replace hrb11 := hrb11.evo0 hE23
     refine r_op rfl rfl rfl (run_pick_and rfl (by exact rfl) (fun hq => glv (by exact rfl) (fun h => h) hq) rfl) ?_
     refine r_op rfl rfl rfl (run_asg (v := .bool _) rfl (by exact rfl)) ?_
     refine r_nil ?_
     refine r_ret (res1 (v := .bool _) rfl (by exact rfl)) ?_
     exact ⟨ret_bool (decide_eq_true ⟨⟨by first | (rw [vl, if_pos (by omega)]; done) | (rw [vl, if_neg (by omega)]; done), by rw [ll]; omega⟩, trivial⟩), hV⟩
   ·skip
    refine r_skip ?_
    refine r_seq ?_
    have hsl : slots = true := by simpa using hc8
    have hk : (k : Int) = 510 + IntKind.i64.wrap ((IntKind.u64.wrap n).tmod 5) := by have h9 : ¬ ((k : Int) < 510 + IntKind.i64.wrap ((IntKind.u64.wrap n).tmod 5)) := fun h8 => hc5 ⟨h8, hsl⟩; omega
    have sm : Small (List.replicate k (⟨5, [110], 0⟩ : Vc.Item)) := rep_small (by omega)
    have vl := rep_val (k := k); have ll := rep_len k
    refine r_region ?_
    refine r_op rfl rfl rfl (run_asg (v := .int _ _) rfl (by exact rfl)) ?_
    refine r_nil ?_
    refine r_seq ?_
    refine r_seq ?_
    refine r_region ?_
    refine r_op rfl rfl rfl (run_mv (v := .int _ _) rfl (by exact rfl)) ?_
    refine r_op rfl rfl rfl (run_mv (v := .int _ _) rfl (by exact rfl)) ?_
    refine r_op rfl rfl rfl (run_gtr rfl (by exact rfl) (by exact rfl)) ?_
    refine r_nil ?_
    refine r_cond (by exact rfl) (fun hc24 => ?_) (fun hc24 => ?_)
    ·skip
     refine r_region ?_
     refine r_op rfl rfl rfl (run_asg (v := .int _ _) rfl (by exact rfl)) ?_
     refine r_nil ?_
     refine r_seq ?_
     refine r_region ?_
     refine r_op rfl rfl rfl (run_mv (v := vo) rfl (by exact rfl)) ?_
     obtain ⟨ao25, g25, cp25, hv25, hr25, hg25⟩ := hoo.rowOf
     subst hv25
     refine r_opcall rfl rfl rfl (run_callf (vs := [.slice _ _ _]) rfl (by exact rfl) Try.func19 rfl (by kernel_rfl)) (validate_calls hr25 (by assumption)) ?_
     rintro e w26 ⟨rfl, hE26⟩
     refine ⟨_, rfl, ?_⟩
     have hs_w26 := (hE26).size
     replace hV := evo_step0 hV hE26
     replace hoo := hoo.evo0 hE26
     replace hr25 := hr25.evo0 hE26
     refine r_op rfl rfl rfl (run_mv (v := .int _ _) rfl (by exact rfl)) ?_
     refine r_op rfl rfl rfl (run_eql rfl (by exact rfl) (by exact rfl)) ?_
     refine r_op rfl rfl rfl (run_mv (v := .bool _) rfl (by exact rfl)) ?_
     refine r_g rfl (wantT (by exact rfl)) rfl (fun hg => run_mv (v := .slice _ _ _) rfl (by exact rfl)) ?_
     refine r_gcall rfl (wantT (by exact rfl)) rfl (fun hg => run_callf rfl (argcons (v := .slice _ _ _) (glv (by exact rfl) (fun h => h) hg) (rfl)) Try.func25 rfl (by kernel_rfl)) (fun hg => (length_calls hr25 (by assumption)).mono (fun e w' h => ⟨h.1, h.2⟩)) (fun w27 hE28 => ?_)
     have hs_w27 := (hE28).size
     replace hV := evo_step0 hV hE28
     replace hoo := hoo.evo0 hE28
     replace hr25 := hr25.evo0 hE28
     refine r_g rfl (wantT (by exact rfl)) rfl (fun hg => run_mv (v := .int _ _) rfl (by exact rfl)) ?_
     refine r_g rfl (wantT (by exact rfl)) rfl (fun hg => run_eql rfl (glv (by exact rfl) (fun h => h) hg) (glv (by exact rfl) (fun h => h) hg)) ?_
     refine r_op rfl rfl rfl (run_pick_and rfl (by exact rfl) (fun hq => glv (by exact rfl) (fun h => h) hq) rfl) ?_
     refine r_op rfl rfl rfl (run_mv (v := .bool _) rfl (by exact rfl)) ?_
     refine r_gcall rfl (wantT (by exact rfl)) rfl (fun hg => run_callf rfl (rfl) Try.func21 rfl (by kernel_rfl)) (fun hg => (known_calls ).mono (fun e w' h => ⟨h.1, h.2⟩)) (fun w29 hE30 => ?_)
     have hs_w29 := (hE30).size
     replace hV := evo_step0 hV hE30
     replace hoo := hoo.evo0 hE30
     replace hr25 := hr25.evo0 hE30
     refine r_op rfl rfl rfl (run_pick_and rfl (by exact rfl) (fun hq => glv (by exact rfl) (fun h => h) hq) rfl) ?_
     refine r_op rfl rfl rfl (run_asg (v := .bool _) rfl (by exact rfl)) ?_
     refine r_nil ?_
     refine r_ret (res1 (v := .bool _) rfl (by exact rfl)) ?_
     exact ⟨ret_bool (decide_eq_true ⟨⟨by first | (rw [vl, if_pos (by omega)]; done) | (rw [vl, if_neg (by omega)]; done), by rw [ll]; omega⟩, trivial⟩), hV⟩
    ·skip
     refine r_skip ?_
     refine r_seq ?_
     refine r_region ?_
     refine r_op rfl rfl rfl (run_mv (v := vo) rfl (by exact rfl)) ?_
     obtain ⟨ao31, g31, cp31, hv31, hr31, hg31⟩ := hoo.rowOf
     subst hv31
     refine r_opcall rfl rfl rfl (run_callf (vs := [.slice _ _ _]) rfl (by exact rfl) Try.func19 rfl (by kernel_rfl)) (validate_calls hr31 (by assumption)) ?_
     rintro e w32 ⟨rfl, hE32⟩
     refine ⟨_, rfl, ?_⟩
     have hs_w32 := (hE32).size
     replace hV := evo_step0 hV hE32
     replace hoo := hoo.evo0 hE32
     replace hr31 := hr31.evo0 hE32
     refine r_op rfl rfl rfl (run_mv (v := .int _ _) rfl (by exact rfl)) ?_
     refine r_op rfl rfl rfl (run_eql rfl (by exact rfl) (by exact rfl)) ?_
     refine r_op rfl rfl rfl (run_mv (v := .bool _) rfl (by exact rfl)) ?_
     refine r_g rfl (wantT (by exact rfl)) rfl (fun hg => run_mv (v := .slice _ _ _) rfl (by exact rfl)) ?_
     refine r_gcall rfl (wantT (by exact rfl)) rfl (fun hg => run_callf rfl (argcons (v := .slice _ _ _) (glv (by exact rfl) (fun h => h) hg) (rfl)) Try.func25 rfl (by kernel_rfl)) (fun hg => (length_calls hr31 (by assumption)).mono (fun e w' h => ⟨h.1, h.2⟩)) (fun w33 hE34 => ?_)
     have hs_w33 := (hE34).size
     replace hV := evo_step0 hV hE34
     replace hoo := hoo.evo0 hE34
     replace hr31 := hr31.evo0 hE34
     refine r_g rfl (wantT (by exact rfl)) rfl (fun hg => run_mv (v := .int _ _) rfl (by exact rfl)) ?_
     refine r_g rfl (wantT (by exact rfl)) rfl (fun hg => run_eql rfl (glv (by exact rfl) (fun h => h) hg) (glv (by exact rfl) (fun h => h) hg)) ?_
     refine r_op rfl rfl rfl (run_pick_and rfl (by exact rfl) (fun hq => glv (by exact rfl) (fun h => h) hq) rfl) ?_
     refine r_op rfl rfl rfl (run_mv (v := .bool _) rfl (by exact rfl)) ?_
     refine r_gcall rfl (wantT (by exact rfl)) rfl (fun hg => run_callf rfl (rfl) Try.func21 rfl (by kernel_rfl)) (fun hg => (known_calls ).mono (fun e w' h => ⟨h.1, h.2⟩)) (fun w35 hE36 => ?_)
     have hs_w35 := (hE36).size
     replace hV := evo_step0 hV hE36
     replace hoo := hoo.evo0 hE36
     replace hr31 := hr31.evo0 hE36
     refine r_op rfl rfl rfl (run_pick_and rfl (by exact rfl) (fun hq => glv (by exact rfl) (fun h => h) hq) rfl) ?_
     refine r_op rfl rfl rfl (run_asg (v := .bool _) rfl (by exact rfl)) ?_
     refine r_nil ?_
     refine r_ret (res1 (v := .bool _) rfl (by exact rfl)) ?_
     exact ⟨ret_bool (decide_eq_true ⟨⟨by first | (rw [vl, if_pos (by omega)]; done) | (rw [vl, if_neg (by omega)]; done), by rw [ll]; omega⟩, trivial⟩), hV⟩

end Go.Proofs.Ytkdgoghmkmpfnaa
