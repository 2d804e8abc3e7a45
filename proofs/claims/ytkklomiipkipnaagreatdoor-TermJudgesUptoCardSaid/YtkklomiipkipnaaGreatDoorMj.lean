/-
  Library, plain laws and walks that the statements reach (joined by a program out of smaller texts).
-/
import Derived.Test.YtkklomiipkipnaaGreatDoorMi
import Derived.Test.YtkklomiipkipnaaGreatDoorMh
import Derived.Test.YtkklomiipkipnaaGreatDoorMd
import Derived.Test.YtkklomiipkipnaaGreatDoorRows
import Derived.Test.YtkklomiipkipnaaGreatDoorMb
namespace Go.Proofs.YtkklomiipkipnaaGreatDoor
open Go.RowKit Go.Vc
theorem bigx_calls {w0 : World} {aot : Option Addr} {btt offt capt : Nat} {ts : List TermL} {ao : Option Addr} {b off cap : Nat} {c : List Clas} {aol : Option Addr} {bl offl capl : Nat} {l : List Vc.Item} (ht : RowR w0 aot btt offt capt ts) (hc : RowR w0 ao b off cap c) (hl : RowE w0 aol bl offl capl l) :
    Calls Tryz.prog 12 #[.slice aot ts.length capt, .slice ao c.length cap, .slice aol l.length capl] w0 fun e w' => ∃ x, e = .returned (.bool x) ∧ True ∧ Evo w0 w' [] := (bigw_calls ht hc hl).mono fun e w' ⟨x, h1, h2⟩ => ⟨x, h1, trivial, h2⟩
theorem made_text {f : List Vc.Item} (h : fLen f ≤ 150) : ∀ x ∈ toks f, x.text.length ≤ 140737488355328 := fun x hx => by have := toks_text hx; omega
theorem made_tl {f : List Vc.Item} (h : fLen f ≤ 150) (h2 : f.length ≤ 10) : (toks f).length ≤ 160 := by have := toks_len f; omega
end Go.Proofs.YtkklomiipkipnaaGreatDoor
namespace Go.Proofs.YtkklomiipkipnaaGreatDoor
open Go.RowKit Go.Vc
set_option maxHeartbeats 2000000 in
theorem judges_law {aot : Option Addr} {btt offt capt : Nat} {ts : List TermL} {ao : Option Addr} {b off cap : Nat} {c : List Clas} {aol : Option Addr} {bl offl capl : Nat} {l : List Vc.Item} {aon : Option Addr} {bn offn capn : Nat} {nn : List Int} {aok : Option Addr} {bk offk capk : Nat} {kk : List Int} {w0 : World} (ht : RowR w0 aot btt offt capt ts) (hc : RowR w0 ao b off cap c) (hl : RowE w0 aol bl offl capl l) (hq : ∀ x ∈ l, x.text.length ≤ 140737488355328) (hzl : l.length ≤ 4398046510976) (hzt : ts.length ≤ 1048576) (hjb : ∀ x ∈ ts, JudT x) (hn : RowE w0 aon bn offn capn nn) (hkk : RowE w0 aok bk offk capk kk) :
    Calls Tryz.prog 8 #[.slice aot ts.length capt, .slice ao c.length cap, .slice aol l.length capl, .slice aon nn.length capn, .slice aok kk.length capk] w0 fun e w' => e = .returned (.bool true) ∧ Evo w0 w' [] := by
 refine calls_enter (n := 93) (args := [.slice aot ts.length capt, .slice ao c.length cap, .slice aol l.length capl, .slice aon nn.length capn, .slice aok kk.length capk]) Tryz.func8 rfl Tryz.ntmps8 rfl ?_
 have hV : Evo w0 w0 [] := Evo.refl _ _
 have ht0 := ht.keep
 have hbd_ht := ht.bd
 have hc0 := hc.keep
 have hbd_hc := hc.bd
 have hl0 := keepE hl
 have hbd_hl := hl.bd
 have hn0 := keepE hn
 have hbd_hn := hn.bd
 have hkk0 := keepE hkk
 have hbd_hkk := hkk.bd
 refine r_seq ?_
 refine r_region ?_
 refine r_op rfl rfl rfl (run_asg (v := .bool _) rfl (by exact rfl)) ?_
 refine r_nil ?_
 refine r_seq ?_
 refine r_seq ?_
 refine r_region ?_
 refine r_op rfl rfl rfl (run_mv (v := .slice _ _ _) rfl (by exact rfl)) ?_
 refine r_op rfl rfl rfl (run_mv (v := .slice _ _ _) rfl (by exact rfl)) ?_
 refine r_bslice (pv := [(0, .slice _ _ _), (1, .slice _ _ _)]) (zs := [_]) (cs := [_, _]) Tryz.underlying67 ty_25 (by exact rfl) rfl (by exact rfl) rfl (by exact rfl) ?_
 intro b1 w2 heb1 hEw2 hbb1 hzb1
 have hs_w2 := (hEw2).size
 replace hV := evo_step0 hV hEw2
 replace ht := ht0.now hV
 replace hc := hc0.now hV
 replace hl := hl0 _ hV
 replace hn := hn0 _ hV
 replace hkk := hkk0 _ hV
 have hAb1 := hbb1.at
 have hrb1 : RowR w2 (some ⟨b1, 0, none⟩) b1 0 2 ([nn, kk] : List (List Int)) := rowLitR [[_], [_]] ([nn, kk] : List (List Int)) hbb1 rfl ((RepL.one (sl_rep hn)).append (RepL.one (sl_rep hkk))) rfl
 refine r_opcall rfl rfl rfl (run_callf (vs := [.slice (some ⟨b1, 0, none⟩) _ _]) rfl (by exact rfl) Tryz.func11 rfl (by kernel_rfl)) (long_calls hrb1 (by simp only [List.flatten_cons, List.flatten_nil, List.append_nil, List.length_append]; omega)) ?_
 rintro e w3 ⟨rfl, hE3⟩
 refine ⟨_, rfl, ?_⟩
 have hs_w3 := (hE3).size
 replace hV := evo_step0 hV hE3
 replace ht := ht0.now hV
 replace hc := hc0.now hV
 replace hl := hl0 _ hV
 replace hn := hn0 _ hV
 replace hkk := hkk0 _ hV
 replace hrb1 := hrb1.evo0 hE3
 refine r_op rfl rfl rfl (run_mvb rfl (by exact rfl)) ?_
 refine r_g rfl (wantF (by exact rfl)) rfl (fun hg => run_mv (v := .slice _ _ _) rfl (by exact rfl)) ?_
 refine r_g rfl (wantF (by exact rfl)) rfl (fun hg => run_mv (v := .slice _ _ _) rfl (by exact rfl)) ?_
 refine r_g rfl (wantF (by exact rfl)) rfl (fun hg => run_mv (v := .slice _ _ _) rfl (by exact rfl)) ?_
 refine r_gcallB rfl (wantF (by exact rfl)) rfl (fun hg => run_callf rfl (argcons (v := .slice _ _ _) (glv (by exact rfl) (fun h => h) hg) (argcons (v := .slice _ _ _) (glv (by exact rfl) (fun h => h) hg) (argcons (v := .slice _ _ _) (glv (by exact rfl) (fun h => h) hg) (rfl)))) Tryz.func12 rfl (by kernel_rfl)) (fun hg => (bigx_calls ht hc hl)) ?_
 intro gx6 w4 hgx6 hE5
 have hs_w4 := (hE5).size
 replace hV := evo_step0 hV hE5
 replace ht := ht0.now hV
 replace hc := hc0.now hV
 replace hl := hl0 _ hV
 replace hn := hn0 _ hV
 replace hkk := hkk0 _ hV
 replace hrb1 := hrb1.evo0 hE5
 refine r_op rfl rfl rfl (run_pick_or rfl (by exact rfl) rfl (fun hq => glv (by exact rfl) (fun h => h) hq)) ?_
 refine r_nil ?_
 refine r_cond (by exact rfl) (fun hc7 => ?_) (fun hc7 => ?_)
 ·skip
  refine r_seq ?_
  refine r_region ?_
  refine r_opcall rfl rfl rfl (run_callf (vs := []) rfl (by exact rfl) Tryz.func13 rfl (by kernel_rfl)) known_calls ?_
  rintro e w8 ⟨rfl, hE8⟩
  refine ⟨_, rfl, ?_⟩
  have hs_w8 := (hE8).size
  replace hV := evo_step0 hV hE8
  replace ht := ht0.now hV
  replace hc := hc0.now hV
  replace hl := hl0 _ hV
  replace hn := hn0 _ hV
  replace hkk := hkk0 _ hV
  replace hrb1 := hrb1.evo0 hE8
  refine r_op rfl rfl rfl (run_asg (v := .bool _) rfl (by exact rfl)) ?_
  refine r_nil ?_
  refine r_ret (res1 (v := .bool _) rfl (by exact rfl)) ?_
  exact ⟨rfl, hV⟩
 ·skip
  refine r_skip ?_
  refine r_seq ?_
  refine r_region ?_
  refine r_op rfl rfl rfl (run_mv (v := .slice _ _ _) rfl (by exact rfl)) ?_
  refine r_opcall rfl rfl rfl (run_callf (vs := [.slice _ _ _]) rfl (by exact rfl) Tryz.func14 rfl (by kernel_rfl)) (scene_calls hn) ?_
  rintro e w9 ⟨vc9, vt9, vk9, cl9, ts9, fi9, mc9, rfl, zMC9, zMT9, zF9, hE9, zC9, zT9, zK9⟩
  refine ⟨_, rfl, ?_⟩
  have hs_w9 := (hE9).size
  replace hV := evo_step0 hV hE9
  replace ht := ht0.now hV
  replace hc := hc0.now hV
  replace hl := hl0 _ hV
  replace hn := hn0 _ hV
  replace hkk := hkk0 _ hV
  replace hrb1 := hrb1.evo0 hE9
  have hMt := made_text zF9.2.2; have hMl := made_tl zF9.2.2 zF9.2.1; have hMn := zMT9.2
  refine r_op rfl rfl rfl (run_mv (v := .tuple _) rfl (by exact rfl)) ?_
  refine r_op rfl rfl rfl (run_extract (v := vc9) rfl (by exact rfl) (by exact rfl)) ?_
  refine r_op rfl rfl rfl (run_extract (v := vt9) rfl (by exact rfl) (by exact rfl)) ?_
  refine r_op rfl rfl rfl (run_extract (v := vk9) rfl (by exact rfl) (by exact rfl)) ?_
  refine r_op rfl rfl rfl (run_asg (v := vc9) rfl (by exact rfl)) ?_
  refine r_op rfl rfl rfl (run_asg (v := vt9) rfl (by exact rfl)) ?_
  refine r_op rfl rfl rfl (run_asg (v := vk9) rfl (by exact rfl)) ?_
  refine r_nil ?_
  refine r_seq ?_
  refine r_region ?_
  refine r_op rfl rfl rfl (run_mv (v := .slice _ _ _) rfl (by exact rfl)) ?_
  refine r_opcall rfl rfl rfl (run_callf (vs := [.slice _ _ _]) rfl (by exact rfl) Tryz.func14 rfl (by kernel_rfl)) (scene_calls hkk) ?_
  rintro e w10 ⟨vc10, vt10, vk10, cl10, ts10, fi10, mc10, rfl, zMC10, zMT10, zF10, hE10, zC10, zT10, zK10⟩
  refine ⟨_, rfl, ?_⟩
  have hs_w10 := (hE10).size
  replace hV := evo_step0 hV hE10
  replace ht := ht0.now hV
  replace hc := hc0.now hV
  replace hl := hl0 _ hV
  replace hn := hn0 _ hV
  replace hkk := hkk0 _ hV
  replace hrb1 := hrb1.evo0 hE10
  replace zC9 := zC9.evo0 hE10
  replace zT9 := zT9.evo0 hE10
  replace zK9 := zK9.evo0 hE10
  have hMtb := made_text zF10.2.2; have hMlb := made_tl zF10.2.2 zF10.2.1; have hMnb := zMT10.2
  refine r_op rfl rfl rfl (run_mv (v := .tuple _) rfl (by exact rfl)) ?_
  refine r_op rfl rfl rfl (run_extract (v := vc10) rfl (by exact rfl) (by exact rfl)) ?_
  refine r_op rfl rfl rfl (run_extract (v := vt10) rfl (by exact rfl) (by exact rfl)) ?_
  refine r_op rfl rfl rfl (run_extract (v := vk10) rfl (by exact rfl) (by exact rfl)) ?_
  refine r_op rfl rfl rfl (run_asg (v := vc10) rfl (by exact rfl)) ?_
  refine r_op rfl rfl rfl (run_asg (v := vt10) rfl (by exact rfl)) ?_
  refine r_op rfl rfl rfl (run_asg (v := vk10) rfl (by exact rfl)) ?_
  refine r_nil ?_
  refine r_seq ?_
  obtain ⟨ao11, g11, cp11, hv11, hr11⟩ := zC9.rowOf
  subst hv11
  have hbd_hr11 := hr11.bd
  obtain ⟨ao12, g12, cp12, hv12, hr12⟩ := zT9.rowOf
  subst hv12
  have hbd_hr12 := hr12.bd
  obtain ⟨ao13, g13, cp13, hv13, hr13, hg13⟩ := zK9.rowOf
  subst hv13
  obtain ⟨ao14, g14, cp14, hv14, hr14, hg14⟩ := zK10.rowOf
  subst hv14
  have hjm := fun x hx => (zMT9.1 x hx).jud
  refine r_region ?_
  refine r_op rfl rfl rfl (run_mv (v := .slice _ _ _) rfl (by exact rfl)) ?_
  refine r_op rfl rfl rfl (run_mv (v := .slice _ _ _) rfl (by exact rfl)) ?_
  refine r_op rfl rfl rfl (run_mv (v := .slice _ _ _) rfl (by exact rfl)) ?_
  refine r_op rfl rfl rfl (run_mv (v := .slice _ _ _) rfl (by exact rfl)) ?_
  refine r_opcall rfl rfl rfl (run_callf (vs := [.slice _ _ _, .slice _ _ _, .slice _ _ _, .slice _ _ _]) rfl (by exact rfl) Tryz.func24 rfl (by kernel_rfl)) (missing_calls ht hc hl hq hzl (by omega) hr13 hMt (by omega)) ?_
  rintro e w15 ⟨vM15, rfl, hE15, hoM15⟩
  refine ⟨_, rfl, ?_⟩
  have hs_w15 := (hE15).size
  replace hV := evo_step0 hV hE15
  replace ht := ht0.now hV
  replace hc := hc0.now hV
  replace hl := hl0 _ hV
  replace hn := hn0 _ hV
  replace hkk := hkk0 _ hV
  replace hrb1 := hrb1.evo0 hE15
  replace zC9 := zC9.evo0 hE15
  replace zT9 := zT9.evo0 hE15
  replace zK9 := zK9.evo0 hE15
  replace zC10 := zC10.evo0 hE15
  replace zT10 := zT10.evo0 hE15
  replace zK10 := zK10.evo0 hE15
  replace hr11 := hr11.evo0 hE15
  replace hr12 := hr12.evo0 hE15
  replace hr13 := hr13.evo0 hE15
  replace hr14 := hr14.evo0 hE15
  refine r_op rfl rfl rfl (run_mv (v := .slice _ _ _) rfl (by exact rfl)) ?_
  refine r_op rfl rfl rfl (run_mv (v := .slice _ _ _) rfl (by exact rfl)) ?_
  refine r_op rfl rfl rfl (run_mv (v := .slice _ _ _) rfl (by exact rfl)) ?_
  refine r_op rfl rfl rfl (run_mv (v := .slice _ _ _) rfl (by exact rfl)) ?_
  refine r_opcall rfl rfl rfl (run_callf (vs := [.slice _ _ _, .slice _ _ _, .slice _ _ _, .slice _ _ _]) rfl (by exact rfl) Tryz.func26 rfl (by kernel_rfl)) (rmissing_calls ht hc hl hq hzl (by omega) hr13 hMt (by omega) hjb) ?_
  rintro e w16 ⟨vM16, rfl, hE16, hoM16⟩
  refine ⟨_, rfl, ?_⟩
  have hs_w16 := (hE16).size
  replace hV := evo_step0 hV hE16
  replace ht := ht0.now hV
  replace hc := hc0.now hV
  replace hl := hl0 _ hV
  replace hn := hn0 _ hV
  replace hkk := hkk0 _ hV
  replace hrb1 := hrb1.evo0 hE16
  replace zC9 := zC9.evo0 hE16
  replace zT9 := zT9.evo0 hE16
  replace zK9 := zK9.evo0 hE16
  replace zC10 := zC10.evo0 hE16
  replace zT10 := zT10.evo0 hE16
  replace zK10 := zK10.evo0 hE16
  replace hr11 := hr11.evo0 hE16
  replace hr12 := hr12.evo0 hE16
  replace hr13 := hr13.evo0 hE16
  replace hr14 := hr14.evo0 hE16
  replace hoM15 := hoM15.evo0 hE16
  obtain ⟨ao17, g17, cp17, hv17, hr17, hg17⟩ := hoM15.rowOf
  subst hv17
  obtain ⟨ao18, g18, cp18, hv18, hr18, hg18⟩ := hoM16.rowOf
  subst hv18
  refine r_opcall rfl rfl rfl (run_callf (vs := [.slice _ _ _, .slice _ _ _]) rfl (by exact rfl) Tryz.func25 rfl (by kernel_rfl)) (sameints_calls hr17 hr18) ?_
  rintro e w19 ⟨rfl, hE19⟩
  refine ⟨_, rfl, ?_⟩
  have hs_w19 := (hE19).size
  replace hV := evo_step0 hV hE19
  replace ht := ht0.now hV
  replace hc := hc0.now hV
  replace hl := hl0 _ hV
  replace hn := hn0 _ hV
  replace hkk := hkk0 _ hV
  replace hrb1 := hrb1.evo0 hE19
  replace zC9 := zC9.evo0 hE19
  replace zT9 := zT9.evo0 hE19
  replace zK9 := zK9.evo0 hE19
  replace zC10 := zC10.evo0 hE19
  replace zT10 := zT10.evo0 hE19
  replace zK10 := zK10.evo0 hE19
  replace hr11 := hr11.evo0 hE19
  replace hr12 := hr12.evo0 hE19
  replace hr13 := hr13.evo0 hE19
  replace hr14 := hr14.evo0 hE19
  replace hoM15 := hoM15.evo0 hE19
  replace hoM16 := hoM16.evo0 hE19
  replace hr17 := hr17.evo0 hE19
  replace hr18 := hr18.evo0 hE19
  refine r_knowL (i := 50) (v := .bool true) (congrArg Value.bool (decide_eq_true rfl)) ?_
  refine r_op rfl rfl rfl (run_mvb rfl (by exact rfl)) ?_
  refine r_gyes rfl (wantT (by exact rfl)) (by exact rfl) ?_
  refine r_op rfl rfl rfl (run_mv (v := .slice _ _ _) rfl (by exact rfl)) ?_
  refine r_gyes rfl (wantT (by exact rfl)) (by exact rfl) ?_
  refine r_op rfl rfl rfl (run_mv (v := .slice _ _ _) rfl (by exact rfl)) ?_
  refine r_gyes rfl (wantT (by exact rfl)) (by exact rfl) ?_
  refine r_op rfl rfl rfl (run_mv (v := .slice _ _ _) rfl (by exact rfl)) ?_
  refine r_gyes rfl (wantT (by exact rfl)) (by exact rfl) ?_
  refine r_op rfl rfl rfl (run_mv (v := .slice _ _ _) rfl (by exact rfl)) ?_
  refine r_gyes rfl (wantT (by exact rfl)) (by exact rfl) ?_
  refine r_opcall rfl rfl rfl (run_callf (vs := [.slice _ _ _, .slice _ _ _, .slice _ _ _, .slice _ _ _]) rfl (by exact rfl) Tryz.func24 rfl (by kernel_rfl)) (missing_calls hr12 hr11 hr13 hMt (by omega) (by omega) hr14 hMtb (by omega)) ?_
  rintro e w20 ⟨vM20, rfl, hE20, hoM20⟩
  refine ⟨_, rfl, ?_⟩
  have hs_w20 := (hE20).size
  replace hV := evo_step0 hV hE20
  replace ht := ht0.now hV
  replace hc := hc0.now hV
  replace hl := hl0 _ hV
  replace hn := hn0 _ hV
  replace hkk := hkk0 _ hV
  replace hrb1 := hrb1.evo0 hE20
  replace zC9 := zC9.evo0 hE20
  replace zT9 := zT9.evo0 hE20
  replace zK9 := zK9.evo0 hE20
  replace zC10 := zC10.evo0 hE20
  replace zT10 := zT10.evo0 hE20
  replace zK10 := zK10.evo0 hE20
  replace hr11 := hr11.evo0 hE20
  replace hr12 := hr12.evo0 hE20
  replace hr13 := hr13.evo0 hE20
  replace hr14 := hr14.evo0 hE20
  replace hoM15 := hoM15.evo0 hE20
  replace hoM16 := hoM16.evo0 hE20
  replace hr17 := hr17.evo0 hE20
  replace hr18 := hr18.evo0 hE20
  refine r_gyes rfl (wantT (by exact rfl)) (by exact rfl) ?_
  refine r_op rfl rfl rfl (run_mv (v := .slice _ _ _) rfl (by exact rfl)) ?_
  refine r_gyes rfl (wantT (by exact rfl)) (by exact rfl) ?_
  refine r_op rfl rfl rfl (run_mv (v := .slice _ _ _) rfl (by exact rfl)) ?_
  refine r_gyes rfl (wantT (by exact rfl)) (by exact rfl) ?_
  refine r_op rfl rfl rfl (run_mv (v := .slice _ _ _) rfl (by exact rfl)) ?_
  refine r_gyes rfl (wantT (by exact rfl)) (by exact rfl) ?_
  refine r_op rfl rfl rfl (run_mv (v := .slice _ _ _) rfl (by exact rfl)) ?_
  refine r_gyes rfl (wantT (by exact rfl)) (by exact rfl) ?_
  refine r_opcall rfl rfl rfl (run_callf (vs := [.slice _ _ _, .slice _ _ _, .slice _ _ _, .slice _ _ _]) rfl (by exact rfl) Tryz.func26 rfl (by kernel_rfl)) (rmissing_calls hr12 hr11 hr13 hMt (by omega) (by omega) hr14 hMtb (by omega) hjm) ?_
  rintro e w21 ⟨vM21, rfl, hE21, hoM21⟩
  refine ⟨_, rfl, ?_⟩
  have hs_w21 := (hE21).size
  replace hV := evo_step0 hV hE21
  replace ht := ht0.now hV
  replace hc := hc0.now hV
  replace hl := hl0 _ hV
  replace hn := hn0 _ hV
  replace hkk := hkk0 _ hV
  replace hrb1 := hrb1.evo0 hE21
  replace zC9 := zC9.evo0 hE21
  replace zT9 := zT9.evo0 hE21
  replace zK9 := zK9.evo0 hE21
  replace zC10 := zC10.evo0 hE21
  replace zT10 := zT10.evo0 hE21
  replace zK10 := zK10.evo0 hE21
  replace hr11 := hr11.evo0 hE21
  replace hr12 := hr12.evo0 hE21
  replace hr13 := hr13.evo0 hE21
  replace hr14 := hr14.evo0 hE21
  replace hoM15 := hoM15.evo0 hE21
  replace hoM16 := hoM16.evo0 hE21
  replace hr17 := hr17.evo0 hE21
  replace hr18 := hr18.evo0 hE21
  replace hoM20 := hoM20.evo0 hE21
  refine r_gyes rfl (wantT (by exact rfl)) (by exact rfl) ?_
  obtain ⟨ao22, g22, cp22, hv22, hr22, hg22⟩ := hoM20.rowOf
  subst hv22
  obtain ⟨ao23, g23, cp23, hv23, hr23, hg23⟩ := hoM21.rowOf
  subst hv23
  refine r_opcall rfl rfl rfl (run_callf (vs := [.slice _ _ _, .slice _ _ _]) rfl (by exact rfl) Tryz.func25 rfl (by kernel_rfl)) (sameints_calls hr22 hr23) ?_
  rintro e w24 ⟨rfl, hE24⟩
  refine ⟨_, rfl, ?_⟩
  have hs_w24 := (hE24).size
  replace hV := evo_step0 hV hE24
  replace ht := ht0.now hV
  replace hc := hc0.now hV
  replace hl := hl0 _ hV
  replace hn := hn0 _ hV
  replace hkk := hkk0 _ hV
  replace hrb1 := hrb1.evo0 hE24
  replace zC9 := zC9.evo0 hE24
  replace zT9 := zT9.evo0 hE24
  replace zK9 := zK9.evo0 hE24
  replace zC10 := zC10.evo0 hE24
  replace zT10 := zT10.evo0 hE24
  replace zK10 := zK10.evo0 hE24
  replace hr11 := hr11.evo0 hE24
  replace hr12 := hr12.evo0 hE24
  replace hr13 := hr13.evo0 hE24
  replace hr14 := hr14.evo0 hE24
  replace hoM15 := hoM15.evo0 hE24
  replace hoM16 := hoM16.evo0 hE24
  replace hr17 := hr17.evo0 hE24
  replace hr18 := hr18.evo0 hE24
  replace hoM20 := hoM20.evo0 hE24
  replace hoM21 := hoM21.evo0 hE24
  replace hr22 := hr22.evo0 hE24
  replace hr23 := hr23.evo0 hE24
  refine r_knowL (i := 62) (v := .bool true) (congrArg Value.bool (decide_eq_true rfl)) ?_
  refine r_op rfl rfl rfl (run_pick_andB rfl (by exact rfl) (fun _ => (by exact rfl)) rfl) ?_
  refine r_op rfl rfl rfl (run_mv (v := .bool _) rfl (by exact rfl)) ?_
  refine r_gyes rfl (wantT (by exact rfl)) (by exact ⟨rfl, rfl⟩) ?_
  refine r_op rfl rfl rfl (run_mv (v := .slice _ _ _) rfl (by exact rfl)) ?_
  refine r_gyes rfl (wantT (by exact rfl)) (by exact ⟨rfl, rfl⟩) ?_
  refine r_op rfl rfl rfl (run_mv (v := .slice _ _ _) rfl (by exact rfl)) ?_
  refine r_gyes rfl (wantT (by exact rfl)) (by exact ⟨rfl, rfl⟩) ?_
  refine r_op rfl rfl rfl (run_mv (v := .slice _ _ _) rfl (by exact rfl)) ?_
  refine r_gyes rfl (wantT (by exact rfl)) (by exact ⟨rfl, rfl⟩) ?_
  refine r_op rfl rfl rfl (run_mv (v := .slice _ _ _) rfl (by exact rfl)) ?_
  refine r_gyes rfl (wantT (by exact rfl)) (by exact ⟨rfl, rfl⟩) ?_
  refine r_opcall rfl rfl rfl (run_callf (vs := [.slice _ _ _, .slice _ _ _, .slice _ _ _, .slice _ _ _]) rfl (by exact rfl) Tryz.func28 rfl (by kernel_rfl)) (wrong_calls ht hc hl hq hzl hzt hr13 hMt (by omega) hjb) ?_
  rintro e w25 ⟨vM25, rfl, hE25, hoM25⟩
  refine ⟨_, rfl, ?_⟩
  have hs_w25 := (hE25).size
  replace hV := evo_step0 hV hE25
  replace ht := ht0.now hV
  replace hc := hc0.now hV
  replace hl := hl0 _ hV
  replace hn := hn0 _ hV
  replace hkk := hkk0 _ hV
  replace hrb1 := hrb1.evo0 hE25
  replace zC9 := zC9.evo0 hE25
  replace zT9 := zT9.evo0 hE25
  replace zK9 := zK9.evo0 hE25
  replace zC10 := zC10.evo0 hE25
  replace zT10 := zT10.evo0 hE25
  replace zK10 := zK10.evo0 hE25
  replace hr11 := hr11.evo0 hE25
  replace hr12 := hr12.evo0 hE25
  replace hr13 := hr13.evo0 hE25
  replace hr14 := hr14.evo0 hE25
  replace hoM15 := hoM15.evo0 hE25
  replace hoM16 := hoM16.evo0 hE25
  replace hr17 := hr17.evo0 hE25
  replace hr18 := hr18.evo0 hE25
  replace hoM20 := hoM20.evo0 hE25
  replace hoM21 := hoM21.evo0 hE25
  replace hr22 := hr22.evo0 hE25
  replace hr23 := hr23.evo0 hE25
  refine r_gyes rfl (wantT (by exact rfl)) (by exact ⟨rfl, rfl⟩) ?_
  refine r_op rfl rfl rfl (run_mv (v := .slice _ _ _) rfl (by exact rfl)) ?_
  refine r_gyes rfl (wantT (by exact rfl)) (by exact ⟨rfl, rfl⟩) ?_
  refine r_op rfl rfl rfl (run_mv (v := .slice _ _ _) rfl (by exact rfl)) ?_
  refine r_gyes rfl (wantT (by exact rfl)) (by exact ⟨rfl, rfl⟩) ?_
  refine r_op rfl rfl rfl (run_mv (v := .slice _ _ _) rfl (by exact rfl)) ?_
  refine r_gyes rfl (wantT (by exact rfl)) (by exact ⟨rfl, rfl⟩) ?_
  refine r_op rfl rfl rfl (run_mv (v := .slice _ _ _) rfl (by exact rfl)) ?_
  refine r_gyes rfl (wantT (by exact rfl)) (by exact ⟨rfl, rfl⟩) ?_
  refine r_opcall rfl rfl rfl (run_callf (vs := [.slice _ _ _, .slice _ _ _, .slice _ _ _, .slice _ _ _]) rfl (by exact rfl) Tryz.func29 rfl (by kernel_rfl)) (rwrong_calls ht hc hl hq hzl hzt hr13 hMt (by omega) hjb) ?_
  rintro e w26 ⟨vM26, rfl, hE26, hoM26⟩
  refine ⟨_, rfl, ?_⟩
  have hs_w26 := (hE26).size
  replace hV := evo_step0 hV hE26
  replace ht := ht0.now hV
  replace hc := hc0.now hV
  replace hl := hl0 _ hV
  replace hn := hn0 _ hV
  replace hkk := hkk0 _ hV
  replace hrb1 := hrb1.evo0 hE26
  replace zC9 := zC9.evo0 hE26
  replace zT9 := zT9.evo0 hE26
  replace zK9 := zK9.evo0 hE26
  replace zC10 := zC10.evo0 hE26
  replace zT10 := zT10.evo0 hE26
  replace zK10 := zK10.evo0 hE26
  replace hr11 := hr11.evo0 hE26
  replace hr12 := hr12.evo0 hE26
  replace hr13 := hr13.evo0 hE26
  replace hr14 := hr14.evo0 hE26
  replace hoM15 := hoM15.evo0 hE26
  replace hoM16 := hoM16.evo0 hE26
  replace hr17 := hr17.evo0 hE26
  replace hr18 := hr18.evo0 hE26
  replace hoM20 := hoM20.evo0 hE26
  replace hoM21 := hoM21.evo0 hE26
  replace hr22 := hr22.evo0 hE26
  replace hr23 := hr23.evo0 hE26
  replace hoM25 := hoM25.evo0 hE26
  refine r_gyes rfl (wantT (by exact rfl)) (by exact ⟨rfl, rfl⟩) ?_
  obtain ⟨ao27, g27, cp27, hv27, hr27, hg27⟩ := hoM25.rowOf
  subst hv27
  obtain ⟨ao28, g28, cp28, hv28, hr28, hg28⟩ := hoM26.rowOf
  subst hv28
  refine r_opcall rfl rfl rfl (run_callf (vs := [.slice _ _ _, .slice _ _ _]) rfl (by exact rfl) Tryz.func27 rfl (by kernel_rfl)) (sametexts_calls hr27 hr28) ?_
  rintro e w29 ⟨rfl, hE29⟩
  refine ⟨_, rfl, ?_⟩
  have hs_w29 := (hE29).size
  replace hV := evo_step0 hV hE29
  replace ht := ht0.now hV
  replace hc := hc0.now hV
  replace hl := hl0 _ hV
  replace hn := hn0 _ hV
  replace hkk := hkk0 _ hV
  replace hrb1 := hrb1.evo0 hE29
  replace zC9 := zC9.evo0 hE29
  replace zT9 := zT9.evo0 hE29
  replace zK9 := zK9.evo0 hE29
  replace zC10 := zC10.evo0 hE29
  replace zT10 := zT10.evo0 hE29
  replace zK10 := zK10.evo0 hE29
  replace hr11 := hr11.evo0 hE29
  replace hr12 := hr12.evo0 hE29
  replace hr13 := hr13.evo0 hE29
  replace hr14 := hr14.evo0 hE29
  replace hoM15 := hoM15.evo0 hE29
  replace hoM16 := hoM16.evo0 hE29
  replace hr17 := hr17.evo0 hE29
  replace hr18 := hr18.evo0 hE29
  replace hoM20 := hoM20.evo0 hE29
  replace hoM21 := hoM21.evo0 hE29
  replace hr22 := hr22.evo0 hE29
  replace hr23 := hr23.evo0 hE29
  replace hoM25 := hoM25.evo0 hE29
  replace hoM26 := hoM26.evo0 hE29
  replace hr27 := hr27.evo0 hE29
  replace hr28 := hr28.evo0 hE29
  refine r_knowL (i := 75) (v := .bool true) (congrArg Value.bool (decide_eq_true rfl)) ?_
  refine r_op rfl rfl rfl (run_pick_andB rfl (by exact rfl) (fun _ => (by exact rfl)) rfl) ?_
  refine r_op rfl rfl rfl (run_mv (v := .bool _) rfl (by exact rfl)) ?_
  refine r_gyes rfl (wantT (by exact rfl)) (by exact ⟨⟨rfl, rfl⟩, rfl⟩) ?_
  refine r_op rfl rfl rfl (run_mv (v := .slice _ _ _) rfl (by exact rfl)) ?_
  refine r_gyes rfl (wantT (by exact rfl)) (by exact ⟨⟨rfl, rfl⟩, rfl⟩) ?_
  refine r_op rfl rfl rfl (run_mv (v := .slice _ _ _) rfl (by exact rfl)) ?_
  refine r_gyes rfl (wantT (by exact rfl)) (by exact ⟨⟨rfl, rfl⟩, rfl⟩) ?_
  refine r_op rfl rfl rfl (run_mv (v := .slice _ _ _) rfl (by exact rfl)) ?_
  refine r_gyes rfl (wantT (by exact rfl)) (by exact ⟨⟨rfl, rfl⟩, rfl⟩) ?_
  refine r_op rfl rfl rfl (run_mv (v := .slice _ _ _) rfl (by exact rfl)) ?_
  refine r_gyes rfl (wantT (by exact rfl)) (by exact ⟨⟨rfl, rfl⟩, rfl⟩) ?_
  refine r_opcall rfl rfl rfl (run_callf (vs := [.slice _ _ _, .slice _ _ _, .slice _ _ _, .slice _ _ _]) rfl (by exact rfl) Tryz.func28 rfl (by kernel_rfl)) (wrong_calls hr12 hr11 hr13 hMt (by omega) (by omega) hr14 hMtb (by omega) hjm) ?_
  rintro e w30 ⟨vM30, rfl, hE30, hoM30⟩
  refine ⟨_, rfl, ?_⟩
  have hs_w30 := (hE30).size
  replace hV := evo_step0 hV hE30
  replace ht := ht0.now hV
  replace hc := hc0.now hV
  replace hl := hl0 _ hV
  replace hn := hn0 _ hV
  replace hkk := hkk0 _ hV
  replace hrb1 := hrb1.evo0 hE30
  replace zC9 := zC9.evo0 hE30
  replace zT9 := zT9.evo0 hE30
  replace zK9 := zK9.evo0 hE30
  replace zC10 := zC10.evo0 hE30
  replace zT10 := zT10.evo0 hE30
  replace zK10 := zK10.evo0 hE30
  replace hr11 := hr11.evo0 hE30
  replace hr12 := hr12.evo0 hE30
  replace hr13 := hr13.evo0 hE30
  replace hr14 := hr14.evo0 hE30
  replace hoM15 := hoM15.evo0 hE30
  replace hoM16 := hoM16.evo0 hE30
  replace hr17 := hr17.evo0 hE30
  replace hr18 := hr18.evo0 hE30
  replace hoM20 := hoM20.evo0 hE30
  replace hoM21 := hoM21.evo0 hE30
  replace hr22 := hr22.evo0 hE30
  replace hr23 := hr23.evo0 hE30
  replace hoM25 := hoM25.evo0 hE30
  replace hoM26 := hoM26.evo0 hE30
  replace hr27 := hr27.evo0 hE30
  replace hr28 := hr28.evo0 hE30
  refine r_gyes rfl (wantT (by exact rfl)) (by exact ⟨⟨rfl, rfl⟩, rfl⟩) ?_
  refine r_op rfl rfl rfl (run_mv (v := .slice _ _ _) rfl (by exact rfl)) ?_
  refine r_gyes rfl (wantT (by exact rfl)) (by exact ⟨⟨rfl, rfl⟩, rfl⟩) ?_
  refine r_op rfl rfl rfl (run_mv (v := .slice _ _ _) rfl (by exact rfl)) ?_
  refine r_gyes rfl (wantT (by exact rfl)) (by exact ⟨⟨rfl, rfl⟩, rfl⟩) ?_
  refine r_op rfl rfl rfl (run_mv (v := .slice _ _ _) rfl (by exact rfl)) ?_
  refine r_gyes rfl (wantT (by exact rfl)) (by exact ⟨⟨rfl, rfl⟩, rfl⟩) ?_
  refine r_op rfl rfl rfl (run_mv (v := .slice _ _ _) rfl (by exact rfl)) ?_
  refine r_gyes rfl (wantT (by exact rfl)) (by exact ⟨⟨rfl, rfl⟩, rfl⟩) ?_
  refine r_opcall rfl rfl rfl (run_callf (vs := [.slice _ _ _, .slice _ _ _, .slice _ _ _, .slice _ _ _]) rfl (by exact rfl) Tryz.func29 rfl (by kernel_rfl)) (rwrong_calls hr12 hr11 hr13 hMt (by omega) (by omega) hr14 hMtb (by omega) hjm) ?_
  rintro e w31 ⟨vM31, rfl, hE31, hoM31⟩
  refine ⟨_, rfl, ?_⟩
  have hs_w31 := (hE31).size
  replace hV := evo_step0 hV hE31
  replace ht := ht0.now hV
  replace hc := hc0.now hV
  replace hl := hl0 _ hV
  replace hn := hn0 _ hV
  replace hkk := hkk0 _ hV
  replace hrb1 := hrb1.evo0 hE31
  replace zC9 := zC9.evo0 hE31
  replace zT9 := zT9.evo0 hE31
  replace zK9 := zK9.evo0 hE31
  replace zC10 := zC10.evo0 hE31
  replace zT10 := zT10.evo0 hE31
  replace zK10 := zK10.evo0 hE31
  replace hr11 := hr11.evo0 hE31
  replace hr12 := hr12.evo0 hE31
  replace hr13 := hr13.evo0 hE31
  replace hr14 := hr14.evo0 hE31
  replace hoM15 := hoM15.evo0 hE31
  replace hoM16 := hoM16.evo0 hE31
  replace hr17 := hr17.evo0 hE31
  replace hr18 := hr18.evo0 hE31
  replace hoM20 := hoM20.evo0 hE31
  replace hoM21 := hoM21.evo0 hE31
  replace hr22 := hr22.evo0 hE31
  replace hr23 := hr23.evo0 hE31
  replace hoM25 := hoM25.evo0 hE31
  replace hoM26 := hoM26.evo0 hE31
  replace hr27 := hr27.evo0 hE31
  replace hr28 := hr28.evo0 hE31
  replace hoM30 := hoM30.evo0 hE31
  refine r_gyes rfl (wantT (by exact rfl)) (by exact ⟨⟨rfl, rfl⟩, rfl⟩) ?_
  obtain ⟨ao32, g32, cp32, hv32, hr32, hg32⟩ := hoM30.rowOf
  subst hv32
  obtain ⟨ao33, g33, cp33, hv33, hr33, hg33⟩ := hoM31.rowOf
  subst hv33
  refine r_opcall rfl rfl rfl (run_callf (vs := [.slice _ _ _, .slice _ _ _]) rfl (by exact rfl) Tryz.func27 rfl (by kernel_rfl)) (sametexts_calls hr32 hr33) ?_
  rintro e w34 ⟨rfl, hE34⟩
  refine ⟨_, rfl, ?_⟩
  have hs_w34 := (hE34).size
  replace hV := evo_step0 hV hE34
  replace ht := ht0.now hV
  replace hc := hc0.now hV
  replace hl := hl0 _ hV
  replace hn := hn0 _ hV
  replace hkk := hkk0 _ hV
  replace hrb1 := hrb1.evo0 hE34
  replace zC9 := zC9.evo0 hE34
  replace zT9 := zT9.evo0 hE34
  replace zK9 := zK9.evo0 hE34
  replace zC10 := zC10.evo0 hE34
  replace zT10 := zT10.evo0 hE34
  replace zK10 := zK10.evo0 hE34
  replace hr11 := hr11.evo0 hE34
  replace hr12 := hr12.evo0 hE34
  replace hr13 := hr13.evo0 hE34
  replace hr14 := hr14.evo0 hE34
  replace hoM15 := hoM15.evo0 hE34
  replace hoM16 := hoM16.evo0 hE34
  replace hr17 := hr17.evo0 hE34
  replace hr18 := hr18.evo0 hE34
  replace hoM20 := hoM20.evo0 hE34
  replace hoM21 := hoM21.evo0 hE34
  replace hr22 := hr22.evo0 hE34
  replace hr23 := hr23.evo0 hE34
  replace hoM25 := hoM25.evo0 hE34
  replace hoM26 := hoM26.evo0 hE34
  replace hr27 := hr27.evo0 hE34
  replace hr28 := hr28.evo0 hE34
  replace hoM30 := hoM30.evo0 hE34
  replace hoM31 := hoM31.evo0 hE34
  replace hr32 := hr32.evo0 hE34
  replace hr33 := hr33.evo0 hE34
  refine r_knowL (i := 88) (v := .bool true) (congrArg Value.bool (decide_eq_true rfl)) ?_
  refine r_op rfl rfl rfl (run_pick_andB rfl (by exact rfl) (fun _ => (by exact rfl)) rfl) ?_
  refine r_op rfl rfl rfl (run_mv (v := .bool _) rfl (by exact rfl)) ?_
  refine r_gyes rfl (wantT (by exact rfl)) (by exact ⟨⟨⟨rfl, rfl⟩, rfl⟩, rfl⟩) ?_
  refine r_opcall rfl rfl rfl (run_callf (vs := []) rfl (by exact rfl) Tryz.func13 rfl (by kernel_rfl)) known_calls ?_
  rintro e w35 ⟨rfl, hE35⟩
  refine ⟨_, rfl, ?_⟩
  have hs_w35 := (hE35).size
  replace hV := evo_step0 hV hE35
  replace ht := ht0.now hV
  replace hc := hc0.now hV
  replace hl := hl0 _ hV
  replace hn := hn0 _ hV
  replace hkk := hkk0 _ hV
  replace hrb1 := hrb1.evo0 hE35
  replace zC9 := zC9.evo0 hE35
  replace zT9 := zT9.evo0 hE35
  replace zK9 := zK9.evo0 hE35
  replace zC10 := zC10.evo0 hE35
  replace zT10 := zT10.evo0 hE35
  replace zK10 := zK10.evo0 hE35
  replace hr11 := hr11.evo0 hE35
  replace hr12 := hr12.evo0 hE35
  replace hr13 := hr13.evo0 hE35
  replace hr14 := hr14.evo0 hE35
  replace hoM15 := hoM15.evo0 hE35
  replace hoM16 := hoM16.evo0 hE35
  replace hr17 := hr17.evo0 hE35
  replace hr18 := hr18.evo0 hE35
  replace hoM20 := hoM20.evo0 hE35
  replace hoM21 := hoM21.evo0 hE35
  replace hr22 := hr22.evo0 hE35
  replace hr23 := hr23.evo0 hE35
  replace hoM25 := hoM25.evo0 hE35
  replace hoM26 := hoM26.evo0 hE35
  replace hr27 := hr27.evo0 hE35
  replace hr28 := hr28.evo0 hE35
  replace hoM30 := hoM30.evo0 hE35
  replace hoM31 := hoM31.evo0 hE35
  replace hr32 := hr32.evo0 hE35
  replace hr33 := hr33.evo0 hE35
  refine r_op rfl rfl rfl (run_pick_andB rfl (by exact rfl) (fun _ => (by exact rfl)) rfl) ?_
  refine r_op rfl rfl rfl (run_asg (v := .bool _) rfl (by exact rfl)) ?_
  refine r_nil ?_
  refine r_ret (res1 (v := .bool _) rfl (by exact rfl)) ?_
  exact ⟨ret_bool (decide_eq_true ⟨⟨⟨⟨rfl, rfl⟩, rfl⟩, rfl⟩, rfl⟩), hV⟩
end Go.Proofs.YtkklomiipkipnaaGreatDoor
namespace Go.Proofs.YtkklomiipkipnaaGreatDoor
open Go Go.RowKit Go.Vc Go.IntWalk Go.Deep
theorem bulk_pos {H : Type} (d : DataW H) : 1 ≤ Rows.uptoBulk d := by
  cases d with
  | lit l => cases l <;> simp [Rows.uptoBulk]
  | _ => simp [Rows.uptoBulk]
theorem bulk_bound {H : Type} {l : List (DataW H)} (hk : Rows.uptoSmall H l = true) : Rows.uptoBulkAll l ≤ 1048576 := of_decide_eq_true hk
theorem bulk_part {H : Type} {d : DataW H} {l : List (DataW H)} (h : d ∈ l) : Rows.uptoBulk d ≤ Rows.uptoBulkAll l := by
  induction l with
  | nil => cases h
  | cons x r ih =>
    simp only [Rows.uptoBulkAll]
    rcases List.mem_cons.1 h with e | e
    · subst e; omega
    · have := ih e; omega
theorem bulk_len {H : Type} (l : List (DataW H)) : l.length ≤ Rows.uptoBulkAll l := by
  induction l with
  | nil => exact Nat.le_refl _
  | cons x r ih => simp only [Rows.uptoBulkAll, List.length_cons]; have := bulk_pos x; omega
theorem bulk_slice {H : Type} {D : Nat → DataW H} {D2 : List (DataW H)} {len i : Nat} (hi : i < len) : Rows.uptoBulk (D i) ≤ Rows.uptoBulk (.slice ((List.range len).map D) D2) := by
  have h1 := bulk_part (d := D i) (l := (List.range len).map D) (List.mem_map.2 ⟨i, List.mem_range.2 hi, rfl⟩)
  simp only [Rows.uptoBulk]; omega
theorem bulk_slen {H : Type} {D : Nat → DataW H} {D2 : List (DataW H)} {len : Nat} : len ≤ Rows.uptoBulk (.slice ((List.range len).map D) D2) := by
  have h1 := bulk_len ((List.range len).map D)
  simp only [List.length_map, List.length_range] at h1
  simp only [Rows.uptoBulk]; omega
section
variable {P : Program} {H : Type} {enc : TypeId × Value → H} {w : World} {base : Nat} {sp : Nat → Bool} {hd : Bool} {t e : TypeId}
theorem openEBQ {α : Type} [Enc α] {Q : Nat → α → Prop} (mono : ∀ {B B' : Nat} {x : α}, B ≤ B' → Q B x → Q B' x) (hu : P.underlying t = some (.slice e)) (hc : P.cellsOf e = Enc.n α) (hb : 1 ≤ P.bytesOf e)
    (hel : ∀ (n : Nat) (cs : List Value) (d : DataW H) (pl : List MemPlace), DataW.trod enc P w base sp hd n e cs = some (d, pl) → ∃ x : α, cs = Enc.enc x ∧ Q (Rows.uptoBulk d) x)
    {fuel : Nat} {ao : Option Addr} {len cap : Nat} {d : DataW H} {pl : List MemPlace}
    (h : DataW.trod enc P w base sp hd fuel t [.slice ao len cap] = some (d, pl)) (hw : ∀ m ∈ d.weights P t, m ≤ reachBytes) : ∃ b off, ∃ l : List α, len = l.length ∧ RowE w ao b off cap l ∧ l.length ≤ Rows.uptoBulk d ∧ ∀ x ∈ l, Q (Rows.uptoBulk d) x := by
  rcases open_slice hu h with ⟨h1, _⟩ | ⟨a, len', cap', m, n, D, Pl, h1, _, hl, _, hm, hx, hall⟩
  · simp only [List.cons.injEq, Value.slice.injEq, and_true] at h1
    obtain ⟨rfl, rfl, rfl⟩ := h1
    exact ⟨0, 0, [], rfl, RowE.nil _ _ _ _ _, Nat.zero_le _, fun x hx => by cases hx⟩
  · simp only [List.cons.injEq, Value.slice.injEq, and_true] at h1
    obtain ⟨rfl, rfl, rfl⟩ := h1
    have hlm : len ≤ m := by rw [hm]; split <;> omega
    have hd2 : d = _ := congrArg Prod.fst hx
    have ha : 0 < len → a = ⟨a.block, a.off, none⟩ := fun h0 => by
      obtain ⟨cs, h2, _⟩ := hall 0 (by omega)
      rw [Nat.zero_mul, show a.add 0 = a by unfold Addr.add; rw [if_pos rfl], hc] at h2
      exact (at_of_cells h2 (Enc.pos (α := α))).1
    have hex : ∀ i, i < len → ∃ x : α, At w a.block (a.off + i * Enc.n α) (Enc.enc x) ∧ Q (Rows.uptoBulk (D i)) x := fun i hi => by
      obtain ⟨cs, h2, h3⟩ := hall i (by omega)
      obtain ⟨x, hx2, hq⟩ := hel n cs _ _ h3
      rw [hc, ha (by omega), add_lit] at h2
      exact ⟨x, by rw [← hx2]; exact (at_of_cells h2 (Enc.pos (α := α))).2, hq⟩
    have hbd : len ≤ 140737488355328 := by
      have h3 := hw ((((List.range len).map D).length + ((List.range (m - len)).map fun j => D (len + j)).length) * P.bytesOf e) (by rw [hd2]; simp [DataW.weights, hu])
      simp only [List.length_map, List.length_range] at h3
      have h4 : len * 1 ≤ (len + (m - len)) * P.bytesOf e := Nat.mul_le_mul (by omega) hb
      have h5 := reachBytes_lt
      omega
    by_cases h0 : len = 0
    · subst h0; exact ⟨0, 0, [], rfl, ⟨by simp, by simp, by simp⟩, Nat.zero_le _, fun x hx => by cases hx⟩
    · obtain ⟨x0, _⟩ := hex 0 (by omega)
      obtain ⟨f, hf⟩ : ∃ f : Nat → α, ∀ i, i < len → At w a.block (a.off + i * Enc.n α) (Enc.enc (f i)) ∧ Q (Rows.uptoBulk (D i)) (f i) := by
        classical
        exact ⟨fun i => if hi : i < len then Classical.choose (hex i hi) else x0, fun i hi => by simp only [dif_pos hi]; exact Classical.choose_spec (hex i hi)⟩
      refine ⟨a.block, a.off, (List.range len).map f, by simp, ⟨by simp; omega, fun _ => congrArg some (ha (by omega)), fun i cs hi => ?_⟩, ?_, fun x hx => ?_⟩
      · have hil : i < len := by
          rcases Nat.lt_or_ge i len with h6 | h6
          · exact h6
          · rw [List.getElem?_eq_none (by simpa using h6)] at hi; cases hi
        simp [hil] at hi
        subst hi
        exact ⟨Enc.len _, (hf i hil).1⟩
      · rw [hd2, List.length_map, List.length_range]; exact bulk_slen
      · obtain ⟨i, hi, rfl⟩ := List.mem_map.1 hx
        have hil := List.mem_range.1 hi
        rw [hd2]; exact mono (bulk_slice hil) (hf i hil).2
theorem openRB {α : Type} [Rep α] {Q : Nat → α → Prop} (mono : ∀ {B B' : Nat} {x : α}, B ≤ B' → Q B x → Q B' x) (hu : P.underlying t = some (.slice e)) (hc : P.cellsOf e = Rep.n α) (hb : 1 ≤ P.bytesOf e)
    (hel : ∀ (n : Nat) (cs : List Value) (d : DataW H) (pl : List MemPlace), DataW.trod enc P w base sp hd n e cs = some (d, pl) → (∀ m ∈ d.weights P e, m ≤ reachBytes) → ∃ x : α, Rep.rep w cs x ∧ Q (Rows.uptoBulk d) x)
    {fuel : Nat} {ao : Option Addr} {len cap : Nat} {d : DataW H} {pl : List MemPlace}
    (h : DataW.trod enc P w base sp hd fuel t [.slice ao len cap] = some (d, pl)) (hw : ∀ m ∈ d.weights P t, m ≤ reachBytes) : ∃ b off, ∃ l : List α, len = l.length ∧ RowR w ao b off cap l ∧ l.length ≤ Rows.uptoBulk d ∧ ∀ x ∈ l, Q (Rows.uptoBulk d) x := by
  rcases open_slice hu h with ⟨h1, _⟩ | ⟨a, len', cap', m, n, D, Pl, h1, _, hl, _, hm, hx, hall⟩
  · simp only [List.cons.injEq, Value.slice.injEq, and_true] at h1
    obtain ⟨rfl, rfl, rfl⟩ := h1
    exact ⟨0, 0, [], rfl, RowR.nil _ _ _ _ _, Nat.zero_le _, fun x hx => by cases hx⟩
  · simp only [List.cons.injEq, Value.slice.injEq, and_true] at h1
    obtain ⟨rfl, rfl, rfl⟩ := h1
    have hlm : len ≤ m := by rw [hm]; split <;> omega
    have hd2 : d = _ := congrArg Prod.fst hx
    have ha : 0 < len → a = ⟨a.block, a.off, none⟩ := fun h0 => by
      obtain ⟨cs, h2, _⟩ := hall 0 (by omega)
      rw [Nat.zero_mul, show a.add 0 = a by unfold Addr.add; rw [if_pos rfl], hc] at h2
      exact (at_of_cells h2 (Rep.pos (α := α))).1
    have hex : ∀ i, i < len → ∃ y : List Value × α, At w a.block (a.off + i * Rep.n α) y.1 ∧ Rep.rep w y.1 y.2 ∧ Q (Rows.uptoBulk (D i)) y.2 := fun i hi => by
      obtain ⟨cs, h2, h3⟩ := hall i (by omega)
      obtain ⟨x, hx2, hq⟩ := hel n cs _ _ h3 (fun q hq => hw q (by
        rw [hd2]
        simp only [DataW.weights, hu, List.mem_cons, List.mem_append]
        exact .inr (.inl (weights_elem (List.mem_map.2 ⟨i, List.mem_range.2 hi, rfl⟩) hq))))
      rw [hc, ha (by omega), add_lit] at h2
      exact ⟨(cs, x), (at_of_cells h2 (Rep.pos (α := α))).2, hx2, hq⟩
    have hbd : len ≤ 140737488355328 := by
      have h3 := hw ((((List.range len).map D).length + ((List.range (m - len)).map fun j => D (len + j)).length) * P.bytesOf e) (by rw [hd2]; simp [DataW.weights, hu])
      simp only [List.length_map, List.length_range] at h3
      have h4 : len * 1 ≤ (len + (m - len)) * P.bytesOf e := Nat.mul_le_mul (by omega) hb
      have h5 := reachBytes_lt
      omega
    by_cases h0 : len = 0
    · subst h0; exact ⟨0, 0, [], rfl, RowR.nil _ _ _ _ _, Nat.zero_le _, fun x hx => by cases hx⟩
    · obtain ⟨y0, _⟩ := hex 0 (by omega)
      obtain ⟨f, hf⟩ : ∃ f : Nat → List Value × α, ∀ i, i < len → At w a.block (a.off + i * Rep.n α) (f i).1 ∧ Rep.rep w (f i).1 (f i).2 ∧ Q (Rows.uptoBulk (D i)) (f i).2 := by
        classical
        exact ⟨fun i => if hi : i < len then Classical.choose (hex i hi) else y0, fun i hi => by simp only [dif_pos hi]; exact Classical.choose_spec (hex i hi)⟩
      have hgl : ∀ (i : Nat) {β : Type} (g : Nat → β) (z : β), ((List.range len).map g)[i]? = some z → i < len ∧ g i = z := by
        intro i β g z hz
        have hil : i < len := by
          rcases Nat.lt_or_ge i len with h6 | h6
          · exact h6
          · rw [List.getElem?_eq_none (by simpa using h6)] at hz; cases hz
        simp [hil] at hz
        exact ⟨hil, hz⟩
      refine ⟨a.block, a.off, (List.range len).map (fun i => (f i).2), by simp, ⟨(List.range len).map (fun i => (f i).1), ⟨by simp; omega, fun _ => congrArg some (ha (by omega)), fun i cs hi => ?_⟩, by simp, fun i cs x h1 h2 => ?_⟩, ?_, fun x hx => ?_⟩
      · obtain ⟨hil, rfl⟩ := hgl i _ _ hi
        exact ⟨Rep.len (hf i hil).2.1, (hf i hil).1⟩
      · obtain ⟨hil, rfl⟩ := hgl i _ _ h1
        obtain ⟨_, rfl⟩ := hgl i _ _ h2
        exact (hf i hil).2.1
      · rw [hd2, List.length_map, List.length_range]; exact bulk_slen
      · obtain ⟨i, hi, rfl⟩ := List.mem_map.1 hx
        have hil := List.mem_range.1 hi
        rw [hd2]; exact mono (bulk_slice hil) (hf i hil).2.2
end
def QT (B : Nat) (x : TermL) : Prop := (x.words.length ≤ B ∧ x.req.length ≤ B ∧ x.forb.length ≤ B) ∧ (∀ s ∈ x.req, s.length ≤ B) ∧ ∀ s ∈ x.forb, s.length ≤ B
theorem QT_mono {B B' : Nat} {x : TermL} (h : B ≤ B') (q : QT B x) : QT B' x :=
  ⟨⟨Nat.le_trans q.1.1 h, Nat.le_trans q.1.2.1 h, Nat.le_trans q.1.2.2 h⟩, fun s hs => Nat.le_trans (q.2.1 s hs) h, fun s hs => Nat.le_trans (q.2.2 s hs) h⟩
theorem QT_jud {B : Nat} {x : TermL} (q : QT B x) (h : B ≤ 1048576) : JudT x :=
  ⟨Nat.le_trans q.1.2.1 h, Nat.le_trans q.1.2.2 h, fun s hs => Nat.le_trans (q.2.1 s hs) (by omega), fun s hs => Nat.le_trans (q.2.2 s hs) (by omega)⟩
theorem elem_termB {P : Program} {e se ss : TypeId} {f0 f1 f2 g0 g1 : Field} (ht : P.underlying e = some (.struct #[f0, f1, f2])) (h2 : P.cellsOf e = 3) (o0 : f0.offset = 0) (c0 : P.cellsOf f0.type = 1) (o1 : f1.offset = 1) (c1 : P.cellsOf f1.type = 1) (o2 : f2.offset = 2) (c2 : P.cellsOf f2.type = 1)
    (u0 : P.underlying f0.type = some (.slice se)) (u1 : P.underlying f1.type = some (.slice ss)) (u2 : P.underlying f2.type = some (.slice ss)) (cs0 : P.cellsOf se = 2) (bs0 : P.bytesOf se = 32) (cs1 : P.cellsOf ss = 1) (bs1 : P.bytesOf ss = 16) (us : P.underlying ss = some .string)
    (ht2 : P.underlying se = some (.struct #[g0, g1])) (p2 : g0.offset = 0) (d2 : P.cellsOf g0.type = 1) (p3 : g1.offset = 1) (d3 : P.cellsOf g1.type = 1) (v2 : P.underlying g0.type = some .string) (v3 : P.underlying g1.type = some .string)
    {H : Type} {enc : TypeId × Value → H} {w : World} {base : Nat} {sp : Nat → Bool} {hd : Bool} {n : Nat} {cs : List Value} {d : DataW H} {pl : List MemPlace} (h : DataW.trod enc P w base sp hd n e cs = some (d, pl)) (hw : ∀ m ∈ d.weights P e, m ≤ reachBytes) :
    ∃ x : TermL, Rep.rep w cs x ∧ QT (Rows.uptoBulk d) x := by
  obtain ⟨y0, y1, y2, m, hx, hl, h3, h4, h5⟩ := Go.Deep.trod_struct3 ht h
  rw [o0, c0] at h3
  rw [o1, c1] at h4
  rw [o2, c2] at h5
  rw [h2] at hl
  have hd2 : d = .agg [y0.1, y1.1, y2.1] := congrArg Prod.fst hx
  have hw0 : ∀ q ∈ y0.1.weights P f0.type, q ≤ reachBytes := fun q hq => hw q (by rw [hd2]; simp [DataW.weights, ht, DataW.weightsEach, hq])
  have hw1 : ∀ q ∈ y1.1.weights P f1.type, q ≤ reachBytes := fun q hq => hw q (by rw [hd2]; simp [DataW.weights, ht, DataW.weightsEach, hq])
  have hw2 : ∀ q ∈ y2.1.weights P f2.type, q ≤ reachBytes := fun q hq => hw q (by rw [hd2]; simp [DataW.weights, ht, DataW.weightsEach, hq])
  have hB : Rows.uptoBulk y0.1 ≤ Rows.uptoBulk d ∧ Rows.uptoBulk y1.1 ≤ Rows.uptoBulk d ∧ Rows.uptoBulk y2.1 ≤ Rows.uptoBulk d := by
    rw [hd2]; simp only [Rows.uptoBulk, Rows.uptoBulkAll]; omega
  have strs : ∀ (f : Field) (u : Value) (y : DataW H × List MemPlace), P.underlying f.type = some (.slice ss) → DataW.trod enc P w base sp hd m f.type [u] = some y → (∀ q ∈ y.1.weights P f.type, q ≤ reachBytes) →
      ∃ ao b off cap, ∃ l : List Str, u = .slice ao l.length cap ∧ RowE w ao b off cap l ∧ l.length ≤ Rows.uptoBulk y.1 ∧ ∀ s ∈ l, s.length ≤ Rows.uptoBulk y.1 := fun f u y uf hy hwf => by
    rcases open_slice uf hy with ⟨h6, _⟩ | ⟨a, len, cap, _, _, _, _, h6, _⟩
    · simp only [List.cons.injEq, and_true] at h6
      subst h6
      exact ⟨none, 0, 0, 0, [], rfl, RowE.nil _ _ _ _ _, Nat.zero_le _, fun s hs => absurd hs List.not_mem_nil⟩
    · simp only [List.cons.injEq, and_true] at h6
      subst h6
      obtain ⟨b, off, l, rfl, hr, hq⟩ := openEBQ (α := Str) (Q := fun B s => s.length ≤ B) (fun h h9 => Nat.le_trans h9 h) uf cs1 (by omega) (fun n cs d pl h => by
        obtain ⟨s, e1, e2, _⟩ := DataW.trod_string us h
        have hy0 : d = .lit (.string s.data.toList) := congrArg Prod.fst e2
        exact ⟨s.data.toList, by rw [e1]; cases s; rfl, by rw [hy0]; simp only [Rows.uptoBulk]; omega⟩) (d := y.1) (pl := y.2) hy hwf
      exact ⟨_, b, off, cap, l, rfl, hr, hq⟩
  match cs, hl with
  | [u, v, z], _ =>
    simp only [List.drop_succ_cons, List.drop_zero, List.take_succ_cons, List.take_zero] at h3 h4 h5
    obtain ⟨ao1, b1, off1, cap1, l1, rfl, hr1, hn1, hq1⟩ := strs f1 v y1 u1 h4 hw1
    obtain ⟨ao2, b2, off2, cap2, l2, rfl, hr2, hn2, hq2⟩ := strs f2 z y2 u2 h5 hw2
    have hQ1 : ∀ s ∈ l1, s.length ≤ Rows.uptoBulk d := fun s hs => Nat.le_trans (hq1 s hs) hB.2.1
    have hQ2 : ∀ s ∈ l2, s.length ≤ Rows.uptoBulk d := fun s hs => Nat.le_trans (hq2 s hs) hB.2.2
    rcases open_slice u0 h3 with ⟨h6, _⟩ | ⟨a, len, cap, _, _, _, _, h6, _⟩
    · simp only [List.cons.injEq, and_true] at h6
      subst h6
      exact ⟨⟨[], l1, l2⟩, ⟨⟨none, 0, 0, 0, _, b1, off1, cap1, _, b2, off2, cap2, rfl, RowE.nil _ _ _ _ _, hr1, hr2⟩, Nat.zero_le _, fun y hy => absurd hy List.not_mem_nil⟩, ⟨Nat.zero_le _, Nat.le_trans hn1 hB.2.1, Nat.le_trans hn2 hB.2.2⟩, hQ1, hQ2⟩
    · simp only [List.cons.injEq, and_true] at h6
      subst h6
      have h8 : reachBytes = 140737488351232 := rfl
      have hln := open_len u0 (d := y0.1) (pl := y0.2) (by simpa using h3) hw0
      rw [bs0] at hln
      obtain ⟨b, off, l, rfl, hr, hq⟩ := openEQ (α := Ende) u0 cs0 (by omega) (fun n cs d pl h hw => elem_ende ht2 cs0 p2 d2 p3 d3 v2 v3 h hw) (d := y0.1) (pl := y0.2) (by simpa using h3) hw0
      obtain ⟨_, _, l', hl', _, hn', _⟩ := openEBQ (enc := enc) (w := w) (base := base) (sp := sp) (hd := hd) (α := Ende) (Q := fun _ _ => True) (fun _ _ => trivial) u0 cs0 (by omega) (fun n cs d pl h => by
        obtain ⟨a9, b9, m9, _, hl9, h39, h49⟩ := ChangeShapes.trod_struct2 ht2 h
        rw [p2, d2] at h39
        rw [p3, d3] at h49
        rw [cs0] at hl9
        match cs, hl9 with
        | [va, vb], _ =>
          obtain ⟨s1, e1, _, _⟩ := DataW.trod_string v2 (by simpa using h39)
          obtain ⟨s2, e2, _, _⟩ := DataW.trod_string v3 (by simpa using h49)
          simp only [List.cons.injEq, and_true] at e1 e2
          subst e1; subst e2
          exact ⟨⟨s1.data.toList, s2.data.toList⟩, by cases s1; cases s2; rfl, trivial⟩) (d := y0.1) (pl := y0.2) (by simpa using h3) hw0
      exact ⟨⟨l, l1, l2⟩, ⟨⟨_, b, off, cap, _, b1, off1, cap1, _, b2, off2, cap2, rfl, hr, hr1, hr2⟩, by show l.length ≤ _; omega, hq⟩, ⟨by show l.length ≤ _; omega, Nat.le_trans hn1 hB.2.1, Nat.le_trans hn2 hB.2.2⟩, hQ1, hQ2⟩
end Go.Proofs.YtkklomiipkipnaaGreatDoor
