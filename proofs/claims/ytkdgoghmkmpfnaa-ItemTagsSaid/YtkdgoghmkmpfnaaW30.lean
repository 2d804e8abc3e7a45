import Derived.Test.YtkdgoghmkmpfnaaW4
import Derived.Test.YtkdgoghmkmpfnaaByt
import Derived.Test.YtkdgoghmkmpfnaaDrc
namespace Go.Proofs.Ytkdgoghmkmpfnaa
open Go.RowKit Go.Vc
theorem ty_3 : tyP Try.prog 3 = some (1, 8, some (.int .i64 0)) := by kernel_rfl
theorem ty_5 : tyP Try.prog 5 = some (1, 1, some (.int .u8 0)) := by kernel_rfl
theorem placet_calls (x n : Int) {w0 : World} (hn : 1 ≤ n) (hn2 : n ≤ 1000000000) :
    Calls Try.prog 16 #[.int .i64 x, .int .i64 n] w0 fun e w' => e = .returned (.int .i64 (x % n)) ∧ w0 = w' := by
 refine calls_enter (n := 14) (args := [.int .i64 x, .int .i64 n]) Try.func16 rfl Try.ntmps16 rfl ?_
 have hV : Evo w0 w0 [] := Evo.refl _ _
 refine r_seq ?_
 refine r_region ?_
 refine r_op rfl rfl rfl (run_asg (v := .int _ _) rfl (by exact rfl)) ?_
 refine r_nil ?_
 refine r_seq ?_
 refine r_region ?_
 refine r_op rfl rfl rfl (run_mv (v := .int _ _) rfl (by exact rfl)) ?_
 refine r_op rfl rfl rfl (run_mv (v := .int _ _) rfl (by exact rfl)) ?_
 refine r_op rfl rfl rfl (run_rem rfl (by exact rfl) (by exact rfl) (by omega)) ?_
 refine r_op rfl rfl rfl (run_asg (v := .int _ _) rfl (by exact rfl)) ?_
 refine r_nil ?_
 refine r_seq ?_
 refine r_seq ?_
 refine r_region ?_
 refine r_op rfl rfl rfl (run_mv (v := .int _ _) rfl (by exact rfl)) ?_
 refine r_op rfl rfl rfl (run_lss rfl (by exact rfl) (by exact rfl)) ?_
 refine r_nil ?_
 refine r_cond (by exact rfl) (fun hc1 => ?_) (fun hc1 => ?_)
 ·skip
  refine r_region ?_
  refine r_op rfl rfl rfl (run_mv (v := .int _ _) rfl (by exact rfl)) ?_
  refine r_op rfl rfl rfl (run_mv (v := .int _ _) rfl (by exact rfl)) ?_
  refine r_op rfl rfl rfl (run_add rfl (by exact rfl) (by exact rfl) (by have := tmod_bd x n (by omega); omega) (by have := tmod_bd x n (by omega); omega)) ?_
  refine r_op rfl rfl rfl (run_asg (v := .int _ _) rfl (by exact rfl)) ?_
  refine r_nil ?_
  refine r_seq ?_
  refine r_region ?_
  refine r_op rfl rfl rfl (run_mv (v := .int _ _) rfl (by exact rfl)) ?_
  refine r_op rfl rfl rfl (run_asg (v := .int _ _) rfl (by exact rfl)) ?_
  refine r_nil ?_
  refine r_ret (res1 (v := .int _ _) rfl (by exact rfl)) ?_
  exact ⟨ret_int (by rw [← place_neg x n (by omega) (by omega)]), rfl⟩
 ·skip
  refine r_skip ?_
  refine r_seq ?_
  refine r_region ?_
  refine r_op rfl rfl rfl (run_mv (v := .int _ _) rfl (by exact rfl)) ?_
  refine r_op rfl rfl rfl (run_asg (v := .int _ _) rfl (by exact rfl)) ?_
  refine r_nil ?_
  refine r_ret (res1 (v := .int _ _) rfl (by exact rfl)) ?_
  exact ⟨ret_int (by rw [← place_pos x n (by omega) (by omega)]), rfl⟩

def kindW : List Int := [2, 4]
def idW : List Int := [0, 1, 999, 1000]

set_option maxHeartbeats 2000000 in
theorem tags_law {sz idn kn : Int} {c : UInt8} {w0 : World}  :
    Calls Try.prog 3 #[.int .i64 sz, .int .i64 idn, .int .i64 kn, .int .u8 ((c.toNat : Nat) : Int)] w0 fun e w' => e = .returned (.bool true) ∧ Evo w0 w' [] := by
 refine calls_enter (n := 61) (args := [.int .i64 sz, .int .i64 idn, .int .i64 kn, .int .u8 ((c.toNat : Nat) : Int)]) Try.func3 rfl Try.ntmps3 rfl ?_
 have hV : Evo w0 w0 [] := Evo.refl _ _
 refine r_seq ?_
 refine r_region ?_
 refine r_op rfl rfl rfl (run_asg (v := .bool _) rfl (by exact rfl)) ?_
 refine r_nil ?_
 refine r_seq ?_
 refine r_region ?_
 refine r_op rfl rfl rfl (run_mv (v := .int _ _) rfl (by exact rfl)) ?_
 refine r_opcall rfl rfl rfl (run_callf (vs := [.int _ _, .int _ _]) rfl (by exact rfl) Try.func16 rfl (by kernel_rfl)) (placet_calls _ _ (by omega) (by omega)) ?_
 rintro e w1 ⟨rfl, rfl⟩
 refine ⟨_, rfl, ?_⟩
 refine r_op rfl rfl rfl (run_add rfl (by exact rfl) (by exact rfl) (by omega) (by omega)) ?_
 refine r_op rfl rfl rfl (run_asg (v := .int _ _) rfl (by exact rfl)) ?_
 refine r_nil ?_
 refine r_seq ?_
 refine r_region ?_
 refine r_bslice (pv := [(0, .int _ _), (1, .int _ _)]) (zs := [_]) (cs := [_, _]) Try.underlying23 ty_5 (by exact rfl) rfl (by exact rfl) rfl (by exact rfl) ?_
 intro b2 w3 heb2 hEw3 hbb2 hzb2
 have hs_w3 := (hEw3).size
 replace hV := evo_step0 hV hEw3
 have hAb2 := hbb2.at
 have hrb2 : RowE w3 (some ⟨b2, 0, none⟩) b2 0 2 ([98, 32] : List UInt8) := rowLit ([98, 32] : List UInt8) hbb2 rfl rfl
 refine r_cvBB (b := b2) (l := [98, 32]) rfl Try.underlying23 Try.underlying5 (by exact rfl) (by exact hbb2) (by decide) ?_
 intro w4 hEw4 hzw4 hyw4
 have hs_w4 := (hEw4).size
 replace hV := evo_step1 hV hEw4 (by first | exact .inl (by omega) | exact .inr (by simp))
 refine r_op rfl rfl rfl (run_asg (v := .slice (some ⟨b2, 0, none⟩) _ _) rfl (by exact rfl)) ?_
 refine r_nil ?_
 refine r_seq ?_
 refine r_block ?_
 have hba : BA w4 w0.heap.size 5 (.slice (some ⟨b2, 0, none⟩) 2 2) [98, 32] := .inr ⟨b2, rfl, by omega, by omega, hyw4, rfl⟩
 have hm0 := Int.emod_nonneg sz (show (5 : Int) ≠ 0 by decide); have hm1 := Int.emod_lt_of_pos sz (show (0 : Int) < 5 by decide)
 refine r_loop (α := Nat) [9, 16, 17, 18, 19, 20, 21, 22] (fun k g w => ∃ vb : Value, ∃ l : List UInt8, g 9 = vb ∧ BA w w0.heap.size 5 vb l ∧ l.length = k ∧ (2 ≤ k ∧ (k : Int) ≤ 62 + sz % 5) ∧ w4.heap.size ≤ w.heap.size ∧ Evo w0 w []) (fun k => 67 - k) 2 ?_ ?_
 ·refine ⟨_, [98, 32], rfl, hba, rfl, (by omega), (by first | assumption | omega | (dsimp only; omega) | (simp; done)), hV⟩
 ·rintro k g w6 ⟨vb, l, hj7, hba, hlk, hk2, hzl5, hV⟩
  have hs_w6hV := hV.size
  refine r_know (i := 9) (v := vb) (by exact hj7) ?_
  refine r_seq ?_
  refine r_seq ?_
  refine r_region ?_
  refine r_op rfl rfl rfl (run_mv (v := vb) rfl (by exact rfl)) ?_
  refine r_op rfl rfl rfl (run_lenBA rfl (by exact rfl) Try.underlying23 hba) ?_
  refine r_op rfl rfl rfl (run_mv (v := .int _ _) rfl (by exact rfl)) ?_
  refine r_op rfl rfl rfl (run_lss rfl (by exact rfl) (by exact rfl)) ?_
  refine r_nil ?_
  refine r_cond (by exact rfl) (fun hc8 => ?_) (fun hc8 => ?_)
  ·skip
   refine r_skip ?_
   refine r_block ?_
   refine r_region ?_
   refine r_op rfl rfl rfl (run_mv (v := vb) rfl (by exact rfl)) ?_
   refine r_appendBA (120) rfl rfl Try.underlying23 ty_5 hba (fun _ => (by exact rfl)) (by exact rfl) (by first | omega | (simp; omega)) (by first | omega | (simp; omega)) (by omega) ?_
   intro q_v9 v9 w10 glv9 hEw10 hglv9 hov9
   have hs_w10 := (hEw10).size
   replace hV := evo_steps hV hEw10 (fun b9 hb9 => .inl (by have := hglv9 b9 hb9; omega))
   refine r_op rfl rfl rfl (run_asg (v := v9) rfl (by exact rfl)) ?_
   refine r_nil ?_
   refine r_blk ?_
   refine r_again (k + 1) ?_ ?_ ?_
   ·first | omega | (dsimp only; omega)
   ·refine ⟨_, _, rfl, (.inl hov9), (by simp; omega), (by omega), (by first | assumption | omega | (dsimp only; omega) | (simp; done)), hV⟩
   ·repeat (first | (with_reducible exact Agree.merge _ _ _) | (with_reducible exact Agree.refl _ _) | (with_reducible refine Agree.upd ?_ _ _ rfl) | ((with_reducible refine Agree.inner ?_ ?_); (kernel_rfl)))
  ·skip
   refine r_exit rfl ?_
   refine r_seq ?_
   have hoo := hba.own (by omega)
   obtain ⟨ao11, g11, cp11, hv11, hr11, hg11⟩ := hoo.rowOf
   subst hv11
   refine r_region ?_
   refine r_op rfl rfl rfl (run_mv (v := .slice _ _ _) rfl (by exact rfl)) ?_
   refine r_op rfl rfl rfl (run_mv (v := .slice _ _ _) rfl (by exact rfl)) ?_
   refine r_op rfl rfl rfl (run_lenSl rfl (by exact rfl) Try.underlying23) ?_
   refine r_op rfl rfl rfl (run_sub rfl (by exact rfl) (by exact rfl) (by omega) (by omega)) ?_
   refine r_op rfl rfl rfl (run_mv (v := .int _ _) rfl (by exact rfl)) ?_
   refine r_op rfl rfl rfl (run_ix ((k - 1)) rfl Try.underlying23 ty_5 (by exact rfl) (by exact rfl) (by omega) (by omega) (hr11.addr (i := (k - 1)) (by omega))) ?_
   have hA12 := hr11.atD ((k - 1)) (by omega)
   refine r_storeE (u := .int _ _) (vs := [_]) ((k - 1)) 0 _ (by exact rfl) rfl (by first | rfl | omega) (by exact rfl) hoo hr11 (by omega) ty_5 (by exact rfl) rfl (by exact rfl) rfl (by show [_] = [_]; first | (dsimp only; done) | exact rfl | (dsimp only; exact rfl)) ?_
   intro w13 hEw13 hzw13 ho_new
   have hs_w13 := (hEw13).size
   replace hV := evo_stepo hV hEw13 (fun g hg => .inl (by first | exact (hoo.block hg).1 | (have := hoo.block hg; omega)))
   replace hoo := ho_new
   clear ho_new
   refine r_nil ?_
   refine r_seq ?_
   obtain ⟨ao14, g14, cp14, hv14, hr14, hg14⟩ := hoo.rowOf
   injection hv14 with ha14 hx14 hc14
   subst ha14; subst hc14
   have hkd := Int.emod_nonneg kn (show (2 : Int) ≠ 0 by decide); have hkd1 := Int.emod_lt_of_pos kn (show (0 : Int) < 2 by decide); have hid := Int.emod_nonneg idn (show (4 : Int) ≠ 0 by decide); have hid1 := Int.emod_lt_of_pos idn (show (0 : Int) < 4 by decide)
   refine r_cut [10, 29, 30, 31, 32, 33, 34, 35, 36, 37, 38, 39, 40, 41] (fun g w => ∃ bx : Nat, ∃ kx : Int, ∃ ix : Int, g 10 = .pointer (some ⟨bx, 0, none⟩) ∧ Blk w bx 26 [.int .i64 kx, S (l.set (k - 1) c), .int .i64 ix] ∧ At w bx 0 [.int .i64 kx, S (l.set (k - 1) c), .int .i64 ix] ∧ bx < w.heap.size ∧ w13.heap.size ≤ w.heap.size ∧ Evo w0 w []) ?_ ?_
   ·skip
    have hr14_q := hr14
    have hV_q := hV
    refine h_region ([]) (by kernel_rfl) ?_
    intro w16 hE17 hC18
    have hs_w16 := (hE17).size
    replace hV := evo_step0 hV hE17
    replace hr14 := hr14.evo0 hE17
    refine h_take (i := 1) (by exact rfl) rfl rfl rfl (by kernel_rfl) (fun w' hC => run_mv (v := .int _ _) rfl (by exact rfl)) hC18 ?_
    refine h_takeC (i := 2) (by exact rfl) rfl rfl rfl (by kernel_rfl) (fun w' hC => ⟨_, _, run_callf (vs := [.int _ _, .int _ _]) rfl (by exact rfl) Try.func16 rfl (by kernel_rfl), (placet_calls _ _ (by omega) (by omega)).mono (fun e w'' h => ⟨h.1, h.2.symm⟩)⟩) hC18 ?_
    refine h_take (i := 5) (by exact rfl) rfl rfl rfl (by kernel_rfl) (fun w' hC => run_mv (v := .slice _ _ _) rfl (by exact rfl)) hC18 ?_
    refine h_take (i := 6) (by exact rfl) rfl rfl rfl (by kernel_rfl) (fun w' hC => run_cvBS rfl Try.underlying23 Try.underlying5 Try.underlying9 (by exact rfl) (by first | rfl | simp) (hr14_q.evo0 hC)) hC18 ?_
    refine h_take (i := 8) (by exact rfl) rfl rfl rfl (by kernel_rfl) (fun w' hC => run_mv (v := .int _ _) rfl (by exact rfl)) hC18 ?_
    refine h_takeC (i := 9) (by exact rfl) rfl rfl rfl (by kernel_rfl) (fun w' hC => ⟨_, _, run_callf (vs := [.int _ _, .int _ _]) rfl (by exact rfl) Try.func16 rfl (by kernel_rfl), (placet_calls _ _ (by omega) (by omega)).mono (fun e w'' h => ⟨h.1, h.2.symm⟩)⟩) hC18 ?_
    refine h_three (i := 0) (j := 7) (p := 13) (by kernel_rfl) ?_ ?_ ?_
    ·skip
     refine h_do (by exact rfl) ?_
     refine r_bslice (pv := [(0, .int _ _), (1, .int _ _)]) (zs := [_]) (cs := [_, _]) Try.underlying24 ty_3 (by exact rfl) rfl (by exact rfl) rfl (by exact rfl) ?_
     intro b19 w20 heb19 hEw20 hbb19 hzb19
     have hs_w20 := (hEw20).size
     replace hV := evo_step0 hV hEw20
     replace hC18 := evo_step0 hC18 hEw20
     replace hr14 := hr14.evo0 hEw20
     have hAb19 := hbb19.at
     have hrb19 : RowE w20 (some ⟨b19, 0, none⟩) b19 0 2 kindW := rowLit kindW hbb19 rfl rfl
     refine h_next hC18 ?_
     refine h_take (i := 3) (by exact rfl) rfl rfl rfl (by kernel_rfl) (fun w' hC => run_ix ((kn % 2).toNat) rfl Try.underlying24 ty_3 (by exact rfl) (by exact rfl) (by omega) (by show _ < 2; omega) (hrb19.addr (i := (kn % 2).toNat) (by show _ < 2; omega))) hC18 ?_
     have hA21 := hrb19.atD ((kn % 2).toNat) (by show _ < 2; omega)
     refine h_three (i := 4) (j := 7) (p := 13) (by kernel_rfl) ?_ ?_ ?_
     ·skip
      refine h_do (by exact rfl) ?_
      refine r_op rfl rfl rfl (run_ld1 rfl ag_3 (by exact rfl) (hA21.cell 0 (by exact rfl))) ?_
      refine h_next hC18 ?_
      refine h_two (i := 7) (j := 13) (by kernel_rfl) ?_ ?_
      ·skip
       refine h_do (by exact rfl) ?_
       refine r_bslice (pv := [(0, .int _ _), (1, .int _ _), (2, .int _ _), (3, .int _ _)]) (zs := [_]) (cs := [_, _, _, _]) Try.underlying24 ty_3 (by exact rfl) rfl (by exact rfl) rfl (by exact rfl) ?_
       intro b22 w23 heb22 hEw23 hbb22 hzb22
       have hs_w23 := (hEw23).size
       replace hV := evo_step0 hV hEw23
       replace hC18 := evo_step0 hC18 hEw23
       replace hr14 := hr14.evo0 hEw23
       replace hrb19 := hrb19.evo0 hEw23
       have hAb22 := hbb22.at
       have hrb22 : RowE w23 (some ⟨b22, 0, none⟩) b22 0 4 idW := rowLit idW hbb22 rfl rfl
       refine h_next hC18 ?_
       refine h_take (i := 10) (by exact rfl) rfl rfl rfl (by kernel_rfl) (fun w' hC => run_ix ((idn % 4).toNat) rfl Try.underlying24 ty_3 (by exact rfl) (by exact rfl) (by omega) (by show _ < 4; omega) (hrb22.addr (i := (idn % 4).toNat) (by show _ < 4; omega))) hC18 ?_
       have hA24 := hrb22.atD ((idn % 4).toNat) (by show _ < 4; omega)
       refine h_two (i := 11) (j := 13) (by kernel_rfl) ?_ ?_
       ·skip
        refine h_do (by exact rfl) ?_
        refine r_op rfl rfl rfl (run_ld1 rfl ag_3 (by exact rfl) (hA24.cell 0 (by exact rfl))) ?_
        refine h_next hC18 ?_
        refine h_take (i := 12) (by exact rfl) rfl rfl rfl (by kernel_rfl) (fun w' hC => run_bld (pv := [(0, .int _ _), (1, S _), (2, .int _ _)]) (zs := [_, _, _]) (cells := [_, _, _]) rfl ty_26 (by exact rfl) pl_26 (by exact rfl) (by exact rfl)) hC18 ?_
        refine h_one (i := 13) (by kernel_rfl) ?_
        refine h_do (by exact rfl) ?_
        refine r_alloc (zs := [_, _, _]) ty_26 (by exact rfl) rfl ?_
        intro b25 w26 heb25 hEw26 hbb25 hzb25
        have hs_w26 := (hEw26).size
        replace hV := evo_step0 hV hEw26
        replace hC18 := evo_step0 hC18 hEw26
        replace hr14 := hr14.evo0 hEw26
        replace hrb19 := hrb19.evo0 hEw26
        replace hrb22 := hrb22.evo0 hEw26
        have hAb25 := hbb25.at
        refine h_next hC18 ?_
        refine h_one (i := 14) (by kernel_rfl) ?_
        refine h_do (by exact rfl) ?_
        refine r_store (v := .agg _) (vs := [_, _, _]) (cs' := [_, _, _]) (by exact rfl) (by exact rfl) hbb25 ty_26 (by exact rfl) rfl (by exact rfl) rfl (by exact rfl) ?_
        intro w27 hEw27 hzw27 hb_new
        have hs_w27 := (hEw27).size
        replace hV := evo_step1 hV hEw27 (by first | exact .inl (by omega) | exact .inr (by simp))
        replace hbb25 := hb_new
        have hAb25 := hbb25.at
        clear hb_new
        refine h_last (by kernel_rfl) ?_
        refine h_done (by kernel_rfl) ?_
        refine r_cut_end ?_ ?_
        ·refine ⟨_, _, _, rfl, hbb25, hbb25.at, hbb25.lt, (by first | assumption | omega | (dsimp only; omega) | (simp; done)), hV⟩
        ·repeat (first | (with_reducible exact Agree.merge _ _ _) | (with_reducible exact Agree.refl _ _) | (with_reducible refine Agree.upd ?_ _ _ rfl) | ((with_reducible refine Agree.inner ?_ ?_); (kernel_rfl)))
       ·skip
        refine h_do (by exact rfl) ?_
        refine r_alloc (zs := [_, _, _]) ty_26 (by exact rfl) rfl ?_
        intro b28 w29 heb28 hEw29 hbb28 hzb28
        have hs_w29 := (hEw29).size
        replace hV := evo_step0 hV hEw29
        replace hC18 := evo_step0 hC18 hEw29
        replace hr14 := hr14.evo0 hEw29
        replace hrb19 := hrb19.evo0 hEw29
        replace hrb22 := hrb22.evo0 hEw29
        replace hA24 := hA24.evo0 hEw29
        have hAb28 := hbb28.at
        refine h_next hC18 ?_
        refine h_one (i := 11) (by kernel_rfl) ?_
        refine h_do (by exact rfl) ?_
        refine r_op rfl rfl rfl (run_ld1 rfl ag_3 (by exact rfl) (hA24.cell 0 (by exact rfl))) ?_
        refine h_next hC18 ?_
        refine h_take (i := 12) (by exact rfl) rfl rfl rfl (by kernel_rfl) (fun w' hC => run_bld (pv := [(0, .int _ _), (1, S _), (2, .int _ _)]) (zs := [_, _, _]) (cells := [_, _, _]) rfl ty_26 (by exact rfl) pl_26 (by exact rfl) (by exact rfl)) hC18 ?_
        refine h_one (i := 14) (by kernel_rfl) ?_
        refine h_do (by exact rfl) ?_
        refine r_store (v := .agg _) (vs := [_, _, _]) (cs' := [_, _, _]) (by exact rfl) (by exact rfl) hbb28 ty_26 (by exact rfl) rfl (by exact rfl) rfl (by exact rfl) ?_
        intro w30 hEw30 hzw30 hb_new
        have hs_w30 := (hEw30).size
        replace hV := evo_step1 hV hEw30 (by first | exact .inl (by omega) | exact .inr (by simp))
        replace hbb28 := hb_new
        have hAb28 := hbb28.at
        clear hb_new
        refine h_last (by kernel_rfl) ?_
        refine h_done (by kernel_rfl) ?_
        refine r_cut_end ?_ ?_
        ·refine ⟨_, _, _, rfl, hbb28, hbb28.at, hbb28.lt, (by first | assumption | omega | (dsimp only; omega) | (simp; done)), hV⟩
        ·repeat (first | (with_reducible exact Agree.merge _ _ _) | (with_reducible exact Agree.refl _ _) | (with_reducible refine Agree.upd ?_ _ _ rfl) | ((with_reducible refine Agree.inner ?_ ?_); (kernel_rfl)))
      ·skip
       refine h_do (by exact rfl) ?_
       refine r_alloc (zs := [_, _, _]) ty_26 (by exact rfl) rfl ?_
       intro b31 w32 heb31 hEw32 hbb31 hzb31
       have hs_w32 := (hEw32).size
       replace hV := evo_step0 hV hEw32
       replace hC18 := evo_step0 hC18 hEw32
       replace hr14 := hr14.evo0 hEw32
       replace hrb19 := hrb19.evo0 hEw32
       have hAb31 := hbb31.at
       refine h_next hC18 ?_
       refine h_one (i := 7) (by kernel_rfl) ?_
       refine h_do (by exact rfl) ?_
       refine r_bslice (pv := [(0, .int _ _), (1, .int _ _), (2, .int _ _), (3, .int _ _)]) (zs := [_]) (cs := [_, _, _, _]) Try.underlying24 ty_3 (by exact rfl) rfl (by exact rfl) rfl (by exact rfl) ?_
       intro b33 w34 heb33 hEw34 hbb33 hzb33
       have hs_w34 := (hEw34).size
       replace hV := evo_step0 hV hEw34
       replace hC18 := evo_step0 hC18 hEw34
       replace hr14 := hr14.evo0 hEw34
       replace hrb19 := hrb19.evo0 hEw34
       replace hbb31 := hbb31.evo0 hEw34
       replace hAb31 := hAb31.evo0 hEw34
       have hAb33 := hbb33.at
       have hrb33 : RowE w34 (some ⟨b33, 0, none⟩) b33 0 4 idW := rowLit idW hbb33 rfl rfl
       refine h_next hC18 ?_
       refine h_take (i := 10) (by exact rfl) rfl rfl rfl (by kernel_rfl) (fun w' hC => run_ix ((idn % 4).toNat) rfl Try.underlying24 ty_3 (by exact rfl) (by exact rfl) (by omega) (by show _ < 4; omega) (hrb33.addr (i := (idn % 4).toNat) (by show _ < 4; omega))) hC18 ?_
       have hA35 := hrb33.atD ((idn % 4).toNat) (by show _ < 4; omega)
       refine h_one (i := 11) (by kernel_rfl) ?_
       refine h_do (by exact rfl) ?_
       refine r_op rfl rfl rfl (run_ld1 rfl ag_3 (by exact rfl) (hA35.cell 0 (by exact rfl))) ?_
       refine h_next hC18 ?_
       refine h_take (i := 12) (by exact rfl) rfl rfl rfl (by kernel_rfl) (fun w' hC => run_bld (pv := [(0, .int _ _), (1, S _), (2, .int _ _)]) (zs := [_, _, _]) (cells := [_, _, _]) rfl ty_26 (by exact rfl) pl_26 (by exact rfl) (by exact rfl)) hC18 ?_
       refine h_one (i := 14) (by kernel_rfl) ?_
       refine h_do (by exact rfl) ?_
       refine r_store (v := .agg _) (vs := [_, _, _]) (cs' := [_, _, _]) (by exact rfl) (by exact rfl) hbb31 ty_26 (by exact rfl) rfl (by exact rfl) rfl (by exact rfl) ?_
       intro w36 hEw36 hzw36 hb_new
       have hs_w36 := (hEw36).size
       replace hV := evo_step1 hV hEw36 (by first | exact .inl (by omega) | exact .inr (by simp))
       replace hbb31 := hb_new
       have hAb31 := hbb31.at
       clear hb_new
       refine h_last (by kernel_rfl) ?_
       refine h_done (by kernel_rfl) ?_
       refine r_cut_end ?_ ?_
       ·refine ⟨_, _, _, rfl, hbb31, hbb31.at, hbb31.lt, (by first | assumption | omega | (dsimp only; omega) | (simp; done)), hV⟩
       ·repeat (first | (with_reducible exact Agree.merge _ _ _) | (with_reducible exact Agree.refl _ _) | (with_reducible refine Agree.upd ?_ _ _ rfl) | ((with_reducible refine Agree.inner ?_ ?_); (kernel_rfl)))
     ·skip
      refine h_do (by exact rfl) ?_
      refine r_bslice (pv := [(0, .int _ _), (1, .int _ _), (2, .int _ _), (3, .int _ _)]) (zs := [_]) (cs := [_, _, _, _]) Try.underlying24 ty_3 (by exact rfl) rfl (by exact rfl) rfl (by exact rfl) ?_
      intro b37 w38 heb37 hEw38 hbb37 hzb37
      have hs_w38 := (hEw38).size
      replace hV := evo_step0 hV hEw38
      replace hC18 := evo_step0 hC18 hEw38
      replace hr14 := hr14.evo0 hEw38
      replace hrb19 := hrb19.evo0 hEw38
      replace hA21 := hA21.evo0 hEw38
      have hAb37 := hbb37.at
      have hrb37 : RowE w38 (some ⟨b37, 0, none⟩) b37 0 4 idW := rowLit idW hbb37 rfl rfl
      refine h_next hC18 ?_
      refine h_take (i := 10) (by exact rfl) rfl rfl rfl (by kernel_rfl) (fun w' hC => run_ix ((idn % 4).toNat) rfl Try.underlying24 ty_3 (by exact rfl) (by exact rfl) (by omega) (by show _ < 4; omega) (hrb37.addr (i := (idn % 4).toNat) (by show _ < 4; omega))) hC18 ?_
      have hA39 := hrb37.atD ((idn % 4).toNat) (by show _ < 4; omega)
      refine h_three (i := 4) (j := 11) (p := 13) (by kernel_rfl) ?_ ?_ ?_
      ·skip
       refine h_do (by exact rfl) ?_
       refine r_op rfl rfl rfl (run_ld1 rfl ag_3 (by exact rfl) (hA21.cell 0 (by exact rfl))) ?_
       refine h_next hC18 ?_
       refine h_two (i := 11) (j := 13) (by kernel_rfl) ?_ ?_
       ·skip
        refine h_do (by exact rfl) ?_
        refine r_op rfl rfl rfl (run_ld1 rfl ag_3 (by exact rfl) (hA39.cell 0 (by exact rfl))) ?_
        refine h_next hC18 ?_
        refine h_take (i := 12) (by exact rfl) rfl rfl rfl (by kernel_rfl) (fun w' hC => run_bld (pv := [(0, .int _ _), (1, S _), (2, .int _ _)]) (zs := [_, _, _]) (cells := [_, _, _]) rfl ty_26 (by exact rfl) pl_26 (by exact rfl) (by exact rfl)) hC18 ?_
        refine h_one (i := 13) (by kernel_rfl) ?_
        refine h_do (by exact rfl) ?_
        refine r_alloc (zs := [_, _, _]) ty_26 (by exact rfl) rfl ?_
        intro b40 w41 heb40 hEw41 hbb40 hzb40
        have hs_w41 := (hEw41).size
        replace hV := evo_step0 hV hEw41
        replace hC18 := evo_step0 hC18 hEw41
        replace hr14 := hr14.evo0 hEw41
        replace hrb19 := hrb19.evo0 hEw41
        replace hrb37 := hrb37.evo0 hEw41
        have hAb40 := hbb40.at
        refine h_next hC18 ?_
        refine h_one (i := 14) (by kernel_rfl) ?_
        refine h_do (by exact rfl) ?_
        refine r_store (v := .agg _) (vs := [_, _, _]) (cs' := [_, _, _]) (by exact rfl) (by exact rfl) hbb40 ty_26 (by exact rfl) rfl (by exact rfl) rfl (by exact rfl) ?_
        intro w42 hEw42 hzw42 hb_new
        have hs_w42 := (hEw42).size
        replace hV := evo_step1 hV hEw42 (by first | exact .inl (by omega) | exact .inr (by simp))
        replace hbb40 := hb_new
        have hAb40 := hbb40.at
        clear hb_new
        refine h_last (by kernel_rfl) ?_
        refine h_done (by kernel_rfl) ?_
        refine r_cut_end ?_ ?_
        ·refine ⟨_, _, _, rfl, hbb40, hbb40.at, hbb40.lt, (by first | assumption | omega | (dsimp only; omega) | (simp; done)), hV⟩
        ·repeat (first | (with_reducible exact Agree.merge _ _ _) | (with_reducible exact Agree.refl _ _) | (with_reducible refine Agree.upd ?_ _ _ rfl) | ((with_reducible refine Agree.inner ?_ ?_); (kernel_rfl)))
       ·skip
        refine h_do (by exact rfl) ?_
        refine r_alloc (zs := [_, _, _]) ty_26 (by exact rfl) rfl ?_
        intro b43 w44 heb43 hEw44 hbb43 hzb43
        have hs_w44 := (hEw44).size
        replace hV := evo_step0 hV hEw44
        replace hC18 := evo_step0 hC18 hEw44
        replace hr14 := hr14.evo0 hEw44
        replace hrb19 := hrb19.evo0 hEw44
        replace hrb37 := hrb37.evo0 hEw44
        replace hA39 := hA39.evo0 hEw44
        have hAb43 := hbb43.at
        refine h_next hC18 ?_
        refine h_one (i := 11) (by kernel_rfl) ?_
        refine h_do (by exact rfl) ?_
        refine r_op rfl rfl rfl (run_ld1 rfl ag_3 (by exact rfl) (hA39.cell 0 (by exact rfl))) ?_
        refine h_next hC18 ?_
        refine h_take (i := 12) (by exact rfl) rfl rfl rfl (by kernel_rfl) (fun w' hC => run_bld (pv := [(0, .int _ _), (1, S _), (2, .int _ _)]) (zs := [_, _, _]) (cells := [_, _, _]) rfl ty_26 (by exact rfl) pl_26 (by exact rfl) (by exact rfl)) hC18 ?_
        refine h_one (i := 14) (by kernel_rfl) ?_
        refine h_do (by exact rfl) ?_
        refine r_store (v := .agg _) (vs := [_, _, _]) (cs' := [_, _, _]) (by exact rfl) (by exact rfl) hbb43 ty_26 (by exact rfl) rfl (by exact rfl) rfl (by exact rfl) ?_
        intro w45 hEw45 hzw45 hb_new
        have hs_w45 := (hEw45).size
        replace hV := evo_step1 hV hEw45 (by first | exact .inl (by omega) | exact .inr (by simp))
        replace hbb43 := hb_new
        have hAb43 := hbb43.at
        clear hb_new
        refine h_last (by kernel_rfl) ?_
        refine h_done (by kernel_rfl) ?_
        refine r_cut_end ?_ ?_
        ·refine ⟨_, _, _, rfl, hbb43, hbb43.at, hbb43.lt, (by first | assumption | omega | (dsimp only; omega) | (simp; done)), hV⟩
        ·repeat (first | (with_reducible exact Agree.merge _ _ _) | (with_reducible exact Agree.refl _ _) | (with_reducible refine Agree.upd ?_ _ _ rfl) | ((with_reducible refine Agree.inner ?_ ?_); (kernel_rfl)))
      ·skip
       refine h_do (by exact rfl) ?_
       refine r_op rfl rfl rfl (run_ld1 rfl ag_3 (by exact rfl) (hA39.cell 0 (by exact rfl))) ?_
       refine h_next hC18 ?_
       refine h_two (i := 4) (j := 13) (by kernel_rfl) ?_ ?_
       ·skip
        refine h_do (by exact rfl) ?_
        refine r_op rfl rfl rfl (run_ld1 rfl ag_3 (by exact rfl) (hA21.cell 0 (by exact rfl))) ?_
        refine h_next hC18 ?_
        refine h_take (i := 12) (by exact rfl) rfl rfl rfl (by kernel_rfl) (fun w' hC => run_bld (pv := [(0, .int _ _), (1, S _), (2, .int _ _)]) (zs := [_, _, _]) (cells := [_, _, _]) rfl ty_26 (by exact rfl) pl_26 (by exact rfl) (by exact rfl)) hC18 ?_
        refine h_one (i := 13) (by kernel_rfl) ?_
        refine h_do (by exact rfl) ?_
        refine r_alloc (zs := [_, _, _]) ty_26 (by exact rfl) rfl ?_
        intro b46 w47 heb46 hEw47 hbb46 hzb46
        have hs_w47 := (hEw47).size
        replace hV := evo_step0 hV hEw47
        replace hC18 := evo_step0 hC18 hEw47
        replace hr14 := hr14.evo0 hEw47
        replace hrb19 := hrb19.evo0 hEw47
        replace hrb37 := hrb37.evo0 hEw47
        have hAb46 := hbb46.at
        refine h_next hC18 ?_
        refine h_one (i := 14) (by kernel_rfl) ?_
        refine h_do (by exact rfl) ?_
        refine r_store (v := .agg _) (vs := [_, _, _]) (cs' := [_, _, _]) (by exact rfl) (by exact rfl) hbb46 ty_26 (by exact rfl) rfl (by exact rfl) rfl (by exact rfl) ?_
        intro w48 hEw48 hzw48 hb_new
        have hs_w48 := (hEw48).size
        replace hV := evo_step1 hV hEw48 (by first | exact .inl (by omega) | exact .inr (by simp))
        replace hbb46 := hb_new
        have hAb46 := hbb46.at
        clear hb_new
        refine h_last (by kernel_rfl) ?_
        refine h_done (by kernel_rfl) ?_
        refine r_cut_end ?_ ?_
        ·refine ⟨_, _, _, rfl, hbb46, hbb46.at, hbb46.lt, (by first | assumption | omega | (dsimp only; omega) | (simp; done)), hV⟩
        ·repeat (first | (with_reducible exact Agree.merge _ _ _) | (with_reducible exact Agree.refl _ _) | (with_reducible refine Agree.upd ?_ _ _ rfl) | ((with_reducible refine Agree.inner ?_ ?_); (kernel_rfl)))
       ·skip
        refine h_do (by exact rfl) ?_
        refine r_alloc (zs := [_, _, _]) ty_26 (by exact rfl) rfl ?_
        intro b49 w50 heb49 hEw50 hbb49 hzb49
        have hs_w50 := (hEw50).size
        replace hV := evo_step0 hV hEw50
        replace hC18 := evo_step0 hC18 hEw50
        replace hr14 := hr14.evo0 hEw50
        replace hrb19 := hrb19.evo0 hEw50
        replace hA21 := hA21.evo0 hEw50
        replace hrb37 := hrb37.evo0 hEw50
        have hAb49 := hbb49.at
        refine h_next hC18 ?_
        refine h_one (i := 4) (by kernel_rfl) ?_
        refine h_do (by exact rfl) ?_
        refine r_op rfl rfl rfl (run_ld1 rfl ag_3 (by exact rfl) (hA21.cell 0 (by exact rfl))) ?_
        refine h_next hC18 ?_
        refine h_take (i := 12) (by exact rfl) rfl rfl rfl (by kernel_rfl) (fun w' hC => run_bld (pv := [(0, .int _ _), (1, S _), (2, .int _ _)]) (zs := [_, _, _]) (cells := [_, _, _]) rfl ty_26 (by exact rfl) pl_26 (by exact rfl) (by exact rfl)) hC18 ?_
        refine h_one (i := 14) (by kernel_rfl) ?_
        refine h_do (by exact rfl) ?_
        refine r_store (v := .agg _) (vs := [_, _, _]) (cs' := [_, _, _]) (by exact rfl) (by exact rfl) hbb49 ty_26 (by exact rfl) rfl (by exact rfl) rfl (by exact rfl) ?_
        intro w51 hEw51 hzw51 hb_new
        have hs_w51 := (hEw51).size
        replace hV := evo_step1 hV hEw51 (by first | exact .inl (by omega) | exact .inr (by simp))
        replace hbb49 := hb_new
        have hAb49 := hbb49.at
        clear hb_new
        refine h_last (by kernel_rfl) ?_
        refine h_done (by kernel_rfl) ?_
        refine r_cut_end ?_ ?_
        ·refine ⟨_, _, _, rfl, hbb49, hbb49.at, hbb49.lt, (by first | assumption | omega | (dsimp only; omega) | (simp; done)), hV⟩
        ·repeat (first | (with_reducible exact Agree.merge _ _ _) | (with_reducible exact Agree.refl _ _) | (with_reducible refine Agree.upd ?_ _ _ rfl) | ((with_reducible refine Agree.inner ?_ ?_); (kernel_rfl)))
      ·skip
       refine h_do (by exact rfl) ?_
       refine r_alloc (zs := [_, _, _]) ty_26 (by exact rfl) rfl ?_
       intro b52 w53 heb52 hEw53 hbb52 hzb52
       have hs_w53 := (hEw53).size
       replace hV := evo_step0 hV hEw53
       replace hC18 := evo_step0 hC18 hEw53
       replace hr14 := hr14.evo0 hEw53
       replace hrb19 := hrb19.evo0 hEw53
       replace hA21 := hA21.evo0 hEw53
       replace hrb37 := hrb37.evo0 hEw53
       replace hA39 := hA39.evo0 hEw53
       have hAb52 := hbb52.at
       refine h_next hC18 ?_
       refine h_two (i := 4) (j := 11) (by kernel_rfl) ?_ ?_
       ·skip
        refine h_do (by exact rfl) ?_
        refine r_op rfl rfl rfl (run_ld1 rfl ag_3 (by exact rfl) (hA21.cell 0 (by exact rfl))) ?_
        refine h_next hC18 ?_
        refine h_one (i := 11) (by kernel_rfl) ?_
        refine h_do (by exact rfl) ?_
        refine r_op rfl rfl rfl (run_ld1 rfl ag_3 (by exact rfl) (hA39.cell 0 (by exact rfl))) ?_
        refine h_next hC18 ?_
        refine h_take (i := 12) (by exact rfl) rfl rfl rfl (by kernel_rfl) (fun w' hC => run_bld (pv := [(0, .int _ _), (1, S _), (2, .int _ _)]) (zs := [_, _, _]) (cells := [_, _, _]) rfl ty_26 (by exact rfl) pl_26 (by exact rfl) (by exact rfl)) hC18 ?_
        refine h_one (i := 14) (by kernel_rfl) ?_
        refine h_do (by exact rfl) ?_
        refine r_store (v := .agg _) (vs := [_, _, _]) (cs' := [_, _, _]) (by exact rfl) (by exact rfl) hbb52 ty_26 (by exact rfl) rfl (by exact rfl) rfl (by exact rfl) ?_
        intro w54 hEw54 hzw54 hb_new
        have hs_w54 := (hEw54).size
        replace hV := evo_step1 hV hEw54 (by first | exact .inl (by omega) | exact .inr (by simp))
        replace hbb52 := hb_new
        have hAb52 := hbb52.at
        clear hb_new
        refine h_last (by kernel_rfl) ?_
        refine h_done (by kernel_rfl) ?_
        refine r_cut_end ?_ ?_
        ·refine ⟨_, _, _, rfl, hbb52, hbb52.at, hbb52.lt, (by first | assumption | omega | (dsimp only; omega) | (simp; done)), hV⟩
        ·repeat (first | (with_reducible exact Agree.merge _ _ _) | (with_reducible exact Agree.refl _ _) | (with_reducible refine Agree.upd ?_ _ _ rfl) | ((with_reducible refine Agree.inner ?_ ?_); (kernel_rfl)))
       ·skip
        refine h_do (by exact rfl) ?_
        refine r_op rfl rfl rfl (run_ld1 rfl ag_3 (by exact rfl) (hA39.cell 0 (by exact rfl))) ?_
        refine h_next hC18 ?_
        refine h_one (i := 4) (by kernel_rfl) ?_
        refine h_do (by exact rfl) ?_
        refine r_op rfl rfl rfl (run_ld1 rfl ag_3 (by exact rfl) (hA21.cell 0 (by exact rfl))) ?_
        refine h_next hC18 ?_
        refine h_take (i := 12) (by exact rfl) rfl rfl rfl (by kernel_rfl) (fun w' hC => run_bld (pv := [(0, .int _ _), (1, S _), (2, .int _ _)]) (zs := [_, _, _]) (cells := [_, _, _]) rfl ty_26 (by exact rfl) pl_26 (by exact rfl) (by exact rfl)) hC18 ?_
        refine h_one (i := 14) (by kernel_rfl) ?_
        refine h_do (by exact rfl) ?_
        refine r_store (v := .agg _) (vs := [_, _, _]) (cs' := [_, _, _]) (by exact rfl) (by exact rfl) hbb52 ty_26 (by exact rfl) rfl (by exact rfl) rfl (by exact rfl) ?_
        intro w55 hEw55 hzw55 hb_new
        have hs_w55 := (hEw55).size
        replace hV := evo_step1 hV hEw55 (by first | exact .inl (by omega) | exact .inr (by simp))
        replace hbb52 := hb_new
        have hAb52 := hbb52.at
        clear hb_new
        refine h_last (by kernel_rfl) ?_
        refine h_done (by kernel_rfl) ?_
        refine r_cut_end ?_ ?_
        ·refine ⟨_, _, _, rfl, hbb52, hbb52.at, hbb52.lt, (by first | assumption | omega | (dsimp only; omega) | (simp; done)), hV⟩
        ·repeat (first | (with_reducible exact Agree.merge _ _ _) | (with_reducible exact Agree.refl _ _) | (with_reducible refine Agree.upd ?_ _ _ rfl) | ((with_reducible refine Agree.inner ?_ ?_); (kernel_rfl)))
     ·skip
      refine h_do (by exact rfl) ?_
      refine r_alloc (zs := [_, _, _]) ty_26 (by exact rfl) rfl ?_
      intro b56 w57 heb56 hEw57 hbb56 hzb56
      have hs_w57 := (hEw57).size
      replace hV := evo_step0 hV hEw57
      replace hC18 := evo_step0 hC18 hEw57
      replace hr14 := hr14.evo0 hEw57
      replace hrb19 := hrb19.evo0 hEw57
      replace hA21 := hA21.evo0 hEw57
      have hAb56 := hbb56.at
      refine h_next hC18 ?_
      refine h_two (i := 4) (j := 7) (by kernel_rfl) ?_ ?_
      ·skip
       refine h_do (by exact rfl) ?_
       refine r_op rfl rfl rfl (run_ld1 rfl ag_3 (by exact rfl) (hA21.cell 0 (by exact rfl))) ?_
       refine h_next hC18 ?_
       refine h_one (i := 7) (by kernel_rfl) ?_
       refine h_do (by exact rfl) ?_
       refine r_bslice (pv := [(0, .int _ _), (1, .int _ _), (2, .int _ _), (3, .int _ _)]) (zs := [_]) (cs := [_, _, _, _]) Try.underlying24 ty_3 (by exact rfl) rfl (by exact rfl) rfl (by exact rfl) ?_
       intro b58 w59 heb58 hEw59 hbb58 hzb58
       have hs_w59 := (hEw59).size
       replace hV := evo_step0 hV hEw59
       replace hC18 := evo_step0 hC18 hEw59
       replace hr14 := hr14.evo0 hEw59
       replace hrb19 := hrb19.evo0 hEw59
       replace hbb56 := hbb56.evo0 hEw59
       replace hAb56 := hAb56.evo0 hEw59
       have hAb58 := hbb58.at
       have hrb58 : RowE w59 (some ⟨b58, 0, none⟩) b58 0 4 idW := rowLit idW hbb58 rfl rfl
       refine h_next hC18 ?_
       refine h_take (i := 10) (by exact rfl) rfl rfl rfl (by kernel_rfl) (fun w' hC => run_ix ((idn % 4).toNat) rfl Try.underlying24 ty_3 (by exact rfl) (by exact rfl) (by omega) (by show _ < 4; omega) (hrb58.addr (i := (idn % 4).toNat) (by show _ < 4; omega))) hC18 ?_
       have hA60 := hrb58.atD ((idn % 4).toNat) (by show _ < 4; omega)
       refine h_one (i := 11) (by kernel_rfl) ?_
       refine h_do (by exact rfl) ?_
       refine r_op rfl rfl rfl (run_ld1 rfl ag_3 (by exact rfl) (hA60.cell 0 (by exact rfl))) ?_
       refine h_next hC18 ?_
       refine h_take (i := 12) (by exact rfl) rfl rfl rfl (by kernel_rfl) (fun w' hC => run_bld (pv := [(0, .int _ _), (1, S _), (2, .int _ _)]) (zs := [_, _, _]) (cells := [_, _, _]) rfl ty_26 (by exact rfl) pl_26 (by exact rfl) (by exact rfl)) hC18 ?_
       refine h_one (i := 14) (by kernel_rfl) ?_
       refine h_do (by exact rfl) ?_
       refine r_store (v := .agg _) (vs := [_, _, _]) (cs' := [_, _, _]) (by exact rfl) (by exact rfl) hbb56 ty_26 (by exact rfl) rfl (by exact rfl) rfl (by exact rfl) ?_
       intro w61 hEw61 hzw61 hb_new
       have hs_w61 := (hEw61).size
       replace hV := evo_step1 hV hEw61 (by first | exact .inl (by omega) | exact .inr (by simp))
       replace hbb56 := hb_new
       have hAb56 := hbb56.at
       clear hb_new
       refine h_last (by kernel_rfl) ?_
       refine h_done (by kernel_rfl) ?_
       refine r_cut_end ?_ ?_
       ·refine ⟨_, _, _, rfl, hbb56, hbb56.at, hbb56.lt, (by first | assumption | omega | (dsimp only; omega) | (simp; done)), hV⟩
       ·repeat (first | (with_reducible exact Agree.merge _ _ _) | (with_reducible exact Agree.refl _ _) | (with_reducible refine Agree.upd ?_ _ _ rfl) | ((with_reducible refine Agree.inner ?_ ?_); (kernel_rfl)))
      ·skip
       refine h_do (by exact rfl) ?_
       refine r_bslice (pv := [(0, .int _ _), (1, .int _ _), (2, .int _ _), (3, .int _ _)]) (zs := [_]) (cs := [_, _, _, _]) Try.underlying24 ty_3 (by exact rfl) rfl (by exact rfl) rfl (by exact rfl) ?_
       intro b62 w63 heb62 hEw63 hbb62 hzb62
       have hs_w63 := (hEw63).size
       replace hV := evo_step0 hV hEw63
       replace hC18 := evo_step0 hC18 hEw63
       replace hr14 := hr14.evo0 hEw63
       replace hrb19 := hrb19.evo0 hEw63
       replace hA21 := hA21.evo0 hEw63
       replace hbb56 := hbb56.evo0 hEw63
       replace hAb56 := hAb56.evo0 hEw63
       have hAb62 := hbb62.at
       have hrb62 : RowE w63 (some ⟨b62, 0, none⟩) b62 0 4 idW := rowLit idW hbb62 rfl rfl
       refine h_next hC18 ?_
       refine h_take (i := 10) (by exact rfl) rfl rfl rfl (by kernel_rfl) (fun w' hC => run_ix ((idn % 4).toNat) rfl Try.underlying24 ty_3 (by exact rfl) (by exact rfl) (by omega) (by show _ < 4; omega) (hrb62.addr (i := (idn % 4).toNat) (by show _ < 4; omega))) hC18 ?_
       have hA64 := hrb62.atD ((idn % 4).toNat) (by show _ < 4; omega)
       refine h_two (i := 4) (j := 11) (by kernel_rfl) ?_ ?_
       ·skip
        refine h_do (by exact rfl) ?_
        refine r_op rfl rfl rfl (run_ld1 rfl ag_3 (by exact rfl) (hA21.cell 0 (by exact rfl))) ?_
        refine h_next hC18 ?_
        refine h_one (i := 11) (by kernel_rfl) ?_
        refine h_do (by exact rfl) ?_
        refine r_op rfl rfl rfl (run_ld1 rfl ag_3 (by exact rfl) (hA64.cell 0 (by exact rfl))) ?_
        refine h_next hC18 ?_
        refine h_take (i := 12) (by exact rfl) rfl rfl rfl (by kernel_rfl) (fun w' hC => run_bld (pv := [(0, .int _ _), (1, S _), (2, .int _ _)]) (zs := [_, _, _]) (cells := [_, _, _]) rfl ty_26 (by exact rfl) pl_26 (by exact rfl) (by exact rfl)) hC18 ?_
        refine h_one (i := 14) (by kernel_rfl) ?_
        refine h_do (by exact rfl) ?_
        refine r_store (v := .agg _) (vs := [_, _, _]) (cs' := [_, _, _]) (by exact rfl) (by exact rfl) hbb56 ty_26 (by exact rfl) rfl (by exact rfl) rfl (by exact rfl) ?_
        intro w65 hEw65 hzw65 hb_new
        have hs_w65 := (hEw65).size
        replace hV := evo_step1 hV hEw65 (by first | exact .inl (by omega) | exact .inr (by simp))
        replace hbb56 := hb_new
        have hAb56 := hbb56.at
        clear hb_new
        refine h_last (by kernel_rfl) ?_
        refine h_done (by kernel_rfl) ?_
        refine r_cut_end ?_ ?_
        ·refine ⟨_, _, _, rfl, hbb56, hbb56.at, hbb56.lt, (by first | assumption | omega | (dsimp only; omega) | (simp; done)), hV⟩
        ·repeat (first | (with_reducible exact Agree.merge _ _ _) | (with_reducible exact Agree.refl _ _) | (with_reducible refine Agree.upd ?_ _ _ rfl) | ((with_reducible refine Agree.inner ?_ ?_); (kernel_rfl)))
       ·skip
        refine h_do (by exact rfl) ?_
        refine r_op rfl rfl rfl (run_ld1 rfl ag_3 (by exact rfl) (hA64.cell 0 (by exact rfl))) ?_
        refine h_next hC18 ?_
        refine h_one (i := 4) (by kernel_rfl) ?_
        refine h_do (by exact rfl) ?_
        refine r_op rfl rfl rfl (run_ld1 rfl ag_3 (by exact rfl) (hA21.cell 0 (by exact rfl))) ?_
        refine h_next hC18 ?_
        refine h_take (i := 12) (by exact rfl) rfl rfl rfl (by kernel_rfl) (fun w' hC => run_bld (pv := [(0, .int _ _), (1, S _), (2, .int _ _)]) (zs := [_, _, _]) (cells := [_, _, _]) rfl ty_26 (by exact rfl) pl_26 (by exact rfl) (by exact rfl)) hC18 ?_
        refine h_one (i := 14) (by kernel_rfl) ?_
        refine h_do (by exact rfl) ?_
        refine r_store (v := .agg _) (vs := [_, _, _]) (cs' := [_, _, _]) (by exact rfl) (by exact rfl) hbb56 ty_26 (by exact rfl) rfl (by exact rfl) rfl (by exact rfl) ?_
        intro w66 hEw66 hzw66 hb_new
        have hs_w66 := (hEw66).size
        replace hV := evo_step1 hV hEw66 (by first | exact .inl (by omega) | exact .inr (by simp))
        replace hbb56 := hb_new
        have hAb56 := hbb56.at
        clear hb_new
        refine h_last (by kernel_rfl) ?_
        refine h_done (by kernel_rfl) ?_
        refine r_cut_end ?_ ?_
        ·refine ⟨_, _, _, rfl, hbb56, hbb56.at, hbb56.lt, (by first | assumption | omega | (dsimp only; omega) | (simp; done)), hV⟩
        ·repeat (first | (with_reducible exact Agree.merge _ _ _) | (with_reducible exact Agree.refl _ _) | (with_reducible refine Agree.upd ?_ _ _ rfl) | ((with_reducible refine Agree.inner ?_ ?_); (kernel_rfl)))
    ·skip
     refine h_do (by exact rfl) ?_
     refine r_bslice (pv := [(0, .int _ _), (1, .int _ _), (2, .int _ _), (3, .int _ _)]) (zs := [_]) (cs := [_, _, _, _]) Try.underlying24 ty_3 (by exact rfl) rfl (by exact rfl) rfl (by exact rfl) ?_
     intro b67 w68 heb67 hEw68 hbb67 hzb67
     have hs_w68 := (hEw68).size
     replace hV := evo_step0 hV hEw68
     replace hC18 := evo_step0 hC18 hEw68
     replace hr14 := hr14.evo0 hEw68
     have hAb67 := hbb67.at
     have hrb67 : RowE w68 (some ⟨b67, 0, none⟩) b67 0 4 idW := rowLit idW hbb67 rfl rfl
     refine h_next hC18 ?_
     refine h_take (i := 10) (by exact rfl) rfl rfl rfl (by kernel_rfl) (fun w' hC => run_ix ((idn % 4).toNat) rfl Try.underlying24 ty_3 (by exact rfl) (by exact rfl) (by omega) (by show _ < 4; omega) (hrb67.addr (i := (idn % 4).toNat) (by show _ < 4; omega))) hC18 ?_
     have hA69 := hrb67.atD ((idn % 4).toNat) (by show _ < 4; omega)
     refine h_three (i := 0) (j := 11) (p := 13) (by kernel_rfl) ?_ ?_ ?_
     ·skip
      refine h_do (by exact rfl) ?_
      refine r_bslice (pv := [(0, .int _ _), (1, .int _ _)]) (zs := [_]) (cs := [_, _]) Try.underlying24 ty_3 (by exact rfl) rfl (by exact rfl) rfl (by exact rfl) ?_
      intro b70 w71 heb70 hEw71 hbb70 hzb70
      have hs_w71 := (hEw71).size
      replace hV := evo_step0 hV hEw71
      replace hC18 := evo_step0 hC18 hEw71
      replace hr14 := hr14.evo0 hEw71
      replace hrb67 := hrb67.evo0 hEw71
      replace hA69 := hA69.evo0 hEw71
      have hAb70 := hbb70.at
      have hrb70 : RowE w71 (some ⟨b70, 0, none⟩) b70 0 2 kindW := rowLit kindW hbb70 rfl rfl
      refine h_next hC18 ?_
      refine h_take (i := 3) (by exact rfl) rfl rfl rfl (by kernel_rfl) (fun w' hC => run_ix ((kn % 2).toNat) rfl Try.underlying24 ty_3 (by exact rfl) (by exact rfl) (by omega) (by show _ < 2; omega) (hrb70.addr (i := (kn % 2).toNat) (by show _ < 2; omega))) hC18 ?_
      have hA72 := hrb70.atD ((kn % 2).toNat) (by show _ < 2; omega)
      refine h_three (i := 4) (j := 11) (p := 13) (by kernel_rfl) ?_ ?_ ?_
      ·skip
       refine h_do (by exact rfl) ?_
       refine r_op rfl rfl rfl (run_ld1 rfl ag_3 (by exact rfl) (hA72.cell 0 (by exact rfl))) ?_
       refine h_next hC18 ?_
       refine h_two (i := 11) (j := 13) (by kernel_rfl) ?_ ?_
       ·skip
        refine h_do (by exact rfl) ?_
        refine r_op rfl rfl rfl (run_ld1 rfl ag_3 (by exact rfl) (hA69.cell 0 (by exact rfl))) ?_
        refine h_next hC18 ?_
        refine h_take (i := 12) (by exact rfl) rfl rfl rfl (by kernel_rfl) (fun w' hC => run_bld (pv := [(0, .int _ _), (1, S _), (2, .int _ _)]) (zs := [_, _, _]) (cells := [_, _, _]) rfl ty_26 (by exact rfl) pl_26 (by exact rfl) (by exact rfl)) hC18 ?_
        refine h_one (i := 13) (by kernel_rfl) ?_
        refine h_do (by exact rfl) ?_
        refine r_alloc (zs := [_, _, _]) ty_26 (by exact rfl) rfl ?_
        intro b73 w74 heb73 hEw74 hbb73 hzb73
        have hs_w74 := (hEw74).size
        replace hV := evo_step0 hV hEw74
        replace hC18 := evo_step0 hC18 hEw74
        replace hr14 := hr14.evo0 hEw74
        replace hrb67 := hrb67.evo0 hEw74
        replace hrb70 := hrb70.evo0 hEw74
        have hAb73 := hbb73.at
        refine h_next hC18 ?_
        refine h_one (i := 14) (by kernel_rfl) ?_
        refine h_do (by exact rfl) ?_
        refine r_store (v := .agg _) (vs := [_, _, _]) (cs' := [_, _, _]) (by exact rfl) (by exact rfl) hbb73 ty_26 (by exact rfl) rfl (by exact rfl) rfl (by exact rfl) ?_
        intro w75 hEw75 hzw75 hb_new
        have hs_w75 := (hEw75).size
        replace hV := evo_step1 hV hEw75 (by first | exact .inl (by omega) | exact .inr (by simp))
        replace hbb73 := hb_new
        have hAb73 := hbb73.at
        clear hb_new
        refine h_last (by kernel_rfl) ?_
        refine h_done (by kernel_rfl) ?_
        refine r_cut_end ?_ ?_
        ·refine ⟨_, _, _, rfl, hbb73, hbb73.at, hbb73.lt, (by first | assumption | omega | (dsimp only; omega) | (simp; done)), hV⟩
        ·repeat (first | (with_reducible exact Agree.merge _ _ _) | (with_reducible exact Agree.refl _ _) | (with_reducible refine Agree.upd ?_ _ _ rfl) | ((with_reducible refine Agree.inner ?_ ?_); (kernel_rfl)))
       ·skip
        refine h_do (by exact rfl) ?_
        refine r_alloc (zs := [_, _, _]) ty_26 (by exact rfl) rfl ?_
        intro b76 w77 heb76 hEw77 hbb76 hzb76
        have hs_w77 := (hEw77).size
        replace hV := evo_step0 hV hEw77
        replace hC18 := evo_step0 hC18 hEw77
        replace hr14 := hr14.evo0 hEw77
        replace hrb67 := hrb67.evo0 hEw77
        replace hA69 := hA69.evo0 hEw77
        replace hrb70 := hrb70.evo0 hEw77
        have hAb76 := hbb76.at
        refine h_next hC18 ?_
        refine h_one (i := 11) (by kernel_rfl) ?_
        refine h_do (by exact rfl) ?_
        refine r_op rfl rfl rfl (run_ld1 rfl ag_3 (by exact rfl) (hA69.cell 0 (by exact rfl))) ?_
        refine h_next hC18 ?_
        refine h_take (i := 12) (by exact rfl) rfl rfl rfl (by kernel_rfl) (fun w' hC => run_bld (pv := [(0, .int _ _), (1, S _), (2, .int _ _)]) (zs := [_, _, _]) (cells := [_, _, _]) rfl ty_26 (by exact rfl) pl_26 (by exact rfl) (by exact rfl)) hC18 ?_
        refine h_one (i := 14) (by kernel_rfl) ?_
        refine h_do (by exact rfl) ?_
        refine r_store (v := .agg _) (vs := [_, _, _]) (cs' := [_, _, _]) (by exact rfl) (by exact rfl) hbb76 ty_26 (by exact rfl) rfl (by exact rfl) rfl (by exact rfl) ?_
        intro w78 hEw78 hzw78 hb_new
        have hs_w78 := (hEw78).size
        replace hV := evo_step1 hV hEw78 (by first | exact .inl (by omega) | exact .inr (by simp))
        replace hbb76 := hb_new
        have hAb76 := hbb76.at
        clear hb_new
        refine h_last (by kernel_rfl) ?_
        refine h_done (by kernel_rfl) ?_
        refine r_cut_end ?_ ?_
        ·refine ⟨_, _, _, rfl, hbb76, hbb76.at, hbb76.lt, (by first | assumption | omega | (dsimp only; omega) | (simp; done)), hV⟩
        ·repeat (first | (with_reducible exact Agree.merge _ _ _) | (with_reducible exact Agree.refl _ _) | (with_reducible refine Agree.upd ?_ _ _ rfl) | ((with_reducible refine Agree.inner ?_ ?_); (kernel_rfl)))
      ·skip
       refine h_do (by exact rfl) ?_
       refine r_op rfl rfl rfl (run_ld1 rfl ag_3 (by exact rfl) (hA69.cell 0 (by exact rfl))) ?_
       refine h_next hC18 ?_
       refine h_two (i := 4) (j := 13) (by kernel_rfl) ?_ ?_
       ·skip
        refine h_do (by exact rfl) ?_
        refine r_op rfl rfl rfl (run_ld1 rfl ag_3 (by exact rfl) (hA72.cell 0 (by exact rfl))) ?_
        refine h_next hC18 ?_
        refine h_take (i := 12) (by exact rfl) rfl rfl rfl (by kernel_rfl) (fun w' hC => run_bld (pv := [(0, .int _ _), (1, S _), (2, .int _ _)]) (zs := [_, _, _]) (cells := [_, _, _]) rfl ty_26 (by exact rfl) pl_26 (by exact rfl) (by exact rfl)) hC18 ?_
        refine h_one (i := 13) (by kernel_rfl) ?_
        refine h_do (by exact rfl) ?_
        refine r_alloc (zs := [_, _, _]) ty_26 (by exact rfl) rfl ?_
        intro b79 w80 heb79 hEw80 hbb79 hzb79
        have hs_w80 := (hEw80).size
        replace hV := evo_step0 hV hEw80
        replace hC18 := evo_step0 hC18 hEw80
        replace hr14 := hr14.evo0 hEw80
        replace hrb67 := hrb67.evo0 hEw80
        replace hrb70 := hrb70.evo0 hEw80
        have hAb79 := hbb79.at
        refine h_next hC18 ?_
        refine h_one (i := 14) (by kernel_rfl) ?_
        refine h_do (by exact rfl) ?_
        refine r_store (v := .agg _) (vs := [_, _, _]) (cs' := [_, _, _]) (by exact rfl) (by exact rfl) hbb79 ty_26 (by exact rfl) rfl (by exact rfl) rfl (by exact rfl) ?_
        intro w81 hEw81 hzw81 hb_new
        have hs_w81 := (hEw81).size
        replace hV := evo_step1 hV hEw81 (by first | exact .inl (by omega) | exact .inr (by simp))
        replace hbb79 := hb_new
        have hAb79 := hbb79.at
        clear hb_new
        refine h_last (by kernel_rfl) ?_
        refine h_done (by kernel_rfl) ?_
        refine r_cut_end ?_ ?_
        ·refine ⟨_, _, _, rfl, hbb79, hbb79.at, hbb79.lt, (by first | assumption | omega | (dsimp only; omega) | (simp; done)), hV⟩
        ·repeat (first | (with_reducible exact Agree.merge _ _ _) | (with_reducible exact Agree.refl _ _) | (with_reducible refine Agree.upd ?_ _ _ rfl) | ((with_reducible refine Agree.inner ?_ ?_); (kernel_rfl)))
       ·skip
        refine h_do (by exact rfl) ?_
        refine r_alloc (zs := [_, _, _]) ty_26 (by exact rfl) rfl ?_
        intro b82 w83 heb82 hEw83 hbb82 hzb82
        have hs_w83 := (hEw83).size
        replace hV := evo_step0 hV hEw83
        replace hC18 := evo_step0 hC18 hEw83
        replace hr14 := hr14.evo0 hEw83
        replace hrb67 := hrb67.evo0 hEw83
        replace hrb70 := hrb70.evo0 hEw83
        replace hA72 := hA72.evo0 hEw83
        have hAb82 := hbb82.at
        refine h_next hC18 ?_
        refine h_one (i := 4) (by kernel_rfl) ?_
        refine h_do (by exact rfl) ?_
        refine r_op rfl rfl rfl (run_ld1 rfl ag_3 (by exact rfl) (hA72.cell 0 (by exact rfl))) ?_
        refine h_next hC18 ?_
        refine h_take (i := 12) (by exact rfl) rfl rfl rfl (by kernel_rfl) (fun w' hC => run_bld (pv := [(0, .int _ _), (1, S _), (2, .int _ _)]) (zs := [_, _, _]) (cells := [_, _, _]) rfl ty_26 (by exact rfl) pl_26 (by exact rfl) (by exact rfl)) hC18 ?_
        refine h_one (i := 14) (by kernel_rfl) ?_
        refine h_do (by exact rfl) ?_
        refine r_store (v := .agg _) (vs := [_, _, _]) (cs' := [_, _, _]) (by exact rfl) (by exact rfl) hbb82 ty_26 (by exact rfl) rfl (by exact rfl) rfl (by exact rfl) ?_
        intro w84 hEw84 hzw84 hb_new
        have hs_w84 := (hEw84).size
        replace hV := evo_step1 hV hEw84 (by first | exact .inl (by omega) | exact .inr (by simp))
        replace hbb82 := hb_new
        have hAb82 := hbb82.at
        clear hb_new
        refine h_last (by kernel_rfl) ?_
        refine h_done (by kernel_rfl) ?_
        refine r_cut_end ?_ ?_
        ·refine ⟨_, _, _, rfl, hbb82, hbb82.at, hbb82.lt, (by first | assumption | omega | (dsimp only; omega) | (simp; done)), hV⟩
        ·repeat (first | (with_reducible exact Agree.merge _ _ _) | (with_reducible exact Agree.refl _ _) | (with_reducible refine Agree.upd ?_ _ _ rfl) | ((with_reducible refine Agree.inner ?_ ?_); (kernel_rfl)))
      ·skip
       refine h_do (by exact rfl) ?_
       refine r_alloc (zs := [_, _, _]) ty_26 (by exact rfl) rfl ?_
       intro b85 w86 heb85 hEw86 hbb85 hzb85
       have hs_w86 := (hEw86).size
       replace hV := evo_step0 hV hEw86
       replace hC18 := evo_step0 hC18 hEw86
       replace hr14 := hr14.evo0 hEw86
       replace hrb67 := hrb67.evo0 hEw86
       replace hA69 := hA69.evo0 hEw86
       replace hrb70 := hrb70.evo0 hEw86
       replace hA72 := hA72.evo0 hEw86
       have hAb85 := hbb85.at
       refine h_next hC18 ?_
       refine h_two (i := 4) (j := 11) (by kernel_rfl) ?_ ?_
       ·skip
        refine h_do (by exact rfl) ?_
        refine r_op rfl rfl rfl (run_ld1 rfl ag_3 (by exact rfl) (hA72.cell 0 (by exact rfl))) ?_
        refine h_next hC18 ?_
        refine h_one (i := 11) (by kernel_rfl) ?_
        refine h_do (by exact rfl) ?_
        refine r_op rfl rfl rfl (run_ld1 rfl ag_3 (by exact rfl) (hA69.cell 0 (by exact rfl))) ?_
        refine h_next hC18 ?_
        refine h_take (i := 12) (by exact rfl) rfl rfl rfl (by kernel_rfl) (fun w' hC => run_bld (pv := [(0, .int _ _), (1, S _), (2, .int _ _)]) (zs := [_, _, _]) (cells := [_, _, _]) rfl ty_26 (by exact rfl) pl_26 (by exact rfl) (by exact rfl)) hC18 ?_
        refine h_one (i := 14) (by kernel_rfl) ?_
        refine h_do (by exact rfl) ?_
        refine r_store (v := .agg _) (vs := [_, _, _]) (cs' := [_, _, _]) (by exact rfl) (by exact rfl) hbb85 ty_26 (by exact rfl) rfl (by exact rfl) rfl (by exact rfl) ?_
        intro w87 hEw87 hzw87 hb_new
        have hs_w87 := (hEw87).size
        replace hV := evo_step1 hV hEw87 (by first | exact .inl (by omega) | exact .inr (by simp))
        replace hbb85 := hb_new
        have hAb85 := hbb85.at
        clear hb_new
        refine h_last (by kernel_rfl) ?_
        refine h_done (by kernel_rfl) ?_
        refine r_cut_end ?_ ?_
        ·refine ⟨_, _, _, rfl, hbb85, hbb85.at, hbb85.lt, (by first | assumption | omega | (dsimp only; omega) | (simp; done)), hV⟩
        ·repeat (first | (with_reducible exact Agree.merge _ _ _) | (with_reducible exact Agree.refl _ _) | (with_reducible refine Agree.upd ?_ _ _ rfl) | ((with_reducible refine Agree.inner ?_ ?_); (kernel_rfl)))
       ·skip
        refine h_do (by exact rfl) ?_
        refine r_op rfl rfl rfl (run_ld1 rfl ag_3 (by exact rfl) (hA69.cell 0 (by exact rfl))) ?_
        refine h_next hC18 ?_
        refine h_one (i := 4) (by kernel_rfl) ?_
        refine h_do (by exact rfl) ?_
        refine r_op rfl rfl rfl (run_ld1 rfl ag_3 (by exact rfl) (hA72.cell 0 (by exact rfl))) ?_
        refine h_next hC18 ?_
        refine h_take (i := 12) (by exact rfl) rfl rfl rfl (by kernel_rfl) (fun w' hC => run_bld (pv := [(0, .int _ _), (1, S _), (2, .int _ _)]) (zs := [_, _, _]) (cells := [_, _, _]) rfl ty_26 (by exact rfl) pl_26 (by exact rfl) (by exact rfl)) hC18 ?_
        refine h_one (i := 14) (by kernel_rfl) ?_
        refine h_do (by exact rfl) ?_
        refine r_store (v := .agg _) (vs := [_, _, _]) (cs' := [_, _, _]) (by exact rfl) (by exact rfl) hbb85 ty_26 (by exact rfl) rfl (by exact rfl) rfl (by exact rfl) ?_
        intro w88 hEw88 hzw88 hb_new
        have hs_w88 := (hEw88).size
        replace hV := evo_step1 hV hEw88 (by first | exact .inl (by omega) | exact .inr (by simp))
        replace hbb85 := hb_new
        have hAb85 := hbb85.at
        clear hb_new
        refine h_last (by kernel_rfl) ?_
        refine h_done (by kernel_rfl) ?_
        refine r_cut_end ?_ ?_
        ·refine ⟨_, _, _, rfl, hbb85, hbb85.at, hbb85.lt, (by first | assumption | omega | (dsimp only; omega) | (simp; done)), hV⟩
        ·repeat (first | (with_reducible exact Agree.merge _ _ _) | (with_reducible exact Agree.refl _ _) | (with_reducible refine Agree.upd ?_ _ _ rfl) | ((with_reducible refine Agree.inner ?_ ?_); (kernel_rfl)))
     ·skip
      refine h_do (by exact rfl) ?_
      refine r_op rfl rfl rfl (run_ld1 rfl ag_3 (by exact rfl) (hA69.cell 0 (by exact rfl))) ?_
      refine h_next hC18 ?_
      refine h_two (i := 0) (j := 13) (by kernel_rfl) ?_ ?_
      ·skip
       refine h_do (by exact rfl) ?_
       refine r_bslice (pv := [(0, .int _ _), (1, .int _ _)]) (zs := [_]) (cs := [_, _]) Try.underlying24 ty_3 (by exact rfl) rfl (by exact rfl) rfl (by exact rfl) ?_
       intro b89 w90 heb89 hEw90 hbb89 hzb89
       have hs_w90 := (hEw90).size
       replace hV := evo_step0 hV hEw90
       replace hC18 := evo_step0 hC18 hEw90
       replace hr14 := hr14.evo0 hEw90
       replace hrb67 := hrb67.evo0 hEw90
       have hAb89 := hbb89.at
       have hrb89 : RowE w90 (some ⟨b89, 0, none⟩) b89 0 2 kindW := rowLit kindW hbb89 rfl rfl
       refine h_next hC18 ?_
       refine h_take (i := 3) (by exact rfl) rfl rfl rfl (by kernel_rfl) (fun w' hC => run_ix ((kn % 2).toNat) rfl Try.underlying24 ty_3 (by exact rfl) (by exact rfl) (by omega) (by show _ < 2; omega) (hrb89.addr (i := (kn % 2).toNat) (by show _ < 2; omega))) hC18 ?_
       have hA91 := hrb89.atD ((kn % 2).toNat) (by show _ < 2; omega)
       refine h_two (i := 4) (j := 13) (by kernel_rfl) ?_ ?_
       ·skip
        refine h_do (by exact rfl) ?_
        refine r_op rfl rfl rfl (run_ld1 rfl ag_3 (by exact rfl) (hA91.cell 0 (by exact rfl))) ?_
        refine h_next hC18 ?_
        refine h_take (i := 12) (by exact rfl) rfl rfl rfl (by kernel_rfl) (fun w' hC => run_bld (pv := [(0, .int _ _), (1, S _), (2, .int _ _)]) (zs := [_, _, _]) (cells := [_, _, _]) rfl ty_26 (by exact rfl) pl_26 (by exact rfl) (by exact rfl)) hC18 ?_
        refine h_one (i := 13) (by kernel_rfl) ?_
        refine h_do (by exact rfl) ?_
        refine r_alloc (zs := [_, _, _]) ty_26 (by exact rfl) rfl ?_
        intro b92 w93 heb92 hEw93 hbb92 hzb92
        have hs_w93 := (hEw93).size
        replace hV := evo_step0 hV hEw93
        replace hC18 := evo_step0 hC18 hEw93
        replace hr14 := hr14.evo0 hEw93
        replace hrb67 := hrb67.evo0 hEw93
        replace hrb89 := hrb89.evo0 hEw93
        have hAb92 := hbb92.at
        refine h_next hC18 ?_
        refine h_one (i := 14) (by kernel_rfl) ?_
        refine h_do (by exact rfl) ?_
        refine r_store (v := .agg _) (vs := [_, _, _]) (cs' := [_, _, _]) (by exact rfl) (by exact rfl) hbb92 ty_26 (by exact rfl) rfl (by exact rfl) rfl (by exact rfl) ?_
        intro w94 hEw94 hzw94 hb_new
        have hs_w94 := (hEw94).size
        replace hV := evo_step1 hV hEw94 (by first | exact .inl (by omega) | exact .inr (by simp))
        replace hbb92 := hb_new
        have hAb92 := hbb92.at
        clear hb_new
        refine h_last (by kernel_rfl) ?_
        refine h_done (by kernel_rfl) ?_
        refine r_cut_end ?_ ?_
        ·refine ⟨_, _, _, rfl, hbb92, hbb92.at, hbb92.lt, (by first | assumption | omega | (dsimp only; omega) | (simp; done)), hV⟩
        ·repeat (first | (with_reducible exact Agree.merge _ _ _) | (with_reducible exact Agree.refl _ _) | (with_reducible refine Agree.upd ?_ _ _ rfl) | ((with_reducible refine Agree.inner ?_ ?_); (kernel_rfl)))
       ·skip
        refine h_do (by exact rfl) ?_
        refine r_alloc (zs := [_, _, _]) ty_26 (by exact rfl) rfl ?_
        intro b95 w96 heb95 hEw96 hbb95 hzb95
        have hs_w96 := (hEw96).size
        replace hV := evo_step0 hV hEw96
        replace hC18 := evo_step0 hC18 hEw96
        replace hr14 := hr14.evo0 hEw96
        replace hrb67 := hrb67.evo0 hEw96
        replace hrb89 := hrb89.evo0 hEw96
        replace hA91 := hA91.evo0 hEw96
        have hAb95 := hbb95.at
        refine h_next hC18 ?_
        refine h_one (i := 4) (by kernel_rfl) ?_
        refine h_do (by exact rfl) ?_
        refine r_op rfl rfl rfl (run_ld1 rfl ag_3 (by exact rfl) (hA91.cell 0 (by exact rfl))) ?_
        refine h_next hC18 ?_
        refine h_take (i := 12) (by exact rfl) rfl rfl rfl (by kernel_rfl) (fun w' hC => run_bld (pv := [(0, .int _ _), (1, S _), (2, .int _ _)]) (zs := [_, _, _]) (cells := [_, _, _]) rfl ty_26 (by exact rfl) pl_26 (by exact rfl) (by exact rfl)) hC18 ?_
        refine h_one (i := 14) (by kernel_rfl) ?_
        refine h_do (by exact rfl) ?_
        refine r_store (v := .agg _) (vs := [_, _, _]) (cs' := [_, _, _]) (by exact rfl) (by exact rfl) hbb95 ty_26 (by exact rfl) rfl (by exact rfl) rfl (by exact rfl) ?_
        intro w97 hEw97 hzw97 hb_new
        have hs_w97 := (hEw97).size
        replace hV := evo_step1 hV hEw97 (by first | exact .inl (by omega) | exact .inr (by simp))
        replace hbb95 := hb_new
        have hAb95 := hbb95.at
        clear hb_new
        refine h_last (by kernel_rfl) ?_
        refine h_done (by kernel_rfl) ?_
        refine r_cut_end ?_ ?_
        ·refine ⟨_, _, _, rfl, hbb95, hbb95.at, hbb95.lt, (by first | assumption | omega | (dsimp only; omega) | (simp; done)), hV⟩
        ·repeat (first | (with_reducible exact Agree.merge _ _ _) | (with_reducible exact Agree.refl _ _) | (with_reducible refine Agree.upd ?_ _ _ rfl) | ((with_reducible refine Agree.inner ?_ ?_); (kernel_rfl)))
      ·skip
       refine h_do (by exact rfl) ?_
       refine r_alloc (zs := [_, _, _]) ty_26 (by exact rfl) rfl ?_
       intro b98 w99 heb98 hEw99 hbb98 hzb98
       have hs_w99 := (hEw99).size
       replace hV := evo_step0 hV hEw99
       replace hC18 := evo_step0 hC18 hEw99
       replace hr14 := hr14.evo0 hEw99
       replace hrb67 := hrb67.evo0 hEw99
       have hAb98 := hbb98.at
       refine h_next hC18 ?_
       refine h_one (i := 0) (by kernel_rfl) ?_
       refine h_do (by exact rfl) ?_
       refine r_bslice (pv := [(0, .int _ _), (1, .int _ _)]) (zs := [_]) (cs := [_, _]) Try.underlying24 ty_3 (by exact rfl) rfl (by exact rfl) rfl (by exact rfl) ?_
       intro b100 w101 heb100 hEw101 hbb100 hzb100
       have hs_w101 := (hEw101).size
       replace hV := evo_step0 hV hEw101
       replace hC18 := evo_step0 hC18 hEw101
       replace hr14 := hr14.evo0 hEw101
       replace hrb67 := hrb67.evo0 hEw101
       replace hbb98 := hbb98.evo0 hEw101
       replace hAb98 := hAb98.evo0 hEw101
       have hAb100 := hbb100.at
       have hrb100 : RowE w101 (some ⟨b100, 0, none⟩) b100 0 2 kindW := rowLit kindW hbb100 rfl rfl
       refine h_next hC18 ?_
       refine h_take (i := 3) (by exact rfl) rfl rfl rfl (by kernel_rfl) (fun w' hC => run_ix ((kn % 2).toNat) rfl Try.underlying24 ty_3 (by exact rfl) (by exact rfl) (by omega) (by show _ < 2; omega) (hrb100.addr (i := (kn % 2).toNat) (by show _ < 2; omega))) hC18 ?_
       have hA102 := hrb100.atD ((kn % 2).toNat) (by show _ < 2; omega)
       refine h_one (i := 4) (by kernel_rfl) ?_
       refine h_do (by exact rfl) ?_
       refine r_op rfl rfl rfl (run_ld1 rfl ag_3 (by exact rfl) (hA102.cell 0 (by exact rfl))) ?_
       refine h_next hC18 ?_
       refine h_take (i := 12) (by exact rfl) rfl rfl rfl (by kernel_rfl) (fun w' hC => run_bld (pv := [(0, .int _ _), (1, S _), (2, .int _ _)]) (zs := [_, _, _]) (cells := [_, _, _]) rfl ty_26 (by exact rfl) pl_26 (by exact rfl) (by exact rfl)) hC18 ?_
       refine h_one (i := 14) (by kernel_rfl) ?_
       refine h_do (by exact rfl) ?_
       refine r_store (v := .agg _) (vs := [_, _, _]) (cs' := [_, _, _]) (by exact rfl) (by exact rfl) hbb98 ty_26 (by exact rfl) rfl (by exact rfl) rfl (by exact rfl) ?_
       intro w103 hEw103 hzw103 hb_new
       have hs_w103 := (hEw103).size
       replace hV := evo_step1 hV hEw103 (by first | exact .inl (by omega) | exact .inr (by simp))
       replace hbb98 := hb_new
       have hAb98 := hbb98.at
       clear hb_new
       refine h_last (by kernel_rfl) ?_
       refine h_done (by kernel_rfl) ?_
       refine r_cut_end ?_ ?_
       ·refine ⟨_, _, _, rfl, hbb98, hbb98.at, hbb98.lt, (by first | assumption | omega | (dsimp only; omega) | (simp; done)), hV⟩
       ·repeat (first | (with_reducible exact Agree.merge _ _ _) | (with_reducible exact Agree.refl _ _) | (with_reducible refine Agree.upd ?_ _ _ rfl) | ((with_reducible refine Agree.inner ?_ ?_); (kernel_rfl)))
     ·skip
      refine h_do (by exact rfl) ?_
      refine r_alloc (zs := [_, _, _]) ty_26 (by exact rfl) rfl ?_
      intro b104 w105 heb104 hEw105 hbb104 hzb104
      have hs_w105 := (hEw105).size
      replace hV := evo_step0 hV hEw105
      replace hC18 := evo_step0 hC18 hEw105
      replace hr14 := hr14.evo0 hEw105
      replace hrb67 := hrb67.evo0 hEw105
      replace hA69 := hA69.evo0 hEw105
      have hAb104 := hbb104.at
      refine h_next hC18 ?_
      refine h_two (i := 0) (j := 11) (by kernel_rfl) ?_ ?_
      ·skip
       refine h_do (by exact rfl) ?_
       refine r_bslice (pv := [(0, .int _ _), (1, .int _ _)]) (zs := [_]) (cs := [_, _]) Try.underlying24 ty_3 (by exact rfl) rfl (by exact rfl) rfl (by exact rfl) ?_
       intro b106 w107 heb106 hEw107 hbb106 hzb106
       have hs_w107 := (hEw107).size
       replace hV := evo_step0 hV hEw107
       replace hC18 := evo_step0 hC18 hEw107
       replace hr14 := hr14.evo0 hEw107
       replace hrb67 := hrb67.evo0 hEw107
       replace hA69 := hA69.evo0 hEw107
       replace hbb104 := hbb104.evo0 hEw107
       replace hAb104 := hAb104.evo0 hEw107
       have hAb106 := hbb106.at
       have hrb106 : RowE w107 (some ⟨b106, 0, none⟩) b106 0 2 kindW := rowLit kindW hbb106 rfl rfl
       refine h_next hC18 ?_
       refine h_take (i := 3) (by exact rfl) rfl rfl rfl (by kernel_rfl) (fun w' hC => run_ix ((kn % 2).toNat) rfl Try.underlying24 ty_3 (by exact rfl) (by exact rfl) (by omega) (by show _ < 2; omega) (hrb106.addr (i := (kn % 2).toNat) (by show _ < 2; omega))) hC18 ?_
       have hA108 := hrb106.atD ((kn % 2).toNat) (by show _ < 2; omega)
       refine h_two (i := 4) (j := 11) (by kernel_rfl) ?_ ?_
       ·skip
        refine h_do (by exact rfl) ?_
        refine r_op rfl rfl rfl (run_ld1 rfl ag_3 (by exact rfl) (hA108.cell 0 (by exact rfl))) ?_
        refine h_next hC18 ?_
        refine h_one (i := 11) (by kernel_rfl) ?_
        refine h_do (by exact rfl) ?_
        refine r_op rfl rfl rfl (run_ld1 rfl ag_3 (by exact rfl) (hA69.cell 0 (by exact rfl))) ?_
        refine h_next hC18 ?_
        refine h_take (i := 12) (by exact rfl) rfl rfl rfl (by kernel_rfl) (fun w' hC => run_bld (pv := [(0, .int _ _), (1, S _), (2, .int _ _)]) (zs := [_, _, _]) (cells := [_, _, _]) rfl ty_26 (by exact rfl) pl_26 (by exact rfl) (by exact rfl)) hC18 ?_
        refine h_one (i := 14) (by kernel_rfl) ?_
        refine h_do (by exact rfl) ?_
        refine r_store (v := .agg _) (vs := [_, _, _]) (cs' := [_, _, _]) (by exact rfl) (by exact rfl) hbb104 ty_26 (by exact rfl) rfl (by exact rfl) rfl (by exact rfl) ?_
        intro w109 hEw109 hzw109 hb_new
        have hs_w109 := (hEw109).size
        replace hV := evo_step1 hV hEw109 (by first | exact .inl (by omega) | exact .inr (by simp))
        replace hbb104 := hb_new
        have hAb104 := hbb104.at
        clear hb_new
        refine h_last (by kernel_rfl) ?_
        refine h_done (by kernel_rfl) ?_
        refine r_cut_end ?_ ?_
        ·refine ⟨_, _, _, rfl, hbb104, hbb104.at, hbb104.lt, (by first | assumption | omega | (dsimp only; omega) | (simp; done)), hV⟩
        ·repeat (first | (with_reducible exact Agree.merge _ _ _) | (with_reducible exact Agree.refl _ _) | (with_reducible refine Agree.upd ?_ _ _ rfl) | ((with_reducible refine Agree.inner ?_ ?_); (kernel_rfl)))
       ·skip
        refine h_do (by exact rfl) ?_
        refine r_op rfl rfl rfl (run_ld1 rfl ag_3 (by exact rfl) (hA69.cell 0 (by exact rfl))) ?_
        refine h_next hC18 ?_
        refine h_one (i := 4) (by kernel_rfl) ?_
        refine h_do (by exact rfl) ?_
        refine r_op rfl rfl rfl (run_ld1 rfl ag_3 (by exact rfl) (hA108.cell 0 (by exact rfl))) ?_
        refine h_next hC18 ?_
        refine h_take (i := 12) (by exact rfl) rfl rfl rfl (by kernel_rfl) (fun w' hC => run_bld (pv := [(0, .int _ _), (1, S _), (2, .int _ _)]) (zs := [_, _, _]) (cells := [_, _, _]) rfl ty_26 (by exact rfl) pl_26 (by exact rfl) (by exact rfl)) hC18 ?_
        refine h_one (i := 14) (by kernel_rfl) ?_
        refine h_do (by exact rfl) ?_
        refine r_store (v := .agg _) (vs := [_, _, _]) (cs' := [_, _, _]) (by exact rfl) (by exact rfl) hbb104 ty_26 (by exact rfl) rfl (by exact rfl) rfl (by exact rfl) ?_
        intro w110 hEw110 hzw110 hb_new
        have hs_w110 := (hEw110).size
        replace hV := evo_step1 hV hEw110 (by first | exact .inl (by omega) | exact .inr (by simp))
        replace hbb104 := hb_new
        have hAb104 := hbb104.at
        clear hb_new
        refine h_last (by kernel_rfl) ?_
        refine h_done (by kernel_rfl) ?_
        refine r_cut_end ?_ ?_
        ·refine ⟨_, _, _, rfl, hbb104, hbb104.at, hbb104.lt, (by first | assumption | omega | (dsimp only; omega) | (simp; done)), hV⟩
        ·repeat (first | (with_reducible exact Agree.merge _ _ _) | (with_reducible exact Agree.refl _ _) | (with_reducible refine Agree.upd ?_ _ _ rfl) | ((with_reducible refine Agree.inner ?_ ?_); (kernel_rfl)))
      ·skip
       refine h_do (by exact rfl) ?_
       refine r_op rfl rfl rfl (run_ld1 rfl ag_3 (by exact rfl) (hA69.cell 0 (by exact rfl))) ?_
       refine h_next hC18 ?_
       refine h_one (i := 0) (by kernel_rfl) ?_
       refine h_do (by exact rfl) ?_
       refine r_bslice (pv := [(0, .int _ _), (1, .int _ _)]) (zs := [_]) (cs := [_, _]) Try.underlying24 ty_3 (by exact rfl) rfl (by exact rfl) rfl (by exact rfl) ?_
       intro b111 w112 heb111 hEw112 hbb111 hzb111
       have hs_w112 := (hEw112).size
       replace hV := evo_step0 hV hEw112
       replace hC18 := evo_step0 hC18 hEw112
       replace hr14 := hr14.evo0 hEw112
       replace hrb67 := hrb67.evo0 hEw112
       replace hbb104 := hbb104.evo0 hEw112
       replace hAb104 := hAb104.evo0 hEw112
       have hAb111 := hbb111.at
       have hrb111 : RowE w112 (some ⟨b111, 0, none⟩) b111 0 2 kindW := rowLit kindW hbb111 rfl rfl
       refine h_next hC18 ?_
       refine h_take (i := 3) (by exact rfl) rfl rfl rfl (by kernel_rfl) (fun w' hC => run_ix ((kn % 2).toNat) rfl Try.underlying24 ty_3 (by exact rfl) (by exact rfl) (by omega) (by show _ < 2; omega) (hrb111.addr (i := (kn % 2).toNat) (by show _ < 2; omega))) hC18 ?_
       have hA113 := hrb111.atD ((kn % 2).toNat) (by show _ < 2; omega)
       refine h_one (i := 4) (by kernel_rfl) ?_
       refine h_do (by exact rfl) ?_
       refine r_op rfl rfl rfl (run_ld1 rfl ag_3 (by exact rfl) (hA113.cell 0 (by exact rfl))) ?_
       refine h_next hC18 ?_
       refine h_take (i := 12) (by exact rfl) rfl rfl rfl (by kernel_rfl) (fun w' hC => run_bld (pv := [(0, .int _ _), (1, S _), (2, .int _ _)]) (zs := [_, _, _]) (cells := [_, _, _]) rfl ty_26 (by exact rfl) pl_26 (by exact rfl) (by exact rfl)) hC18 ?_
       refine h_one (i := 14) (by kernel_rfl) ?_
       refine h_do (by exact rfl) ?_
       refine r_store (v := .agg _) (vs := [_, _, _]) (cs' := [_, _, _]) (by exact rfl) (by exact rfl) hbb104 ty_26 (by exact rfl) rfl (by exact rfl) rfl (by exact rfl) ?_
       intro w114 hEw114 hzw114 hb_new
       have hs_w114 := (hEw114).size
       replace hV := evo_step1 hV hEw114 (by first | exact .inl (by omega) | exact .inr (by simp))
       replace hbb104 := hb_new
       have hAb104 := hbb104.at
       clear hb_new
       refine h_last (by kernel_rfl) ?_
       refine h_done (by kernel_rfl) ?_
       refine r_cut_end ?_ ?_
       ·refine ⟨_, _, _, rfl, hbb104, hbb104.at, hbb104.lt, (by first | assumption | omega | (dsimp only; omega) | (simp; done)), hV⟩
       ·repeat (first | (with_reducible exact Agree.merge _ _ _) | (with_reducible exact Agree.refl _ _) | (with_reducible refine Agree.upd ?_ _ _ rfl) | ((with_reducible refine Agree.inner ?_ ?_); (kernel_rfl)))
    ·skip
     refine h_do (by exact rfl) ?_
     refine r_alloc (zs := [_, _, _]) ty_26 (by exact rfl) rfl ?_
     intro b115 w116 heb115 hEw116 hbb115 hzb115
     have hs_w116 := (hEw116).size
     replace hV := evo_step0 hV hEw116
     replace hC18 := evo_step0 hC18 hEw116
     replace hr14 := hr14.evo0 hEw116
     have hAb115 := hbb115.at
     refine h_next hC18 ?_
     refine h_two (i := 0) (j := 7) (by kernel_rfl) ?_ ?_
     ·skip
      refine h_do (by exact rfl) ?_
      refine r_bslice (pv := [(0, .int _ _), (1, .int _ _)]) (zs := [_]) (cs := [_, _]) Try.underlying24 ty_3 (by exact rfl) rfl (by exact rfl) rfl (by exact rfl) ?_
      intro b117 w118 heb117 hEw118 hbb117 hzb117
      have hs_w118 := (hEw118).size
      replace hV := evo_step0 hV hEw118
      replace hC18 := evo_step0 hC18 hEw118
      replace hr14 := hr14.evo0 hEw118
      replace hbb115 := hbb115.evo0 hEw118
      replace hAb115 := hAb115.evo0 hEw118
      have hAb117 := hbb117.at
      have hrb117 : RowE w118 (some ⟨b117, 0, none⟩) b117 0 2 kindW := rowLit kindW hbb117 rfl rfl
      refine h_next hC18 ?_
      refine h_take (i := 3) (by exact rfl) rfl rfl rfl (by kernel_rfl) (fun w' hC => run_ix ((kn % 2).toNat) rfl Try.underlying24 ty_3 (by exact rfl) (by exact rfl) (by omega) (by show _ < 2; omega) (hrb117.addr (i := (kn % 2).toNat) (by show _ < 2; omega))) hC18 ?_
      have hA119 := hrb117.atD ((kn % 2).toNat) (by show _ < 2; omega)
      refine h_two (i := 4) (j := 7) (by kernel_rfl) ?_ ?_
      ·skip
       refine h_do (by exact rfl) ?_
       refine r_op rfl rfl rfl (run_ld1 rfl ag_3 (by exact rfl) (hA119.cell 0 (by exact rfl))) ?_
       refine h_next hC18 ?_
       refine h_one (i := 7) (by kernel_rfl) ?_
       refine h_do (by exact rfl) ?_
       refine r_bslice (pv := [(0, .int _ _), (1, .int _ _), (2, .int _ _), (3, .int _ _)]) (zs := [_]) (cs := [_, _, _, _]) Try.underlying24 ty_3 (by exact rfl) rfl (by exact rfl) rfl (by exact rfl) ?_
       intro b120 w121 heb120 hEw121 hbb120 hzb120
       have hs_w121 := (hEw121).size
       replace hV := evo_step0 hV hEw121
       replace hC18 := evo_step0 hC18 hEw121
       replace hr14 := hr14.evo0 hEw121
       replace hbb115 := hbb115.evo0 hEw121
       replace hAb115 := hAb115.evo0 hEw121
       replace hrb117 := hrb117.evo0 hEw121
       have hAb120 := hbb120.at
       have hrb120 : RowE w121 (some ⟨b120, 0, none⟩) b120 0 4 idW := rowLit idW hbb120 rfl rfl
       refine h_next hC18 ?_
       refine h_take (i := 10) (by exact rfl) rfl rfl rfl (by kernel_rfl) (fun w' hC => run_ix ((idn % 4).toNat) rfl Try.underlying24 ty_3 (by exact rfl) (by exact rfl) (by omega) (by show _ < 4; omega) (hrb120.addr (i := (idn % 4).toNat) (by show _ < 4; omega))) hC18 ?_
       have hA122 := hrb120.atD ((idn % 4).toNat) (by show _ < 4; omega)
       refine h_one (i := 11) (by kernel_rfl) ?_
       refine h_do (by exact rfl) ?_
       refine r_op rfl rfl rfl (run_ld1 rfl ag_3 (by exact rfl) (hA122.cell 0 (by exact rfl))) ?_
       refine h_next hC18 ?_
       refine h_take (i := 12) (by exact rfl) rfl rfl rfl (by kernel_rfl) (fun w' hC => run_bld (pv := [(0, .int _ _), (1, S _), (2, .int _ _)]) (zs := [_, _, _]) (cells := [_, _, _]) rfl ty_26 (by exact rfl) pl_26 (by exact rfl) (by exact rfl)) hC18 ?_
       refine h_one (i := 14) (by kernel_rfl) ?_
       refine h_do (by exact rfl) ?_
       refine r_store (v := .agg _) (vs := [_, _, _]) (cs' := [_, _, _]) (by exact rfl) (by exact rfl) hbb115 ty_26 (by exact rfl) rfl (by exact rfl) rfl (by exact rfl) ?_
       intro w123 hEw123 hzw123 hb_new
       have hs_w123 := (hEw123).size
       replace hV := evo_step1 hV hEw123 (by first | exact .inl (by omega) | exact .inr (by simp))
       replace hbb115 := hb_new
       have hAb115 := hbb115.at
       clear hb_new
       refine h_last (by kernel_rfl) ?_
       refine h_done (by kernel_rfl) ?_
       refine r_cut_end ?_ ?_
       ·refine ⟨_, _, _, rfl, hbb115, hbb115.at, hbb115.lt, (by first | assumption | omega | (dsimp only; omega) | (simp; done)), hV⟩
       ·repeat (first | (with_reducible exact Agree.merge _ _ _) | (with_reducible exact Agree.refl _ _) | (with_reducible refine Agree.upd ?_ _ _ rfl) | ((with_reducible refine Agree.inner ?_ ?_); (kernel_rfl)))
      ·skip
       refine h_do (by exact rfl) ?_
       refine r_bslice (pv := [(0, .int _ _), (1, .int _ _), (2, .int _ _), (3, .int _ _)]) (zs := [_]) (cs := [_, _, _, _]) Try.underlying24 ty_3 (by exact rfl) rfl (by exact rfl) rfl (by exact rfl) ?_
       intro b124 w125 heb124 hEw125 hbb124 hzb124
       have hs_w125 := (hEw125).size
       replace hV := evo_step0 hV hEw125
       replace hC18 := evo_step0 hC18 hEw125
       replace hr14 := hr14.evo0 hEw125
       replace hbb115 := hbb115.evo0 hEw125
       replace hAb115 := hAb115.evo0 hEw125
       replace hrb117 := hrb117.evo0 hEw125
       replace hA119 := hA119.evo0 hEw125
       have hAb124 := hbb124.at
       have hrb124 : RowE w125 (some ⟨b124, 0, none⟩) b124 0 4 idW := rowLit idW hbb124 rfl rfl
       refine h_next hC18 ?_
       refine h_take (i := 10) (by exact rfl) rfl rfl rfl (by kernel_rfl) (fun w' hC => run_ix ((idn % 4).toNat) rfl Try.underlying24 ty_3 (by exact rfl) (by exact rfl) (by omega) (by show _ < 4; omega) (hrb124.addr (i := (idn % 4).toNat) (by show _ < 4; omega))) hC18 ?_
       have hA126 := hrb124.atD ((idn % 4).toNat) (by show _ < 4; omega)
       refine h_two (i := 4) (j := 11) (by kernel_rfl) ?_ ?_
       ·skip
        refine h_do (by exact rfl) ?_
        refine r_op rfl rfl rfl (run_ld1 rfl ag_3 (by exact rfl) (hA119.cell 0 (by exact rfl))) ?_
        refine h_next hC18 ?_
        refine h_one (i := 11) (by kernel_rfl) ?_
        refine h_do (by exact rfl) ?_
        refine r_op rfl rfl rfl (run_ld1 rfl ag_3 (by exact rfl) (hA126.cell 0 (by exact rfl))) ?_
        refine h_next hC18 ?_
        refine h_take (i := 12) (by exact rfl) rfl rfl rfl (by kernel_rfl) (fun w' hC => run_bld (pv := [(0, .int _ _), (1, S _), (2, .int _ _)]) (zs := [_, _, _]) (cells := [_, _, _]) rfl ty_26 (by exact rfl) pl_26 (by exact rfl) (by exact rfl)) hC18 ?_
        refine h_one (i := 14) (by kernel_rfl) ?_
        refine h_do (by exact rfl) ?_
        refine r_store (v := .agg _) (vs := [_, _, _]) (cs' := [_, _, _]) (by exact rfl) (by exact rfl) hbb115 ty_26 (by exact rfl) rfl (by exact rfl) rfl (by exact rfl) ?_
        intro w127 hEw127 hzw127 hb_new
        have hs_w127 := (hEw127).size
        replace hV := evo_step1 hV hEw127 (by first | exact .inl (by omega) | exact .inr (by simp))
        replace hbb115 := hb_new
        have hAb115 := hbb115.at
        clear hb_new
        refine h_last (by kernel_rfl) ?_
        refine h_done (by kernel_rfl) ?_
        refine r_cut_end ?_ ?_
        ·refine ⟨_, _, _, rfl, hbb115, hbb115.at, hbb115.lt, (by first | assumption | omega | (dsimp only; omega) | (simp; done)), hV⟩
        ·repeat (first | (with_reducible exact Agree.merge _ _ _) | (with_reducible exact Agree.refl _ _) | (with_reducible refine Agree.upd ?_ _ _ rfl) | ((with_reducible refine Agree.inner ?_ ?_); (kernel_rfl)))
       ·skip
        refine h_do (by exact rfl) ?_
        refine r_op rfl rfl rfl (run_ld1 rfl ag_3 (by exact rfl) (hA126.cell 0 (by exact rfl))) ?_
        refine h_next hC18 ?_
        refine h_one (i := 4) (by kernel_rfl) ?_
        refine h_do (by exact rfl) ?_
        refine r_op rfl rfl rfl (run_ld1 rfl ag_3 (by exact rfl) (hA119.cell 0 (by exact rfl))) ?_
        refine h_next hC18 ?_
        refine h_take (i := 12) (by exact rfl) rfl rfl rfl (by kernel_rfl) (fun w' hC => run_bld (pv := [(0, .int _ _), (1, S _), (2, .int _ _)]) (zs := [_, _, _]) (cells := [_, _, _]) rfl ty_26 (by exact rfl) pl_26 (by exact rfl) (by exact rfl)) hC18 ?_
        refine h_one (i := 14) (by kernel_rfl) ?_
        refine h_do (by exact rfl) ?_
        refine r_store (v := .agg _) (vs := [_, _, _]) (cs' := [_, _, _]) (by exact rfl) (by exact rfl) hbb115 ty_26 (by exact rfl) rfl (by exact rfl) rfl (by exact rfl) ?_
        intro w128 hEw128 hzw128 hb_new
        have hs_w128 := (hEw128).size
        replace hV := evo_step1 hV hEw128 (by first | exact .inl (by omega) | exact .inr (by simp))
        replace hbb115 := hb_new
        have hAb115 := hbb115.at
        clear hb_new
        refine h_last (by kernel_rfl) ?_
        refine h_done (by kernel_rfl) ?_
        refine r_cut_end ?_ ?_
        ·refine ⟨_, _, _, rfl, hbb115, hbb115.at, hbb115.lt, (by first | assumption | omega | (dsimp only; omega) | (simp; done)), hV⟩
        ·repeat (first | (with_reducible exact Agree.merge _ _ _) | (with_reducible exact Agree.refl _ _) | (with_reducible refine Agree.upd ?_ _ _ rfl) | ((with_reducible refine Agree.inner ?_ ?_); (kernel_rfl)))
     ·skip
      refine h_do (by exact rfl) ?_
      refine r_bslice (pv := [(0, .int _ _), (1, .int _ _), (2, .int _ _), (3, .int _ _)]) (zs := [_]) (cs := [_, _, _, _]) Try.underlying24 ty_3 (by exact rfl) rfl (by exact rfl) rfl (by exact rfl) ?_
      intro b129 w130 heb129 hEw130 hbb129 hzb129
      have hs_w130 := (hEw130).size
      replace hV := evo_step0 hV hEw130
      replace hC18 := evo_step0 hC18 hEw130
      replace hr14 := hr14.evo0 hEw130
      replace hbb115 := hbb115.evo0 hEw130
      replace hAb115 := hAb115.evo0 hEw130
      have hAb129 := hbb129.at
      have hrb129 : RowE w130 (some ⟨b129, 0, none⟩) b129 0 4 idW := rowLit idW hbb129 rfl rfl
      refine h_next hC18 ?_
      refine h_take (i := 10) (by exact rfl) rfl rfl rfl (by kernel_rfl) (fun w' hC => run_ix ((idn % 4).toNat) rfl Try.underlying24 ty_3 (by exact rfl) (by exact rfl) (by omega) (by show _ < 4; omega) (hrb129.addr (i := (idn % 4).toNat) (by show _ < 4; omega))) hC18 ?_
      have hA131 := hrb129.atD ((idn % 4).toNat) (by show _ < 4; omega)
      refine h_two (i := 0) (j := 11) (by kernel_rfl) ?_ ?_
      ·skip
       refine h_do (by exact rfl) ?_
       refine r_bslice (pv := [(0, .int _ _), (1, .int _ _)]) (zs := [_]) (cs := [_, _]) Try.underlying24 ty_3 (by exact rfl) rfl (by exact rfl) rfl (by exact rfl) ?_
       intro b132 w133 heb132 hEw133 hbb132 hzb132
       have hs_w133 := (hEw133).size
       replace hV := evo_step0 hV hEw133
       replace hC18 := evo_step0 hC18 hEw133
       replace hr14 := hr14.evo0 hEw133
       replace hbb115 := hbb115.evo0 hEw133
       replace hAb115 := hAb115.evo0 hEw133
       replace hrb129 := hrb129.evo0 hEw133
       replace hA131 := hA131.evo0 hEw133
       have hAb132 := hbb132.at
       have hrb132 : RowE w133 (some ⟨b132, 0, none⟩) b132 0 2 kindW := rowLit kindW hbb132 rfl rfl
       refine h_next hC18 ?_
       refine h_take (i := 3) (by exact rfl) rfl rfl rfl (by kernel_rfl) (fun w' hC => run_ix ((kn % 2).toNat) rfl Try.underlying24 ty_3 (by exact rfl) (by exact rfl) (by omega) (by show _ < 2; omega) (hrb132.addr (i := (kn % 2).toNat) (by show _ < 2; omega))) hC18 ?_
       have hA134 := hrb132.atD ((kn % 2).toNat) (by show _ < 2; omega)
       refine h_two (i := 4) (j := 11) (by kernel_rfl) ?_ ?_
       ·skip
        refine h_do (by exact rfl) ?_
        refine r_op rfl rfl rfl (run_ld1 rfl ag_3 (by exact rfl) (hA134.cell 0 (by exact rfl))) ?_
        refine h_next hC18 ?_
        refine h_one (i := 11) (by kernel_rfl) ?_
        refine h_do (by exact rfl) ?_
        refine r_op rfl rfl rfl (run_ld1 rfl ag_3 (by exact rfl) (hA131.cell 0 (by exact rfl))) ?_
        refine h_next hC18 ?_
        refine h_take (i := 12) (by exact rfl) rfl rfl rfl (by kernel_rfl) (fun w' hC => run_bld (pv := [(0, .int _ _), (1, S _), (2, .int _ _)]) (zs := [_, _, _]) (cells := [_, _, _]) rfl ty_26 (by exact rfl) pl_26 (by exact rfl) (by exact rfl)) hC18 ?_
        refine h_one (i := 14) (by kernel_rfl) ?_
        refine h_do (by exact rfl) ?_
        refine r_store (v := .agg _) (vs := [_, _, _]) (cs' := [_, _, _]) (by exact rfl) (by exact rfl) hbb115 ty_26 (by exact rfl) rfl (by exact rfl) rfl (by exact rfl) ?_
        intro w135 hEw135 hzw135 hb_new
        have hs_w135 := (hEw135).size
        replace hV := evo_step1 hV hEw135 (by first | exact .inl (by omega) | exact .inr (by simp))
        replace hbb115 := hb_new
        have hAb115 := hbb115.at
        clear hb_new
        refine h_last (by kernel_rfl) ?_
        refine h_done (by kernel_rfl) ?_
        refine r_cut_end ?_ ?_
        ·refine ⟨_, _, _, rfl, hbb115, hbb115.at, hbb115.lt, (by first | assumption | omega | (dsimp only; omega) | (simp; done)), hV⟩
        ·repeat (first | (with_reducible exact Agree.merge _ _ _) | (with_reducible exact Agree.refl _ _) | (with_reducible refine Agree.upd ?_ _ _ rfl) | ((with_reducible refine Agree.inner ?_ ?_); (kernel_rfl)))
       ·skip
        refine h_do (by exact rfl) ?_
        refine r_op rfl rfl rfl (run_ld1 rfl ag_3 (by exact rfl) (hA131.cell 0 (by exact rfl))) ?_
        refine h_next hC18 ?_
        refine h_one (i := 4) (by kernel_rfl) ?_
        refine h_do (by exact rfl) ?_
        refine r_op rfl rfl rfl (run_ld1 rfl ag_3 (by exact rfl) (hA134.cell 0 (by exact rfl))) ?_
        refine h_next hC18 ?_
        refine h_take (i := 12) (by exact rfl) rfl rfl rfl (by kernel_rfl) (fun w' hC => run_bld (pv := [(0, .int _ _), (1, S _), (2, .int _ _)]) (zs := [_, _, _]) (cells := [_, _, _]) rfl ty_26 (by exact rfl) pl_26 (by exact rfl) (by exact rfl)) hC18 ?_
        refine h_one (i := 14) (by kernel_rfl) ?_
        refine h_do (by exact rfl) ?_
        refine r_store (v := .agg _) (vs := [_, _, _]) (cs' := [_, _, _]) (by exact rfl) (by exact rfl) hbb115 ty_26 (by exact rfl) rfl (by exact rfl) rfl (by exact rfl) ?_
        intro w136 hEw136 hzw136 hb_new
        have hs_w136 := (hEw136).size
        replace hV := evo_step1 hV hEw136 (by first | exact .inl (by omega) | exact .inr (by simp))
        replace hbb115 := hb_new
        have hAb115 := hbb115.at
        clear hb_new
        refine h_last (by kernel_rfl) ?_
        refine h_done (by kernel_rfl) ?_
        refine r_cut_end ?_ ?_
        ·refine ⟨_, _, _, rfl, hbb115, hbb115.at, hbb115.lt, (by first | assumption | omega | (dsimp only; omega) | (simp; done)), hV⟩
        ·repeat (first | (with_reducible exact Agree.merge _ _ _) | (with_reducible exact Agree.refl _ _) | (with_reducible refine Agree.upd ?_ _ _ rfl) | ((with_reducible refine Agree.inner ?_ ?_); (kernel_rfl)))
      ·skip
       refine h_do (by exact rfl) ?_
       refine r_op rfl rfl rfl (run_ld1 rfl ag_3 (by exact rfl) (hA131.cell 0 (by exact rfl))) ?_
       refine h_next hC18 ?_
       refine h_one (i := 0) (by kernel_rfl) ?_
       refine h_do (by exact rfl) ?_
       refine r_bslice (pv := [(0, .int _ _), (1, .int _ _)]) (zs := [_]) (cs := [_, _]) Try.underlying24 ty_3 (by exact rfl) rfl (by exact rfl) rfl (by exact rfl) ?_
       intro b137 w138 heb137 hEw138 hbb137 hzb137
       have hs_w138 := (hEw138).size
       replace hV := evo_step0 hV hEw138
       replace hC18 := evo_step0 hC18 hEw138
       replace hr14 := hr14.evo0 hEw138
       replace hbb115 := hbb115.evo0 hEw138
       replace hAb115 := hAb115.evo0 hEw138
       replace hrb129 := hrb129.evo0 hEw138
       have hAb137 := hbb137.at
       have hrb137 : RowE w138 (some ⟨b137, 0, none⟩) b137 0 2 kindW := rowLit kindW hbb137 rfl rfl
       refine h_next hC18 ?_
       refine h_take (i := 3) (by exact rfl) rfl rfl rfl (by kernel_rfl) (fun w' hC => run_ix ((kn % 2).toNat) rfl Try.underlying24 ty_3 (by exact rfl) (by exact rfl) (by omega) (by show _ < 2; omega) (hrb137.addr (i := (kn % 2).toNat) (by show _ < 2; omega))) hC18 ?_
       have hA139 := hrb137.atD ((kn % 2).toNat) (by show _ < 2; omega)
       refine h_one (i := 4) (by kernel_rfl) ?_
       refine h_do (by exact rfl) ?_
       refine r_op rfl rfl rfl (run_ld1 rfl ag_3 (by exact rfl) (hA139.cell 0 (by exact rfl))) ?_
       refine h_next hC18 ?_
       refine h_take (i := 12) (by exact rfl) rfl rfl rfl (by kernel_rfl) (fun w' hC => run_bld (pv := [(0, .int _ _), (1, S _), (2, .int _ _)]) (zs := [_, _, _]) (cells := [_, _, _]) rfl ty_26 (by exact rfl) pl_26 (by exact rfl) (by exact rfl)) hC18 ?_
       refine h_one (i := 14) (by kernel_rfl) ?_
       refine h_do (by exact rfl) ?_
       refine r_store (v := .agg _) (vs := [_, _, _]) (cs' := [_, _, _]) (by exact rfl) (by exact rfl) hbb115 ty_26 (by exact rfl) rfl (by exact rfl) rfl (by exact rfl) ?_
       intro w140 hEw140 hzw140 hb_new
       have hs_w140 := (hEw140).size
       replace hV := evo_step1 hV hEw140 (by first | exact .inl (by omega) | exact .inr (by simp))
       replace hbb115 := hb_new
       have hAb115 := hbb115.at
       clear hb_new
       refine h_last (by kernel_rfl) ?_
       refine h_done (by kernel_rfl) ?_
       refine r_cut_end ?_ ?_
       ·refine ⟨_, _, _, rfl, hbb115, hbb115.at, hbb115.lt, (by first | assumption | omega | (dsimp only; omega) | (simp; done)), hV⟩
       ·repeat (first | (with_reducible exact Agree.merge _ _ _) | (with_reducible exact Agree.refl _ _) | (with_reducible refine Agree.upd ?_ _ _ rfl) | ((with_reducible refine Agree.inner ?_ ?_); (kernel_rfl)))
   ·rintro g w141 ⟨bx, kx, ix, hj142, hbx, hAx, hbx0, hzl15, hV⟩
    have hs_w141hV := hV.size
    have hlt143 := hbx.lt
    refine r_know (i := 10) (v := .pointer (some ⟨bx, 0, none⟩)) (by exact hj142) ?_
    refine r_seq ?_
    have hsm : Small ([⟨kx, (l.set (k - 1) c), ix⟩] : List Vc.Item) := ⟨by simp, by rw [sizeL_one]; simp; omega⟩
    have hbx_q := hbx
    have hAx_q := hAx
    have hV_q := hV
    refine h_region ([]) (by kernel_rfl) ?_
    intro w144 hE145 hCst7
    have hs_w144 := (hE145).size
    replace hV := evo_step0 hV hE145
    replace hbx := hbx.evo0 hE145
    replace hAx := hAx.evo0 hE145
    refine h_take (i := 0) (by exact rfl) rfl rfl rfl (by kernel_rfl) (fun w' hC => run_fa rfl (by exact rfl) fo_26_1) hCst7 ?_
    refine h_take (i := 1) (by exact rfl) rfl rfl rfl (by kernel_rfl) (fun w' hC => run_ld1 rfl ag_9 (by exact rfl) ((hAx_q.evo0 hC).cell 1 (by exact rfl))) hCst7 ?_
    refine h_take (i := 3) (by exact rfl) rfl rfl rfl (by kernel_rfl) (fun w' hC => run_fa rfl (by exact rfl) fo_26_1) hCst7 ?_
    refine h_take (i := 4) (by exact rfl) rfl rfl rfl (by kernel_rfl) (fun w' hC => run_ld1 rfl ag_9 (by exact rfl) ((hAx_q.evo0 hC).cell 1 (by exact rfl))) hCst7 ?_
    refine h_one (i := 2) (by kernel_rfl) ?_
    refine h_do (by exact rfl) ?_
    refine r_opcall rfl rfl rfl (run_callf (vs := [S _]) rfl (by exact rfl) Try.func17 rfl (by kernel_rfl)) iscont_calls ?_
    rintro e w146 ⟨rfl, hE146⟩
    refine ⟨_, rfl, ?_⟩
    have hs_w146 := (hE146).size
    replace hV := evo_step0 hV hE146
    replace hCst7 := evo_step0 hCst7 hE146
    replace hbx := hbx.evo0 hE146
    replace hAx := hAx.evo0 hE146
    refine h_next hCst7 ?_
    refine h_one (i := 5) (by kernel_rfl) ?_
    refine h_do (by exact rfl) ?_
    refine r_opcall rfl rfl rfl (run_callf (vs := [S _]) rfl (by exact rfl) Try.func18 rfl (by kernel_rfl)) riscont_calls ?_
    rintro e w147 ⟨rfl, hE147⟩
    refine ⟨_, rfl, ?_⟩
    have hs_w147 := (hE147).size
    replace hV := evo_step0 hV hE147
    replace hCst7 := evo_step0 hCst7 hE147
    replace hbx := hbx.evo0 hE147
    replace hAx := hAx.evo0 hE147
    refine h_next hCst7 ?_
    refine h_take (i := 6) (by exact rfl) rfl rfl rfl (by kernel_rfl) (fun w' hC => run_beqlB rfl Try.underlying4 (by exact rfl) (by exact rfl)) hCst7 ?_
    refine h_take (i := 7) (by exact rfl) rfl rfl rfl (by kernel_rfl) (fun w' hC => run_mv (v := .bool _) rfl (by exact rfl)) hCst7 ?_
    refine h_two (i := 8) (j := 11) (by kernel_rfl) ?_ ?_
    ·skip
     refine h_do (by exact rfl) ?_
     refine r_gyes rfl (wantT (by exact rfl)) (by exact rfl) ?_
     refine r_op rfl rfl rfl (run_ldN rfl ag_26 ty_26 (by exact rfl) rfl hAx) ?_
     refine h_next hCst7 ?_
     refine h_two (i := 9) (j := 11) (by kernel_rfl) ?_ ?_
     ·skip
      refine h_do (by exact rfl) ?_
      refine r_gyes rfl (wantT (by exact rfl)) (by exact rfl) ?_
      refine r_bslice (pv := [(0, .agg _)]) (zs := [_, _, _]) (cs := [_, _, _]) Try.underlying30 ty_26 (by exact rfl) rfl (by exact rfl) rfl (by exact rfl) ?_
      intro b148 w149 heb148 hEw149 hbb148 hzb148
      have hs_w149 := (hEw149).size
      replace hV := evo_step0 hV hEw149
      replace hCst7 := evo_step0 hCst7 hEw149
      replace hbx := hbx.evo0 hEw149
      replace hAx := hAx.evo0 hEw149
      have hAb148 := hbb148.at
      have hrb148 : RowE w149 (some ⟨b148, 0, none⟩) b148 0 1 ([⟨kx, (l.set (k - 1) c), ix⟩] : List Vc.Item) := rowLit ([⟨kx, (l.set (k - 1) c), ix⟩] : List Vc.Item) hbb148 rfl rfl
      refine h_next hCst7 ?_
      refine h_two (i := 10) (j := 11) (by kernel_rfl) ?_ ?_
      ·skip
       refine h_do (by exact rfl) ?_
       refine r_gyes rfl (wantT (by exact rfl)) (by exact rfl) ?_
       refine r_opcall rfl rfl rfl (run_callf (vs := [.slice (some ⟨b148, 0, none⟩) _ _]) rfl (by exact rfl) Try.func19 rfl (by kernel_rfl)) (validate_calls hrb148 (by first | assumption | exact kf_small | exact small_take (by assumption) _)) ?_
       rintro e w150 ⟨rfl, hE150⟩
       refine ⟨_, rfl, ?_⟩
       have hs_w150 := (hE150).size
       replace hV := evo_step0 hV hE150
       replace hCst7 := evo_step0 hCst7 hE150
       replace hbx := hbx.evo0 hE150
       replace hAx := hAx.evo0 hE150
       replace hrb148 := hrb148.evo0 hE150
       refine h_next hCst7 ?_
       refine h_one (i := 11) (by kernel_rfl) ?_
       refine h_do (by exact rfl) ?_
       refine r_gyes rfl (wantT (by exact rfl)) (by exact rfl) ?_
       refine r_op rfl rfl rfl (run_ldN rfl ag_26 ty_26 (by exact rfl) rfl hAx) ?_
       refine h_next hCst7 ?_
       refine h_one (i := 12) (by kernel_rfl) ?_
       refine h_do (by exact rfl) ?_
       refine r_gyes rfl (wantT (by exact rfl)) (by exact rfl) ?_
       refine r_bslice (pv := [(0, .agg _)]) (zs := [_, _, _]) (cs := [_, _, _]) Try.underlying30 ty_26 (by exact rfl) rfl (by exact rfl) rfl (by exact rfl) ?_
       intro b151 w152 heb151 hEw152 hbb151 hzb151
       have hs_w152 := (hEw152).size
       replace hV := evo_step0 hV hEw152
       replace hCst7 := evo_step0 hCst7 hEw152
       replace hbx := hbx.evo0 hEw152
       replace hAx := hAx.evo0 hEw152
       replace hrb148 := hrb148.evo0 hEw152
       have hAb151 := hbb151.at
       have hrb151 : RowE w152 (some ⟨b151, 0, none⟩) b151 0 1 ([⟨kx, (l.set (k - 1) c), ix⟩] : List Vc.Item) := rowLit ([⟨kx, (l.set (k - 1) c), ix⟩] : List Vc.Item) hbb151 rfl rfl
       refine h_next hCst7 ?_
       refine h_one (i := 13) (by kernel_rfl) ?_
       refine h_do (by exact rfl) ?_
       refine r_gyes rfl (wantT (by exact rfl)) (by exact rfl) ?_
       refine r_opcall rfl rfl rfl (run_callf (vs := [.slice (some ⟨b151, 0, none⟩) _ _]) rfl (by exact rfl) Try.func20 rfl (by kernel_rfl)) (rvalidate_calls hrb151 (by first | assumption | exact kf_small | exact small_take (by assumption) _)) ?_
       rintro e w153 ⟨rfl, hE153⟩
       refine ⟨_, rfl, ?_⟩
       have hs_w153 := (hE153).size
       replace hV := evo_step0 hV hE153
       replace hCst7 := evo_step0 hCst7 hE153
       replace hbx := hbx.evo0 hE153
       replace hAx := hAx.evo0 hE153
       replace hrb148 := hrb148.evo0 hE153
       replace hrb151 := hrb151.evo0 hE153
       refine h_next hCst7 ?_
       refine h_one (i := 14) (by kernel_rfl) ?_
       refine h_do (by exact rfl) ?_
       refine r_gyes rfl (wantT (by exact rfl)) (by exact rfl) ?_
       refine r_op rfl rfl rfl (run_eql rfl (by exact rfl) (by exact rfl)) ?_
       refine h_next hCst7 ?_
       refine h_take (i := 15) (by exact rfl) rfl rfl rfl (by kernel_rfl) (fun w' hC => run_pick_and rfl (by exact rfl) (fun _ => (by exact rfl)) rfl) hCst7 ?_
       refine h_take (i := 16) (by exact rfl) rfl rfl rfl (by kernel_rfl) (fun w' hC => run_mv (v := .bool _) rfl (by exact rfl)) hCst7 ?_
       refine h_one (i := 17) (by kernel_rfl) ?_
       refine h_do (by exact rfl) ?_
       refine r_gyes rfl (wantT (by exact rfl)) (by exact ⟨rfl, rfl⟩) ?_
       refine r_opcall rfl rfl rfl (run_callf (vs := []) rfl (by exact rfl) Try.func21 rfl (by kernel_rfl)) known_calls ?_
       rintro e w154 ⟨rfl, hE154⟩
       refine ⟨_, rfl, ?_⟩
       have hs_w154 := (hE154).size
       replace hV := evo_step0 hV hE154
       replace hCst7 := evo_step0 hCst7 hE154
       replace hbx := hbx.evo0 hE154
       replace hAx := hAx.evo0 hE154
       replace hrb148 := hrb148.evo0 hE154
       replace hrb151 := hrb151.evo0 hE154
       refine h_next hCst7 ?_
       refine h_take (i := 18) (by exact rfl) rfl rfl rfl (by kernel_rfl) (fun w' hC => run_pick_and rfl (by exact rfl) (fun _ => (by exact rfl)) rfl) hCst7 ?_
       refine h_take (i := 19) (by exact rfl) rfl rfl rfl (by kernel_rfl) (fun w' hC => run_asg (v := .bool _) rfl (by exact rfl)) hCst7 ?_
       refine h_done (by kernel_rfl) ?_
       refine r_ret (res1 (v := .bool _) rfl (by exact rfl)) ?_
       exact ⟨ret_bool (decide_eq_true ⟨⟨rfl, rfl⟩, trivial⟩), hV⟩
      ·skip
       refine h_do (by exact rfl) ?_
       refine r_gyes rfl (wantT (by exact rfl)) (by exact rfl) ?_
       refine r_op rfl rfl rfl (run_ldN rfl ag_26 ty_26 (by exact rfl) rfl hAx) ?_
       refine h_next hCst7 ?_
       refine h_two (i := 10) (j := 12) (by kernel_rfl) ?_ ?_
       ·skip
        refine h_do (by exact rfl) ?_
        refine r_gyes rfl (wantT (by exact rfl)) (by exact rfl) ?_
        refine r_opcall rfl rfl rfl (run_callf (vs := [.slice (some ⟨b148, 0, none⟩) _ _]) rfl (by exact rfl) Try.func19 rfl (by kernel_rfl)) (validate_calls hrb148 (by first | assumption | exact kf_small | exact small_take (by assumption) _)) ?_
        rintro e w155 ⟨rfl, hE155⟩
        refine ⟨_, rfl, ?_⟩
        have hs_w155 := (hE155).size
        replace hV := evo_step0 hV hE155
        replace hCst7 := evo_step0 hCst7 hE155
        replace hbx := hbx.evo0 hE155
        replace hAx := hAx.evo0 hE155
        replace hrb148 := hrb148.evo0 hE155
        refine h_next hCst7 ?_
        refine h_one (i := 12) (by kernel_rfl) ?_
        refine h_do (by exact rfl) ?_
        refine r_gyes rfl (wantT (by exact rfl)) (by exact rfl) ?_
        refine r_bslice (pv := [(0, .agg _)]) (zs := [_, _, _]) (cs := [_, _, _]) Try.underlying30 ty_26 (by exact rfl) rfl (by exact rfl) rfl (by exact rfl) ?_
        intro b156 w157 heb156 hEw157 hbb156 hzb156
        have hs_w157 := (hEw157).size
        replace hV := evo_step0 hV hEw157
        replace hCst7 := evo_step0 hCst7 hEw157
        replace hbx := hbx.evo0 hEw157
        replace hAx := hAx.evo0 hEw157
        replace hrb148 := hrb148.evo0 hEw157
        have hAb156 := hbb156.at
        have hrb156 : RowE w157 (some ⟨b156, 0, none⟩) b156 0 1 ([⟨kx, (l.set (k - 1) c), ix⟩] : List Vc.Item) := rowLit ([⟨kx, (l.set (k - 1) c), ix⟩] : List Vc.Item) hbb156 rfl rfl
        refine h_next hCst7 ?_
        refine h_one (i := 13) (by kernel_rfl) ?_
        refine h_do (by exact rfl) ?_
        refine r_gyes rfl (wantT (by exact rfl)) (by exact rfl) ?_
        refine r_opcall rfl rfl rfl (run_callf (vs := [.slice (some ⟨b156, 0, none⟩) _ _]) rfl (by exact rfl) Try.func20 rfl (by kernel_rfl)) (rvalidate_calls hrb156 (by first | assumption | exact kf_small | exact small_take (by assumption) _)) ?_
        rintro e w158 ⟨rfl, hE158⟩
        refine ⟨_, rfl, ?_⟩
        have hs_w158 := (hE158).size
        replace hV := evo_step0 hV hE158
        replace hCst7 := evo_step0 hCst7 hE158
        replace hbx := hbx.evo0 hE158
        replace hAx := hAx.evo0 hE158
        replace hrb148 := hrb148.evo0 hE158
        replace hrb156 := hrb156.evo0 hE158
        refine h_next hCst7 ?_
        refine h_one (i := 14) (by kernel_rfl) ?_
        refine h_do (by exact rfl) ?_
        refine r_gyes rfl (wantT (by exact rfl)) (by exact rfl) ?_
        refine r_op rfl rfl rfl (run_eql rfl (by exact rfl) (by exact rfl)) ?_
        refine h_next hCst7 ?_
        refine h_take (i := 15) (by exact rfl) rfl rfl rfl (by kernel_rfl) (fun w' hC => run_pick_and rfl (by exact rfl) (fun _ => (by exact rfl)) rfl) hCst7 ?_
        refine h_take (i := 16) (by exact rfl) rfl rfl rfl (by kernel_rfl) (fun w' hC => run_mv (v := .bool _) rfl (by exact rfl)) hCst7 ?_
        refine h_one (i := 17) (by kernel_rfl) ?_
        refine h_do (by exact rfl) ?_
        refine r_gyes rfl (wantT (by exact rfl)) (by exact ⟨rfl, rfl⟩) ?_
        refine r_opcall rfl rfl rfl (run_callf (vs := []) rfl (by exact rfl) Try.func21 rfl (by kernel_rfl)) known_calls ?_
        rintro e w159 ⟨rfl, hE159⟩
        refine ⟨_, rfl, ?_⟩
        have hs_w159 := (hE159).size
        replace hV := evo_step0 hV hE159
        replace hCst7 := evo_step0 hCst7 hE159
        replace hbx := hbx.evo0 hE159
        replace hAx := hAx.evo0 hE159
        replace hrb148 := hrb148.evo0 hE159
        replace hrb156 := hrb156.evo0 hE159
        refine h_next hCst7 ?_
        refine h_take (i := 18) (by exact rfl) rfl rfl rfl (by kernel_rfl) (fun w' hC => run_pick_and rfl (by exact rfl) (fun _ => (by exact rfl)) rfl) hCst7 ?_
        refine h_take (i := 19) (by exact rfl) rfl rfl rfl (by kernel_rfl) (fun w' hC => run_asg (v := .bool _) rfl (by exact rfl)) hCst7 ?_
        refine h_done (by kernel_rfl) ?_
        refine r_ret (res1 (v := .bool _) rfl (by exact rfl)) ?_
        exact ⟨ret_bool (decide_eq_true ⟨⟨rfl, rfl⟩, trivial⟩), hV⟩
       ·skip
        refine h_do (by exact rfl) ?_
        refine r_gyes rfl (wantT (by exact rfl)) (by exact rfl) ?_
        refine r_bslice (pv := [(0, .agg _)]) (zs := [_, _, _]) (cs := [_, _, _]) Try.underlying30 ty_26 (by exact rfl) rfl (by exact rfl) rfl (by exact rfl) ?_
        intro b160 w161 heb160 hEw161 hbb160 hzb160
        have hs_w161 := (hEw161).size
        replace hV := evo_step0 hV hEw161
        replace hCst7 := evo_step0 hCst7 hEw161
        replace hbx := hbx.evo0 hEw161
        replace hAx := hAx.evo0 hEw161
        replace hrb148 := hrb148.evo0 hEw161
        have hAb160 := hbb160.at
        have hrb160 : RowE w161 (some ⟨b160, 0, none⟩) b160 0 1 ([⟨kx, (l.set (k - 1) c), ix⟩] : List Vc.Item) := rowLit ([⟨kx, (l.set (k - 1) c), ix⟩] : List Vc.Item) hbb160 rfl rfl
        refine h_next hCst7 ?_
        refine h_one (i := 10) (by kernel_rfl) ?_
        refine h_do (by exact rfl) ?_
        refine r_gyes rfl (wantT (by exact rfl)) (by exact rfl) ?_
        refine r_opcall rfl rfl rfl (run_callf (vs := [.slice (some ⟨b148, 0, none⟩) _ _]) rfl (by exact rfl) Try.func19 rfl (by kernel_rfl)) (validate_calls hrb148 (by first | assumption | exact kf_small | exact small_take (by assumption) _)) ?_
        rintro e w162 ⟨rfl, hE162⟩
        refine ⟨_, rfl, ?_⟩
        have hs_w162 := (hE162).size
        replace hV := evo_step0 hV hE162
        replace hCst7 := evo_step0 hCst7 hE162
        replace hbx := hbx.evo0 hE162
        replace hAx := hAx.evo0 hE162
        replace hrb148 := hrb148.evo0 hE162
        replace hrb160 := hrb160.evo0 hE162
        refine h_next hCst7 ?_
        refine h_one (i := 13) (by kernel_rfl) ?_
        refine h_do (by exact rfl) ?_
        refine r_gyes rfl (wantT (by exact rfl)) (by exact rfl) ?_
        refine r_opcall rfl rfl rfl (run_callf (vs := [.slice (some ⟨b160, 0, none⟩) _ _]) rfl (by exact rfl) Try.func20 rfl (by kernel_rfl)) (rvalidate_calls hrb160 (by first | assumption | exact kf_small | exact small_take (by assumption) _)) ?_
        rintro e w163 ⟨rfl, hE163⟩
        refine ⟨_, rfl, ?_⟩
        have hs_w163 := (hE163).size
        replace hV := evo_step0 hV hE163
        replace hCst7 := evo_step0 hCst7 hE163
        replace hbx := hbx.evo0 hE163
        replace hAx := hAx.evo0 hE163
        replace hrb148 := hrb148.evo0 hE163
        replace hrb160 := hrb160.evo0 hE163
        refine h_next hCst7 ?_
        refine h_one (i := 14) (by kernel_rfl) ?_
        refine h_do (by exact rfl) ?_
        refine r_gyes rfl (wantT (by exact rfl)) (by exact rfl) ?_
        refine r_op rfl rfl rfl (run_eql rfl (by exact rfl) (by exact rfl)) ?_
        refine h_next hCst7 ?_
        refine h_take (i := 15) (by exact rfl) rfl rfl rfl (by kernel_rfl) (fun w' hC => run_pick_and rfl (by exact rfl) (fun _ => (by exact rfl)) rfl) hCst7 ?_
        refine h_take (i := 16) (by exact rfl) rfl rfl rfl (by kernel_rfl) (fun w' hC => run_mv (v := .bool _) rfl (by exact rfl)) hCst7 ?_
        refine h_one (i := 17) (by kernel_rfl) ?_
        refine h_do (by exact rfl) ?_
        refine r_gyes rfl (wantT (by exact rfl)) (by exact ⟨rfl, rfl⟩) ?_
        refine r_opcall rfl rfl rfl (run_callf (vs := []) rfl (by exact rfl) Try.func21 rfl (by kernel_rfl)) known_calls ?_
        rintro e w164 ⟨rfl, hE164⟩
        refine ⟨_, rfl, ?_⟩
        have hs_w164 := (hE164).size
        replace hV := evo_step0 hV hE164
        replace hCst7 := evo_step0 hCst7 hE164
        replace hbx := hbx.evo0 hE164
        replace hAx := hAx.evo0 hE164
        replace hrb148 := hrb148.evo0 hE164
        replace hrb160 := hrb160.evo0 hE164
        refine h_next hCst7 ?_
        refine h_take (i := 18) (by exact rfl) rfl rfl rfl (by kernel_rfl) (fun w' hC => run_pick_and rfl (by exact rfl) (fun _ => (by exact rfl)) rfl) hCst7 ?_
        refine h_take (i := 19) (by exact rfl) rfl rfl rfl (by kernel_rfl) (fun w' hC => run_asg (v := .bool _) rfl (by exact rfl)) hCst7 ?_
        refine h_done (by kernel_rfl) ?_
        refine r_ret (res1 (v := .bool _) rfl (by exact rfl)) ?_
        exact ⟨ret_bool (decide_eq_true ⟨⟨rfl, rfl⟩, trivial⟩), hV⟩
     ·skip
      refine h_do (by exact rfl) ?_
      refine r_gyes rfl (wantT (by exact rfl)) (by exact rfl) ?_
      refine r_op rfl rfl rfl (run_ldN rfl ag_26 ty_26 (by exact rfl) rfl hAx) ?_
      refine h_next hCst7 ?_
      refine h_two (i := 9) (j := 12) (by kernel_rfl) ?_ ?_
      ·skip
       refine h_do (by exact rfl) ?_
       refine r_gyes rfl (wantT (by exact rfl)) (by exact rfl) ?_
       refine r_bslice (pv := [(0, .agg _)]) (zs := [_, _, _]) (cs := [_, _, _]) Try.underlying30 ty_26 (by exact rfl) rfl (by exact rfl) rfl (by exact rfl) ?_
       intro b165 w166 heb165 hEw166 hbb165 hzb165
       have hs_w166 := (hEw166).size
       replace hV := evo_step0 hV hEw166
       replace hCst7 := evo_step0 hCst7 hEw166
       replace hbx := hbx.evo0 hEw166
       replace hAx := hAx.evo0 hEw166
       have hAb165 := hbb165.at
       have hrb165 : RowE w166 (some ⟨b165, 0, none⟩) b165 0 1 ([⟨kx, (l.set (k - 1) c), ix⟩] : List Vc.Item) := rowLit ([⟨kx, (l.set (k - 1) c), ix⟩] : List Vc.Item) hbb165 rfl rfl
       refine h_next hCst7 ?_
       refine h_two (i := 10) (j := 12) (by kernel_rfl) ?_ ?_
       ·skip
        refine h_do (by exact rfl) ?_
        refine r_gyes rfl (wantT (by exact rfl)) (by exact rfl) ?_
        refine r_opcall rfl rfl rfl (run_callf (vs := [.slice (some ⟨b165, 0, none⟩) _ _]) rfl (by exact rfl) Try.func19 rfl (by kernel_rfl)) (validate_calls hrb165 (by first | assumption | exact kf_small | exact small_take (by assumption) _)) ?_
        rintro e w167 ⟨rfl, hE167⟩
        refine ⟨_, rfl, ?_⟩
        have hs_w167 := (hE167).size
        replace hV := evo_step0 hV hE167
        replace hCst7 := evo_step0 hCst7 hE167
        replace hbx := hbx.evo0 hE167
        replace hAx := hAx.evo0 hE167
        replace hrb165 := hrb165.evo0 hE167
        refine h_next hCst7 ?_
        refine h_one (i := 12) (by kernel_rfl) ?_
        refine h_do (by exact rfl) ?_
        refine r_gyes rfl (wantT (by exact rfl)) (by exact rfl) ?_
        refine r_bslice (pv := [(0, .agg _)]) (zs := [_, _, _]) (cs := [_, _, _]) Try.underlying30 ty_26 (by exact rfl) rfl (by exact rfl) rfl (by exact rfl) ?_
        intro b168 w169 heb168 hEw169 hbb168 hzb168
        have hs_w169 := (hEw169).size
        replace hV := evo_step0 hV hEw169
        replace hCst7 := evo_step0 hCst7 hEw169
        replace hbx := hbx.evo0 hEw169
        replace hAx := hAx.evo0 hEw169
        replace hrb165 := hrb165.evo0 hEw169
        have hAb168 := hbb168.at
        have hrb168 : RowE w169 (some ⟨b168, 0, none⟩) b168 0 1 ([⟨kx, (l.set (k - 1) c), ix⟩] : List Vc.Item) := rowLit ([⟨kx, (l.set (k - 1) c), ix⟩] : List Vc.Item) hbb168 rfl rfl
        refine h_next hCst7 ?_
        refine h_one (i := 13) (by kernel_rfl) ?_
        refine h_do (by exact rfl) ?_
        refine r_gyes rfl (wantT (by exact rfl)) (by exact rfl) ?_
        refine r_opcall rfl rfl rfl (run_callf (vs := [.slice (some ⟨b168, 0, none⟩) _ _]) rfl (by exact rfl) Try.func20 rfl (by kernel_rfl)) (rvalidate_calls hrb168 (by first | assumption | exact kf_small | exact small_take (by assumption) _)) ?_
        rintro e w170 ⟨rfl, hE170⟩
        refine ⟨_, rfl, ?_⟩
        have hs_w170 := (hE170).size
        replace hV := evo_step0 hV hE170
        replace hCst7 := evo_step0 hCst7 hE170
        replace hbx := hbx.evo0 hE170
        replace hAx := hAx.evo0 hE170
        replace hrb165 := hrb165.evo0 hE170
        replace hrb168 := hrb168.evo0 hE170
        refine h_next hCst7 ?_
        refine h_one (i := 14) (by kernel_rfl) ?_
        refine h_do (by exact rfl) ?_
        refine r_gyes rfl (wantT (by exact rfl)) (by exact rfl) ?_
        refine r_op rfl rfl rfl (run_eql rfl (by exact rfl) (by exact rfl)) ?_
        refine h_next hCst7 ?_
        refine h_take (i := 15) (by exact rfl) rfl rfl rfl (by kernel_rfl) (fun w' hC => run_pick_and rfl (by exact rfl) (fun _ => (by exact rfl)) rfl) hCst7 ?_
        refine h_take (i := 16) (by exact rfl) rfl rfl rfl (by kernel_rfl) (fun w' hC => run_mv (v := .bool _) rfl (by exact rfl)) hCst7 ?_
        refine h_one (i := 17) (by kernel_rfl) ?_
        refine h_do (by exact rfl) ?_
        refine r_gyes rfl (wantT (by exact rfl)) (by exact ⟨rfl, rfl⟩) ?_
        refine r_opcall rfl rfl rfl (run_callf (vs := []) rfl (by exact rfl) Try.func21 rfl (by kernel_rfl)) known_calls ?_
        rintro e w171 ⟨rfl, hE171⟩
        refine ⟨_, rfl, ?_⟩
        have hs_w171 := (hE171).size
        replace hV := evo_step0 hV hE171
        replace hCst7 := evo_step0 hCst7 hE171
        replace hbx := hbx.evo0 hE171
        replace hAx := hAx.evo0 hE171
        replace hrb165 := hrb165.evo0 hE171
        replace hrb168 := hrb168.evo0 hE171
        refine h_next hCst7 ?_
        refine h_take (i := 18) (by exact rfl) rfl rfl rfl (by kernel_rfl) (fun w' hC => run_pick_and rfl (by exact rfl) (fun _ => (by exact rfl)) rfl) hCst7 ?_
        refine h_take (i := 19) (by exact rfl) rfl rfl rfl (by kernel_rfl) (fun w' hC => run_asg (v := .bool _) rfl (by exact rfl)) hCst7 ?_
        refine h_done (by kernel_rfl) ?_
        refine r_ret (res1 (v := .bool _) rfl (by exact rfl)) ?_
        exact ⟨ret_bool (decide_eq_true ⟨⟨rfl, rfl⟩, trivial⟩), hV⟩
       ·skip
        refine h_do (by exact rfl) ?_
        refine r_gyes rfl (wantT (by exact rfl)) (by exact rfl) ?_
        refine r_bslice (pv := [(0, .agg _)]) (zs := [_, _, _]) (cs := [_, _, _]) Try.underlying30 ty_26 (by exact rfl) rfl (by exact rfl) rfl (by exact rfl) ?_
        intro b172 w173 heb172 hEw173 hbb172 hzb172
        have hs_w173 := (hEw173).size
        replace hV := evo_step0 hV hEw173
        replace hCst7 := evo_step0 hCst7 hEw173
        replace hbx := hbx.evo0 hEw173
        replace hAx := hAx.evo0 hEw173
        replace hrb165 := hrb165.evo0 hEw173
        have hAb172 := hbb172.at
        have hrb172 : RowE w173 (some ⟨b172, 0, none⟩) b172 0 1 ([⟨kx, (l.set (k - 1) c), ix⟩] : List Vc.Item) := rowLit ([⟨kx, (l.set (k - 1) c), ix⟩] : List Vc.Item) hbb172 rfl rfl
        refine h_next hCst7 ?_
        refine h_one (i := 10) (by kernel_rfl) ?_
        refine h_do (by exact rfl) ?_
        refine r_gyes rfl (wantT (by exact rfl)) (by exact rfl) ?_
        refine r_opcall rfl rfl rfl (run_callf (vs := [.slice (some ⟨b165, 0, none⟩) _ _]) rfl (by exact rfl) Try.func19 rfl (by kernel_rfl)) (validate_calls hrb165 (by first | assumption | exact kf_small | exact small_take (by assumption) _)) ?_
        rintro e w174 ⟨rfl, hE174⟩
        refine ⟨_, rfl, ?_⟩
        have hs_w174 := (hE174).size
        replace hV := evo_step0 hV hE174
        replace hCst7 := evo_step0 hCst7 hE174
        replace hbx := hbx.evo0 hE174
        replace hAx := hAx.evo0 hE174
        replace hrb165 := hrb165.evo0 hE174
        replace hrb172 := hrb172.evo0 hE174
        refine h_next hCst7 ?_
        refine h_one (i := 13) (by kernel_rfl) ?_
        refine h_do (by exact rfl) ?_
        refine r_gyes rfl (wantT (by exact rfl)) (by exact rfl) ?_
        refine r_opcall rfl rfl rfl (run_callf (vs := [.slice (some ⟨b172, 0, none⟩) _ _]) rfl (by exact rfl) Try.func20 rfl (by kernel_rfl)) (rvalidate_calls hrb172 (by first | assumption | exact kf_small | exact small_take (by assumption) _)) ?_
        rintro e w175 ⟨rfl, hE175⟩
        refine ⟨_, rfl, ?_⟩
        have hs_w175 := (hE175).size
        replace hV := evo_step0 hV hE175
        replace hCst7 := evo_step0 hCst7 hE175
        replace hbx := hbx.evo0 hE175
        replace hAx := hAx.evo0 hE175
        replace hrb165 := hrb165.evo0 hE175
        replace hrb172 := hrb172.evo0 hE175
        refine h_next hCst7 ?_
        refine h_one (i := 14) (by kernel_rfl) ?_
        refine h_do (by exact rfl) ?_
        refine r_gyes rfl (wantT (by exact rfl)) (by exact rfl) ?_
        refine r_op rfl rfl rfl (run_eql rfl (by exact rfl) (by exact rfl)) ?_
        refine h_next hCst7 ?_
        refine h_take (i := 15) (by exact rfl) rfl rfl rfl (by kernel_rfl) (fun w' hC => run_pick_and rfl (by exact rfl) (fun _ => (by exact rfl)) rfl) hCst7 ?_
        refine h_take (i := 16) (by exact rfl) rfl rfl rfl (by kernel_rfl) (fun w' hC => run_mv (v := .bool _) rfl (by exact rfl)) hCst7 ?_
        refine h_one (i := 17) (by kernel_rfl) ?_
        refine h_do (by exact rfl) ?_
        refine r_gyes rfl (wantT (by exact rfl)) (by exact ⟨rfl, rfl⟩) ?_
        refine r_opcall rfl rfl rfl (run_callf (vs := []) rfl (by exact rfl) Try.func21 rfl (by kernel_rfl)) known_calls ?_
        rintro e w176 ⟨rfl, hE176⟩
        refine ⟨_, rfl, ?_⟩
        have hs_w176 := (hE176).size
        replace hV := evo_step0 hV hE176
        replace hCst7 := evo_step0 hCst7 hE176
        replace hbx := hbx.evo0 hE176
        replace hAx := hAx.evo0 hE176
        replace hrb165 := hrb165.evo0 hE176
        replace hrb172 := hrb172.evo0 hE176
        refine h_next hCst7 ?_
        refine h_take (i := 18) (by exact rfl) rfl rfl rfl (by kernel_rfl) (fun w' hC => run_pick_and rfl (by exact rfl) (fun _ => (by exact rfl)) rfl) hCst7 ?_
        refine h_take (i := 19) (by exact rfl) rfl rfl rfl (by kernel_rfl) (fun w' hC => run_asg (v := .bool _) rfl (by exact rfl)) hCst7 ?_
        refine h_done (by kernel_rfl) ?_
        refine r_ret (res1 (v := .bool _) rfl (by exact rfl)) ?_
        exact ⟨ret_bool (decide_eq_true ⟨⟨rfl, rfl⟩, trivial⟩), hV⟩
      ·skip
       refine h_do (by exact rfl) ?_
       refine r_gyes rfl (wantT (by exact rfl)) (by exact rfl) ?_
       refine r_bslice (pv := [(0, .agg _)]) (zs := [_, _, _]) (cs := [_, _, _]) Try.underlying30 ty_26 (by exact rfl) rfl (by exact rfl) rfl (by exact rfl) ?_
       intro b177 w178 heb177 hEw178 hbb177 hzb177
       have hs_w178 := (hEw178).size
       replace hV := evo_step0 hV hEw178
       replace hCst7 := evo_step0 hCst7 hEw178
       replace hbx := hbx.evo0 hEw178
       replace hAx := hAx.evo0 hEw178
       have hAb177 := hbb177.at
       have hrb177 : RowE w178 (some ⟨b177, 0, none⟩) b177 0 1 ([⟨kx, (l.set (k - 1) c), ix⟩] : List Vc.Item) := rowLit ([⟨kx, (l.set (k - 1) c), ix⟩] : List Vc.Item) hbb177 rfl rfl
       refine h_next hCst7 ?_
       refine h_one (i := 9) (by kernel_rfl) ?_
       refine h_do (by exact rfl) ?_
       refine r_gyes rfl (wantT (by exact rfl)) (by exact rfl) ?_
       refine r_bslice (pv := [(0, .agg _)]) (zs := [_, _, _]) (cs := [_, _, _]) Try.underlying30 ty_26 (by exact rfl) rfl (by exact rfl) rfl (by exact rfl) ?_
       intro b179 w180 heb179 hEw180 hbb179 hzb179
       have hs_w180 := (hEw180).size
       replace hV := evo_step0 hV hEw180
       replace hCst7 := evo_step0 hCst7 hEw180
       replace hbx := hbx.evo0 hEw180
       replace hAx := hAx.evo0 hEw180
       replace hrb177 := hrb177.evo0 hEw180
       have hAb179 := hbb179.at
       have hrb179 : RowE w180 (some ⟨b179, 0, none⟩) b179 0 1 ([⟨kx, (l.set (k - 1) c), ix⟩] : List Vc.Item) := rowLit ([⟨kx, (l.set (k - 1) c), ix⟩] : List Vc.Item) hbb179 rfl rfl
       refine h_next hCst7 ?_
       refine h_one (i := 10) (by kernel_rfl) ?_
       refine h_do (by exact rfl) ?_
       refine r_gyes rfl (wantT (by exact rfl)) (by exact rfl) ?_
       refine r_opcall rfl rfl rfl (run_callf (vs := [.slice (some ⟨b179, 0, none⟩) _ _]) rfl (by exact rfl) Try.func19 rfl (by kernel_rfl)) (validate_calls hrb179 (by first | assumption | exact kf_small | exact small_take (by assumption) _)) ?_
       rintro e w181 ⟨rfl, hE181⟩
       refine ⟨_, rfl, ?_⟩
       have hs_w181 := (hE181).size
       replace hV := evo_step0 hV hE181
       replace hCst7 := evo_step0 hCst7 hE181
       replace hbx := hbx.evo0 hE181
       replace hAx := hAx.evo0 hE181
       replace hrb177 := hrb177.evo0 hE181
       replace hrb179 := hrb179.evo0 hE181
       refine h_next hCst7 ?_
       refine h_one (i := 13) (by kernel_rfl) ?_
       refine h_do (by exact rfl) ?_
       refine r_gyes rfl (wantT (by exact rfl)) (by exact rfl) ?_
       refine r_opcall rfl rfl rfl (run_callf (vs := [.slice (some ⟨b177, 0, none⟩) _ _]) rfl (by exact rfl) Try.func20 rfl (by kernel_rfl)) (rvalidate_calls hrb177 (by first | assumption | exact kf_small | exact small_take (by assumption) _)) ?_
       rintro e w182 ⟨rfl, hE182⟩
       refine ⟨_, rfl, ?_⟩
       have hs_w182 := (hE182).size
       replace hV := evo_step0 hV hE182
       replace hCst7 := evo_step0 hCst7 hE182
       replace hbx := hbx.evo0 hE182
       replace hAx := hAx.evo0 hE182
       replace hrb177 := hrb177.evo0 hE182
       replace hrb179 := hrb179.evo0 hE182
       refine h_next hCst7 ?_
       refine h_one (i := 14) (by kernel_rfl) ?_
       refine h_do (by exact rfl) ?_
       refine r_gyes rfl (wantT (by exact rfl)) (by exact rfl) ?_
       refine r_op rfl rfl rfl (run_eql rfl (by exact rfl) (by exact rfl)) ?_
       refine h_next hCst7 ?_
       refine h_take (i := 15) (by exact rfl) rfl rfl rfl (by kernel_rfl) (fun w' hC => run_pick_and rfl (by exact rfl) (fun _ => (by exact rfl)) rfl) hCst7 ?_
       refine h_take (i := 16) (by exact rfl) rfl rfl rfl (by kernel_rfl) (fun w' hC => run_mv (v := .bool _) rfl (by exact rfl)) hCst7 ?_
       refine h_one (i := 17) (by kernel_rfl) ?_
       refine h_do (by exact rfl) ?_
       refine r_gyes rfl (wantT (by exact rfl)) (by exact ⟨rfl, rfl⟩) ?_
       refine r_opcall rfl rfl rfl (run_callf (vs := []) rfl (by exact rfl) Try.func21 rfl (by kernel_rfl)) known_calls ?_
       rintro e w183 ⟨rfl, hE183⟩
       refine ⟨_, rfl, ?_⟩
       have hs_w183 := (hE183).size
       replace hV := evo_step0 hV hE183
       replace hCst7 := evo_step0 hCst7 hE183
       replace hbx := hbx.evo0 hE183
       replace hAx := hAx.evo0 hE183
       replace hrb177 := hrb177.evo0 hE183
       replace hrb179 := hrb179.evo0 hE183
       refine h_next hCst7 ?_
       refine h_take (i := 18) (by exact rfl) rfl rfl rfl (by kernel_rfl) (fun w' hC => run_pick_and rfl (by exact rfl) (fun _ => (by exact rfl)) rfl) hCst7 ?_
       refine h_take (i := 19) (by exact rfl) rfl rfl rfl (by kernel_rfl) (fun w' hC => run_asg (v := .bool _) rfl (by exact rfl)) hCst7 ?_
       refine h_done (by kernel_rfl) ?_
       refine r_ret (res1 (v := .bool _) rfl (by exact rfl)) ?_
       exact ⟨ret_bool (decide_eq_true ⟨⟨rfl, rfl⟩, trivial⟩), hV⟩
    ·skip
     refine h_do (by exact rfl) ?_
     refine r_gyes rfl (wantT (by exact rfl)) (by exact rfl) ?_
     refine r_op rfl rfl rfl (run_ldN rfl ag_26 ty_26 (by exact rfl) rfl hAx) ?_
     refine h_next hCst7 ?_
     refine h_two (i := 8) (j := 12) (by kernel_rfl) ?_ ?_
     ·skip
      refine h_do (by exact rfl) ?_
      refine r_gyes rfl (wantT (by exact rfl)) (by exact rfl) ?_
      refine r_op rfl rfl rfl (run_ldN rfl ag_26 ty_26 (by exact rfl) rfl hAx) ?_
      refine h_next hCst7 ?_
      refine h_two (i := 9) (j := 12) (by kernel_rfl) ?_ ?_
      ·skip
       refine h_do (by exact rfl) ?_
       refine r_gyes rfl (wantT (by exact rfl)) (by exact rfl) ?_
       refine r_bslice (pv := [(0, .agg _)]) (zs := [_, _, _]) (cs := [_, _, _]) Try.underlying30 ty_26 (by exact rfl) rfl (by exact rfl) rfl (by exact rfl) ?_
       intro b184 w185 heb184 hEw185 hbb184 hzb184
       have hs_w185 := (hEw185).size
       replace hV := evo_step0 hV hEw185
       replace hCst7 := evo_step0 hCst7 hEw185
       replace hbx := hbx.evo0 hEw185
       replace hAx := hAx.evo0 hEw185
       have hAb184 := hbb184.at
       have hrb184 : RowE w185 (some ⟨b184, 0, none⟩) b184 0 1 ([⟨kx, (l.set (k - 1) c), ix⟩] : List Vc.Item) := rowLit ([⟨kx, (l.set (k - 1) c), ix⟩] : List Vc.Item) hbb184 rfl rfl
       refine h_next hCst7 ?_
       refine h_two (i := 10) (j := 12) (by kernel_rfl) ?_ ?_
       ·skip
        refine h_do (by exact rfl) ?_
        refine r_gyes rfl (wantT (by exact rfl)) (by exact rfl) ?_
        refine r_opcall rfl rfl rfl (run_callf (vs := [.slice (some ⟨b184, 0, none⟩) _ _]) rfl (by exact rfl) Try.func19 rfl (by kernel_rfl)) (validate_calls hrb184 (by first | assumption | exact kf_small | exact small_take (by assumption) _)) ?_
        rintro e w186 ⟨rfl, hE186⟩
        refine ⟨_, rfl, ?_⟩
        have hs_w186 := (hE186).size
        replace hV := evo_step0 hV hE186
        replace hCst7 := evo_step0 hCst7 hE186
        replace hbx := hbx.evo0 hE186
        replace hAx := hAx.evo0 hE186
        replace hrb184 := hrb184.evo0 hE186
        refine h_next hCst7 ?_
        refine h_one (i := 12) (by kernel_rfl) ?_
        refine h_do (by exact rfl) ?_
        refine r_gyes rfl (wantT (by exact rfl)) (by exact rfl) ?_
        refine r_bslice (pv := [(0, .agg _)]) (zs := [_, _, _]) (cs := [_, _, _]) Try.underlying30 ty_26 (by exact rfl) rfl (by exact rfl) rfl (by exact rfl) ?_
        intro b187 w188 heb187 hEw188 hbb187 hzb187
        have hs_w188 := (hEw188).size
        replace hV := evo_step0 hV hEw188
        replace hCst7 := evo_step0 hCst7 hEw188
        replace hbx := hbx.evo0 hEw188
        replace hAx := hAx.evo0 hEw188
        replace hrb184 := hrb184.evo0 hEw188
        have hAb187 := hbb187.at
        have hrb187 : RowE w188 (some ⟨b187, 0, none⟩) b187 0 1 ([⟨kx, (l.set (k - 1) c), ix⟩] : List Vc.Item) := rowLit ([⟨kx, (l.set (k - 1) c), ix⟩] : List Vc.Item) hbb187 rfl rfl
        refine h_next hCst7 ?_
        refine h_one (i := 13) (by kernel_rfl) ?_
        refine h_do (by exact rfl) ?_
        refine r_gyes rfl (wantT (by exact rfl)) (by exact rfl) ?_
        refine r_opcall rfl rfl rfl (run_callf (vs := [.slice (some ⟨b187, 0, none⟩) _ _]) rfl (by exact rfl) Try.func20 rfl (by kernel_rfl)) (rvalidate_calls hrb187 (by first | assumption | exact kf_small | exact small_take (by assumption) _)) ?_
        rintro e w189 ⟨rfl, hE189⟩
        refine ⟨_, rfl, ?_⟩
        have hs_w189 := (hE189).size
        replace hV := evo_step0 hV hE189
        replace hCst7 := evo_step0 hCst7 hE189
        replace hbx := hbx.evo0 hE189
        replace hAx := hAx.evo0 hE189
        replace hrb184 := hrb184.evo0 hE189
        replace hrb187 := hrb187.evo0 hE189
        refine h_next hCst7 ?_
        refine h_one (i := 14) (by kernel_rfl) ?_
        refine h_do (by exact rfl) ?_
        refine r_gyes rfl (wantT (by exact rfl)) (by exact rfl) ?_
        refine r_op rfl rfl rfl (run_eql rfl (by exact rfl) (by exact rfl)) ?_
        refine h_next hCst7 ?_
        refine h_take (i := 15) (by exact rfl) rfl rfl rfl (by kernel_rfl) (fun w' hC => run_pick_and rfl (by exact rfl) (fun _ => (by exact rfl)) rfl) hCst7 ?_
        refine h_take (i := 16) (by exact rfl) rfl rfl rfl (by kernel_rfl) (fun w' hC => run_mv (v := .bool _) rfl (by exact rfl)) hCst7 ?_
        refine h_one (i := 17) (by kernel_rfl) ?_
        refine h_do (by exact rfl) ?_
        refine r_gyes rfl (wantT (by exact rfl)) (by exact ⟨rfl, rfl⟩) ?_
        refine r_opcall rfl rfl rfl (run_callf (vs := []) rfl (by exact rfl) Try.func21 rfl (by kernel_rfl)) known_calls ?_
        rintro e w190 ⟨rfl, hE190⟩
        refine ⟨_, rfl, ?_⟩
        have hs_w190 := (hE190).size
        replace hV := evo_step0 hV hE190
        replace hCst7 := evo_step0 hCst7 hE190
        replace hbx := hbx.evo0 hE190
        replace hAx := hAx.evo0 hE190
        replace hrb184 := hrb184.evo0 hE190
        replace hrb187 := hrb187.evo0 hE190
        refine h_next hCst7 ?_
        refine h_take (i := 18) (by exact rfl) rfl rfl rfl (by kernel_rfl) (fun w' hC => run_pick_and rfl (by exact rfl) (fun _ => (by exact rfl)) rfl) hCst7 ?_
        refine h_take (i := 19) (by exact rfl) rfl rfl rfl (by kernel_rfl) (fun w' hC => run_asg (v := .bool _) rfl (by exact rfl)) hCst7 ?_
        refine h_done (by kernel_rfl) ?_
        refine r_ret (res1 (v := .bool _) rfl (by exact rfl)) ?_
        exact ⟨ret_bool (decide_eq_true ⟨⟨rfl, rfl⟩, trivial⟩), hV⟩
       ·skip
        refine h_do (by exact rfl) ?_
        refine r_gyes rfl (wantT (by exact rfl)) (by exact rfl) ?_
        refine r_bslice (pv := [(0, .agg _)]) (zs := [_, _, _]) (cs := [_, _, _]) Try.underlying30 ty_26 (by exact rfl) rfl (by exact rfl) rfl (by exact rfl) ?_
        intro b191 w192 heb191 hEw192 hbb191 hzb191
        have hs_w192 := (hEw192).size
        replace hV := evo_step0 hV hEw192
        replace hCst7 := evo_step0 hCst7 hEw192
        replace hbx := hbx.evo0 hEw192
        replace hAx := hAx.evo0 hEw192
        replace hrb184 := hrb184.evo0 hEw192
        have hAb191 := hbb191.at
        have hrb191 : RowE w192 (some ⟨b191, 0, none⟩) b191 0 1 ([⟨kx, (l.set (k - 1) c), ix⟩] : List Vc.Item) := rowLit ([⟨kx, (l.set (k - 1) c), ix⟩] : List Vc.Item) hbb191 rfl rfl
        refine h_next hCst7 ?_
        refine h_one (i := 10) (by kernel_rfl) ?_
        refine h_do (by exact rfl) ?_
        refine r_gyes rfl (wantT (by exact rfl)) (by exact rfl) ?_
        refine r_opcall rfl rfl rfl (run_callf (vs := [.slice (some ⟨b184, 0, none⟩) _ _]) rfl (by exact rfl) Try.func19 rfl (by kernel_rfl)) (validate_calls hrb184 (by first | assumption | exact kf_small | exact small_take (by assumption) _)) ?_
        rintro e w193 ⟨rfl, hE193⟩
        refine ⟨_, rfl, ?_⟩
        have hs_w193 := (hE193).size
        replace hV := evo_step0 hV hE193
        replace hCst7 := evo_step0 hCst7 hE193
        replace hbx := hbx.evo0 hE193
        replace hAx := hAx.evo0 hE193
        replace hrb184 := hrb184.evo0 hE193
        replace hrb191 := hrb191.evo0 hE193
        refine h_next hCst7 ?_
        refine h_one (i := 13) (by kernel_rfl) ?_
        refine h_do (by exact rfl) ?_
        refine r_gyes rfl (wantT (by exact rfl)) (by exact rfl) ?_
        refine r_opcall rfl rfl rfl (run_callf (vs := [.slice (some ⟨b191, 0, none⟩) _ _]) rfl (by exact rfl) Try.func20 rfl (by kernel_rfl)) (rvalidate_calls hrb191 (by first | assumption | exact kf_small | exact small_take (by assumption) _)) ?_
        rintro e w194 ⟨rfl, hE194⟩
        refine ⟨_, rfl, ?_⟩
        have hs_w194 := (hE194).size
        replace hV := evo_step0 hV hE194
        replace hCst7 := evo_step0 hCst7 hE194
        replace hbx := hbx.evo0 hE194
        replace hAx := hAx.evo0 hE194
        replace hrb184 := hrb184.evo0 hE194
        replace hrb191 := hrb191.evo0 hE194
        refine h_next hCst7 ?_
        refine h_one (i := 14) (by kernel_rfl) ?_
        refine h_do (by exact rfl) ?_
        refine r_gyes rfl (wantT (by exact rfl)) (by exact rfl) ?_
        refine r_op rfl rfl rfl (run_eql rfl (by exact rfl) (by exact rfl)) ?_
        refine h_next hCst7 ?_
        refine h_take (i := 15) (by exact rfl) rfl rfl rfl (by kernel_rfl) (fun w' hC => run_pick_and rfl (by exact rfl) (fun _ => (by exact rfl)) rfl) hCst7 ?_
        refine h_take (i := 16) (by exact rfl) rfl rfl rfl (by kernel_rfl) (fun w' hC => run_mv (v := .bool _) rfl (by exact rfl)) hCst7 ?_
        refine h_one (i := 17) (by kernel_rfl) ?_
        refine h_do (by exact rfl) ?_
        refine r_gyes rfl (wantT (by exact rfl)) (by exact ⟨rfl, rfl⟩) ?_
        refine r_opcall rfl rfl rfl (run_callf (vs := []) rfl (by exact rfl) Try.func21 rfl (by kernel_rfl)) known_calls ?_
        rintro e w195 ⟨rfl, hE195⟩
        refine ⟨_, rfl, ?_⟩
        have hs_w195 := (hE195).size
        replace hV := evo_step0 hV hE195
        replace hCst7 := evo_step0 hCst7 hE195
        replace hbx := hbx.evo0 hE195
        replace hAx := hAx.evo0 hE195
        replace hrb184 := hrb184.evo0 hE195
        replace hrb191 := hrb191.evo0 hE195
        refine h_next hCst7 ?_
        refine h_take (i := 18) (by exact rfl) rfl rfl rfl (by kernel_rfl) (fun w' hC => run_pick_and rfl (by exact rfl) (fun _ => (by exact rfl)) rfl) hCst7 ?_
        refine h_take (i := 19) (by exact rfl) rfl rfl rfl (by kernel_rfl) (fun w' hC => run_asg (v := .bool _) rfl (by exact rfl)) hCst7 ?_
        refine h_done (by kernel_rfl) ?_
        refine r_ret (res1 (v := .bool _) rfl (by exact rfl)) ?_
        exact ⟨ret_bool (decide_eq_true ⟨⟨rfl, rfl⟩, trivial⟩), hV⟩
      ·skip
       refine h_do (by exact rfl) ?_
       refine r_gyes rfl (wantT (by exact rfl)) (by exact rfl) ?_
       refine r_bslice (pv := [(0, .agg _)]) (zs := [_, _, _]) (cs := [_, _, _]) Try.underlying30 ty_26 (by exact rfl) rfl (by exact rfl) rfl (by exact rfl) ?_
       intro b196 w197 heb196 hEw197 hbb196 hzb196
       have hs_w197 := (hEw197).size
       replace hV := evo_step0 hV hEw197
       replace hCst7 := evo_step0 hCst7 hEw197
       replace hbx := hbx.evo0 hEw197
       replace hAx := hAx.evo0 hEw197
       have hAb196 := hbb196.at
       have hrb196 : RowE w197 (some ⟨b196, 0, none⟩) b196 0 1 ([⟨kx, (l.set (k - 1) c), ix⟩] : List Vc.Item) := rowLit ([⟨kx, (l.set (k - 1) c), ix⟩] : List Vc.Item) hbb196 rfl rfl
       refine h_next hCst7 ?_
       refine h_one (i := 9) (by kernel_rfl) ?_
       refine h_do (by exact rfl) ?_
       refine r_gyes rfl (wantT (by exact rfl)) (by exact rfl) ?_
       refine r_bslice (pv := [(0, .agg _)]) (zs := [_, _, _]) (cs := [_, _, _]) Try.underlying30 ty_26 (by exact rfl) rfl (by exact rfl) rfl (by exact rfl) ?_
       intro b198 w199 heb198 hEw199 hbb198 hzb198
       have hs_w199 := (hEw199).size
       replace hV := evo_step0 hV hEw199
       replace hCst7 := evo_step0 hCst7 hEw199
       replace hbx := hbx.evo0 hEw199
       replace hAx := hAx.evo0 hEw199
       replace hrb196 := hrb196.evo0 hEw199
       have hAb198 := hbb198.at
       have hrb198 : RowE w199 (some ⟨b198, 0, none⟩) b198 0 1 ([⟨kx, (l.set (k - 1) c), ix⟩] : List Vc.Item) := rowLit ([⟨kx, (l.set (k - 1) c), ix⟩] : List Vc.Item) hbb198 rfl rfl
       refine h_next hCst7 ?_
       refine h_one (i := 10) (by kernel_rfl) ?_
       refine h_do (by exact rfl) ?_
       refine r_gyes rfl (wantT (by exact rfl)) (by exact rfl) ?_
       refine r_opcall rfl rfl rfl (run_callf (vs := [.slice (some ⟨b198, 0, none⟩) _ _]) rfl (by exact rfl) Try.func19 rfl (by kernel_rfl)) (validate_calls hrb198 (by first | assumption | exact kf_small | exact small_take (by assumption) _)) ?_
       rintro e w200 ⟨rfl, hE200⟩
       refine ⟨_, rfl, ?_⟩
       have hs_w200 := (hE200).size
       replace hV := evo_step0 hV hE200
       replace hCst7 := evo_step0 hCst7 hE200
       replace hbx := hbx.evo0 hE200
       replace hAx := hAx.evo0 hE200
       replace hrb196 := hrb196.evo0 hE200
       replace hrb198 := hrb198.evo0 hE200
       refine h_next hCst7 ?_
       refine h_one (i := 13) (by kernel_rfl) ?_
       refine h_do (by exact rfl) ?_
       refine r_gyes rfl (wantT (by exact rfl)) (by exact rfl) ?_
       refine r_opcall rfl rfl rfl (run_callf (vs := [.slice (some ⟨b196, 0, none⟩) _ _]) rfl (by exact rfl) Try.func20 rfl (by kernel_rfl)) (rvalidate_calls hrb196 (by first | assumption | exact kf_small | exact small_take (by assumption) _)) ?_
       rintro e w201 ⟨rfl, hE201⟩
       refine ⟨_, rfl, ?_⟩
       have hs_w201 := (hE201).size
       replace hV := evo_step0 hV hE201
       replace hCst7 := evo_step0 hCst7 hE201
       replace hbx := hbx.evo0 hE201
       replace hAx := hAx.evo0 hE201
       replace hrb196 := hrb196.evo0 hE201
       replace hrb198 := hrb198.evo0 hE201
       refine h_next hCst7 ?_
       refine h_one (i := 14) (by kernel_rfl) ?_
       refine h_do (by exact rfl) ?_
       refine r_gyes rfl (wantT (by exact rfl)) (by exact rfl) ?_
       refine r_op rfl rfl rfl (run_eql rfl (by exact rfl) (by exact rfl)) ?_
       refine h_next hCst7 ?_
       refine h_take (i := 15) (by exact rfl) rfl rfl rfl (by kernel_rfl) (fun w' hC => run_pick_and rfl (by exact rfl) (fun _ => (by exact rfl)) rfl) hCst7 ?_
       refine h_take (i := 16) (by exact rfl) rfl rfl rfl (by kernel_rfl) (fun w' hC => run_mv (v := .bool _) rfl (by exact rfl)) hCst7 ?_
       refine h_one (i := 17) (by kernel_rfl) ?_
       refine h_do (by exact rfl) ?_
       refine r_gyes rfl (wantT (by exact rfl)) (by exact ⟨rfl, rfl⟩) ?_
       refine r_opcall rfl rfl rfl (run_callf (vs := []) rfl (by exact rfl) Try.func21 rfl (by kernel_rfl)) known_calls ?_
       rintro e w202 ⟨rfl, hE202⟩
       refine ⟨_, rfl, ?_⟩
       have hs_w202 := (hE202).size
       replace hV := evo_step0 hV hE202
       replace hCst7 := evo_step0 hCst7 hE202
       replace hbx := hbx.evo0 hE202
       replace hAx := hAx.evo0 hE202
       replace hrb196 := hrb196.evo0 hE202
       replace hrb198 := hrb198.evo0 hE202
       refine h_next hCst7 ?_
       refine h_take (i := 18) (by exact rfl) rfl rfl rfl (by kernel_rfl) (fun w' hC => run_pick_and rfl (by exact rfl) (fun _ => (by exact rfl)) rfl) hCst7 ?_
       refine h_take (i := 19) (by exact rfl) rfl rfl rfl (by kernel_rfl) (fun w' hC => run_asg (v := .bool _) rfl (by exact rfl)) hCst7 ?_
       refine h_done (by kernel_rfl) ?_
       refine r_ret (res1 (v := .bool _) rfl (by exact rfl)) ?_
       exact ⟨ret_bool (decide_eq_true ⟨⟨rfl, rfl⟩, trivial⟩), hV⟩
     ·skip
      refine h_do (by exact rfl) ?_
      refine r_gyes rfl (wantT (by exact rfl)) (by exact rfl) ?_
      refine r_bslice (pv := [(0, .agg _)]) (zs := [_, _, _]) (cs := [_, _, _]) Try.underlying30 ty_26 (by exact rfl) rfl (by exact rfl) rfl (by exact rfl) ?_
      intro b203 w204 heb203 hEw204 hbb203 hzb203
      have hs_w204 := (hEw204).size
      replace hV := evo_step0 hV hEw204
      replace hCst7 := evo_step0 hCst7 hEw204
      replace hbx := hbx.evo0 hEw204
      replace hAx := hAx.evo0 hEw204
      have hAb203 := hbb203.at
      have hrb203 : RowE w204 (some ⟨b203, 0, none⟩) b203 0 1 ([⟨kx, (l.set (k - 1) c), ix⟩] : List Vc.Item) := rowLit ([⟨kx, (l.set (k - 1) c), ix⟩] : List Vc.Item) hbb203 rfl rfl
      refine h_next hCst7 ?_
      refine h_one (i := 8) (by kernel_rfl) ?_
      refine h_do (by exact rfl) ?_
      refine r_gyes rfl (wantT (by exact rfl)) (by exact rfl) ?_
      refine r_op rfl rfl rfl (run_ldN rfl ag_26 ty_26 (by exact rfl) rfl hAx) ?_
      refine h_next hCst7 ?_
      refine h_one (i := 9) (by kernel_rfl) ?_
      refine h_do (by exact rfl) ?_
      refine r_gyes rfl (wantT (by exact rfl)) (by exact rfl) ?_
      refine r_bslice (pv := [(0, .agg _)]) (zs := [_, _, _]) (cs := [_, _, _]) Try.underlying30 ty_26 (by exact rfl) rfl (by exact rfl) rfl (by exact rfl) ?_
      intro b205 w206 heb205 hEw206 hbb205 hzb205
      have hs_w206 := (hEw206).size
      replace hV := evo_step0 hV hEw206
      replace hCst7 := evo_step0 hCst7 hEw206
      replace hbx := hbx.evo0 hEw206
      replace hAx := hAx.evo0 hEw206
      replace hrb203 := hrb203.evo0 hEw206
      have hAb205 := hbb205.at
      have hrb205 : RowE w206 (some ⟨b205, 0, none⟩) b205 0 1 ([⟨kx, (l.set (k - 1) c), ix⟩] : List Vc.Item) := rowLit ([⟨kx, (l.set (k - 1) c), ix⟩] : List Vc.Item) hbb205 rfl rfl
      refine h_next hCst7 ?_
      refine h_one (i := 10) (by kernel_rfl) ?_
      refine h_do (by exact rfl) ?_
      refine r_gyes rfl (wantT (by exact rfl)) (by exact rfl) ?_
      refine r_opcall rfl rfl rfl (run_callf (vs := [.slice (some ⟨b205, 0, none⟩) _ _]) rfl (by exact rfl) Try.func19 rfl (by kernel_rfl)) (validate_calls hrb205 (by first | assumption | exact kf_small | exact small_take (by assumption) _)) ?_
      rintro e w207 ⟨rfl, hE207⟩
      refine ⟨_, rfl, ?_⟩
      have hs_w207 := (hE207).size
      replace hV := evo_step0 hV hE207
      replace hCst7 := evo_step0 hCst7 hE207
      replace hbx := hbx.evo0 hE207
      replace hAx := hAx.evo0 hE207
      replace hrb203 := hrb203.evo0 hE207
      replace hrb205 := hrb205.evo0 hE207
      refine h_next hCst7 ?_
      refine h_one (i := 13) (by kernel_rfl) ?_
      refine h_do (by exact rfl) ?_
      refine r_gyes rfl (wantT (by exact rfl)) (by exact rfl) ?_
      refine r_opcall rfl rfl rfl (run_callf (vs := [.slice (some ⟨b203, 0, none⟩) _ _]) rfl (by exact rfl) Try.func20 rfl (by kernel_rfl)) (rvalidate_calls hrb203 (by first | assumption | exact kf_small | exact small_take (by assumption) _)) ?_
      rintro e w208 ⟨rfl, hE208⟩
      refine ⟨_, rfl, ?_⟩
      have hs_w208 := (hE208).size
      replace hV := evo_step0 hV hE208
      replace hCst7 := evo_step0 hCst7 hE208
      replace hbx := hbx.evo0 hE208
      replace hAx := hAx.evo0 hE208
      replace hrb203 := hrb203.evo0 hE208
      replace hrb205 := hrb205.evo0 hE208
      refine h_next hCst7 ?_
      refine h_one (i := 14) (by kernel_rfl) ?_
      refine h_do (by exact rfl) ?_
      refine r_gyes rfl (wantT (by exact rfl)) (by exact rfl) ?_
      refine r_op rfl rfl rfl (run_eql rfl (by exact rfl) (by exact rfl)) ?_
      refine h_next hCst7 ?_
      refine h_take (i := 15) (by exact rfl) rfl rfl rfl (by kernel_rfl) (fun w' hC => run_pick_and rfl (by exact rfl) (fun _ => (by exact rfl)) rfl) hCst7 ?_
      refine h_take (i := 16) (by exact rfl) rfl rfl rfl (by kernel_rfl) (fun w' hC => run_mv (v := .bool _) rfl (by exact rfl)) hCst7 ?_
      refine h_one (i := 17) (by kernel_rfl) ?_
      refine h_do (by exact rfl) ?_
      refine r_gyes rfl (wantT (by exact rfl)) (by exact ⟨rfl, rfl⟩) ?_
      refine r_opcall rfl rfl rfl (run_callf (vs := []) rfl (by exact rfl) Try.func21 rfl (by kernel_rfl)) known_calls ?_
      rintro e w209 ⟨rfl, hE209⟩
      refine ⟨_, rfl, ?_⟩
      have hs_w209 := (hE209).size
      replace hV := evo_step0 hV hE209
      replace hCst7 := evo_step0 hCst7 hE209
      replace hbx := hbx.evo0 hE209
      replace hAx := hAx.evo0 hE209
      replace hrb203 := hrb203.evo0 hE209
      replace hrb205 := hrb205.evo0 hE209
      refine h_next hCst7 ?_
      refine h_take (i := 18) (by exact rfl) rfl rfl rfl (by kernel_rfl) (fun w' hC => run_pick_and rfl (by exact rfl) (fun _ => (by exact rfl)) rfl) hCst7 ?_
      refine h_take (i := 19) (by exact rfl) rfl rfl rfl (by kernel_rfl) (fun w' hC => run_asg (v := .bool _) rfl (by exact rfl)) hCst7 ?_
      refine h_done (by kernel_rfl) ?_
      refine r_ret (res1 (v := .bool _) rfl (by exact rfl)) ?_
      exact ⟨ret_bool (decide_eq_true ⟨⟨rfl, rfl⟩, trivial⟩), hV⟩

end Go.Proofs.Ytkdgoghmkmpfnaa
