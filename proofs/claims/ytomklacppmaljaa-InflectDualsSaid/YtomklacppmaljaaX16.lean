import Derived.Test.YtomklacppmaljaaX15
import Derived.Test.YtomklacppmaljaaPw
import Derived.Test.YtomklacppmaljaaEqe
namespace Go.Proofs.Ytomklacppmaljaa
open Go.RowKit Go.Vc
theorem ag_3 : aggP Try.prog 3 = some false := by kernel_rfl
theorem fo_89_0 : fieldP Try.prog 89 0 = some 0 := by kernel_rfl
theorem fo_89_1 : fieldP Try.prog 89 1 = some 1 := by kernel_rfl
theorem pl_89 : placesP Try.prog 89 = some [(0, 1), (1, 1)] := by kernel_rfl
theorem ty_3 : tyP Try.prog 3 = some (1, 8, some (.int .i64 0)) := by kernel_rfl
theorem ty_89 : tyP Try.prog 89 = some (2, 32, some (.agg #[(.slice none 0 0), (.int .i64 0)])) := by kernel_rfl
theorem place_calls (x n : Int) {w0 : World} (hn : 1 ≤ n) (hn2 : n ≤ 1000000000) :
    Calls Try.prog 33 #[.int .i64 x, .int .i64 n] w0 fun e w' => e = .returned (.int .i64 (x % n)) ∧ w0 = w' := by
 refine calls_enter (n := 14) (args := [.int .i64 x, .int .i64 n]) Try.func33 rfl Try.ntmps33 rfl ?_
 have hV : Evo w0 w0 [] := Evo.refl _ _
 refine r_seq ?_
 refine r_region ?_
 refine r_op rfl rfl rfl (run_asg (v := .int _ _) rfl (by exact rfl)) ?_
 refine r_nil ?_
 refine r_seq ?_
 refine r_region ?_
 refine r_op rfl rfl rfl (run_mv (v := .int _ _) rfl (by exact rfl)) ?_
 refine r_op rfl rfl rfl (run_mv (v := .int _ _) rfl (by exact rfl)) ?_
 refine r_op rfl rfl rfl (run_rem rfl (by exact rfl) (by exact rfl) (by omega)) ?_
 refine r_op rfl rfl rfl (run_asg (v := .int _ _) rfl (by exact rfl)) ?_
 refine r_nil ?_
 refine r_seq ?_
 refine r_seq ?_
 refine r_region ?_
 refine r_op rfl rfl rfl (run_mv (v := .int _ _) rfl (by exact rfl)) ?_
 refine r_op rfl rfl rfl (run_lss rfl (by exact rfl) (by exact rfl)) ?_
 refine r_nil ?_
 refine r_cond (by exact rfl) (fun hc1 => ?_) (fun hc1 => ?_)
 ·skip
  refine r_region ?_
  refine r_op rfl rfl rfl (run_mv (v := .int _ _) rfl (by exact rfl)) ?_
  refine r_op rfl rfl rfl (run_mv (v := .int _ _) rfl (by exact rfl)) ?_
  refine r_op rfl rfl rfl (run_add rfl (by exact rfl) (by exact rfl) (by have := tmod_bd x n (by omega); omega) (by have := tmod_bd x n (by omega); omega)) ?_
  refine r_op rfl rfl rfl (run_asg (v := .int _ _) rfl (by exact rfl)) ?_
  refine r_nil ?_
  refine r_seq ?_
  refine r_region ?_
  refine r_op rfl rfl rfl (run_mv (v := .int _ _) rfl (by exact rfl)) ?_
  refine r_op rfl rfl rfl (run_asg (v := .int _ _) rfl (by exact rfl)) ?_
  refine r_nil ?_
  refine r_ret (res1 (v := .int _ _) rfl (by exact rfl)) ?_
  exact ⟨ret_int (by rw [← place_neg x n (by omega) (by omega)]), rfl⟩
 ·skip
  refine r_skip ?_
  refine r_seq ?_
  refine r_region ?_
  refine r_op rfl rfl rfl (run_mv (v := .int _ _) rfl (by exact rfl)) ?_
  refine r_op rfl rfl rfl (run_asg (v := .int _ _) rfl (by exact rfl)) ?_
  refine r_nil ?_
  refine r_ret (res1 (v := .int _ _) rfl (by exact rfl)) ?_
  exact ⟨ret_int (by rw [← place_pos x n (by omega) (by omega)]), rfl⟩

theorem next_calls {T bs : Nat} {ao : Option Addr} {b off cap : Nat} {l : List Int} {N : Nat} {n : Int} {w0 : World} (hb : Blk w0 bs T [.slice ao l.length cap, .int .i64 (N : Nat)]) (hl : RowE w0 ao b off cap l) (hN : N ≤ 1000000) (hn : 1 ≤ n) (hn2 : n ≤ 1000000000) :
    Calls Try.prog 67 #[.pointer (some ⟨bs, 0, none⟩), .int .i64 n] w0 fun e w' => e = .returned (.int .i64 (nextL l N n)) ∧ Evo w0 w' [bs] ∧ Blk w' bs T [.slice ao l.length cap, .int .i64 (N + 1 : Nat)] := by
 have hAs := hb.at
 refine calls_enter (n := 36) (args := [.pointer (some ⟨bs, 0, none⟩), .int .i64 n]) Try.func67 rfl Try.ntmps67 rfl ?_
 have hV : Evo w0 w0 [bs] := Evo.refl _ _
 have hbd_hl := hl.bd
 refine r_seq ?_
 refine r_region ?_
 refine r_op rfl rfl rfl (run_asg (v := .int _ _) rfl (by exact rfl)) ?_
 refine r_nil ?_
 refine r_seq ?_
 refine r_region ?_
 refine r_op rfl rfl rfl (run_asg (v := .int _ _) rfl (by exact rfl)) ?_
 refine r_nil ?_
 refine r_seq ?_
 refine r_seq ?_
 refine r_qregion (by kernel_rfl) (by kernel_rfl) ?_
 refine q_op rfl rfl rfl (fun w' hC => run_mv (v := .pointer _) rfl (by exact rfl)) ?_
 refine q_op rfl rfl rfl (fun w' hC => run_nc rfl (by exact rfl)) ?_
 refine q_op rfl rfl rfl (fun w' hC => run_fa rfl (by exact rfl) fo_89_1) ?_
 refine q_op rfl rfl rfl (fun w' hC => run_ld1 rfl ag_3 (by exact rfl) ((hAs.evo0 hC).cell 1 (by exact rfl))) ?_
 refine q_op rfl rfl rfl (fun w' hC => run_mv (v := .pointer _) rfl (by exact rfl)) ?_
 refine q_op rfl rfl rfl (fun w' hC => run_nc rfl (by exact rfl)) ?_
 refine q_op rfl rfl rfl (fun w' hC => run_fa rfl (by exact rfl) fo_89_0) ?_
 refine q_op rfl rfl rfl (fun w' hC => run_ld1 rfl ag_23 (by exact rfl) ((hAs.evo0 hC).cell 0 (by exact rfl))) ?_
 refine q_op rfl rfl rfl (fun w' hC => run_lenSl rfl (by exact rfl) Try.underlying23) ?_
 refine q_op rfl rfl rfl (fun w' hC => run_lss rfl (by exact rfl) (by exact rfl)) ?_
 refine q_nil (fun w1 hE2 => ?_)
 have hs_w1 := (hE2).size
 replace hV := evo_step0 hV hE2
 replace hb := hb.evo0 hE2
 replace hAs := hAs.evo0 hE2
 replace hl := hl.evo0 hE2
 refine r_cond (by exact rfl) (fun hc3 => ?_) (fun hc3 => ?_)
 ·skip
  refine r_qregion (by kernel_rfl) (by kernel_rfl) ?_
  refine q_op rfl rfl rfl (fun w' hC => run_mv (v := .pointer _) rfl (by exact rfl)) ?_
  refine q_op rfl rfl rfl (fun w' hC => run_nc rfl (by exact rfl)) ?_
  refine q_op rfl rfl rfl (fun w' hC => run_fa rfl (by exact rfl) fo_89_0) ?_
  refine q_op rfl rfl rfl (fun w' hC => run_ld1 rfl ag_23 (by exact rfl) ((hAs.evo0 hC).cell 0 (by exact rfl))) ?_
  refine q_op rfl rfl rfl (fun w' hC => run_mv (v := .pointer _) rfl (by exact rfl)) ?_
  refine q_op rfl rfl rfl (fun w' hC => run_nc rfl (by exact rfl)) ?_
  refine q_op rfl rfl rfl (fun w' hC => run_fa rfl (by exact rfl) fo_89_1) ?_
  refine q_op rfl rfl rfl (fun w' hC => run_ld1 rfl ag_3 (by exact rfl) ((hAs.evo0 hC).cell 1 (by exact rfl))) ?_
  refine q_op rfl rfl rfl (fun w' hC => run_ix (N) rfl Try.underlying23 ty_3 (by exact rfl) (by exact rfl) (by first | exact rfl | omega) (by omega) (hl.addr (i := N) (by omega))) ?_
  have hA4 := hl.atD (N) (by omega)
  refine q_op rfl rfl rfl (fun w' hC => run_ld1 rfl ag_3 (by exact rfl) ((hA4.evo0 hC).cell 0 (by exact rfl))) ?_
  refine q_op rfl rfl rfl (fun w' hC => run_asg (v := .int _ _) rfl (by exact rfl)) ?_
  refine q_nil (fun w5 hE6 => ?_)
  have hs_w5 := (hE6).size
  replace hV := evo_step0 hV hE6
  replace hb := hb.evo0 hE6
  replace hAs := hAs.evo0 hE6
  replace hl := hl.evo0 hE6
  refine r_seq ?_
  refine r_region ?_
  refine r_op rfl rfl rfl (run_mv (v := .pointer _) rfl (by exact rfl)) ?_
  refine r_op rfl rfl rfl (run_nc rfl (by exact rfl)) ?_
  refine r_op rfl rfl rfl (run_fa rfl (by exact rfl) fo_89_1) ?_
  refine r_op rfl rfl rfl (run_ld1 rfl ag_3 (by exact rfl) (hAs.cell 1 (by exact rfl))) ?_
  refine r_op rfl rfl rfl (run_add rfl (by exact rfl) (by exact rfl) (by omega) (by omega)) ?_
  refine r_op rfl rfl rfl (run_nc rfl (by exact rfl)) ?_
  refine r_op rfl rfl rfl (run_fa rfl (by exact rfl) fo_89_1) ?_
  refine r_store (v := .int _ _) (vs := [_]) (cs' := [_, _]) (by exact rfl) (by exact rfl) hb ty_3 (by exact rfl) rfl (by exact rfl) rfl (by exact rfl) ?_
  intro w7 hEw7 hzw7 hb_new
  have hs_w7 := (hEw7).size
  replace hV := evo_step1 hV hEw7 (.inr (by simp))
  replace hb := hb_new
  have hAs := hb.at
  clear hb_new
  refine r_nil ?_
  refine r_seq ?_
  refine r_region ?_
  refine r_op rfl rfl rfl (run_mv (v := .int _ _) rfl (by exact rfl)) ?_
  refine r_op rfl rfl rfl (run_mv (v := .int _ _) rfl (by exact rfl)) ?_
  refine r_opcall rfl rfl rfl (run_callf (vs := [.int _ _, .int _ _]) rfl (by exact rfl) Try.func33 rfl (by kernel_rfl)) (place_calls _ _ (by omega) (by omega)) ?_
  rintro e w8 ⟨rfl, rfl⟩
  refine ⟨_, rfl, ?_⟩
  refine r_op rfl rfl rfl (run_asg (v := .int _ _) rfl (by exact rfl)) ?_
  refine r_nil ?_
  refine r_ret (res1 (v := .int _ _) rfl (by exact rfl)) ?_
  exact ⟨ret_int (by first | rfl | (unfold nextL; simp [List.getD, List.getElem?_eq_none (by omega : l.length ≤ N)]; done)), hV, hb⟩
 ·skip
  refine r_skip ?_
  refine r_seq ?_
  refine r_region ?_
  refine r_op rfl rfl rfl (run_mv (v := .pointer _) rfl (by exact rfl)) ?_
  refine r_op rfl rfl rfl (run_nc rfl (by exact rfl)) ?_
  refine r_op rfl rfl rfl (run_fa rfl (by exact rfl) fo_89_1) ?_
  refine r_op rfl rfl rfl (run_ld1 rfl ag_3 (by exact rfl) (hAs.cell 1 (by exact rfl))) ?_
  refine r_op rfl rfl rfl (run_add rfl (by exact rfl) (by exact rfl) (by omega) (by omega)) ?_
  refine r_op rfl rfl rfl (run_nc rfl (by exact rfl)) ?_
  refine r_op rfl rfl rfl (run_fa rfl (by exact rfl) fo_89_1) ?_
  refine r_store (v := .int _ _) (vs := [_]) (cs' := [_, _]) (by exact rfl) (by exact rfl) hb ty_3 (by exact rfl) rfl (by exact rfl) rfl (by exact rfl) ?_
  intro w9 hEw9 hzw9 hb_new
  have hs_w9 := (hEw9).size
  replace hV := evo_step1 hV hEw9 (.inr (by simp))
  replace hb := hb_new
  have hAs := hb.at
  clear hb_new
  refine r_nil ?_
  refine r_seq ?_
  refine r_region ?_
  refine r_op rfl rfl rfl (run_mv (v := .int _ _) rfl (by exact rfl)) ?_
  refine r_op rfl rfl rfl (run_mv (v := .int _ _) rfl (by exact rfl)) ?_
  refine r_opcall rfl rfl rfl (run_callf (vs := [.int _ _, .int _ _]) rfl (by exact rfl) Try.func33 rfl (by kernel_rfl)) (place_calls _ _ (by omega) (by omega)) ?_
  rintro e w10 ⟨rfl, rfl⟩
  refine ⟨_, rfl, ?_⟩
  refine r_op rfl rfl rfl (run_asg (v := .int _ _) rfl (by exact rfl)) ?_
  refine r_nil ?_
  refine r_ret (res1 (v := .int _ _) rfl (by exact rfl)) ?_
  exact ⟨ret_int (by first | rfl | (unfold nextL; simp [List.getD, List.getElem?_eq_none (by omega : l.length ≤ N)]; done)), hV, hb⟩

theorem nx_calls {w0 : World} {T bs : Nat} {ao : Option Addr} {b off cap : Nat} {l : List Int} {N : Nat} {n : Int} (hb : Blk w0 bs T [.slice ao l.length cap, .int .i64 (N : Nat)]) (hl : RowE w0 ao b off cap l) (hN : N ≤ 1000000) (hn : 1 ≤ n) (hn2 : n ≤ 1000000000) :
    Calls Try.prog 67 #[.pointer (some ⟨bs, 0, none⟩), .int .i64 n] w0 fun e w' => ∃ r, e = .returned (.int .i64 r) ∧ (0 ≤ r ∧ r < n) ∧ Evo w0 w' [bs] ∧ Blk w' bs T [.slice ao l.length cap, .int .i64 (N + 1 : Nat)] :=
  (next_calls hb hl hN hn hn2).mono fun e w' ⟨h1, h2, h3⟩ => ⟨_, h1, nextL_bd l N n hn, h2, h3⟩

theorem decimal_calls {n : Nat} {w0 : World} (hn : n < 1000000000) :
    Calls Try.prog 82 #[.int .i64 (n : Nat)] w0 fun e w' => e = .returned (S (decW n [])) ∧ Evo w0 w' [] := by
 have hdl := decW_len 8 n [] (by omega); have hdg := decW_ge
 refine calls_enter (n := 17) (args := [.int .i64 (n : Nat)]) Try.func82 rfl Try.ntmps82 rfl ?_
 have hV : Evo w0 w0 [] := Evo.refl _ _
 refine r_seq ?_
 refine r_region ?_
 refine r_op rfl rfl rfl (run_asg (v := S _) rfl (by exact rfl)) ?_
 refine r_nil ?_
 refine r_seq ?_
 refine r_region ?_
 refine r_op rfl rfl rfl (run_asg (v := S _) rfl (by exact rfl)) ?_
 refine r_nil ?_
 refine r_block ?_
 refine r_loop (α := Nat) [0, 2, 3, 4, 5, 6, 7, 8, 9, 10, 11, 12, 13, 14, 15, 16] (fun m g w => ∃ s1 : Str, g 0 = .int .i64 (m : Nat) ∧ g 3 = S s1 ∧ (m < 1000000000 ∧ s1.length ≤ 20) ∧ decW n [] = decW m s1 ∧ w0.heap.size ≤ w.heap.size ∧ Evo w0 w []) (fun m => m) n ?_ ?_
 ·refine ⟨[], rfl, rfl, (by simp; omega), rfl, (by first | assumption | omega | (dsimp only; omega) | (simp; done)), hV⟩
 ·rintro m g w2 ⟨s1, hj3, hj4, hm, hdw, hzl1, hV⟩
  have hs_w2hV := hV.size
  refine r_know (i := 0) (v := .int .i64 (m : Nat)) (by exact hj3) ?_
  refine r_know (i := 3) (v := S s1) (by exact hj4) ?_
  have hdm := hdg m s1
  have htd := tdiv_ten m
  refine r_block ?_
  refine r_seq ?_
  refine r_region ?_
  refine r_op rfl rfl rfl (run_mv (v := .int _ _) rfl (by exact rfl)) ?_
  refine r_op rfl rfl rfl (run_rem rfl (by exact rfl) (by exact rfl) (by omega)) ?_
  refine r_op rfl rfl rfl (run_add rfl (by exact rfl) (by exact rfl) (by have := tmod_bd (m : Int) 10 (by omega); omega) (by have := tmod_bd (m : Int) 10 (by omega); omega)) ?_
  refine r_op rfl rfl rfl (run_cvInt rfl Try.underlying3 Try.underlying5 (by exact rfl)) ?_
  refine r_bslice (pv := [(0, .int _ _)]) (zs := [_]) (cs := [_]) Try.underlying52 ty_5 (by exact rfl) rfl (by exact rfl) rfl (by exact rfl) ?_
  intro b5 w6 heb5 hEw6 hbb5 hzb5
  have hs_w6 := (hEw6).size
  replace hV := evo_step0 hV hEw6
  have hAb5 := hbb5.at
  have hrb5 : RowE w6 (some ⟨b5, 0, none⟩) b5 0 1 ([UInt8.ofNat (48 + m % 10)] : List UInt8) := rowLit ([UInt8.ofNat (48 + m % 10)] : List UInt8) hbb5 (congrArg (fun z => [Value.int .u8 z]) (dig_wrap (n := m) rfl)) rfl
  refine r_op rfl rfl rfl (run_cvBS rfl Try.underlying52 Try.underlying5 Try.underlying9 (by exact rfl) (by first | rfl | simp) hrb5) ?_
  refine r_op rfl rfl rfl (run_mv (v := S _) rfl (by exact rfl)) ?_
  refine r_op rfl rfl rfl (run_sadd rfl (by exact rfl) (by exact rfl) (by first | omega | (simp; omega))) ?_
  refine r_op rfl rfl rfl (run_asg (v := S _) rfl (by exact rfl)) ?_
  refine r_nil ?_
  refine r_seq ?_
  refine r_region ?_
  refine r_op rfl rfl rfl (run_mv (v := .int _ _) rfl (by exact rfl)) ?_
  refine r_op rfl rfl rfl (run_quo rfl (by exact rfl) (by exact rfl) (by omega) (by have h8 := tdiv_ten m; omega) (by have h8 := tdiv_ten m; omega)) ?_
  refine r_op rfl rfl rfl (run_asg (v := .int _ _) rfl (by exact rfl)) ?_
  refine r_nil ?_
  refine r_seq ?_
  refine r_region ?_
  refine r_op rfl rfl rfl (run_mv (v := .int _ _) rfl (by exact rfl)) ?_
  refine r_op rfl rfl rfl (run_eql rfl (by exact rfl) (by exact rfl)) ?_
  refine r_nil ?_
  refine r_cond (by exact rfl) (fun hc7 => ?_) (fun hc7 => ?_)
  ·skip
   refine r_seq ?_
   refine r_region ?_
   refine r_op rfl rfl rfl (run_mv (v := S _) rfl (by exact rfl)) ?_
   refine r_op rfl rfl rfl (run_asg (v := S _) rfl (by exact rfl)) ?_
   refine r_nil ?_
   refine r_ret (res1 (v := S _) rfl (by exact rfl)) ?_
   exact ⟨ret_str (by rw [hdw, decW_stop s1 (by omega)]; rfl), hV⟩
  ·skip
   refine r_skip ?_
   refine r_blk ?_
   refine r_again (m / 10) ?_ ?_ ?_
   ·first | omega | (dsimp only; omega)
   ·refine ⟨_, (congrArg (Value.int _) htd), rfl, (by have h8 := congrArg List.length (hdw.trans (decW_go s1 (by omega))); have h7 := hdg (m / 10) (UInt8.ofNat (48 + m % 10) :: s1); simp at h7 h8 hdl ⊢; omega), (hdw.trans (decW_go s1 (by omega))), (by first | assumption | omega | (dsimp only; omega) | (simp; done)), hV⟩
   ·repeat (first | (with_reducible exact Agree.merge _ _ _) | (with_reducible exact Agree.refl _ _) | (with_reducible refine Agree.upd ?_ _ _ rfl) | ((with_reducible refine Agree.inner ?_ ?_); (kernel_rfl)))

theorem Decimal_calls {n : Nat} {w0 : World} (hn : n < 1000000000) :
    Calls Try.prog 36 #[.int .i64 (n : Nat)] w0 fun e w' => e = .returned (S (decW n [])) ∧ Evo w0 w' [] := by
 refine calls_enter (n := 16) (args := [.int .i64 (n : Nat)]) Try.func36 rfl Try.ntmps36 rfl ?_
 have hV : Evo w0 w0 [] := Evo.refl _ _
 refine r_seq ?_
 refine r_region ?_
 refine r_op rfl rfl rfl (run_asg (v := S _) rfl (by exact rfl)) ?_
 refine r_nil ?_
 refine r_seq ?_
 refine r_seq ?_
 refine r_region ?_
 refine r_op rfl rfl rfl (run_mv (v := .int _ _) rfl (by exact rfl)) ?_
 refine r_op rfl rfl rfl (run_lss rfl (by exact rfl) (by exact rfl)) ?_
 refine r_op rfl rfl rfl (run_mv (v := .bool _) rfl (by exact rfl)) ?_
 refine r_g rfl (wantT (by exact rfl)) rfl (fun hg => run_mv (v := .int _ _) rfl (by exact rfl)) ?_
 refine r_g rfl (wantT (by exact rfl)) rfl (fun hg => run_gtr rfl (glv (by exact rfl) (fun h => h) hg) (by exact rfl)) ?_
 refine r_op rfl rfl rfl (run_pick_and rfl (by exact rfl) (fun hq => glv (by exact rfl) (fun h => h) hq) rfl) ?_
 refine r_nil ?_
 refine r_cond (by exact rfl) (fun hc1 => ?_) (fun hc1 => ?_)
 ·skip
  exfalso; omega
 ·skip
  refine r_skip ?_
  refine r_seq ?_
  refine r_region ?_
  refine r_op rfl rfl rfl (run_mv (v := .int _ _) rfl (by exact rfl)) ?_
  refine r_op rfl rfl rfl (run_max rfl (by exact rfl) (by exact rfl)) ?_
  refine r_knowL (i := 14) (v := .int .i64 (n : Nat)) (congrArg (Value.int _) (by omega)) ?_
  refine r_opcall rfl rfl rfl (run_callf (vs := [.int _ _]) rfl (by exact rfl) Try.func82 rfl (by kernel_rfl)) (decimal_calls (by omega)) ?_
  rintro e w2 ⟨rfl, hE2⟩
  refine ⟨_, rfl, ?_⟩
  have hs_w2 := (hE2).size
  replace hV := evo_step0 hV hE2
  refine r_op rfl rfl rfl (run_asg (v := S _) rfl (by exact rfl)) ?_
  refine r_nil ?_
  refine r_ret (res1 (v := S _) rfl (by exact rfl)) ?_
  exact ⟨rfl, hV⟩

theorem from_calls {ao : Option Addr} {cap : Nat} {l : List Int} {w0 : World}  :
    Calls Try.prog 25 #[.slice ao l.length cap] w0 fun e w' => ∃ bs, e = .returned (.pointer (some ⟨bs, 0, none⟩)) ∧ w0.heap.size ≤ bs ∧ Evo w0 w' [] ∧ Blk w' bs 89 [.slice ao l.length cap, .int .i64 ((0 : Nat) : Int)] ∧ At w' bs 0 [.slice ao l.length cap, .int .i64 ((0 : Nat) : Int)] := by
 refine calls_enter (n := 6) (args := [.slice ao l.length cap]) Try.func25 rfl Try.ntmps25 rfl ?_
 have hV : Evo w0 w0 [] := Evo.refl _ _
 refine r_seq ?_
 refine r_region ?_
 refine r_op rfl rfl rfl (run_asg (v := .pointer _) rfl (by exact rfl)) ?_
 refine r_nil ?_
 refine r_seq ?_
 refine r_region ?_
 refine r_op rfl rfl rfl (run_mv (v := .slice _ _ _) rfl (by exact rfl)) ?_
 refine r_op rfl rfl rfl (run_bld (pv := [(0, .slice _ _ _)]) (zs := [_, _]) (cells := [_, _]) rfl ty_89 (by exact rfl) pl_89 (by exact rfl) (by exact rfl)) ?_
 refine r_box (vs := [_, _]) (by exact rfl) (by exact rfl) rfl ?_
 intro b1 w2 heb1 hEw2 hbb1 hzb1
 have hs_w2 := (hEw2).size
 replace hV := evo_step0 hV hEw2
 have hAb1 := hbb1.at
 refine r_op rfl rfl rfl (run_asg (v := .pointer _) rfl (by exact rfl)) ?_
 refine r_nil ?_
 refine r_ret (res1 (v := .pointer _) rfl (by exact rfl)) ?_
 exact ⟨_, rfl, by omega, hV, hbb1, hAb1⟩

end Go.Proofs.Ytomklacppmaljaa
