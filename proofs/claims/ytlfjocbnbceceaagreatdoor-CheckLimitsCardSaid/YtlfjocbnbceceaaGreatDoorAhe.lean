/-
  Library, plain laws and walks that the statements reach (joined by a program out of smaller texts).
-/
import Derived.Test.YtlfjocbnbceceaaGreatDoorAhd
import Derived.Shelf.SlSortCmp.NoneTotal
import Derived.Test.YtlfjocbnbceceaaGreatDoorProg
import Derived.Test.YtlfjocbnbceceaaGreatDoorAha
import Derived.Test.YtlfjocbnbceceaaGreatDoorAhc
import Derived.Test.YtlfjocbnbceceaaGreatDoorAhb
set_option linter.unusedVariables false
set_option linter.unusedSimpArgs false
namespace Go.Proofs.YtlfjocbnbceceaaGreatDoor
open Go.RowKit Go.Vc
set_option maxHeartbeats 1000000 in
theorem differs_calls {aoa : Option Addr} {ba offa capa : Nat} {a : List Str} {aob : Option Addr} {bb offb capb : Nat} {b : List Str} {w0 : World} (ha : RowE w0 aoa ba offa capa a) (hb : RowE w0 aob bb offb capb b) (hsa : a.length ≤ 1000000) (hsb : b.length ≤ 1000000) :
    Calls Tryz.prog 105 #[.slice aoa a.length capa, .slice aob b.length capb] w0 fun e w' => ∃ bm m, e = .returned (.map (some bm)) ∧ Evo w0 w' [] ∧ w0.heap.size ≤ bm ∧ MapIs w' bm S (Value.int .i64) m ∧ DifM a b m := by
 refine calls_enter (n := 47) Tryz.func105 rfl Tryz.ntmps105 rfl ?_
 have hV : Evo w0 w0 [] := Evo.refl _ _
 have ha0 := keepE ha
 have hbd_ha := ha.bd
 have hb0 := keepE hb
 have hbd_hb := hb.bd
 refine Zs ?_
 refine Zn rfl (asM rfl) ?_
 refine Zs ?_
 refine r_makeMap (α := Str) (β := Int) S (Value.int .i64) rfl ?_
 intro b1 w2 J1 E2 hmb1 Y1
 have Q2 := E2.size
 replace hV := Z0 hV E2
 replace ha := ha0 _ hV
 replace hb := hb0 _ hV
 refine Zn rfl (asM rfl) ?_
 refine r_seq ?_
 refine Zs ?_
 refine Zo rfl (mvS rfl) ?_
 refine Zo rfl (run_lenSl rfl rfl Tryz.underlying77) ?_
 refine Zn rfl (mvI rfl) ?_
 refine r_block ?_
 refine r_loop (α := Nat) [7, 15, 16, 17, 18, 19, 20, 21, 22, 23] (fun k g w => ∃ m : List (Str × Int), g 15 = .int .i64 (k : Nat) ∧ k ≤ b.length ∧ MapIs w b1 S (Value.int .i64) m ∧ CntG (b.take k) [] m ∧ w2.heap.size ≤ w.heap.size ∧ Evo w0 w []) (fun k => b.length - k) 0 ?_ ?_
 ·refine ⟨_, (by first | exact rfl | exact congrArg (Value.int _) (by omega) | exact congrArg (Value.int _) (by dsimp only; omega) | exact congrArg (Value.int _) (by simp) | exact congrArg S (by simp)), (by first | assumption | omega | (dsimp only; omega) | (simp; done)), hmb1, (by rw [List.take_zero]; exact CntG.nil), (by first | assumption | omega | (dsimp only; omega) | (simp; done)), hV⟩
 rintro k g w4 ⟨m, hj5, hk_k, hmb1, hcg, hzl3, hV⟩
 have hs_w4hV := hV.size
 have hlt6 := hmb1.lt
 replace ha := ha0 _ hV
 replace hb := hb0 _ hV
 refine Zk 15 (v := .int .i64 (k : Nat)) (by exact hj5) ?_
 refine Zs ?_
 refine Zn rfl (run_lss rfl rfl rfl) ?_
 refine r_seq ?_
 refine r_cond rfl (fun hc7 => ?_) (fun hc7 => ?_)
 ·skip
  refine r_skip ?_
  refine r_seq ?_
  refine r_block ?_
  refine Zs ?_
  refine Zo rfl (run_ix (k) rfl Tryz.underlying77 ty_9 rfl rfl (by first | exact rfl | omega) (by omega) (hb.addr (i := k) (by omega))) ?_
  have hA80 := fun (w' : World) (h : Evo w0 w' []) => (hb0 w' h).atD (k) (by omega)
  have hA8 := hA80 _ hV
  refine Zo rfl (run_ld1 rfl ag_9 rfl (hA8.cell 0 rfl)) ?_
  refine Zn rfl (asT rfl) ?_
  have hgv := hcg.get (b.getD k default); have hgb := dif_bd ([]) (b.take k) (b.getD k default); have hgk := List.length_take_le k a; have hgl := List.length_take_le k b; have hg0 : ([] : List Str).length = 0 := rfl
  refine r_region ?_
  refine Zo rfl (mvM rfl) ?_
  refine Zo rfl (mvT rfl) ?_
  refine Zo rfl (run_lookup1 (a := (b.getD k default)) (z := 0) (v := .int _ _) (key_str Tryz.underlying9) rfl Tryz.underlying134 ty_3 (by exact rfl) (by exact rfl) hmb1 rfl) ?_
  refine Zo rfl (run_add rfl rfl rfl (by omega) (by omega)) ?_
  refine r_mapset (a := _) (key_str Tryz.underlying9) Tryz.underlying134 (by exact rfl) (by exact rfl) (by exact rfl) hmb1 ?_
  intro w9 E9 V9 hm_new
  have Q9 := E9.size
  replace hV := Z1 hV E9 (by first | exact .inl (by omega) | exact .inr (by simp))
  replace ha := ha0 _ hV
  replace hb := hb0 _ hV
  replace hmb1 := hm_new
  clear hm_new
  refine r_nil ?_
  refine r_blk ?_
  refine r_region ?_
  refine Zo rfl (run_add rfl rfl rfl (by omega) (by omega)) ?_
  refine Zn rfl (mvI rfl) ?_
  refine r_again (k + 1) ?_ ?_ ?_
  ·first | omega | (dsimp only; omega)
  ·refine ⟨_, (by first | exact rfl | exact congrArg (Value.int _) (by omega) | exact congrArg (Value.int _) (by dsimp only; omega) | exact congrArg (Value.int _) (by simp) | exact congrArg S (by simp)), (by first | assumption | omega | (dsimp only; omega) | (simp; done)), hmb1, (by rw [take_succD _ k (by omega)]; exact hcg.inc (bump1 rfl)), (by first | assumption | omega | (dsimp only; omega) | (simp; done)), hV⟩
  repeat (first | (with_reducible exact Agree.merge _ _ _) | (with_reducible exact Agree.refl _ _) | (with_reducible refine Agree.upd ?_ _ _ rfl) | ((with_reducible refine Agree.inner ?_ ?_); (kernel_rfl)))
 refine r_exit rfl ?_
 refine r_seq ?_
 refine Zs ?_
 refine Zo rfl (mvS rfl) ?_
 refine Zo rfl (run_lenSl rfl rfl Tryz.underlying77) ?_
 refine Zn rfl (mvI rfl) ?_
 refine r_block ?_
 have hcg1 := hcg; rw [List.take_of_length_le (by omega)] at hcg1
 refine r_loop (α := Nat) [9, 26, 27, 28, 29, 30, 31, 32, 33, 34] (fun k g w => ∃ m : List (Str × Int), g 26 = .int .i64 (k : Nat) ∧ k ≤ a.length ∧ MapIs w b1 S (Value.int .i64) m ∧ CntG b (a.take k) m ∧ w4.heap.size ≤ w.heap.size ∧ Evo w0 w []) (fun k => a.length - k) 0 ?_ ?_
 ·refine ⟨_, (by first | exact rfl | exact congrArg (Value.int _) (by omega) | exact congrArg (Value.int _) (by dsimp only; omega) | exact congrArg (Value.int _) (by simp) | exact congrArg S (by simp)), (by first | assumption | omega | (dsimp only; omega) | (simp; done)), hmb1, (by rw [List.take_zero]; exact hcg1), (by first | assumption | omega | (dsimp only; omega) | (simp; done)), hV⟩
 rintro k g w11 ⟨m, hj12, hk_k, hmb1, hcg, hzl10, hV⟩
 have hs_w11hV := hV.size
 have hlt13 := hmb1.lt
 replace ha := ha0 _ hV
 refine Zk 26 (v := .int .i64 (k : Nat)) (by exact hj12) ?_
 refine Zs ?_
 refine Zn rfl (run_lss rfl rfl rfl) ?_
 refine r_seq ?_
 refine r_cond rfl (fun hc14 => ?_) (fun hc14 => ?_)
 ·skip
  refine r_skip ?_
  refine r_seq ?_
  refine r_block ?_
  refine Zs ?_
  refine Zo rfl (run_ix (k) rfl Tryz.underlying77 ty_9 rfl rfl (by first | exact rfl | omega) (by omega) (ha.addr (i := k) (by omega))) ?_
  have hA150 := fun (w' : World) (h : Evo w0 w' []) => (ha0 w' h).atD (k) (by omega)
  have hA15 := hA150 _ hV
  refine Zo rfl (run_ld1 rfl ag_9 rfl (hA15.cell 0 rfl)) ?_
  refine Zn rfl (asT rfl) ?_
  have hgv := hcg.get (a.getD k default); have hgb := dif_bd (a.take k) (b) (a.getD k default); have hgk := List.length_take_le k a; have hgl := List.length_take_le k b; have hg0 : ([] : List Str).length = 0 := rfl
  refine r_region ?_
  refine Zo rfl (mvM rfl) ?_
  refine Zo rfl (mvT rfl) ?_
  refine Zo rfl (run_lookup1 (a := (a.getD k default)) (z := 0) (v := .int _ _) (key_str Tryz.underlying9) rfl Tryz.underlying134 ty_3 (by exact rfl) (by exact rfl) hmb1 rfl) ?_
  refine Zo rfl (run_sub rfl rfl rfl (by omega) (by omega)) ?_
  refine r_mapset (a := _) (key_str Tryz.underlying9) Tryz.underlying134 (by exact rfl) (by exact rfl) (by exact rfl) hmb1 ?_
  intro w16 E16 V16 hm_new
  have Q16 := E16.size
  replace hV := Z1 hV E16 (by first | exact .inl (by omega) | exact .inr (by simp))
  replace ha := ha0 _ hV
  replace hb := hb0 _ hV
  replace hmb1 := hm_new
  clear hm_new
  refine r_nil ?_
  refine r_blk ?_
  refine r_region ?_
  refine Zo rfl (run_add rfl rfl rfl (by omega) (by omega)) ?_
  refine Zn rfl (mvI rfl) ?_
  refine r_again (k + 1) ?_ ?_ ?_
  ·first | omega | (dsimp only; omega)
  ·refine ⟨_, (by first | exact rfl | exact congrArg (Value.int _) (by omega) | exact congrArg (Value.int _) (by dsimp only; omega) | exact congrArg (Value.int _) (by simp) | exact congrArg S (by simp)), (by first | assumption | omega | (dsimp only; omega) | (simp; done)), hmb1, (by rw [take_succD _ k (by omega)]; exact hcg.dec (bump1 rfl)), (by first | assumption | omega | (dsimp only; omega) | (simp; done)), hV⟩
  repeat (first | (with_reducible exact Agree.merge _ _ _) | (with_reducible exact Agree.refl _ _) | (with_reducible refine Agree.upd ?_ _ _ rfl) | ((with_reducible refine Agree.inner ?_ ?_); (kernel_rfl)))
 refine r_exit rfl ?_
 refine r_seq ?_
 refine Zs ?_
 refine Zo rfl (mvM rfl) ?_
 refine r_range rfl Tryz.underlying134 (by exact rfl) hmb1 ?_
 intro r17 w18 her17 E18 hir17 hzr17
 have Q18 := E18.size
 replace hV := Z0 hV E18
 replace ha := ha0 _ hV
 replace hb := hb0 _ hV
 replace hmb1 := hmb1.evo0 E18
 refine r_nil ?_
 refine r_block ?_
 have hcg2 := hcg; rw [List.take_of_length_le (by omega)] at hcg2; have hnd := hmb1.nodup
 refine r_loop (α := List (Str × Int)) [10, 11, 37, 38, 39, 40, 41, 42, 43, 44, 45] (fun left g w => ∃ m9 : List (Str × Int), ∃ la : Option (Str × Int), IterIs w r17 b1 S (Value.int .i64) m9 left la ∧ DelI a b m9 left ∧ w18.heap.size ≤ w.heap.size ∧ Evo w0 w []) (fun left => left.length) m ?_ ?_
 ·refine ⟨_, _, hir17, (hcg2.mem hnd), (by first | assumption | omega | (dsimp only; omega) | (simp; done)), hV⟩
 rintro left g w20 ⟨m9, la, hir17, hdi, hzl19, hV⟩
 have hs_w20hV := hV.size
 refine Zs ?_
 refine r_next rfl (by exact rfl) hir17 (fun hn21 => ?_) (fun l1_21 p21 l2_21 w21 hl21 hE21 hz21 hi_new => ?_)
 ·skip
  subst hn21
  refine Zn rfl (run_extract (v := .bool _) rfl rfl rfl) ?_
  refine r_seq ?_
  refine r_cond_no rfl ?_
  refine r_exit rfl ?_
  refine Zs ?_
  refine Zo rfl (mvM rfl) ?_
  refine Zn rfl (asM rfl) ?_
  refine r_ret (res1 (v := .map _) rfl rfl) ?_
  exact ⟨_, _, rfl, hV, by omega, hir17.map, hdi.done⟩
 have Q21 := hE21.size
 replace hV := Z1 hV hE21 (by first | exact .inl (by omega) | exact .inr (by simp))
 replace ha := ha0 _ hV
 replace hb := hb0 _ hV
 replace hir17 := hi_new
 clear hi_new
 refine Zn rfl (run_extract (v := .bool _) rfl rfl rfl) ?_
 refine r_seq ?_
 refine r_cond_yes rfl ?_
 refine r_skip ?_
 refine r_block ?_
 refine Zs ?_
 refine Zo rfl (run_entryI rfl rfl hir17) ?_
 refine Zo rfl (run_extract (v := S _) rfl rfl rfl) ?_
 refine Zo rfl (run_extract (v := .int _ _) rfl rfl rfl) ?_
 refine Zo rfl (asT rfl) ?_
 refine Zn rfl (asI rfl) ?_
 refine Zs ?_
 refine Zo rfl (mvI rfl) ?_
 refine Zn rfl (run_eql rfl rfl rfl) ?_
 refine r_cond rfl (fun hc22 => ?_) (fun hc22 => ?_)
 ·skip
  refine r_region ?_
  refine Zo rfl (mvM rfl) ?_
  refine Zo rfl (mvT rfl) ?_
  refine r_delI (p := p21) (key_str Tryz.underlying9) Tryz.underlying134 (by exact rfl) (by exact rfl) hir17 ?_
  intro w23 E23 V23 hi_new
  have Q23 := E23.size
  replace hV := Z1 hV E23 (by first | exact .inl (by omega) | exact .inr (by simp))
  replace ha := ha0 _ hV
  replace hb := hb0 _ hV
  replace hir17 := hi_new
  clear hi_new
  refine r_nil ?_
  refine r_blk ?_
  refine r_again (l1_21 ++ l2_21) ?_ ?_ ?_
  ·rw [hl21]; simp
  ·refine ⟨_, _, hir17, (by first | exact (show DelI a b m9 (l1_21 ++ p21 :: l2_21) from hl21 ▸ hdi).strike hc22 | exact (show DelI a b m9 (l1_21 ++ p21 :: l2_21) from hl21 ▸ hdi).keep hc22), (by first | assumption | omega | (dsimp only; omega) | (simp; done)), hV⟩
  repeat (first | (with_reducible exact Agree.merge _ _ _) | (with_reducible exact Agree.refl _ _) | (with_reducible refine Agree.upd ?_ _ _ rfl) | ((with_reducible refine Agree.inner ?_ ?_); (kernel_rfl)))
 refine r_skip ?_
 refine r_blk ?_
 refine r_again (l1_21 ++ l2_21) ?_ ?_ ?_
 ·rw [hl21]; simp
 ·refine ⟨_, _, hir17, (by first | exact (show DelI a b m9 (l1_21 ++ p21 :: l2_21) from hl21 ▸ hdi).strike hc22 | exact (show DelI a b m9 (l1_21 ++ p21 :: l2_21) from hl21 ▸ hdi).keep hc22), (by first | assumption | omega | (dsimp only; omega) | (simp; done)), hV⟩
 repeat (first | (with_reducible exact Agree.merge _ _ _) | (with_reducible exact Agree.refl _ _) | (with_reducible refine Agree.upd ?_ _ _ rfl) | ((with_reducible refine Agree.inner ?_ ?_); (kernel_rfl)))
set_option maxHeartbeats 1000000 in
theorem differi_calls {aoa : Option Addr} {ba offa capa : Nat} {a : List Vc.Item} {aob : Option Addr} {bb offb capb : Nat} {b : List Vc.Item} {w0 : World} (ha : RowE w0 aoa ba offa capa a) (hb : RowE w0 aob bb offb capb b) (hsa : a.length ≤ 1000000) (hsb : b.length ≤ 1000000) :
    Calls Tryz.prog 106 #[.slice aoa a.length capa, .slice aob b.length capb] w0 fun e w' => ∃ bm m, e = .returned (.map (some bm)) ∧ Evo w0 w' [] ∧ w0.heap.size ≤ bm ∧ MapIs w' bm (fun x : Vc.Item => Value.agg (Enc.enc x).toArray) (Value.int .i64) m ∧ DifM a b m := by
 refine calls_enter (n := 51) Tryz.func106 rfl Tryz.ntmps106 rfl ?_
 have hV : Evo w0 w0 [] := Evo.refl _ _
 have ha0 := keepE ha
 have hbd_ha := ha.bd
 have hb0 := keepE hb
 have hbd_hb := hb.bd
 refine Zs ?_
 refine Zn rfl (asM rfl) ?_
 refine Zs ?_
 refine r_makeMap (α := Vc.Item) (β := Int) (fun x : Vc.Item => Value.agg (Enc.enc x).toArray) (Value.int .i64) rfl ?_
 intro b1 w2 J1 E2 hmb1 Y1
 have Q2 := E2.size
 replace hV := Z0 hV E2
 replace ha := ha0 _ hV
 replace hb := hb0 _ hV
 refine Zn rfl (asM rfl) ?_
 refine r_seq ?_
 refine Zs ?_
 refine Zo rfl (mvS rfl) ?_
 refine Zo rfl (run_lenSl rfl rfl Tryz.underlying33) ?_
 refine Zn rfl (mvI rfl) ?_
 refine r_block ?_
 refine r_loop (α := Nat) [7, 15, 16, 17, 18, 19, 20, 21, 22, 23, 24, 25] (fun k g w => ∃ m : List (Vc.Item × Int), g 15 = .int .i64 (k : Nat) ∧ k ≤ b.length ∧ MapIs w b1 (fun x : Vc.Item => Value.agg (Enc.enc x).toArray) (Value.int .i64) m ∧ CntG (b.take k) [] m ∧ w2.heap.size ≤ w.heap.size ∧ Evo w0 w []) (fun k => b.length - k) 0 ?_ ?_
 ·refine ⟨_, (by first | exact rfl | exact congrArg (Value.int _) (by omega) | exact congrArg (Value.int _) (by dsimp only; omega) | exact congrArg (Value.int _) (by simp) | exact congrArg S (by simp)), (by first | assumption | omega | (dsimp only; omega) | (simp; done)), hmb1, (by rw [List.take_zero]; exact CntG.nil), (by first | assumption | omega | (dsimp only; omega) | (simp; done)), hV⟩
 rintro k g w4 ⟨m, hj5, hk_k, hmb1, hcg, hzl3, hV⟩
 have hs_w4hV := hV.size
 have hlt6 := hmb1.lt
 replace ha := ha0 _ hV
 replace hb := hb0 _ hV
 refine Zk 15 (v := .int .i64 (k : Nat)) (by exact hj5) ?_
 refine Zs ?_
 refine Zn rfl (run_lss rfl rfl rfl) ?_
 refine r_seq ?_
 refine r_cond rfl (fun hc7 => ?_) (fun hc7 => ?_)
 ·skip
  refine r_skip ?_
  refine r_seq ?_
  refine r_block ?_
  refine Zs ?_
  refine Zo rfl (run_ix (k) rfl Tryz.underlying33 ty_32 rfl rfl (by first | exact rfl | omega) (by omega) (hb.addr (i := k) (by omega))) ?_
  have hA80 := fun (w' : World) (h : Evo w0 w' []) => (hb0 w' h).atD (k) (by omega)
  have hA8 := hA80 _ hV
  refine Zo rfl (run_ldN rfl ag_32 ty_32 rfl rfl hA8) ?_
  refine r_var (zs := [_, _, _]) (vs := [_, _, _]) ty_32 rfl rfl rfl (fun _ => rfl) rfl rfl rfl rfl ?_
  intro b9 w10 J9 E10 B9 Y9
  have Q10 := E10.size
  replace hV := Z0 hV E10
  replace hmb1 := hmb1.evo0 E10
  refine r_nil ?_
  have hgv := hcg.get (b.getD k default); have hgb := dif_bd ([]) (b.take k) (b.getD k default); have hgk := List.length_take_le k a; have hgl := List.length_take_le k b; have hg0 : ([] : List Vc.Item).length = 0 := rfl
  have hB9 : (getM (setM m (b.getD k default) ((getM m (b.getD k default)).getD 0)) (b.getD k default)).getD 0 = (getM m (b.getD k default)).getD 0 := by rw [getM_setM, if_pos rfl]; rfl
  refine r_cut [19, 20, 21, 22, 23, 24] (fun g w => ∃ m2 : List (Vc.Item × Int), MapIs w b1 (fun x : Vc.Item => Value.agg (Enc.enc x).toArray) (Value.int .i64) m2 ∧ Bump m m2 (b.getD k default) 1 ∧ w10.heap.size ≤ w.heap.size ∧ Evo w0 w []) ?_ ?_
  ·skip
   have hmb1_q := hmb1
   have hbb9_q := B9
   have hAb9_q := B9.at
   have hV_q := hV
   refine h_region ([b1]) (by kernel_rfl) ?_
   intro w12 hE13 hC14
   have Q12 := hE13.size
   replace hV := Z0 hV hE13
   replace hmb1 := hmb1.evo0 hE13
   replace B9 := B9.evo0 hE13
   refine h_take (i := 0) rfl rfl rfl rfl (by kernel_rfl) (fun w' hC => run_mv (v := .map _) rfl rfl) hC14 ?_
   refine h_take (i := 1) rfl rfl rfl rfl (by kernel_rfl) (fun w' hC => run_ldN rfl ag_32 ty_32 rfl rfl (hAb9_q.evo hC (by simp; omega))) hC14 ?_
   refine h_two (i := 2) (j := 4) (by kernel_rfl) ?_ ?_
   ·skip
    refine h_do rfl ?_
    refine Zo rfl (run_lookup1 (a := (b.getD k default)) (z := 0) (v := .int _ _) kitem rfl Tryz.underlying74 ty_3 (by exact rfl) (by exact rfl) hmb1 rfl) ?_
    refine h_next hC14 ?_
    refine h_take (i := 3) rfl rfl rfl rfl (by kernel_rfl) (fun w' hC => run_add rfl rfl rfl (by omega) (by omega)) hC14 ?_
    refine h_one (i := 4) (by kernel_rfl) ?_
    refine h_do rfl ?_
    refine r_mapEntry (a := (b.getD k default)) (z := 0) kitem rfl Tryz.underlying74 ty_3 (by exact rfl) (by exact rfl) hmb1 ?_
    intro s15 w15 hE15 V15 hm_new hst15
    have Q15 := hE15.size
    replace hV := Z1 hV hE15 (by first | exact .inl (by omega) | exact .inr (by simp))
    replace hC14 := Z1 hC14 hE15 (by first | exact .inl (by omega) | exact .inr (by simp))
    replace hmb1 := hm_new
    clear hm_new
    refine h_next hC14 ?_
    refine h_take (i := 5) rfl rfl rfl rfl (by kernel_rfl) (fun w' hC => run_extract (v := .int _ _) rfl rfl rfl) hC14 ?_
    refine h_one (i := 6) (by kernel_rfl) ?_
    refine h_do rfl ?_
    refine r_entryStore (a := (b.getD k default)) kitem (by exact rfl) (by exact rfl) (by exact rfl) hmb1 hst15 ?_
    intro w16 hE16 V16 hm_new
    have Q16 := hE16.size
    replace hV := Z1 hV hE16 (by first | exact .inl (by omega) | exact .inr (by simp))
    replace ha := ha0 _ hV
    replace hb := hb0 _ hV
    replace hmb1 := hm_new
    clear hm_new
    refine h_last (by kernel_rfl) ?_
    refine h_done (by kernel_rfl) ?_
    refine r_cut_end ?_ ?_
    ·refine ⟨_, hmb1, (by first | exact bumpF 1 | exact bumpT 1), (by first | assumption | omega | (dsimp only; omega) | (simp; done)), hV⟩
    repeat (first | (with_reducible exact Agree.merge _ _ _) | (with_reducible exact Agree.refl _ _) | (with_reducible refine Agree.upd ?_ _ _ rfl) | ((with_reducible refine Agree.inner ?_ ?_); (kernel_rfl)))
   refine h_do rfl ?_
   refine r_mapEntry (a := (b.getD k default)) (z := 0) kitem rfl Tryz.underlying74 ty_3 (by exact rfl) (by exact rfl) hmb1 ?_
   intro s17 w17 hE17 V17 hm_new hst17
   have Q17 := hE17.size
   replace hV := Z1 hV hE17 (by first | exact .inl (by omega) | exact .inr (by simp))
   replace hC14 := Z1 hC14 hE17 (by first | exact .inl (by omega) | exact .inr (by simp))
   replace B9 := B9.evo hE17 (by simp; omega)
   replace hmb1 := hm_new
   clear hm_new
   refine h_next hC14 ?_
   refine h_take (i := 5) rfl rfl rfl rfl (by kernel_rfl) (fun w' hC => run_extract (v := .int _ _) rfl rfl rfl) hC14 ?_
   refine h_one (i := 2) (by kernel_rfl) ?_
   refine h_do rfl ?_
   refine Zo rfl (run_lookup1 (a := (b.getD k default)) (z := 0) (v := .int _ _) kitem rfl Tryz.underlying74 ty_3 (by exact rfl) (by exact rfl) hmb1 rfl) ?_
   refine h_next hC14 ?_
   refine h_take (i := 3) rfl rfl rfl rfl (by kernel_rfl) (fun w' hC => run_add rfl rfl rfl (by omega) (by omega)) hC14 ?_
   refine h_one (i := 6) (by kernel_rfl) ?_
   refine h_do rfl ?_
   refine r_entryStore (a := (b.getD k default)) kitem (by exact rfl) (by exact rfl) (by exact rfl) hmb1 hst17 ?_
   intro w18 hE18 V18 hm_new
   have Q18 := hE18.size
   replace hV := Z1 hV hE18 (by first | exact .inl (by omega) | exact .inr (by simp))
   replace ha := ha0 _ hV
   replace hb := hb0 _ hV
   replace hmb1 := hm_new
   clear hm_new
   refine h_last (by kernel_rfl) ?_
   refine h_done (by kernel_rfl) ?_
   refine r_cut_end ?_ ?_
   ·refine ⟨_, hmb1, (by first | exact bumpF 1 | exact bumpT 1), (by first | assumption | omega | (dsimp only; omega) | (simp; done)), hV⟩
   repeat (first | (with_reducible exact Agree.merge _ _ _) | (with_reducible exact Agree.refl _ _) | (with_reducible refine Agree.upd ?_ _ _ rfl) | ((with_reducible refine Agree.inner ?_ ?_); (kernel_rfl)))
  rintro g w19 ⟨m2, hmb1, hm2, hzl11, hV⟩
  have hs_w19hV := hV.size
  have hlt20 := hmb1.lt
  replace ha := ha0 _ hV
  replace hb := hb0 _ hV
  replace hA8 := hA80 _ hV
  refine r_blk ?_
  refine r_region ?_
  refine Zo rfl (run_add rfl rfl rfl (by omega) (by omega)) ?_
  refine Zn rfl (mvI rfl) ?_
  refine r_again (k + 1) ?_ ?_ ?_
  ·first | omega | (dsimp only; omega)
  ·refine ⟨_, (by first | exact rfl | exact congrArg (Value.int _) (by omega) | exact congrArg (Value.int _) (by dsimp only; omega) | exact congrArg (Value.int _) (by simp) | exact congrArg S (by simp)), (by first | assumption | omega | (dsimp only; omega) | (simp; done)), hmb1, (by rw [take_succD _ k (by omega)]; exact hcg.inc hm2), (by first | assumption | omega | (dsimp only; omega) | (simp; done)), hV⟩
  repeat (first | (with_reducible exact Agree.merge _ _ _) | (with_reducible exact Agree.refl _ _) | (with_reducible refine Agree.upd ?_ _ _ rfl) | ((with_reducible refine Agree.inner ?_ ?_); (kernel_rfl)))
 refine r_exit rfl ?_
 refine r_seq ?_
 refine Zs ?_
 refine Zo rfl (mvS rfl) ?_
 refine Zo rfl (run_lenSl rfl rfl Tryz.underlying33) ?_
 refine Zn rfl (mvI rfl) ?_
 refine r_block ?_
 have hcg1 := hcg; rw [List.take_of_length_le (by omega)] at hcg1
 refine r_loop (α := Nat) [9, 28, 29, 30, 31, 32, 33, 34, 35, 36, 37, 38] (fun k g w => ∃ m : List (Vc.Item × Int), g 28 = .int .i64 (k : Nat) ∧ k ≤ a.length ∧ MapIs w b1 (fun x : Vc.Item => Value.agg (Enc.enc x).toArray) (Value.int .i64) m ∧ CntG b (a.take k) m ∧ w4.heap.size ≤ w.heap.size ∧ Evo w0 w []) (fun k => a.length - k) 0 ?_ ?_
 ·refine ⟨_, (by first | exact rfl | exact congrArg (Value.int _) (by omega) | exact congrArg (Value.int _) (by dsimp only; omega) | exact congrArg (Value.int _) (by simp) | exact congrArg S (by simp)), (by first | assumption | omega | (dsimp only; omega) | (simp; done)), hmb1, (by rw [List.take_zero]; exact hcg1), (by first | assumption | omega | (dsimp only; omega) | (simp; done)), hV⟩
 rintro k g w22 ⟨m, hj23, hk_k, hmb1, hcg, hzl21, hV⟩
 have hs_w22hV := hV.size
 have hlt24 := hmb1.lt
 replace ha := ha0 _ hV
 refine Zk 28 (v := .int .i64 (k : Nat)) (by exact hj23) ?_
 refine Zs ?_
 refine Zn rfl (run_lss rfl rfl rfl) ?_
 refine r_seq ?_
 refine r_cond rfl (fun hc25 => ?_) (fun hc25 => ?_)
 ·skip
  refine r_skip ?_
  refine r_seq ?_
  refine r_block ?_
  refine Zs ?_
  refine Zo rfl (run_ix (k) rfl Tryz.underlying33 ty_32 rfl rfl (by first | exact rfl | omega) (by omega) (ha.addr (i := k) (by omega))) ?_
  have hA260 := fun (w' : World) (h : Evo w0 w' []) => (ha0 w' h).atD (k) (by omega)
  have hA26 := hA260 _ hV
  refine Zo rfl (run_ldN rfl ag_32 ty_32 rfl rfl hA26) ?_
  refine r_var (zs := [_, _, _]) (vs := [_, _, _]) ty_32 rfl rfl rfl (fun _ => rfl) rfl rfl rfl rfl ?_
  intro b27 w28 J27 E28 B27 Y27
  have Q28 := E28.size
  replace hV := Z0 hV E28
  replace hmb1 := hmb1.evo0 E28
  refine r_nil ?_
  have hgv := hcg.get (a.getD k default); have hgb := dif_bd (a.take k) (b) (a.getD k default); have hgk := List.length_take_le k a; have hgl := List.length_take_le k b; have hg0 : ([] : List Vc.Item).length = 0 := rfl
  have hB9 : (getM (setM m (a.getD k default) ((getM m (a.getD k default)).getD 0)) (a.getD k default)).getD 0 = (getM m (a.getD k default)).getD 0 := by rw [getM_setM, if_pos rfl]; rfl
  refine r_cut [32, 33, 34, 35, 36, 37] (fun g w => ∃ m2 : List (Vc.Item × Int), MapIs w b1 (fun x : Vc.Item => Value.agg (Enc.enc x).toArray) (Value.int .i64) m2 ∧ Bump m m2 (a.getD k default) (-1) ∧ w28.heap.size ≤ w.heap.size ∧ Evo w0 w []) ?_ ?_
  ·skip
   have hmb1_q := hmb1
   have hbb27_q := B27
   have hAb27_q := B27.at
   have hV_q := hV
   refine h_region ([b1]) (by kernel_rfl) ?_
   intro w30 hE31 hC32
   have Q30 := hE31.size
   replace hV := Z0 hV hE31
   replace hmb1 := hmb1.evo0 hE31
   replace B27 := B27.evo0 hE31
   refine h_take (i := 0) rfl rfl rfl rfl (by kernel_rfl) (fun w' hC => run_mv (v := .map _) rfl rfl) hC32 ?_
   refine h_take (i := 1) rfl rfl rfl rfl (by kernel_rfl) (fun w' hC => run_ldN rfl ag_32 ty_32 rfl rfl (hAb27_q.evo hC (by simp; omega))) hC32 ?_
   refine h_two (i := 2) (j := 4) (by kernel_rfl) ?_ ?_
   ·skip
    refine h_do rfl ?_
    refine Zo rfl (run_lookup1 (a := (a.getD k default)) (z := 0) (v := .int _ _) kitem rfl Tryz.underlying74 ty_3 (by exact rfl) (by exact rfl) hmb1 rfl) ?_
    refine h_next hC32 ?_
    refine h_take (i := 3) rfl rfl rfl rfl (by kernel_rfl) (fun w' hC => run_sub rfl rfl rfl (by omega) (by omega)) hC32 ?_
    refine h_one (i := 4) (by kernel_rfl) ?_
    refine h_do rfl ?_
    refine r_mapEntry (a := (a.getD k default)) (z := 0) kitem rfl Tryz.underlying74 ty_3 (by exact rfl) (by exact rfl) hmb1 ?_
    intro s33 w33 hE33 V33 hm_new hst33
    have Q33 := hE33.size
    replace hV := Z1 hV hE33 (by first | exact .inl (by omega) | exact .inr (by simp))
    replace hC32 := Z1 hC32 hE33 (by first | exact .inl (by omega) | exact .inr (by simp))
    replace hmb1 := hm_new
    clear hm_new
    refine h_next hC32 ?_
    refine h_take (i := 5) rfl rfl rfl rfl (by kernel_rfl) (fun w' hC => run_extract (v := .int _ _) rfl rfl rfl) hC32 ?_
    refine h_one (i := 6) (by kernel_rfl) ?_
    refine h_do rfl ?_
    refine r_entryStore (a := (a.getD k default)) kitem (by exact rfl) (by exact rfl) (by exact rfl) hmb1 hst33 ?_
    intro w34 hE34 V34 hm_new
    have Q34 := hE34.size
    replace hV := Z1 hV hE34 (by first | exact .inl (by omega) | exact .inr (by simp))
    replace ha := ha0 _ hV
    replace hb := hb0 _ hV
    replace hmb1 := hm_new
    clear hm_new
    refine h_last (by kernel_rfl) ?_
    refine h_done (by kernel_rfl) ?_
    refine r_cut_end ?_ ?_
    ·refine ⟨_, hmb1, (by first | exact bumpF (-1) | exact bumpT (-1)), (by first | assumption | omega | (dsimp only; omega) | (simp; done)), hV⟩
    repeat (first | (with_reducible exact Agree.merge _ _ _) | (with_reducible exact Agree.refl _ _) | (with_reducible refine Agree.upd ?_ _ _ rfl) | ((with_reducible refine Agree.inner ?_ ?_); (kernel_rfl)))
   refine h_do rfl ?_
   refine r_mapEntry (a := (a.getD k default)) (z := 0) kitem rfl Tryz.underlying74 ty_3 (by exact rfl) (by exact rfl) hmb1 ?_
   intro s35 w35 hE35 V35 hm_new hst35
   have Q35 := hE35.size
   replace hV := Z1 hV hE35 (by first | exact .inl (by omega) | exact .inr (by simp))
   replace hC32 := Z1 hC32 hE35 (by first | exact .inl (by omega) | exact .inr (by simp))
   replace B27 := B27.evo hE35 (by simp; omega)
   replace hmb1 := hm_new
   clear hm_new
   refine h_next hC32 ?_
   refine h_take (i := 5) rfl rfl rfl rfl (by kernel_rfl) (fun w' hC => run_extract (v := .int _ _) rfl rfl rfl) hC32 ?_
   refine h_one (i := 2) (by kernel_rfl) ?_
   refine h_do rfl ?_
   refine Zo rfl (run_lookup1 (a := (a.getD k default)) (z := 0) (v := .int _ _) kitem rfl Tryz.underlying74 ty_3 (by exact rfl) (by exact rfl) hmb1 rfl) ?_
   refine h_next hC32 ?_
   refine h_take (i := 3) rfl rfl rfl rfl (by kernel_rfl) (fun w' hC => run_sub rfl rfl rfl (by omega) (by omega)) hC32 ?_
   refine h_one (i := 6) (by kernel_rfl) ?_
   refine h_do rfl ?_
   refine r_entryStore (a := (a.getD k default)) kitem (by exact rfl) (by exact rfl) (by exact rfl) hmb1 hst35 ?_
   intro w36 hE36 V36 hm_new
   have Q36 := hE36.size
   replace hV := Z1 hV hE36 (by first | exact .inl (by omega) | exact .inr (by simp))
   replace ha := ha0 _ hV
   replace hb := hb0 _ hV
   replace hmb1 := hm_new
   clear hm_new
   refine h_last (by kernel_rfl) ?_
   refine h_done (by kernel_rfl) ?_
   refine r_cut_end ?_ ?_
   ·refine ⟨_, hmb1, (by first | exact bumpF (-1) | exact bumpT (-1)), (by first | assumption | omega | (dsimp only; omega) | (simp; done)), hV⟩
   repeat (first | (with_reducible exact Agree.merge _ _ _) | (with_reducible exact Agree.refl _ _) | (with_reducible refine Agree.upd ?_ _ _ rfl) | ((with_reducible refine Agree.inner ?_ ?_); (kernel_rfl)))
  rintro g w37 ⟨m2, hmb1, hm2, hzl29, hV⟩
  have hs_w37hV := hV.size
  have hlt38 := hmb1.lt
  replace ha := ha0 _ hV
  replace hb := hb0 _ hV
  replace hA26 := hA260 _ hV
  refine r_blk ?_
  refine r_region ?_
  refine Zo rfl (run_add rfl rfl rfl (by omega) (by omega)) ?_
  refine Zn rfl (mvI rfl) ?_
  refine r_again (k + 1) ?_ ?_ ?_
  ·first | omega | (dsimp only; omega)
  ·refine ⟨_, (by first | exact rfl | exact congrArg (Value.int _) (by omega) | exact congrArg (Value.int _) (by dsimp only; omega) | exact congrArg (Value.int _) (by simp) | exact congrArg S (by simp)), (by first | assumption | omega | (dsimp only; omega) | (simp; done)), hmb1, (by rw [take_succD _ k (by omega)]; exact hcg.dec hm2), (by first | assumption | omega | (dsimp only; omega) | (simp; done)), hV⟩
  repeat (first | (with_reducible exact Agree.merge _ _ _) | (with_reducible exact Agree.refl _ _) | (with_reducible refine Agree.upd ?_ _ _ rfl) | ((with_reducible refine Agree.inner ?_ ?_); (kernel_rfl)))
 refine r_exit rfl ?_
 refine r_seq ?_
 refine Zs ?_
 refine Zo rfl (mvM rfl) ?_
 refine r_range rfl Tryz.underlying74 (by exact rfl) hmb1 ?_
 intro r39 w40 her39 E40 hir39 hzr39
 have Q40 := E40.size
 replace hV := Z0 hV E40
 replace ha := ha0 _ hV
 replace hb := hb0 _ hV
 replace hmb1 := hmb1.evo0 E40
 refine r_nil ?_
 refine r_block ?_
 have hcg2 := hcg; rw [List.take_of_length_le (by omega)] at hcg2; have hnd := hmb1.nodup
 refine r_loop (α := List (Vc.Item × Int)) [10, 11, 41, 42, 43, 44, 45, 46, 47, 48, 49] (fun left g w => ∃ m9 : List (Vc.Item × Int), ∃ la : Option (Vc.Item × Int), IterIs w r39 b1 (fun x : Vc.Item => Value.agg (Enc.enc x).toArray) (Value.int .i64) m9 left la ∧ DelI a b m9 left ∧ w40.heap.size ≤ w.heap.size ∧ Evo w0 w []) (fun left => left.length) m ?_ ?_
 ·refine ⟨_, _, hir39, (hcg2.mem hnd), (by first | assumption | omega | (dsimp only; omega) | (simp; done)), hV⟩
 rintro left g w42 ⟨m9, la, hir39, hdi, hzl41, hV⟩
 have hs_w42hV := hV.size
 refine Zs ?_
 refine r_next rfl (by exact rfl) hir39 (fun hn43 => ?_) (fun l1_43 p43 l2_43 w43 hl43 hE43 hz43 hi_new => ?_)
 ·skip
  subst hn43
  refine Zn rfl (run_extract (v := .bool _) rfl rfl rfl) ?_
  refine r_seq ?_
  refine r_cond_no rfl ?_
  refine r_exit rfl ?_
  refine Zs ?_
  refine Zo rfl (mvM rfl) ?_
  refine Zn rfl (asM rfl) ?_
  refine r_ret (res1 (v := .map _) rfl rfl) ?_
  exact ⟨_, _, rfl, hV, by omega, hir39.map, hdi.done⟩
 have Q43 := hE43.size
 replace hV := Z1 hV hE43 (by first | exact .inl (by omega) | exact .inr (by simp))
 replace hir39 := hi_new
 clear hi_new
 refine Zn rfl (run_extract (v := .bool _) rfl rfl rfl) ?_
 refine r_seq ?_
 refine r_cond_yes rfl ?_
 refine r_skip ?_
 refine r_block ?_
 refine Zs ?_
 refine Zo rfl (run_entryI rfl rfl hir39) ?_
 refine Zo rfl (run_extract (v := .agg _) rfl rfl rfl) ?_
 refine Zo rfl (run_extract (v := .int _ _) rfl rfl rfl) ?_
 refine r_var (zs := [_, _, _]) (vs := [_, _, _]) ty_32 rfl rfl rfl (fun _ => rfl) rfl rfl rfl rfl ?_
 intro b44 w45 J44 E45 B44 Y44
 have Q45 := E45.size
 replace hV := Z0 hV E45
 replace ha := ha0 _ hV
 replace hb := hb0 _ hV
 replace hir39 := hir39.evo0 E45
 refine Zn rfl (asI rfl) ?_
 refine Zs ?_
 refine Zo rfl (mvI rfl) ?_
 refine Zn rfl (run_eql rfl rfl rfl) ?_
 refine r_cond rfl (fun hc46 => ?_) (fun hc46 => ?_)
 ·skip
  refine r_region ?_
  refine Zo rfl (mvM rfl) ?_
  refine Zo rfl (run_ldN rfl ag_32 ty_32 rfl rfl B44.at) ?_
  refine r_delI (p := p43) kitem Tryz.underlying74 (by exact rfl) (by exact rfl) hir39 ?_
  intro w47 E47 V47 hi_new
  have Q47 := E47.size
  replace hV := Z1 hV E47 (by first | exact .inl (by omega) | exact .inr (by simp))
  replace ha := ha0 _ hV
  replace hb := hb0 _ hV
  replace hir39 := hi_new
  clear hi_new
  refine r_nil ?_
  refine r_blk ?_
  refine r_again (l1_43 ++ l2_43) ?_ ?_ ?_
  ·rw [hl43]; simp
  ·refine ⟨_, _, hir39, (by first | exact (show DelI a b m9 (l1_43 ++ p43 :: l2_43) from hl43 ▸ hdi).strike hc46 | exact (show DelI a b m9 (l1_43 ++ p43 :: l2_43) from hl43 ▸ hdi).keep hc46), (by first | assumption | omega | (dsimp only; omega) | (simp; done)), hV⟩
  repeat (first | (with_reducible exact Agree.merge _ _ _) | (with_reducible exact Agree.refl _ _) | (with_reducible refine Agree.upd ?_ _ _ rfl) | ((with_reducible refine Agree.inner ?_ ?_); (kernel_rfl)))
 refine r_skip ?_
 refine r_blk ?_
 refine r_again (l1_43 ++ l2_43) ?_ ?_ ?_
 ·rw [hl43]; simp
 ·refine ⟨_, _, hir39, (by first | exact (show DelI a b m9 (l1_43 ++ p43 :: l2_43) from hl43 ▸ hdi).strike hc46 | exact (show DelI a b m9 (l1_43 ++ p43 :: l2_43) from hl43 ▸ hdi).keep hc46), (by first | assumption | omega | (dsimp only; omega) | (simp; done)), hV⟩
 repeat (first | (with_reducible exact Agree.merge _ _ _) | (with_reducible exact Agree.refl _ _) | (with_reducible refine Agree.upd ?_ _ _ rfl) | ((with_reducible refine Agree.inner ?_ ?_); (kernel_rfl)))
set_option maxHeartbeats 2000000 in
theorem counted_calls {v : Value} {base : Nat} {l : List Vc.Item} {aof : Option Addr} {bf of9 capf : Nat} {f : List Vc.Item} {aog : Option Addr} {bg og capg : Nat} {gg : List Vc.Item} {w0 : World} (hol : OwnE w0 base 39 v l) (hbs : base ≤ w0.heap.size) (hf : ∀ w9, Evo w0 w9 v.ownBlock.toList → RowE w9 aof bf of9 capf f) (hg : ∀ w9, Evo w0 w9 v.ownBlock.toList → RowE w9 aog bg og capg gg) (htab : ∀ w9, Evo w0 w9 v.ownBlock.toList → Tab w9) (htf : Tiny f) (htg : Tiny gg) (hif : ∀ x ∈ tagsL f, InR x) (hig : ∀ x ∈ tagsL gg, InR x) (hsl : l.length ≤ 10000000) :
    Calls Tryz.prog 63 #[v, .slice aof f.length capf, .slice aog gg.length capg] w0 fun e w' => ∃ v', e = .returned v' ∧ Evo w0 w' v.ownBlock.toList ∧ (∃ p1 p2 p3, p1.Perm (slotF f gg) ∧ p2.Perm (tagF f gg) ∧ p3.Perm (numF f gg) ∧ OwnE w' base 39 v' (l ++ (p1 ++ (p2 ++ p3)))) ∧ (∀ g, v'.ownBlock = some g → w0.heap.size ≤ g ∨ g ∈ v.ownBlock.toList) := by
 refine calls_enter (n := 68) Tryz.func63 rfl Tryz.ntmps63 rfl ?_
 have hV : Evo w0 w0 v.ownBlock.toList := Evo.refl _ _
 have hf0 := hf
 replace hf := hf0 _ hV
 have hbd_hf := hf.bd
 have hg0 := hg
 replace hg := hg0 _ hV
 have hbd_hg := hg.bd
 have htab0 := htab
 refine Zs ?_
 refine Zn rfl (asS rfl) ?_
 refine r_seq ?_
 refine r_seq ?_
 have hobA := fun g hg => (hol.block (g := g) hg).2
 have hQ1 := slotsL_len f; have hQ2 := slotsL_len gg; have hQ3 := sortS_len (slotsL f); have hQ4 := sortS_len (slotsL gg); have hQ5 := htf.1; have hQ6 := htg.1; have hQ7 := numT_len (toks f); have hQ8 := numT_len (toks gg); have hQ9 := htf.tlen; have hQ10 := htg.tlen; have hT1 := tagsL_len f; have hT2 := tagsL_len gg
 refine r_region ?_
 refine Zo rfl (mvS rfl) ?_
 refine r_opcall rfl rfl rfl (run_callf (vs := [.slice _ _ _]) rfl (by exact rfl) Tryz.func48 rfl (by kernel_rfl)) (slots_calls hf htf.small) ?_
 rintro e w1 ⟨vn1, rfl, hE1, hon1⟩
 refine ⟨_, rfl, ?_⟩
 have Q1 := hE1.size
 replace hV := Z0 hV hE1
 replace hol := hol.evo0 hE1
 replace hg := hg0 _ hV
 refine Zo rfl (mvS rfl) ?_
 refine r_opcall rfl rfl rfl (run_callf (vs := [.slice _ _ _]) rfl (by exact rfl) Tryz.func48 rfl (by kernel_rfl)) (slots_calls hg htg.small) ?_
 rintro e w2 ⟨vn2, rfl, hE2, hon2⟩
 refine ⟨_, rfl, ?_⟩
 have Q2 := hE2.size
 replace hV := Z0 hV hE2
 replace hol := hol.evo0 hE2
 replace hon1 := hon1.evo0 hE2
 obtain ⟨ao3, g3, cp3, hv3, hr3, hg3⟩ := hon1.rowOf
 subst hv3
 obtain ⟨ao4, g4, cp4, hv4, hr4, hg4⟩ := hon2.rowOf
 subst hv4
 refine r_opcall rfl rfl rfl (run_callf (vs := [.slice _ _ _, .slice _ _ _]) rfl (by exact rfl) Tryz.func105 rfl (by kernel_rfl)) (differs_calls hr3 hr4 (by omega) (by omega)) ?_
 rintro e w5 ⟨bm5, mm5, rfl, hE5, hbm5, hmp5, hdm5⟩
 refine ⟨_, rfl, ?_⟩
 have Q5 := hE5.size
 replace hV := Z0 hV hE5
 replace hol := hol.evo0 hE5
 replace hon1 := hon1.evo0 hE5
 replace hon2 := hon2.evo0 hE5
 replace hr3 := hr3.evo0 hE5
 replace hr4 := hr4.evo0 hE5
 have hmt5 := hmp5.lt
 refine r_range rfl Tryz.underlying134 (by exact rfl) hmp5 ?_
 intro r6 w7 her6 E7 hir6 hzr6
 have Q7 := E7.size
 replace hV := Z0 hV E7
 replace hol := hol.evo0 E7
 replace hf := hf0 _ hV
 replace hg := hg0 _ hV
 replace htab := htab0 _ hV
 replace hon1 := hon1.evo0 E7
 replace hon2 := hon2.evo0 E7
 replace hr3 := hr3.evo0 E7
 replace hr4 := hr4.evo0 E7
 replace hmp5 := hmp5.evo0 E7
 refine r_nil ?_
 refine r_block ?_
 have hmlA := hdm5.len
 have hriA := hir6.lt; have hrmA := hir6.map.lt
 refine r_loop (α := List (Str × Int)) [0, 7, 8, 19, 20, 21, 22, 23, 24, 25, 26, 27, 28, 29] (fun left g w => ∃ la : Option (Str × Int), ∃ voA : Value, ∃ dnA : List (Str × Int), g 0 = voA ∧ IterIs w r6 bm5 S (Value.int .i64) mm5 left la ∧ OwnE w base 39 voA (l ++ dnA.map (mkP 3)) ∧ (∀ g, voA.ownBlock = some g → w0.heap.size ≤ g ∨ g ∈ v.ownBlock.toList) ∧ (∀ g, voA.ownBlock = some g → g ≠ r6 ∧ g ≠ bm5) ∧ (dnA ++ left).Perm mm5 ∧ (r6 < w.heap.size ∧ bm5 < w.heap.size) ∧ w7.heap.size ≤ w.heap.size ∧ Evo w0 w v.ownBlock.toList) (fun left => left.length) mm5 ?_ ?_
 ·refine ⟨_, _, [], rfl, hir6, (by rw [List.map_nil, List.append_nil]; exact hol), (fun g hg => .inr (Option.mem_toList.2 hg)), (fun g hg => by have h7 := hobA g hg; omega), (List.Perm.refl _), ⟨by omega, by omega⟩, (by first | assumption | omega | (dsimp only; omega) | (simp; done)), hV⟩
 rintro left g w9 ⟨la, voA, dnA, hj10, hir6, hoA, hanA, hdjA, hpmA, hzrA, hzl8, hV⟩
 have hs_w9hV := hV.size
 replace hf := hf0 _ hV
 replace hg := hg0 _ hV
 refine Zk 0 (v := voA) (by exact hj10) ?_
 have hplA := hpmA.length_eq
 rw [List.length_append] at hplA
 have hdlA : (dnA.map (mkP 3)).length = dnA.length := List.length_map _
 refine Zs ?_
 refine r_next rfl (by exact rfl) hir6 (fun hn11 => ?_) (fun l1_11 p11 l2_11 w11 hl11 hE11 hz11 hi_new => ?_)
 ·skip
  subst hn11
  refine Zn rfl (run_extract (v := .bool _) rfl rfl rfl) ?_
  refine r_seq ?_
  refine r_cond_no rfl ?_
  refine r_exit rfl ?_
  refine r_seq ?_
  refine r_seq ?_
  have hp1 : (dnA.map (mkP 3)).Perm (slotF f gg) := difS_perm hdm5 hpmA
  have hobB := fun g hg => (hoA.block (g := g) hg).2
  have hplA9 := hpmA.length_eq; rw [List.length_append] at hplA9; have hlA : (dnA.map (mkP 3)).length = dnA.length := List.length_map _
  refine r_region ?_
  refine Zo rfl (mvS rfl) ?_
  refine r_opcall rfl rfl rfl (run_callf (vs := [.slice _ _ _]) rfl (by exact rfl) Tryz.func46 rfl (by kernel_rfl)) (tags_calls hf htf.small) ?_
  rintro e w12 ⟨vn12, rfl, hE12, hon12⟩
  refine ⟨_, rfl, ?_⟩
  have Q12 := hE12.size
  replace hV := Z0 hV hE12
  replace hg := hg0 _ hV
  replace hir6 := hir6.evo0 hE12
  replace hoA := hoA.evo0 hE12
  refine Zo rfl (mvS rfl) ?_
  refine r_opcall rfl rfl rfl (run_callf (vs := [.slice _ _ _]) rfl (by exact rfl) Tryz.func46 rfl (by kernel_rfl)) (tags_calls hg htg.small) ?_
  rintro e w13 ⟨vn13, rfl, hE13, hon13⟩
  refine ⟨_, rfl, ?_⟩
  have Q13 := hE13.size
  replace hV := Z0 hV hE13
  replace hir6 := hir6.evo0 hE13
  replace hoA := hoA.evo0 hE13
  replace hon12 := hon12.evo0 hE13
  obtain ⟨ao14, g14, cp14, hv14, hr14, hg14⟩ := hon12.rowOf
  subst hv14
  obtain ⟨ao15, g15, cp15, hv15, hr15, hg15⟩ := hon13.rowOf
  subst hv15
  refine r_opcall rfl rfl rfl (run_callf (vs := [.slice _ _ _, .slice _ _ _]) rfl (by exact rfl) Tryz.func106 rfl (by kernel_rfl)) (differi_calls hr14 hr15 (by omega) (by omega)) ?_
  rintro e w16 ⟨bm16, mm16, rfl, hE16, hbm16, hmp16, hdm16⟩
  refine ⟨_, rfl, ?_⟩
  have Q16 := hE16.size
  replace hV := Z0 hV hE16
  replace hir6 := hir6.evo0 hE16
  replace hoA := hoA.evo0 hE16
  replace hon12 := hon12.evo0 hE16
  replace hon13 := hon13.evo0 hE16
  replace hr14 := hr14.evo0 hE16
  replace hr15 := hr15.evo0 hE16
  have hmt16 := hmp16.lt
  refine r_range rfl Tryz.underlying74 (by exact rfl) hmp16 ?_
  intro r17 w18 her17 E18 hir17 hzr17
  have Q18 := E18.size
  replace hV := Z0 hV E18
  replace hf := hf0 _ hV
  replace hg := hg0 _ hV
  replace htab := htab0 _ hV
  replace hir6 := hir6.evo0 E18
  replace hoA := hoA.evo0 E18
  replace hon12 := hon12.evo0 E18
  replace hon13 := hon13.evo0 E18
  replace hr14 := hr14.evo0 E18
  replace hr15 := hr15.evo0 E18
  replace hmp16 := hmp16.evo0 E18
  refine r_nil ?_
  refine r_block ?_
  have hmlB := hdm16.len
  have hriB := hir17.lt; have hrmB := hir17.map.lt
  refine r_loop (α := List (Vc.Item × Int)) [0, 9, 10, 36, 37, 38, 39, 40, 41, 42, 43, 44, 45, 46, 47] (fun left g w => ∃ la : Option (Vc.Item × Int), ∃ voB : Value, ∃ dnB : List (Vc.Item × Int), g 0 = voB ∧ IterIs w r17 bm16 (fun x : Vc.Item => Value.agg (Enc.enc x).toArray) (Value.int .i64) mm16 left la ∧ OwnE w base 39 voB ((l ++ dnA.map (mkP 3)) ++ dnB.map mkQ) ∧ (∀ g, voB.ownBlock = some g → w0.heap.size ≤ g ∨ g ∈ v.ownBlock.toList) ∧ (∀ g, voB.ownBlock = some g → g ≠ r17 ∧ g ≠ bm16) ∧ (dnB ++ left).Perm mm16 ∧ (r17 < w.heap.size ∧ bm16 < w.heap.size) ∧ w18.heap.size ≤ w.heap.size ∧ Evo w0 w v.ownBlock.toList) (fun left => left.length) mm16 ?_ ?_
  ·refine ⟨_, _, [], rfl, hir17, (by rw [List.map_nil, List.append_nil]; exact hoA), hanA, (fun g hg => by have h7 := hobB g hg; omega), (List.Perm.refl _), ⟨by omega, by omega⟩, (by first | assumption | omega | (dsimp only; omega) | (simp; done)), hV⟩
  rintro left g w20 ⟨la, voB, dnB, hj21, hir17, hoB, hanB, hdjB, hpmB, hzrB, hzl19, hV⟩
  have hs_w20hV := hV.size
  replace hf := hf0 _ hV
  replace hg := hg0 _ hV
  refine Zk 0 (v := voB) (by exact hj21) ?_
  have hplB := hpmB.length_eq
  rw [List.length_append] at hplB
  have hdlB : (dnB.map mkQ).length = dnB.length := List.length_map _
  refine Zs ?_
  refine r_next rfl (by exact rfl) hir17 (fun hn22 => ?_) (fun l1_22 p22 l2_22 w22 hl22 hE22 hz22 hi_new => ?_)
  ·skip
   subst hn22
   refine Zn rfl (run_extract (v := .bool _) rfl rfl rfl) ?_
   refine r_seq ?_
   refine r_cond_no rfl ?_
   refine r_exit rfl ?_
   refine r_seq ?_
   refine r_seq ?_
   have hp2 : (dnB.map mkQ).Perm (tagF f gg) := difT_perm hdm16 hpmB
   have hobC := fun g hg => (hoB.block (g := g) hg).2
   have hplB9 := hpmB.length_eq; rw [List.length_append] at hplB9; have hlB : (dnB.map mkQ).length = dnB.length := List.length_map _; rw [List.length_nil] at hplA9 hplB9
   refine r_region ?_
   refine Zo rfl (mvS rfl) ?_
   refine r_opcall rfl rfl rfl (run_callf (vs := [.slice _ _ _]) rfl (by exact rfl) Tryz.func59 rfl (by kernel_rfl)) (tokens_calls hf htf.tk) ?_
   rintro e w23 ⟨vt23, rfl, hE23, hot23⟩
   refine ⟨_, rfl, ?_⟩
   have Q23 := hE23.size
   replace hV := Z0 hV hE23
   replace hir17 := hir17.evo0 hE23
   replace hoB := hoB.evo0 hE23
   obtain ⟨ao24, g24, cp24, hv24, hr24, hg24⟩ := hot23.rowOf
   subst hv24
   refine r_opcall rfl rfl rfl (run_callf (vs := [.slice _ _ _]) rfl (by exact rfl) Tryz.func108 rfl (by kernel_rfl)) (numbers_calls hr24 (by omega)) ?_
   rintro e w25 ⟨vn25, rfl, hE25, hon25⟩
   refine ⟨_, rfl, ?_⟩
   have Q25 := hE25.size
   replace hV := Z0 hV hE25
   replace hg := hg0 _ hV
   replace hir17 := hir17.evo0 hE25
   replace hoB := hoB.evo0 hE25
   replace hot23 := hot23.evo0 hE25
   replace hr24 := hr24.evo0 hE25
   refine Zo rfl (mvS rfl) ?_
   refine r_opcall rfl rfl rfl (run_callf (vs := [.slice _ _ _]) rfl (by exact rfl) Tryz.func59 rfl (by kernel_rfl)) (tokens_calls hg htg.tk) ?_
   rintro e w26 ⟨vt26, rfl, hE26, hot26⟩
   refine ⟨_, rfl, ?_⟩
   have Q26 := hE26.size
   replace hV := Z0 hV hE26
   replace hir17 := hir17.evo0 hE26
   replace hoB := hoB.evo0 hE26
   replace hot23 := hot23.evo0 hE26
   replace hr24 := hr24.evo0 hE26
   replace hon25 := hon25.evo0 hE26
   obtain ⟨ao27, g27, cp27, hv27, hr27, hg27⟩ := hot26.rowOf
   subst hv27
   refine r_opcall rfl rfl rfl (run_callf (vs := [.slice _ _ _]) rfl (by exact rfl) Tryz.func108 rfl (by kernel_rfl)) (numbers_calls hr27 (by omega)) ?_
   rintro e w28 ⟨vn28, rfl, hE28, hon28⟩
   refine ⟨_, rfl, ?_⟩
   have Q28 := hE28.size
   replace hV := Z0 hV hE28
   replace hir17 := hir17.evo0 hE28
   replace hoB := hoB.evo0 hE28
   replace hot23 := hot23.evo0 hE28
   replace hr24 := hr24.evo0 hE28
   replace hon25 := hon25.evo0 hE28
   replace hot26 := hot26.evo0 hE28
   replace hr27 := hr27.evo0 hE28
   obtain ⟨ao29, g29, cp29, hv29, hr29, hg29⟩ := hon25.rowOf
   subst hv29
   obtain ⟨ao30, g30, cp30, hv30, hr30, hg30⟩ := hon28.rowOf
   subst hv30
   refine r_opcall rfl rfl rfl (run_callf (vs := [.slice _ _ _, .slice _ _ _]) rfl (by exact rfl) Tryz.func105 rfl (by kernel_rfl)) (differs_calls hr29 hr30 (by omega) (by omega)) ?_
   rintro e w31 ⟨bm31, mm31, rfl, hE31, hbm31, hmp31, hdm31⟩
   refine ⟨_, rfl, ?_⟩
   have Q31 := hE31.size
   replace hV := Z0 hV hE31
   replace hir17 := hir17.evo0 hE31
   replace hoB := hoB.evo0 hE31
   replace hot23 := hot23.evo0 hE31
   replace hr24 := hr24.evo0 hE31
   replace hon25 := hon25.evo0 hE31
   replace hot26 := hot26.evo0 hE31
   replace hr27 := hr27.evo0 hE31
   replace hon28 := hon28.evo0 hE31
   replace hr29 := hr29.evo0 hE31
   replace hr30 := hr30.evo0 hE31
   have hmt31 := hmp31.lt
   refine r_range rfl Tryz.underlying134 (by exact rfl) hmp31 ?_
   intro r32 w33 her32 E33 hir32 hzr32
   have Q33 := E33.size
   replace hV := Z0 hV E33
   replace hf := hf0 _ hV
   replace hg := hg0 _ hV
   replace htab := htab0 _ hV
   replace hir17 := hir17.evo0 E33
   replace hoB := hoB.evo0 E33
   replace hot23 := hot23.evo0 E33
   replace hr24 := hr24.evo0 E33
   replace hon25 := hon25.evo0 E33
   replace hot26 := hot26.evo0 E33
   replace hr27 := hr27.evo0 E33
   replace hon28 := hon28.evo0 E33
   replace hr29 := hr29.evo0 E33
   replace hr30 := hr30.evo0 E33
   replace hmp31 := hmp31.evo0 E33
   refine r_nil ?_
   refine r_block ?_
   have hmlC := hdm31.len
   have hriC := hir32.lt; have hrmC := hir32.map.lt
   refine r_loop (α := List (Str × Int)) [0, 11, 12, 56, 57, 58, 59, 60, 61, 62, 63, 64, 65, 66] (fun left g w => ∃ la : Option (Str × Int), ∃ voC : Value, ∃ dnC : List (Str × Int), g 0 = voC ∧ IterIs w r32 bm31 S (Value.int .i64) mm31 left la ∧ OwnE w base 39 voC ((l ++ dnA.map (mkP 3) ++ dnB.map mkQ) ++ dnC.map (mkP 6)) ∧ (∀ g, voC.ownBlock = some g → w0.heap.size ≤ g ∨ g ∈ v.ownBlock.toList) ∧ (∀ g, voC.ownBlock = some g → g ≠ r32 ∧ g ≠ bm31) ∧ (dnC ++ left).Perm mm31 ∧ (r32 < w.heap.size ∧ bm31 < w.heap.size) ∧ w33.heap.size ≤ w.heap.size ∧ Evo w0 w v.ownBlock.toList) (fun left => left.length) mm31 ?_ ?_
   ·refine ⟨_, _, [], rfl, hir32, (by rw [List.map_nil, List.append_nil]; exact hoB), hanB, (fun g hg => by have h7 := hobC g hg; omega), (List.Perm.refl _), ⟨by omega, by omega⟩, (by first | assumption | omega | (dsimp only; omega) | (simp; done)), hV⟩
   rintro left g w35 ⟨la, voC, dnC, hj36, hir32, hoC, hanC, hdjC, hpmC, hzrC, hzl34, hV⟩
   have hs_w35hV := hV.size
   refine Zk 0 (v := voC) (by exact hj36) ?_
   have hplC := hpmC.length_eq
   rw [List.length_append] at hplC
   have hdlC : (dnC.map (mkP 6)).length = dnC.length := List.length_map _
   refine Zs ?_
   refine r_next rfl (by exact rfl) hir32 (fun hn37 => ?_) (fun l1_37 p37 l2_37 w37 hl37 hE37 hz37 hi_new => ?_)
   ·skip
    subst hn37
    refine Zn rfl (run_extract (v := .bool _) rfl rfl rfl) ?_
    refine r_seq ?_
    refine r_cond_no rfl ?_
    refine r_exit rfl ?_
    refine Zs ?_
    refine Zo rfl (run_mv (v := voC) rfl rfl) ?_
    refine Zn rfl (run_asg (v := voC) rfl rfl) ?_
    refine r_ret (res1 (v := voC) rfl rfl) ?_
    exact ⟨_, rfl, hV, ⟨_, _, _, hp1, hp2, difS_perm hdm31 hpmC, by have h9 := hoC; rw [List.append_assoc, List.append_assoc] at h9; exact h9⟩, hanC⟩
   have Q37 := hE37.size
   replace hV := Z1 hV hE37 (by first | exact .inl (by omega) | exact .inr (by simp))
   replace hg := hg0 _ hV
   replace hoC := hoC.evo hE37 (by intro g hg hm; simp at hm; subst hm; first | exact (hdjC _ hg).1 rfl | exact (hdjC _ hg).2 rfl | (have := hoC.block hg; omega))
   replace hir32 := hi_new
   clear hi_new
   refine Zn rfl (run_extract (v := .bool _) rfl rfl rfl) ?_
   refine r_seq ?_
   refine r_cond_yes rfl ?_
   refine r_skip ?_
   refine r_block ?_
   refine Zs ?_
   refine Zo rfl (run_entryI rfl rfl hir32) ?_
   refine Zo rfl (run_extract (v := S _) rfl rfl rfl) ?_
   refine Zo rfl (run_extract (v := .int _ _) rfl rfl rfl) ?_
   refine Zo rfl (asT rfl) ?_
   refine Zn rfl (asI rfl) ?_
   refine r_region ?_
   refine Zo rfl (run_mv (v := voC) rfl rfl) ?_
   refine Zo rfl (mvT rfl) ?_
   refine Zo rfl (mvI rfl) ?_
   refine Zo rfl (run_bld (pv := [(0, .int _ _), (1, S _), (2, .int _ _)]) (zs := [_, _, _]) (cells := [_, _, _]) rfl ty_39 rfl pl_39 rfl rfl) ?_
   refine r_append1E (u := .agg _) (y := mkP 6 p37) rfl rfl Tryz.underlying34 ty_39 rfl hoC (fun _ => rfl) rfl (by first | exact rfl | (show _ = List.toArray [_, _, _]; first | (dsimp only; done) | exact rfl | (dsimp only; exact rfl))) ((by first | omega | (simp only [List.length_append]; omega))) ((by first | omega | (simp only [List.length_append]; omega))) (by omega) ?_
   intro q_v38 v38 w39 E39 hov38 hlv38
   have Q39 := E39.size
   replace hV := evo_stepo hV E39 (fun g hg => hanC g hg)
   replace hf := hf0 _ hV
   replace hg := hg0 _ hV
   replace htab := htab0 _ hV
   replace hir32 := hir32.evo E39 (by intro hm; have hm2 := Option.mem_toList.1 hm; first | exact (hdjC _ hm2).1 rfl | exact (hdjC _ hm2).2 rfl) (by intro hm; have hm2 := Option.mem_toList.1 hm; first | exact (hdjC _ hm2).1 rfl | exact (hdjC _ hm2).2 rfl)
   replace hanC := own_anch hlv38 hanC (by omega)
   replace hdjC := own_apart hlv38 hdjC (by omega) (by omega)
   have hoC := hov38
   refine Zn rfl (run_asg (v := v38) rfl rfl) ?_
   refine r_blk ?_
   refine r_again (l1_37 ++ l2_37) ?_ ?_ ?_
   ·rw [hl37]; simp
   ·refine ⟨_, _, _, rfl, hir32, (by rw [app_map]; exact hoC), hanC, hdjC, (mdone (by rw [← hl37]; exact hpmC)), ⟨by omega, by omega⟩, (by first | assumption | omega | (dsimp only; omega) | (simp; done)), hV⟩
   repeat (first | (with_reducible exact Agree.merge _ _ _) | (with_reducible exact Agree.refl _ _) | (with_reducible refine Agree.upd ?_ _ _ rfl) | ((with_reducible refine Agree.inner ?_ ?_); (kernel_rfl)))
  have Q22 := hE22.size
  replace hV := Z1 hV hE22 (by first | exact .inl (by omega) | exact .inr (by simp))
  replace hg := hg0 _ hV
  replace hoB := hoB.evo hE22 (by intro g hg hm; simp at hm; subst hm; first | exact (hdjB _ hg).1 rfl | exact (hdjB _ hg).2 rfl | (have := hoB.block hg; omega))
  replace hir17 := hi_new
  clear hi_new
  refine Zn rfl (run_extract (v := .bool _) rfl rfl rfl) ?_
  refine r_seq ?_
  refine r_cond_yes rfl ?_
  refine r_skip ?_
  refine r_block ?_
  refine Zs ?_
  refine Zo rfl (run_entryI rfl rfl hir17) ?_
  refine Zo rfl (run_extract (v := .agg _) rfl rfl rfl) ?_
  refine Zo rfl (run_extract (v := .int _ _) rfl rfl rfl) ?_
  have hob40 := fun g hg => (hoB.block (g := g) hg).2
  refine r_var (zs := [_, _, _]) (vs := [_, _, _]) ty_32 rfl rfl rfl (fun _ => rfl) rfl rfl rfl rfl ?_
  intro b41 w42 J41 E42 B41 Y41
  have Q42 := E42.size
  replace hV := Z0 hV E42
  replace htab := htab0 _ hV
  replace hoB := hoB.evo0 E42
  replace hir17 := hir17.evo0 E42
  refine Zn rfl (asI rfl) ?_
  have hpx := hpmB.mem_iff.1 (List.mem_append_right dnB (show p22 ∈ left by rw [hl22]; simp))
  have hpt : p22.1 ∈ f ∨ p22.1 ∈ gg := (difM_mem hdm16 hpx).imp (fun h => (List.mem_filter.1 h).1) (fun h => (List.mem_filter.1 h).1)
  have hxi : InR p22.1 := (difM_mem hdm16 hpx).elim (hif _) (hig _)
  have hxt : p22.1.text.length ≤ 100000 := hpt.elim htf.txt htg.txt
  refine r_region ?_
  refine Zo rfl (run_mv (v := voB) rfl rfl) ?_
  refine Zo rfl (run_ldN rfl ag_32 ty_32 rfl rfl B41.at) ?_
  refine r_opcall rfl rfl rfl (run_callf (vs := [.agg _]) rfl (by exact rfl) Tryz.func107 rfl (by kernel_rfl)) (tag_calls htab hxt hxi) ?_
  rintro e w43 ⟨rfl, hE43⟩
  refine ⟨_, rfl, ?_⟩
  have Q43 := hE43.size
  replace hV := Z0 hV hE43
  replace hg := hg0 _ hV
  replace hoB := hoB.evo0 hE43
  replace hir17 := hir17.evo0 hE43
  refine Zo rfl (mvI rfl) ?_
  refine Zo rfl (run_bld (pv := [(0, .int _ _), (1, S _), (2, .int _ _)]) (zs := [_, _, _]) (cells := [_, _, _]) rfl ty_39 rfl pl_39 rfl rfl) ?_
  refine r_append1E (u := .agg _) (y := mkQ p22) rfl rfl Tryz.underlying34 ty_39 rfl hoB (fun _ => rfl) rfl (by first | exact rfl | (show _ = List.toArray [_, _, _]; first | (dsimp only; done) | exact rfl | (dsimp only; exact rfl))) ((by first | omega | (simp only [List.length_append]; omega))) ((by first | omega | (simp only [List.length_append]; omega))) (by omega) ?_
  intro q_v44 v44 w45 E45 hov44 hlv44
  have Q45 := E45.size
  replace hV := evo_stepo hV E45 (fun g hg => hanB g hg)
  replace hf := hf0 _ hV
  replace hg := hg0 _ hV
  replace htab := htab0 _ hV
  replace hir17 := hir17.evo E45 (by intro hm; have hm2 := Option.mem_toList.1 hm; first | exact (hdjB _ hm2).1 rfl | exact (hdjB _ hm2).2 rfl) (by intro hm; have hm2 := Option.mem_toList.1 hm; first | exact (hdjB _ hm2).1 rfl | exact (hdjB _ hm2).2 rfl)
  replace hanB := own_anch hlv44 hanB (by omega)
  replace hdjB := own_apart hlv44 hdjB (by omega) (by omega)
  have hoB := hov44
  refine Zn rfl (run_asg (v := v44) rfl rfl) ?_
  refine r_blk ?_
  refine r_again (l1_22 ++ l2_22) ?_ ?_ ?_
  ·rw [hl22]; simp
  ·refine ⟨_, _, _, rfl, hir17, (by rw [app_map]; exact hoB), hanB, hdjB, (mdone (by rw [← hl22]; exact hpmB)), ⟨by omega, by omega⟩, (by first | assumption | omega | (dsimp only; omega) | (simp; done)), hV⟩
  repeat (first | (with_reducible exact Agree.merge _ _ _) | (with_reducible exact Agree.refl _ _) | (with_reducible refine Agree.upd ?_ _ _ rfl) | ((with_reducible refine Agree.inner ?_ ?_); (kernel_rfl)))
 have Q11 := hE11.size
 replace hV := Z1 hV hE11 (by first | exact .inl (by omega) | exact .inr (by simp))
 replace hg := hg0 _ hV
 replace hoA := hoA.evo hE11 (by intro g hg hm; simp at hm; subst hm; first | exact (hdjA _ hg).1 rfl | exact (hdjA _ hg).2 rfl | (have := hoA.block hg; omega))
 replace hir6 := hi_new
 clear hi_new
 refine Zn rfl (run_extract (v := .bool _) rfl rfl rfl) ?_
 refine r_seq ?_
 refine r_cond_yes rfl ?_
 refine r_skip ?_
 refine r_block ?_
 refine Zs ?_
 refine Zo rfl (run_entryI rfl rfl hir6) ?_
 refine Zo rfl (run_extract (v := S _) rfl rfl rfl) ?_
 refine Zo rfl (run_extract (v := .int _ _) rfl rfl rfl) ?_
 refine Zo rfl (asT rfl) ?_
 refine Zn rfl (asI rfl) ?_
 refine r_region ?_
 refine Zo rfl (run_mv (v := voA) rfl rfl) ?_
 refine Zo rfl (mvT rfl) ?_
 refine Zo rfl (mvI rfl) ?_
 refine Zo rfl (run_bld (pv := [(0, .int _ _), (1, S _), (2, .int _ _)]) (zs := [_, _, _]) (cells := [_, _, _]) rfl ty_39 rfl pl_39 rfl rfl) ?_
 refine r_append1E (u := .agg _) (y := mkP 3 p11) rfl rfl Tryz.underlying34 ty_39 rfl hoA (fun _ => rfl) rfl (by first | exact rfl | (show _ = List.toArray [_, _, _]; first | (dsimp only; done) | exact rfl | (dsimp only; exact rfl))) ((by first | omega | (simp only [List.length_append]; omega))) ((by first | omega | (simp only [List.length_append]; omega))) (by omega) ?_
 intro q_v46 v46 w47 E47 hov46 hlv46
 have Q47 := E47.size
 replace hV := evo_stepo hV E47 (fun g hg => hanA g hg)
 replace hf := hf0 _ hV
 replace hg := hg0 _ hV
 replace htab := htab0 _ hV
 replace hir6 := hir6.evo E47 (by intro hm; have hm2 := Option.mem_toList.1 hm; first | exact (hdjA _ hm2).1 rfl | exact (hdjA _ hm2).2 rfl) (by intro hm; have hm2 := Option.mem_toList.1 hm; first | exact (hdjA _ hm2).1 rfl | exact (hdjA _ hm2).2 rfl)
 replace hanA := own_anch hlv46 hanA (by omega)
 replace hdjA := own_apart hlv46 hdjA (by omega) (by omega)
 have hoA := hov46
 refine Zn rfl (run_asg (v := v46) rfl rfl) ?_
 refine r_blk ?_
 refine r_again (l1_11 ++ l2_11) ?_ ?_ ?_
 ·rw [hl11]; simp
 ·refine ⟨_, _, _, rfl, hir6, (by rw [app_map]; exact hoA), hanA, hdjA, (mdone (by rw [← hl11]; exact hpmA)), ⟨by omega, by omega⟩, (by first | assumption | omega | (dsimp only; omega) | (simp; done)), hV⟩
 repeat (first | (with_reducible exact Agree.merge _ _ _) | (with_reducible exact Agree.refl _ _) | (with_reducible refine Agree.upd ?_ _ _ rfl) | ((with_reducible refine Agree.inner ?_ ?_); (kernel_rfl)))
theorem shp_iff2 {f g : List Vc.Item} : ((¬((shapeL f).isSome = true ↔ (shapeL g).isSome = true) ∨ ¬ shC f = shC g) ∨ ¬ shO f = shO g) ↔ (((shapeL f).isSome ≠ (shapeL g).isSome ∨ ¬ sC f = sC g) ∨ ¬ sO f = sO g) := by
  have h1 : (¬((shapeL f).isSome = true ↔ (shapeL g).isSome = true)) ↔ ((shapeL f).isSome ≠ (shapeL g).isSome) := by rw [← Bool.eq_iff_iff]
  rw [h1]; exact Iff.rfl
set_option maxHeartbeats 1000000 in
theorem nested_calls {v : Value} {base : Nat} {l : List Vc.Item} {aof : Option Addr} {bf of9 capf : Nat} {f : List Vc.Item} {aog : Option Addr} {bg og capg : Nat} {gg : List Vc.Item} {w0 : World} (hol : OwnE w0 base 39 v l) (hbs : base ≤ w0.heap.size) (hf : ∀ w9, Evo w0 w9 v.ownBlock.toList → RowE w9 aof bf of9 capf f) (hg : ∀ w9, Evo w0 w9 v.ownBlock.toList → RowE w9 aog bg og capg gg) (htf : Tiny f) (htg : Tiny gg) (hsl : l.length ≤ 10000000) :
    Calls Tryz.prog 64 #[v, .slice aof f.length capf, .slice aog gg.length capg] w0 fun e w' => ∃ v', e = .returned v' ∧ Evo w0 w' v.ownBlock.toList ∧ (OwnE w' base 39 v' (l ++ shapeF f gg)) ∧ (∀ g, v'.ownBlock = some g → w0.heap.size ≤ g ∨ g ∈ v.ownBlock.toList) := by
 have hanA : (∀ g, v.ownBlock = some g → w0.heap.size ≤ g ∨ g ∈ v.ownBlock.toList) := fun g hg => .inr (Option.mem_toList.2 hg)
 refine calls_enter (n := 45) Tryz.func64 rfl Tryz.ntmps64 rfl ?_
 have hV : Evo w0 w0 v.ownBlock.toList := Evo.refl _ _
 have hf0 := hf
 replace hf := hf0 _ hV
 have hbd_hf := hf.bd
 have hg0 := hg
 replace hg := hg0 _ hV
 have hbd_hg := hg.bd
 refine Zs ?_
 refine Zn rfl (asS rfl) ?_
 refine Zs ?_
 refine Zo rfl (mvS rfl) ?_
 refine r_opcall rfl rfl rfl (run_callf (vs := [.slice _ _ _]) rfl (by exact rfl) Tryz.func23 rfl (by kernel_rfl)) (shape_calls hf htf.small) ?_
 rintro e w1 ⟨vp1, vq1, rfl, hE1, hop1, hoq1⟩
 refine ⟨_, rfl, ?_⟩
 have Q1 := hE1.size
 replace hV := Z0 hV hE1
 replace hol := hol.evo0 hE1
 replace hg := hg0 _ hV
 refine Zo rfl (mvU rfl) ?_
 refine Zo rfl (run_extract (v := vp1) rfl rfl rfl) ?_
 refine Zo rfl (run_extract (v := vq1) rfl rfl rfl) ?_
 refine Zo rfl (run_extract (v := .bool _) rfl rfl rfl) ?_
 refine Zo rfl (run_asg (v := vp1) rfl rfl) ?_
 refine Zo rfl (run_asg (v := vq1) rfl rfl) ?_
 refine Zn rfl (asB rfl) ?_
 refine Zs ?_
 refine Zo rfl (mvS rfl) ?_
 refine r_opcall rfl rfl rfl (run_callf (vs := [.slice _ _ _]) rfl (by exact rfl) Tryz.func23 rfl (by kernel_rfl)) (shape_calls hg htg.small) ?_
 rintro e w2 ⟨vp2, vq2, rfl, hE2, hop2, hoq2⟩
 refine ⟨_, rfl, ?_⟩
 have Q2 := hE2.size
 replace hV := Z0 hV hE2
 replace hol := hol.evo0 hE2
 replace hg := hg0 _ hV
 replace hop1 := hop1.evo0 hE2
 replace hoq1 := hoq1.evo0 hE2
 refine Zo rfl (mvU rfl) ?_
 refine Zo rfl (run_extract (v := vp2) rfl rfl rfl) ?_
 refine Zo rfl (run_extract (v := vq2) rfl rfl rfl) ?_
 refine Zo rfl (run_extract (v := .bool _) rfl rfl rfl) ?_
 refine Zo rfl (run_asg (v := vp2) rfl rfl) ?_
 refine Zo rfl (run_asg (v := vq2) rfl rfl) ?_
 refine Zn rfl (asB rfl) ?_
 refine r_seq ?_
 refine Zs ?_
 refine Zo rfl (run_mvb rfl rfl) ?_
 refine Zo rfl (run_mvb rfl rfl) ?_
 refine Zo rfl (run_bneq rfl Tryz.underlying4 rfl rfl) ?_
 refine Zo rfl (mvB rfl) ?_
 refine r_g rfl (wantF rfl) rfl (fun hg => run_mv (v := vp1) rfl rfl) ?_
 refine r_g rfl (wantF rfl) rfl (fun hg => run_mv (v := vp2) rfl rfl) ?_
 obtain ⟨ao3, g3, cp3, hv3, hr3, hg3⟩ := hop1.rowOf
 subst hv3
 obtain ⟨ao4, g4, cp4, hv4, hr4, hg4⟩ := hop2.rowOf
 subst hv4
 refine r_gcall rfl (wantF rfl) rfl (fun hg => run_callf rfl (argcons (v := .slice _ _ _) (glv rfl (fun h => h) hg) (argcons (v := .slice _ _ _) (glv rfl (fun h => h) hg) (rfl))) Tryz.func45 rfl (by kernel_rfl)) (fun hg => (sleqi_calls hr3 hr4).mono (fun e w' h => ⟨h.1, h.2⟩)) (fun w5 hE6 => ?_)
 have Q5 := hE6.size
 replace hV := Z0 hV hE6
 replace hol := hol.evo0 hE6
 replace hg := hg0 _ hV
 replace hoq1 := hoq1.evo0 hE6
 replace hoq2 := hoq2.evo0 hE6
 refine r_g rfl (wantF rfl) rfl (fun hg => run_not rfl (glv rfl (fun h => h) hg)) ?_
 refine Zo rfl (run_pick_or rfl rfl rfl (fun hq => glv rfl (fun h => h) hq)) ?_
 refine Zo rfl (mvB rfl) ?_
 refine r_g rfl (wantF rfl) rfl (fun hg => run_mv (v := vq1) rfl rfl) ?_
 refine r_g rfl (wantF rfl) rfl (fun hg => run_mv (v := vq2) rfl rfl) ?_
 obtain ⟨ao7, g7, cp7, hv7, hr7, hg7⟩ := hoq1.rowOf
 subst hv7
 obtain ⟨ao8, g8, cp8, hv8, hr8, hg8⟩ := hoq2.rowOf
 subst hv8
 refine r_gcall rfl (wantF rfl) rfl (fun hg => run_callf rfl (argcons (v := .slice _ _ _) (glv rfl (fun h => h) hg) (argcons (v := .slice _ _ _) (glv rfl (fun h => h) hg) (rfl))) Tryz.func45 rfl (by kernel_rfl)) (fun hg => (sleqi_calls hr7 hr8).mono (fun e w' h => ⟨h.1, h.2⟩)) (fun w9 hE10 => ?_)
 have Q9 := hE10.size
 replace hV := Z0 hV hE10
 replace hol := hol.evo0 hE10
 replace hg := hg0 _ hV
 refine r_g rfl (wantF rfl) rfl (fun hg => run_not rfl (glv rfl (fun h => h) hg)) ?_
 refine Zn rfl (run_pick_or rfl rfl rfl (fun hq => glv rfl (fun h => h) hq)) ?_
 refine r_cond rfl (fun hc11 => ?_) (fun hc11 => ?_)
 ·skip
  refine r_region ?_
  refine Zo rfl (run_mv (v := v) rfl rfl) ?_
  refine Zo rfl (run_bld (pv := [(0, .int _ _)]) (zs := [_, _, _]) (cells := [_, _, _]) rfl ty_39 rfl pl_39 rfl rfl) ?_
  refine r_append1E (u := .agg _) (y := (⟨5, [], 0⟩ : Vc.Item)) rfl rfl Tryz.underlying34 ty_39 rfl hol (fun _ => rfl) rfl (by first | exact rfl | (show _ = List.toArray [_, _, _]; first | (dsimp only; done) | exact rfl | (dsimp only; exact rfl))) ((by first | omega | (simp only [List.length_append]; omega))) ((by first | omega | (simp only [List.length_append]; omega))) (by omega) ?_
  intro q_v12 v12 w13 E13 hov12 hlv12
  have Q13 := E13.size
  replace hV := evo_stepo hV E13 (fun g hg => hanA g hg)
  replace hanA := own_anch hlv12 hanA (by omega)
  have hol := hov12
  refine Zn rfl (run_asg (v := v12) rfl rfl) ?_
  refine Zs ?_
  refine Zo rfl (run_mv (v := v12) rfl rfl) ?_
  refine Zn rfl (run_asg (v := v12) rfl rfl) ?_
  refine r_ret (res1 (v := v12) rfl rfl) ?_
  exact ⟨_, rfl, hV, by first | (rw [show shapeF f gg = _ from if_pos (shp_iff2.1 hc11)]; exact hol) | (rw [show shapeF f gg = [] from if_neg (fun q9 => hc11 (shp_iff2.2 q9)), List.append_nil]; exact hol), hanA⟩
 refine r_skip ?_
 refine Zs ?_
 refine Zo rfl (run_mv (v := v) rfl rfl) ?_
 refine Zn rfl (run_asg (v := v) rfl rfl) ?_
 refine r_ret (res1 (v := v) rfl rfl) ?_
 exact ⟨_, rfl, hV, by first | (rw [show shapeF f gg = _ from if_pos (shp_iff2.1 hc11)]; exact hol) | (rw [show shapeF f gg = [] from if_neg (fun q9 => hc11 (shp_iff2.2 q9)), List.append_nil]; exact hol), hanA⟩
set_option maxHeartbeats 1000000 in
theorem oplain_calls {v : Value} {base : Nat} {l : List Vc.Item} {l0 l1 l2 l3 l4 l5 l6 l7 l8 l9 l10 l11 l12 sh lo : Int} {aot : Option Addr} {bt ot capt : Nat} {ts : List TermL} {aoc : Option Addr} {bc oc capc : Nat} {cl : List Clas} {s t : Str} {w0 : World} (hol : OwnE w0 base 39 v l) (hbs : base ≤ w0.heap.size) (hts : RowRK w0 v.ownBlock.toList aot bt ot capt ts) (hcl : RowRK w0 v.ownBlock.toList aoc bc oc capc cl) (hn : (0 ≤ sh ∧ sh ≤ 100) ∧ (lo = 0 ∨ (100 ≤ lo ∧ lo ≤ 10000))) (hsl : l.length ≤ 100000000) (hs : s.length ≤ 101000) (ht : t.length ≤ 101000) :
    Calls Tryz.prog 65 #[v, .agg #[.int .i64 l0, .int .i64 l1, .int .i64 l2, .int .i64 l3, .int .i64 l4, .int .i64 l5, .int .i64 l6, .int .i64 l7, .int .i64 l8, .int .i64 l9, .int .i64 l10, .int .i64 l11, .int .i64 l12, .int .i64 sh, .int .i64 lo, .slice aot ts.length capt, .slice aoc cl.length capc], S s, S t] w0 fun e w' => ∃ v', e = .returned v' ∧ Evo w0 w' v.ownBlock.toList ∧ (OwnE w' base 39 v' (l ++ plainF (⟨[l0, l1, l2, l3, l4, l5, l6, l7, l8, l9, l10, l11, l12], sh, lo, ts, cl⟩ : Chk) s t)) ∧ (∀ g, v'.ownBlock = some g → w0.heap.size ≤ g ∨ g ∈ v.ownBlock.toList) := by
 have hanA : (∀ g, v.ownBlock = some g → w0.heap.size ≤ g ∨ g ∈ v.ownBlock.toList) := fun g hg => .inr (Option.mem_toList.2 hg); have hob0 := fun g hg => (hol.block (g := g) hg).2
 refine calls_enter (n := 106) Tryz.func65 rfl Tryz.ntmps65 rfl ?_
 have hV : Evo w0 w0 v.ownBlock.toList := Evo.refl _ _
 have hts0 := hts
 replace hts := hts0.now hV
 have hbd_hts := hts.bd
 have hcl0 := hcl
 replace hcl := hcl0.now hV
 have hbd_hcl := hcl.bd
 refine Zs ?_
 have hob1 := fun g hg => (hol.block (g := g) hg).2
 refine r_box (vs := [_, _, _, _, _, _, _, _, _, _, _, _, _, _, _, _, _]) rfl rfl rfl ?_
 intro b2 w3 J2 E3 B2 Y2
 have Q3 := E3.size
 replace hV := Z0 hV E3
 replace hol := hol.evo0 E3
 have hAb2 := B2.at
 refine Zn rfl (asS rfl) ?_
 refine r_seq ?_
 have hdb : ∀ g, v.ownBlock = some g → g ≠ b2 := fun g hg => by have h7 := hob0 g hg; omega
 have : (edgeA s t).length ≤ 1 := if1_len
 have : (edgeB s t).length ≤ 1 := if1_len
 have : (dblF t).length ≤ 1 := if1_len
 have : (signF s t).length ≤ 1 := if1_len
 have : (longF (⟨[l0, l1, l2, l3, l4, l5, l6, l7, l8, l9, l10, l11, l12], sh, lo, ts, cl⟩ : Chk) s t).length ≤ 1 := if1_len
 have : (shortF (⟨[l0, l1, l2, l3, l4, l5, l6, l7, l8, l9, l10, l11, l12], sh, lo, ts, cl⟩ : Chk) s t).length ≤ 1 := if1_len
 have hmA := hlo_bd hn.2 (show s.length ≤ 101000 by omega); have hmB := mul_bd hn.1.1 (show sh ≤ 10000 by omega) (show (0 : Int) ≤ (s.length : Nat) by omega) (show ((s.length : Nat) : Int) ≤ 101000 by omega)
 refine r_region ?_
 refine Zo rfl (mvT rfl) ?_
 refine r_opcall rfl rfl rfl (run_callf (vs := [S _]) rfl (by exact rfl) Tryz.func109 rfl (by kernel_rfl)) (edges_calls (by omega)) ?_
 rintro e w4 ⟨rfl, hE4⟩
 refine ⟨_, rfl, ?_⟩
 have Q4 := hE4.size
 replace hV := Z0 hV hE4
 replace hol := hol.evo0 hE4
 replace B2 := B2.evo0 hE4
 replace hAb2 := hAb2.evo0 hE4
 refine Zo rfl (mvU rfl) ?_
 refine Zo rfl (run_extract (v := S _) rfl rfl rfl) ?_
 refine Zo rfl (run_extract (v := S _) rfl rfl rfl) ?_
 refine Zo rfl (asT rfl) ?_
 refine Zn rfl (asT rfl) ?_
 refine Zs ?_
 refine Zo rfl (mvT rfl) ?_
 refine r_opcall rfl rfl rfl (run_callf (vs := [S _]) rfl (by exact rfl) Tryz.func109 rfl (by kernel_rfl)) (edges_calls (by omega)) ?_
 rintro e w5 ⟨rfl, hE5⟩
 refine ⟨_, rfl, ?_⟩
 have Q5 := hE5.size
 replace hV := Z0 hV hE5
 replace hol := hol.evo0 hE5
 replace hts := hts0.now hV
 replace hcl := hcl0.now hV
 replace B2 := B2.evo0 hE5
 replace hAb2 := hAb2.evo0 hE5
 refine Zo rfl (mvU rfl) ?_
 refine Zo rfl (run_extract (v := S _) rfl rfl rfl) ?_
 refine Zo rfl (run_extract (v := S _) rfl rfl rfl) ?_
 refine Zo rfl (asT rfl) ?_
 refine Zn rfl (asT rfl) ?_
 refine r_seq ?_
 refine Zs ?_
 refine Zo rfl (mvT rfl) ?_
 refine Zo rfl (mvT rfl) ?_
 refine Zn rfl (run_sneq rfl rfl rfl) ?_
 refine r_cut [0, 28, 29, 30, 31] (fun g w => ∃ vo : Value, g 0 = vo ∧ OwnE w base 39 vo (l ++ (edgeA s t)) ∧ (∀ g, vo.ownBlock = some g → w0.heap.size ≤ g ∨ g ∈ v.ownBlock.toList) ∧ (∀ g, vo.ownBlock = some g → g ≠ b2) ∧ Blk w b2 28 [.int .i64 l0, .int .i64 l1, .int .i64 l2, .int .i64 l3, .int .i64 l4, .int .i64 l5, .int .i64 l6, .int .i64 l7, .int .i64 l8, .int .i64 l9, .int .i64 l10, .int .i64 l11, .int .i64 l12, .int .i64 sh, .int .i64 lo, .slice aot ts.length capt, .slice aoc cl.length capc] ∧ At w b2 0 [.int .i64 l0, .int .i64 l1, .int .i64 l2, .int .i64 l3, .int .i64 l4, .int .i64 l5, .int .i64 l6, .int .i64 l7, .int .i64 l8, .int .i64 l9, .int .i64 l10, .int .i64 l11, .int .i64 l12, .int .i64 sh, .int .i64 lo, .slice aot ts.length capt, .slice aoc cl.length capc] ∧ w5.heap.size ≤ w.heap.size ∧ Evo w0 w v.ownBlock.toList) ?_ ?_
 ·skip
  refine r_cond rfl (fun hc7 => ?_) (fun hc7 => ?_)
  ·skip
   refine r_region ?_
   refine Zo rfl (run_mv (v := v) rfl rfl) ?_
   refine Zo rfl (run_bld (pv := [(0, .int _ _), (1, S _)]) (zs := [_, _, _]) (cells := [_, _, _]) rfl ty_39 rfl pl_39 rfl rfl) ?_
   refine r_append1E (u := .agg _) (y := (⟨7, begW, 0⟩ : Vc.Item)) rfl rfl Tryz.underlying34 ty_39 rfl hol (fun _ => rfl) rfl (by first | exact rfl | (show _ = List.toArray [_, _, _]; first | (dsimp only; done) | exact rfl | (dsimp only; exact rfl))) ((by first | omega | (simp only [List.length_append]; omega))) ((by first | omega | (simp only [List.length_append]; omega))) (by omega) ?_
   intro q_v8 v8 w9 E9 hov8 hlv8
   have Q9 := E9.size
   replace hV := evo_stepo hV E9 (fun g hg => hanA g hg)
   replace hts := hts0.now hV
   replace hcl := hcl0.now hV
   replace B2 := B2.evo E9 (by intro hm; have hm2 := Option.mem_toList.1 hm; exact hdb _ hm2 rfl)
   replace hAb2 := hAb2.evo E9 (by intro hm; have hm2 := Option.mem_toList.1 hm; exact hdb _ hm2 rfl)
   replace hdb := own_ne hlv8 hdb (by omega)
   replace hanA := own_anch hlv8 hanA (by omega)
   have hol := hov8
   refine Zn rfl (run_asg (v := v8) rfl rfl) ?_
   refine r_cut_end ?_ ?_
   ·refine ⟨_, rfl, (by first | (rw [show (edgeA s t) = _ from if_pos hc7]; exact hol) | (rw [show (edgeA s t) = [] from if_neg hc7, List.append_nil]; exact hol)), hanA, hdb, B2, B2.at, (by first | assumption | omega | (dsimp only; omega) | (simp; done)), hV⟩
   repeat (first | (with_reducible exact Agree.merge _ _ _) | (with_reducible exact Agree.refl _ _) | (with_reducible refine Agree.upd ?_ _ _ rfl) | ((with_reducible refine Agree.inner ?_ ?_); (kernel_rfl)))
  refine r_skip ?_
  refine r_cut_end ?_ ?_
  ·refine ⟨_, rfl, (by first | (rw [show (edgeA s t) = _ from if_pos hc7]; exact hol) | (rw [show (edgeA s t) = [] from if_neg hc7, List.append_nil]; exact hol)), hanA, hdb, B2, B2.at, (by first | assumption | omega | (dsimp only; omega) | (simp; done)), hV⟩
  repeat (first | (with_reducible exact Agree.merge _ _ _) | (with_reducible exact Agree.refl _ _) | (with_reducible refine Agree.upd ?_ _ _ rfl) | ((with_reducible refine Agree.inner ?_ ?_); (kernel_rfl)))
 rintro g w10 ⟨vo, hj11, hol, hanA, hdb, B2, hAb2, hzl6, hV⟩
 have hs_w10hV := hV.size
 have hlt12 := B2.lt
 replace hts := hts0.now hV
 replace hcl := hcl0.now hV
 refine Zk 0 (v := vo) (by exact hj11) ?_
 refine r_seq ?_
 refine Zs ?_
 refine Zo rfl (mvT rfl) ?_
 refine Zo rfl (mvT rfl) ?_
 refine Zn rfl (run_sneq rfl rfl rfl) ?_
 refine r_cut [0, 35, 36, 37, 38] (fun g w => ∃ vo : Value, g 0 = vo ∧ OwnE w base 39 vo ((l ++ (edgeA s t)) ++ (edgeB s t)) ∧ (∀ g, vo.ownBlock = some g → w0.heap.size ≤ g ∨ g ∈ v.ownBlock.toList) ∧ (∀ g, vo.ownBlock = some g → g ≠ b2) ∧ Blk w b2 28 [.int .i64 l0, .int .i64 l1, .int .i64 l2, .int .i64 l3, .int .i64 l4, .int .i64 l5, .int .i64 l6, .int .i64 l7, .int .i64 l8, .int .i64 l9, .int .i64 l10, .int .i64 l11, .int .i64 l12, .int .i64 sh, .int .i64 lo, .slice aot ts.length capt, .slice aoc cl.length capc] ∧ At w b2 0 [.int .i64 l0, .int .i64 l1, .int .i64 l2, .int .i64 l3, .int .i64 l4, .int .i64 l5, .int .i64 l6, .int .i64 l7, .int .i64 l8, .int .i64 l9, .int .i64 l10, .int .i64 l11, .int .i64 l12, .int .i64 sh, .int .i64 lo, .slice aot ts.length capt, .slice aoc cl.length capc] ∧ w10.heap.size ≤ w.heap.size ∧ Evo w0 w v.ownBlock.toList) ?_ ?_
 ·skip
  refine r_cond rfl (fun hc14 => ?_) (fun hc14 => ?_)
  ·skip
   refine r_region ?_
   refine Zo rfl (run_mv (v := vo) rfl rfl) ?_
   refine Zo rfl (run_bld (pv := [(0, .int _ _), (1, S _)]) (zs := [_, _, _]) (cells := [_, _, _]) rfl ty_39 rfl pl_39 rfl rfl) ?_
   refine r_append1E (u := .agg _) (y := (⟨7, endW, 0⟩ : Vc.Item)) rfl rfl Tryz.underlying34 ty_39 rfl hol (fun _ => rfl) rfl (by first | exact rfl | (show _ = List.toArray [_, _, _]; first | (dsimp only; done) | exact rfl | (dsimp only; exact rfl))) ((by first | omega | (simp only [List.length_append]; omega))) ((by first | omega | (simp only [List.length_append]; omega))) (by omega) ?_
   intro q_v15 v15 w16 E16 hov15 hlv15
   have Q16 := E16.size
   replace hV := evo_stepo hV E16 (fun g hg => hanA g hg)
   replace hts := hts0.now hV
   replace hcl := hcl0.now hV
   replace B2 := B2.evo E16 (by intro hm; have hm2 := Option.mem_toList.1 hm; exact hdb _ hm2 rfl)
   replace hAb2 := hAb2.evo E16 (by intro hm; have hm2 := Option.mem_toList.1 hm; exact hdb _ hm2 rfl)
   replace hdb := own_ne hlv15 hdb (by omega)
   replace hanA := own_anch hlv15 hanA (by omega)
   have hol := hov15
   refine Zn rfl (run_asg (v := v15) rfl rfl) ?_
   refine r_cut_end ?_ ?_
   ·refine ⟨_, rfl, (by first | (rw [show (edgeB s t) = _ from if_pos hc14]; exact hol) | (rw [show (edgeB s t) = [] from if_neg hc14, List.append_nil]; exact hol)), hanA, hdb, B2, B2.at, (by first | assumption | omega | (dsimp only; omega) | (simp; done)), hV⟩
   repeat (first | (with_reducible exact Agree.merge _ _ _) | (with_reducible exact Agree.refl _ _) | (with_reducible refine Agree.upd ?_ _ _ rfl) | ((with_reducible refine Agree.inner ?_ ?_); (kernel_rfl)))
  refine r_skip ?_
  refine r_cut_end ?_ ?_
  ·refine ⟨_, rfl, (by first | (rw [show (edgeB s t) = _ from if_pos hc14]; exact hol) | (rw [show (edgeB s t) = [] from if_neg hc14, List.append_nil]; exact hol)), hanA, hdb, B2, B2.at, (by first | assumption | omega | (dsimp only; omega) | (simp; done)), hV⟩
  repeat (first | (with_reducible exact Agree.merge _ _ _) | (with_reducible exact Agree.refl _ _) | (with_reducible refine Agree.upd ?_ _ _ rfl) | ((with_reducible refine Agree.inner ?_ ?_); (kernel_rfl)))
 rintro g w17 ⟨vo, hj18, hol, hanA, hdb, B2, hAb2, hzl13, hV⟩
 have hs_w17hV := hV.size
 have hlt19 := B2.lt
 replace hts := hts0.now hV
 replace hcl := hcl0.now hV
 refine Zk 0 (v := vo) (by exact hj18) ?_
 refine Zs ?_
 refine Zn rfl (asI rfl) ?_
 refine r_seq ?_
 refine Zs ?_
 refine Zo rfl (mvT rfl) ?_
 refine Zo rfl (run_lenS rfl rfl Tryz.underlying9) ?_
 refine Zn rfl (mvI rfl) ?_
 refine r_block ?_
 refine r_loop (α := Nat) [13, 14, 41, 42, 43, 44, 45, 46, 47, 48, 49, 50] (fun k g w => g 41 = .int .i64 (k : Nat) ∧ g 13 = .int .i64 (dblK t k : Nat) ∧ k ≤ t.length ∧ Blk w b2 28 [.int .i64 l0, .int .i64 l1, .int .i64 l2, .int .i64 l3, .int .i64 l4, .int .i64 l5, .int .i64 l6, .int .i64 l7, .int .i64 l8, .int .i64 l9, .int .i64 l10, .int .i64 l11, .int .i64 l12, .int .i64 sh, .int .i64 lo, .slice aot ts.length capt, .slice aoc cl.length capc] ∧ At w b2 0 [.int .i64 l0, .int .i64 l1, .int .i64 l2, .int .i64 l3, .int .i64 l4, .int .i64 l5, .int .i64 l6, .int .i64 l7, .int .i64 l8, .int .i64 l9, .int .i64 l10, .int .i64 l11, .int .i64 l12, .int .i64 sh, .int .i64 lo, .slice aot ts.length capt, .slice aoc cl.length capc] ∧ OwnE w base 39 vo ((l ++ (edgeA s t)) ++ (edgeB s t)) ∧ w17.heap.size ≤ w.heap.size ∧ Evo w0 w v.ownBlock.toList) (fun k => t.length - k) 0 ?_ ?_
 ·refine ⟨(by first | exact rfl | exact congrArg (Value.int _) (by omega) | exact congrArg (Value.int _) (by dsimp only; omega) | exact congrArg (Value.int _) (by simp) | exact congrArg S (by simp)), rfl, (by first | assumption | omega | (dsimp only; omega) | (simp; done)), B2, B2.at, hol, (by first | assumption | omega | (dsimp only; omega) | (simp; done)), hV⟩
 rintro k g w21 ⟨hj22, hj23, hk_k, B2, hAb2, hol, hzl20, hV⟩
 have hs_w21hV := hV.size
 have hlt24 := B2.lt
 replace hts := hts0.now hV
 replace hcl := hcl0.now hV
 refine Zk 41 (v := .int .i64 (k : Nat)) (by exact hj22) ?_
 refine Zk 13 (v := .int .i64 (dblK t k : Nat)) (by exact hj23) ?_
 have hkl := dblK_le t k
 refine Zs ?_
 refine Zn rfl (run_lss rfl rfl rfl) ?_
 refine r_seq ?_
 refine r_cond rfl (fun hc25 => ?_) (fun hc25 => ?_)
 ·skip
  refine r_skip ?_
  refine r_seq ?_
  refine r_block ?_
  refine Zs ?_
  refine Zo rfl (mvI rfl) ?_
  refine Zn rfl (asI rfl) ?_
  refine Zs ?_
  refine Zo rfl (mvT rfl) ?_
  refine Zo rfl (mvI rfl) ?_
  refine Zo rfl (by exact run_slS (k) (_) rfl Tryz.underlying9 rfl (at1 rfl (by omega)) hi0 (by first | omega | (simp; omega)) (by first | omega | (simp; omega))) ?_
  refine r_opcall rfl rfl rfl (run_callf (vs := [S _, S _]) rfl (by exact rfl) Tryz.func110 rfl (by kernel_rfl)) (s_hp_calls (by simp; omega) (by decide)) ?_
  rintro e w26 ⟨rfl, hE26⟩
  refine ⟨_, rfl, ?_⟩
  have Q26 := hE26.size
  replace hV := Z0 hV hE26
  replace hts := hts0.now hV
  replace hcl := hcl0.now hV
  replace B2 := B2.evo0 hE26
  replace hAb2 := hAb2.evo0 hE26
  replace hol := hol.evo0 hE26
  refine r_nil ?_
  refine r_condb rfl (fun hc27 => ?_) (fun hc27 => ?_)
  ·skip
   refine r_region ?_
   refine Zo rfl (mvI rfl) ?_
   refine Zo rfl (run_add rfl rfl rfl (by omega) (by omega)) ?_
   refine Zn rfl (asI rfl) ?_
   refine r_blk ?_
   refine r_region ?_
   refine Zo rfl (run_add rfl rfl rfl (by omega) (by omega)) ?_
   refine Zn rfl (mvI rfl) ?_
   refine r_again (k + 1) ?_ ?_ ?_
   ·first | omega | (dsimp only; omega)
   ·refine ⟨(by first | exact rfl | exact congrArg (Value.int _) (by omega) | exact congrArg (Value.int _) (by dsimp only; omega) | exact congrArg (Value.int _) (by simp) | exact congrArg S (by simp)), (by first | exact congrArg (Value.int _) (by rw [dblP_yes (by omega) (by have h9 := hc27; rw [cut_hi] at h9; simpa using h9)]; omega) | exact congrArg (Value.int _) (by rw [dblP_no (by omega) (by have h9 := hc27; rw [cut_hi] at h9; simpa using h9)])), (by first | assumption | omega | (dsimp only; omega) | (simp; done)), B2, B2.at, hol, (by first | assumption | omega | (dsimp only; omega) | (simp; done)), hV⟩
   repeat (first | (with_reducible exact Agree.merge _ _ _) | (with_reducible exact Agree.refl _ _) | (with_reducible refine Agree.upd ?_ _ _ rfl) | ((with_reducible refine Agree.inner ?_ ?_); (kernel_rfl)))
  refine r_skip ?_
  refine r_blk ?_
  refine r_region ?_
  refine Zo rfl (run_add rfl rfl rfl (by omega) (by omega)) ?_
  refine Zn rfl (mvI rfl) ?_
  refine r_again (k + 1) ?_ ?_ ?_
  ·first | omega | (dsimp only; omega)
  ·refine ⟨(by first | exact rfl | exact congrArg (Value.int _) (by omega) | exact congrArg (Value.int _) (by dsimp only; omega) | exact congrArg (Value.int _) (by simp) | exact congrArg S (by simp)), (by first | exact congrArg (Value.int _) (by rw [dblP_yes (by omega) (by have h9 := hc27; rw [cut_hi] at h9; simpa using h9)]; omega) | exact congrArg (Value.int _) (by rw [dblP_no (by omega) (by have h9 := hc27; rw [cut_hi] at h9; simpa using h9)])), (by first | assumption | omega | (dsimp only; omega) | (simp; done)), B2, B2.at, hol, (by first | assumption | omega | (dsimp only; omega) | (simp; done)), hV⟩
  repeat (first | (with_reducible exact Agree.merge _ _ _) | (with_reducible exact Agree.refl _ _) | (with_reducible refine Agree.upd ?_ _ _ rfl) | ((with_reducible refine Agree.inner ?_ ?_); (kernel_rfl)))
 refine r_exit rfl ?_
 refine r_seq ?_
 refine r_seq ?_
 have hde : dblK t k = dblN t := by rw [show k = t.length by omega]; rfl
 refine Zk 13 (v := .int .i64 (dblN t : Nat)) (by rw [← hde]; exact rfl) ?_
 refine r_region ?_
 refine Zo rfl (mvI rfl) ?_
 refine Zn rfl (run_gtr rfl rfl rfl) ?_
 refine r_cut [0, 53, 54, 55, 56, 57] (fun g w => ∃ vo : Value, g 0 = vo ∧ OwnE w base 39 vo (((l ++ (edgeA s t)) ++ (edgeB s t)) ++ (dblF t)) ∧ (∀ g, vo.ownBlock = some g → w0.heap.size ≤ g ∨ g ∈ v.ownBlock.toList) ∧ (∀ g, vo.ownBlock = some g → g ≠ b2) ∧ Blk w b2 28 [.int .i64 l0, .int .i64 l1, .int .i64 l2, .int .i64 l3, .int .i64 l4, .int .i64 l5, .int .i64 l6, .int .i64 l7, .int .i64 l8, .int .i64 l9, .int .i64 l10, .int .i64 l11, .int .i64 l12, .int .i64 sh, .int .i64 lo, .slice aot ts.length capt, .slice aoc cl.length capc] ∧ At w b2 0 [.int .i64 l0, .int .i64 l1, .int .i64 l2, .int .i64 l3, .int .i64 l4, .int .i64 l5, .int .i64 l6, .int .i64 l7, .int .i64 l8, .int .i64 l9, .int .i64 l10, .int .i64 l11, .int .i64 l12, .int .i64 sh, .int .i64 lo, .slice aot ts.length capt, .slice aoc cl.length capc] ∧ w21.heap.size ≤ w.heap.size ∧ Evo w0 w v.ownBlock.toList) ?_ ?_
 ·skip
  refine r_cond rfl (fun hc29 => ?_) (fun hc29 => ?_)
  ·skip
   refine r_region ?_
   refine Zo rfl (run_mv (v := vo) rfl rfl) ?_
   refine Zo rfl (mvI rfl) ?_
   refine Zo rfl (run_bld (pv := [(0, .int _ _), (2, .int _ _)]) (zs := [_, _, _]) (cells := [_, _, _]) rfl ty_39 rfl pl_39 rfl rfl) ?_
   refine r_append1E (u := .agg _) (y := (⟨8, [], (dblN t : Nat)⟩ : Vc.Item)) rfl rfl Tryz.underlying34 ty_39 rfl hol (fun _ => rfl) rfl (by first | exact rfl | (show _ = List.toArray [_, _, _]; first | (dsimp only; done) | exact rfl | (dsimp only; exact rfl))) ((by first | omega | (simp only [List.length_append]; omega))) ((by first | omega | (simp only [List.length_append]; omega))) (by omega) ?_
   intro q_v30 v30 w31 E31 hov30 hlv30
   have Q31 := E31.size
   replace hV := evo_stepo hV E31 (fun g hg => hanA g hg)
   replace hts := hts0.now hV
   replace hcl := hcl0.now hV
   replace B2 := B2.evo E31 (by intro hm; have hm2 := Option.mem_toList.1 hm; exact hdb _ hm2 rfl)
   replace hAb2 := hAb2.evo E31 (by intro hm; have hm2 := Option.mem_toList.1 hm; exact hdb _ hm2 rfl)
   replace hdb := own_ne hlv30 hdb (by omega)
   replace hanA := own_anch hlv30 hanA (by omega)
   have hol := hov30
   refine Zn rfl (run_asg (v := v30) rfl rfl) ?_
   refine r_cut_end ?_ ?_
   ·refine ⟨_, rfl, (by first | (rw [show (dblF t) = _ from if_pos (by have h9 := hc29; omega)]; exact hol) | (rw [show (dblF t) = [] from if_neg (by have h9 := hc29; omega), List.append_nil]; exact hol)), hanA, hdb, B2, B2.at, (by first | assumption | omega | (dsimp only; omega) | (simp; done)), hV⟩
   repeat (first | (with_reducible exact Agree.merge _ _ _) | (with_reducible exact Agree.refl _ _) | (with_reducible refine Agree.upd ?_ _ _ rfl) | ((with_reducible refine Agree.inner ?_ ?_); (kernel_rfl)))
  refine r_skip ?_
  refine r_cut_end ?_ ?_
  ·refine ⟨_, rfl, (by first | (rw [show (dblF t) = _ from if_pos (by have h9 := hc29; omega)]; exact hol) | (rw [show (dblF t) = [] from if_neg (by have h9 := hc29; omega), List.append_nil]; exact hol)), hanA, hdb, B2, B2.at, (by first | assumption | omega | (dsimp only; omega) | (simp; done)), hV⟩
  repeat (first | (with_reducible exact Agree.merge _ _ _) | (with_reducible exact Agree.refl _ _) | (with_reducible refine Agree.upd ?_ _ _ rfl) | ((with_reducible refine Agree.inner ?_ ?_); (kernel_rfl)))
 rintro g w32 ⟨vo, hj33, hol, hanA, hdb, B2, hAb2, hzl28, hV⟩
 have hs_w32hV := hV.size
 have hlt34 := B2.lt
 refine Zk 0 (v := vo) (by exact hj33) ?_
 refine r_seq ?_
 refine Zs ?_
 refine Zo rfl (mvT rfl) ?_
 refine r_opcall rfl rfl rfl (run_callf (vs := [S _]) rfl (by exact rfl) Tryz.func111 rfl (by kernel_rfl)) (last_calls (by omega)) ?_
 rintro e w35 ⟨rfl, hE35⟩
 refine ⟨_, rfl, ?_⟩
 have Q35 := hE35.size
 replace hV := Z0 hV hE35
 replace hol := hol.evo0 hE35
 replace B2 := B2.evo0 hE35
 replace hAb2 := hAb2.evo0 hE35
 refine Zo rfl (mvT rfl) ?_
 refine r_opcall rfl rfl rfl (run_callf (vs := [S _]) rfl (by exact rfl) Tryz.func111 rfl (by kernel_rfl)) (last_calls (by omega)) ?_
 rintro e w36 ⟨rfl, hE36⟩
 refine ⟨_, rfl, ?_⟩
 have Q36 := hE36.size
 replace hV := Z0 hV hE36
 replace hts := hts0.now hV
 replace hcl := hcl0.now hV
 replace hol := hol.evo0 hE36
 replace B2 := B2.evo0 hE36
 replace hAb2 := hAb2.evo0 hE36
 refine Zn rfl (run_sneq rfl rfl rfl) ?_
 refine r_cut [0, 63, 64, 65, 66, 67, 68] (fun g w => ∃ vo : Value, g 0 = vo ∧ OwnE w base 39 vo ((((l ++ (edgeA s t)) ++ (edgeB s t)) ++ (dblF t)) ++ (signF s t)) ∧ (∀ g, vo.ownBlock = some g → w0.heap.size ≤ g ∨ g ∈ v.ownBlock.toList) ∧ (∀ g, vo.ownBlock = some g → g ≠ b2) ∧ Blk w b2 28 [.int .i64 l0, .int .i64 l1, .int .i64 l2, .int .i64 l3, .int .i64 l4, .int .i64 l5, .int .i64 l6, .int .i64 l7, .int .i64 l8, .int .i64 l9, .int .i64 l10, .int .i64 l11, .int .i64 l12, .int .i64 sh, .int .i64 lo, .slice aot ts.length capt, .slice aoc cl.length capc] ∧ At w b2 0 [.int .i64 l0, .int .i64 l1, .int .i64 l2, .int .i64 l3, .int .i64 l4, .int .i64 l5, .int .i64 l6, .int .i64 l7, .int .i64 l8, .int .i64 l9, .int .i64 l10, .int .i64 l11, .int .i64 l12, .int .i64 sh, .int .i64 lo, .slice aot ts.length capt, .slice aoc cl.length capc] ∧ w36.heap.size ≤ w.heap.size ∧ Evo w0 w v.ownBlock.toList) ?_ ?_
 ·skip
  refine r_cond rfl (fun hc38 => ?_) (fun hc38 => ?_)
  ·skip
   refine r_region ?_
   refine Zo rfl (run_mv (v := vo) rfl rfl) ?_
   refine Zo rfl (mvT rfl) ?_
   refine r_opcall rfl rfl rfl (run_callf (vs := [S _]) rfl (by exact rfl) Tryz.func111 rfl (by kernel_rfl)) (last_calls (by omega)) ?_
   rintro e w39 ⟨rfl, hE39⟩
   refine ⟨_, rfl, ?_⟩
   have Q39 := hE39.size
   replace hV := Z0 hV hE39
   replace hol := hol.evo0 hE39
   replace B2 := B2.evo0 hE39
   replace hAb2 := hAb2.evo0 hE39
   refine Zo rfl (run_bld (pv := [(0, .int _ _), (1, S _)]) (zs := [_, _, _]) (cells := [_, _, _]) rfl ty_39 rfl pl_39 rfl rfl) ?_
   refine r_append1E (u := .agg _) (y := (⟨9, signL t, 0⟩ : Vc.Item)) rfl rfl Tryz.underlying34 ty_39 rfl hol (fun _ => rfl) rfl (by first | exact rfl | (show _ = List.toArray [_, _, _]; first | (dsimp only; done) | exact rfl | (dsimp only; exact rfl))) ((by first | omega | (simp only [List.length_append]; omega))) ((by first | omega | (simp only [List.length_append]; omega))) (by omega) ?_
   intro q_v40 v40 w41 E41 hov40 hlv40
   have Q41 := E41.size
   replace hV := evo_stepo hV E41 (fun g hg => hanA g hg)
   replace hts := hts0.now hV
   replace hcl := hcl0.now hV
   replace B2 := B2.evo E41 (by intro hm; have hm2 := Option.mem_toList.1 hm; exact hdb _ hm2 rfl)
   replace hAb2 := hAb2.evo E41 (by intro hm; have hm2 := Option.mem_toList.1 hm; exact hdb _ hm2 rfl)
   replace hdb := own_ne hlv40 hdb (by omega)
   replace hanA := own_anch hlv40 hanA (by omega)
   have hol := hov40
   refine Zn rfl (run_asg (v := v40) rfl rfl) ?_
   refine r_cut_end ?_ ?_
   ·refine ⟨_, rfl, (by first | (rw [show (signF s t) = _ from if_pos hc38]; exact hol) | (rw [show (signF s t) = [] from if_neg hc38, List.append_nil]; exact hol)), hanA, hdb, B2, B2.at, (by first | assumption | omega | (dsimp only; omega) | (simp; done)), hV⟩
   repeat (first | (with_reducible exact Agree.merge _ _ _) | (with_reducible exact Agree.refl _ _) | (with_reducible refine Agree.upd ?_ _ _ rfl) | ((with_reducible refine Agree.inner ?_ ?_); (kernel_rfl)))
  refine r_skip ?_
  refine r_cut_end ?_ ?_
  ·refine ⟨_, rfl, (by first | (rw [show (signF s t) = _ from if_pos hc38]; exact hol) | (rw [show (signF s t) = [] from if_neg hc38, List.append_nil]; exact hol)), hanA, hdb, B2, B2.at, (by first | assumption | omega | (dsimp only; omega) | (simp; done)), hV⟩
  repeat (first | (with_reducible exact Agree.merge _ _ _) | (with_reducible exact Agree.refl _ _) | (with_reducible refine Agree.upd ?_ _ _ rfl) | ((with_reducible refine Agree.inner ?_ ?_); (kernel_rfl)))
 rintro g w42 ⟨vo, hj43, hol, hanA, hdb, B2, hAb2, hzl37, hV⟩
 have hs_w42hV := hV.size
 have hlt44 := B2.lt
 replace hts := hts0.now hV
 replace hcl := hcl0.now hV
 refine Zk 0 (v := vo) (by exact hj43) ?_
 refine r_seq ?_
 refine Zs ?_
 refine Zo rfl (run_fa rfl rfl fo_28_2) ?_
 refine Zo rfl (run_ld1 rfl ag_3 rfl (hAb2.cell 14 rfl)) ?_
 refine Zo rfl (run_neq rfl rfl rfl) ?_
 refine Zo rfl (mvB rfl) ?_
 refine r_g rfl (wantT rfl) rfl (fun hg => run_mv (v := S _) rfl rfl) ?_
 refine r_g rfl (wantT rfl) rfl (fun hg => run_lenS rfl (glv rfl (fun h => h) hg) Tryz.underlying9) ?_
 refine r_g rfl (wantT rfl) rfl (fun hg => run_mul rfl rfl (glv rfl (fun h => h) hg) (by omega) (by omega)) ?_
 refine r_g rfl (wantT rfl) rfl (fun hg => run_fa rfl rfl fo_28_2) ?_
 refine r_g rfl (wantT rfl) rfl (fun hg => run_ld1 rfl ag_3 (glv rfl (fun h => h) hg) (hAb2.cell 14 rfl)) ?_
 refine r_g rfl (wantT rfl) rfl (fun hg => run_mv (v := S _) rfl rfl) ?_
 refine r_g rfl (wantT rfl) rfl (fun hg => run_lenS rfl (glv rfl (fun h => h) hg) Tryz.underlying9) ?_
 refine r_g rfl (wantT rfl) rfl (fun hg => run_mul rfl (glv rfl (fun h => h) hg) (glv rfl (fun h => h) hg) (by omega) (by omega)) ?_
 refine r_g rfl (wantT rfl) rfl (fun hg => run_gtr rfl (glv rfl (fun h => h) hg) (glv rfl (fun h => h) hg)) ?_
 refine Zn rfl (run_pick_and rfl rfl (fun hq => glv rfl (fun h => h) hq) rfl) ?_
 refine r_cut [0, 83, 84, 85, 86] (fun g w => ∃ vo : Value, g 0 = vo ∧ OwnE w base 39 vo (((((l ++ (edgeA s t)) ++ (edgeB s t)) ++ (dblF t)) ++ (signF s t)) ++ (longF (⟨[l0, l1, l2, l3, l4, l5, l6, l7, l8, l9, l10, l11, l12], sh, lo, ts, cl⟩ : Chk) s t)) ∧ (∀ g, vo.ownBlock = some g → w0.heap.size ≤ g ∨ g ∈ v.ownBlock.toList) ∧ (∀ g, vo.ownBlock = some g → g ≠ b2) ∧ Blk w b2 28 [.int .i64 l0, .int .i64 l1, .int .i64 l2, .int .i64 l3, .int .i64 l4, .int .i64 l5, .int .i64 l6, .int .i64 l7, .int .i64 l8, .int .i64 l9, .int .i64 l10, .int .i64 l11, .int .i64 l12, .int .i64 sh, .int .i64 lo, .slice aot ts.length capt, .slice aoc cl.length capc] ∧ At w b2 0 [.int .i64 l0, .int .i64 l1, .int .i64 l2, .int .i64 l3, .int .i64 l4, .int .i64 l5, .int .i64 l6, .int .i64 l7, .int .i64 l8, .int .i64 l9, .int .i64 l10, .int .i64 l11, .int .i64 l12, .int .i64 sh, .int .i64 lo, .slice aot ts.length capt, .slice aoc cl.length capc] ∧ w42.heap.size ≤ w.heap.size ∧ Evo w0 w v.ownBlock.toList) ?_ ?_
 ·skip
  refine r_cond rfl (fun hc46 => ?_) (fun hc46 => ?_)
  ·skip
   refine r_region ?_
   refine Zo rfl (run_mv (v := vo) rfl rfl) ?_
   refine Zo rfl (run_bld (pv := [(0, .int _ _), (1, S _)]) (zs := [_, _, _]) (cells := [_, _, _]) rfl ty_39 rfl pl_39 rfl rfl) ?_
   refine r_append1E (u := .agg _) (y := (⟨12, longW, 0⟩ : Vc.Item)) rfl rfl Tryz.underlying34 ty_39 rfl hol (fun _ => rfl) rfl (by first | exact rfl | (show _ = List.toArray [_, _, _]; first | (dsimp only; done) | exact rfl | (dsimp only; exact rfl))) ((by first | omega | (simp only [List.length_append]; omega))) ((by first | omega | (simp only [List.length_append]; omega))) (by omega) ?_
   intro q_v47 v47 w48 E48 hov47 hlv47
   have Q48 := E48.size
   replace hV := evo_stepo hV E48 (fun g hg => hanA g hg)
   replace hts := hts0.now hV
   replace hcl := hcl0.now hV
   replace B2 := B2.evo E48 (by intro hm; have hm2 := Option.mem_toList.1 hm; exact hdb _ hm2 rfl)
   replace hAb2 := hAb2.evo E48 (by intro hm; have hm2 := Option.mem_toList.1 hm; exact hdb _ hm2 rfl)
   replace hdb := own_ne hlv47 hdb (by omega)
   replace hanA := own_anch hlv47 hanA (by omega)
   have hol := hov47
   refine Zn rfl (run_asg (v := v47) rfl rfl) ?_
   refine r_cut_end ?_ ?_
   ·refine ⟨_, rfl, (by first | (rw [show (longF (⟨[l0, l1, l2, l3, l4, l5, l6, l7, l8, l9, l10, l11, l12], sh, lo, ts, cl⟩ : Chk) s t) = _ from if_pos hc46]; exact hol) | (rw [show (longF (⟨[l0, l1, l2, l3, l4, l5, l6, l7, l8, l9, l10, l11, l12], sh, lo, ts, cl⟩ : Chk) s t) = [] from if_neg hc46, List.append_nil]; exact hol)), hanA, hdb, B2, B2.at, (by first | assumption | omega | (dsimp only; omega) | (simp; done)), hV⟩
   repeat (first | (with_reducible exact Agree.merge _ _ _) | (with_reducible exact Agree.refl _ _) | (with_reducible refine Agree.upd ?_ _ _ rfl) | ((with_reducible refine Agree.inner ?_ ?_); (kernel_rfl)))
  refine r_skip ?_
  refine r_cut_end ?_ ?_
  ·refine ⟨_, rfl, (by first | (rw [show (longF (⟨[l0, l1, l2, l3, l4, l5, l6, l7, l8, l9, l10, l11, l12], sh, lo, ts, cl⟩ : Chk) s t) = _ from if_pos hc46]; exact hol) | (rw [show (longF (⟨[l0, l1, l2, l3, l4, l5, l6, l7, l8, l9, l10, l11, l12], sh, lo, ts, cl⟩ : Chk) s t) = [] from if_neg hc46, List.append_nil]; exact hol)), hanA, hdb, B2, B2.at, (by first | assumption | omega | (dsimp only; omega) | (simp; done)), hV⟩
  repeat (first | (with_reducible exact Agree.merge _ _ _) | (with_reducible exact Agree.refl _ _) | (with_reducible refine Agree.upd ?_ _ _ rfl) | ((with_reducible refine Agree.inner ?_ ?_); (kernel_rfl)))
 rintro g w49 ⟨vo, hj50, hol, hanA, hdb, B2, hAb2, hzl45, hV⟩
 have hs_w49hV := hV.size
 have hlt51 := B2.lt
 replace hts := hts0.now hV
 replace hcl := hcl0.now hV
 refine Zk 0 (v := vo) (by exact hj50) ?_
 refine r_seq ?_
 refine Zs ?_
 refine Zo rfl (run_fa rfl rfl fo_28_1) ?_
 refine Zo rfl (run_ld1 rfl ag_3 rfl (hAb2.cell 13 rfl)) ?_
 refine Zo rfl (run_neq rfl rfl rfl) ?_
 refine Zo rfl (mvB rfl) ?_
 refine r_g rfl (wantT rfl) rfl (fun hg => run_mv (v := S _) rfl rfl) ?_
 refine r_g rfl (wantT rfl) rfl (fun hg => run_lenS rfl (glv rfl (fun h => h) hg) Tryz.underlying9) ?_
 refine r_g rfl (wantT rfl) rfl (fun hg => run_mul rfl rfl (glv rfl (fun h => h) hg) (by omega) (by omega)) ?_
 refine r_g rfl (wantT rfl) rfl (fun hg => run_fa rfl rfl fo_28_1) ?_
 refine r_g rfl (wantT rfl) rfl (fun hg => run_ld1 rfl ag_3 (glv rfl (fun h => h) hg) (hAb2.cell 13 rfl)) ?_
 refine r_g rfl (wantT rfl) rfl (fun hg => run_mv (v := S _) rfl rfl) ?_
 refine r_g rfl (wantT rfl) rfl (fun hg => run_lenS rfl (glv rfl (fun h => h) hg) Tryz.underlying9) ?_
 refine r_g rfl (wantT rfl) rfl (fun hg => run_mul rfl (glv rfl (fun h => h) hg) (glv rfl (fun h => h) hg) (by omega) (by omega)) ?_
 refine r_g rfl (wantT rfl) rfl (fun hg => run_lss rfl (glv rfl (fun h => h) hg) (glv rfl (fun h => h) hg)) ?_
 refine Zn rfl (run_pick_and rfl rfl (fun hq => glv rfl (fun h => h) hq) rfl) ?_
 refine r_cut [0, 101, 102, 103, 104] (fun g w => ∃ vo : Value, g 0 = vo ∧ OwnE w base 39 vo ((((((l ++ (edgeA s t)) ++ (edgeB s t)) ++ (dblF t)) ++ (signF s t)) ++ (longF (⟨[l0, l1, l2, l3, l4, l5, l6, l7, l8, l9, l10, l11, l12], sh, lo, ts, cl⟩ : Chk) s t)) ++ (shortF (⟨[l0, l1, l2, l3, l4, l5, l6, l7, l8, l9, l10, l11, l12], sh, lo, ts, cl⟩ : Chk) s t)) ∧ (∀ g, vo.ownBlock = some g → w0.heap.size ≤ g ∨ g ∈ v.ownBlock.toList) ∧ (∀ g, vo.ownBlock = some g → g ≠ b2) ∧ Blk w b2 28 [.int .i64 l0, .int .i64 l1, .int .i64 l2, .int .i64 l3, .int .i64 l4, .int .i64 l5, .int .i64 l6, .int .i64 l7, .int .i64 l8, .int .i64 l9, .int .i64 l10, .int .i64 l11, .int .i64 l12, .int .i64 sh, .int .i64 lo, .slice aot ts.length capt, .slice aoc cl.length capc] ∧ At w b2 0 [.int .i64 l0, .int .i64 l1, .int .i64 l2, .int .i64 l3, .int .i64 l4, .int .i64 l5, .int .i64 l6, .int .i64 l7, .int .i64 l8, .int .i64 l9, .int .i64 l10, .int .i64 l11, .int .i64 l12, .int .i64 sh, .int .i64 lo, .slice aot ts.length capt, .slice aoc cl.length capc] ∧ w49.heap.size ≤ w.heap.size ∧ Evo w0 w v.ownBlock.toList) ?_ ?_
 ·skip
  refine r_cond rfl (fun hc53 => ?_) (fun hc53 => ?_)
  ·skip
   refine r_region ?_
   refine Zo rfl (run_mv (v := vo) rfl rfl) ?_
   refine Zo rfl (run_bld (pv := [(0, .int _ _), (1, S _)]) (zs := [_, _, _]) (cells := [_, _, _]) rfl ty_39 rfl pl_39 rfl rfl) ?_
   refine r_append1E (u := .agg _) (y := (⟨12, shortW, 0⟩ : Vc.Item)) rfl rfl Tryz.underlying34 ty_39 rfl hol (fun _ => rfl) rfl (by first | exact rfl | (show _ = List.toArray [_, _, _]; first | (dsimp only; done) | exact rfl | (dsimp only; exact rfl))) ((by first | omega | (simp only [List.length_append]; omega))) ((by first | omega | (simp only [List.length_append]; omega))) (by omega) ?_
   intro q_v54 v54 w55 E55 hov54 hlv54
   have Q55 := E55.size
   replace hV := evo_stepo hV E55 (fun g hg => hanA g hg)
   replace hts := hts0.now hV
   replace hcl := hcl0.now hV
   replace B2 := B2.evo E55 (by intro hm; have hm2 := Option.mem_toList.1 hm; exact hdb _ hm2 rfl)
   replace hAb2 := hAb2.evo E55 (by intro hm; have hm2 := Option.mem_toList.1 hm; exact hdb _ hm2 rfl)
   replace hdb := own_ne hlv54 hdb (by omega)
   replace hanA := own_anch hlv54 hanA (by omega)
   have hol := hov54
   refine Zn rfl (run_asg (v := v54) rfl rfl) ?_
   refine r_cut_end ?_ ?_
   ·refine ⟨_, rfl, (by first | (rw [show (shortF (⟨[l0, l1, l2, l3, l4, l5, l6, l7, l8, l9, l10, l11, l12], sh, lo, ts, cl⟩ : Chk) s t) = _ from if_pos hc53]; exact hol) | (rw [show (shortF (⟨[l0, l1, l2, l3, l4, l5, l6, l7, l8, l9, l10, l11, l12], sh, lo, ts, cl⟩ : Chk) s t) = [] from if_neg hc53, List.append_nil]; exact hol)), hanA, hdb, B2, B2.at, (by first | assumption | omega | (dsimp only; omega) | (simp; done)), hV⟩
   repeat (first | (with_reducible exact Agree.merge _ _ _) | (with_reducible exact Agree.refl _ _) | (with_reducible refine Agree.upd ?_ _ _ rfl) | ((with_reducible refine Agree.inner ?_ ?_); (kernel_rfl)))
  refine r_skip ?_
  refine r_cut_end ?_ ?_
  ·refine ⟨_, rfl, (by first | (rw [show (shortF (⟨[l0, l1, l2, l3, l4, l5, l6, l7, l8, l9, l10, l11, l12], sh, lo, ts, cl⟩ : Chk) s t) = _ from if_pos hc53]; exact hol) | (rw [show (shortF (⟨[l0, l1, l2, l3, l4, l5, l6, l7, l8, l9, l10, l11, l12], sh, lo, ts, cl⟩ : Chk) s t) = [] from if_neg hc53, List.append_nil]; exact hol)), hanA, hdb, B2, B2.at, (by first | assumption | omega | (dsimp only; omega) | (simp; done)), hV⟩
  repeat (first | (with_reducible exact Agree.merge _ _ _) | (with_reducible exact Agree.refl _ _) | (with_reducible refine Agree.upd ?_ _ _ rfl) | ((with_reducible refine Agree.inner ?_ ?_); (kernel_rfl)))
 rintro g w56 ⟨vo, hj57, hol, hanA, hdb, B2, hAb2, hzl52, hV⟩
 have hs_w56hV := hV.size
 have hlt58 := B2.lt
 refine Zk 0 (v := vo) (by exact hj57) ?_
 refine Zs ?_
 refine Zo rfl (run_mv (v := vo) rfl rfl) ?_
 refine Zn rfl (run_asg (v := vo) rfl rfl) ?_
 refine r_ret (res1 (v := vo) rfl rfl) ?_
 exact ⟨_, rfl, hV, by unfold plainF; have h9 := hol; simp only [List.append_assoc] at h9 ⊢; exact h9, hanA⟩
set_option maxHeartbeats 2000000 in
theorem terms_calls {v : Value} {base : Nat} {l : List Vc.Item} {l0 l1 l2 l3 l4 l5 l6 l7 l8 l9 l10 l11 l12 sh lo : Int} {aot : Option Addr} {bt ot capt : Nat} {ts : List TermL} {aoc : Option Addr} {bc oc capc : Nat} {cl : List Clas} {aop : Option Addr} {bp op capp : Nat} {lp : List Vc.Item} {aoq : Option Addr} {bq oq capq : Nat} {lq : List Vc.Item} {w0 : World} (hol : OwnE w0 base 39 v l) (hbs : base ≤ w0.heap.size) (hts : RowRK w0 v.ownBlock.toList aot bt ot capt ts) (hcl : RowRK w0 v.ownBlock.toList aoc bc oc capc cl) (hp : ∀ w9, Evo w0 w9 v.ownBlock.toList → RowE w9 aop bp op capp lp) (hq : ∀ w9, Evo w0 w9 v.ownBlock.toList → RowE w9 aoq bq oq capq lq) (hxp : ∀ x ∈ lp, x.text.length ≤ 140737488355328) (hxq : ∀ x ∈ lq, x.text.length ≤ 140737488355328) (hsp : lp.length ≤ 1000000) (hsq : lq.length ≤ 1000000) (hsl : l.length ≤ 100000000) (hz : ts.length ≤ 40) (hjb : ∀ x ∈ ts, JudT x) :
    Calls Tryz.prog 67 #[v, .agg #[.int .i64 l0, .int .i64 l1, .int .i64 l2, .int .i64 l3, .int .i64 l4, .int .i64 l5, .int .i64 l6, .int .i64 l7, .int .i64 l8, .int .i64 l9, .int .i64 l10, .int .i64 l11, .int .i64 l12, .int .i64 sh, .int .i64 lo, .slice aot ts.length capt, .slice aoc cl.length capc], .slice aop lp.length capp, .slice aoq lq.length capq] w0 fun e w' => ∃ v', e = .returned v' ∧ Evo w0 w' v.ownBlock.toList ∧ (OwnE w' base 39 v' (l ++ (missN lq ts (foundN ts.length (spotsF lp (fsT cl ts) 0))).map (reqF (⟨[l0, l1, l2, l3, l4, l5, l6, l7, l8, l9, l10, l11, l12], sh, lo, ts, cl⟩ : Chk)) ++ (wrongK lq ts [] (foundN ts.length (spotsF lp (fsT cl ts) 0))).map forF)) ∧ (∀ g, v'.ownBlock = some g → w0.heap.size ≤ g ∨ g ∈ v.ownBlock.toList) := by
 have hanA : (∀ g, v.ownBlock = some g → w0.heap.size ≤ g ∨ g ∈ v.ownBlock.toList) := fun g hg => .inr (Option.mem_toList.2 hg); have hob0 := fun g hg => (hol.block (g := g) hg).2
 refine calls_enter (n := 57) Tryz.func67 rfl Tryz.ntmps67 rfl ?_
 have hV : Evo w0 w0 v.ownBlock.toList := Evo.refl _ _
 have hts0 := hts
 replace hts := hts0.now hV
 have hbd_hts := hts.bd
 have hcl0 := hcl
 replace hcl := hcl0.now hV
 have hbd_hcl := hcl.bd
 have hp0 := hp
 replace hp := hp0 _ hV
 have hbd_hp := hp.bd
 have hq0 := hq
 replace hq := hq0 _ hV
 have hbd_hq := hq.bd
 refine Zs ?_
 have hob1 := fun g hg => (hol.block (g := g) hg).2
 refine r_box (vs := [_, _, _, _, _, _, _, _, _, _, _, _, _, _, _, _, _]) rfl rfl rfl ?_
 intro b2 w3 J2 E3 B2 Y2
 have Q3 := E3.size
 replace hV := Z0 hV E3
 replace hol := hol.evo0 E3
 replace hts := hts0.now hV
 replace hcl := hcl0.now hV
 replace hp := hp0 _ hV
 replace hq := hq0 _ hV
 have hAb2 := B2.at
 refine Zn rfl (asS rfl) ?_
 refine r_seq ?_
 refine r_seq ?_
 have hdb : ∀ g, v.ownBlock = some g → g ≠ b2 := fun g hg => by have h7 := hob0 g hg; omega
 have hobT := fun g hg => (hol.block (g := g) hg).2
 refine r_region ?_
 refine Zo rfl (run_fa rfl rfl fo_28_3) ?_
 refine Zo rfl (run_ld1 rfl ag_25 rfl (hAb2.cell 15 rfl)) ?_
 refine Zo rfl (run_fa rfl rfl fo_28_4) ?_
 refine Zo rfl (run_ld1 rfl ag_26 rfl (hAb2.cell 16 rfl)) ?_
 refine Zo rfl (mvS rfl) ?_
 refine Zo rfl (mvS rfl) ?_
 refine r_opcall rfl rfl rfl (run_callf (vs := [.slice aot ts.length capt, .slice aoc cl.length capc, .slice _ _ _, .slice _ _ _]) rfl (by exact rfl) Tryz.func112 rfl (by kernel_rfl)) (missing_calls hts hcl hp hxp (by omega) (by omega) hq hxq (by omega)) ?_
 rintro e w4 ⟨vM4, rfl, hE4, hoM4⟩
 refine ⟨_, rfl, ?_⟩
 have Q4 := hE4.size
 replace hV := Z0 hV hE4
 replace hol := hol.evo0 hE4
 replace hts := hts0.now hV
 replace hcl := hcl0.now hV
 replace hp := hp0 _ hV
 replace hq := hq0 _ hV
 replace B2 := B2.evo0 hE4
 replace hAb2 := hAb2.evo0 hE4
 refine Zo rfl (run_lenOE rfl rfl Tryz.underlying22 hoM4) ?_
 refine Zn rfl (mvI rfl) ?_
 refine r_block ?_
 have hml := missN_len lq ts (foundN ts.length (spotsF lp (fsT cl ts) 0)); have hfl := foundN_len ts.length (spotsF lp (fsT cl ts) 0); have hnl := natI_len (missN lq ts (foundN ts.length (spotsF lp (fsT cl ts) 0)))
 obtain ⟨ao5, g5, cp5, hv5, hr5, hg5⟩ := hoM4.rowOf
 subst hv5
 have hIa : Evo w4 w4 v.ownBlock.toList := Evo.refl _ _
 have hr50 := fun w9 (h9 : Evo w4 w9 v.ownBlock.toList) => row_keep hr5 h9 (fun hne hm => by have h2 := (hg5 hne).2; have h7 := hobT _ (Option.mem_toList.1 hm); omega)
 have hanI : ∀ g, v.ownBlock = some g → w4.heap.size ≤ g ∨ g ∈ v.ownBlock.toList := fun g hg => .inr (Option.mem_toList.2 hg)
 refine r_loop (α := Nat) [0, 10, 21, 22, 23, 24, 25, 26, 27, 28, 29, 30, 31, 32, 33, 34, 35, 36, 37] (fun k g w => ∃ vo : Value, g 21 = .int .i64 (k : Nat) ∧ g 0 = vo ∧ k ≤ (natI (missN lq ts (foundN ts.length (spotsF lp (fsT cl ts) 0)))).length ∧ OwnE w base 39 vo (l ++ ((missN lq ts (foundN ts.length (spotsF lp (fsT cl ts) 0))).take k).map (reqF (⟨[l0, l1, l2, l3, l4, l5, l6, l7, l8, l9, l10, l11, l12], sh, lo, ts, cl⟩ : Chk))) ∧ (∀ g, vo.ownBlock = some g → w0.heap.size ≤ g ∨ g ∈ v.ownBlock.toList) ∧ (∀ g, vo.ownBlock = some g → w4.heap.size ≤ g ∨ g ∈ v.ownBlock.toList) ∧ (∀ g, vo.ownBlock = some g → g ≠ b2) ∧ Blk w b2 28 [.int .i64 l0, .int .i64 l1, .int .i64 l2, .int .i64 l3, .int .i64 l4, .int .i64 l5, .int .i64 l6, .int .i64 l7, .int .i64 l8, .int .i64 l9, .int .i64 l10, .int .i64 l11, .int .i64 l12, .int .i64 sh, .int .i64 lo, .slice aot ts.length capt, .slice aoc cl.length capc] ∧ At w b2 0 [.int .i64 l0, .int .i64 l1, .int .i64 l2, .int .i64 l3, .int .i64 l4, .int .i64 l5, .int .i64 l6, .int .i64 l7, .int .i64 l8, .int .i64 l9, .int .i64 l10, .int .i64 l11, .int .i64 l12, .int .i64 sh, .int .i64 lo, .slice aot ts.length capt, .slice aoc cl.length capc] ∧ w4.heap.size ≤ w.heap.size ∧ Evo w0 w v.ownBlock.toList ∧ Evo w4 w v.ownBlock.toList) (fun k => (natI (missN lq ts (foundN ts.length (spotsF lp (fsT cl ts) 0)))).length - k) 0 ?_ ?_
 ·refine ⟨_, (by first | exact rfl | exact congrArg (Value.int _) (by omega) | exact congrArg (Value.int _) (by dsimp only; omega) | exact congrArg (Value.int _) (by simp) | exact congrArg S (by simp)), rfl, (by first | assumption | omega | (dsimp only; omega) | (simp; done)), (by rw [List.take_zero, List.map_nil, List.append_nil]; exact hol), hanA, hanI, hdb, B2, B2.at, (by first | assumption | omega | (dsimp only; omega) | (simp; done)), hV, hIa⟩
 rintro k g w7 ⟨vo, hj8, hj9, hk_k, hol, hanA, hanI, hdb, B2, hAb2, hzl6, hV, hIa⟩
 have hs_w7hV := hV.size
 have hs_w7hIa := hIa.size
 have hlt10 := B2.lt
 replace hts := hts0.now hV
 replace hcl := hcl0.now hV
 replace hp := hp0 _ hV
 replace hq := hq0 _ hV
 replace hr5 := hr50 _ hIa
 refine Zk 21 (v := .int .i64 (k : Nat)) (by exact hj8) ?_
 refine Zk 0 (v := vo) (by exact hj9) ?_
 have hmt := List.length_take_le k (missN lq ts (foundN ts.length (spotsF lp (fsT cl ts) 0))); have hmm : (((missN lq ts (foundN ts.length (spotsF lp (fsT cl ts) 0))).take k).map (reqF (⟨[l0, l1, l2, l3, l4, l5, l6, l7, l8, l9, l10, l11, l12], sh, lo, ts, cl⟩ : Chk))).length = ((missN lq ts (foundN ts.length (spotsF lp (fsT cl ts) 0))).take k).length := List.length_map _
 refine Zs ?_
 refine Zn rfl (run_lss rfl rfl rfl) ?_
 refine r_seq ?_
 refine r_cond rfl (fun hc11 => ?_) (fun hc11 => ?_)
 ·skip
  refine r_skip ?_
  refine r_seq ?_
  refine r_block ?_
  refine Zs ?_
  refine Zo rfl (run_ix (k) rfl Tryz.underlying22 ty_3 rfl rfl (by first | exact rfl | omega) (by omega) (hr5.addr (i := k) (by omega))) ?_
  have hA120 := fun (w' : World) (h : Evo w4 w' v.ownBlock.toList) => (hr50 w' h).atD (k) (by omega)
  have hA12 := hA120 _ hIa
  refine Zo rfl (run_ld1 rfl ag_3 rfl (hA12.cell 0 rfl)) ?_
  refine Zn rfl (asI rfl) ?_
  have hkk := natI_get (l := (missN lq ts (foundN ts.length (spotsF lp (fsT cl ts) 0)))) (k := k) (by omega)
  obtain ⟨hkt, hkr⟩ := missN_in (tg := lq) (ts := ts) (n := ts.length) (sp := (spotsF lp (fsT cl ts) 0)) (k := k) (by omega)
  refine r_region ?_
  refine Zo rfl (run_mv (v := vo) rfl rfl) ?_
  refine Zo rfl (run_fa rfl rfl fo_28_3) ?_
  refine Zo rfl (run_ld1 rfl ag_25 rfl (hAb2.cell 15 rfl)) ?_
  refine Zo rfl (mvI rfl) ?_
  refine Zo rfl (run_ix (((missN lq ts (foundN ts.length (spotsF lp (fsT cl ts) 0))).getD k default)) rfl Tryz.underlying25 ty_85 rfl rfl hkk hkt (hts.addr (i := ((missN lq ts (foundN ts.length (spotsF lp (fsT cl ts) 0))).getD k default)) hkt)) ?_
  obtain ⟨aoW13, bW13, offW13, capW13, aoQ13, bQ13, offQ13, capQ13, aoF13, bF13, offF13, capF13, hX⟩ := term_atK hts0 (((missN lq ts (foundN ts.length (spotsF lp (fsT cl ts) 0))).getD k default)) hkt
  have hA130 := fun (w' : World) (h : Evo w0 w' v.ownBlock.toList) => (hX w' h).1
  have hA13 := hA130 _ hV
  have hW130 := fun (w' : World) (h : Evo w0 w' v.ownBlock.toList) => (hX w' h).2.1
  have hW13 := hW130 _ hV
  have hQ130 := fun (w' : World) (h : Evo w0 w' v.ownBlock.toList) => (hX w' h).2.2.1
  have hQ13 := hQ130 _ hV
  have hF130 := fun (w' : World) (h : Evo w0 w' v.ownBlock.toList) => (hX w' h).2.2.2
  have hF13 := hF130 _ hV
  clear hX
  have hbd_hW13 := hW13.bd
  have hbd_hQ13 := hQ13.bd
  have hbd_hF13 := hF13.bd
  refine Zo rfl (run_fa rfl rfl fo_85_1) ?_
  refine Zo rfl (run_ld1 rfl ag_77 rfl (hA13.cell 1 rfl)) ?_
  refine Zo rfl (run_ix (0) rfl Tryz.underlying77 ty_9 rfl rfl rfl (by omega) (hQ13.addr (i := 0) (by omega))) ?_
  have hA140 := fun (w' : World) (h : Evo w0 w' v.ownBlock.toList) => (hQ130 w' h).atD (0) (by omega)
  have hA14 := hA140 _ hV
  refine Zo rfl (run_ld1 rfl ag_9 rfl (hA14.cell 0 rfl)) ?_
  refine Zo rfl (run_bld (pv := [(0, .int _ _), (1, S _), (2, .int _ _)]) (zs := [_, _, _]) (cells := [_, _, _]) rfl ty_39 rfl pl_39 rfl rfl) ?_
  refine r_append1E (u := .agg _) (y := (reqF (⟨[l0, l1, l2, l3, l4, l5, l6, l7, l8, l9, l10, l11, l12], sh, lo, ts, cl⟩ : Chk) ((missN lq ts (foundN ts.length (spotsF lp (fsT cl ts) 0))).getD k default))) rfl rfl Tryz.underlying34 ty_39 rfl hol (fun _ => rfl) rfl (by first | exact rfl | (show _ = List.toArray [_, _, _]; first | (dsimp only; done) | exact rfl | (dsimp only; exact rfl))) ((by first | omega | (simp only [List.length_append]; omega))) ((by first | omega | (simp only [List.length_append]; omega))) (by omega) ?_
  intro q_v15 v15 w16 E16 hov15 hlv15
  have Q16 := E16.size
  replace hV := evo_stepo hV E16 (fun g hg => hanA g hg)
  replace hIa := evo_stepo hIa E16 (fun g hg => hanI g hg)
  replace hts := hts0.now hV
  replace hcl := hcl0.now hV
  replace hp := hp0 _ hV
  replace hq := hq0 _ hV
  replace hr5 := hr50 _ hIa
  replace B2 := B2.evo E16 (by intro hm; have hm2 := Option.mem_toList.1 hm; exact hdb _ hm2 rfl)
  replace hAb2 := hAb2.evo E16 (by intro hm; have hm2 := Option.mem_toList.1 hm; exact hdb _ hm2 rfl)
  replace hanI := own_anch hlv15 hanI (by omega)
  replace hdb := own_ne hlv15 hdb (by omega)
  replace hanA := own_anch hlv15 hanA (by omega)
  have hol := hov15
  refine Zn rfl (run_asg (v := v15) rfl rfl) ?_
  refine r_blk ?_
  refine r_region ?_
  refine Zo rfl (run_add rfl rfl rfl (by omega) (by omega)) ?_
  refine Zn rfl (mvI rfl) ?_
  refine r_again (k + 1) ?_ ?_ ?_
  ·first | omega | (dsimp only; omega)
  ·refine ⟨_, (by first | exact rfl | exact congrArg (Value.int _) (by omega) | exact congrArg (Value.int _) (by dsimp only; omega) | exact congrArg (Value.int _) (by simp) | exact congrArg S (by simp)), rfl, (by first | assumption | omega | (dsimp only; omega) | (simp; done)), (by rw [map_step (by omega), ← List.append_assoc]; exact hol), hanA, hanI, hdb, B2, B2.at, (by first | assumption | omega | (dsimp only; omega) | (simp; done)), hV, hIa⟩
  repeat (first | (with_reducible exact Agree.merge _ _ _) | (with_reducible exact Agree.refl _ _) | (with_reducible refine Agree.upd ?_ _ _ rfl) | ((with_reducible refine Agree.inner ?_ ?_); (kernel_rfl)))
 refine r_exit rfl ?_
 refine r_seq ?_
 refine r_seq ?_
 have e7 : ((missN lq ts (foundN ts.length (spotsF lp (fsT cl ts) 0))).take k).map (reqF (⟨[l0, l1, l2, l3, l4, l5, l6, l7, l8, l9, l10, l11, l12], sh, lo, ts, cl⟩ : Chk)) = (missN lq ts (foundN ts.length (spotsF lp (fsT cl ts) 0))).map (reqF (⟨[l0, l1, l2, l3, l4, l5, l6, l7, l8, l9, l10, l11, l12], sh, lo, ts, cl⟩ : Chk)) := by rw [List.take_of_length_le (by omega)]
 rw [e7] at hol
 have hme : ((missN lq ts (foundN ts.length (spotsF lp (fsT cl ts) 0))).map (reqF (⟨[l0, l1, l2, l3, l4, l5, l6, l7, l8, l9, l10, l11, l12], sh, lo, ts, cl⟩ : Chk))).length = (missN lq ts (foundN ts.length (spotsF lp (fsT cl ts) 0))).length := List.length_map _
 have hobU := fun g hg => (hol.block (g := g) hg).2
 refine r_region ?_
 refine Zo rfl (run_fa rfl rfl fo_28_3) ?_
 refine Zo rfl (run_ld1 rfl ag_25 rfl (hAb2.cell 15 rfl)) ?_
 refine Zo rfl (run_fa rfl rfl fo_28_4) ?_
 refine Zo rfl (run_ld1 rfl ag_26 rfl (hAb2.cell 16 rfl)) ?_
 refine Zo rfl (mvS rfl) ?_
 refine Zo rfl (mvS rfl) ?_
 refine r_opcall rfl rfl rfl (run_callf (vs := [.slice aot ts.length capt, .slice aoc cl.length capc, .slice _ _ _, .slice _ _ _]) rfl (by exact rfl) Tryz.func113 rfl (by kernel_rfl)) (wrong_calls hts hcl hp hxp (by omega) (by omega) hq hxq (by omega) hjb) ?_
 rintro e w17 ⟨vM17, rfl, hE17, hoM17⟩
 refine ⟨_, rfl, ?_⟩
 have Q17 := hE17.size
 replace hV := Z0 hV hE17
 replace hts := hts0.now hV
 replace hcl := hcl0.now hV
 replace hp := hp0 _ hV
 replace hq := hq0 _ hV
 replace hr5 := hr50 _ hIa
 replace hol := hol.evo0 hE17
 refine Zo rfl (run_lenOE rfl rfl Tryz.underlying77 hoM17) ?_
 refine Zn rfl (mvI rfl) ?_
 refine r_block ?_
 have hwl := wrong_len (tg := lq) (ts := ts) (sp := (spotsF lp (fsT cl ts) 0)) (fun x hx => (hjb x hx).2.1) hz
 obtain ⟨ao18, g18, cp18, hv18, hr18, hg18⟩ := hoM17.rowOf
 subst hv18
 have hIb : Evo w17 w17 vo.ownBlock.toList := Evo.refl _ _
 have hr180 := fun w9 (h9 : Evo w17 w9 vo.ownBlock.toList) => row_keep hr18 h9 (fun hne hm => by have h2 := (hg18 hne).2; have h7 := hobU _ (Option.mem_toList.1 hm); omega)
 have hanJ : ∀ g, vo.ownBlock = some g → w17.heap.size ≤ g ∨ g ∈ vo.ownBlock.toList := fun g hg => .inr (Option.mem_toList.2 hg)
 refine r_loop (α := Nat) [0, 12, 46, 47, 48, 49, 50, 51, 52, 53, 54, 55] (fun k g w => ∃ vq : Value, g 46 = .int .i64 (k : Nat) ∧ g 0 = vq ∧ k ≤ (wrongK lq ts [] (foundN ts.length (spotsF lp (fsT cl ts) 0))).length ∧ OwnE w base 39 vq ((l ++ (missN lq ts (foundN ts.length (spotsF lp (fsT cl ts) 0))).map (reqF (⟨[l0, l1, l2, l3, l4, l5, l6, l7, l8, l9, l10, l11, l12], sh, lo, ts, cl⟩ : Chk))) ++ ((wrongK lq ts [] (foundN ts.length (spotsF lp (fsT cl ts) 0))).take k).map forF) ∧ (∀ g, vq.ownBlock = some g → w0.heap.size ≤ g ∨ g ∈ v.ownBlock.toList) ∧ (∀ g, vq.ownBlock = some g → w17.heap.size ≤ g ∨ g ∈ vo.ownBlock.toList) ∧ w17.heap.size ≤ w.heap.size ∧ Evo w0 w v.ownBlock.toList ∧ Evo w17 w vo.ownBlock.toList) (fun k => (wrongK lq ts [] (foundN ts.length (spotsF lp (fsT cl ts) 0))).length - k) 0 ?_ ?_
 ·refine ⟨_, (by first | exact rfl | exact congrArg (Value.int _) (by omega) | exact congrArg (Value.int _) (by dsimp only; omega) | exact congrArg (Value.int _) (by simp) | exact congrArg S (by simp)), rfl, (by first | assumption | omega | (dsimp only; omega) | (simp; done)), (by rw [List.take_zero, List.map_nil, List.append_nil]; exact hol), hanA, hanJ, (by first | assumption | omega | (dsimp only; omega) | (simp; done)), hV, hIb⟩
 rintro k g w20 ⟨vq, hj21, hj22, hk_k, hol, hanA, hanJ, hzl19, hV, hIb⟩
 have hs_w20hV := hV.size
 have hs_w20hIb := hIb.size
 replace hr18 := hr180 _ hIb
 refine Zk 46 (v := .int .i64 (k : Nat)) (by exact hj21) ?_
 refine Zk 0 (v := vq) (by exact hj22) ?_
 have hmt := List.length_take_le k (wrongK lq ts [] (foundN ts.length (spotsF lp (fsT cl ts) 0))); have hmm : (((wrongK lq ts [] (foundN ts.length (spotsF lp (fsT cl ts) 0))).take k).map forF).length = ((wrongK lq ts [] (foundN ts.length (spotsF lp (fsT cl ts) 0))).take k).length := List.length_map _
 refine Zs ?_
 refine Zn rfl (run_lss rfl rfl rfl) ?_
 refine r_seq ?_
 refine r_cond rfl (fun hc23 => ?_) (fun hc23 => ?_)
 ·skip
  refine r_skip ?_
  refine r_seq ?_
  refine r_block ?_
  refine Zs ?_
  refine Zo rfl (run_ix (k) rfl Tryz.underlying77 ty_9 rfl rfl (by first | exact rfl | omega) (by omega) (hr18.addr (i := k) (by omega))) ?_
  have hA240 := fun (w' : World) (h : Evo w17 w' vo.ownBlock.toList) => (hr180 w' h).atD (k) (by omega)
  have hA24 := hA240 _ hIb
  refine Zo rfl (run_ld1 rfl ag_9 rfl (hA24.cell 0 rfl)) ?_
  refine Zn rfl (asT rfl) ?_
  refine r_region ?_
  refine Zo rfl (run_mv (v := vq) rfl rfl) ?_
  refine Zo rfl (mvT rfl) ?_
  refine Zo rfl (run_bld (pv := [(0, .int _ _), (1, S _), (2, .int _ _)]) (zs := [_, _, _]) (cells := [_, _, _]) rfl ty_39 rfl pl_39 rfl rfl) ?_
  refine r_append1E (u := .agg _) (y := (forF ((wrongK lq ts [] (foundN ts.length (spotsF lp (fsT cl ts) 0))).getD k default))) rfl rfl Tryz.underlying34 ty_39 rfl hol (fun _ => rfl) rfl (by first | exact rfl | (show _ = List.toArray [_, _, _]; first | (dsimp only; done) | exact rfl | (dsimp only; exact rfl))) ((by first | omega | (simp only [List.length_append]; omega))) ((by first | omega | (simp only [List.length_append]; omega))) (by omega) ?_
  intro q_v25 v25 w26 E26 hov25 hlv25
  have Q26 := E26.size
  replace hV := evo_stepo hV E26 (fun g hg => hanA g hg)
  replace hIb := evo_stepo hIb E26 (fun g hg => hanJ g hg)
  replace hts := hts0.now hV
  replace hcl := hcl0.now hV
  replace hp := hp0 _ hV
  replace hq := hq0 _ hV
  replace hr5 := hr50 _ hIa
  replace hr18 := hr180 _ hIb
  replace hanJ := own_anch hlv25 hanJ (by omega)
  replace hanA := own_anch hlv25 hanA (by omega)
  have hol := hov25
  refine Zn rfl (run_asg (v := v25) rfl rfl) ?_
  refine r_blk ?_
  refine r_region ?_
  refine Zo rfl (run_add rfl rfl rfl (by omega) (by omega)) ?_
  refine Zn rfl (mvI rfl) ?_
  refine r_again (k + 1) ?_ ?_ ?_
  ·first | omega | (dsimp only; omega)
  ·refine ⟨_, (by first | exact rfl | exact congrArg (Value.int _) (by omega) | exact congrArg (Value.int _) (by dsimp only; omega) | exact congrArg (Value.int _) (by simp) | exact congrArg S (by simp)), rfl, (by first | assumption | omega | (dsimp only; omega) | (simp; done)), (by rw [map_step (by omega), ← List.append_assoc]; exact hol), hanA, hanJ, (by first | assumption | omega | (dsimp only; omega) | (simp; done)), hV, hIb⟩
  repeat (first | (with_reducible exact Agree.merge _ _ _) | (with_reducible exact Agree.refl _ _) | (with_reducible refine Agree.upd ?_ _ _ rfl) | ((with_reducible refine Agree.inner ?_ ?_); (kernel_rfl)))
 refine r_exit rfl ?_
 refine Zs ?_
 refine Zo rfl (run_mv (v := vq) rfl rfl) ?_
 refine Zn rfl (run_asg (v := vq) rfl rfl) ?_
 refine r_ret (res1 (v := vq) rfl rfl) ?_
 have e8 : ((wrongK lq ts [] (foundN ts.length (spotsF lp (fsT cl ts) 0))).take k).map forF = (wrongK lq ts [] (foundN ts.length (spotsF lp (fsT cl ts) 0))).map forF := by rw [List.take_of_length_le (by omega)]
 rw [e8] at hol
 exact ⟨_, rfl, hV, hol, hanA⟩
set_option maxHeartbeats 4000000 in
theorem all_calls {l0 l1 l2 l3 l4 l5 l6 l7 l8 l9 l10 l11 l12 sh lo : Int} {aot : Option Addr} {bt ot capt : Nat} {ts : List TermL} {aoc : Option Addr} {bc oc capc : Nat} {cl : List Clas} {aof : Option Addr} {bf of9 capf : Nat} {f : List Vc.Item} {aog : Option Addr} {bg og capg : Nat} {gg : List Vc.Item} {w0 : World} (hts : RowR w0 aot bt ot capt ts) (hcl : RowR w0 aoc bc oc capc cl) (hf : RowE w0 aof bf of9 capf f) (hg : RowE w0 aog bg og capg gg) (htf : Tiny f) (htg : Tiny gg) (hif : ∀ x ∈ tagsL f, InR x) (hig : ∀ x ∈ tagsL gg, InR x) (hz : ts.length ≤ 40) (hjb : ∀ x ∈ ts, JudT x) (htab : Tab w0) (hn : (0 ≤ sh ∧ sh ≤ 100) ∧ (lo = 0 ∨ (100 ≤ lo ∧ lo ≤ 10000))) :
    Calls Tryz.prog 31 #[.agg #[.int .i64 l0, .int .i64 l1, .int .i64 l2, .int .i64 l3, .int .i64 l4, .int .i64 l5, .int .i64 l6, .int .i64 l7, .int .i64 l8, .int .i64 l9, .int .i64 l10, .int .i64 l11, .int .i64 l12, .int .i64 sh, .int .i64 lo, .slice aot ts.length capt, .slice aoc cl.length capc], .slice aof f.length capf, .slice aog gg.length capg] w0 fun e w' => ∃ v q, e = .returned v ∧ Evo w0 w' [] ∧ OwnE w' w0.heap.size 39 v q ∧ q.Perm (findL (⟨[l0, l1, l2, l3, l4, l5, l6, l7, l8, l9, l10, l11, l12], sh, lo, ts, cl⟩ : Chk) f gg) := by
 have htab := fun w9 (h9 : Evo w0 w9 []) => htab.evo0 h9
 refine calls_enter (n := 57) Tryz.func31 rfl Tryz.ntmps31 rfl ?_
 have hV : Evo w0 w0 [] := Evo.refl _ _
 have hts0 := hts.keep
 have hbd_hts := hts.bd
 have hcl0 := hcl.keep
 have hbd_hcl := hcl.bd
 have hf0 := keepE hf
 have hbd_hf := hf.bd
 have hg0 := keepE hg
 have hbd_hg := hg.bd
 have htab0 := htab
 refine Zs ?_
 refine r_box (vs := [_, _, _, _, _, _, _, _, _, _, _, _, _, _, _, _, _]) rfl rfl rfl ?_
 intro b1 w2 J1 E2 B1 Y1
 have Q2 := E2.size
 replace hV := Z0 hV E2
 replace hf := hf0 _ hV
 replace hg := hg0 _ hV
 have hAb1 := B1.at
 refine Zn rfl (asS rfl) ?_
 refine r_seq ?_
 refine Zs ?_
 refine Zo rfl (mvS rfl) ?_
 refine Zo rfl (run_lenSl rfl rfl Tryz.underlying33) ?_
 refine Zo rfl (run_eql rfl rfl rfl) ?_
 refine Zo rfl (mvB rfl) ?_
 refine r_g rfl (wantT rfl) rfl (fun hg => run_mv (v := .slice _ _ _) rfl rfl) ?_
 refine r_g rfl (wantT rfl) rfl (fun hg => run_lenSl rfl (glv rfl (fun h => h) hg) Tryz.underlying33) ?_
 refine r_g rfl (wantT rfl) rfl (fun hg => run_gtr rfl (glv rfl (fun h => h) hg) rfl) ?_
 refine Zn rfl (run_pick_and rfl rfl (fun hq => glv rfl (fun h => h) hq) rfl) ?_
 refine r_cond rfl (fun hc3 => ?_) (fun hc3 => ?_)
 ·skip
  refine Zs ?_
  refine Zo rfl (run_bld (pv := [(0, .int _ _)]) (zs := [_, _, _]) (cells := [_, _, _]) rfl ty_39 rfl pl_39 rfl rfl) ?_
  refine r_bslice (pv := [(0, .agg _)]) (zs := [_, _, _]) (cs := [_, _, _]) Tryz.underlying34 ty_39 rfl rfl rfl rfl rfl ?_
  intro b4 w5 J4 E5 B4 Y4
  have Q5 := E5.size
  replace hV := Z0 hV E5
  have hob4 : OwnE w5 w0.heap.size 39 (.slice (some ⟨b4, 0, none⟩) 1 1) ([⟨1, [], 0⟩] : List Vc.Item) := ownE_lit ([⟨1, [], 0⟩] : List Vc.Item) B4 rfl (by omega) (by simp)
  refine Zn rfl (run_asg (v := (.slice (some ⟨b4, 0, none⟩) 1 1)) rfl rfl) ?_
  refine r_ret (res1 (v := (.slice (some ⟨b4, 0, none⟩) 1 1)) rfl rfl) ?_
  have hf1 : findL (⟨[l0, l1, l2, l3, l4, l5, l6, l7, l8, l9, l10, l11, l12], sh, lo, ts, cl⟩ : Chk) f gg = [⟨1, [], 0⟩] := by unfold findL; rw [if_pos (show hidB f gg from ⟨by omega, by omega⟩)]
  exact ⟨_, _, rfl, hV, hob4, by rw [hf1]⟩
 refine r_skip ?_
 refine Zs ?_
 refine Zn rfl (asS rfl) ?_
 refine Zs ?_
 refine Zo rfl (mvS rfl) ?_
 refine r_opcall rfl rfl rfl (run_callf (vs := [.slice _ _ _]) rfl (by exact rfl) Tryz.func59 rfl (by kernel_rfl)) (tokens_calls hf htf.tk) ?_
 rintro e w6 ⟨vt6, rfl, hE6, hot6⟩
 refine ⟨_, rfl, ?_⟩
 have Q6 := hE6.size
 replace hV := Z0 hV hE6
 replace hg := hg0 _ hV
 replace B1 := B1.evo0 hE6
 replace hAb1 := hAb1.evo0 hE6
 refine Zo rfl (mvS rfl) ?_
 refine r_opcall rfl rfl rfl (run_callf (vs := [.slice _ _ _]) rfl (by exact rfl) Tryz.func59 rfl (by kernel_rfl)) (tokens_calls hg htg.tk) ?_
 rintro e w7 ⟨vt7, rfl, hE7, hot7⟩
 refine ⟨_, rfl, ?_⟩
 have Q7 := hE7.size
 replace hV := Z0 hV hE7
 replace hf := hf0 _ hV
 replace hg := hg0 _ hV
 replace B1 := B1.evo0 hE7
 replace hAb1 := hAb1.evo0 hE7
 replace hot6 := hot6.evo0 hE7
 refine Zo rfl (run_asg (v := vt6) rfl rfl) ?_
 refine Zn rfl (run_asg (v := vt7) rfl rfl) ?_
 refine r_seq ?_
 have hI5 : Evo w7 w7 [] := Evo.refl _ _
 obtain ⟨ao8, g8, cp8, hv8, hr8, hg8⟩ := hot6.rowOf
 subst hv8
 have hr80 := keepE hr8
 obtain ⟨ao9, g9, cp9, hv9, hr9, hg9⟩ := hot7.rowOf
 subst hv9
 have hr90 := keepE hr9
 have hol : OwnE w7 w7.heap.size 39 (.slice none 0 0) ([] : List Vc.Item) := OwnE.nil _ _ _
 have hFL := fLens (c := (⟨[l0, l1, l2, l3, l4, l5, l6, l7, l8, l9, l10, l11, l12], sh, lo, ts, cl⟩ : Chk)) htf htg; have hB1 := hFL.same; have hB2 := hFL.slot; have hB3 := hFL.tag; have hB4 := hFL.shape; have hB5 := hFL.num; have hB6 := hFL.plain; have hQ9 := htf.tlen; have hQ10 := htg.tlen; have hQ11 := htf.plen; have hQ12 := htg.plen
 refine r_region ?_
 refine Zn rfl (run_asg (v := .func _ _ _) rfl rfl) ?_
 refine r_seq ?_
 refine Zs ?_
 refine Zo rfl (mvS rfl) ?_
 refine Zo rfl (mvS rfl) ?_
 refine r_opcall rfl rfl rfl (run_callf (vs := [.slice _ _ _, .slice _ _ _]) rfl (by exact rfl) Tryz.func61 rfl (by kernel_rfl)) (isame_calls hf hg) ?_
 rintro e w10 ⟨rfl, hE10⟩
 refine ⟨_, rfl, ?_⟩
 have Q10 := hE10.size
 replace hV := Z0 hV hE10
 replace hI5 := Z0 hI5 hE10
 replace hg := hg0 _ hV
 replace B1 := B1.evo0 hE10
 replace hAb1 := hAb1.evo0 hE10
 replace hr8 := hr80 _ hI5
 replace hol := hol.evo0 hE10
 refine Zo rfl (mvB rfl) ?_
 refine r_g rfl (wantT rfl) rfl (fun hg => run_mv (v := .slice _ _ _) rfl rfl) ?_
 refine r_g rfl (wantT rfl) rfl (fun hg => run_mv (v := .func _ _ _) rfl rfl) ?_
 refine r_gcall rfl (wantT rfl) rfl (fun hg => run_callf rfl (argcons (v := .slice _ _ _) (glv rfl (fun h => h) hg) (argcons (v := .func _ _ _) (glv rfl (fun h => h) hg) (rfl))) Tryz.func62 rfl (by kernel_rfl)) (fun hg => (ctw_calls hr8).mono (fun e w' h => ⟨h.1, h.2⟩)) (fun w11 hE12 => ?_)
 have Q11 := hE12.size
 replace hV := Z0 hV hE12
 replace hI5 := Z0 hI5 hE12
 replace hts := hts0.now hV
 replace hcl := hcl0.now hV
 replace hf := hf0 _ hV
 replace hg := hg0 _ hV
 replace htab := htab0 _ hV
 replace B1 := B1.evo0 hE12
 replace hAb1 := hAb1.evo0 hE12
 replace hr8 := hr80 _ hI5
 replace hr9 := hr90 _ hI5
 replace hol := hol.evo0 hE12
 refine Zn rfl (run_pick_andB rfl rfl (fun hq => glv rfl (fun h => h) hq) rfl) ?_
 refine r_cut [7, 33, 34, 35, 36] (fun g w => ∃ vo : Value, g 7 = vo ∧ OwnE w w7.heap.size 39 vo ([] ++ sameF f gg) ∧ Blk w b1 28 [.int .i64 l0, .int .i64 l1, .int .i64 l2, .int .i64 l3, .int .i64 l4, .int .i64 l5, .int .i64 l6, .int .i64 l7, .int .i64 l8, .int .i64 l9, .int .i64 l10, .int .i64 l11, .int .i64 l12, .int .i64 sh, .int .i64 lo, .slice aot ts.length capt, .slice aoc cl.length capc] ∧ At w b1 0 [.int .i64 l0, .int .i64 l1, .int .i64 l2, .int .i64 l3, .int .i64 l4, .int .i64 l5, .int .i64 l6, .int .i64 l7, .int .i64 l8, .int .i64 l9, .int .i64 l10, .int .i64 l11, .int .i64 l12, .int .i64 sh, .int .i64 lo, .slice aot ts.length capt, .slice aoc cl.length capc] ∧ w11.heap.size ≤ w.heap.size ∧ Evo w0 w [] ∧ Evo w7 w []) ?_ ?_
 ·skip
  refine r_cond rfl (fun hc14 => ?_) (fun hc14 => ?_)
  ·skip
   refine r_region ?_
   refine Zo rfl (run_mv (v := (.slice none 0 0)) rfl rfl) ?_
   refine Zo rfl (run_bld (pv := [(0, .int _ _)]) (zs := [_, _, _]) (cells := [_, _, _]) rfl ty_39 rfl pl_39 rfl rfl) ?_
   refine r_append1E (u := .agg _) (y := (⟨2, [], 0⟩ : Vc.Item)) rfl rfl Tryz.underlying34 ty_39 rfl hol (fun _ => rfl) rfl (by first | exact rfl | (show _ = List.toArray [_, _, _]; first | (dsimp only; done) | exact rfl | (dsimp only; exact rfl))) ((by simp only [List.length_append, List.length_nil]; omega)) ((by simp only [List.length_append, List.length_nil]; omega)) (by omega) ?_
   intro q_v15 v15 w16 E16 hov15 hlv15
   have Q16 := E16.size
   replace hV := evo_stepo hV E16 (fun g hg => .inl (by first | exact (hol.block hg).1 | (have := hol.block hg; omega)))
   replace hI5 := evo_stepo hI5 E16 (fun g hg => .inl (by first | exact (hol.block hg).1 | (have := hol.block hg; omega)))
   replace hts := hts0.now hV
   replace hcl := hcl0.now hV
   replace hf := hf0 _ hV
   replace hg := hg0 _ hV
   replace htab := htab0 _ hV
   replace B1 := B1.evo E16 (by intro hm; have hm2 := Option.mem_toList.1 hm; first | (have := hol.block hm2; omega) | (simp [Value.ownBlock] at hm2; omega))
   replace hAb1 := hAb1.evo E16 (by intro hm; have hm2 := Option.mem_toList.1 hm; first | (have := hol.block hm2; omega) | (simp [Value.ownBlock] at hm2; omega))
   replace hr8 := hr80 _ hI5
   replace hr9 := hr90 _ hI5
   refine Zn rfl (run_asg (v := v15) rfl rfl) ?_
   refine r_cut_end ?_ ?_
   ·refine ⟨_, rfl, (by first | (rw [show sameF f gg = _ from if_pos hc14]; exact hov15) | (rw [show sameF f gg = [] from if_neg hc14]; exact hov15)), B1, B1.at, (by first | assumption | omega | (dsimp only; omega) | (simp; done)), hV, hI5⟩
   repeat (first | (with_reducible exact Agree.merge _ _ _) | (with_reducible exact Agree.refl _ _) | (with_reducible refine Agree.upd ?_ _ _ rfl) | ((with_reducible refine Agree.inner ?_ ?_); (kernel_rfl)))
  refine r_skip ?_
  refine r_cut_end ?_ ?_
  ·refine ⟨_, rfl, (by first | (rw [show sameF f gg = _ from if_pos hc14]; exact hol) | (rw [show sameF f gg = [] from if_neg hc14]; exact hol)), B1, B1.at, (by first | assumption | omega | (dsimp only; omega) | (simp; done)), hV, hI5⟩
  repeat (first | (with_reducible exact Agree.merge _ _ _) | (with_reducible exact Agree.refl _ _) | (with_reducible refine Agree.upd ?_ _ _ rfl) | ((with_reducible refine Agree.inner ?_ ?_); (kernel_rfl)))
 rintro g w17 ⟨vo, hj18, hol, B1, hAb1, hzl13, hV, hI5⟩
 have hs_w17hV := hV.size
 have hs_w17hI5 := hI5.size
 have hlt19 := B1.lt
 replace hg := hg0 _ hV
 refine Zk 7 (v := vo) (by exact hj18) ?_
 refine Zs ?_
 refine Zo rfl (run_mv (v := vo) rfl rfl) ?_
 refine Zo rfl (mvS rfl) ?_
 refine Zo rfl (mvS rfl) ?_
 refine r_opcall rfl rfl rfl (run_callf (vs := [vo, .slice _ _ _, .slice _ _ _]) rfl (by exact rfl) Tryz.func63 rfl (by kernel_rfl)) (counted_calls hol (by omega) (fun w9 h9 => hf0 _ (evo_stepo hV h9 (fun g hg => .inl (by have := (hol.block hg).1; omega)))) (fun w9 h9 => hg0 _ (evo_stepo hV h9 (fun g hg => .inl (by have := (hol.block hg).1; omega)))) (fun w9 h9 => htab0 _ (evo_stepo hV h9 (fun g hg => .inl (by have := (hol.block hg).1; omega)))) htf htg hif hig (by simp only [List.length_append, List.length_nil]; omega)) ?_
 rintro e w20 ⟨vc20, rfl, hE20, ⟨q1_20, q2_20, q3_20, hq1_20, hq2_20, hq3_20, hoc20⟩, hac20⟩
 refine ⟨_, rfl, ?_⟩
 have Q20 := hE20.size
 replace hV := evo_stepo hV hE20 (fun g hg => .inl (by first | exact (hol.block hg).1 | (have := hol.block hg; omega)))
 replace hI5 := evo_stepo hI5 hE20 (fun g hg => .inl (by first | exact (hol.block hg).1 | (have := hol.block hg; omega)))
 replace hg := hg0 _ hV
 replace B1 := B1.evo hE20 (by intro hm; have hm2 := Option.mem_toList.1 hm; first | (have := hol.block hm2; omega) | (simp [Value.ownBlock] at hm2; omega))
 replace hAb1 := hAb1.evo hE20 (by intro hm; have hm2 := Option.mem_toList.1 hm; first | (have := hol.block hm2; omega) | (simp [Value.ownBlock] at hm2; omega))
 have hol := hoc20
 have hl1 := hq1_20.length_eq; have hl2 := hq2_20.length_eq; have hl3 := hq3_20.length_eq
 refine Zn rfl (run_asg (v := vc20) rfl rfl) ?_
 refine Zs ?_
 refine Zo rfl (run_mv (v := vc20) rfl rfl) ?_
 refine Zo rfl (mvS rfl) ?_
 refine Zo rfl (mvS rfl) ?_
 refine r_opcall rfl rfl rfl (run_callf (vs := [vc20, .slice _ _ _, .slice _ _ _]) rfl (by exact rfl) Tryz.func64 rfl (by kernel_rfl)) (nested_calls hol (by omega) (fun w9 h9 => hf0 _ (evo_stepo hV h9 (fun g hg => .inl (by have := (hol.block hg).1; omega)))) (fun w9 h9 => hg0 _ (evo_stepo hV h9 (fun g hg => .inl (by have := (hol.block hg).1; omega)))) htf htg (by simp only [List.length_append, List.length_nil]; omega)) ?_
 rintro e w21 ⟨vc21, rfl, hE21, hoc21, hac21⟩
 refine ⟨_, rfl, ?_⟩
 have Q21 := hE21.size
 replace hV := evo_stepo hV hE21 (fun g hg => .inl (by first | exact (hol.block hg).1 | (have := hol.block hg; omega)))
 replace hI5 := evo_stepo hI5 hE21 (fun g hg => .inl (by first | exact (hol.block hg).1 | (have := hol.block hg; omega)))
 replace hg := hg0 _ hV
 replace B1 := B1.evo hE21 (by intro hm; have hm2 := Option.mem_toList.1 hm; first | (have := hol.block hm2; omega) | (simp [Value.ownBlock] at hm2; omega))
 replace hAb1 := hAb1.evo hE21 (by intro hm; have hm2 := Option.mem_toList.1 hm; first | (have := hol.block hm2; omega) | (simp [Value.ownBlock] at hm2; omega))
 have hol := hoc21
 refine Zn rfl (run_asg (v := vc21) rfl rfl) ?_
 refine r_seq ?_
 refine r_cut [7, 45, 46, 47, 48, 49, 50, 51] (fun g w => ∃ vo : Value, g 7 = vo ∧ OwnE w w7.heap.size 39 vo ([] ++ sameF f gg ++ (q1_20 ++ (q2_20 ++ q3_20)) ++ shapeF f gg ++ plainF (⟨[l0, l1, l2, l3, l4, l5, l6, l7, l8, l9, l10, l11, l12], sh, lo, ts, cl⟩ : Chk) (plainL f) (plainL gg)) ∧ Blk w b1 28 [.int .i64 l0, .int .i64 l1, .int .i64 l2, .int .i64 l3, .int .i64 l4, .int .i64 l5, .int .i64 l6, .int .i64 l7, .int .i64 l8, .int .i64 l9, .int .i64 l10, .int .i64 l11, .int .i64 l12, .int .i64 sh, .int .i64 lo, .slice aot ts.length capt, .slice aoc cl.length capc] ∧ At w b1 0 [.int .i64 l0, .int .i64 l1, .int .i64 l2, .int .i64 l3, .int .i64 l4, .int .i64 l5, .int .i64 l6, .int .i64 l7, .int .i64 l8, .int .i64 l9, .int .i64 l10, .int .i64 l11, .int .i64 l12, .int .i64 sh, .int .i64 lo, .slice aot ts.length capt, .slice aoc cl.length capc] ∧ w21.heap.size ≤ w.heap.size ∧ Evo w0 w [] ∧ Evo w7 w []) ?_ ?_
 ·skip
  have hbb1_q := B1
  have hAb1_q := hAb1
  have hV_q := hV
  have hI5_q := hI5
  have hol_own := fun {g : Nat} (hg : _ = some g) => hol.block (g := g) hg
  refine h_region (vc21.ownBlock.toList) (by kernel_rfl) ?_
  intro w23 hE24 hCst10
  have Q23 := hE24.size
  replace hV := Z0 hV hE24
  replace hI5 := Z0 hI5 hE24
  replace hf := hf0 _ hV
  replace hg := hg0 _ hV
  replace B1 := B1.evo0 hE24
  replace hAb1 := hAb1.evo0 hE24
  replace hol := hol.evo0 hE24
  refine h_take (i := 0) rfl rfl rfl rfl (by kernel_rfl) (fun w' hC => run_mv (v := vc21) rfl rfl) hCst10 ?_
  refine h_take (i := 1) rfl rfl rfl rfl (by kernel_rfl) (fun w' hC => run_ldN rfl ag_28 ty_28 rfl rfl (hAb1_q.evo hC (fun hg => by have h8 := hol_own (Option.mem_toList.1 hg); omega))) hCst10 ?_
  refine h_take (i := 2) rfl rfl rfl rfl (by kernel_rfl) (fun w' hC => run_mv (v := .slice _ _ _) rfl rfl) hCst10 ?_
  refine h_take (i := 4) rfl rfl rfl rfl (by kernel_rfl) (fun w' hC => run_mv (v := .slice _ _ _) rfl rfl) hCst10 ?_
  refine h_one (i := 3) (by kernel_rfl) ?_
  refine h_do rfl ?_
  refine r_opcall rfl rfl rfl (run_callf (vs := [.slice _ _ _]) rfl (by exact rfl) Tryz.func66 rfl (by kernel_rfl)) (plain_calls hf htf.small) ?_
  rintro e w25 ⟨rfl, hE25⟩
  refine ⟨_, rfl, ?_⟩
  have Q25 := hE25.size
  replace hV := Z0 hV hE25
  replace hI5 := Z0 hI5 hE25
  replace hCst10 := Z0 hCst10 hE25
  replace hg := hg0 _ hV
  replace B1 := B1.evo0 hE25
  replace hAb1 := hAb1.evo0 hE25
  replace hol := hol.evo0 hE25
  refine h_next hCst10 ?_
  refine h_one (i := 5) (by kernel_rfl) ?_
  refine h_do rfl ?_
  refine r_opcall rfl rfl rfl (run_callf (vs := [.slice _ _ _]) rfl (by exact rfl) Tryz.func66 rfl (by kernel_rfl)) (plain_calls hg htg.small) ?_
  rintro e w26 ⟨rfl, hE26⟩
  refine ⟨_, rfl, ?_⟩
  have Q26 := hE26.size
  replace hV := Z0 hV hE26
  replace hI5 := Z0 hI5 hE26
  replace hCst10 := Z0 hCst10 hE26
  replace hg := hg0 _ hV
  replace B1 := B1.evo0 hE26
  replace hAb1 := hAb1.evo0 hE26
  replace hol := hol.evo0 hE26
  refine h_next hCst10 ?_
  refine h_one (i := 6) (by kernel_rfl) ?_
  refine h_do rfl ?_
  refine r_opcall rfl rfl rfl (run_callf (vs := [vc21, .agg _, S _, S _]) rfl (by exact rfl) Tryz.func65 rfl (by kernel_rfl)) (oplain_calls hol (by omega) (hts0.pass hV (fun x hx => .inl (by have := (hol.block (Option.mem_toList.1 hx)).1; omega))) (hcl0.pass hV (fun x hx => .inl (by have := (hol.block (Option.mem_toList.1 hx)).1; omega))) hn (by simp only [List.length_append, List.length_nil]; omega) (by omega) (by omega)) ?_
  rintro e w27 ⟨vc27, rfl, hE27, hoc27, hac27⟩
  refine ⟨_, rfl, ?_⟩
  have Q27 := hE27.size
  replace hV := evo_stepo hV hE27 (fun g hg => .inl (by first | exact (hol.block hg).1 | (have := hol.block hg; omega)))
  replace hI5 := evo_stepo hI5 hE27 (fun g hg => .inl (by first | exact (hol.block hg).1 | (have := hol.block hg; omega)))
  replace hCst10 := evo_stepo hCst10 hE27 (fun g hg => .inr (Option.mem_toList.2 hg))
  replace hts := hts0.now hV
  replace hcl := hcl0.now hV
  replace hf := hf0 _ hV
  replace hg := hg0 _ hV
  replace htab := htab0 _ hV
  replace hr8 := hr80 _ hI5
  replace hr9 := hr90 _ hI5
  replace B1 := B1.evo hE27 (by intro hm; have hm2 := Option.mem_toList.1 hm; first | (have := hol.block hm2; omega) | (simp [Value.ownBlock] at hm2; omega))
  replace hAb1 := hAb1.evo hE27 (by intro hm; have hm2 := Option.mem_toList.1 hm; first | (have := hol.block hm2; omega) | (simp [Value.ownBlock] at hm2; omega))
  refine h_next hCst10 ?_
  refine h_take (i := 7) rfl rfl rfl rfl (by kernel_rfl) (fun w' hC => run_asg (v := vc27) rfl rfl) hCst10 ?_
  refine h_done (by kernel_rfl) ?_
  refine r_cut_end ?_ ?_
  ·refine ⟨_, rfl, hoc27, B1, B1.at, (by first | assumption | omega | (dsimp only; omega) | (simp; done)), hV, hI5⟩
  repeat (first | (with_reducible exact Agree.merge _ _ _) | (with_reducible exact Agree.refl _ _) | (with_reducible refine Agree.upd ?_ _ _ rfl) | ((with_reducible refine Agree.inner ?_ ?_); (kernel_rfl)))
 rintro g w28 ⟨vo, hj29, hol, B1, hAb1, hzl22, hV, hI5⟩
 have hs_w28hV := hV.size
 have hs_w28hI5 := hI5.size
 have hlt30 := B1.lt
 replace hg := hg0 _ hV
 refine Zk 7 (v := vo) (by exact hj29) ?_
 refine Zs ?_
 refine Zo rfl (run_mv (v := vo) rfl rfl) ?_
 refine Zo rfl (run_ldN rfl ag_28 ty_28 rfl rfl hAb1) ?_
 refine Zo rfl (mvS rfl) ?_
 refine Zo rfl (mvS rfl) ?_
 refine r_opcall rfl rfl rfl (run_callf (vs := [vo, .agg _, .slice _ _ _, .slice _ _ _]) rfl (by exact rfl) Tryz.func67 rfl (by kernel_rfl)) (terms_calls hol (by omega) (hts0.pass hV (fun x hx => .inl (by have := (hol.block (Option.mem_toList.1 hx)).1; omega))) (hcl0.pass hV (fun x hx => .inl (by have := (hol.block (Option.mem_toList.1 hx)).1; omega))) (fun w9 h9 => hr80 _ (evo_stepo hI5 h9 (fun g hg => .inl (by have := (hol.block hg).1; omega)))) (fun w9 h9 => hr90 _ (evo_stepo hI5 h9 (fun g hg => .inl (by have := (hol.block hg).1; omega)))) (fun x hx => Nat.le_trans (htf.ttx x hx) (by decide)) (fun x hx => Nat.le_trans (htg.ttx x hx) (by decide)) (by omega) (by omega) (by simp only [List.length_append, List.length_nil]; omega) hz hjb) ?_
 rintro e w31 ⟨vc31, rfl, hE31, hoc31, hac31⟩
 refine ⟨_, rfl, ?_⟩
 have Q31 := hE31.size
 replace hV := evo_stepo hV hE31 (fun g hg => .inl (by first | exact (hol.block hg).1 | (have := hol.block hg; omega)))
 replace hI5 := evo_stepo hI5 hE31 (fun g hg => .inl (by first | exact (hol.block hg).1 | (have := hol.block hg; omega)))
 refine Zn rfl (run_asg (v := vc31) rfl rfl) ?_
 refine r_ret (res1 (v := vc31) rfl rfl) ?_
 have hf2 : findL (⟨[l0, l1, l2, l3, l4, l5, l6, l7, l8, l9, l10, l11, l12], sh, lo, ts, cl⟩ : Chk) f gg = findA (⟨[l0, l1, l2, l3, l4, l5, l6, l7, l8, l9, l10, l11, l12], sh, lo, ts, cl⟩ : Chk) f gg := by unfold findL; rw [if_neg (show ¬ hidB f gg from fun q => hc3 ⟨by have := q.1; omega, by have := q.2; omega⟩)]
 have h9 := all_perm (c := (⟨[l0, l1, l2, l3, l4, l5, l6, l7, l8, l9, l10, l11, l12], sh, lo, ts, cl⟩ : Chk)) hq1_20 hq2_20 hq3_20
 unfold termF at h9
 rw [← List.append_assoc] at h9
 exact ⟨_, _, rfl, hV, hoc31.base_le (by omega), by rw [hf2]; exact h9⟩
end Go.Proofs.YtlfjocbnbceceaaGreatDoor
namespace Go.Proofs
open Go.Shelf
def Tryz.sortFind_ren : Go.Shelf.Ren := ⟨fun | 6 => 32 | 15 => 69 | 14 => 68 | 28 => 122 | 29 => 123 | 20 => 114 | 21 => 115 | 22 => 116 | 23 => 117 | 24 => 118 | 25 => 119 | 26 => 120 | 27 => 121 | 46 => 161 | 47 => 162 | 48 => 163 | 49 => 164 | 50 => 165 | 57 => 196 | n => n, fun | 22 => 34 | 24 => 39 | 25 => 63 | 3 => 3 | 39 => 105 | 0 => 0 | 53 => 151 | 55 => 153 | 4 => 4 | 46 => 144 | 45 => 143 | 50 => 148 | 5 => 5 | 9 => 9 | 66 => 177 | 70 => 181 | 76 => 204 | 77 => 131 | n => n, fun | n => n⟩
theorem Tryz.sortFind : Go.Proofs.SlLaysF0.n6 Tryz.prog Tryz.sortFind_ren := {
  mixed := by kernel_rfl
  f6 := ⟨Tryz.f32.name, by decide, Tryz.func32.trans (congrArg some (by kernel_rfl))⟩
  f14 := ⟨Tryz.f68.name, by decide, Tryz.func68.trans (congrArg some (by kernel_rfl))⟩
  f15 := Tryz.func69.trans (congrArg some (by kernel_rfl))
  f20 := ⟨Tryz.f114.name, by decide, Tryz.func114.trans (congrArg some (by kernel_rfl))⟩
  f21 := ⟨Tryz.f115.name, by decide, Tryz.func115.trans (congrArg some (by kernel_rfl))⟩
  f22 := ⟨Tryz.f116.name, by decide, Tryz.func116.trans (congrArg some (by kernel_rfl))⟩
  f23 := ⟨Tryz.f117.name, by decide, Tryz.func117.trans (congrArg some (by kernel_rfl))⟩
  f24 := ⟨Tryz.f118.name, by decide, Tryz.func118.trans (congrArg some (by kernel_rfl))⟩
  f25 := ⟨Tryz.f119.name, by decide, Tryz.func119.trans (congrArg some (by kernel_rfl))⟩
  f26 := ⟨Tryz.f120.name, by decide, Tryz.func120.trans (congrArg some (by kernel_rfl))⟩
  f27 := ⟨Tryz.f121.name, by decide, Tryz.func121.trans (congrArg some (by kernel_rfl))⟩
  f28 := Tryz.func122.trans (congrArg some (by kernel_rfl))
  f29 := Tryz.func123.trans (congrArg some (by kernel_rfl))
  f46 := ⟨Tryz.f161.name, by decide, Tryz.func161.trans (congrArg some (by kernel_rfl))⟩
  f47 := Tryz.func162.trans (congrArg some (by kernel_rfl))
  f48 := Tryz.func163.trans (congrArg some (by kernel_rfl))
  f49 := ⟨Tryz.f164.name, by decide, Tryz.func164.trans (congrArg some (by kernel_rfl))⟩
  f50 := ⟨Tryz.f165.name, by decide, Tryz.func165.trans (congrArg some (by kernel_rfl))⟩
  f57 := ⟨Tryz.f196.name, by decide, Tryz.func196.trans (congrArg some (by kernel_rfl))⟩
  t0 := Tryz.underlying0
  a0 := Tryz.isAgg0
  z0 := Tryz.sizeOf0
  v0 := Tryz.zeroValue0
  t3 := Tryz.underlying3
  a3 := Tryz.isAgg3
  z3 := Tryz.sizeOf3
  v3 := Tryz.zeroValue3
  t4 := Tryz.underlying4
  a4 := Tryz.isAgg4
  z4 := Tryz.sizeOf4
  v4 := Tryz.zeroValue4
  t5 := Tryz.underlying5
  a5 := Tryz.isAgg5
  z5 := Tryz.sizeOf5
  v5 := Tryz.zeroValue5
  t9 := Tryz.underlying9
  a9 := Tryz.isAgg9
  z9 := Tryz.sizeOf9
  v9 := Tryz.zeroValue9
  t22 := Tryz.underlying34
  a22 := Tryz.isAgg34
  z22 := Tryz.sizeOf34
  v22 := Tryz.zeroValue34
  t25 := Tryz.underlying63
  a25 := Tryz.isAgg63
  z25 := Tryz.sizeOf63
  v25 := Tryz.zeroValue63
  t39 := Tryz.underlying105
  a39 := Tryz.isAgg105
  z39 := Tryz.sizeOf105
  v39 := Tryz.zeroValue105
  t45 := Tryz.underlying143
  a45 := Tryz.isAgg143
  z45 := Tryz.sizeOf143
  v45 := Tryz.zeroValue143
  t46 := Tryz.underlying144
  a46 := Tryz.isAgg144
  z46 := Tryz.sizeOf144
  v46 := Tryz.zeroValue144
  t50 := Tryz.underlying148
  a50 := Tryz.isAgg148
  z50 := Tryz.sizeOf148
  v50 := Tryz.zeroValue148
  t53 := Tryz.underlying151
  a53 := Tryz.isAgg151
  z53 := Tryz.sizeOf151
  v53 := Tryz.zeroValue151
  t55 := Tryz.underlying153
  a55 := Tryz.isAgg153
  z55 := Tryz.sizeOf153
  v55 := Tryz.zeroValue153
  t66 := Tryz.underlying177
  a66 := Tryz.isAgg177
  z66 := Tryz.sizeOf177
  v66 := Tryz.zeroValue177
  t70 := Tryz.underlying181
  a70 := Tryz.isAgg181
  z70 := Tryz.sizeOf181
  v70 := Tryz.zeroValue181
  t76 := Tryz.underlying204
  a76 := Tryz.isAgg204
  z76 := Tryz.sizeOf204
  v76 := Tryz.zeroValue204
  t77 := Tryz.underlying131
  a77 := Tryz.isAgg131
  z77 := Tryz.sizeOf131
  v77 := Tryz.zeroValue131 }
end Go.Proofs
namespace Go.Proofs.YtlfjocbnbceceaaGreatDoor
open Go.RowKit Go.Vc
theorem anyI_yes {l : List Vc.Item} {p : Vc.Item → Bool} {k : Nat} (hk : k < l.length) (h : p (l.getD k default) = true) : l.any p = true := List.any_eq_true.2 ⟨_, getD_in hk, h⟩
theorem anyI_no {l : List Vc.Item} {p : Vc.Item → Bool} (h : ∀ j, j < l.length → ¬ p (l.getD j default) = true) : ¬ l.any p = true := fun q => by
  obtain ⟨x, hx, h2⟩ := List.any_eq_true.1 q
  obtain ⟨i, hi, rfl⟩ := List.mem_iff_getElem.1 hx
  exact h i hi (by rw [List.getD_eq_getElem?_getD, List.getElem?_eq_getElem hi]; exact h2)
theorem sortF_of2 {l xs l' : List Vc.Item} {p : Vc.Item → Bool} (h : l.Perm xs) (hs : SortR (Go.Proofs.ltOf cmpF) (l.filter p) l') : l' = (sortF xs).filter p := by
  rw [sortF_filter]; exact sortF_of hs (h.filter p)
theorem cmpS_gt {s t : Str} (h : ¬ blt s t = true) (h2 : ¬ (blt s t || s == t) = true) : cmpS s t = 1 := by
  have h1 : ¬ s < t := fun q => h ((slt_iff _ _).2 q)
  have h3 : ¬ s = t := fun q => h2 (by simp [q])
  unfold cmpS
  rw [if_neg h1]
  by_cases h4 : t < s
  · rw [if_pos h4]
  · exact absurd (slt_tri h1 h4) h3
theorem or_at {p q r : Int} {k : Nat} (hk : k < 3) (hno : ∀ j, j < k → ([p, q, r] : List Int).getD j default = 0) (hc : ¬ ([p, q, r] : List Int).getD k default = 0) : ([p, q, r] : List Int).getD k default = orI p (orI q r) := by
  unfold orI
  match k, hk with
  | 0, _ => exact (if_pos hc).symm
  | 1, _ => have h0 : p = 0 := hno 0 (by omega)
            have h1 : ¬ q = 0 := hc
            rw [if_neg (by simpa using h0), if_pos h1]; rfl
  | 2, _ => have h0 : p = 0 := hno 0 (by omega)
            have h1 : q = 0 := hno 1 (by omega)
            rw [if_neg (by simpa using h0), if_neg (by simpa using h1)]; rfl
theorem or_none {p q r : Int} (hno : ∀ j, j < 3 → ([p, q, r] : List Int).getD j default = 0) : (0 : Int) = orI p (orI q r) := by
  have h0 : p = 0 := hno 0 (by omega)
  have h1 : q = 0 := hno 1 (by omega)
  have h2 : r = 0 := hno 2 (by omega)
  unfold orI; rw [if_neg (by simpa using h0), if_neg (by simpa using h1), h2]
theorem cmpS_eq {s t : Str} (h : ¬ blt s t = true) (h2 : ¬ ¬ (blt s t || s == t) = true) : cmpS s t = 0 := by
  have h3 : s = t := by
    simpa [h] using h2
  exact cmpS_zero.2 h3
theorem isnan_calls {s : Str} {w0 : World}  :
    Calls Tryz.prog 71 #[S s] w0 fun e w' => e = .returned (.bool false) ∧ w0 = w' := by
 refine calls_enter (n := 6) Tryz.func71 rfl Tryz.ntmps71 rfl ?_
 have hV : Evo w0 w0 [] := Evo.refl _ _
 refine Zs ?_
 refine Zn rfl (asB rfl) ?_
 refine Zs ?_
 refine Zo rfl (mvT rfl) ?_
 refine Zo rfl (mvT rfl) ?_
 refine Zo rfl (run_sneq rfl rfl rfl) ?_
 refine Zn rfl (asB rfl) ?_
 refine r_ret (res1 (v := .bool _) rfl rfl) ?_
 exact ⟨ret_bool (by simp), rfl⟩
theorem cmps_calls {s t : Str} {w0 : World}  :
    Calls Tryz.prog 36 #[S s, S t] w0 fun e w' => e = .returned (.int .i64 (cmpS s t)) ∧ w0 = w' := by
 refine calls_enter (n := 20) Tryz.func36 rfl Tryz.ntmps36 rfl ?_
 have hV : Evo w0 w0 [] := Evo.refl _ _
 refine Zs ?_
 refine Zn rfl (asI rfl) ?_
 refine Zs ?_
 refine Zo rfl (mvT rfl) ?_
 refine r_opcall rfl rfl rfl (run_callf (vs := [S _]) rfl (by exact rfl) Tryz.func71 rfl (by kernel_rfl)) isnan_calls ?_
 rintro e w1 ⟨rfl, rfl⟩
 refine ⟨_, rfl, ?_⟩
 refine Zn rfl (asB rfl) ?_
 refine Zs ?_
 refine Zo rfl (mvT rfl) ?_
 refine r_opcall rfl rfl rfl (run_callf (vs := [S _]) rfl (by exact rfl) Tryz.func71 rfl (by kernel_rfl)) isnan_calls ?_
 rintro e w2 ⟨rfl, rfl⟩
 refine ⟨_, rfl, ?_⟩
 refine Zn rfl (asB rfl) ?_
 refine r_seq ?_
 refine Zs ?_
 refine Zn rfl (mvB rfl) ?_
 refine r_cond_no rfl ?_
 refine r_skip ?_
 refine r_seq ?_
 refine Zs ?_
 refine Zn rfl (mvB rfl) ?_
 refine r_cond_no rfl ?_
 refine r_skip ?_
 refine r_seq ?_
 refine Zs ?_
 refine Zo rfl (mvT rfl) ?_
 refine Zo rfl (mvT rfl) ?_
 refine Zn rfl (run_slssD rfl rfl rfl) ?_
 refine r_cond rfl (fun hc3 => ?_) (fun hc3 => ?_)
 ·skip
  refine Zs ?_
  refine Zn rfl (asI rfl) ?_
  refine r_ret (res1 (v := .int _ _) rfl rfl) ?_
  exact ⟨ret_int (by unfold cmpS; rw [if_pos ((slt_iff _ _).1 hc3)]), rfl⟩
 refine r_skip ?_
 refine r_seq ?_
 refine r_seq ?_
 have hc1 := hc3
 refine r_region ?_
 refine Zo rfl (mvT rfl) ?_
 refine Zo rfl (mvT rfl) ?_
 refine Zn rfl (run_sgtrD rfl rfl rfl) ?_
 refine r_cond rfl (fun hc4 => ?_) (fun hc4 => ?_)
 ·skip
  refine Zs ?_
  refine Zn rfl (asI rfl) ?_
  refine r_ret (res1 (v := .int _ _) rfl rfl) ?_
  exact ⟨ret_int (cmpS_gt hc1 hc4).symm, rfl⟩
 refine r_skip ?_
 refine Zs ?_
 refine Zn rfl (asI rfl) ?_
 refine r_ret (res1 (v := .int _ _) rfl rfl) ?_
 exact ⟨ret_int (cmpS_eq hc1 hc4).symm, rfl⟩
theorem isnani_calls {n : Int} {w0 : World}  :
    Calls Tryz.prog 70 #[.int .i64 n] w0 fun e w' => e = .returned (.bool false) ∧ w0 = w' := by
 refine calls_enter (n := 6) Tryz.func70 rfl Tryz.ntmps70 rfl ?_
 have hV : Evo w0 w0 [] := Evo.refl _ _
 refine Zs ?_
 refine Zn rfl (asB rfl) ?_
 refine Zs ?_
 refine Zo rfl (mvI rfl) ?_
 refine Zo rfl (mvI rfl) ?_
 refine Zo rfl (run_neq rfl rfl rfl) ?_
 refine Zn rfl (asB rfl) ?_
 refine r_ret (res1 (v := .bool _) rfl rfl) ?_
 exact ⟨ret_bool (by simp), rfl⟩
theorem cmpi_calls {a b : Int} {w0 : World}  :
    Calls Tryz.prog 35 #[.int .i64 a, .int .i64 b] w0 fun e w' => e = .returned (.int .i64 (cmpI a b)) ∧ w0 = w' := by
 refine calls_enter (n := 20) Tryz.func35 rfl Tryz.ntmps35 rfl ?_
 have hV : Evo w0 w0 [] := Evo.refl _ _
 refine Zs ?_
 refine Zn rfl (asI rfl) ?_
 refine Zs ?_
 refine Zo rfl (mvI rfl) ?_
 refine r_opcall rfl rfl rfl (run_callf (vs := [.int _ _]) rfl (by exact rfl) Tryz.func70 rfl (by kernel_rfl)) isnani_calls ?_
 rintro e w1 ⟨rfl, rfl⟩
 refine ⟨_, rfl, ?_⟩
 refine Zn rfl (asB rfl) ?_
 refine Zs ?_
 refine Zo rfl (mvI rfl) ?_
 refine r_opcall rfl rfl rfl (run_callf (vs := [.int _ _]) rfl (by exact rfl) Tryz.func70 rfl (by kernel_rfl)) isnani_calls ?_
 rintro e w2 ⟨rfl, rfl⟩
 refine ⟨_, rfl, ?_⟩
 refine Zn rfl (asB rfl) ?_
 refine r_seq ?_
 refine Zs ?_
 refine Zn rfl (mvB rfl) ?_
 refine r_cond_no rfl ?_
 refine r_skip ?_
 refine r_seq ?_
 refine Zs ?_
 refine Zn rfl (mvB rfl) ?_
 refine r_cond_no rfl ?_
 refine r_skip ?_
 refine r_seq ?_
 refine Zs ?_
 refine Zo rfl (mvI rfl) ?_
 refine Zo rfl (mvI rfl) ?_
 refine Zn rfl (run_lss rfl rfl rfl) ?_
 refine r_cond rfl (fun hc3 => ?_) (fun hc3 => ?_)
 ·skip
  refine Zs ?_
  refine Zn rfl (asI rfl) ?_
  refine r_ret (res1 (v := .int _ _) rfl rfl) ?_
  exact ⟨ret_int (by unfold cmpI; rw [if_pos hc3]), rfl⟩
 refine r_skip ?_
 refine r_seq ?_
 refine Zs ?_
 refine Zo rfl (mvI rfl) ?_
 refine Zo rfl (mvI rfl) ?_
 refine Zn rfl (run_gtr rfl rfl rfl) ?_
 refine r_cond rfl (fun hc4 => ?_) (fun hc4 => ?_)
 ·skip
  refine Zs ?_
  refine Zn rfl (asI rfl) ?_
  refine r_ret (res1 (v := .int _ _) rfl rfl) ?_
  exact ⟨ret_int (by unfold cmpI; rw [if_neg (by omega), if_pos hc4]), rfl⟩
 refine r_skip ?_
 refine Zs ?_
 refine Zn rfl (asI rfl) ?_
 refine r_ret (res1 (v := .int _ _) rfl rfl) ?_
 exact ⟨ret_int (by unfold cmpI; rw [if_neg (by omega), if_neg (by omega)]), rfl⟩
theorem or_calls {ao : Option Addr} {b off cap : Nat} {p q r : Int} {w0 : World} (hl : RowE w0 ao b off cap ([p, q, r] : List Int)) :
    Calls Tryz.prog 34 #[.slice ao ([p, q, r] : List Int).length cap] w0 fun e w' => e = .returned (.int .i64 (orI p (orI q r))) ∧ w0 = w' := by
 refine calls_enter (n := 18) Tryz.func34 rfl Tryz.ntmps34 rfl ?_
 have hV : Evo w0 w0 [] := Evo.refl _ _
 have hbd_hl := hl.bd
 refine Zs ?_
 refine Zn rfl (asI rfl) ?_
 refine Zs ?_
 refine Zn rfl (asI rfl) ?_
 refine r_seq ?_
 refine Zs ?_
 refine Zo rfl (mvS rfl) ?_
 refine Zo rfl (run_lenSl rfl rfl Tryz.underlying22) ?_
 refine Zn rfl (mvI rfl) ?_
 refine r_block ?_
 refine r_loop (α := Nat) [2, 5, 8, 9, 10, 11, 12, 13, 14, 15, 16] (fun k g w => g 8 = .int .i64 (k : Nat) ∧ k ≤ ([p, q, r] : List Int).length ∧ w = w0 ∧ (∀ j, j < k → ([p, q, r] : List Int).getD j default = 0) ∧ w0.heap.size ≤ w.heap.size ∧ Evo w0 w []) (fun k => ([p, q, r] : List Int).length - k) 0 ?_ ?_
 ·refine ⟨(by first | exact rfl | exact congrArg (Value.int _) (by omega) | exact congrArg (Value.int _) (by dsimp only; omega) | exact congrArg (Value.int _) (by simp) | exact congrArg S (by simp)), (by first | assumption | omega | (dsimp only; omega) | (simp; done)), rfl, (fun j h => by omega), (by first | assumption | omega | (dsimp only; omega) | (simp; done)), hV⟩
 rintro k g w2 ⟨hj3, hk_k, hw, hno, hzl1, hV⟩
 have hs_w2hV := hV.size
 refine Zk 8 (v := .int .i64 (k : Nat)) (by exact hj3) ?_
 replace hw := hw.symm; subst hw
 refine Zs ?_
 refine Zn rfl (run_lss rfl rfl rfl) ?_
 refine r_seq ?_
 refine r_cond rfl (fun hc4 => ?_) (fun hc4 => ?_)
 ·skip
  refine r_skip ?_
  refine r_seq ?_
  refine r_block ?_
  refine Zs ?_
  refine Zo rfl (run_ix (k) rfl Tryz.underlying22 ty_3 rfl rfl (by first | exact rfl | omega) (by omega) (hl.addr (i := k) (by omega))) ?_
  have hA5 := hl.atD (k) (by omega)
  refine Zo rfl (run_ld1 rfl ag_3 rfl (hA5.cell 0 rfl)) ?_
  refine Zn rfl (asI rfl) ?_
  refine Zs ?_
  refine Zo rfl (mvI rfl) ?_
  refine Zo rfl (mvI rfl) ?_
  refine Zn rfl (run_neq rfl rfl rfl) ?_
  refine r_cond rfl (fun hc6 => ?_) (fun hc6 => ?_)
  ·skip
   refine Zs ?_
   refine Zo rfl (mvI rfl) ?_
   refine Zn rfl (asI rfl) ?_
   refine r_ret (res1 (v := .int _ _) rfl rfl) ?_
   exact ⟨ret_int (or_at (by simp at hc4; omega) hno (by simpa using hc6)), rfl⟩
  refine r_skip ?_
  refine r_blk ?_
  refine r_region ?_
  refine Zo rfl (run_add rfl rfl rfl (by omega) (by omega)) ?_
  refine Zn rfl (mvI rfl) ?_
  refine r_again (k + 1) ?_ ?_ ?_
  ·first | omega | (dsimp only; omega)
  ·refine ⟨(by first | exact rfl | exact congrArg (Value.int _) (by omega) | exact congrArg (Value.int _) (by dsimp only; omega) | exact congrArg (Value.int _) (by simp) | exact congrArg S (by simp)), (by first | assumption | omega | (dsimp only; omega) | (simp; done)), rfl, (upto0 hno (by simpa using hc6)), (by first | assumption | omega | (dsimp only; omega) | (simp; done)), hV⟩
  repeat (first | (with_reducible exact Agree.merge _ _ _) | (with_reducible exact Agree.refl _ _) | (with_reducible refine Agree.upd ?_ _ _ rfl) | ((with_reducible refine Agree.inner ?_ ?_); (kernel_rfl)))
 refine r_exit rfl ?_
 refine Zs ?_
 refine Zo rfl (mvI rfl) ?_
 refine Zn rfl (asI rfl) ?_
 refine r_ret (res1 (v := .int _ _) rfl rfl) ?_
 exact ⟨ret_int (or_none (fun j hj => hno j (by simp at hc4; omega))), rfl⟩
theorem cmpf_calls {x y : Vc.Item} {w0 : World}  :
    Calls Tryz.prog 33 #[(.agg (Enc.enc x).toArray), (.agg (Enc.enc y).toArray)] w0 fun e w' => e = .returned (.int .i64 (cmpF x y)) ∧ Evo w0 w' [] ∧ w0.drawn ≤ w'.drawn := by
 refine calls_enter (n := 22) Tryz.func33 rfl Tryz.ntmps33 rfl ?_
 have hV : Evo w0 w0 [] := Evo.refl _ _
 refine Zs ?_
 refine r_boxD (vs := [_, _, _]) rfl rfl rfl ?_
 intro b1 w2 J1 E2 B1 Y1 hdr_0
 have Q2 := E2.size
 replace hV := Z0 hV E2
 refine r_boxD (vs := [_, _, _]) rfl rfl rfl ?_
 intro b3 w4 J3 E4 B3 Y3 hdr_1
 have Q4 := E4.size
 replace hV := Z0 hV E4
 replace B1 := B1.evo0 E4
 refine Zn rfl (asI rfl) ?_
 refine r_seq ?_
 have hbb1_q := B1
 have hAb1_q := B1.at
 have hbb3_q := B3
 have hAb3_q := B3.at
 have hV_q := hV
 refine h_regionD ([]) (by kernel_rfl) ?_
 intro w5 hE6 hCst1 hdr_2
 have Q5 := hE6.size
 replace hV := Z0 hV hE6
 refine h_take (i := 0) rfl rfl rfl rfl (by kernel_rfl) (fun w' hC => run_fa rfl rfl fo_39_0) hCst1 ?_
 refine h_take (i := 1) rfl rfl rfl rfl (by kernel_rfl) (fun w' hC => run_ld1 rfl ag_3 rfl ((hAb1_q.evo0 hC).cell 0 rfl)) hCst1 ?_
 refine h_take (i := 2) rfl rfl rfl rfl (by kernel_rfl) (fun w' hC => run_fa rfl rfl fo_39_0) hCst1 ?_
 refine h_take (i := 3) rfl rfl rfl rfl (by kernel_rfl) (fun w' hC => run_ld1 rfl ag_3 rfl ((hAb3_q.evo0 hC).cell 0 rfl)) hCst1 ?_
 refine h_takeC (i := 4) rfl rfl rfl rfl (by kernel_rfl) (fun w' hC => ⟨_, _, run_callf (vs := [.int _ _, .int _ _]) rfl (by exact rfl) Tryz.func35 rfl (by kernel_rfl), cmpi_calls.mono (fun e w'' h => ⟨h.1, h.2.symm⟩)⟩) hCst1 ?_
 refine h_take (i := 5) rfl rfl rfl rfl (by kernel_rfl) (fun w' hC => run_fa rfl rfl fo_39_1) hCst1 ?_
 refine h_take (i := 6) rfl rfl rfl rfl (by kernel_rfl) (fun w' hC => run_ld1 rfl ag_9 rfl ((hAb1_q.evo0 hC).cell 1 rfl)) hCst1 ?_
 refine h_take (i := 7) rfl rfl rfl rfl (by kernel_rfl) (fun w' hC => run_fa rfl rfl fo_39_1) hCst1 ?_
 refine h_take (i := 8) rfl rfl rfl rfl (by kernel_rfl) (fun w' hC => run_ld1 rfl ag_9 rfl ((hAb3_q.evo0 hC).cell 1 rfl)) hCst1 ?_
 refine h_takeC (i := 9) rfl rfl rfl rfl (by kernel_rfl) (fun w' hC => ⟨_, _, run_callf (vs := [S _, S _]) rfl (by exact rfl) Tryz.func36 rfl (by kernel_rfl), cmps_calls.mono (fun e w'' h => ⟨h.1, h.2.symm⟩)⟩) hCst1 ?_
 refine h_take (i := 10) rfl rfl rfl rfl (by kernel_rfl) (fun w' hC => run_fa rfl rfl fo_39_2) hCst1 ?_
 refine h_take (i := 11) rfl rfl rfl rfl (by kernel_rfl) (fun w' hC => run_ld1 rfl ag_3 rfl ((hAb1_q.evo0 hC).cell 2 rfl)) hCst1 ?_
 refine h_take (i := 12) rfl rfl rfl rfl (by kernel_rfl) (fun w' hC => run_fa rfl rfl fo_39_2) hCst1 ?_
 refine h_take (i := 13) rfl rfl rfl rfl (by kernel_rfl) (fun w' hC => run_ld1 rfl ag_3 rfl ((hAb3_q.evo0 hC).cell 2 rfl)) hCst1 ?_
 refine h_takeC (i := 14) rfl rfl rfl rfl (by kernel_rfl) (fun w' hC => ⟨_, _, run_callf (vs := [.int _ _, .int _ _]) rfl (by exact rfl) Tryz.func35 rfl (by kernel_rfl), cmpi_calls.mono (fun e w'' h => ⟨h.1, h.2.symm⟩)⟩) hCst1 ?_
 refine h_one (i := 15) (by kernel_rfl) ?_
 refine h_do rfl ?_
 refine r_bsliceD (pv := [(0, .int _ _), (1, .int _ _), (2, .int _ _)]) (zs := [_]) (cs := [_, _, _]) Tryz.underlying22 ty_3 rfl rfl rfl rfl rfl ?_
 intro b7 w8 J7 E8 B7 Y7 hdr_3
 have Q8 := E8.size
 replace hV := Z0 hV E8
 replace hCst1 := Z0 hCst1 E8
 have hrb7 : RowE w8 (some ⟨b7, 0, none⟩) b7 0 3 ([cmpI x.kind y.kind, cmpS x.text y.text, cmpI x.id y.id] : List Int) := rowLit ([cmpI x.kind y.kind, cmpS x.text y.text, cmpI x.id y.id] : List Int) B7 rfl rfl
 refine h_next hCst1 ?_
 refine h_one (i := 16) (by kernel_rfl) ?_
 refine h_do rfl ?_
 refine r_opcall rfl rfl rfl (run_callf (vs := [.slice (some ⟨b7, 0, none⟩) _ _]) rfl (by exact rfl) Tryz.func34 rfl (by kernel_rfl)) (or_calls hrb7) ?_
 rintro e w9 ⟨rfl, rfl⟩
 refine ⟨_, rfl, ?_⟩
 refine h_next hCst1 ?_
 refine h_take (i := 17) rfl rfl rfl rfl (by kernel_rfl) (fun w' hC => run_asg (v := .int _ _) rfl rfl) hCst1 ?_
 refine h_done (by kernel_rfl) ?_
 refine r_ret (res1 (v := .int _ _) rfl rfl) ?_
 exact ⟨rfl, hV, by omega⟩
theorem sortF_calls {w : World} {base E : Nat} {v : Value} {l : List Vc.Item} (h : OwnE w base E v l) : Calls Tryz.prog 32 #[v, .func (.func 33) #[] #[]] w fun e w' => e = .returned (.tuple #[]) ∧ Evo w w' v.ownBlock.toList ∧ ∃ l', SortR (Go.Proofs.ltOf cmpF) l l' ∧ OwnE w' base E v l' :=
  sortf_of (R := SortR (Go.Proofs.ltOf cmpF)) (fun l l' h => h.1.length_eq) ⟨List.Perm.refl _, List.Pairwise.nil⟩
    (fun blk off cap d w hH hb hsz => (AnyQ.slices_SortFunc Tryz.sortFind 3 Tryz.isAgg39 Tryz.sizeOf39 Enc.enc (fun x => Enc.len x) (fun x v hv => List.all_eq_true.1 (Enc.one x) v hv) cmpF swo_F 33 #[] blk off cap d w (enters_of Tryz.func33 (by kernel_rfl) rfl)
      (fun m os dk hs x y => (show Calls Tryz.prog 33 #[.agg (Enc.enc x).toArray, .agg (Enc.enc y).toArray] _ _ from cmpf_calls.mono fun e w' ⟨h1, h2, h3⟩ => ⟨h1, growD_of h2 h3⟩)) hH hb hsz).mono fun e w' ⟨he, d', n, os, hp, hs, hw⟩ => ⟨he, d', n, os, sortR_of hp hs, hw⟩)
    (fun w => AnyF.slices_SortFunc_none { Tryz.sortFind with } none 0 (.func (.func 33) #[] #[]) w) h
set_option maxHeartbeats 2000000 in
theorem run_calls {l0 l1 l2 l3 l4 l5 l6 l7 l8 l9 l10 l11 l12 sh lo : Int} {aot : Option Addr} {bt ot capt : Nat} {ts : List TermL} {aoc : Option Addr} {bc oc capc : Nat} {cl : List Clas} {aof : Option Addr} {bf of9 capf : Nat} {f : List Vc.Item} {aog : Option Addr} {bg og capg : Nat} {gg : List Vc.Item} {w0 : World} (hts : RowR w0 aot bt ot capt ts) (hcl : RowR w0 aoc bc oc capc cl) (hf : RowE w0 aof bf of9 capf f) (hg : RowE w0 aog bg og capg gg) (htf : Tiny f) (htg : Tiny gg) (hif : ∀ x ∈ tagsL f, InR x) (hig : ∀ x ∈ tagsL gg, InR x) (hz : ts.length ≤ 40) (hjb : ∀ x ∈ ts, JudT x) (htab : Tab w0) :
    Calls Tryz.prog 14 #[.agg #[.int .i64 l0, .int .i64 l1, .int .i64 l2, .int .i64 l3, .int .i64 l4, .int .i64 l5, .int .i64 l6, .int .i64 l7, .int .i64 l8, .int .i64 l9, .int .i64 l10, .int .i64 l11, .int .i64 l12, .int .i64 sh, .int .i64 lo, .slice aot ts.length capt, .slice aoc cl.length capc], .slice aof f.length capf, .slice aog gg.length capg] w0 fun e w' => ∃ v, e = .returned v ∧ Evo w0 w' [] ∧ OwnE w' w0.heap.size 39 v (runF (⟨[l0, l1, l2, l3, l4, l5, l6, l7, l8, l9, l10, l11, l12], sh, lo, ts, cl⟩ : Chk) f gg) := by
 refine calls_enter (n := 36) Tryz.func14 rfl Tryz.ntmps14 rfl ?_
 have hV : Evo w0 w0 [] := Evo.refl _ _
 have hts0 := hts.keep
 have hbd_hts := hts.bd
 have hcl0 := hcl.keep
 have hbd_hcl := hcl.bd
 have hf0 := keepE hf
 have hbd_hf := hf.bd
 have hg0 := keepE hg
 have hbd_hg := hg.bd
 refine Zs ?_
 refine r_box (vs := [_, _, _, _, _, _, _, _, _, _, _, _, _, _, _, _, _]) rfl rfl rfl ?_
 intro b1 w2 J1 E2 B1 Y1
 have Q2 := E2.size
 replace hV := Z0 hV E2
 replace hts := hts0.now hV
 replace hcl := hcl0.now hV
 have hAb1 := B1.at
 refine Zn rfl (asS rfl) ?_
 refine r_seq ?_
 refine Zs ?_
 refine Zo rfl (run_ldN rfl ag_28 ty_28 rfl rfl hAb1) ?_
 refine r_opcall rfl rfl rfl (run_callf (vs := [.agg _]) rfl (by exact rfl) Tryz.func12 rfl (by kernel_rfl)) (kvalidate_calls hts hcl) ?_
 rintro e w3 ⟨rfl, hE3⟩
 refine ⟨_, rfl, ?_⟩
 have Q3 := hE3.size
 replace hV := Z0 hV hE3
 replace hts := hts0.now hV
 replace hcl := hcl0.now hV
 replace hf := hf0 _ hV
 replace hg := hg0 _ hV
 replace B1 := B1.evo0 hE3
 replace hAb1 := hAb1.evo0 hE3
 refine Zn rfl (run_neq rfl rfl rfl) ?_
 refine r_cond rfl (fun hc4 => ?_) (fun hc4 => ?_)
 ·skip
  refine Zs ?_
  refine Zn rfl (asS rfl) ?_
  refine r_ret (res1 (v := .slice _ _ _) rfl rfl) ?_
  rw [runF_bad hc4]
  exact ⟨_, rfl, hV, OwnE.nil _ _ _⟩
 refine r_skip ?_
 refine Zs ?_
 refine Zn rfl (asS rfl) ?_
 refine r_seq ?_
 refine r_seq ?_
 have hval : validK (⟨[l0, l1, l2, l3, l4, l5, l6, l7, l8, l9, l10, l11, l12], sh, lo, ts, cl⟩ : Chk) = 0 := Classical.not_not.1 hc4; have hnn : (0 ≤ sh ∧ sh ≤ 100) ∧ (lo = 0 ∨ (100 ≤ lo ∧ lo ≤ 10000)) := valid_nums hval; have hfl := findL_len (c := (⟨[l0, l1, l2, l3, l4, l5, l6, l7, l8, l9, l10, l11, l12], sh, lo, ts, cl⟩ : Chk)) htf htg hz (fun x hx => (hjb x hx).2.1)
 refine r_region ?_
 refine Zo rfl (run_ldN rfl ag_28 ty_28 rfl rfl hAb1) ?_
 refine Zo rfl (mvS rfl) ?_
 refine Zo rfl (mvS rfl) ?_
 refine r_opcall rfl rfl rfl (run_callf (vs := [.agg _, .slice _ _ _, .slice _ _ _]) rfl (by exact rfl) Tryz.func31 rfl (by kernel_rfl)) (all_calls hts hcl hf hg htf htg hif hig hz hjb (htab.evo0 hV) hnn) ?_
 rintro e w5 ⟨va5, qa5, rfl, hE5, hoa5, hpa5⟩
 refine ⟨_, rfl, ?_⟩
 have Q5 := hE5.size
 replace hV := Z0 hV hE5
 replace hts := hts0.now hV
 replace hcl := hcl0.now hV
 replace hf := hf0 _ hV
 replace hg := hg0 _ hV
 replace B1 := B1.evo0 hE5
 replace hAb1 := hAb1.evo0 hE5
 have hql := hpa5.length_eq
 refine Zo rfl (run_lenOE rfl rfl Tryz.underlying34 hoa5) ?_
 refine Zn rfl (mvI rfl) ?_
 refine r_block ?_
 have hI6 : Evo w5 w5 [] := Evo.refl _ _
 obtain ⟨ao7, g7, cp7, hv7, hr7, hg7⟩ := hoa5.rowOf
 subst hv7
 have hr70 := keepE hr7
 refine r_loop (α := Nat) [7, 9, 18, 19, 20, 21, 22, 23, 24, 25, 26, 27, 28, 29, 30, 31, 32] (fun k g w => ∃ vo : Value, g 18 = .int .i64 (k : Nat) ∧ g 7 = vo ∧ k ≤ qa5.length ∧ Blk w b1 28 [.int .i64 l0, .int .i64 l1, .int .i64 l2, .int .i64 l3, .int .i64 l4, .int .i64 l5, .int .i64 l6, .int .i64 l7, .int .i64 l8, .int .i64 l9, .int .i64 l10, .int .i64 l11, .int .i64 l12, .int .i64 sh, .int .i64 lo, .slice aot ts.length capt, .slice aoc cl.length capc] ∧ At w b1 0 [.int .i64 l0, .int .i64 l1, .int .i64 l2, .int .i64 l3, .int .i64 l4, .int .i64 l5, .int .i64 l6, .int .i64 l7, .int .i64 l8, .int .i64 l9, .int .i64 l10, .int .i64 l11, .int .i64 l12, .int .i64 sh, .int .i64 lo, .slice aot ts.length capt, .slice aoc cl.length capc] ∧ OwnE w w5.heap.size 39 vo ((qa5.take k).filter (levF (⟨[l0, l1, l2, l3, l4, l5, l6, l7, l8, l9, l10, l11, l12], sh, lo, ts, cl⟩ : Chk))) ∧ w5.heap.size ≤ w.heap.size ∧ Evo w0 w [] ∧ Evo w5 w []) (fun k => qa5.length - k) 0 ?_ ?_
 ·refine ⟨_, (by first | exact rfl | exact congrArg (Value.int _) (by omega) | exact congrArg (Value.int _) (by dsimp only; omega) | exact congrArg (Value.int _) (by simp) | exact congrArg S (by simp)), rfl, (by first | assumption | omega | (dsimp only; omega) | (simp; done)), B1, B1.at, (OwnE.nil _ _ _), (by first | assumption | omega | (dsimp only; omega) | (simp; done)), hV, hI6⟩
 rintro k g w9 ⟨vo, hj10, hj11, hk_k, B1, hAb1, hoo, hzl8, hV, hI6⟩
 have hs_w9hV := hV.size
 have hs_w9hI6 := hI6.size
 have hlt12 := B1.lt
 replace hg := hg0 _ hV
 replace hr7 := hr70 _ hI6
 refine Zk 18 (v := .int .i64 (k : Nat)) (by exact hj10) ?_
 refine Zk 7 (v := vo) (by exact hj11) ?_
 have hfk := List.length_filter_le (levF (⟨[l0, l1, l2, l3, l4, l5, l6, l7, l8, l9, l10, l11, l12], sh, lo, ts, cl⟩ : Chk)) (qa5.take k); have hft := List.length_take_le k qa5
 refine Zs ?_
 refine Zn rfl (run_lss rfl rfl rfl) ?_
 refine r_seq ?_
 refine r_cond rfl (fun hc13 => ?_) (fun hc13 => ?_)
 ·skip
  refine r_skip ?_
  refine r_seq ?_
  refine r_block ?_
  refine Zs ?_
  refine Zo rfl (run_ix (k) rfl Tryz.underlying34 ty_39 rfl rfl (by first | exact rfl | omega) (by omega) (hr7.addr (i := k) (by omega))) ?_
  have hA140 := fun (w' : World) (h : Evo w5 w' []) => (hr70 w' h).atD (k) (by omega)
  have hA14 := hA140 _ hI6
  refine Zo rfl (run_ldN rfl ag_39 ty_39 rfl rfl hA14) ?_
  have hob15 := fun g hg => (hoo.block (g := g) hg).2
  refine r_var (zs := [_, _, _]) (vs := [_, _, _]) ty_39 rfl rfl rfl (fun _ => rfl) rfl rfl rfl rfl ?_
  intro b16 w17 J16 E17 B16 Y16
  have Q17 := E17.size
  replace hV := Z0 hV E17
  replace hI6 := Z0 hI6 E17
  replace hts := hts0.now hV
  replace hcl := hcl0.now hV
  replace hf := hf0 _ hV
  replace hg := hg0 _ hV
  replace hr7 := hr70 _ hI6
  replace B1 := B1.evo0 E17
  replace hAb1 := hAb1.evo0 E17
  replace hoo := hoo.evo0 E17
  refine r_nil ?_
  refine r_seq ?_
  have hkb := findL_kind (hpa5.mem_iff.1 (getD_in (show k < qa5.length by omega)))
  refine r_region ?_
  refine Zo rfl (run_fa rfl rfl fo_39_0) ?_
  refine Zo rfl (run_ld1 rfl ag_3 rfl (B16.at.cell 0 rfl)) ?_
  refine Zo rfl (run_fa rfl rfl fo_28_0) ?_
  refine Zo rfl (run_ixP ((qa5.getD k default).kind.toNat) rfl Tryz.underlying24 ty_3 rfl rfl (by omega) (by omega)) ?_
  refine Zo rfl (run_ld1 rfl ag_3 rfl (cell_at (j := (qa5.getD k default).kind.toNat) hAb1 (by exact lev_at (l := ([l0, l1, l2, l3, l4, l5, l6, l7, l8, l9, l10, l11, l12] : List Int)) (rest := [.int .i64 sh, .int .i64 lo, .slice aot ts.length capt, .slice aoc cl.length capc]) (show (qa5.getD k default).kind.toNat < 13 by omega)) (by omega))) ?_
  refine Zn rfl (run_neq rfl rfl rfl) ?_
  refine r_cond rfl (fun hc18 => ?_) (fun hc18 => ?_)
  ·skip
   refine r_region ?_
   refine Zo rfl (run_mv (v := vo) rfl rfl) ?_
   refine Zo rfl (run_ldN rfl ag_39 ty_39 rfl rfl B16.at) ?_
   refine r_append1E (u := .agg _) (y := ⟨_, _, _⟩) rfl rfl Tryz.underlying34 ty_39 rfl hoo (fun _ => rfl) rfl (by first | exact rfl | (show _ = List.toArray [_, _, _]; first | (dsimp only; done) | exact rfl | (dsimp only; exact rfl))) ((by omega)) ((by omega)) (by omega) ?_
   intro q_v19 v19 w20 E20 hov19 hlv19
   have Q20 := E20.size
   replace hV := evo_stepo hV E20 (fun g hg => .inl (by first | exact (hoo.block hg).1 | (have := hoo.block hg; omega)))
   replace hI6 := evo_stepo hI6 E20 (fun g hg => .inl (by first | exact (hoo.block hg).1 | (have := hoo.block hg; omega)))
   replace hts := hts0.now hV
   replace hcl := hcl0.now hV
   replace hf := hf0 _ hV
   replace hg := hg0 _ hV
   replace hr7 := hr70 _ hI6
   replace B1 := B1.evo E20 (by intro hm; have hm2 := Option.mem_toList.1 hm; first | (have := hoo.block hm2; omega) | (simp [Value.ownBlock] at hm2; omega))
   replace hAb1 := hAb1.evo E20 (by intro hm; have hm2 := Option.mem_toList.1 hm; first | (have := hoo.block hm2; omega) | (simp [Value.ownBlock] at hm2; omega))
   refine Zn rfl (run_asg (v := v19) rfl rfl) ?_
   refine r_blk ?_
   refine r_region ?_
   refine Zo rfl (run_add rfl rfl rfl (by omega) (by omega)) ?_
   refine Zn rfl (mvI rfl) ?_
   refine r_again (k + 1) ?_ ?_ ?_
   ·first | omega | (dsimp only; omega)
   ·refine ⟨_, (by first | exact rfl | exact congrArg (Value.int _) (by omega) | exact congrArg (Value.int _) (by dsimp only; omega) | exact congrArg (Value.int _) (by simp) | exact congrArg S (by simp)), rfl, (by first | assumption | omega | (dsimp only; omega) | (simp; done)), B1, B1.at, (by first | (rw [filt_yes (by omega) (levF_yes (c := (⟨[l0, l1, l2, l3, l4, l5, l6, l7, l8, l9, l10, l11, l12], sh, lo, ts, cl⟩ : Chk)) hc18)]; exact hov19) | (rw [filt_no (by omega) (levF_no (c := (⟨[l0, l1, l2, l3, l4, l5, l6, l7, l8, l9, l10, l11, l12], sh, lo, ts, cl⟩ : Chk)) hc18)]; exact hov19)), (by first | assumption | omega | (dsimp only; omega) | (simp; done)), hV, hI6⟩
   repeat (first | (with_reducible exact Agree.merge _ _ _) | (with_reducible exact Agree.refl _ _) | (with_reducible refine Agree.upd ?_ _ _ rfl) | ((with_reducible refine Agree.inner ?_ ?_); (kernel_rfl)))
  refine r_skip ?_
  refine r_blk ?_
  refine r_region ?_
  refine Zo rfl (run_add rfl rfl rfl (by omega) (by omega)) ?_
  refine Zn rfl (mvI rfl) ?_
  refine r_again (k + 1) ?_ ?_ ?_
  ·first | omega | (dsimp only; omega)
  ·refine ⟨_, (by first | exact rfl | exact congrArg (Value.int _) (by omega) | exact congrArg (Value.int _) (by dsimp only; omega) | exact congrArg (Value.int _) (by simp) | exact congrArg S (by simp)), rfl, (by first | assumption | omega | (dsimp only; omega) | (simp; done)), B1, B1.at, (by first | (rw [filt_yes (by omega) (levF_yes (c := (⟨[l0, l1, l2, l3, l4, l5, l6, l7, l8, l9, l10, l11, l12], sh, lo, ts, cl⟩ : Chk)) hc18)]; exact hoo) | (rw [filt_no (by omega) (levF_no (c := (⟨[l0, l1, l2, l3, l4, l5, l6, l7, l8, l9, l10, l11, l12], sh, lo, ts, cl⟩ : Chk)) hc18)]; exact hoo)), (by first | assumption | omega | (dsimp only; omega) | (simp; done)), hV, hI6⟩
  repeat (first | (with_reducible exact Agree.merge _ _ _) | (with_reducible exact Agree.refl _ _) | (with_reducible refine Agree.upd ?_ _ _ rfl) | ((with_reducible refine Agree.inner ?_ ?_); (kernel_rfl)))
 refine r_exit rfl ?_
 refine Zs ?_
 refine Zo rfl (run_mv (v := vo) rfl rfl) ?_
 refine r_opcall rfl rfl rfl (run_callf (vs := [vo, .func _ _ _]) rfl (by exact rfl) Tryz.func32 rfl (by kernel_rfl)) (sortF_calls hoo) ?_
 rintro e w21 ⟨rfl, hE21, gs21, hsr21, hs21⟩
 refine ⟨_, rfl, ?_⟩
 have Q21 := hE21.size
 replace hV := evo_stepo hV hE21 (fun g hg => .inl (by first | exact (hoo.block hg).1 | (have := hoo.block hg; omega)))
 replace hI6 := evo_stepo hI6 hE21 (fun g hg => .inl (by first | exact (hoo.block hg).1 | (have := hoo.block hg; omega)))
 replace hoo := hs21
 refine r_nil ?_
 refine Zs ?_
 refine Zo rfl (run_mv (v := vo) rfl rfl) ?_
 refine Zn rfl (run_asg (v := vo) rfl rfl) ?_
 refine r_ret (res1 (v := vo) rfl rfl) ?_
 rw [runF_ok (c := (⟨[l0, l1, l2, l3, l4, l5, l6, l7, l8, l9, l10, l11, l12], sh, lo, ts, cl⟩ : Chk)) (fun q => q hval), ← sortF_of2 (p := (levF (⟨[l0, l1, l2, l3, l4, l5, l6, l7, l8, l9, l10, l11, l12], sh, lo, ts, cl⟩ : Chk))) hpa5 (by have h9 := hsr21; rw [List.take_of_length_le (by omega)] at h9; exact h9)]
 exact ⟨_, rfl, hV, hoo.base_le (by omega)⟩
theorem ref1_calls {l0 l1 l2 l3 l4 l5 l6 l7 l8 l9 l10 l11 l12 sh lo : Int} {aot : Option Addr} {capt : Nat} {ts : List TermL} {aoc : Option Addr} {capc : Nat} {cl : List Clas} {bn : Nat} {x : Vc.Item} {w0 : World} (hn : Blk w0 bn 28 [.int .i64 l0, .int .i64 l1, .int .i64 l2, .int .i64 l3, .int .i64 l4, .int .i64 l5, .int .i64 l6, .int .i64 l7, .int .i64 l8, .int .i64 l9, .int .i64 l10, .int .i64 l11, .int .i64 l12, .int .i64 sh, .int .i64 lo, .slice aot ts.length capt, .slice aoc cl.length capc]) :
    Calls Tryz.prog 50 #[(.agg (Enc.enc x).toArray), .pointer (some ⟨bn, 0, none⟩)] w0 fun e w' => e = .returned (.bool (refB (⟨[l0, l1, l2, l3, l4, l5, l6, l7, l8, l9, l10, l11, l12], sh, lo, ts, cl⟩ : Chk) x)) ∧ Evo w0 w' [] := by
 have hAn := hn.at; have hnlt := hn.lt
 refine calls_enter (n := 20) Tryz.func50 rfl Tryz.ntmps50 rfl ?_
 have hV : Evo w0 w0 [] := Evo.refl _ _
 refine Zs ?_
 refine r_box (vs := [_, _, _]) rfl rfl rfl ?_
 intro b1 w2 J1 E2 B1 Y1
 have Q2 := E2.size
 replace hV := Z0 hV E2
 replace hAn := hAn.evo0 E2
 refine Zn rfl (asB rfl) ?_
 refine Zs ?_
 refine Zo rfl (run_fa rfl rfl fo_39_0) ?_
 refine Zo rfl (run_ld1 rfl ag_3 rfl (B1.at.cell 0 rfl)) ?_
 refine Zo rfl (run_geq rfl rfl rfl) ?_
 refine Zo rfl (mvB rfl) ?_
 refine r_g rfl (wantT rfl) rfl (fun hg => run_fa rfl rfl fo_39_0) ?_
 refine r_g rfl (wantT rfl) rfl (fun hg => run_ld1 rfl ag_3 (glv rfl (fun h => h) hg) (B1.at.cell 0 rfl)) ?_
 refine r_g rfl (wantT rfl) rfl (fun hg => run_leq rfl (glv rfl (fun h => h) hg) rfl) ?_
 refine Zo rfl (run_pick_and rfl rfl (fun hq => glv rfl (fun h => h) hq) rfl) ?_
 refine Zo rfl (mvB rfl) ?_
 refine r_g rfl (wantT rfl) rfl (fun hg => run_fa rfl rfl fo_39_0) ?_
 refine r_g rfl (wantT rfl) rfl (fun hg => run_ld1 rfl ag_3 (glv rfl (fun h => h) hg) (B1.at.cell 0 rfl)) ?_
 refine r_g rfl (wantT rfl) rfl (fun hg => run_fa rfl rfl fo_28_0) ?_
 refine r_g rfl (wantT rfl) rfl (fun hg => run_ixP (x.kind.toNat) rfl Tryz.underlying24 ty_3 (glv rfl (fun h => h) hg) (glv rfl (fun h => h) hg) (by omega) (by omega)) ?_
 refine r_g rfl (wantT rfl) rfl (fun hg => run_ld1 rfl ag_3 (glv rfl (fun h => h) hg) (cell_at (j := x.kind.toNat) hAn (by exact lev_at (l := ([l0, l1, l2, l3, l4, l5, l6, l7, l8, l9, l10, l11, l12] : List Int)) (rest := [.int .i64 sh, .int .i64 lo, .slice aot ts.length capt, .slice aoc cl.length capc]) (show x.kind.toNat < 13 by omega)) (by omega))) ?_
 refine r_g rfl (wantT rfl) rfl (fun hg => run_eql rfl (glv rfl (fun h => h) hg) rfl) ?_
 refine Zo rfl (run_pick_and rfl rfl (fun hq => glv rfl (fun h => h) hq) rfl) ?_
 refine Zn rfl (asB rfl) ?_
 refine r_ret (res1 (v := .bool _) rfl rfl) ?_
 exact ⟨ret_bool rfl, hV⟩
theorem ixr_calls {l0 l1 l2 l3 l4 l5 l6 l7 l8 l9 l10 l11 l12 sh lo : Int} {aot : Option Addr} {capt : Nat} {ts : List TermL} {aoc : Option Addr} {capc : Nat} {cl : List Clas} {bn : Nat} {ao : Option Addr} {b off cap : Nat} {l : List Vc.Item} {w0 : World} (hl : RowE w0 ao b off cap l) (hn : Blk w0 bn 28 [.int .i64 l0, .int .i64 l1, .int .i64 l2, .int .i64 l3, .int .i64 l4, .int .i64 l5, .int .i64 l6, .int .i64 l7, .int .i64 l8, .int .i64 l9, .int .i64 l10, .int .i64 l11, .int .i64 l12, .int .i64 sh, .int .i64 lo, .slice aot ts.length capt, .slice aoc cl.length capc]) :
    Calls Tryz.prog 92 #[.slice ao l.length cap, .func (.func 50) #[] #[.pointer (some ⟨bn, 0, none⟩)]] w0 fun e w' => ∃ r : Int, e = .returned (.int .i64 r) ∧ Evo w0 w' [] ∧ (0 ≤ r ↔ refL (⟨[l0, l1, l2, l3, l4, l5, l6, l7, l8, l9, l10, l11, l12], sh, lo, ts, cl⟩ : Chk) l = true) := by
 have hAn := hn.at; have hnlt := hn.lt
 refine calls_enter (n := 19) Tryz.func92 rfl Tryz.ntmps92 rfl ?_
 have hV : Evo w0 w0 [] := Evo.refl _ _
 have hl0 := keepE hl
 have hbd_hl := hl.bd
 refine Zs ?_
 refine Zn rfl (asI rfl) ?_
 refine r_seq ?_
 refine Zs ?_
 refine Zo rfl (mvS rfl) ?_
 refine Zo rfl (run_lenSl rfl rfl Tryz.underlying34) ?_
 refine Zn rfl (mvI rfl) ?_
 refine r_block ?_
 refine r_loop (α := Nat) [4, 5, 8, 9, 10, 11, 12, 13, 14, 15, 16, 17, 18] (fun k g w => g 8 = .int .i64 (k : Nat) ∧ k ≤ l.length ∧ Blk w bn 28 [.int .i64 l0, .int .i64 l1, .int .i64 l2, .int .i64 l3, .int .i64 l4, .int .i64 l5, .int .i64 l6, .int .i64 l7, .int .i64 l8, .int .i64 l9, .int .i64 l10, .int .i64 l11, .int .i64 l12, .int .i64 sh, .int .i64 lo, .slice aot ts.length capt, .slice aoc cl.length capc] ∧ (∀ j, j < k → ¬ refB (⟨[l0, l1, l2, l3, l4, l5, l6, l7, l8, l9, l10, l11, l12], sh, lo, ts, cl⟩ : Chk) (l.getD j default) = true) ∧ w0.heap.size ≤ w.heap.size ∧ Evo w0 w []) (fun k => l.length - k) 0 ?_ ?_
 ·refine ⟨(by first | exact rfl | exact congrArg (Value.int _) (by omega) | exact congrArg (Value.int _) (by dsimp only; omega) | exact congrArg (Value.int _) (by simp) | exact congrArg S (by simp)), (by first | assumption | omega | (dsimp only; omega) | (simp; done)), hn, (fun j h => by omega), (by first | assumption | omega | (dsimp only; omega) | (simp; done)), hV⟩
 rintro k g w2 ⟨hj3, hk_k, hn, hno, hzl1, hV⟩
 have hs_w2hV := hV.size
 have hlt4 := hn.lt
 replace hl := hl0 _ hV
 refine Zk 8 (v := .int .i64 (k : Nat)) (by exact hj3) ?_
 refine Zs ?_
 refine Zn rfl (run_lss rfl rfl rfl) ?_
 refine r_seq ?_
 refine r_cond rfl (fun hc5 => ?_) (fun hc5 => ?_)
 ·skip
  refine r_skip ?_
  refine r_seq ?_
  refine r_block ?_
  refine Zs ?_
  refine Zo rfl (mvI rfl) ?_
  refine Zn rfl (asI rfl) ?_
  refine Zs ?_
  refine Zo rfl (run_mv (v := .func _ _ _) rfl rfl) ?_
  refine Zo rfl (mvS rfl) ?_
  refine Zo rfl (mvI rfl) ?_
  refine Zo rfl (run_ix (k) rfl Tryz.underlying34 ty_39 rfl rfl (by first | exact rfl | omega) (by omega) (hl.addr (i := k) (by omega))) ?_
  have hA60 := fun (w' : World) (h : Evo w0 w' []) => (hl0 w' h).atD (k) (by omega)
  have hA6 := hA60 _ hV
  refine Zo rfl (run_ldN rfl ag_39 ty_39 rfl rfl hA6) ?_
  refine r_opcall rfl rfl rfl (run_callfn (vs := [.agg _]) (cs := [.pointer (some ⟨bn, 0, none⟩)]) rfl (by exact rfl) rfl Tryz.func50 rfl (by kernel_rfl)) (ref1_calls hn) ?_
  rintro e w7 ⟨rfl, hE7⟩
  refine ⟨_, rfl, ?_⟩
  have Q7 := hE7.size
  replace hV := Z0 hV hE7
  replace hl := hl0 _ hV
  replace hn := hn.evo0 hE7
  refine r_nil ?_
  refine r_condb rfl (fun hc8 => ?_) (fun hc8 => ?_)
  ·skip
   refine Zs ?_
   refine Zo rfl (mvI rfl) ?_
   refine Zn rfl (asI rfl) ?_
   refine r_ret (res1 (v := .int _ _) rfl rfl) ?_
   exact ⟨_, rfl, hV, ⟨fun _ => anyI_yes (by omega) hc8, fun _ => by omega⟩⟩
  refine r_skip ?_
  refine r_blk ?_
  refine r_region ?_
  refine Zo rfl (run_add rfl rfl rfl (by omega) (by omega)) ?_
  refine Zn rfl (mvI rfl) ?_
  refine r_again (k + 1) ?_ ?_ ?_
  ·first | omega | (dsimp only; omega)
  ·refine ⟨(by first | exact rfl | exact congrArg (Value.int _) (by omega) | exact congrArg (Value.int _) (by dsimp only; omega) | exact congrArg (Value.int _) (by simp) | exact congrArg S (by simp)), (by first | assumption | omega | (dsimp only; omega) | (simp; done)), hn, (upto0 hno (by rw [hc8]; decide)), (by first | assumption | omega | (dsimp only; omega) | (simp; done)), hV⟩
  repeat (first | (with_reducible exact Agree.merge _ _ _) | (with_reducible exact Agree.refl _ _) | (with_reducible refine Agree.upd ?_ _ _ rfl) | ((with_reducible refine Agree.inner ?_ ?_); (kernel_rfl)))
 refine r_exit rfl ?_
 refine Zs ?_
 refine Zn rfl (asI rfl) ?_
 refine r_ret (res1 (v := .int _ _) rfl rfl) ?_
 exact ⟨_, rfl, hV, ⟨fun h9 => absurd h9 (by omega), fun h9 => absurd h9 (anyI_no (fun j hj => hno j (by omega)))⟩⟩
theorem ctr_calls {l0 l1 l2 l3 l4 l5 l6 l7 l8 l9 l10 l11 l12 sh lo : Int} {aot : Option Addr} {capt : Nat} {ts : List TermL} {aoc : Option Addr} {capc : Nat} {cl : List Clas} {bn : Nat} {ao : Option Addr} {b off cap : Nat} {l : List Vc.Item} {w0 : World} (hl : RowE w0 ao b off cap l) (hn : Blk w0 bn 28 [.int .i64 l0, .int .i64 l1, .int .i64 l2, .int .i64 l3, .int .i64 l4, .int .i64 l5, .int .i64 l6, .int .i64 l7, .int .i64 l8, .int .i64 l9, .int .i64 l10, .int .i64 l11, .int .i64 l12, .int .i64 sh, .int .i64 lo, .slice aot ts.length capt, .slice aoc cl.length capc]) :
    Calls Tryz.prog 49 #[.slice ao l.length cap, .func (.func 50) #[] #[.pointer (some ⟨bn, 0, none⟩)]] w0 fun e w' => e = .returned (.bool (refL (⟨[l0, l1, l2, l3, l4, l5, l6, l7, l8, l9, l10, l11, l12], sh, lo, ts, cl⟩ : Chk) l)) ∧ Evo w0 w' [] := by
 have hnlt := hn.lt
 refine calls_enter (n := 9) Tryz.func49 rfl Tryz.ntmps49 rfl ?_
 have hV : Evo w0 w0 [] := Evo.refl _ _
 have hl0 := keepE hl
 have hbd_hl := hl.bd
 refine Zs ?_
 refine Zn rfl (asB rfl) ?_
 refine Zs ?_
 refine Zo rfl (mvS rfl) ?_
 refine Zo rfl (run_mv (v := .func _ _ _) rfl rfl) ?_
 refine r_opcall rfl rfl rfl (run_callf (vs := [.slice _ _ _, .func _ _ _]) rfl (by exact rfl) Tryz.func92 rfl (by kernel_rfl)) (ixr_calls hl hn) ?_
 rintro e w1 ⟨r1, rfl, hE1, hri1⟩
 refine ⟨_, rfl, ?_⟩
 have Q1 := hE1.size
 replace hV := Z0 hV hE1
 replace hl := hl0 _ hV
 replace hn := hn.evo0 hE1
 refine Zo rfl (run_geq rfl rfl rfl) ?_
 refine Zn rfl (asB rfl) ?_
 refine r_ret (res1 (v := .bool _) rfl rfl) ?_
 exact ⟨ret_bool (by have h9 := hri1; cases h8 : refL (⟨[l0, l1, l2, l3, l4, l5, l6, l7, l8, l9, l10, l11, l12], sh, lo, ts, cl⟩ : Chk) l <;> simp_all), hV⟩
theorem refused_calls {l0 l1 l2 l3 l4 l5 l6 l7 l8 l9 l10 l11 l12 sh lo : Int} {aot : Option Addr} {bt ot capt : Nat} {ts : List TermL} {aoc : Option Addr} {bc oc capc : Nat} {cl : List Clas} {ao : Option Addr} {b off cap : Nat} {l : List Vc.Item} {w0 : World} (hl : RowE w0 ao b off cap l) (hts : RowR w0 aot bt ot capt ts) (hcl : RowR w0 aoc bc oc capc cl) :
    Calls Tryz.prog 25 #[.agg #[.int .i64 l0, .int .i64 l1, .int .i64 l2, .int .i64 l3, .int .i64 l4, .int .i64 l5, .int .i64 l6, .int .i64 l7, .int .i64 l8, .int .i64 l9, .int .i64 l10, .int .i64 l11, .int .i64 l12, .int .i64 sh, .int .i64 lo, .slice aot ts.length capt, .slice aoc cl.length capc], .slice ao l.length cap] w0 fun e w' => e = .returned (.bool (refL (⟨[l0, l1, l2, l3, l4, l5, l6, l7, l8, l9, l10, l11, l12], sh, lo, ts, cl⟩ : Chk) l)) ∧ Evo w0 w' [] := by
 refine calls_enter (n := 8) Tryz.func25 rfl Tryz.ntmps25 rfl ?_
 have hV : Evo w0 w0 [] := Evo.refl _ _
 have hl0 := keepE hl
 have hbd_hl := hl.bd
 have hts0 := hts.keep
 have hbd_hts := hts.bd
 have hcl0 := hcl.keep
 have hbd_hcl := hcl.bd
 refine Zs ?_
 refine r_box (vs := [_, _, _, _, _, _, _, _, _, _, _, _, _, _, _, _, _]) rfl rfl rfl ?_
 intro b1 w2 J1 E2 B1 Y1
 have Q2 := E2.size
 replace hV := Z0 hV E2
 replace hl := hl0 _ hV
 refine Zn rfl (asB rfl) ?_
 refine Zs ?_
 refine Zo rfl (mvS rfl) ?_
 refine Zo rfl (run_mkF (vs := [.pointer _]) rfl rfl) ?_
 refine r_opcall rfl rfl rfl (run_callf (vs := [.slice _ _ _, .func _ _ _]) rfl (by exact rfl) Tryz.func49 rfl (by kernel_rfl)) (ctr_calls hl B1) ?_
 rintro e w3 ⟨rfl, hE3⟩
 refine ⟨_, rfl, ?_⟩
 have Q3 := hE3.size
 replace hV := Z0 hV hE3
 refine Zn rfl (asB rfl) ?_
 refine r_ret (res1 (v := .bool _) rfl rfl) ?_
 exact ⟨rfl, hV⟩
end Go.Proofs.YtlfjocbnbceceaaGreatDoor
namespace Go.Proofs.YtlfjocbnbceceaaGreatDoor
open Go Go.RowKit Go.Vc
structure PairR (f g : List Vc.Item) : Prop where
  tf : Tiny f
  tg : Tiny g
  nf : ∀ x ∈ tagsL f, InR x
  ng : ∀ x ∈ tagsL g, InR x
  vf : valGo [] f = 0
structure MadeC (c : Chk) : Prop where
  len : c.lev.length = 13
  lev : ∀ x ∈ c.lev, 0 ≤ x ∧ x ≤ 2
  lev0 : c.lev.getD 0 default = 0
  sh : 0 ≤ c.short ∧ c.short ≤ 100
  lo : c.long = 0 ∨ (100 ≤ c.long ∧ c.long ≤ 10000)
  ts : ∀ x ∈ c.ts, MadeTm x
  tl : c.ts.length ≤ 3
  cl : c.cls.length ≤ 2
  vt : validT c.ts c.cls = 0
theorem MadeC.ok {c : Chk} (h : MadeC c) : ¬ chkBad c := by
  have h1 := h.sh; have h2 := h.lo; have h3 := h.lev0
  rintro (⟨x, hx, h4⟩ | h4)
  · have := h.lev x hx; omega
  · omega
theorem lev_set {l : List Int} {rest : List Value} {k : Nat} {x : Int} (hk : k < l.length) : (l.map (Value.int .i64) ++ rest).take k ++ [.int .i64 x] ++ (l.map (Value.int .i64) ++ rest).drop (k + 1) = (l.set k x).map (Value.int .i64) ++ rest := by
  rw [List.take_append_of_le_length (by simp; omega), List.drop_append_of_le_length (by simp; omega), ← List.append_assoc]
  congr 1
  rw [← List.map_take, ← List.map_drop, List.set_eq_take_append_cons_drop, if_pos hk, List.map_append, List.map_cons, List.append_assoc]; rfl
theorem lev_fit {l : List Int} {rest : List Value} {k n : Nat} (hn : n = 1) (hk : k < l.length) : Nat.ble (k + n) (l.map (Value.int .i64) ++ rest).length = true := by
  rw [Nat.ble_eq, List.length_append, List.length_map]; omega
theorem list13 {l : List Int} (h : l.length = 13) : ∃ a0 a1 a2 a3 a4 a5 a6 a7 a8 a9 a10 a11 a12, l = [a0, a1, a2, a3, a4, a5, a6, a7, a8, a9, a10, a11, a12] := by
  match l, h with
  | [a0, a1, a2, a3, a4, a5, a6, a7, a8, a9, a10, a11, a12], _ => exact ⟨_, _, _, _, _, _, _, _, _, _, _, _, _, rfl⟩
def LevR (l : List Int) : Prop := l.length = 13 ∧ (∀ x ∈ l, 0 ≤ x ∧ x ≤ 2) ∧ l.getD 0 default = 0
theorem LevR.set {l : List Int} {k : Nat} {x : Int} (h : LevR l) (hk : 1 ≤ k) (hx : 0 ≤ x ∧ x ≤ 2) : LevR (l.set k x) := by
  refine ⟨by rw [List.length_set]; exact h.1, fun y hy => ?_, ?_⟩
  · rcases List.mem_or_eq_of_mem_set hy with q | q
    · exact h.2.1 y q
    · rw [q]; exact hx
  · rw [List.getD_eq_getElem?_getD, List.getElem?_set_ne (by omega), ← List.getD_eq_getElem?_getD]; exact h.2.2
theorem pl_28 : placesP Tryz.prog 28 = some [(0, 13), (13, 1), (14, 1), (15, 1), (16, 1)] := by kernel_rfl
theorem dif_self {α : Type} [DecidableEq α] (s : List α) (x : α) : dif s s x = 0 := by unfold dif; omega
def dLim : Chk := ⟨[0, 0, 0, 0, 0, 0, 0, 0, 0, 0, 0, 0, 1], 50, 200, [], []⟩
theorem dLim_ok : validK dLim = 0 := by decide +kernel
theorem lev_lim {z : Vc.Item} (hk : 1 ≤ z.kind ∧ z.kind ≤ 12) : (levF dLim z = true) ↔ z.kind = 12 := by
  unfold levF
  have : z.kind = 1 ∨ z.kind = 2 ∨ z.kind = 3 ∨ z.kind = 4 ∨ z.kind = 5 ∨ z.kind = 6 ∨ z.kind = 7 ∨ z.kind = 8 ∨ z.kind = 9 ∨ z.kind = 10 ∨ z.kind = 11 ∨ z.kind = 12 := by omega
  rcases this with h | h | h | h | h | h | h | h | h | h | h | h <;> rw [h] <;> decide
theorem filt_out {l : List Vc.Item} (h : ∀ z ∈ l, 1 ≤ z.kind ∧ z.kind ≤ 11) : l.filter (levF dLim) = [] :=
  List.filter_eq_nil_iff.2 (fun z hz q => by have h1 := h z hz; have := (lev_lim ⟨h1.1, by omega⟩).1 q; omega)
theorem filt_in {l : List Vc.Item} (h : ∀ z ∈ l, z.kind = 12) : l.filter (levF dLim) = l :=
  List.filter_eq_self.2 (fun z hz => (lev_lim (by rw [h z hz]; decide)).2 (h z hz))
theorem find_lim (f g : List Vc.Item) : (findA dLim f g).filter (levF dLim) = longF dLim (plainL f) (plainL g) ++ shortF dLim (plainL f) (plainL g) := by
  unfold findA plainF
  simp only [List.filter_append]
  rw [filt_out (l := sameF f g) (fun z hz => by have := if_kind (k := 2) rfl hz; omega),
    filt_out (l := slotF f g) (fun z hz => by have := difs_kind (k := 3) (fun _ _ => rfl) hz; omega),
    filt_out (l := tagF f g) (fun z hz => by have := difs_kind (k := 4) (fun _ _ => rfl) hz; omega),
    filt_out (l := shapeF f g) (fun z hz => by have := if_kind (k := 5) rfl hz; omega),
    filt_out (l := numF f g) (fun z hz => by have := difs_kind (k := 6) (fun _ _ => rfl) hz; omega),
    filt_out (l := edgeA _ _) (fun z hz => by have := if_kind (k := 7) rfl hz; omega),
    filt_out (l := edgeB _ _) (fun z hz => by have := if_kind (k := 7) rfl hz; omega),
    filt_out (l := dblF _) (fun z hz => by have := if_kind (k := 8) rfl hz; omega),
    filt_out (l := signF _ _) (fun z hz => by have := if_kind (k := 9) rfl hz; omega),
    filt_out (l := termF _ _ _) (fun z hz => by have := termF_kind hz; omega),
    filt_in (l := longF _ _ _) (fun z hz => if_kind (k := 12) rfl hz), filt_in (l := shortF _ _ _) (fun z hz => if_kind (k := 12) rfl hz)]
  simp
theorem plain_one (s : Str) : plainL [⟨1, s, 0⟩] = s := by unfold plainL plainI; simp
theorem lim_run {s t : Str} (hs : s.length = 10) : runF dLim [⟨1, s, 0⟩] [⟨1, t, 0⟩] = if 20 < t.length then [⟨12, longW, 0⟩] else if t.length < 5 then [⟨12, shortW, 0⟩] else [] := by
  unfold runF
  rw [if_pos dLim_ok, sortF_filter]
  have e : findL dLim [⟨1, s, 0⟩] [⟨1, t, 0⟩] = findA dLim [⟨1, s, 0⟩] [⟨1, t, 0⟩] := if_neg (fun q => by have := q.1; simp at this)
  rw [e, find_lim, plain_one, plain_one]
  unfold longF shortF
  rw [hs]
  by_cases h1 : 20 < t.length
  · rw [if_pos h1, if_pos ⟨by decide, show (200 : Int) * (10 : Nat) < 100 * (t.length : Nat) by omega⟩, if_neg (fun q => by have : 100 * (t.length : Nat) < (50 : Int) * (10 : Nat) := q.2; omega)]; rfl
  · rw [if_neg h1, if_neg (fun q => by have : (200 : Int) * (10 : Nat) < 100 * (t.length : Nat) := q.2; omega)]
    by_cases h2 : t.length < 5
    · rw [if_pos h2, if_pos ⟨by decide, show 100 * (t.length : Nat) < (50 : Int) * (10 : Nat) by omega⟩]; rfl
    · rw [if_neg h2, if_neg (fun q => by have : 100 * (t.length : Nat) < (50 : Int) * (10 : Nat) := q.2; omega)]; rfl
theorem lim_nil (s : Str) : runF dLim [⟨1, s, 0⟩] [] = [] := by
  unfold runF
  rw [if_pos dLim_ok, sortF_filter]
  have e : findL dLim [⟨1, s, 0⟩] [] = [⟨1, [], 0⟩] := if_pos ⟨rfl, by simp⟩
  rw [e, filt_out (fun z hz => by rw [List.mem_singleton] at hz; subst hz; exact ⟨by decide, by decide⟩)]; rfl
def kC : Chk := ⟨[0, 1, 1, 1, 1, 1, 2, 1, 1, 1, 1, 1, 1], 0, 0, [], []⟩
def kA : List Vc.Item := [⟨1, [97, 32, 49], 0⟩]
def kB : List Vc.Item := [⟨1, [98, 32, 50], 0⟩]
def kO : List Vc.Item := [⟨6, [49], -1⟩, ⟨6, [50], 1⟩]
theorem kC_ok : validK kC = 0 := by decide +kernel
theorem k_slot : slotF kA kB = [] := by
  have h : slotsL kA = [] ∧ slotsL kB = [] := by decide
  unfold slotF; rw [h.1, h.2]
  exact difs_nil (dif_self _)
theorem k_run : runF kC kA kB = kO := by
  unfold runF
  rw [if_pos kC_ok]
  have e : findL kC kA kB = findA kC kA kB := if_neg (by decide)
  have e2 : findA kC kA kB = kO := by
    unfold findA; rw [k_slot]
    decide +kernel
  rw [e, e2]
  decide +kernel
theorem k_ref : refL kC kO = true := by decide +kernel
theorem k_emp : runF kC [⟨1, [97], 0⟩] [] = [⟨1, [], 0⟩] := by
  unfold runF
  rw [if_pos kC_ok]
  have e : findL kC [⟨1, [97], 0⟩] [] = [⟨1, [], 0⟩] := if_pos ⟨rfl, by simp⟩
  rw [e]; decide +kernel
theorem k_tiny : Tiny kA ∧ Tiny kB ∧ Tiny [⟨1, [97], 0⟩] ∧ Tiny ([] : List Vc.Item) := by unfold Tiny; decide
theorem k_notag : (∀ x ∈ tagsL kA, InR x) ∧ (∀ x ∈ tagsL kB, InR x) ∧ ∀ x ∈ tagsL [⟨1, [97], 0⟩], InR x := by
  have h : tagsL kA = [] ∧ tagsL kB = [] ∧ tagsL [⟨1, [97], 0⟩] = [] := by decide
  rw [h.1, h.2.1, h.2.2]
  exact ⟨fun x hx => absurd hx List.not_mem_nil, fun x hx => absurd hx List.not_mem_nil, fun x hx => absurd hx List.not_mem_nil⟩
theorem own_cast {α : Type} [Enc α] {w : World} {base : Nat} {E : TypeId} {v : Value} {l l2 : List α} (h : OwnE w base E v l) (e : l = l2) : OwnE w base E v l2 := e ▸ h
def kLev (k : Nat) : List Int := (0 :: List.replicate (k - 1) 1) ++ List.replicate (13 - k) 0
theorem kLev_len {k : Nat} (h : 1 ≤ k) (h2 : k ≤ 13) : (kLev k).length = 13 := by unfold kLev; simp; omega
theorem kLev_set {k : Nat} (h : 1 ≤ k) (h2 : k < 13) : (kLev k).set k 1 = kLev (k + 1) := by
  have : ∀ k, k < 13 → 1 ≤ k → (kLev k).set k 1 = kLev (k + 1) := by decide
  exact this k h2 h
theorem known1_calls {s : Str} {w0 : World}  :
    Calls Tryz.prog 37 #[S s] w0 fun e w' => ∃ ao b off cap, e = .returned (.slice ao ([⟨1, s, 0⟩] : List Vc.Item).length cap) ∧ Evo w0 w' [] ∧ RowE w' ao b off cap ([⟨1, s, 0⟩] : List Vc.Item) := by
 refine calls_enter (n := 6) Tryz.func37 rfl Tryz.ntmps37 rfl ?_
 have hV : Evo w0 w0 [] := Evo.refl _ _
 refine Zs ?_
 refine Zn rfl (asS rfl) ?_
 refine Zs ?_
 refine Zo rfl (mvT rfl) ?_
 refine Zo rfl (run_bld (pv := [(0, .int _ _), (1, S _)]) (zs := [_, _, _]) (cells := [_, _, _]) rfl ty_32 rfl pl_32 rfl rfl) ?_
 refine r_bslice (pv := [(0, .agg _)]) (zs := [_, _, _]) (cs := [_, _, _]) Tryz.underlying33 ty_32 rfl rfl rfl rfl rfl ?_
 intro b1 w2 J1 E2 B1 Y1
 have Q2 := E2.size
 replace hV := Z0 hV E2
 have hrb1 : RowE w2 (some ⟨b1, 0, none⟩) b1 0 1 ([⟨1, s, 0⟩] : List Vc.Item) := rowLit ([⟨1, s, 0⟩] : List Vc.Item) B1 rfl rfl
 refine Zn rfl (run_asg (v := .slice (some ⟨b1, 0, none⟩) _ _) rfl rfl) ?_
 refine r_ret (res1 (v := .slice (some ⟨b1, 0, none⟩) _ _) rfl rfl) ?_
 exact ⟨_, _, _, _, rfl, hV, hrb1⟩
set_option maxHeartbeats 4000000 in
theorem kknown_calls  {w0 : World} (htab : Tab w0) :
    Calls Tryz.prog 15 #[] w0 fun e w' => e = .returned (.bool true) ∧ Evo w0 w' [] := by
 refine calls_enter (n := 40) Tryz.func15 rfl Tryz.ntmps15 rfl ?_
 have hV : Evo w0 w0 [] := Evo.refl _ _
 refine Zs ?_
 refine Zn rfl (asB rfl) ?_
 refine Zs ?_
 refine Zo rfl (run_bld (pv := []) (zs := [_, _, _, _, _, _, _, _, _, _, _, _, _, _, _, _, _]) (cells := [_, _, _, _, _, _, _, _, _, _, _, _, _, _, _, _, _]) rfl ty_28 rfl pl_28 rfl rfl) ?_
 refine r_var (zs := [_, _, _, _, _, _, _, _, _, _, _, _, _, _, _, _, _]) (vs := [_, _, _, _, _, _, _, _, _, _, _, _, _, _, _, _, _]) ty_28 rfl rfl rfl (fun _ => rfl) rfl rfl rfl rfl ?_
 intro b1 w2 J1 E2 B1 Y1
 have Q2 := E2.size
 replace hV := Z0 hV E2
 have hAb1 := B1.at
 refine r_nil ?_
 refine r_seq ?_
 refine Zs ?_
 refine Zn rfl (asI rfl) ?_
 refine r_block ?_
 refine r_loop (α := Nat) [2, 6, 7, 8, 9, 10, 11, 12] (fun k g w => g 2 = .int .i64 (k : Nat) ∧ Blk w b1 28 ((kLev k).map (Value.int .i64) ++ [.int .i64 0, .int .i64 0, .slice none 0 0, .slice none 0 0]) ∧ At w b1 0 ((kLev k).map (Value.int .i64) ++ [.int .i64 0, .int .i64 0, .slice none 0 0, .slice none 0 0]) ∧ (1 ≤ k ∧ k ≤ 13) ∧ w2.heap.size ≤ w.heap.size ∧ Evo w0 w []) (fun k => 13 - k) 1 ?_ ?_
 ·refine ⟨rfl, B1, B1.at, (by first | assumption | omega | (dsimp only; omega) | (simp; done)), (by first | assumption | omega | (dsimp only; omega) | (simp; done)), hV⟩
 rintro k g w4 ⟨hj5, B1, hAb1, hk, hzl3, hV⟩
 have hs_w4hV := hV.size
 have hlt6 := B1.lt
 refine Zk 2 (v := .int .i64 (k : Nat)) (by exact hj5) ?_
 have hl13 := kLev_len hk.1 hk.2
 refine r_seq ?_
 refine Zs ?_
 refine Zo rfl (mvI rfl) ?_
 refine Zn rfl (run_lss rfl rfl rfl) ?_
 refine r_cond rfl (fun hc7 => ?_) (fun hc7 => ?_)
 ·skip
  refine r_skip ?_
  refine r_seq ?_
  refine r_block ?_
  refine r_region ?_
  refine Zo rfl (mvI rfl) ?_
  refine Zo rfl (run_fa rfl rfl fo_28_0) ?_
  refine Zo rfl (run_ixP (k) rfl Tryz.underlying24 ty_3 rfl rfl (by omega) (by omega)) ?_
  refine r_store (v := .int .i64 1) (vs := [.int .i64 1]) (cs' := (((kLev k).set k (1)).map (Value.int .i64) ++ [.int .i64 0, .int .i64 0, .slice none 0 0, .slice none 0 0])) rfl rfl B1 ty_3 rfl rfl rfl (by simp only [Nat.zero_add, Nat.mul_one]; exact lev_fit rfl (by omega)) (by simp only [Nat.zero_add, Nat.mul_one]; exact lev_set (by omega)) ?_
  intro w8 E8 V8 hb_new
  have Q8 := E8.size
  replace hV := Z1 hV E8 (by first | exact .inl (by omega) | exact .inr (by simp))
  replace B1 := hb_new
  have hAb1 := B1.at
  clear hb_new
  have hlz : ((kLev k).set k (1)).length = (kLev k).length := List.length_set
  refine r_nil ?_
  refine r_blk ?_
  refine r_region ?_
  refine Zo rfl (mvI rfl) ?_
  refine Zo rfl (run_add rfl rfl rfl (by omega) (by omega)) ?_
  refine Zn rfl (asI rfl) ?_
  refine r_again (k + 1) ?_ ?_ ?_
  ·first | omega | (dsimp only; omega)
  ·refine ⟨(congrArg (Value.int _) (by omega)), (by have h9 := B1; rw [kLev_set hk.1 (by omega)] at h9; exact h9), (by have h9 := B1.at; rw [kLev_set hk.1 (by omega)] at h9; exact h9), (by first | assumption | omega | (dsimp only; omega) | (simp; done)), (by first | assumption | omega | (dsimp only; omega) | (simp; done)), hV⟩
  repeat (first | (with_reducible exact Agree.merge _ _ _) | (with_reducible exact Agree.refl _ _) | (with_reducible refine Agree.upd ?_ _ _ rfl) | ((with_reducible refine Agree.inner ?_ ?_); (kernel_rfl)))
 refine r_exit rfl ?_
 refine r_seq ?_
 obtain rfl : k = 13 := by omega
 replace B1 : Blk _ _ _ [.int .i64 0, .int .i64 1, .int .i64 1, .int .i64 1, .int .i64 1, .int .i64 1, .int .i64 1, .int .i64 1, .int .i64 1, .int .i64 1, .int .i64 1, .int .i64 1, .int .i64 1, .int .i64 0, .int .i64 0, .slice none 0 0, .slice none 0 0] := B1; have hAb1 := B1.at
 refine r_region ?_
 refine Zo rfl (run_fa rfl rfl fo_28_0) ?_
 refine Zo rfl (run_ixP (6) rfl Tryz.underlying24 ty_3 rfl rfl rfl (by omega)) ?_
 refine r_store (v := .int _ _) (vs := [_]) (cs' := [_, _, _, _, _, _, _, _, _, _, _, _, _, _, _, _, _]) rfl rfl B1 ty_3 rfl rfl rfl rfl rfl ?_
 intro w9 E9 V9 hb_new
 have Q9 := E9.size
 replace hV := Z1 hV E9 (by first | exact .inl (by omega) | exact .inr (by simp))
 replace B1 := hb_new
 have hAb1 := B1.at
 clear hb_new
 refine r_nil ?_
 refine Zs ?_
 refine Zn rfl (run_asg (v := .func _ _ _) rfl rfl) ?_
 refine r_seq ?_
 have hbb1_q := B1
 have hAb1_q := hAb1
 have hV_q := hV
 refine h_region ([]) (by kernel_rfl) ?_
 intro w10 hE11 hCst8
 have Q10 := hE11.size
 replace hV := Z0 hV hE11
 replace B1 := B1.evo0 hE11
 replace hAb1 := hAb1.evo0 hE11
 refine h_take (i := 0) rfl rfl rfl rfl (by kernel_rfl) (fun w' hC => run_ldN rfl ag_28 ty_28 rfl rfl (hAb1_q.evo0 hC)) hCst8 ?_
 refine h_take (i := 1) rfl rfl rfl rfl (by kernel_rfl) (fun w' hC => run_mv (v := .func _ _ _) rfl rfl) hCst8 ?_
 refine h_take (i := 3) rfl rfl rfl rfl (by kernel_rfl) (fun w' hC => run_mv (v := .func _ _ _) rfl rfl) hCst8 ?_
 refine h_one (i := 2) (by kernel_rfl) ?_
 refine h_do rfl ?_
 refine r_opcall rfl rfl rfl (run_callfn (vs := [S _]) (cs := []) rfl (by exact rfl) rfl Tryz.func37 rfl (by kernel_rfl)) known1_calls ?_
 rintro e w12 ⟨aoK12, bK12, ofK12, cpK12, rfl, hE12, hrK12⟩
 refine ⟨_, rfl, ?_⟩
 have Q12 := hE12.size
 replace hV := Z0 hV hE12
 replace hCst8 := Z0 hCst8 hE12
 replace B1 := B1.evo0 hE12
 replace hAb1 := hAb1.evo0 hE12
 refine h_next hCst8 ?_
 refine h_one (i := 4) (by kernel_rfl) ?_
 refine h_do rfl ?_
 refine r_opcall rfl rfl rfl (run_callfn (vs := [S _]) (cs := []) rfl (by exact rfl) rfl Tryz.func37 rfl (by kernel_rfl)) known1_calls ?_
 rintro e w13 ⟨aoK13, bK13, ofK13, cpK13, rfl, hE13, hrK13⟩
 refine ⟨_, rfl, ?_⟩
 have Q13 := hE13.size
 replace hV := Z0 hV hE13
 replace hCst8 := Z0 hCst8 hE13
 replace B1 := B1.evo0 hE13
 replace hAb1 := hAb1.evo0 hE13
 replace hrK12 := hrK12.evo0 hE13
 refine h_next hCst8 ?_
 refine h_one (i := 5) (by kernel_rfl) ?_
 refine h_do rfl ?_
 refine r_opcall rfl rfl rfl (run_callf (vs := [.agg _, .slice _ _ _, .slice _ _ _]) rfl (by exact rfl) Tryz.func14 rfl (by kernel_rfl)) (run_calls (RowR.nil _ _ 0 0 _) (RowR.nil _ _ 0 0 _) hrK12 hrK13 k_tiny.1 k_tiny.2.1 k_notag.1 k_notag.2.1 (Nat.zero_le _) (fun x hx => absurd hx List.not_mem_nil) (htab.evo0 hV)) ?_
 rintro e w14 ⟨vo14, rfl, hE14, hoo14⟩
 refine ⟨_, rfl, ?_⟩
 have Q14 := hE14.size
 replace hV := Z0 hV hE14
 replace hCst8 := Z0 hCst8 hE14
 replace B1 := B1.evo0 hE14
 replace hAb1 := hAb1.evo0 hE14
 replace hoo14 := own_cast hoo14 k_run
 refine h_next hCst8 ?_
 refine h_take (i := 6) rfl rfl rfl rfl (by kernel_rfl) (fun w' hC => run_asg (v := vo14) rfl rfl) hCst8 ?_
 refine h_done (by kernel_rfl) ?_
 refine r_seq ?_
 have hbb1_q := B1
 have hAb1_q := hAb1
 have hV_q := hV
 refine h_region ([]) (by kernel_rfl) ?_
 intro w15 hE16 hCst9
 have Q15 := hE16.size
 replace hV := Z0 hV hE16
 replace hoo14 := hoo14.evo0 hE16
 refine h_take (i := 0) rfl rfl rfl rfl (by kernel_rfl) (fun w' hC => run_mv (v := vo14) rfl rfl) hCst9 ?_
 refine h_take (i := 1) rfl rfl rfl rfl (by kernel_rfl) (fun w' hC => run_bld (pv := [(0, .int _ _), (1, S _), (2, .int _ _)]) (zs := [_, _, _]) (cells := [_, _, _]) rfl ty_39 rfl pl_39 rfl rfl) hCst9 ?_
 refine h_take (i := 2) rfl rfl rfl rfl (by kernel_rfl) (fun w' hC => run_bld (pv := [(0, .int _ _), (1, S _), (2, .int _ _)]) (zs := [_, _, _]) (cells := [_, _, _]) rfl ty_39 rfl pl_39 rfl rfl) hCst9 ?_
 refine h_one (i := 3) (by kernel_rfl) ?_
 refine h_do rfl ?_
 refine r_bslice (pv := [(0, .agg _), (1, .agg _)]) (zs := [_, _, _]) (cs := [_, _, _, _, _, _]) Tryz.underlying34 ty_39 rfl rfl rfl rfl rfl ?_
 intro b17 w18 J17 E18 B17 Y17
 have Q18 := E18.size
 replace hV := Z0 hV E18
 replace hCst9 := Z0 hCst9 E18
 replace hoo14 := hoo14.evo0 E18
 have hrb17 : RowE w18 (some ⟨b17, 0, none⟩) b17 0 2 kO := rowLit kO B17 rfl rfl
 refine h_next hCst9 ?_
 refine h_one (i := 4) (by kernel_rfl) ?_
 refine h_do rfl ?_
 obtain ⟨ao19, g19, cp19, hv19, hr19, hg19⟩ := hoo14.rowOf
 subst hv19
 refine r_opcall rfl rfl rfl (run_callf (vs := [.slice _ _ _, .slice (some ⟨b17, 0, none⟩) _ _]) rfl (by exact rfl) Tryz.func16 rfl (by kernel_rfl)) (ksame_calls hr19 hrb17) ?_
 rintro e w20 ⟨rfl, hE20⟩
 refine ⟨_, rfl, ?_⟩
 have Q20 := hE20.size
 replace hV := Z0 hV hE20
 replace hCst9 := Z0 hCst9 hE20
 replace hr19 := hr19.evo0 hE20
 refine h_next hCst9 ?_
 refine h_take (i := 5) rfl rfl rfl rfl (by kernel_rfl) (fun w' hC => run_mvb rfl rfl) hCst9 ?_
 refine h_takeY (i := 6) rfl rfl rfl (wantT rfl) rfl rfl rfl (by kernel_rfl) (fun w' hC => run_ldN rfl ag_28 ty_28 rfl rfl (hAb1_q.evo0 hC)) hCst9 ?_
 refine h_takeY (i := 7) rfl rfl rfl (wantT rfl) rfl rfl rfl (by kernel_rfl) (fun w' hC => run_mv (v := .slice _ _ _) rfl rfl) hCst9 ?_
 refine h_one (i := 8) (by kernel_rfl) ?_
 refine h_do rfl ?_
 refine r_gyes rfl (wantT rfl) rfl ?_
 refine r_opcall rfl rfl rfl (run_callf (vs := [.agg _, .slice _ _ _]) rfl (by exact rfl) Tryz.func25 rfl (by kernel_rfl)) (refused_calls hr19 (RowR.nil _ _ 0 0 _) (RowR.nil _ _ 0 0 _)) ?_
 rintro e w21 ⟨rfl, hE21⟩
 refine ⟨_, rfl, ?_⟩
 have Q21 := hE21.size
 replace hV := Z0 hV hE21
 replace hCst9 := Z0 hCst9 hE21
 refine h_next hCst9 ?_
 refine h_take (i := 9) rfl rfl rfl rfl (by kernel_rfl) (fun w' hC => run_pick_andB rfl rfl (fun _ => rfl) rfl) hCst9 ?_
 refine h_take (i := 10) rfl rfl rfl rfl (by kernel_rfl) (fun w' hC => run_mv (v := .bool _) rfl rfl) hCst9 ?_
 refine h_takeY (i := 11) rfl rfl rfl (wantT rfl) (by exact ⟨rfl, k_ref⟩) rfl rfl (by kernel_rfl) (fun w' hC => run_ldN rfl ag_28 ty_28 rfl rfl (hAb1_q.evo0 hC)) hCst9 ?_
 refine h_takeY (i := 12) rfl rfl rfl (wantT rfl) (by exact ⟨rfl, k_ref⟩) rfl rfl (by kernel_rfl) (fun w' hC => run_mv (v := .func _ _ _) rfl rfl) hCst9 ?_
 refine h_takeY (i := 15) rfl rfl rfl (wantT rfl) (by exact ⟨rfl, k_ref⟩) rfl rfl (by kernel_rfl) (fun w' hC => run_bld (pv := [(0, .int _ _)]) (zs := [_, _, _]) (cells := [_, _, _]) rfl ty_39 rfl pl_39 rfl rfl) hCst9 ?_
 refine h_two (i := 13) (j := 16) (by kernel_rfl) ?_ ?_
 ·skip
  refine h_do rfl ?_
  refine r_gyes rfl (wantT rfl) (by exact ⟨rfl, k_ref⟩) ?_
  refine r_opcall rfl rfl rfl (run_callfn (vs := [S _]) (cs := []) rfl (by exact rfl) rfl Tryz.func37 rfl (by kernel_rfl)) known1_calls ?_
  rintro e w22 ⟨aoK22, bK22, ofK22, cpK22, rfl, hE22, hrK22⟩
  refine ⟨_, rfl, ?_⟩
  have Q22 := hE22.size
  replace hV := Z0 hV hE22
  replace hCst9 := Z0 hCst9 hE22
  refine h_next hCst9 ?_
  refine h_two (i := 14) (j := 16) (by kernel_rfl) ?_ ?_
  ·skip
   refine h_do rfl ?_
   refine r_gyes rfl (wantT rfl) (by exact ⟨rfl, k_ref⟩) ?_
   refine r_opcall rfl rfl rfl (run_callf (vs := [.agg _, .slice _ _ _, .slice _ _ _]) rfl (by exact rfl) Tryz.func14 rfl (by kernel_rfl)) (run_calls (RowR.nil _ _ 0 0 _) (RowR.nil _ _ 0 0 _) hrK22 (RowE.nil _ none 0 0 0) k_tiny.2.2.1 k_tiny.2.2.2 k_notag.2.2 (fun x hx => absurd hx List.not_mem_nil) (Nat.zero_le _) (fun x hx => absurd hx List.not_mem_nil) (htab.evo0 hV)) ?_
   rintro e w23 ⟨vo23, rfl, hE23, hoo23⟩
   refine ⟨_, rfl, ?_⟩
   have Q23 := hE23.size
   replace hV := Z0 hV hE23
   replace hCst9 := Z0 hCst9 hE23
   replace hoo23 := own_cast hoo23 k_emp
   refine h_next hCst9 ?_
   refine h_one (i := 16) (by kernel_rfl) ?_
   refine h_do rfl ?_
   refine r_gyes rfl (wantT rfl) (by exact ⟨rfl, k_ref⟩) ?_
   refine r_bslice (pv := [(0, .agg _)]) (zs := [_, _, _]) (cs := [_, _, _]) Tryz.underlying34 ty_39 rfl rfl rfl rfl rfl ?_
   intro b24 w25 J24 E25 B24 Y24
   have Q25 := E25.size
   replace hV := Z0 hV E25
   replace hCst9 := Z0 hCst9 E25
   replace hoo23 := hoo23.evo0 E25
   have hrb24 : RowE w25 (some ⟨b24, 0, none⟩) b24 0 1 ([⟨1, [], 0⟩] : List Vc.Item) := rowLit ([⟨1, [], 0⟩] : List Vc.Item) B24 rfl rfl
   refine h_next hCst9 ?_
   refine h_one (i := 17) (by kernel_rfl) ?_
   refine h_do rfl ?_
   refine r_gyes rfl (wantT rfl) (by exact ⟨rfl, k_ref⟩) ?_
   obtain ⟨ao26, g26, cp26, hv26, hr26, hg26⟩ := hoo23.rowOf
   subst hv26
   refine r_opcall rfl rfl rfl (run_callf (vs := [.slice _ _ _, .slice (some ⟨b24, 0, none⟩) _ _]) rfl (by exact rfl) Tryz.func16 rfl (by kernel_rfl)) (ksame_calls hr26 hrb24) ?_
   rintro e w27 ⟨rfl, hE27⟩
   refine ⟨_, rfl, ?_⟩
   have Q27 := hE27.size
   replace hV := Z0 hV hE27
   replace hCst9 := Z0 hCst9 hE27
   refine h_next hCst9 ?_
   refine h_take (i := 18) rfl rfl rfl rfl (by kernel_rfl) (fun w' hC => run_pick_andB rfl rfl (fun _ => rfl) rfl) hCst9 ?_
   refine h_take (i := 19) rfl rfl rfl rfl (by kernel_rfl) (fun w' hC => run_asg (v := .bool _) rfl rfl) hCst9 ?_
   refine h_done (by kernel_rfl) ?_
   refine r_ret (res1 (v := .bool _) rfl rfl) ?_
   exact ⟨ret_bool (decide_eq_true ⟨⟨rfl, k_ref⟩, rfl⟩), hV⟩
  refine h_do rfl ?_
  refine r_gyes rfl (wantT rfl) (by exact ⟨rfl, k_ref⟩) ?_
  refine r_bslice (pv := [(0, .agg _)]) (zs := [_, _, _]) (cs := [_, _, _]) Tryz.underlying34 ty_39 rfl rfl rfl rfl rfl ?_
  intro b28 w29 J28 E29 B28 Y28
  have Q29 := E29.size
  replace hV := Z0 hV E29
  replace hCst9 := Z0 hCst9 E29
  replace hrK22 := hrK22.evo0 E29
  have hrb28 : RowE w29 (some ⟨b28, 0, none⟩) b28 0 1 ([⟨1, [], 0⟩] : List Vc.Item) := rowLit ([⟨1, [], 0⟩] : List Vc.Item) B28 rfl rfl
  refine h_next hCst9 ?_
  refine h_one (i := 14) (by kernel_rfl) ?_
  refine h_do rfl ?_
  refine r_gyes rfl (wantT rfl) (by exact ⟨rfl, k_ref⟩) ?_
  refine r_opcall rfl rfl rfl (run_callf (vs := [.agg _, .slice _ _ _, .slice _ _ _]) rfl (by exact rfl) Tryz.func14 rfl (by kernel_rfl)) (run_calls (RowR.nil _ _ 0 0 _) (RowR.nil _ _ 0 0 _) hrK22 (RowE.nil _ none 0 0 0) k_tiny.2.2.1 k_tiny.2.2.2 k_notag.2.2 (fun x hx => absurd hx List.not_mem_nil) (Nat.zero_le _) (fun x hx => absurd hx List.not_mem_nil) (htab.evo0 hV)) ?_
  rintro e w30 ⟨vo30, rfl, hE30, hoo30⟩
  refine ⟨_, rfl, ?_⟩
  have Q30 := hE30.size
  replace hV := Z0 hV hE30
  replace hCst9 := Z0 hCst9 hE30
  replace hrb28 := hrb28.evo0 hE30
  replace hoo30 := own_cast hoo30 k_emp
  refine h_next hCst9 ?_
  refine h_one (i := 17) (by kernel_rfl) ?_
  refine h_do rfl ?_
  refine r_gyes rfl (wantT rfl) (by exact ⟨rfl, k_ref⟩) ?_
  obtain ⟨ao31, g31, cp31, hv31, hr31, hg31⟩ := hoo30.rowOf
  subst hv31
  refine r_opcall rfl rfl rfl (run_callf (vs := [.slice _ _ _, .slice (some ⟨b28, 0, none⟩) _ _]) rfl (by exact rfl) Tryz.func16 rfl (by kernel_rfl)) (ksame_calls hr31 hrb28) ?_
  rintro e w32 ⟨rfl, hE32⟩
  refine ⟨_, rfl, ?_⟩
  have Q32 := hE32.size
  replace hV := Z0 hV hE32
  replace hCst9 := Z0 hCst9 hE32
  refine h_next hCst9 ?_
  refine h_take (i := 18) rfl rfl rfl rfl (by kernel_rfl) (fun w' hC => run_pick_andB rfl rfl (fun _ => rfl) rfl) hCst9 ?_
  refine h_take (i := 19) rfl rfl rfl rfl (by kernel_rfl) (fun w' hC => run_asg (v := .bool _) rfl rfl) hCst9 ?_
  refine h_done (by kernel_rfl) ?_
  refine r_ret (res1 (v := .bool _) rfl rfl) ?_
  exact ⟨ret_bool (decide_eq_true ⟨⟨rfl, k_ref⟩, rfl⟩), hV⟩
 refine h_do rfl ?_
 refine r_gyes rfl (wantT rfl) (by exact ⟨rfl, k_ref⟩) ?_
 refine r_bslice (pv := [(0, .agg _)]) (zs := [_, _, _]) (cs := [_, _, _]) Tryz.underlying34 ty_39 rfl rfl rfl rfl rfl ?_
 intro b33 w34 J33 E34 B33 Y33
 have Q34 := E34.size
 replace hV := Z0 hV E34
 replace hCst9 := Z0 hCst9 E34
 have hrb33 : RowE w34 (some ⟨b33, 0, none⟩) b33 0 1 ([⟨1, [], 0⟩] : List Vc.Item) := rowLit ([⟨1, [], 0⟩] : List Vc.Item) B33 rfl rfl
 refine h_next hCst9 ?_
 refine h_one (i := 13) (by kernel_rfl) ?_
 refine h_do rfl ?_
 refine r_gyes rfl (wantT rfl) (by exact ⟨rfl, k_ref⟩) ?_
 refine r_opcall rfl rfl rfl (run_callfn (vs := [S _]) (cs := []) rfl (by exact rfl) rfl Tryz.func37 rfl (by kernel_rfl)) known1_calls ?_
 rintro e w35 ⟨aoK35, bK35, ofK35, cpK35, rfl, hE35, hrK35⟩
 refine ⟨_, rfl, ?_⟩
 have Q35 := hE35.size
 replace hV := Z0 hV hE35
 replace hCst9 := Z0 hCst9 hE35
 replace hrb33 := hrb33.evo0 hE35
 refine h_next hCst9 ?_
 refine h_one (i := 14) (by kernel_rfl) ?_
 refine h_do rfl ?_
 refine r_gyes rfl (wantT rfl) (by exact ⟨rfl, k_ref⟩) ?_
 refine r_opcall rfl rfl rfl (run_callf (vs := [.agg _, .slice _ _ _, .slice _ _ _]) rfl (by exact rfl) Tryz.func14 rfl (by kernel_rfl)) (run_calls (RowR.nil _ _ 0 0 _) (RowR.nil _ _ 0 0 _) hrK35 (RowE.nil _ none 0 0 0) k_tiny.2.2.1 k_tiny.2.2.2 k_notag.2.2 (fun x hx => absurd hx List.not_mem_nil) (Nat.zero_le _) (fun x hx => absurd hx List.not_mem_nil) (htab.evo0 hV)) ?_
 rintro e w36 ⟨vo36, rfl, hE36, hoo36⟩
 refine ⟨_, rfl, ?_⟩
 have Q36 := hE36.size
 replace hV := Z0 hV hE36
 replace hCst9 := Z0 hCst9 hE36
 replace hrb33 := hrb33.evo0 hE36
 replace hoo36 := own_cast hoo36 k_emp
 refine h_next hCst9 ?_
 refine h_one (i := 17) (by kernel_rfl) ?_
 refine h_do rfl ?_
 refine r_gyes rfl (wantT rfl) (by exact ⟨rfl, k_ref⟩) ?_
 obtain ⟨ao37, g37, cp37, hv37, hr37, hg37⟩ := hoo36.rowOf
 subst hv37
 refine r_opcall rfl rfl rfl (run_callf (vs := [.slice _ _ _, .slice (some ⟨b33, 0, none⟩) _ _]) rfl (by exact rfl) Tryz.func16 rfl (by kernel_rfl)) (ksame_calls hr37 hrb33) ?_
 rintro e w38 ⟨rfl, hE38⟩
 refine ⟨_, rfl, ?_⟩
 have Q38 := hE38.size
 replace hV := Z0 hV hE38
 replace hCst9 := Z0 hCst9 hE38
 refine h_next hCst9 ?_
 refine h_take (i := 18) rfl rfl rfl rfl (by kernel_rfl) (fun w' hC => run_pick_andB rfl rfl (fun _ => rfl) rfl) hCst9 ?_
 refine h_take (i := 19) rfl rfl rfl rfl (by kernel_rfl) (fun w' hC => run_asg (v := .bool _) rfl rfl) hCst9 ?_
 refine h_done (by kernel_rfl) ?_
 refine r_ret (res1 (v := .bool _) rfl rfl) ?_
 exact ⟨ret_bool (decide_eq_true ⟨⟨rfl, k_ref⟩, rfl⟩), hV⟩
end Go.Proofs.YtlfjocbnbceceaaGreatDoor
