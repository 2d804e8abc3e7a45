/-
  Library, plain laws and walks that the statements reach (joined by a program out of smaller texts).
-/
import Derived.Test.YtkklomiipkipnaaGreatDoorKe
import Derived.Test.YtkklomiipkipnaaGreatDoorKb
import Derived.Test.YtkklomiipkipnaaGreatDoorKc
import Derived.Test.YtkklomiipkipnaaGreatDoorKd
namespace Go.Proofs.YtkklomiipkipnaaGreatDoor
open Go.RowKit Go.Vc
def isW (x : Vc.Item) : Prop := x.kind = 6 ∨ x.kind = 7
instance (x : Vc.Item) : Decidable (isW x) := by unfold isW; infer_instance
def gapW (x : Vc.Item) : Prop := x.kind = 8 ∨ x.kind = 2 ∨ x.kind = 3 ∨ x.kind = 4
instance (x : Vc.Item) : Decidable (gapW x) := by unfold gapW; infer_instance
def nextR : List Vc.Item → Nat → Int
  | [], _ => -1
  | x :: r, k => if isW x then (k : Int) else if gapW x then nextR r (k + 1) else -1
def nextT (l : List Vc.Item) (i : Nat) : Int := nextR (l.drop (i + 1)) (i + 1)
theorem drop_consT {l : List Vc.Item} {k : Nat} (h : k < l.length) : l.drop k = l.getD k default :: l.drop (k + 1) := by
  have e : l.getD k default = l[k] := by simp [List.getD, h]
  rw [e]; exact (List.drop_eq_getElem_cons h)
theorem next_hit {l : List Vc.Item} {k : Nat} (h : k < l.length) (h2 : isW (l.getD k default)) : nextR (l.drop k) k = (k : Int) := by rw [drop_consT h]; exact if_pos h2
theorem next_gap {l : List Vc.Item} {k : Nat} (h : k < l.length) (h2 : ¬ isW (l.getD k default)) (h3 : gapW (l.getD k default)) : nextR (l.drop k) k = nextR (l.drop (k + 1)) (k + 1) := by
  rw [drop_consT h]
  conv => lhs; unfold nextR
  rw [if_neg h2, if_pos h3]
theorem next_stop {l : List Vc.Item} {k : Nat} (h : k < l.length) (h2 : ¬ isW (l.getD k default)) (h3 : ¬ gapW (l.getD k default)) : nextR (l.drop k) k = -1 := by
  rw [drop_consT h]; unfold nextR; rw [if_neg h2, if_neg h3]
theorem next_end {l : List Vc.Item} {k : Nat} (h : l.length ≤ k) : nextR (l.drop k) k = -1 := by rw [List.drop_of_length_le h]; rfl
theorem nextR_bd (l : List Vc.Item) : ∀ (n k : Nat), l.length - k = n → k ≤ l.length → nextR (l.drop k) k = -1 ∨ ((k : Int) ≤ nextR (l.drop k) k ∧ nextR (l.drop k) k < (l.length : Int) ∧ isW (l.getD (nextR (l.drop k) k).toNat default))
  | 0, k, h, _ => .inl (next_end (by omega))
  | n + 1, k, h, _ => by
    have hk : k < l.length := by omega
    by_cases h2 : isW (l.getD k default)
    · rw [next_hit hk h2]; exact .inr ⟨by omega, by omega, by simpa using h2⟩
    · by_cases h3 : gapW (l.getD k default)
      · rw [next_gap hk h2 h3]
        rcases nextR_bd l n (k + 1) (by omega) (by omega) with h4 | ⟨h4, h5, h6⟩
        · exact .inl h4
        · exact .inr ⟨by omega, h5, h6⟩
      · exact .inl (next_stop hk h2 h3)
theorem nextT_bd {l : List Vc.Item} {i : Nat} (h : i < l.length) : nextT l i = -1 ∨ ((i : Int) + 1 ≤ nextT l i ∧ nextT l i < (l.length : Int) ∧ isW (l.getD (nextT l i).toNat default)) := by
  rcases nextR_bd l _ (i + 1) rfl (by omega) with h1 | ⟨h1, h2, h3⟩
  · exact .inl h1
  · exact .inr ⟨by have : ((i + 1 : Nat) : Int) ≤ nextT l i := h1
                   omega, h2, h3⟩
def chainF (l : List Vc.Item) : Int → Int → List (List Str) → Int
  | _, e, [] => e
  | i, _, s :: r => if i < 0 then -1 else if lowS (l.getD i.toNat default).text ∈ s then chainF l (nextT l i.toNat) (i + 1) r else -1
theorem chain_neg {l : List Vc.Item} {i e : Int} {s : List Str} {r : List (List Str)} (h : i < 0) : chainF l i e (s :: r) = -1 := if_pos h
theorem chain_no {l : List Vc.Item} {i e : Int} {s : List Str} {r : List (List Str)} (h : ¬ i < 0) (h2 : ¬ lowS (l.getD i.toNat default).text ∈ s) : chainF l i e (s :: r) = -1 := by unfold chainF; rw [if_neg h, if_neg h2]
theorem chain_go {l : List Vc.Item} {i e : Int} {s : List Str} {r : List (List Str)} (h : ¬ i < 0) (h2 : lowS (l.getD i.toNat default).text ∈ s) : chainF l i e (s :: r) = chainF l (nextT l i.toNat) (i + 1) r := by
  conv => lhs; unfold chainF
  rw [if_neg h, if_pos h2]
theorem drop_consS {ss : List (List Str)} {k : Nat} (h : k < ss.length) : ss.drop k = ss.getD k default :: ss.drop (k + 1) := by
  have e : ss.getD k default = ss[k] := by simp [List.getD, h]
  rw [e]; exact (List.drop_eq_getElem_cons h)
end Go.Proofs.YtkklomiipkipnaaGreatDoor
namespace Go.Proofs.YtkklomiipkipnaaGreatDoor
open Go.RowKit Go.Vc
def KF : List Vc.Item := [⟨2, [98], 1⟩, ⟨1, [97, 98], 0⟩, ⟨3, [98], 1⟩]
end Go.Proofs.YtkklomiipkipnaaGreatDoor
namespace Go.Proofs.YtkklomiipkipnaaGreatDoor
open Go.RowKit Go.Vc
theorem pl_52 : placesP Tryz.prog 52 = some [(0, 1), (1, 1), (2, 1)] := by kernel_rfl
end Go.Proofs.YtkklomiipkipnaaGreatDoor
namespace Go.Proofs.YtkklomiipkipnaaGreatDoor
open Go.RowKit Go.Vc
theorem ag_38 : aggP Tryz.prog 38 = some true := by kernel_rfl
theorem fo_38_0 : fieldP Tryz.prog 38 0 = some 0 := by kernel_rfl
theorem tisword_calls {x : Vc.Item} {w0 : World}  :
    Calls Tryz.prog 37 #[.agg (Enc.enc x).toArray] w0 fun e w' => e = .returned (.bool (decide (isW x))) ∧ Evo w0 w' [] := by
 refine calls_enter (n := 11) (args := [.agg (Enc.enc x).toArray]) Tryz.func37 rfl Tryz.ntmps37 rfl ?_
 have hV : Evo w0 w0 [] := Evo.refl _ _
 refine r_seq ?_
 refine r_region ?_
 refine r_box (vs := [_, _, _]) (by exact rfl) (by exact rfl) rfl ?_
 intro b1 w2 heb1 hEw2 hbb1 hzb1
 have hs_w2 := (hEw2).size
 replace hV := evo_step0 hV hEw2
 have hAb1 := hbb1.at
 refine r_op rfl rfl rfl (run_asg (v := .bool _) rfl (by exact rfl)) ?_
 refine r_nil ?_
 refine r_seq ?_
 refine r_region ?_
 refine r_op rfl rfl rfl (run_fa rfl (by exact rfl) fo_38_0) ?_
 refine r_op rfl rfl rfl (run_ld1 rfl ag_3 (by exact rfl) (hAb1.cell 0 (by exact rfl))) ?_
 refine r_op rfl rfl rfl (run_eql rfl (by exact rfl) (by exact rfl)) ?_
 refine r_op rfl rfl rfl (run_mv (v := .bool _) rfl (by exact rfl)) ?_
 refine r_g rfl (wantF (by exact rfl)) rfl (fun hg => run_fa rfl (by exact rfl) fo_38_0) ?_
 refine r_g rfl (wantF (by exact rfl)) rfl (fun hg => run_ld1 rfl ag_3 (glv (by exact rfl) (fun h => h) hg) (hAb1.cell 0 (by exact rfl))) ?_
 refine r_g rfl (wantF (by exact rfl)) rfl (fun hg => run_eql rfl (glv (by exact rfl) (fun h => h) hg) (by exact rfl)) ?_
 refine r_op rfl rfl rfl (run_pick_or rfl (by exact rfl) rfl (fun hq => glv (by exact rfl) (fun h => h) hq)) ?_
 refine r_op rfl rfl rfl (run_asg (v := .bool _) rfl (by exact rfl)) ?_
 refine r_nil ?_
 refine r_ret (res1 (v := .bool _) rfl (by exact rfl)) ?_
 exact ⟨ret_bool (decide_eq_decide.2 (by unfold isW; omega)), hV⟩
theorem risword_calls {x : Vc.Item} {w0 : World}  :
    Calls Tryz.prog 67 #[.agg (Enc.enc x).toArray] w0 fun e w' => e = .returned (.bool (decide (isW x))) ∧ Evo w0 w' [] := by
 refine calls_enter (n := 11) (args := [.agg (Enc.enc x).toArray]) Tryz.func67 rfl Tryz.ntmps67 rfl ?_
 have hV : Evo w0 w0 [] := Evo.refl _ _
 refine r_seq ?_
 refine r_region ?_
 refine r_box (vs := [_, _, _]) (by exact rfl) (by exact rfl) rfl ?_
 intro b1 w2 heb1 hEw2 hbb1 hzb1
 have hs_w2 := (hEw2).size
 replace hV := evo_step0 hV hEw2
 have hAb1 := hbb1.at
 refine r_op rfl rfl rfl (run_asg (v := .bool _) rfl (by exact rfl)) ?_
 refine r_nil ?_
 refine r_seq ?_
 refine r_region ?_
 refine r_op rfl rfl rfl (run_fa rfl (by exact rfl) fo_38_0) ?_
 refine r_op rfl rfl rfl (run_ld1 rfl ag_3 (by exact rfl) (hAb1.cell 0 (by exact rfl))) ?_
 refine r_op rfl rfl rfl (run_eql rfl (by exact rfl) (by exact rfl)) ?_
 refine r_op rfl rfl rfl (run_mv (v := .bool _) rfl (by exact rfl)) ?_
 refine r_g rfl (wantF (by exact rfl)) rfl (fun hg => run_fa rfl (by exact rfl) fo_38_0) ?_
 refine r_g rfl (wantF (by exact rfl)) rfl (fun hg => run_ld1 rfl ag_3 (glv (by exact rfl) (fun h => h) hg) (hAb1.cell 0 (by exact rfl))) ?_
 refine r_g rfl (wantF (by exact rfl)) rfl (fun hg => run_eql rfl (glv (by exact rfl) (fun h => h) hg) (by exact rfl)) ?_
 refine r_op rfl rfl rfl (run_pick_or rfl (by exact rfl) rfl (fun hq => glv (by exact rfl) (fun h => h) hq)) ?_
 refine r_op rfl rfl rfl (run_asg (v := .bool _) rfl (by exact rfl)) ?_
 refine r_nil ?_
 refine r_ret (res1 (v := .bool _) rfl (by exact rfl)) ?_
 exact ⟨ret_bool (decide_eq_decide.2 (by unfold isW; omega)), hV⟩
theorem ttnext_calls {ao : Option Addr} {b off cap : Nat} {l : List Vc.Item} {i : Int} {w0 : World} (hl : RowE w0 ao b off cap l) (h0 : 0 ≤ i) (h1 : i < l.length) :
    Calls Tryz.prog 66 #[.slice ao l.length cap, .int .i64 i] w0 fun e w' => e = .returned (.int .i64 (nextT l i.toNat)) ∧ Evo w0 w' [] := by
 refine calls_enter (n := 28) (args := [.slice ao l.length cap, .int .i64 i]) Tryz.func66 rfl Tryz.ntmps66 rfl ?_
 have hV : Evo w0 w0 [] := Evo.refl _ _
 have hl0 := keepE hl
 have hbd_hl := hl.bd
 refine r_seq ?_
 refine r_region ?_
 refine r_op rfl rfl rfl (run_asg (v := .int _ _) rfl (by exact rfl)) ?_
 refine r_nil ?_
 refine r_seq ?_
 refine r_seq ?_
 refine r_region ?_
 refine r_op rfl rfl rfl (run_mv (v := .int _ _) rfl (by exact rfl)) ?_
 refine r_op rfl rfl rfl (run_add rfl (by exact rfl) (by exact rfl) (by omega) (by omega)) ?_
 refine r_op rfl rfl rfl (run_asg (v := .int _ _) rfl (by exact rfl)) ?_
 refine r_nil ?_
 refine r_block ?_
 refine r_loop (α := Nat) [4, 5, 8, 9, 10, 11, 12, 13, 14, 15, 16, 17, 18, 19, 20, 21, 22, 23, 24, 25, 26, 27] (fun k g w => g 5 = .int .i64 (k : Nat) ∧ k ≤ l.length ∧ nextR (l.drop k) k = nextT l i.toNat ∧ w0.heap.size ≤ w.heap.size ∧ Evo w0 w []) (fun k => l.length - k) (i.toNat + 1) ?_ ?_
 ·refine ⟨(congrArg (Value.int _) (by omega)), (by first | assumption | omega | (dsimp only; omega) | (simp; done)), rfl, (by first | assumption | omega | (dsimp only; omega) | (simp; done)), hV⟩
 ·rintro k g w2 ⟨hj3, hk, hnx, hzl1, hV⟩
  have hs_w2hV := hV.size
  replace hl := hl0 _ hV
  refine r_know (i := 5) (v := .int .i64 (k : Nat)) (by exact hj3) ?_
  refine r_seq ?_
  refine r_seq ?_
  refine r_region ?_
  refine r_op rfl rfl rfl (run_mv (v := .int _ _) rfl (by exact rfl)) ?_
  refine r_op rfl rfl rfl (run_mv (v := .slice _ _ _) rfl (by exact rfl)) ?_
  refine r_op rfl rfl rfl (run_lenSl rfl (by exact rfl) Tryz.underlying24) ?_
  refine r_op rfl rfl rfl (run_lss rfl (by exact rfl) (by exact rfl)) ?_
  refine r_nil ?_
  refine r_cond (by exact rfl) (fun hc4 => ?_) (fun hc4 => ?_)
  ·skip
   refine r_skip ?_
   refine r_seq ?_
   refine r_block ?_
   refine r_seq ?_
   refine r_region ?_
   refine r_op rfl rfl rfl (run_mv (v := .slice _ _ _) rfl (by exact rfl)) ?_
   refine r_op rfl rfl rfl (run_mv (v := .int _ _) rfl (by exact rfl)) ?_
   refine r_op rfl rfl rfl (run_ix (k) rfl Tryz.underlying24 ty_38 (by exact rfl) (by exact rfl) (by first | exact rfl | omega) (by omega) (hl.addr (i := k) (by omega))) ?_
   have hA50 := fun (w' : World) (h : Evo w0 w' []) => (hl0 w' h).atD (k) (by omega)
   have hA5 := hA50 _ hV
   refine r_op rfl rfl rfl (run_fa rfl (by exact rfl) fo_38_0) ?_
   refine r_op rfl rfl rfl (run_ld1 rfl ag_3 (by exact rfl) (hA5.cell 0 (by exact rfl))) ?_
   refine r_nil ?_
   refine r_block ?_
   refine r_seq ?_
   refine r_seq ?_
   refine r_region ?_
   refine r_op rfl rfl rfl (run_eql rfl (by exact rfl) (by exact rfl)) ?_
   refine r_op rfl rfl rfl (run_asg (v := .bool _) rfl (by exact rfl)) ?_
   refine r_nil ?_
   refine r_cond (by exact rfl) (fun hc6 => ?_) (fun hc6 => ?_)
   ·skip
    refine r_skip ?_
    refine r_condT (by exact rfl) hc6 ?_
    refine r_seq ?_
    refine r_region ?_
    refine r_op rfl rfl rfl (run_mv (v := .int _ _) rfl (by exact rfl)) ?_
    refine r_op rfl rfl rfl (run_asg (v := .int _ _) rfl (by exact rfl)) ?_
    refine r_nil ?_
    refine r_ret (res1 (v := .int _ _) rfl (by exact rfl)) ?_
    first | exact ⟨ret_int (by rw [← hnx, next_hit (l := l) (k := k) (by omega) (by first | assumption | (unfold isW; omega))]), hV⟩ | exact ⟨ret_int (by rw [← hnx, next_stop (l := l) (k := k) (by omega) (by first | assumption | (unfold isW; omega)) (by unfold gapW; omega)]), hV⟩ | exact ⟨ret_int (by rw [← hnx, next_end (l := l) (k := k) (by omega)]), hV⟩
   ·skip
    refine r_region ?_
    refine r_op rfl rfl rfl (run_eql rfl (by exact rfl) (by exact rfl)) ?_
    refine r_op rfl rfl rfl (run_asg (v := .bool _) rfl (by exact rfl)) ?_
    refine r_nil ?_
    refine r_cond (by exact rfl) (fun hc7 => ?_) (fun hc7 => ?_)
    ·skip
     refine r_seq ?_
     refine r_region ?_
     refine r_op rfl rfl rfl (run_mv (v := .int _ _) rfl (by exact rfl)) ?_
     refine r_op rfl rfl rfl (run_asg (v := .int _ _) rfl (by exact rfl)) ?_
     refine r_nil ?_
     refine r_ret (res1 (v := .int _ _) rfl (by exact rfl)) ?_
     first | exact ⟨ret_int (by rw [← hnx, next_hit (l := l) (k := k) (by omega) (by first | assumption | (unfold isW; omega))]), hV⟩ | exact ⟨ret_int (by rw [← hnx, next_stop (l := l) (k := k) (by omega) (by first | assumption | (unfold isW; omega)) (by unfold gapW; omega)]), hV⟩ | exact ⟨ret_int (by rw [← hnx, next_end (l := l) (k := k) (by omega)]), hV⟩
    ·skip
     refine r_seq ?_
     refine r_seq ?_
     refine r_region ?_
     refine r_op rfl rfl rfl (run_eql rfl (by exact rfl) (by exact rfl)) ?_
     refine r_op rfl rfl rfl (run_asg (v := .bool _) rfl (by exact rfl)) ?_
     refine r_nil ?_
     refine r_cond (by exact rfl) (fun hc8 => ?_) (fun hc8 => ?_)
     ·skip
      refine r_skip ?_
      refine r_condT (by exact rfl) hc8 ?_
      refine r_skip ?_
      refine r_blk ?_
      refine r_blk ?_
      refine r_region ?_
      refine r_op rfl rfl rfl (run_mv (v := .int _ _) rfl (by exact rfl)) ?_
      refine r_op rfl rfl rfl (run_add rfl (by exact rfl) (by exact rfl) (by omega) (by omega)) ?_
      refine r_op rfl rfl rfl (run_asg (v := .int _ _) rfl (by exact rfl)) ?_
      refine r_nil ?_
      refine r_again (k + 1) ?_ ?_ ?_
      ·first | omega | (dsimp only; omega)
      ·refine ⟨(congrArg (Value.int _) (by omega)), (by first | assumption | omega | (dsimp only; omega) | (simp; done)), (by rw [← hnx, next_gap (l := l) (k := k) (by omega) (by first | assumption | (unfold isW; omega)) (by unfold gapW; omega)]), (by first | assumption | omega | (dsimp only; omega) | (simp; done)), hV⟩
      ·repeat (first | (with_reducible exact Agree.merge _ _ _) | (with_reducible exact Agree.refl _ _) | (with_reducible refine Agree.upd ?_ _ _ rfl) | ((with_reducible refine Agree.inner ?_ ?_); (kernel_rfl)))
     ·skip
      refine r_seq ?_
      refine r_region ?_
      refine r_op rfl rfl rfl (run_eql rfl (by exact rfl) (by exact rfl)) ?_
      refine r_op rfl rfl rfl (run_asg (v := .bool _) rfl (by exact rfl)) ?_
      refine r_nil ?_
      refine r_cond (by exact rfl) (fun hc9 => ?_) (fun hc9 => ?_)
      ·skip
       refine r_skip ?_
       refine r_condT (by exact rfl) hc9 ?_
       refine r_skip ?_
       refine r_blk ?_
       refine r_blk ?_
       refine r_region ?_
       refine r_op rfl rfl rfl (run_mv (v := .int _ _) rfl (by exact rfl)) ?_
       refine r_op rfl rfl rfl (run_add rfl (by exact rfl) (by exact rfl) (by omega) (by omega)) ?_
       refine r_op rfl rfl rfl (run_asg (v := .int _ _) rfl (by exact rfl)) ?_
       refine r_nil ?_
       refine r_again (k + 1) ?_ ?_ ?_
       ·first | omega | (dsimp only; omega)
       ·refine ⟨(congrArg (Value.int _) (by omega)), (by first | assumption | omega | (dsimp only; omega) | (simp; done)), (by rw [← hnx, next_gap (l := l) (k := k) (by omega) (by first | assumption | (unfold isW; omega)) (by unfold gapW; omega)]), (by first | assumption | omega | (dsimp only; omega) | (simp; done)), hV⟩
       ·repeat (first | (with_reducible exact Agree.merge _ _ _) | (with_reducible exact Agree.refl _ _) | (with_reducible refine Agree.upd ?_ _ _ rfl) | ((with_reducible refine Agree.inner ?_ ?_); (kernel_rfl)))
      ·skip
       refine r_seq ?_
       refine r_region ?_
       refine r_op rfl rfl rfl (run_eql rfl (by exact rfl) (by exact rfl)) ?_
       refine r_op rfl rfl rfl (run_asg (v := .bool _) rfl (by exact rfl)) ?_
       refine r_nil ?_
       refine r_cond (by exact rfl) (fun hc10 => ?_) (fun hc10 => ?_)
       ·skip
        refine r_skip ?_
        refine r_condT (by exact rfl) hc10 ?_
        refine r_skip ?_
        refine r_blk ?_
        refine r_blk ?_
        refine r_region ?_
        refine r_op rfl rfl rfl (run_mv (v := .int _ _) rfl (by exact rfl)) ?_
        refine r_op rfl rfl rfl (run_add rfl (by exact rfl) (by exact rfl) (by omega) (by omega)) ?_
        refine r_op rfl rfl rfl (run_asg (v := .int _ _) rfl (by exact rfl)) ?_
        refine r_nil ?_
        refine r_again (k + 1) ?_ ?_ ?_
        ·first | omega | (dsimp only; omega)
        ·refine ⟨(congrArg (Value.int _) (by omega)), (by first | assumption | omega | (dsimp only; omega) | (simp; done)), (by rw [← hnx, next_gap (l := l) (k := k) (by omega) (by first | assumption | (unfold isW; omega)) (by unfold gapW; omega)]), (by first | assumption | omega | (dsimp only; omega) | (simp; done)), hV⟩
        ·repeat (first | (with_reducible exact Agree.merge _ _ _) | (with_reducible exact Agree.refl _ _) | (with_reducible refine Agree.upd ?_ _ _ rfl) | ((with_reducible refine Agree.inner ?_ ?_); (kernel_rfl)))
       ·skip
        refine r_region ?_
        refine r_op rfl rfl rfl (run_eql rfl (by exact rfl) (by exact rfl)) ?_
        refine r_op rfl rfl rfl (run_asg (v := .bool _) rfl (by exact rfl)) ?_
        refine r_nil ?_
        refine r_cond (by exact rfl) (fun hc11 => ?_) (fun hc11 => ?_)
        ·skip
         refine r_skip ?_
         refine r_blk ?_
         refine r_blk ?_
         refine r_region ?_
         refine r_op rfl rfl rfl (run_mv (v := .int _ _) rfl (by exact rfl)) ?_
         refine r_op rfl rfl rfl (run_add rfl (by exact rfl) (by exact rfl) (by omega) (by omega)) ?_
         refine r_op rfl rfl rfl (run_asg (v := .int _ _) rfl (by exact rfl)) ?_
         refine r_nil ?_
         refine r_again (k + 1) ?_ ?_ ?_
         ·first | omega | (dsimp only; omega)
         ·refine ⟨(congrArg (Value.int _) (by omega)), (by first | assumption | omega | (dsimp only; omega) | (simp; done)), (by rw [← hnx, next_gap (l := l) (k := k) (by omega) (by first | assumption | (unfold isW; omega)) (by unfold gapW; omega)]), (by first | assumption | omega | (dsimp only; omega) | (simp; done)), hV⟩
         ·repeat (first | (with_reducible exact Agree.merge _ _ _) | (with_reducible exact Agree.refl _ _) | (with_reducible refine Agree.upd ?_ _ _ rfl) | ((with_reducible refine Agree.inner ?_ ?_); (kernel_rfl)))
        ·skip
         refine r_seq ?_
         refine r_region ?_
         refine r_op rfl rfl rfl (run_asg (v := .int _ _) rfl (by exact rfl)) ?_
         refine r_nil ?_
         refine r_ret (res1 (v := .int _ _) rfl (by exact rfl)) ?_
         first | exact ⟨ret_int (by rw [← hnx, next_hit (l := l) (k := k) (by omega) (by first | assumption | (unfold isW; omega))]), hV⟩ | exact ⟨ret_int (by rw [← hnx, next_stop (l := l) (k := k) (by omega) (by first | assumption | (unfold isW; omega)) (by unfold gapW; omega)]), hV⟩ | exact ⟨ret_int (by rw [← hnx, next_end (l := l) (k := k) (by omega)]), hV⟩
  ·skip
   refine r_exit rfl ?_
   refine r_seq ?_
   refine r_region ?_
   refine r_op rfl rfl rfl (run_asg (v := .int _ _) rfl (by exact rfl)) ?_
   refine r_nil ?_
   refine r_ret (res1 (v := .int _ _) rfl (by exact rfl)) ?_
   first | exact ⟨ret_int (by rw [← hnx, next_hit (l := l) (k := k) (by omega) (by first | assumption | (unfold isW; omega))]), hV⟩ | exact ⟨ret_int (by rw [← hnx, next_stop (l := l) (k := k) (by omega) (by first | assumption | (unfold isW; omega)) (by unfold gapW; omega)]), hV⟩ | exact ⟨ret_int (by rw [← hnx, next_end (l := l) (k := k) (by omega)]), hV⟩
theorem rtnext_calls {ao : Option Addr} {b off cap : Nat} {l : List Vc.Item} {i : Int} {w0 : World} (hl : RowE w0 ao b off cap l) (h0 : 0 ≤ i) (h1 : i < l.length) :
    Calls Tryz.prog 69 #[.slice ao l.length cap, .int .i64 i] w0 fun e w' => e = .returned (.int .i64 (nextT l i.toNat)) ∧ Evo w0 w' [] := by
 refine calls_enter (n := 30) (args := [.slice ao l.length cap, .int .i64 i]) Tryz.func69 rfl Tryz.ntmps69 rfl ?_
 have hV : Evo w0 w0 [] := Evo.refl _ _
 have hl0 := keepE hl
 have hbd_hl := hl.bd
 refine r_seq ?_
 refine r_region ?_
 refine r_op rfl rfl rfl (run_asg (v := .int _ _) rfl (by exact rfl)) ?_
 refine r_nil ?_
 refine r_seq ?_
 refine r_seq ?_
 refine r_region ?_
 refine r_op rfl rfl rfl (run_mv (v := .int _ _) rfl (by exact rfl)) ?_
 refine r_op rfl rfl rfl (run_add rfl (by exact rfl) (by exact rfl) (by omega) (by omega)) ?_
 refine r_op rfl rfl rfl (run_asg (v := .int _ _) rfl (by exact rfl)) ?_
 refine r_nil ?_
 refine r_block ?_
 refine r_loop (α := Nat) [4, 5, 8, 9, 10, 11, 12, 13, 14, 15, 16, 17, 18, 19, 20, 21, 22, 23, 24, 25, 26, 27, 28, 29] (fun k g w => g 5 = .int .i64 (k : Nat) ∧ k ≤ l.length ∧ nextR (l.drop k) k = nextT l i.toNat ∧ w0.heap.size ≤ w.heap.size ∧ Evo w0 w []) (fun k => l.length - k) (i.toNat + 1) ?_ ?_
 ·refine ⟨(congrArg (Value.int _) (by omega)), (by first | assumption | omega | (dsimp only; omega) | (simp; done)), rfl, (by first | assumption | omega | (dsimp only; omega) | (simp; done)), hV⟩
 ·rintro k g w2 ⟨hj3, hk, hnx, hzl1, hV⟩
  have hs_w2hV := hV.size
  replace hl := hl0 _ hV
  refine r_know (i := 5) (v := .int .i64 (k : Nat)) (by exact hj3) ?_
  refine r_seq ?_
  refine r_seq ?_
  refine r_region ?_
  refine r_op rfl rfl rfl (run_mv (v := .int _ _) rfl (by exact rfl)) ?_
  refine r_op rfl rfl rfl (run_mv (v := .slice _ _ _) rfl (by exact rfl)) ?_
  refine r_op rfl rfl rfl (run_lenSl rfl (by exact rfl) Tryz.underlying24) ?_
  refine r_op rfl rfl rfl (run_lss rfl (by exact rfl) (by exact rfl)) ?_
  refine r_nil ?_
  refine r_cond (by exact rfl) (fun hc4 => ?_) (fun hc4 => ?_)
  ·skip
   refine r_skip ?_
   refine r_seq ?_
   refine r_block ?_
   refine r_seq ?_
   refine r_seq ?_
   refine r_region ?_
   refine r_op rfl rfl rfl (run_mv (v := .slice _ _ _) rfl (by exact rfl)) ?_
   refine r_op rfl rfl rfl (run_mv (v := .int _ _) rfl (by exact rfl)) ?_
   refine r_op rfl rfl rfl (run_ix (k) rfl Tryz.underlying24 ty_38 (by exact rfl) (by exact rfl) (by first | exact rfl | omega) (by omega) (hl.addr (i := k) (by omega))) ?_
   have hA50 := fun (w' : World) (h : Evo w0 w' []) => (hl0 w' h).atD (k) (by omega)
   have hA5 := hA50 _ hV
   refine r_op rfl rfl rfl (run_ldN rfl ag_38 ty_38 (by exact rfl) rfl hA5) ?_
   refine r_opcall rfl rfl rfl (run_callf (vs := [.agg _]) rfl (by exact rfl) Tryz.func67 rfl (by kernel_rfl)) (risword_calls (x := (l.getD k default))) ?_
   rintro e w6 ⟨rfl, hE6⟩
   refine ⟨_, rfl, ?_⟩
   have hs_w6 := (hE6).size
   replace hV := evo_step0 hV hE6
   replace hl := hl0 _ hV
   refine r_nil ?_
   refine r_cond (by exact rfl) (fun hc7 => ?_) (fun hc7 => ?_)
   ·skip
    refine r_seq ?_
    refine r_region ?_
    refine r_op rfl rfl rfl (run_mv (v := .int _ _) rfl (by exact rfl)) ?_
    refine r_op rfl rfl rfl (run_asg (v := .int _ _) rfl (by exact rfl)) ?_
    refine r_nil ?_
    refine r_ret (res1 (v := .int _ _) rfl (by exact rfl)) ?_
    first | exact ⟨ret_int (by rw [← hnx, next_hit (l := l) (k := k) (by omega) (by first | assumption | (unfold isW; omega))]), hV⟩ | exact ⟨ret_int (by rw [← hnx, next_stop (l := l) (k := k) (by omega) (by first | assumption | (unfold isW; omega)) (by unfold gapW; omega)]), hV⟩ | exact ⟨ret_int (by rw [← hnx, next_end (l := l) (k := k) (by omega)]), hV⟩
   ·skip
    refine r_skip ?_
    refine r_seq ?_
    refine r_region ?_
    refine r_op rfl rfl rfl (run_mv (v := .slice _ _ _) rfl (by exact rfl)) ?_
    refine r_op rfl rfl rfl (run_mv (v := .int _ _) rfl (by exact rfl)) ?_
    refine r_op rfl rfl rfl (run_ix (k) rfl Tryz.underlying24 ty_38 (by exact rfl) (by exact rfl) (by first | exact rfl | omega) (by omega) (hl.addr (i := k) (by omega))) ?_
    have hA80 := fun (w' : World) (h : Evo w0 w' []) => (hl0 w' h).atD (k) (by omega)
    have hA8 := hA80 _ hV
    refine r_op rfl rfl rfl (run_fa rfl (by exact rfl) fo_38_0) ?_
    refine r_op rfl rfl rfl (run_ld1 rfl ag_3 (by exact rfl) (hA8.cell 0 (by exact rfl))) ?_
    refine r_nil ?_
    refine r_block ?_
    refine r_seq ?_
    refine r_seq ?_
    refine r_region ?_
    refine r_op rfl rfl rfl (run_eql rfl (by exact rfl) (by exact rfl)) ?_
    refine r_op rfl rfl rfl (run_asg (v := .bool _) rfl (by exact rfl)) ?_
    refine r_nil ?_
    refine r_cond (by exact rfl) (fun hc9 => ?_) (fun hc9 => ?_)
    ·skip
     refine r_skip ?_
     refine r_condT (by exact rfl) hc9 ?_
     refine r_skip ?_
     refine r_blk ?_
     refine r_blk ?_
     refine r_region ?_
     refine r_op rfl rfl rfl (run_mv (v := .int _ _) rfl (by exact rfl)) ?_
     refine r_op rfl rfl rfl (run_add rfl (by exact rfl) (by exact rfl) (by omega) (by omega)) ?_
     refine r_op rfl rfl rfl (run_asg (v := .int _ _) rfl (by exact rfl)) ?_
     refine r_nil ?_
     refine r_again (k + 1) ?_ ?_ ?_
     ·first | omega | (dsimp only; omega)
     ·refine ⟨(congrArg (Value.int _) (by omega)), (by first | assumption | omega | (dsimp only; omega) | (simp; done)), (by rw [← hnx, next_gap (l := l) (k := k) (by omega) (by first | assumption | (unfold isW; omega)) (by unfold gapW; omega)]), (by first | assumption | omega | (dsimp only; omega) | (simp; done)), hV⟩
     ·repeat (first | (with_reducible exact Agree.merge _ _ _) | (with_reducible exact Agree.refl _ _) | (with_reducible refine Agree.upd ?_ _ _ rfl) | ((with_reducible refine Agree.inner ?_ ?_); (kernel_rfl)))
    ·skip
     refine r_seq ?_
     refine r_region ?_
     refine r_op rfl rfl rfl (run_eql rfl (by exact rfl) (by exact rfl)) ?_
     refine r_op rfl rfl rfl (run_asg (v := .bool _) rfl (by exact rfl)) ?_
     refine r_nil ?_
     refine r_cond (by exact rfl) (fun hc10 => ?_) (fun hc10 => ?_)
     ·skip
      refine r_skip ?_
      refine r_condT (by exact rfl) hc10 ?_
      refine r_skip ?_
      refine r_blk ?_
      refine r_blk ?_
      refine r_region ?_
      refine r_op rfl rfl rfl (run_mv (v := .int _ _) rfl (by exact rfl)) ?_
      refine r_op rfl rfl rfl (run_add rfl (by exact rfl) (by exact rfl) (by omega) (by omega)) ?_
      refine r_op rfl rfl rfl (run_asg (v := .int _ _) rfl (by exact rfl)) ?_
      refine r_nil ?_
      refine r_again (k + 1) ?_ ?_ ?_
      ·first | omega | (dsimp only; omega)
      ·refine ⟨(congrArg (Value.int _) (by omega)), (by first | assumption | omega | (dsimp only; omega) | (simp; done)), (by rw [← hnx, next_gap (l := l) (k := k) (by omega) (by first | assumption | (unfold isW; omega)) (by unfold gapW; omega)]), (by first | assumption | omega | (dsimp only; omega) | (simp; done)), hV⟩
      ·repeat (first | (with_reducible exact Agree.merge _ _ _) | (with_reducible exact Agree.refl _ _) | (with_reducible refine Agree.upd ?_ _ _ rfl) | ((with_reducible refine Agree.inner ?_ ?_); (kernel_rfl)))
     ·skip
      refine r_seq ?_
      refine r_region ?_
      refine r_op rfl rfl rfl (run_eql rfl (by exact rfl) (by exact rfl)) ?_
      refine r_op rfl rfl rfl (run_asg (v := .bool _) rfl (by exact rfl)) ?_
      refine r_nil ?_
      refine r_cond (by exact rfl) (fun hc11 => ?_) (fun hc11 => ?_)
      ·skip
       refine r_skip ?_
       refine r_condT (by exact rfl) hc11 ?_
       refine r_skip ?_
       refine r_blk ?_
       refine r_blk ?_
       refine r_region ?_
       refine r_op rfl rfl rfl (run_mv (v := .int _ _) rfl (by exact rfl)) ?_
       refine r_op rfl rfl rfl (run_add rfl (by exact rfl) (by exact rfl) (by omega) (by omega)) ?_
       refine r_op rfl rfl rfl (run_asg (v := .int _ _) rfl (by exact rfl)) ?_
       refine r_nil ?_
       refine r_again (k + 1) ?_ ?_ ?_
       ·first | omega | (dsimp only; omega)
       ·refine ⟨(congrArg (Value.int _) (by omega)), (by first | assumption | omega | (dsimp only; omega) | (simp; done)), (by rw [← hnx, next_gap (l := l) (k := k) (by omega) (by first | assumption | (unfold isW; omega)) (by unfold gapW; omega)]), (by first | assumption | omega | (dsimp only; omega) | (simp; done)), hV⟩
       ·repeat (first | (with_reducible exact Agree.merge _ _ _) | (with_reducible exact Agree.refl _ _) | (with_reducible refine Agree.upd ?_ _ _ rfl) | ((with_reducible refine Agree.inner ?_ ?_); (kernel_rfl)))
      ·skip
       refine r_region ?_
       refine r_op rfl rfl rfl (run_eql rfl (by exact rfl) (by exact rfl)) ?_
       refine r_op rfl rfl rfl (run_asg (v := .bool _) rfl (by exact rfl)) ?_
       refine r_nil ?_
       refine r_cond (by exact rfl) (fun hc12 => ?_) (fun hc12 => ?_)
       ·skip
        refine r_skip ?_
        refine r_blk ?_
        refine r_blk ?_
        refine r_region ?_
        refine r_op rfl rfl rfl (run_mv (v := .int _ _) rfl (by exact rfl)) ?_
        refine r_op rfl rfl rfl (run_add rfl (by exact rfl) (by exact rfl) (by omega) (by omega)) ?_
        refine r_op rfl rfl rfl (run_asg (v := .int _ _) rfl (by exact rfl)) ?_
        refine r_nil ?_
        refine r_again (k + 1) ?_ ?_ ?_
        ·first | omega | (dsimp only; omega)
        ·refine ⟨(congrArg (Value.int _) (by omega)), (by first | assumption | omega | (dsimp only; omega) | (simp; done)), (by rw [← hnx, next_gap (l := l) (k := k) (by omega) (by first | assumption | (unfold isW; omega)) (by unfold gapW; omega)]), (by first | assumption | omega | (dsimp only; omega) | (simp; done)), hV⟩
        ·repeat (first | (with_reducible exact Agree.merge _ _ _) | (with_reducible exact Agree.refl _ _) | (with_reducible refine Agree.upd ?_ _ _ rfl) | ((with_reducible refine Agree.inner ?_ ?_); (kernel_rfl)))
       ·skip
        refine r_seq ?_
        refine r_region ?_
        refine r_op rfl rfl rfl (run_asg (v := .int _ _) rfl (by exact rfl)) ?_
        refine r_nil ?_
        refine r_ret (res1 (v := .int _ _) rfl (by exact rfl)) ?_
        first | exact ⟨ret_int (by rw [← hnx, next_hit (l := l) (k := k) (by omega) (by first | assumption | (unfold isW; omega))]), hV⟩ | exact ⟨ret_int (by rw [← hnx, next_stop (l := l) (k := k) (by omega) (by first | assumption | (unfold isW; omega)) (by unfold gapW; omega)]), hV⟩ | exact ⟨ret_int (by rw [← hnx, next_end (l := l) (k := k) (by omega)]), hV⟩
  ·skip
   refine r_exit rfl ?_
   refine r_seq ?_
   refine r_region ?_
   refine r_op rfl rfl rfl (run_asg (v := .int _ _) rfl (by exact rfl)) ?_
   refine r_nil ?_
   refine r_ret (res1 (v := .int _ _) rfl (by exact rfl)) ?_
   first | exact ⟨ret_int (by rw [← hnx, next_hit (l := l) (k := k) (by omega) (by first | assumption | (unfold isW; omega))]), hV⟩ | exact ⟨ret_int (by rw [← hnx, next_stop (l := l) (k := k) (by omega) (by first | assumption | (unfold isW; omega)) (by unfold gapW; omega)]), hV⟩ | exact ⟨ret_int (by rw [← hnx, next_end (l := l) (k := k) (by omega)]), hV⟩
end Go.Proofs.YtkklomiipkipnaaGreatDoor
namespace Go.Proofs.YtkklomiipkipnaaGreatDoor
open Go.RowKit Go.Vc
theorem ag_40 : aggP Tryz.prog 40 = some false := by kernel_rfl
theorem ag_76 : aggP Tryz.prog 76 = some false := by kernel_rfl
theorem fo_38_1 : fieldP Tryz.prog 38 1 = some 1 := by kernel_rfl
theorem ty_40 : tyP Tryz.prog 40 = some (1, 24, some (.slice none 0 0)) := by kernel_rfl
theorem ty_76 : tyP Tryz.prog 76 = some (1, 8, some (.map none)) := by kernel_rfl
theorem notin_of {l : List Str} {x : Str} (h : ∀ j, j < l.length → ¬ l.getD j default = x) : ¬ x ∈ l := fun q => by
  obtain ⟨j, hj, e⟩ := List.getElem_of_mem q
  exact h j hj (by simp [List.getD, hj, e])
theorem getM_isSome_mem {m : List (Str × Unit)} {x : Str} : (getM m x).isSome = true ↔ x ∈ m.map (·.1) := by
  unfold getM
  rw [Option.isSome_map, List.find?_isSome]
  simp only [decide_eq_true_eq, List.mem_map]
theorem KeyIs.some {m : List (Str × Unit)} {l : List Str} (h : KeyIs m l) (s : Str) : (getM m s).isSome = true ↔ s ∈ l := by
  rw [getM_isSome_mem]; exact h.2 s
def nth (ss : List SetS) : List (List Str) := ss.map (·.ks)
theorem nth_drop {ss : List SetS} {k : Nat} (h : k < ss.length) : nth (ss.drop k) = (ss.getD k default).ks :: nth (ss.drop (k + 1)) := by
  have e : ss.getD k default = ss[k] := by simp [List.getD, h]
  rw [e, List.drop_eq_getElem_cons h]; rfl
def atOk (l : List Vc.Item) (i : Int) : Prop := i = -1 ∨ (0 ≤ i ∧ i < (l.length : Int))
theorem atOk_next {l : List Vc.Item} {i : Int} (h : 0 ≤ i) (h2 : i < (l.length : Int)) : atOk l (nextT l i.toNat) := by
  rcases nextT_bd (l := l) (i := i.toNat) (by omega) with h3 | ⟨h3, h4, _⟩
  · exact .inl h3
  · exact .inr ⟨by omega, h4⟩
theorem rwithin_calls {ao : Option Addr} {b off cap : Nat} {l : List Str} {x : Str} {w0 : World} (hl : RowE w0 ao b off cap l) :
    Calls Tryz.prog 68 #[.slice ao l.length cap, S x] w0 fun e w' => e = .returned (.bool (decide (x ∈ l))) ∧ Evo w0 w' [] := by
 refine calls_enter (n := 17) (args := [.slice ao l.length cap, S x]) Tryz.func68 rfl Tryz.ntmps68 rfl ?_
 have hV : Evo w0 w0 [] := Evo.refl _ _
 have hl0 := keepE hl
 have hbd_hl := hl.bd
 refine r_seq ?_
 refine r_region ?_
 refine r_op rfl rfl rfl (run_asg (v := .bool _) rfl (by exact rfl)) ?_
 refine r_nil ?_
 refine r_seq ?_
 refine r_seq ?_
 refine r_region ?_
 refine r_op rfl rfl rfl (run_mv (v := .slice _ _ _) rfl (by exact rfl)) ?_
 refine r_op rfl rfl rfl (run_lenSl rfl (by exact rfl) Tryz.underlying40) ?_
 refine r_op rfl rfl rfl (run_mv (v := .int _ _) rfl (by exact rfl)) ?_
 refine r_nil ?_
 refine r_block ?_
 refine r_loop (α := Nat) [4, 6, 9, 10, 11, 12, 13, 14, 15, 16] (fun k g w => g 9 = .int .i64 (k : Nat) ∧ k ≤ l.length ∧ (∀ j, j < k → ¬ l.getD j default = x) ∧ w0.heap.size ≤ w.heap.size ∧ Evo w0 w []) (fun k => l.length - k) 0 ?_ ?_
 ·refine ⟨(by first | exact rfl | exact congrArg (Value.int _) (by omega) | exact congrArg (Value.int _) (by dsimp only; omega) | exact congrArg (Value.int _) (by simp) | exact congrArg S (by simp)), (by first | assumption | omega | (dsimp only; omega) | (simp; done)), (fun j h => by omega), (by first | assumption | omega | (dsimp only; omega) | (simp; done)), hV⟩
 ·rintro k g w2 ⟨hj3, hk_k, hno, hzl1, hV⟩
  have hs_w2hV := hV.size
  replace hl := hl0 _ hV
  refine r_know (i := 9) (v := .int .i64 (k : Nat)) (by exact hj3) ?_
  refine r_seq ?_
  refine r_region ?_
  refine r_op rfl rfl rfl (run_lss rfl (by exact rfl) (by exact rfl)) ?_
  refine r_nil ?_
  refine r_seq ?_
  refine r_cond (by exact rfl) (fun hc4 => ?_) (fun hc4 => ?_)
  ·skip
   refine r_skip ?_
   refine r_seq ?_
   refine r_block ?_
   refine r_seq ?_
   refine r_region ?_
   refine r_op rfl rfl rfl (run_ix (k) rfl Tryz.underlying40 ty_9 (by exact rfl) (by exact rfl) (by first | exact rfl | omega) (by omega) (hl.addr (i := k) (by omega))) ?_
   have hA50 := fun (w' : World) (h : Evo w0 w' []) => (hl0 w' h).atD (k) (by omega)
   have hA5 := hA50 _ hV
   refine r_op rfl rfl rfl (run_ld1 rfl ag_9 (by exact rfl) (hA5.cell 0 (by exact rfl))) ?_
   refine r_op rfl rfl rfl (run_asg (v := S _) rfl (by exact rfl)) ?_
   refine r_nil ?_
   refine r_seq ?_
   refine r_region ?_
   refine r_op rfl rfl rfl (run_mv (v := S _) rfl (by exact rfl)) ?_
   refine r_op rfl rfl rfl (run_mv (v := S _) rfl (by exact rfl)) ?_
   refine r_op rfl rfl rfl (run_seql rfl (by exact rfl) (by exact rfl)) ?_
   refine r_nil ?_
   refine r_cond (by exact rfl) (fun hc6 => ?_) (fun hc6 => ?_)
   ·skip
    refine r_seq ?_
    refine r_region ?_
    refine r_op rfl rfl rfl (run_asg (v := .bool _) rfl (by exact rfl)) ?_
    refine r_nil ?_
    refine r_ret (res1 (v := .bool _) rfl (by exact rfl)) ?_
    exact ⟨ret_bool (decide_eq_true (by rw [← hc6]; exact getD_in (by omega))).symm, hV⟩
   ·skip
    refine r_skip ?_
    refine r_blk ?_
    refine r_region ?_
    refine r_op rfl rfl rfl (run_add rfl (by exact rfl) (by exact rfl) (by omega) (by omega)) ?_
    refine r_op rfl rfl rfl (run_mv (v := .int _ _) rfl (by exact rfl)) ?_
    refine r_nil ?_
    refine r_again (k + 1) ?_ ?_ ?_
    ·first | omega | (dsimp only; omega)
    ·refine ⟨(by first | exact rfl | exact congrArg (Value.int _) (by omega) | exact congrArg (Value.int _) (by dsimp only; omega) | exact congrArg (Value.int _) (by simp) | exact congrArg S (by simp)), (by first | assumption | omega | (dsimp only; omega) | (simp; done)), (upto0 hno hc6), (by first | assumption | omega | (dsimp only; omega) | (simp; done)), hV⟩
    ·repeat (first | (with_reducible exact Agree.merge _ _ _) | (with_reducible exact Agree.refl _ _) | (with_reducible refine Agree.upd ?_ _ _ rfl) | ((with_reducible refine Agree.inner ?_ ?_); (kernel_rfl)))
  ·skip
   refine r_exit rfl ?_
   refine r_seq ?_
   refine r_region ?_
   refine r_op rfl rfl rfl (run_asg (v := .bool _) rfl (by exact rfl)) ?_
   refine r_nil ?_
   refine r_ret (res1 (v := .bool _) rfl (by exact rfl)) ?_
   exact ⟨ret_bool (decide_eq_false (notin_of (fun j hj => hno j (by omega)))).symm, hV⟩
theorem tchain_calls {ao : Option Addr} {b off cap : Nat} {l : List Vc.Item} {i : Int} {aos : Option Addr} {bs offs caps : Nat} {ss : List SetS} {w0 : World} (hl : RowE w0 ao b off cap l) (hs : RowR w0 aos bs offs caps ss) (hq : ∀ x ∈ l, x.text.length ≤ 140737488355328) (h0 : 0 ≤ i) (h1 : i < l.length) :
    Calls Tryz.prog 38 #[.slice ao l.length cap, .int .i64 i, .slice aos ss.length caps] w0 fun e w' => e = .returned (.int .i64 (chainF l i (-1) (nth ss))) ∧ Evo w0 w' [] := by
 refine calls_enter (n := 40) (args := [.slice ao l.length cap, .int .i64 i, .slice aos ss.length caps]) Tryz.func38 rfl Tryz.ntmps38 rfl ?_
 have hV : Evo w0 w0 [] := Evo.refl _ _
 have hl0 := keepE hl
 have hbd_hl := hl.bd
 have hs0 := hs.keep
 have hbd_hs := hs.bd
 refine r_seq ?_
 refine r_region ?_
 refine r_op rfl rfl rfl (run_asg (v := .int _ _) rfl (by exact rfl)) ?_
 refine r_nil ?_
 refine r_seq ?_
 refine r_region ?_
 refine r_op rfl rfl rfl (run_asg (v := .int _ _) rfl (by exact rfl)) ?_
 refine r_nil ?_
 refine r_seq ?_
 refine r_seq ?_
 refine r_region ?_
 refine r_op rfl rfl rfl (run_mv (v := .slice _ _ _) rfl (by exact rfl)) ?_
 refine r_op rfl rfl rfl (run_lenSl rfl (by exact rfl) Tryz.underlying75) ?_
 refine r_op rfl rfl rfl (run_mv (v := .int _ _) rfl (by exact rfl)) ?_
 refine r_nil ?_
 refine r_block ?_
 refine r_loop (α := Nat) [1, 6, 7, 9, 10, 11, 14, 15, 16, 17, 18, 19, 20, 21, 22, 23, 24, 25, 26, 27, 28, 29, 30, 31, 32, 33, 34, 35, 36, 37, 38] (fun k g w => ∃ at1 : Int, ∃ en : Int, g 14 = .int .i64 (k : Nat) ∧ g 1 = .int .i64 at1 ∧ g 7 = .int .i64 en ∧ k ≤ ss.length ∧ atOk l at1 ∧ chainF l at1 en (nth (ss.drop k)) = chainF l i (-1) (nth ss) ∧ w0.heap.size ≤ w.heap.size ∧ Evo w0 w []) (fun k => ss.length - k) 0 ?_ ?_
 ·refine ⟨i, (-1), (by first | exact rfl | exact congrArg (Value.int _) (by omega) | exact congrArg (Value.int _) (by dsimp only; omega) | exact congrArg (Value.int _) (by simp) | exact congrArg S (by simp)), rfl, rfl, (by first | assumption | omega | (dsimp only; omega) | (simp; done)), (.inr ⟨h0, h1⟩), rfl, (by first | assumption | omega | (dsimp only; omega) | (simp; done)), hV⟩
 ·rintro k g w2 ⟨at1, en, hj3, hj4, hj5, hk_k, hat, hch, hzl1, hV⟩
  have hs_w2hV := hV.size
  replace hl := hl0 _ hV
  replace hs := hs0.now hV
  refine r_know (i := 14) (v := .int .i64 (k : Nat)) (by exact hj3) ?_
  refine r_know (i := 1) (v := .int .i64 at1) (by exact hj4) ?_
  refine r_know (i := 7) (v := .int .i64 en) (by exact hj5) ?_
  refine r_seq ?_
  refine r_region ?_
  refine r_op rfl rfl rfl (run_lss rfl (by exact rfl) (by exact rfl)) ?_
  refine r_nil ?_
  refine r_seq ?_
  refine r_cond (by exact rfl) (fun hc6 => ?_) (fun hc6 => ?_)
  ·skip
   refine r_skip ?_
   refine r_seq ?_
   refine r_block ?_
   refine r_seq ?_
   refine r_region ?_
   refine r_op rfl rfl rfl (run_ix (k) rfl Tryz.underlying75 ty_76 (by exact rfl) (by exact rfl) (by first | exact rfl | omega) (by omega) (hs.addr (i := k) (by omega))) ?_
   obtain ⟨bM7, hX⟩ := set_atK hs0 (k) (by omega)
   have hA70 := fun (w' : World) (h : Evo w0 w' []) => (hX w' h).1
   have hA7 := hA70 _ hV
   have hM70 := fun (w' : World) (h : Evo w0 w' []) => (hX w' h).2
   have hM7 := hM70 _ hV
   clear hX
   refine r_op rfl rfl rfl (run_ld1 rfl ag_76 (by exact rfl) (hA7.cell 0 (by exact rfl))) ?_
   refine r_op rfl rfl rfl (run_asg (v := .map _) rfl (by exact rfl)) ?_
   refine r_nil ?_
   refine r_seq ?_
   refine r_seq ?_
   refine r_region ?_
   refine r_op rfl rfl rfl (run_mv (v := .int _ _) rfl (by exact rfl)) ?_
   refine r_op rfl rfl rfl (run_lss rfl (by exact rfl) (by exact rfl)) ?_
   refine r_nil ?_
   refine r_cond (by exact rfl) (fun hc8 => ?_) (fun hc8 => ?_)
   ·skip
    refine r_seq ?_
    refine r_region ?_
    refine r_op rfl rfl rfl (run_asg (v := .int _ _) rfl (by exact rfl)) ?_
    refine r_nil ?_
    refine r_ret (res1 (v := .int _ _) rfl (by exact rfl)) ?_
    first | exact ⟨ret_int (by rw [← hch, nth_drop (ss := ss) (k := k) (by omega), chain_neg (by omega)]), hV⟩ | exact ⟨ret_int (by rw [← hch, nth_drop (ss := ss) (k := k) (by omega), chain_no (by omega) (fun q => by have h9 := (hKS _).2 q; simp_all)]), hV⟩ | exact ⟨ret_int (by rw [← hch, List.drop_of_length_le (by omega)]; rfl), hV⟩
   ·skip
    refine r_skip ?_
    refine r_seq ?_
    refine r_seq ?_
    have hai : 0 ≤ at1 ∧ at1 < l.length := by rcases hat with h9 | h9 <;> omega
    have hqi := hq _ (getD_in (show at1.toNat < l.length by omega))
    refine r_region ?_
    refine r_op rfl rfl rfl (run_mv (v := .map _) rfl (by exact rfl)) ?_
    refine r_op rfl rfl rfl (run_mv (v := .slice _ _ _) rfl (by exact rfl)) ?_
    refine r_op rfl rfl rfl (run_mv (v := .int _ _) rfl (by exact rfl)) ?_
    refine r_op rfl rfl rfl (run_ix (at1.toNat) rfl Tryz.underlying24 ty_38 (by exact rfl) (by exact rfl) (by omega) (by omega) (hl.addr (i := at1.toNat) (by omega))) ?_
    have hA90 := fun (w' : World) (h : Evo w0 w' []) => (hl0 w' h).atD (at1.toNat) (by omega)
    have hA9 := hA90 _ hV
    refine r_op rfl rfl rfl (run_fa rfl (by exact rfl) fo_38_1) ?_
    refine r_op rfl rfl rfl (run_ld1 rfl ag_9 (by exact rfl) (hA9.cell 1 (by exact rfl))) ?_
    refine r_opcall rfl rfl rfl (run_callf (vs := [S _]) rfl (by exact rfl) Tryz.func43 rfl (by kernel_rfl)) (lower_calls (by first | omega | (simp; omega))) ?_
    rintro e w10 ⟨rfl, hE10⟩
    refine ⟨_, rfl, ?_⟩
    have hs_w10 := (hE10).size
    replace hV := evo_step0 hV hE10
    replace hl := hl0 _ hV
    replace hs := hs0.now hV
    replace hM7 := hM70 _ hV
    obtain ⟨mS, hMS, hKS⟩ := hM7
    refine r_op rfl rfl rfl (run_lookup2 (a := (lowS (l.getD at1.toNat default).text)) (z := ()) (v := .agg _) (key_str Tryz.underlying9) rfl Tryz.underlying76 ty_96 (by exact rfl) (by exact rfl) hMS rfl) ?_
    refine r_op rfl rfl rfl (run_mv (v := .tuple _) rfl (by exact rfl)) ?_
    refine r_op rfl rfl rfl (run_extract (v := .agg _) rfl (by exact rfl) (by exact rfl)) ?_
    refine r_op rfl rfl rfl (run_extract (v := .bool _) rfl (by exact rfl) (by exact rfl)) ?_
    refine r_var (zs := []) (vs := []) ty_96 (by exact rfl) rfl (by exact rfl) (fun _ => rfl) (by exact rfl) rfl rfl (by exact rfl) ?_
    intro b11 w12 heb11 hEw12 hbb11 hzb11
    have hs_w12 := (hEw12).size
    replace hV := evo_step0 hV hEw12
    replace hl := hl0 _ hV
    replace hs := hs0.now hV
    replace hMS := hMS.evo0 hEw12
    have hAb11 := hbb11.at
    refine r_op rfl rfl rfl (run_asg (v := .bool _) rfl (by exact rfl)) ?_
    refine r_nil ?_
    refine r_seq ?_
    refine r_region ?_
    refine r_op rfl rfl rfl (run_mvb rfl (by exact rfl)) ?_
    refine r_op rfl rfl rfl (run_not rfl (by exact rfl)) ?_
    refine r_nil ?_
    refine r_cond (by exact rfl) (fun hc13 => ?_) (fun hc13 => ?_)
    ·skip
     refine r_seq ?_
     refine r_region ?_
     refine r_op rfl rfl rfl (run_asg (v := .int _ _) rfl (by exact rfl)) ?_
     refine r_nil ?_
     refine r_ret (res1 (v := .int _ _) rfl (by exact rfl)) ?_
     first | exact ⟨ret_int (by rw [← hch, nth_drop (ss := ss) (k := k) (by omega), chain_neg (by omega)]), hV⟩ | exact ⟨ret_int (by rw [← hch, nth_drop (ss := ss) (k := k) (by omega), chain_no (by omega) (fun q => by have h9 := (hKS _).2 q; simp_all)]), hV⟩ | exact ⟨ret_int (by rw [← hch, List.drop_of_length_le (by omega)]; rfl), hV⟩
    ·skip
     refine r_skip ?_
     refine r_seq ?_
     refine r_region ?_
     refine r_op rfl rfl rfl (run_mv (v := .int _ _) rfl (by exact rfl)) ?_
     refine r_op rfl rfl rfl (run_add rfl (by exact rfl) (by exact rfl) (by omega) (by omega)) ?_
     refine r_op rfl rfl rfl (run_asg (v := .int _ _) rfl (by exact rfl)) ?_
     refine r_nil ?_
     refine r_region ?_
     refine r_op rfl rfl rfl (run_mv (v := .slice _ _ _) rfl (by exact rfl)) ?_
     refine r_op rfl rfl rfl (run_mv (v := .int _ _) rfl (by exact rfl)) ?_
     refine r_opcall rfl rfl rfl (run_callf (vs := [.slice _ _ _, .int _ _]) rfl (by exact rfl) Tryz.func66 rfl (by kernel_rfl)) (ttnext_calls hl (i := at1) (by omega) (by omega)) ?_
     rintro e w14 ⟨rfl, hE14⟩
     refine ⟨_, rfl, ?_⟩
     have hs_w14 := (hE14).size
     replace hV := evo_step0 hV hE14
     replace hl := hl0 _ hV
     replace hs := hs0.now hV
     replace hMS := hMS.evo0 hE14
     refine r_op rfl rfl rfl (run_asg (v := .int _ _) rfl (by exact rfl)) ?_
     refine r_nil ?_
     refine r_blk ?_
     refine r_region ?_
     refine r_op rfl rfl rfl (run_add rfl (by exact rfl) (by exact rfl) (by omega) (by omega)) ?_
     refine r_op rfl rfl rfl (run_mv (v := .int _ _) rfl (by exact rfl)) ?_
     refine r_nil ?_
     refine r_again (k + 1) ?_ ?_ ?_
     ·first | omega | (dsimp only; omega)
     ·refine ⟨_, _, (by first | exact rfl | exact congrArg (Value.int _) (by omega) | exact congrArg (Value.int _) (by dsimp only; omega) | exact congrArg (Value.int _) (by simp) | exact congrArg S (by simp)), rfl, rfl, (by first | assumption | omega | (dsimp only; omega) | (simp; done)), (atOk_next (by omega) (by rcases hat with h9 | h9 <;> omega)), (by rw [← hch, nth_drop (ss := ss) (k := k) (by omega), chain_go (by omega) ((hKS _).1 (by first | exact hc13 | exact Classical.not_not.1 hc13 | simpa [Option.isSome_iff_ne_none] using hc13))]), (by first | assumption | omega | (dsimp only; omega) | (simp; done)), hV⟩
     ·repeat (first | (with_reducible exact Agree.merge _ _ _) | (with_reducible exact Agree.refl _ _) | (with_reducible refine Agree.upd ?_ _ _ rfl) | ((with_reducible refine Agree.inner ?_ ?_); (kernel_rfl)))
  ·skip
   refine r_exit rfl ?_
   refine r_seq ?_
   refine r_region ?_
   refine r_op rfl rfl rfl (run_mv (v := .int _ _) rfl (by exact rfl)) ?_
   refine r_op rfl rfl rfl (run_asg (v := .int _ _) rfl (by exact rfl)) ?_
   refine r_nil ?_
   refine r_ret (res1 (v := .int _ _) rfl (by exact rfl)) ?_
   first | exact ⟨ret_int (by rw [← hch, nth_drop (ss := ss) (k := k) (by omega), chain_neg (by omega)]), hV⟩ | exact ⟨ret_int (by rw [← hch, nth_drop (ss := ss) (k := k) (by omega), chain_no (by omega) (fun q => by have h9 := (hKS _).2 q; simp_all)]), hV⟩ | exact ⟨ret_int (by rw [← hch, List.drop_of_length_le (by omega)]; rfl), hV⟩
theorem getD_text2 {l : List Vc.Item} {B : Nat} (h : ∀ x ∈ l, x.text.length ≤ B) (k : Nat) : (l.getD k default).text.length ≤ B := by
  rcases Nat.lt_or_ge k l.length with h1 | h1
  · exact h _ (getD_in h1)
  · have e : l.getD k default = default := by simp [List.getD, List.getElem?_eq_none h1]
    rw [e]; exact Nat.zero_le _
def chainG (l : List Vc.Item) : Int → Int → List (List Str) → Int
  | _, e, [] => e
  | i, _, s :: r => if (i < 0 ∨ ¬ isW (l.getD i.toNat default)) ∨ ¬ lowS (l.getD i.toNat default).text ∈ s then -1 else chainG l (nextT l i.toNat) (i + 1) r
theorem chainG_no {l : List Vc.Item} {i e : Int} {s : List Str} {r : List (List Str)} (h : (i < 0 ∨ ¬ isW (l.getD i.toNat default)) ∨ ¬ lowS (l.getD i.toNat default).text ∈ s) : chainG l i e (s :: r) = -1 := if_pos h
theorem chainG_go {l : List Vc.Item} {i e : Int} {s : List Str} {r : List (List Str)} (h : ¬ ((i < 0 ∨ ¬ isW (l.getD i.toNat default)) ∨ ¬ lowS (l.getD i.toNat default).text ∈ s)) : chainG l i e (s :: r) = chainG l (nextT l i.toNat) (i + 1) r := by
  conv => lhs; unfold chainG
  rw [if_neg h]
theorem rchain_calls {ao : Option Addr} {b off cap : Nat} {l : List Vc.Item} {i : Int} {aos : Option Addr} {bs offs caps : Nat} {ss : List (List Str)} {w0 : World} (hl : RowE w0 ao b off cap l) (hs : RowR w0 aos bs offs caps ss) (hq : ∀ x ∈ l, x.text.length ≤ 140737488355328) (h0 : 0 ≤ i) (h1 : i < l.length) :
    Calls Tryz.prog 39 #[.slice ao l.length cap, .int .i64 i, .slice aos ss.length caps] w0 fun e w' => e = .returned (.int .i64 (chainG l i (-1) ss)) ∧ Evo w0 w' [] := by
 refine calls_enter (n := 44) (args := [.slice ao l.length cap, .int .i64 i, .slice aos ss.length caps]) Tryz.func39 rfl Tryz.ntmps39 rfl ?_
 have hV : Evo w0 w0 [] := Evo.refl _ _
 have hl0 := keepE hl
 have hbd_hl := hl.bd
 have hs0 := hs.keep
 have hbd_hs := hs.bd
 refine r_seq ?_
 refine r_region ?_
 refine r_op rfl rfl rfl (run_asg (v := .int _ _) rfl (by exact rfl)) ?_
 refine r_nil ?_
 refine r_seq ?_
 refine r_region ?_
 refine r_op rfl rfl rfl (run_asg (v := .int _ _) rfl (by exact rfl)) ?_
 refine r_nil ?_
 refine r_seq ?_
 refine r_seq ?_
 refine r_region ?_
 refine r_op rfl rfl rfl (run_mv (v := .slice _ _ _) rfl (by exact rfl)) ?_
 refine r_op rfl rfl rfl (run_lenSl rfl (by exact rfl) Tryz.underlying82) ?_
 refine r_op rfl rfl rfl (run_mv (v := .int _ _) rfl (by exact rfl)) ?_
 refine r_nil ?_
 refine r_block ?_
 refine r_loop (α := Nat) [1, 6, 7, 9, 12, 13, 14, 15, 16, 17, 18, 19, 20, 21, 22, 23, 24, 25, 26, 27, 28, 29, 30, 31, 32, 33, 34, 35, 36, 37, 38, 39, 40, 41, 42] (fun k g w => ∃ at1 : Int, ∃ en : Int, g 12 = .int .i64 (k : Nat) ∧ g 1 = .int .i64 at1 ∧ g 7 = .int .i64 en ∧ k ≤ ss.length ∧ atOk l at1 ∧ chainG l at1 en (ss.drop k) = chainG l i (-1) ss ∧ w0.heap.size ≤ w.heap.size ∧ Evo w0 w []) (fun k => ss.length - k) 0 ?_ ?_
 ·refine ⟨i, (-1), (by first | exact rfl | exact congrArg (Value.int _) (by omega) | exact congrArg (Value.int _) (by dsimp only; omega) | exact congrArg (Value.int _) (by simp) | exact congrArg S (by simp)), rfl, rfl, (by first | assumption | omega | (dsimp only; omega) | (simp; done)), (.inr ⟨h0, h1⟩), rfl, (by first | assumption | omega | (dsimp only; omega) | (simp; done)), hV⟩
 ·rintro k g w2 ⟨at1, en, hj3, hj4, hj5, hk_k, hat, hch, hzl1, hV⟩
  have hs_w2hV := hV.size
  replace hl := hl0 _ hV
  replace hs := hs0.now hV
  refine r_know (i := 12) (v := .int .i64 (k : Nat)) (by exact hj3) ?_
  refine r_know (i := 1) (v := .int .i64 at1) (by exact hj4) ?_
  refine r_know (i := 7) (v := .int .i64 en) (by exact hj5) ?_
  refine r_seq ?_
  refine r_region ?_
  refine r_op rfl rfl rfl (run_lss rfl (by exact rfl) (by exact rfl)) ?_
  refine r_nil ?_
  refine r_seq ?_
  refine r_cond (by exact rfl) (fun hc6 => ?_) (fun hc6 => ?_)
  ·skip
   refine r_skip ?_
   refine r_seq ?_
   refine r_block ?_
   refine r_seq ?_
   refine r_region ?_
   refine r_op rfl rfl rfl (run_ix (k) rfl Tryz.underlying82 ty_40 (by exact rfl) (by exact rfl) (by first | exact rfl | omega) (by omega) (hs.addr (i := k) (by omega))) ?_
   obtain ⟨ao7, b7, off7, cap7, hX⟩ := sl_atK hs0 (k) (by omega)
   have hA70 := fun (w' : World) (h : Evo w0 w' []) => (hX w' h).1
   have hA7 := hA70 _ hV
   have hR70 := fun (w' : World) (h : Evo w0 w' []) => (hX w' h).2
   have hR7 := hR70 _ hV
   clear hX
   have hbd_hR7 := hR7.bd
   refine r_op rfl rfl rfl (run_ld1 rfl ag_40 (by exact rfl) (hA7.cell 0 (by exact rfl))) ?_
   refine r_op rfl rfl rfl (run_asg (v := .slice _ _ _) rfl (by exact rfl)) ?_
   refine r_nil ?_
   refine r_seq ?_
   refine r_seq ?_
   have hai : ¬ at1 < 0 → 0 ≤ at1 ∧ at1 < l.length := fun h8 => by rcases hat with h9 | h9 <;> omega
   have hqi := getD_text2 hq at1.toNat
   refine r_region ?_
   refine r_op rfl rfl rfl (run_mv (v := .int _ _) rfl (by exact rfl)) ?_
   refine r_op rfl rfl rfl (run_lss rfl (by exact rfl) (by exact rfl)) ?_
   refine r_op rfl rfl rfl (run_mv (v := .bool _) rfl (by exact rfl)) ?_
   refine r_g rfl (wantF (by exact rfl)) rfl (fun hg => run_mv (v := .slice _ _ _) rfl (by exact rfl)) ?_
   refine r_g rfl (wantF (by exact rfl)) rfl (fun hg => run_mv (v := .int _ _) rfl (by exact rfl)) ?_
   refine r_g rfl (wantF (by exact rfl)) rfl (fun hg => run_ix (at1.toNat) rfl Tryz.underlying24 ty_38 (glv (by exact rfl) (fun h => h) hg) (glv (by exact rfl) (fun h => h) hg) (by omega) (by omega) (hl.addr (i := at1.toNat) (by omega))) ?_
   refine r_g rfl (wantF (by exact rfl)) rfl (fun hg => run_ldN rfl ag_38 ty_38 (glv (by exact rfl) (fun h => h) hg) rfl (hl.atD (at1.toNat) (by omega))) ?_
   refine r_gcall rfl (wantF (by exact rfl)) rfl (fun hg => run_callf rfl (argcons (v := .agg _) (glv (by exact rfl) (fun h => h) hg) (rfl)) Tryz.func67 rfl (by kernel_rfl)) (fun hg => (risword_calls (x := (l.getD at1.toNat default))).mono (fun e w' h => ⟨h.1, h.2⟩)) (fun w8 hE9 => ?_)
   have hs_w8 := (hE9).size
   replace hV := evo_step0 hV hE9
   replace hl := hl0 _ hV
   replace hs := hs0.now hV
   replace hR7 := hR70 _ hV
   refine r_g rfl (wantF (by exact rfl)) rfl (fun hg => run_not rfl (glv (by exact rfl) (fun h => h) hg)) ?_
   refine r_op rfl rfl rfl (run_pick_or rfl (by exact rfl) rfl (fun hq => glv (by exact rfl) (fun h => h) hq)) ?_
   refine r_op rfl rfl rfl (run_mv (v := .bool _) rfl (by exact rfl)) ?_
   refine r_g rfl (wantF (by exact rfl)) rfl (fun hg => run_mv (v := .slice _ _ _) rfl (by exact rfl)) ?_
   refine r_g rfl (wantF (by exact rfl)) rfl (fun hg => run_mv (v := .slice _ _ _) rfl (by exact rfl)) ?_
   refine r_g rfl (wantF (by exact rfl)) rfl (fun hg => run_mv (v := .int _ _) rfl (by exact rfl)) ?_
   refine r_g rfl (wantF (by exact rfl)) rfl (fun hg => run_ix (at1.toNat) rfl Tryz.underlying24 ty_38 (glv (by exact rfl) (fun h => h) hg) (glv (by exact rfl) (fun h => h) hg) (by omega) (by omega) (hl.addr (i := at1.toNat) (by omega))) ?_
   refine r_g rfl (wantF (by exact rfl)) rfl (fun hg => run_fa rfl (glv (by exact rfl) (fun h => h) hg) fo_38_1) ?_
   refine r_g rfl (wantF (by exact rfl)) rfl (fun hg => run_ld1 rfl ag_9 (glv (by exact rfl) (fun h => h) hg) ((hl.atD (at1.toNat) (by omega)).cell 1 (by exact rfl))) ?_
   refine r_gcall rfl (wantF (by exact rfl)) rfl (fun hg => run_callf rfl (argcons (v := S _) (glv (by exact rfl) (fun h => h) hg) (rfl)) Tryz.func45 rfl (by kernel_rfl)) (fun hg => (rlower_calls (by first | omega | (simp; omega))).mono (fun e w' h => ⟨h.1, h.2⟩)) (fun w10 hE11 => ?_)
   have hs_w10 := (hE11).size
   replace hV := evo_step0 hV hE11
   replace hl := hl0 _ hV
   replace hs := hs0.now hV
   replace hR7 := hR70 _ hV
   refine r_gcall rfl (wantF (by exact rfl)) rfl (fun hg => run_callf rfl (argcons (v := .slice _ _ _) (glv (by exact rfl) (fun h => h) hg) (argcons (v := S _) (glv (by exact rfl) (fun h => h) hg) (rfl))) Tryz.func68 rfl (by kernel_rfl)) (fun hg => (rwithin_calls hR7).mono (fun e w' h => ⟨h.1, h.2⟩)) (fun w12 hE13 => ?_)
   have hs_w12 := (hE13).size
   replace hV := evo_step0 hV hE13
   replace hl := hl0 _ hV
   replace hs := hs0.now hV
   refine r_g rfl (wantF (by exact rfl)) rfl (fun hg => run_not rfl (glv (by exact rfl) (fun h => h) hg)) ?_
   refine r_op rfl rfl rfl (run_pick_or rfl (by exact rfl) rfl (fun hq => glv (by exact rfl) (fun h => h) hq)) ?_
   refine r_nil ?_
   refine r_cond (by exact rfl) (fun hc14 => ?_) (fun hc14 => ?_)
   ·skip
    refine r_seq ?_
    refine r_region ?_
    refine r_op rfl rfl rfl (run_asg (v := .int _ _) rfl (by exact rfl)) ?_
    refine r_nil ?_
    refine r_ret (res1 (v := .int _ _) rfl (by exact rfl)) ?_
    first | exact ⟨ret_int (by rw [← hch, drop_consS (ss := ss) (k := k) (by omega), chainG_no hc14]), hV⟩ | exact ⟨ret_int (by rw [← hch, List.drop_of_length_le (by omega)]; rfl), hV⟩
   ·skip
    refine r_skip ?_
    refine r_seq ?_
    refine r_region ?_
    refine r_op rfl rfl rfl (run_mv (v := .int _ _) rfl (by exact rfl)) ?_
    refine r_op rfl rfl rfl (run_add rfl (by exact rfl) (by exact rfl) (by omega) (by omega)) ?_
    refine r_op rfl rfl rfl (run_asg (v := .int _ _) rfl (by exact rfl)) ?_
    refine r_nil ?_
    refine r_region ?_
    refine r_op rfl rfl rfl (run_mv (v := .slice _ _ _) rfl (by exact rfl)) ?_
    refine r_op rfl rfl rfl (run_mv (v := .int _ _) rfl (by exact rfl)) ?_
    refine r_opcall rfl rfl rfl (run_callf (vs := [.slice _ _ _, .int _ _]) rfl (by exact rfl) Tryz.func69 rfl (by kernel_rfl)) (rtnext_calls hl (i := at1) (by omega) (by omega)) ?_
    rintro e w15 ⟨rfl, hE15⟩
    refine ⟨_, rfl, ?_⟩
    have hs_w15 := (hE15).size
    replace hV := evo_step0 hV hE15
    replace hl := hl0 _ hV
    replace hs := hs0.now hV
    refine r_op rfl rfl rfl (run_asg (v := .int _ _) rfl (by exact rfl)) ?_
    refine r_nil ?_
    refine r_blk ?_
    refine r_region ?_
    refine r_op rfl rfl rfl (run_add rfl (by exact rfl) (by exact rfl) (by omega) (by omega)) ?_
    refine r_op rfl rfl rfl (run_mv (v := .int _ _) rfl (by exact rfl)) ?_
    refine r_nil ?_
    refine r_again (k + 1) ?_ ?_ ?_
    ·first | omega | (dsimp only; omega)
    ·refine ⟨_, _, (by first | exact rfl | exact congrArg (Value.int _) (by omega) | exact congrArg (Value.int _) (by dsimp only; omega) | exact congrArg (Value.int _) (by simp) | exact congrArg S (by simp)), rfl, rfl, (by first | assumption | omega | (dsimp only; omega) | (simp; done)), (atOk_next (by omega) (by rcases hat with h9 | h9 <;> omega)), (by rw [← hch, drop_consS (ss := ss) (k := k) (by omega), chainG_go hc14]), (by first | assumption | omega | (dsimp only; omega) | (simp; done)), hV⟩
    ·repeat (first | (with_reducible exact Agree.merge _ _ _) | (with_reducible exact Agree.refl _ _) | (with_reducible refine Agree.upd ?_ _ _ rfl) | ((with_reducible refine Agree.inner ?_ ?_); (kernel_rfl)))
  ·skip
   refine r_exit rfl ?_
   refine r_seq ?_
   refine r_region ?_
   refine r_op rfl rfl rfl (run_mv (v := .int _ _) rfl (by exact rfl)) ?_
   refine r_op rfl rfl rfl (run_asg (v := .int _ _) rfl (by exact rfl)) ?_
   refine r_nil ?_
   refine r_ret (res1 (v := .int _ _) rfl (by exact rfl)) ?_
   first | exact ⟨ret_int (by rw [← hch, drop_consS (ss := ss) (k := k) (by omega), chainG_no hc6]), hV⟩ | exact ⟨ret_int (by rw [← hch, List.drop_of_length_le (by omega)]; rfl), hV⟩
end Go.Proofs.YtkklomiipkipnaaGreatDoor
namespace Go.Proofs.YtkklomiipkipnaaGreatDoor
open Go.RowKit Go.Vc
theorem oforms_calls {ao : Option Addr} {b off cap : Nat} {c : List Clas} {p q : Str} {w0 : World} (hc : RowR w0 ao b off cap c) (hen : (endsL c q).length ≤ 4398046510976) (hbe : ∀ k, BdE ((endsL c q).getD k default)) (hp : p.length ≤ 140737488355328) (hq : q.length ≤ 140737488355328) :
    Calls Tryz.prog 36 #[.slice ao c.length cap, (.agg #[S p, S q])] w0 fun e w' => ∃ v, e = .returned v ∧ Evo w0 w' [] ∧ OwnE w' w0.heap.size 9 v (formsC c p q) := by
 refine calls_enter (n := 53) (args := [.slice ao c.length cap, (.agg #[S p, S q])]) Tryz.func36 rfl Tryz.ntmps36 rfl ?_
 have hV : Evo w0 w0 [] := Evo.refl _ _
 have hc0 := hc.keep
 have hbd_hc := hc.bd
 refine r_seq ?_
 refine r_region ?_
 refine r_box (vs := [_, _]) (by exact rfl) (by exact rfl) rfl ?_
 intro b1 w2 heb1 hEw2 hbb1 hzb1
 have hs_w2 := (hEw2).size
 replace hV := evo_step0 hV hEw2
 replace hc := hc0.now hV
 have hAb1 := hbb1.at
 refine r_op rfl rfl rfl (run_asg (v := .slice _ _ _) rfl (by exact rfl)) ?_
 refine r_nil ?_
 refine r_seq ?_
 refine r_region ?_
 refine r_op rfl rfl rfl (run_fa rfl (by exact rfl) fo_60_0) ?_
 refine r_op rfl rfl rfl (run_ld1 rfl ag_9 (by exact rfl) (hAb1.cell 0 (by exact rfl))) ?_
 refine r_opcall rfl rfl rfl (run_callf (vs := [S _]) rfl (by exact rfl) Tryz.func43 rfl (by kernel_rfl)) (lower_calls (by first | omega | (simp; omega))) ?_
 rintro e w3 ⟨rfl, hE3⟩
 refine ⟨_, rfl, ?_⟩
 have hs_w3 := (hE3).size
 replace hV := evo_step0 hV hE3
 replace hc := hc0.now hV
 replace hbb1 := hbb1.evo0 hE3
 replace hAb1 := hAb1.evo0 hE3
 refine r_op rfl rfl rfl (run_asg (v := S _) rfl (by exact rfl)) ?_
 refine r_nil ?_
 refine r_seq ?_
 refine r_seq ?_
 refine r_region ?_
 refine r_op rfl rfl rfl (run_mv (v := S _) rfl (by exact rfl)) ?_
 refine r_op rfl rfl rfl (run_seql rfl (by exact rfl) (by exact rfl)) ?_
 refine r_nil ?_
 refine r_cond (by exact rfl) (fun hc4 => ?_) (fun hc4 => ?_)
 ·skip
  refine r_seq ?_
  refine r_region ?_
  refine r_op rfl rfl rfl (run_asg (v := .slice _ _ _) rfl (by exact rfl)) ?_
  refine r_nil ?_
  refine r_ret (res1 (v := .slice _ _ _) rfl (by exact rfl)) ?_
  exact ⟨_, rfl, hV, by rw [forms_nil hc4]; exact OwnE.nil _ _ _⟩
 ·skip
  refine r_skip ?_
  refine r_seq ?_
  refine r_region ?_
  refine r_makeMap (α := Str) (β := Unit) S (fun _ : Unit => Value.agg #[]) rfl ?_
  intro b5 w6 heb5 hEw6 hmb5 hzb5
  have hs_w6 := (hEw6).size
  replace hV := evo_step0 hV hEw6
  replace hc := hc0.now hV
  replace hbb1 := hbb1.evo0 hEw6
  replace hAb1 := hAb1.evo0 hEw6
  refine r_op rfl rfl rfl (run_mv (v := S _) rfl (by exact rfl)) ?_
  refine r_op rfl rfl rfl (run_bld (pv := []) (zs := []) (cells := []) rfl ty_96 (by exact rfl) pl_96 (by exact rfl) (by exact rfl)) ?_
  refine r_mapins (a := _) (v := ()) (key_str Tryz.underlying9) Tryz.underlying76 (by exact rfl) (by exact rfl) (by exact rfl) hmb5 ?_
  intro w7 hEw7 hzw7 hm_new
  have hs_w7 := (hEw7).size
  replace hV := evo_step1 hV hEw7 (by first | exact .inl (by omega) | exact .inr (by simp))
  replace hc := hc0.now hV
  replace hbb1 := hbb1.evo hEw7 (by simp; omega)
  replace hAb1 := hAb1.evo hEw7 (by simp; omega)
  replace hmb5 := hm_new
  clear hm_new
  refine r_op rfl rfl rfl (run_mv (v := .map _) rfl (by exact rfl)) ?_
  refine r_op rfl rfl rfl (run_asg (v := .map _) rfl (by exact rfl)) ?_
  refine r_nil ?_
  refine r_seq ?_
  refine r_seq ?_
  refine r_region ?_
  refine r_op rfl rfl rfl (run_mv (v := .slice _ _ _) rfl (by exact rfl)) ?_
  refine r_op rfl rfl rfl (run_fa rfl (by exact rfl) fo_60_1) ?_
  refine r_op rfl rfl rfl (run_ld1 rfl ag_9 (by exact rfl) (hAb1.cell 1 (by exact rfl))) ?_
  refine r_opcall rfl rfl rfl (run_callf (vs := [.slice _ _ _, S _]) rfl (by exact rfl) Tryz.func63 rfl (by kernel_rfl)) (ends_calls hc0 hV) ?_
  rintro e w8 ⟨ao8, b8, off8, cap8, rfl, hE8, hr80⟩
  refine ⟨_, rfl, ?_⟩
  have hs_w8 := (hE8).size
  replace hV := evo_step0 hV hE8
  replace hc := hc0.now hV
  replace hmb5 := hmb5.evo0 hE8
  have hr8 := hr80 _ hV
  have hbd_hr8 := hr8.bd
  refine r_op rfl rfl rfl (run_lenSl rfl (by exact rfl) Tryz.underlying68) ?_
  refine r_op rfl rfl rfl (run_mv (v := .int _ _) rfl (by exact rfl)) ?_
  refine r_nil ?_
  refine r_block ?_
  refine r_loop (α := Nat) [8, 9, 10, 25, 26, 27, 28, 29, 30, 31, 32, 33, 34, 35, 36, 37, 38, 39, 40, 41, 42, 43, 44, 45, 46, 47, 48, 49, 50] (fun k g w => ∃ m : List (Str × Unit), g 25 = .int .i64 (k : Nat) ∧ k ≤ (if q = [] then ([] : List Ende) else endsL c q).length ∧ MapIs w b5 S (fun _ : Unit => Value.agg #[]) m ∧ KeyIs m (foldF (fun _ => true) (lowS p) fwd ((if q = [] then ([] : List Ende) else endsL c q).take k)) ∧ w8.heap.size ≤ w.heap.size ∧ Evo w0 w []) (fun k => (if q = [] then ([] : List Ende) else endsL c q).length - k) 0 ?_ ?_
  ·refine ⟨_, (by first | exact rfl | exact congrArg (Value.int _) (by omega) | exact congrArg (Value.int _) (by dsimp only; omega) | exact congrArg (Value.int _) (by simp) | exact congrArg S (by simp)), (by first | assumption | omega | (dsimp only; omega) | (simp; done)), hmb5, (KeyIs.one _), (by first | assumption | omega | (dsimp only; omega) | (simp; done)), hV⟩
  ·rintro k g w10 ⟨m, hj11, hk_k, hmb5, hks, hzl9, hV⟩
   have hs_w10hV := hV.size
   have hlt12 := hmb5.lt
   replace hc := hc0.now hV
   replace hr8 := hr80 _ hV
   refine r_know (i := 25) (v := .int .i64 (k : Nat)) (by exact hj11) ?_
   have hbk := ends_ifbd hbe k
   have hb1 := hbk.1
   have hb2 := hbk.2
   refine r_seq ?_
   refine r_region ?_
   refine r_op rfl rfl rfl (run_lss rfl (by exact rfl) (by exact rfl)) ?_
   refine r_nil ?_
   refine r_seq ?_
   refine r_cond (by exact rfl) (fun hc13 => ?_) (fun hc13 => ?_)
   ·skip
    refine r_skip ?_
    refine r_seq ?_
    refine r_block ?_
    refine r_seq ?_
    refine r_region ?_
    refine r_op rfl rfl rfl (run_ix (k) rfl Tryz.underlying68 ty_107 (by exact rfl) (by exact rfl) (by first | exact rfl | omega) (by omega) (hr8.addr (i := k) (by omega))) ?_
    have hA140 := fun (w' : World) (h : Evo w0 w' []) => (hr80 w' h).atD (k) (by omega)
    have hA14 := hA140 _ hV
    refine r_op rfl rfl rfl (run_ldN rfl ag_107 ty_107 (by exact rfl) rfl hA14) ?_
    refine r_var (zs := [_, _]) (vs := [_, _]) ty_107 (by exact rfl) rfl (by exact rfl) (fun _ => rfl) (by exact rfl) rfl rfl (by exact rfl) ?_
    intro b15 w16 heb15 hEw16 hbb15 hzb15
    have hs_w16 := (hEw16).size
    replace hV := evo_step0 hV hEw16
    replace hc := hc0.now hV
    replace hmb5 := hmb5.evo0 hEw16
    have hAb15 := hbb15.at
    refine r_nil ?_
    refine r_seq ?_
    refine r_region ?_
    refine r_op rfl rfl rfl (run_mv (v := S _) rfl (by exact rfl)) ?_
    refine r_op rfl rfl rfl (run_fa rfl (by exact rfl) fo_107_0) ?_
    refine r_op rfl rfl rfl (run_ld1 rfl ag_9 (by exact rfl) (hAb15.cell 0 (by exact rfl))) ?_
    refine r_opcall rfl rfl rfl (run_callf (vs := [S _, S _]) rfl (by exact rfl) Tryz.func64 rfl (by kernel_rfl)) (s_cs_calls (by first | omega | (simp; omega)) (by first | omega | (simp; omega))) ?_
    rintro e w17 ⟨rfl, hE17⟩
    refine ⟨_, rfl, ?_⟩
    have hs_w17 := (hE17).size
    replace hV := evo_step0 hV hE17
    replace hc := hc0.now hV
    replace hmb5 := hmb5.evo0 hE17
    replace hbb15 := hbb15.evo0 hE17
    replace hAb15 := hAb15.evo0 hE17
    refine r_op rfl rfl rfl (run_mv (v := .tuple _) rfl (by exact rfl)) ?_
    refine r_op rfl rfl rfl (run_extract (v := S _) rfl (by exact rfl) (by exact rfl)) ?_
    refine r_op rfl rfl rfl (run_extract (v := .bool _) rfl (by exact rfl) (by exact rfl)) ?_
    refine r_op rfl rfl rfl (run_asg (v := S _) rfl (by exact rfl)) ?_
    refine r_op rfl rfl rfl (run_asg (v := .bool _) rfl (by exact rfl)) ?_
    refine r_nil ?_
    refine r_seq ?_
    have hcl := cut_len (lowS p) ((if q = [] then ([] : List Ende) else endsL c q).getD k default).strip; have hlw := lowS_len p
    refine r_region ?_
    refine r_op rfl rfl rfl (run_mvb rfl (by exact rfl)) ?_
    refine r_op rfl rfl rfl (run_mv (v := .bool _) rfl (by exact rfl)) ?_
    refine r_g rfl (wantT (by exact rfl)) rfl (fun hg => run_mv (v := S _) rfl (by exact rfl)) ?_
    refine r_g rfl (wantT (by exact rfl)) rfl (fun hg => run_fa rfl (by exact rfl) fo_107_1) ?_
    refine r_g rfl (wantT (by exact rfl)) rfl (fun hg => run_ld1 rfl ag_9 (glv (by exact rfl) (fun h => h) hg) (hAb15.cell 1 (by exact rfl))) ?_
    refine r_g rfl (wantT (by exact rfl)) rfl (fun hg => run_sadd rfl (glv (by exact rfl) (fun h => h) hg) (glv (by exact rfl) (fun h => h) hg) (by first | omega | (simp; done) | (simp; omega))) ?_
    refine r_g rfl (wantT (by exact rfl)) rfl (fun hg => run_sneq rfl (glv (by exact rfl) (fun h => h) hg) (by exact rfl)) ?_
    refine r_op rfl rfl rfl (run_pick_and rfl (by exact rfl) (fun hq => glv (by exact rfl) (fun h => h) hq) rfl) ?_
    refine r_nil ?_
    refine r_cond (by exact rfl) (fun hc18 => ?_) (fun hc18 => ?_)
    ·skip
     refine r_region ?_
     refine r_op rfl rfl rfl (run_mv (v := .map _) rfl (by exact rfl)) ?_
     refine r_op rfl rfl rfl (run_mv (v := S _) rfl (by exact rfl)) ?_
     refine r_op rfl rfl rfl (run_fa rfl (by exact rfl) fo_107_1) ?_
     refine r_op rfl rfl rfl (run_ld1 rfl ag_9 (by exact rfl) (hAb15.cell 1 (by exact rfl))) ?_
     refine r_op rfl rfl rfl (run_sadd rfl (by exact rfl) (by exact rfl) (by first | omega | (simp; done) | (simp; omega))) ?_
     refine r_op rfl rfl rfl (run_bld (pv := []) (zs := []) (cells := []) rfl ty_96 (by exact rfl) pl_96 (by exact rfl) (by exact rfl)) ?_
     refine r_mapset (a := _) (v := ()) (key_str Tryz.underlying9) Tryz.underlying76 (by exact rfl) (by exact rfl) (by exact rfl) hmb5 ?_
     intro w19 hEw19 hzw19 hm_new
     have hs_w19 := (hEw19).size
     replace hV := evo_step1 hV hEw19 (by first | exact .inl (by omega) | exact .inr (by simp))
     replace hc := hc0.now hV
     replace hmb5 := hm_new
     clear hm_new
     refine r_nil ?_
     refine r_blk ?_
     refine r_region ?_
     refine r_op rfl rfl rfl (run_add rfl (by exact rfl) (by exact rfl) (by omega) (by omega)) ?_
     refine r_op rfl rfl rfl (run_mv (v := .int _ _) rfl (by exact rfl)) ?_
     refine r_nil ?_
     refine r_again (k + 1) ?_ ?_ ?_
     ·first | omega | (dsimp only; omega)
     ·refine ⟨_, (by first | exact rfl | exact congrArg (Value.int _) (by omega) | exact congrArg (Value.int _) (by dsimp only; omega) | exact congrArg (Value.int _) (by simp) | exact congrArg S (by simp)), (by first | assumption | omega | (dsimp only; omega) | (simp; done)), hmb5, (by first | exact cut_yes hks (by omega) hc18 | exact cut_no hks (by omega) hc18), (by first | assumption | omega | (dsimp only; omega) | (simp; done)), hV⟩
     ·repeat (first | (with_reducible exact Agree.merge _ _ _) | (with_reducible exact Agree.refl _ _) | (with_reducible refine Agree.upd ?_ _ _ rfl) | ((with_reducible refine Agree.inner ?_ ?_); (kernel_rfl)))
    ·skip
     refine r_skip ?_
     refine r_blk ?_
     refine r_region ?_
     refine r_op rfl rfl rfl (run_add rfl (by exact rfl) (by exact rfl) (by omega) (by omega)) ?_
     refine r_op rfl rfl rfl (run_mv (v := .int _ _) rfl (by exact rfl)) ?_
     refine r_nil ?_
     refine r_again (k + 1) ?_ ?_ ?_
     ·first | omega | (dsimp only; omega)
     ·refine ⟨_, (by first | exact rfl | exact congrArg (Value.int _) (by omega) | exact congrArg (Value.int _) (by dsimp only; omega) | exact congrArg (Value.int _) (by simp) | exact congrArg S (by simp)), (by first | assumption | omega | (dsimp only; omega) | (simp; done)), hmb5, (by first | exact cut_yes hks (by omega) hc18 | exact cut_no hks (by omega) hc18), (by first | assumption | omega | (dsimp only; omega) | (simp; done)), hV⟩
     ·repeat (first | (with_reducible exact Agree.merge _ _ _) | (with_reducible exact Agree.refl _ _) | (with_reducible refine Agree.upd ?_ _ _ rfl) | ((with_reducible refine Agree.inner ?_ ?_); (kernel_rfl)))
   ·skip
    refine r_exit rfl ?_
    refine r_seq ?_
    refine r_region ?_
    refine r_op rfl rfl rfl (run_mv (v := .map _) rfl (by exact rfl)) ?_
    refine r_opcall rfl rfl rfl (run_callf (vs := [.map _]) rfl (by exact rfl) Tryz.func65 rfl (by kernel_rfl)) (sorted_calls hmb5 (key_len hks (fun k => ends_ifbd hbe k) (by rw [lowS_len]; omega)) (by have h9 := key_cnt hks (foldF_sorted _ _ _ _); have h8 := foldF_len (fun _ => true) (lowS p) fwd ((if q = [] then ([] : List Ende) else endsL c q).take k); have h7 : ((if q = [] then ([] : List Ende) else endsL c q).take k).length ≤ (if q = [] then ([] : List Ende) else endsL c q).length := List.length_take_le' _ _; have h6 := ends_iflen hen; omega)) ?_
    rintro e w20 ⟨vs20, rfl, hE20, hsr20⟩
    refine ⟨_, rfl, ?_⟩
    have hs_w20 := (hE20).size
    replace hV := evo_step0 hV hE20
    replace hc := hc0.now hV
    replace hmb5 := hmb5.evo0 hE20
    refine r_op rfl rfl rfl (run_asg (v := vs20) rfl (by exact rfl)) ?_
    refine r_nil ?_
    refine r_ret (res1 (v := vs20) rfl (by exact rfl)) ?_
    have e9 : sortS (m.map (·.1)) = formsC c p q := by rw [hks.sorted (foldF_sorted _ _ _ _), forms_if (by assumption), List.take_of_length_le (by omega)]
    exact ⟨_, rfl, hV, by have h9 := hsr20; rw [e9] at h9; exact h9.base_le (by omega)⟩
theorem set_step {m : List (Str × Unit)} {l : List Str} {k : Nat} (hk : k < l.length) (h : ∀ s, (getM m s).isSome = true ↔ s ∈ l.take k) (s : Str) : (getM (setM m (l.getD k default) ()) s).isSome = true ↔ s ∈ l.take (k + 1) := by
  rw [take_succD l k hk, List.mem_append, List.mem_singleton, getM_setM]
  by_cases e : s = l.getD k default
  · simp [e]
  · rw [if_neg (by first | exact e | exact fun q => e q.symm), h s]
    exact ⟨.inl, fun q => q.elim id (fun q => absurd q e)⟩
theorem set_calls {ao : Option Addr} {b off cap : Nat} {l : List Str} {w0 : World} (hl : RowE w0 ao b off cap l) :
    Calls Tryz.prog 35 #[.slice ao l.length cap] w0 fun e w' => ∃ bm, e = .returned (.map (some bm)) ∧ Evo w0 w' [] ∧ SetIs w' bm l ∧ w0.heap.size ≤ bm := by
 refine calls_enter (n := 18) (args := [.slice ao l.length cap]) Tryz.func35 rfl Tryz.ntmps35 rfl ?_
 have hV : Evo w0 w0 [] := Evo.refl _ _
 have hl0 := keepE hl
 have hbd_hl := hl.bd
 refine r_seq ?_
 refine r_region ?_
 refine r_op rfl rfl rfl (run_asg (v := .map _) rfl (by exact rfl)) ?_
 refine r_nil ?_
 refine r_seq ?_
 refine r_region ?_
 refine r_makeMap (α := Str) (β := Unit) S eU rfl ?_
 intro b1 w2 heb1 hEw2 hmb1 hzb1
 have hs_w2 := (hEw2).size
 replace hV := evo_step0 hV hEw2
 replace hl := hl0 _ hV
 refine r_op rfl rfl rfl (run_asg (v := .map _) rfl (by exact rfl)) ?_
 refine r_nil ?_
 refine r_seq ?_
 refine r_seq ?_
 refine r_region ?_
 refine r_op rfl rfl rfl (run_mv (v := .slice _ _ _) rfl (by exact rfl)) ?_
 refine r_op rfl rfl rfl (run_lenSl rfl (by exact rfl) Tryz.underlying40) ?_
 refine r_op rfl rfl rfl (run_mv (v := .int _ _) rfl (by exact rfl)) ?_
 refine r_nil ?_
 refine r_block ?_
 refine r_loop (α := Nat) [5, 9, 10, 11, 12, 13, 14, 15, 16] (fun k g w => ∃ m : List (Str × Unit), g 9 = .int .i64 (k : Nat) ∧ k ≤ l.length ∧ MapIs w b1 S eU m ∧ (∀ s, (getM m s).isSome = true ↔ s ∈ l.take k) ∧ w2.heap.size ≤ w.heap.size ∧ Evo w0 w []) (fun k => l.length - k) 0 ?_ ?_
 ·refine ⟨_, (by first | exact rfl | exact congrArg (Value.int _) (by omega) | exact congrArg (Value.int _) (by dsimp only; omega) | exact congrArg (Value.int _) (by simp) | exact congrArg S (by simp)), (by first | assumption | omega | (dsimp only; omega) | (simp; done)), hmb1, (fun s => by simp [getM]), (by first | assumption | omega | (dsimp only; omega) | (simp; done)), hV⟩
 ·rintro k g w4 ⟨m, hj5, hk_k, hmb1, hms, hzl3, hV⟩
  have hs_w4hV := hV.size
  have hlt6 := hmb1.lt
  replace hl := hl0 _ hV
  refine r_know (i := 9) (v := .int .i64 (k : Nat)) (by exact hj5) ?_
  refine r_seq ?_
  refine r_region ?_
  refine r_op rfl rfl rfl (run_lss rfl (by exact rfl) (by exact rfl)) ?_
  refine r_nil ?_
  refine r_seq ?_
  refine r_cond (by exact rfl) (fun hc7 => ?_) (fun hc7 => ?_)
  ·skip
   refine r_skip ?_
   refine r_seq ?_
   refine r_block ?_
   refine r_seq ?_
   refine r_region ?_
   refine r_op rfl rfl rfl (run_ix (k) rfl Tryz.underlying40 ty_9 (by exact rfl) (by exact rfl) (by first | exact rfl | omega) (by omega) (hl.addr (i := k) (by omega))) ?_
   have hA80 := fun (w' : World) (h : Evo w0 w' []) => (hl0 w' h).atD (k) (by omega)
   have hA8 := hA80 _ hV
   refine r_op rfl rfl rfl (run_ld1 rfl ag_9 (by exact rfl) (hA8.cell 0 (by exact rfl))) ?_
   refine r_op rfl rfl rfl (run_asg (v := S _) rfl (by exact rfl)) ?_
   refine r_nil ?_
   refine r_region ?_
   refine r_op rfl rfl rfl (run_mv (v := .map _) rfl (by exact rfl)) ?_
   refine r_op rfl rfl rfl (run_mv (v := S _) rfl (by exact rfl)) ?_
   refine r_op rfl rfl rfl (run_bld (pv := []) (zs := []) (cells := []) rfl ty_96 (by exact rfl) pl_96 (by exact rfl) (by exact rfl)) ?_
   refine r_mapset (a := _) (v := ()) (key_str Tryz.underlying9) Tryz.underlying76 (by exact rfl) (by exact rfl) (by exact rfl) hmb1 ?_
   intro w9 hEw9 hzw9 hm_new
   have hs_w9 := (hEw9).size
   replace hV := evo_step1 hV hEw9 (by first | exact .inl (by omega) | exact .inr (by simp))
   replace hl := hl0 _ hV
   replace hmb1 := hm_new
   clear hm_new
   refine r_nil ?_
   refine r_blk ?_
   refine r_region ?_
   refine r_op rfl rfl rfl (run_add rfl (by exact rfl) (by exact rfl) (by omega) (by omega)) ?_
   refine r_op rfl rfl rfl (run_mv (v := .int _ _) rfl (by exact rfl)) ?_
   refine r_nil ?_
   refine r_again (k + 1) ?_ ?_ ?_
   ·first | omega | (dsimp only; omega)
   ·refine ⟨_, (by first | exact rfl | exact congrArg (Value.int _) (by omega) | exact congrArg (Value.int _) (by dsimp only; omega) | exact congrArg (Value.int _) (by simp) | exact congrArg S (by simp)), (by first | assumption | omega | (dsimp only; omega) | (simp; done)), hmb1, (set_step (by omega) hms), (by first | assumption | omega | (dsimp only; omega) | (simp; done)), hV⟩
   ·repeat (first | (with_reducible exact Agree.merge _ _ _) | (with_reducible exact Agree.refl _ _) | (with_reducible refine Agree.upd ?_ _ _ rfl) | ((with_reducible refine Agree.inner ?_ ?_); (kernel_rfl)))
  ·skip
   refine r_exit rfl ?_
   refine r_seq ?_
   refine r_region ?_
   refine r_op rfl rfl rfl (run_mv (v := .map _) rfl (by exact rfl)) ?_
   refine r_op rfl rfl rfl (run_asg (v := .map _) rfl (by exact rfl)) ?_
   refine r_nil ?_
   refine r_ret (res1 (v := .map _) rfl (by exact rfl)) ?_
   exact ⟨_, rfl, hV, ⟨m, hmb1, fun s => by rw [hms s, List.take_of_length_le (by omega)]⟩, by omega⟩
end Go.Proofs.YtkklomiipkipnaaGreatDoor
