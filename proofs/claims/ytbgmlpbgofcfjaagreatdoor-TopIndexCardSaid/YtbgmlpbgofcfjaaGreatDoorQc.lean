/-
  Library, plain laws and walks that the statements reach (joined by a program out of smaller texts).
-/
import Derived.Test.YtbgmlpbgofcfjaaGreatDoorQb
import Derived.Test.YtbgmlpbgofcfjaaGreatDoorQa
import Derived.Shelf.SlSortCmp.NoneTotal
import Derived.Test.YtbgmlpbgofcfjaaGreatDoorProg
set_option linter.unusedVariables false
set_option linter.unusedSimpArgs false
namespace Go.Proofs.YtbgmlpbgofcfjaaGreatDoor
open Go.RowKit Go.Vc Go.Proofs.Tryz
theorem Gu {ao : Option Addr} {b off cap : Nat} {f : List Vc.Item} {w0 : World} (hf : RowE w0 ao b off cap f) (bl : Small f) :
    Calls Tryz.prog 143 #[.slice ao f.length cap] w0 fun e w' => ∃ v, e = .returned v ∧ Evo w0 w' [] ∧ OwnE w' w0.heap.size 71 v (Bf f) := by
 have b2 := bl.1; have b3 := bl.2
 refine AG (n := 61) func143 rfl ntmps143 rfl ?_
 have J : Evo w0 w0 [] := Evo.refl _ _
 have bb := A9 hf
 have bq := hf.bd
 refine Zs (Zn Ew (Zs (Zn Ew (AE (Zs (Zo Bi (Zo (AQ rfl η underlying33) (Zn AU (AK ?_)))))))))
 refine Aq (α := Nat) [3, 4, 5, 6, 9, 10, 11, 12, 13, 14, 15, 16, 17, 18, 19, 20, 21, 22, 23, 24, 25, 26, 27, 28, 29, 30, 31, 32, 33, 34, 35, 36, 37, 38, 39, 40, 41, 42, 43, 44, 45, 46, 47, 48, 49, 50, 51, 52, 53, 54, 55, 56, 57, 58, 59] (fun k g w => ∃ vo : Value, g 9 = .int .i64 (k : Nat) ∧ g 3 = vo ∧ k ≤ f.length ∧ OwnE w w0.heap.size 71 vo (Bf (f.take k)) ∧ w0.heap.size ≤ w.heap.size ∧ Evo w0 w []) (fun k => f.length - k) 0 ?_ ?_
 refine ⟨_, σ, rfl, δ, (OwnE.nil _ _ _), δ, J⟩
 rintro k g w2 ⟨vo, hj3, hj4, hk_k, j, hzl1, J⟩
 have bf := J.size
 refine Zk 9 hj3 (Zk 3 hj4 (Zs (Zn Dn (AE (AH η (fun br => ?_) (fun br => ?_))))))
 refine AJ (AE (AK (Zs (Zo AU (Zn Am (AE ?_))))))
 have bc := fun g I => (j.block (g := g) I).2
 refine AB (Zo Bi (Zo AU (Zo (Ab (k) rfl underlying33 AY η η χ ω ((bb _ J).addr (i := k) ω)) ?_)))
 have aT := fun (w' : World) (h : Evo w0 w' []) => (bb w' h).atD (k) ω
 refine Zo (AL rfl CP AY η rfl (aT _ J)) ?_
 have az := fun g I => (j.block (g := g) I).2
 refine Bq (zs := [_, _, _]) (vs := [_, _, _]) AY η rfl η (fun _ => rfl) η rfl rfl η ?_
 intro b8 w9 J8 E9 B8 Y8
 have Q9 := E9.size
 replace J := Z0 J E9
 replace j := j.evo0 E9
 have C := B8.at
 refine Ag (AE (AE ?_))
 have bL : ∀ g, vo.ownBlock = some g → g ≠ b8 := fun g I h => by have := bc g I; omega
 have bX := D9 (f.take k); have bY : (f.take k).length ≤ k := List.length_take_le _ _; have b0 := DX f k; have b1 := El f k; have b4 := El (Bf (f.take k)) ((Bf (f.take k)).length - 1); have b5 := D4 (f.take k)
 refine AB (Zo (AD rfl η CG) (Zo (AA rfl Ae η (C.cell 0 η)) (Zn (BP rfl η η) (AH η (fun a1 => ?_) (fun a1 => ?_)))))
 refine Zs (Zo (AN (v := vo) rfl η) (Zo (AL rfl CP AY η rfl C) (BL (u := .agg _) (y := ⟨_, _, _⟩) rfl rfl underlying33 AY η j (fun _ => η) η ξ (τ) (τ) ω ?_)))
 intro q_v11 v11 w12 E12 hov11 hlv11
 have bM := E12.size
 replace J := AP J E12 (fun g I => .inl (by first | exact (j.block I).1 | (have := j.block I; omega)))
 replace B8 := B8.evo E12 (by intro hm; have aS := Option.mem_toList.1 hm; have := az _ aS; omega)
 replace C := C.evo E12 (by intro hm; have aS := Option.mem_toList.1 hm; have := az _ aS; omega)
 refine Zn (AR (v := v11) rfl η) (Ak rfl (AB (Zo Br (Zn AU (Zg (k + 1) ?_)))))
 refine ⟨_, σ, rfl, δ, (by first | (rw [Bc f k ω, CI κ]; exact hov11) | (rw [Bc f k ω, D0 ω κ]; exact hov11) | (rw [Bc f k ω, Gr ω κ κ]; exact hov11) | (rw [Bc f k ω, Eo ω κ κ]; exact hov11)), δ, J⟩
 refine AJ (AE (Zs (Zo (AD rfl η Bp) (Zo (AA rfl BX η (C.cell 1 η)) (Zn (Fw rfl η η) (AH η (fun a_ => ?_) (fun a_ => ?_)))))))
 refine Ak rfl (AB (Zo Br (Zn AU (Zg (k + 1) ?_))))
 refine ⟨_, σ, rfl, δ, (by first | (rw [Bc f k ω, CI κ]; exact j) | (rw [Bc f k ω, D0 ω κ]; exact j) | (rw [Bc f k ω, Gr ω κ κ]; exact j) | (rw [Bc f k ω, Eo ω κ κ]; exact j)), δ, J⟩
 refine AJ (Zs (Zo (AN (v := vo) rfl η) (Zo (Ci rfl η underlying33 j) (Zn Am (AE ?_)))))
 obtain ⟨bs, g14, bt, bm, o, bF⟩ := j.rowOf
 subst bm
 refine AB (Zo AU (Zo Ve (Zo Cb ?_)))
 refine Aj rfl BW rfl (fun I => Bi) ?_
 refine Aj rfl BW rfl (fun I => AU) ?_
 refine Aj rfl BW rfl (fun I => FK rfl (Ar I) η ω ω) ?_
 refine Aj rfl BW rfl (fun I => Ab (((Bf (f.take k)).length - 1)) rfl underlying33 AY (Ar I) (Ar I) ω ω (o.addr (i := ((Bf (f.take k)).length - 1)) ω)) ?_
 refine Aj rfl BW rfl (fun I => AD rfl (Ar I) CG) ?_
 refine Aj rfl BW rfl (fun I => AA rfl Ae (Ar I) ((o.atD (((Bf (f.take k)).length - 1)) ω).cell 0 η)) ?_
 refine Aj rfl BW rfl (fun I => BK rfl (Ar I) η) ?_
 refine Zn Ht (AH η (fun ba => ?_) (fun ba => ?_))
 have bo := B8
 have al := C
 have U := o
 have bA := J
 refine Aw ([]) ζ ?_
 intro w16 F17 hC18
 have bQ := F17.size
 replace J := Z0 J F17
 replace j := j.evo0 F17
 replace B8 := B8.evo0 F17
 replace C := C.evo0 F17
 replace o := o.evo0 F17
 refine Zt (i := 0) η (fun w' R => Bi) hC18 (Zt (i := 1) η (fun w' R => AU) hC18 (Zt (i := 2) η (fun w' R => FK rfl η η ω ω) hC18 (Zt (i := 3) η (fun w' R => Bi) hC18 (Zt (i := 4) η (fun w' R => AU) hC18 (Zt (i := 5) η (fun w' R => FK rfl η η ω ω) hC18 (Zt (i := 6) η (fun w' R => Ab (((Bf (f.take k)).length - 1)) rfl underlying33 AY η η ω ω (o.addr (i := ((Bf (f.take k)).length - 1)) ω)) hC18 ?_))))))
 have bx := o.atD (((Bf (f.take k)).length - 1)) ω
 have ag := U.atD (((Bf (f.take k)).length - 1)) ω
 refine Zt (i := 7) η (fun w' R => AD rfl η Bp) hC18 (Zt (i := 8) η (fun w' R => AA rfl BX η ((ag.evo0 R).cell 1 η)) hC18 (Zt (i := 9) η (fun w' R => AD rfl η Bp) hC18 (Zt (i := 10) η (fun w' R => AA rfl BX η ((al.evo0 R).cell 1 η)) hC18 (Zt (i := 11) η (fun w' R => Bg rfl η η ω) hC18 (Zt (i := 12) η (fun w' R => A2 (pv := [(0, .int _ _), (1, S _)]) (zs := [_, _, _]) (cells := [_, _, _]) rfl AY η Eu η η) hC18 (Zt (i := 13) η (fun w' R => Ab (((Bf (f.take k)).length - 1)) rfl underlying33 AY η η ω ω (o.addr (i := ((Bf (f.take k)).length - 1)) ω)) hC18 ?_))))))
 have bz := o.atD (((Bf (f.take k)).length - 1)) ω
 have bn := U.atD (((Bf (f.take k)).length - 1)) ω
 refine Zh (i := 14) ?_
 refine NO (u := .agg _) (vs := [_, _, _]) (((Bf (f.take k)).length - 1)) 0 ⟨_, _, _⟩ η rfl (by first | rfl | omega) η j o ω AY η rfl η rfl (by show [_, _, _] = [_, _, _]; first | (dsimp only; done) | exact rfl | (dsimp only; exact rfl)) ?_
 intro w21 E21 V21 ho_new
 have bR := E21.size
 replace J := AP J E21 (fun g I => .inl (by first | exact (j.block I).1 | (have := j.block I; omega)))
 replace j := ho_new
 clear ho_new
 refine Ah ζ ?_
 refine A5 ζ ?_
 refine AX (AB (Zo Br (Zn AU (Zg (k + 1) ?_))))
 refine ⟨_, σ, rfl, δ, (by first | (rw [Bc f k ω, CI κ]; exact j) | (rw [Bc f k ω, D0 ω κ]; exact j) | (rw [Bc f k ω, Gr ω κ κ]; exact j) | (rw [Bc f k ω, Eo ω κ κ]; exact j)), δ, J⟩
 refine AB (Zo Bi (Zo (AD rfl η Bp) (Zo (AA rfl BX η (C.cell 1 η)) (Zo (A2 (pv := [(0, .int _ _), (1, S _)]) (zs := [_, _, _]) (cells := [_, _, _]) rfl AY η Eu η η) (BL (u := .agg _) (y := ⟨_, _, _⟩) rfl rfl underlying33 AY η j (fun _ => η) η ξ (τ) (τ) ω ?_)))))
 intro q_v22 v22 w23 E23 hov22 hlv22
 have bS := E23.size
 replace J := AP J E23 (fun g I => .inl (by first | exact (j.block I).1 | (have := j.block I; omega)))
 refine Zn (AR (v := v22) rfl η) (AX (AB (Zo Br (Zn AU (Zg (k + 1) ?_)))))
 refine ⟨_, σ, rfl, δ, (by first | (rw [Bc f k ω, CI κ]; exact hov22) | (rw [Bc f k ω, D0 ω κ]; exact hov22) | (rw [Bc f k ω, Gr ω κ κ]; exact hov22) | (rw [Bc f k ω, Eo ω κ κ]; exact hov22)), δ, J⟩
 refine Ak rfl (Zs (Zo (AN (v := vo) rfl η) (Zn (AR (v := vo) rfl η) (AM (C8 (v := vo) rfl η) ?_))))
 exact ⟨_, rfl, J, by rw [List.take_of_length_le ω] at j; exact j⟩
theorem Yg {l : List Int} {x : Int} (k : Nat) (hk : k < l.length) (h : l.getD k default = x) : x ∈ l := by
  have e : l.getD k default = l[k] := by simp [List.getD, hk]
  rw [e] at h; rw [← h]; exact List.getElem_mem hk
theorem YI {l : List Int} {x : Int} (h : ∀ j, j < l.length → ¬ l.getD j default = x) : ¬ x ∈ l := fun C => by
  obtain ⟨j, o, e⟩ := List.getElem_of_mem C
  exact h j o (by simp [List.getD, o, e])
theorem O0 {ao : Option Addr} {b off cap : Nat} {l : List Int} {x : Int} {C : World} (hl : RowE C ao b off cap l) :
    Calls Tryz.prog 16 #[.slice ao l.length cap, .int .i64 x] C fun e w' => e = .returned (.bool (decide (x ∈ l))) ∧ Evo C w' [] := by
 refine AG (n := 18) func16 rfl ntmps16 rfl ?_
 have o : Evo C C [] := Evo.refl _ _
 have R := A9 hl
 have af := hl.bd
 refine Zs (Zn BV (AE (Zs (Zo Bi (Zo (AQ rfl η underlying22) (Zn AU (AK (Aq (α := Nat) [4, 5, 8, 9, 10, 11, 12, 13, 14, 15, 16, 17] (fun k g w => g 8 = .int .i64 (k : Nat) ∧ k ≤ l.length ∧ (∀ j, j < k → ¬ l.getD j default = x) ∧ C.heap.size ≤ w.heap.size ∧ Evo C w []) (fun k => l.length - k) 0 ?_ ?_))))))))
 refine ⟨σ, δ, (fun j h1 => by omega), δ, o⟩
 rintro k g w2 ⟨al, hk_k, hall, hzl1, o⟩
 have U := o.size
 refine Zk 8 al (Zs (Zn Dn (AE (AH η (fun ag => ?_) (fun ag => ?_)))))
 refine AJ (AE (AK (Zs (Zo AU (Zn Am (Zs (Zo Bi (Zo AU (Zo (Ab (k) rfl underlying22 Bd η η χ ω ((R _ o).addr (i := k) ω)) ?_)))))))))
 have J := fun (w' : World) (h : Evo C w' []) => (R w' h).atD (k) ω
 refine Zo (AA rfl Ae η ((J _ o).cell 0 η)) (Zo AU (Zn DA (AH η (fun I => ?_) (fun I => ?_))))
 refine Zs (Zn BV (AM G7 ?_))
 exact ⟨Bn (decide_eq_true (Yg k ω I)).symm, o⟩
 refine AJ (AX (AB (Zo Br (Zn AU (Zg (k + 1) ?_)))))
 refine ⟨σ, δ, (KR hall I), δ, o⟩
 refine Ak rfl (Zs (Zn BV (AM G7 ?_)))
 exact ⟨Bn (decide_eq_false (YI (fun j hj => hall j ω))).symm, o⟩
theorem QJ {ao : Option Addr} {b off cap : Nat} {l : List Int} {x : Int} {C : World} (hl : RowE C ao b off cap l) :
    Calls Tryz.prog 196 #[.slice ao l.length cap, .int .i64 x] C fun e w' => ∃ r, e = .returned (.int .i64 r) ∧ (0 ≤ r ↔ x ∈ l) ∧ Evo C w' [] := by
 refine AG (n := 19) func196 rfl ntmps196 rfl ?_
 have o : Evo C C [] := Evo.refl _ _
 have U := A9 hl
 have ag := hl.bd
 refine Zs (Zn Am (AE (Zs (Zo Bi (Zo (AQ rfl η underlying22) (Zn AU (AK (Aq (α := Nat) [4, 5, 8, 9, 10, 11, 12, 13, 14, 15, 16, 17, 18] (fun k g w => g 8 = .int .i64 (k : Nat) ∧ k ≤ l.length ∧ (∀ j, j < k → ¬ l.getD j default = x) ∧ C.heap.size ≤ w.heap.size ∧ Evo C w []) (fun k => l.length - k) 0 ?_ ?_))))))))
 refine ⟨σ, δ, (fun j h1 => by omega), δ, o⟩
 rintro k g w2 ⟨au, hk_k, hall, hzl1, o⟩
 have af := o.size
 refine Zk 8 au (Zs (Zn Dn (AE (AH η (fun al => ?_) (fun al => ?_)))))
 refine AJ (AE (AK (Zs (Zo AU (Zn Am (Zs (Zo AU (Zo Bi (Zo AU ?_)))))))))
 refine Zo (Ab (k) rfl underlying22 Bd η η χ ω ((U _ o).addr (i := k) ω)) ?_
 have J := fun (w' : World) (h : Evo C w' []) => (U w' h).atD (k) ω
 refine Zo (AA rfl Ae η ((J _ o).cell 0 η)) (Zn DA (AH η (fun R => ?_) (fun R => ?_)))
 refine Zs (Zo AU (Zn Am (AM C3 ?_)))
 exact ⟨_, rfl, ⟨fun _ => Yg k ω ω, fun _ => by omega⟩, o⟩
 refine AJ (AX (AB (Zo Br (Zn AU (Zg (k + 1) ?_)))))
 refine ⟨σ, δ, (KR hall (fun I => R I.symm)), δ, o⟩
 refine Ak rfl (Zs (Zn Am (AM C3 ?_)))
 exact ⟨_, rfl, ⟨fun I => absurd I υ, fun I => absurd I (YI (fun j hj => hall j ω))⟩, o⟩
theorem MD {ao : Option Addr} {b off cap : Nat} {l : List Int} {x : Int} {j : World} (I : RowE j ao b off cap l) :
    Calls Tryz.prog 133 #[.slice ao l.length cap, .int .i64 x] j fun e w' => e = .returned (.bool (decide (x ∈ l))) ∧ Evo j w' [] := by
 refine AG (n := 9) func133 rfl ntmps133 rfl ?_
 have C : Evo j j [] := Evo.refl _ _
 have J := A9 I
 have o := I.bd
 refine Zs (Zn BV (Zs (Zo Bi (Zo AU (Zr [.slice _ _ _, .int _ _] rfl η func196 (QJ I) ?_)))))
 rintro e w1 ⟨R, rfl, hx1, F1⟩
 refine ⟨_, rfl, ?_⟩
 have U := F1.size
 replace C := Z0 C F1
 refine Zo (CV rfl η η) (Zn BV (AM G7 ?_))
 exact ⟨Bn (decide_eq_decide.2 hx1), C⟩
theorem T7 {n : Nat} {j : World} (hn : n ≤ 100000) :
    Calls Tryz.prog 85 #[.int .i64 (n : Nat)] j fun e w' => ∃ v, e = .returned v ∧ Evo j w' [] ∧ OwnE w' j.heap.size 3 v (upL n) := by
 refine AG (n := 15) func85 rfl ntmps85 rfl ?_
 have o : Evo j j [] := Evo.refl _ _
 refine Zs (Zn Ew (Zs (Zn Ew (AE (Zs (Zn Am (AK (Aq (α := Nat) [3, 4, 5, 6, 7, 8, 9, 10, 11, 12, 13] (fun k g w => ∃ C : Value, g 4 = .int .i64 ((k : Nat) + 1) ∧ g 3 = C ∧ OwnE w j.heap.size 3 C (upL k) ∧ k ≤ n ∧ j.heap.size ≤ w.heap.size ∧ Evo j w []) (fun k => n - k) 0 ?_ ?_))))))))
 refine ⟨_, rfl, rfl, (OwnE.nil _ _ _), δ, δ, o⟩
 rintro k g w2 ⟨C, hj3, hj4, hoo, hk, hzl1, o⟩
 have I := o.size
 refine Zk 4 hj3 (Zk 3 hj4 (AE (Zs (Zo AU (Zo AU (Zn (Dx rfl η η) (AH η (fun J => ?_) (fun J => ?_))))))))
 refine AJ (AE (AK (AB (Zo (AN (v := C) rfl η) (Zo AU (BL (u := .int _ _) (y := _) rfl rfl underlying22 Bd η hoo (fun _ => η) η ξ₁ ((by first | (rw [Ee]; omega) | (simp only [Ee]; omega))) ((by first | (rw [Ee]; omega) | (simp only [Ee]; omega))) ω ?_))))))
 intro q_v6 v6 w7 E7 hov6 hlv6
 have U := E7.size
 replace o := AP o E7 (fun g R => .inl (by first | exact (hoo.block R).1 | (have := hoo.block R; omega)))
 refine Zn (AR (v := v6) rfl η) (AX (AB (Zo AU (Zo Br (Zn Am (Zg (k + 1) ?_))))))
 refine ⟨_, (congrArg (Value.int _) ω), rfl, (by rw [ZO]; exact hov6), δ, δ, o⟩
 refine Ak rfl (Zs (Zo (AN (v := C) rfl η) (Zn (AR (v := C) rfl η) (AM (C8 (v := C) rfl η) ?_))))
 exact ⟨_, rfl, o, by rw [show k = n by omega] at hoo; exact hoo⟩
theorem Mw {ao : Option Addr} {b off cap : Nat} {f : List Vc.Item} {U : World} (hf : RowE U ao b off cap f) (aT : Small f) :
    Calls Tryz.prog 84 #[.slice ao f.length cap] U fun e w' => ∃ v, e = .returned v ∧ Evo U w' [] ∧ OwnE w' U.heap.size 3 v (A4 f) := by
 have bn := aT.1
 refine AG (n := 35) func84 rfl ntmps84 rfl ?_
 have C : Evo U U [] := Evo.refl _ _
 have J := A9 hf
 have az := hf.bd
 refine Zs (Zn Ew (Zs (Zn Ew (AE (Zs (Zo Bi (Zo (AQ rfl η underlying33) (Zn AU (AK ?_)))))))))
 refine Aq (α := Nat) [3, 4, 7, 8, 9, 10, 11, 12, 13, 14, 15, 16, 17, 18, 19, 20, 21, 22, 23, 24, 25, 26, 27, 28, 29, 30, 31, 32, 33] (fun k g w => ∃ vo : Value, g 7 = .int .i64 (k : Nat) ∧ g 3 = vo ∧ k ≤ f.length ∧ OwnE w U.heap.size 3 vo (A4 (f.take k)) ∧ U.heap.size ≤ w.heap.size ∧ Evo U w []) (fun k => f.length - k) 0 ?_ ?_
 refine ⟨_, σ, rfl, δ, (OwnE.nil _ _ _), δ, C⟩
 rintro k g w2 ⟨vo, hj3, hj4, hk_k, j, hzl1, C⟩
 have au := C.size
 refine Zk 7 hj3 (Zk 3 hj4 (Zs (Zn Dn (AE (AH η (fun aS => ?_) (fun aS => ?_))))))
 refine AJ (AE (AK (Zs (Zo AU (Zn Am (AE ?_))))))
 have bl := Df (f.take k); have bm : (f.take k).length ≤ k := List.length_take_le _ _
 obtain ⟨bb, g6, bc, a1, R, bf⟩ := j.rowOf
 subst a1
 refine AB (Zo Bi (Zo AU (Zo (Ab (k) rfl underlying33 AY η η χ ω ((J _ C).addr (i := k) ω)) ?_)))
 have al := fun (w' : World) (h : Evo U w' []) => (J w' h).atD (k) ω
 refine Zo (AL rfl CP AY η rfl (al _ C)) (Zr [.agg _] rfl η func144 Jm ?_)
 rintro e w8 ⟨rfl, F8⟩
 refine ⟨_, rfl, ?_⟩
 have Q8 := F8.size
 replace C := Z0 C F8
 replace j := j.evo0 F8
 replace R := R.evo0 F8
 refine Zo (Cc rfl η) ?_
 refine Aj rfl BW rfl (fun I => Bi) ?_
 refine Aj rfl BW rfl (fun I => Bi) ?_
 refine Aj rfl BW rfl (fun I => AU) ?_
 refine Aj rfl BW rfl (fun I => Ab (k) rfl underlying33 AY (Ar I) (Ar I) χ ω ((J _ C).addr (i := k) ω)) ?_
 refine Aj rfl BW rfl (fun I => AD rfl (Ar I) CO) ?_
 refine Aj rfl BW rfl (fun I => AA rfl Ae (Ar I) (((J _ C).atD (k) ω).cell 2 η)) ?_
 refine Dg rfl BW rfl (fun I => BN rfl (BU (v := .slice _ _ _) (Ar I) (BU (v := .int _ _) (Ar I) (rfl))) func16 rfl ζ) (fun I => (O0 R).mono (fun e w' h => ⟨h.1, h.2⟩)) (fun w9 F10 => ?_)
 have Q9 := F10.size
 replace C := Z0 C F10
 replace j := j.evo0 F10
 replace R := R.evo0 F10
 refine Aj rfl BW rfl (fun I => Cd rfl (Ar I)) ?_
 refine Zn Ht (AH η (fun o => ?_) (fun o => ?_))
 refine AB (Zo Bi (Zo Bi (Zo AU (Zo (Ab (k) rfl underlying33 AY η η χ ω ((J _ C).addr (i := k) ω)) ?_))))
 have af := fun (w' : World) (h : Evo U w' []) => (J w' h).atD (k) ω
 refine Zo (AD rfl η CO) (Zo (AA rfl Ae η ((af _ C).cell 2 η)) (BL (u := .int _ _) (y := _) rfl rfl underlying22 Bd η j (fun _ => η) η ξ₁ (τ) (τ) ω ?_))
 intro q_v13 v13 w14 E14 hov13 hlv13
 have ba := E14.size
 replace C := AP C E14 (fun g I => .inl (by first | exact (j.block I).1 | (have := j.block I; omega)))
 refine Zn (AR (v := v13) rfl η) (AX (AB (Zo Br (Zn AU (Zg (k + 1) ?_)))))
 refine ⟨_, σ, rfl, δ, (by first | (rw [CZ f k ω, G9 o.1 (o.2)]; exact hov13) | (rw [CZ f k ω, Fk (by simpa using o)]; exact hov13)), δ, C⟩
 refine AJ (AX (AB (Zo Br (Zn AU (Zg (k + 1) ?_)))))
 refine ⟨_, σ, rfl, δ, (by first | (rw [CZ f k ω, G9 o.1 (o.2)]; exact j) | (rw [CZ f k ω, Fk (by simpa using o)]; exact j)), δ, C⟩
 refine Ak rfl (Zs (Zo (AN (v := vo) rfl η) (Zn (AR (v := vo) rfl η) (AM (C8 (v := vo) rfl η) ?_))))
 exact ⟨_, rfl, C, by rw [List.take_of_length_le ω] at j; exact j⟩
theorem fq : Cy Tryz.prog 4 = some (1, 1, some (.bool false)) := ζ
theorem R6 {m : List (Int × Bool)} {o : List Int} {x : Int} (h : ∀ n, (Az m n).getD false = decide (n ∈ o)) : ∀ n, (Az (Co m x true) n).getD false = decide (n ∈ o ++ [x]) := fun n => by
  rw [CW]
  by_cases j : x = n
  · rw [if_pos j]; subst j; simp
  · rw [if_neg j, h n]
    have : ¬ n = x := fun e => j e.symm
    simp [this]
theorem Gb {ao : Option Addr} {b off cap : Nat} {f : List Vc.Item} {U : World} (hf : RowE U ao b off cap f) (ba : Small f) :
    Calls Tryz.prog 125 #[.slice ao f.length cap] U fun e w' => ∃ v, e = .returned v ∧ Evo U w' [] ∧ OwnE w' U.heap.size 3 v (A4 f) := by
 have br := ba.1
 refine AG (n := 33) func125 rfl ntmps125 rfl ?_
 have J : Evo U U [] := Evo.refl _ _
 have af := A9 hf
 have az := hf.bd
 refine Zs (Zn Ew (Zs (Zn Ew (Zs (DF (α := Int) (β := Bool) (Value.int .i64) Value.bool rfl ?_)))))
 intro b1 w2 J1 E2 j Y1
 have Q2 := E2.size
 replace J := Z0 J E2
 replace hf := af _ J
 refine Zn c5 (AE (Zs (Zo Bi (Zo (AQ rfl η underlying33) (Zn AU (AK (Aq (α := Nat) [3, 6, 10, 11, 12, 13, 14, 15, 16, 17, 18, 19, 20, 21, 22, 23, 24, 25, 26, 27, 28, 29, 30, 31] (fun k g w => ∃ vo : Value, ∃ m : List (Int × Bool), g 10 = .int .i64 (k : Nat) ∧ g 3 = vo ∧ k ≤ f.length ∧ OwnE w w2.heap.size 3 vo (A4 (f.take k)) ∧ MapIs w b1 (Value.int .i64) Value.bool m ∧ (∀ n, (Az m n).getD false = decide (n ∈ A4 (f.take k))) ∧ w2.heap.size ≤ w.heap.size ∧ Evo U w []) (fun k => f.length - k) 0 ?_ ?_)))))))
 refine ⟨_, [], σ, rfl, δ, (OwnE.nil _ _ _), j, (fun n => rfl), δ, J⟩
 rintro k g w4 ⟨vo, m, hj5, hj6, hk_k, C, j, hmm, hzl3, J⟩
 have au := J.size
 have bb := j.lt
 refine Zk 10 hj5 (Zk 3 hj6 (Zs (Zn Dn (AE (AH η (fun aS => ?_) (fun aS => ?_))))))
 refine AJ (AE (AK (Zs (Zo (Ab (k) rfl underlying33 AY η η χ ω ((af _ J).addr (i := k) ω)) ?_))))
 have al := fun (w' : World) (h : Evo U w' []) => (af w' h).atD (k) ω
 refine Zo (AL rfl CP AY η rfl (al _ J)) ?_
 have a_ := fun g R => (C.block (g := g) R).2
 refine Bq (zs := [_, _, _]) (vs := [_, _, _]) AY η rfl η (fun _ => rfl) η rfl rfl η ?_
 intro b11 w12 J11 E12 B11 Y11
 have bc := E12.size
 replace J := Z0 J E12
 replace C := C.evo0 E12
 replace j := j.evo0 E12
 refine Ag (AE ?_)
 have bn := Df (f.take k); have bo : (f.take k).length ≤ k := List.length_take_le _ _
 refine AB (Zo (AL rfl CP AY η rfl B11.at) (Zr [.agg _] rfl η func131 GQ ?_))
 rintro e bs ⟨rfl, F13⟩
 refine ⟨_, rfl, ?_⟩
 have bf := F13.size
 replace J := Z0 J F13
 replace C := C.evo0 F13
 replace j := j.evo0 F13
 replace B11 := B11.evo0 F13
 refine Zo (Cc rfl η) ?_
 refine Aj rfl BW rfl (fun R => TQ) ?_
 refine Aj rfl BW rfl (fun R => AD rfl η CO) ?_
 refine Aj rfl BW rfl (fun R => AA rfl Ae (Ar R) (B11.at.cell 2 η)) ?_
 refine Aj rfl BW rfl (fun R => BM (a := _) (z := false) (v := .bool _) (C7 underlying3) rfl underlying280 fq (Ar R) (Ar R) j rfl) ?_
 refine Aj rfl BW rfl (fun R => Fh rfl (Ar R)) ?_
 refine Zn (Cw rfl η (fun hq => OR η (fun h => h) hq) rfl) ?_
 refine AH η (fun o => ?_) (fun o => ?_)
 refine Zs (Zo TQ (Zo (AD rfl η CO) (Zo (AA rfl Ae η (B11.at.cell 2 η)) (Et (a := _) (C7 underlying3) underlying280 η η η j ?_))))
 intro w15 E15 V15 hm_new
 have bl := E15.size
 replace J := Z1 J E15 ε
 replace C := C.evo E15 (by intro g R hm; simp at hm; subst hm; have := C.block R; omega)
 replace B11 := B11.evo E15 θ
 replace j := hm_new
 clear hm_new
 refine Ag (AB (Zo (AN (v := vo) rfl η) (Zo (AD rfl η CO) (Zo (AA rfl Ae η (B11.at.cell 2 η)) (BL (u := .int _ _) (y := _) rfl rfl underlying22 Bd η C (fun _ => η) η ξ₁ (τ) (τ) ω ?_)))))
 intro q_v16 v16 w17 E17 hov16 hlv16
 have bm := E17.size
 replace J := AP J E17 (fun g R => .inl (by first | exact (C.block R).1 | (have := C.block R; omega)))
 replace j := j.evo E17 (by intro hm; have a1 := Option.mem_toList.1 hm; have := C.block a1; omega)
 refine Zn (AR (v := v16) rfl η) (AX (AB (Zo Br (Zn AU (Zg (k + 1) ?_)))))
 refine ⟨_, _, σ, rfl, δ, (by first | (rw [CZ f k ω, G9 o.1 (by have I := o.2; rw [hmm] at I; simpa using I)]; exact hov16) | (rw [CZ f k ω, Fk (fun I => o ⟨I.1, by rw [hmm]; simpa using I.2⟩)]; exact hov16)), j, (by first | (rw [CZ f k ω, G9 o.1 (by have I := o.2; rw [hmm] at I; simpa using I)]; exact R6 hmm) | (rw [CZ f k ω, Fk (fun I => o ⟨I.1, by rw [hmm]; simpa using I.2⟩)]; exact hmm)), δ, J⟩
 refine AJ (AX (AB (Zo Br (Zn AU (Zg (k + 1) ?_)))))
 refine ⟨_, _, σ, rfl, δ, (by first | (rw [CZ f k ω, G9 o.1 (by have I := o.2; rw [hmm] at I; simpa using I)]; exact C) | (rw [CZ f k ω, Fk (fun I => o ⟨I.1, by rw [hmm]; simpa using I.2⟩)]; exact C)), j, (by first | (rw [CZ f k ω, G9 o.1 (by have I := o.2; rw [hmm] at I; simpa using I)]; exact R6 hmm) | (rw [CZ f k ω, Fk (fun I => o ⟨I.1, by rw [hmm]; simpa using I.2⟩)]; exact hmm)), δ, J⟩
 refine Ak rfl (Zs (Zo (AN (v := vo) rfl η) (Zn (AR (v := vo) rfl η) (AM (C8 (v := vo) rfl η) ?_))))
 exact ⟨_, rfl, J, by rw [List.take_of_length_le ω] at C; exact C.base_le ω⟩
theorem IK {n : Nat} {J : World} (hn : n ≤ 100000) :
    Calls Tryz.prog 127 #[.int .i64 (n : Nat)] J fun e w' => ∃ v, e = .returned v ∧ Evo J w' [] ∧ ∃ ao b cap, v = .slice ao (upL n).length cap ∧ RowE w' ao b 0 cap (upL n) := by
 refine AG (n := 19) func127 rfl ntmps127 rfl ?_
 have o : Evo J J [] := Evo.refl _ _
 refine Zs (Zn Ew (Zs (Zo AU (Zf (len := n) (zs := [_]) underlying22 Bd η rfl rfl η η ω ω ω ω ?_))))
 intro bf w1 hebf E1 C hzbf
 have Q1 := E1.size
 replace o := Z0 o E1
 refine Zn (AR (v := .slice (some ⟨bf, 0, none⟩) _ _) rfl η) (AE (Zs (Zo (AN (v := .slice (some ⟨bf, 0, none⟩) _ _) rfl η) (Zo (AQ rfl η underlying22) (Zn AU (AK (Aq (α := Nat) [4, 9, 10, 11, 12, 13, 14, 15, 16, 17] (fun k g w => ∃ R : Nat → List Value, g 9 = .int .i64 (k : Nat) ∧ k ≤ n ∧ FB w bf 3 1 n R ∧ (∀ j, j < k → R j = [.int .i64 ((j : Nat) + 1)]) ∧ w1.heap.size ≤ w.heap.size ∧ Evo J w []) (fun k => n - k) 0 ?_ ?_)))))))
 refine ⟨_, σ, δ, C, (fun j h1 => by omega), δ, o⟩
 rintro k g w3 ⟨R, hj4, hk_k, C, hcc, hzl2, o⟩
 have I := o.size
 have ag := C.lt
 refine Zk 9 hj4 (Zs (Zn Dn (AE (AH η (fun af => ?_) (fun af => ?_)))))
 refine AJ (AE (AK (Zs (Zo AU (Zn Am (AB (Zo (AN (v := .slice (some ⟨bf, 0, none⟩) _ _) rfl η) (Zo AU (Zo AU ?_)))))))))
 refine Zo Br (Zo (Ab (k) rfl underlying22 Bd η η χ ω rfl) (Jz (v := .int _ _) (vs := [_]) (k) η rfl η C ω Bd η rfl η ?_))
 intro w7 E7 V7 hb_new
 have Q7 := E7.size
 replace o := Z1 o E7 (.inl ω)
 replace C := hb_new
 clear hb_new
 refine Ag (AX (AB (Zo Br (Zn AU (Zg (k + 1) ?_)))))
 refine ⟨_, σ, δ, C, (fun j hj => (Decidable.em (j = k)).elim (fun U => by subst U; show ite _ _ _ = _; rw [if_pos rfl]) (fun U => by show ite _ _ _ = _; rw [if_neg U]; exact hcc j ω)), δ, o⟩
 refine Ak rfl (Zs (Zo (AN (v := .slice (some ⟨bf, 0, none⟩) _ _) rfl η) (Zn (AR (v := .slice (some ⟨bf, 0, none⟩) _ _) rfl η) (AM (C8 (v := .slice (some ⟨bf, 0, none⟩) _ _) rfl η) ?_))))
 exact ⟨_, rfl, o, _, _, _, by rw [Ee], dq (upL n) C (Ee n) ω (fun i hi => by rw [hcc i ω, ZJ hi]; rfl)⟩
theorem HP {bz bt bx : Option Addr} {b7 bX bc ba bR a1 bb bS a_ : Nat} {f : List Vc.Item} {R to_ : List Int} {w0 : World} (rf : RowE w0 bz b7 bX bc f) (ra : RowE w0 bt ba bR a1 R) (rb : RowE w0 bx bb bS a_ to_) (cc : Small f) (ds : R.length ≤ 100000) (dO : to_.length ≤ 100000) :
    Calls Tryz.prog 126 #[.slice bz f.length bc, .slice bt R.length a1, .slice bx to_.length a_] w0 fun e w' => ∃ v, e = .returned v ∧ Evo w0 w' [] ∧ OwnE w' w0.heap.size 71 v (Kw R to_ f) := by
 have eb := cc.1
 refine AG (n := 60) func126 rfl ntmps126 rfl ?_
 have I : Evo w0 w0 [] := Evo.refl _ _
 have aT := A9 rf
 have b2 := rf.bd
 have az := A9 ra
 have bY := ra.bd
 have aS := A9 rb
 have b0 := rb.bd
 refine Zs (Zn Ew (Zs (DF (α := Int) (β := Int) (Value.int .i64) (Value.int .i64) rfl ?_)))
 intro b1 w2 J1 E2 o Y1
 have Q2 := E2.size
 replace I := Z0 I E2
 replace rf := aT _ I
 replace ra := az _ I
 replace rb := aS _ I
 refine Zn c5 (AE (Zs (Zo Bi (Zo (AQ rfl η underlying22) (Zo Bi (Zo (AQ rfl η underlying22) (Zo (Eg rfl η η) (Zo TP (Zn Am ?_)))))))))
 refine AK (Aq (α := Nat) [8, 21, 22, 23, 24, 25, 26, 27, 28, 29, 30, 31, 32, 33] (fun j g w => ∃ m : List (Int × Int), g 8 = .int .i64 ((j : Nat) - 1) ∧ MapIs w b1 (Value.int .i64) (Value.int .i64) m ∧ (∀ n, Az m n = DL (R.drop j) (to_.drop j) n) ∧ (j ≤ R.length ∧ j ≤ to_.length) ∧ w2.heap.size ≤ w.heap.size ∧ Evo w0 w []) (fun j => j) (min R.length to_.length) ?_ ?_)
 refine ⟨[], (congrArg (Value.int _) ω), o, (fun n => by rw [Hd ω]; rfl), δ, δ, I⟩
 rintro j g w4 ⟨m, hj5, o, hmm, hj, hzl3, I⟩
 have bM := I.size
 have cr := o.lt
 replace rf := aT _ I
 replace ra := az _ I
 replace rb := aS _ I
 refine Zk 8 hj5 (AE (Zs (Zo AU (Zn (CV rfl η η) (AH η (fun b9 => ?_) (fun b9 => ?_))))))
 refine AJ (AE (AK ?_))
 have b3 := o
 have bf := I
 refine Aw ([]) ζ ?_
 intro w8 F9 hC10
 have Q8 := F9.size
 replace I := Z0 I F9
 replace o := o.evo0 F9
 refine Zt (i := 0) η (fun w' hC => TQ) hC10 (Zt (i := 1) η (fun w' hC => Bi) hC10 (Zt (i := 2) η (fun w' hC => AU) hC10 (Zt (i := 3) η (fun w' hC => Ab ((j - 1)) rfl underlying22 Bd η η ω ω ((az _ I).addr (i := (j - 1)) ω)) hC10 ?_)))
 have bm := fun (w' : World) (h : Evo w0 w' []) => (az w' h).atD ((j - 1)) ω
 refine Zt (i := 4) η (fun w' hC => AA rfl Ae η ((bm _ (CB bf hC)).cell 0 η)) hC10 (Zt (i := 5) η (fun w' hC => Bi) hC10 (Zt (i := 6) η (fun w' hC => AU) hC10 (Zt (i := 7) η (fun w' hC => Ab ((j - 1)) rfl underlying22 Bd η η ω ω ((aS _ I).addr (i := (j - 1)) ω)) hC10 ?_)))
 have bn := fun (w' : World) (h : Evo w0 w' []) => (aS w' h).atD ((j - 1)) ω
 refine Zt (i := 8) η (fun w' hC => AA rfl Ae η ((bn _ (CB bf hC)).cell 0 η)) hC10 ?_
 refine Zh (i := 9) ?_
 refine Et (a := _) (C7 underlying3) underlying281 η η η o ?_
 intro w13 E13 V13 hm_new
 have cv := E13.size
 replace I := Z1 I E13 ε
 replace o := hm_new
 clear hm_new
 refine Ah ζ ?_
 refine A5 ζ ?_
 refine AX (AB (Zo AU (Zo TP (Zn Am (Zg (j - 1) ?_)))))
 refine ⟨_, σ, o, (fun n => by rw [CW, Gk (k := j - 1) ω ω, show j - 1 + 1 = j by omega, hmm n]), δ, δ, I⟩
 refine Ak rfl (AE ?_)
 have b_ : j = 0 := by omega
 subst b_
 simp only [List.drop_zero] at hmm
 refine AB (Zn Ew (AE (Zs (Zo Bi (Zo (AQ rfl η underlying33) (Zn AU (AK (Aq (α := Nat) [9, 11, 12, 13, 36, 37, 38, 39, 40, 41, 42, 43, 44, 45, 46, 47, 48, 49, 50, 51, 52, 53, 54, 55, 56, 57] (fun k g w => ∃ vo : Value, g 36 = .int .i64 (k : Nat) ∧ g 9 = vo ∧ k ≤ f.length ∧ OwnE w w4.heap.size 71 vo (Hc R to_ (f.take k)) ∧ MapIs w b1 (Value.int .i64) (Value.int .i64) m ∧ w4.heap.size ≤ w.heap.size ∧ Evo w0 w []) (fun k => f.length - k) 0 ?_ ?_))))))))
 refine ⟨_, σ, rfl, δ, (OwnE.nil _ _ _), o, δ, I⟩
 rintro k g ec ⟨vo, hj16, hj17, hk_k, C, o, hzl14, I⟩
 have bs := I.size
 have ca := o.lt
 refine Zk 36 hj16 (Zk 9 hj17 (Zs (Zn Dn (AE (AH η (fun bA => ?_) (fun bA => ?_))))))
 refine AJ (AE (AK (AE ?_)))
 have bF := fun g hg => (C.block (g := g) hg).2
 refine AB (Zo (Ab (k) rfl underlying33 AY η η χ ω ((aT _ I).addr (i := k) ω)) ?_)
 have bo := fun (w' : World) (h : Evo w0 w' []) => (aT w' h).atD (k) ω
 refine Zo (AL rfl CP AY η rfl (bo _ I)) ?_
 have cb := fun g hg => (C.block (g := g) hg).2
 refine Bq (zs := [_, _, _]) (vs := [_, _, _]) AY η rfl η (fun _ => rfl) η rfl rfl η ?_
 intro b22 w23 J22 E23 B22 Y22
 have c0 := E23.size
 replace I := Z0 I E23
 replace C := C.evo0 E23
 replace o := o.evo0 E23
 refine Ag (AE (AE ?_))
 have bB : ∀ g, vo.ownBlock = some g → g ≠ b22 := fun g hg h => by have := bF g hg; omega
 have d_ := HJ R to_ (f.take k); have ea : (f.take k).length ≤ k := List.length_take_le _ _
 refine AB (Zo (AL rfl CP AY η rfl B22.at) (Zr [.agg _] rfl η func131 GQ ?_))
 rintro e ej ⟨rfl, F24⟩
 refine ⟨_, rfl, ?_⟩
 have c3 := F24.size
 replace I := Z0 I F24
 replace C := C.evo0 F24
 replace o := o.evo0 F24
 replace B22 := B22.evo0 F24
 refine Ag (JB η (fun ao => ?_) (fun ao => ?_))
 have J : Bh (f.getD k default) = true := ao
 refine Zs (Zo TQ (Zo (AD rfl η CO) (Zo (AA rfl Ae η (B22.at.cell 2 η)) (Zo (GN (a := _) (z := 0) (v := .int _ _) (C7 underlying3) rfl underlying281 Bd η η o rfl) (Zo PW (Zo (AI (v := .int _ _) rfl η η) (Zo (AI (v := .bool _) rfl η η) (Zo Am (Zn BV ?_)))))))))
 refine AE (Zs (Zo (Cc rfl η) (Zn (Cd rfl η) (AH η (fun af => ?_) (fun af => ?_)))))
 have U : DL R to_ (f.getD k default).id = none := by rw [← hmm]; simpa using af
 refine Ak rfl (AB (Zo Br (Zn AU (Zg (k + 1) ?_))))
 refine ⟨_, σ, rfl, δ, (by first | (rw [Bv R to_ f k ω, Eb J]; exact C) | (rw [Bv R to_ f k ω, Gy J U, List.append_nil]; exact C) | (rw [Bv R to_ f k ω, Fm J U]; exact C)), o, δ, I⟩
 have U : DL R to_ (f.getD k default).id = some ((Az m (f.getD k default).id).getD 0) := by rw [← hmm]; cases h9 : Az m (f.getD k default).id with
 | none => rw [h9] at af; simp at af
 | some q => rfl
 refine AJ (AB (Zo AU (Zo (AD rfl η CO) (Ai (v := .int _ _) (vs := [_]) (cs' := [_, _, _]) η η B22 Bd η rfl η rfl η ?_))))
 intro w27 E27 V27 hb_new
 have c9 := E27.size
 replace I := Z1 I E27 ε
 replace C := C.evo E27 (by intro g hg hm; simp at hm; subst hm; exact bB _ hg rfl)
 replace o := o.evo E27 θ
 replace B22 := hb_new
 clear hb_new
 refine Ag (AB (Zo (AN (v := vo) rfl η) (Zo (AL rfl CP AY η rfl B22.at) (BL (u := .agg _) (y := ⟨_, _, _⟩) rfl rfl underlying33 AY η C (fun _ => η) η ξ (τ) (τ) ω ?_))))
 intro q_v28 v28 w29 E29 hov28 hlv28
 have c_ := E29.size
 replace I := AP I E29 (fun g hg => .inl (by first | exact (C.block hg).1 | (have := C.block hg; omega)))
 replace o := o.evo E29 (by intro hm; have bq := Option.mem_toList.1 hm; have := C.block bq; omega)
 refine Zn (AR (v := v28) rfl η) (AX (AB (Zo Br (Zn AU (Zg (k + 1) ?_)))))
 refine ⟨_, σ, rfl, δ, (by first | (rw [Bv R to_ f k ω, Eb J]; exact hov28) | (rw [Bv R to_ f k ω, Gy J U, List.append_nil]; exact hov28) | (rw [Bv R to_ f k ω, Fm J U]; exact hov28)), o, δ, I⟩
 have J : ¬ Bh (f.getD k default) = true := by rw [ao]; simp
 refine AJ (AB (Zo (AN (v := vo) rfl η) (Zo (AL rfl CP AY η rfl B22.at) (BL (u := .agg _) (y := ⟨_, _, _⟩) rfl rfl underlying33 AY η C (fun _ => η) η ξ (τ) (τ) ω ?_))))
 intro q_v30 v30 w31 E31 hov30 hlv30
 have dc := E31.size
 replace I := AP I E31 (fun g hg => .inl (by first | exact (C.block hg).1 | (have := C.block hg; omega)))
 replace o := o.evo E31 (by intro hm; have bq := Option.mem_toList.1 hm; have := C.block bq; omega)
 refine Zn (AR (v := v30) rfl η) (AX (AB (Zo Br (Zn AU (Zg (k + 1) ?_)))))
 refine ⟨_, σ, rfl, δ, (by first | (rw [Bv R to_ f k ω, Eb J]; exact hov30) | (rw [Bv R to_ f k ω, Gy J U, List.append_nil]; exact hov30) | (rw [Bv R to_ f k ω, Fm J U]; exact hov30)), o, δ, I⟩
 refine Ak rfl (AE ?_)
 rw [List.take_of_length_le ω] at C
 refine AB (Zo (AN (v := vo) rfl η) ?_)
 obtain ⟨cm, dp, cp, bQ, bL, cq⟩ := C.rowOf
 subst bQ
 refine Zr [.slice _ _ _] rfl η func115 (MB bL (by first | assumption | exact LN κ | exact Nf κ | (rw [cS]; assumption))) ?_
 rintro e ek ⟨bl, rfl, F33, hon33⟩
 refine ⟨_, rfl, ?_⟩
 have dk := F33.size
 replace I := Z0 I F33
 refine Zn (AR (v := bl) rfl η) (AM (C8 (v := bl) rfl η) ?_)
 exact ⟨_, rfl, I, by have h9 := hon33; exact h9.base_le ω⟩
theorem JJ {bB bz bA : Option Addr} {b6 b1 a1 ba bY aS bb b0 aT : Nat} {f : List Vc.Item} {U to_ : List Int} {w0 : World} (rf : RowE w0 bB b6 b1 a1 f) (ra : RowE w0 bz ba bY aS U) (rb : RowE w0 bA bb b0 aT to_) (ca : Small f) (dO : U.length ≤ 100000) (d_ : to_.length ≤ 100000) :
    Calls Tryz.prog 86 #[.slice bB f.length a1, .slice bz U.length aS, .slice bA to_.length aT] w0 fun e w' => ∃ v, e = .returned v ∧ Evo w0 w' [] ∧ OwnE w' w0.heap.size 71 v (Kw U to_ f) := by
 have ec := ca.1
 refine AG (n := 61) func86 rfl ntmps86 rfl ?_
 have I : Evo w0 w0 [] := Evo.refl _ _
 have bt := A9 rf
 have b5 := rf.bd
 have br := A9 ra
 have b3 := ra.bd
 have bs := A9 rb
 have b4 := rb.bd
 refine Zs (Zn Ew (Zs (Zn Ew (AE (Zs (Zo Bi (Zo (AQ rfl η underlying33) (Zn AU (AK ?_)))))))))
 refine Aq (α := Nat) [7, 8, 9, 10, 13, 14, 15, 16, 17, 18, 19, 20, 21, 22, 23, 24, 25, 26, 27, 28, 29, 30, 31, 32, 33, 34, 35, 36, 37, 38, 39, 40, 41, 42, 43, 44, 45, 46, 47, 48, 49, 50, 51, 52, 53, 54, 55, 56, 57, 58] (fun i g w => ∃ vo : Value, g 13 = .int .i64 (i : Nat) ∧ g 7 = vo ∧ i ≤ f.length ∧ OwnE w w0.heap.size 71 vo (Hc U to_ (f.take i)) ∧ w0.heap.size ≤ w.heap.size ∧ Evo w0 w []) (fun i => f.length - i) 0 ?_ ?_
 refine ⟨_, σ, rfl, δ, (OwnE.nil _ _ _), δ, I⟩
 rintro i g w2 ⟨vo, hj3, hj4, hk_i, o, hzl1, I⟩
 have bS := I.size
 refine Zk 13 hj3 (Zk 7 hj4 (Zs (Zn Dn (AE (AH η (fun b9 => ?_) (fun b9 => ?_))))))
 refine AJ (AE (AK (Zs (Zo AU (Zn Am (AE ?_))))))
 have bQ := fun g hg => (o.block (g := g) hg).2
 refine AB (Zo Bi (Zo AU (Zo (Ab (i) rfl underlying33 AY η η χ ω ((bt _ I).addr (i := i) ω)) ?_)))
 have bF := fun (w' : World) (h : Evo w0 w' []) => (bt w' h).atD (i) ω
 have b7 := bF _ I
 refine Zo (AL rfl CP AY η rfl b7) ?_
 have bf := fun g hg => (o.block (g := g) hg).2
 refine Bq (zs := [_, _, _]) (vs := [_, _, _]) AY η rfl η (fun _ => rfl) η rfl rfl η ?_
 intro b8 w9 J8 E9 B8 Y8
 have Q9 := E9.size
 replace I := Z0 I E9
 replace o := o.evo0 E9
 have j := B8.at
 refine Ag (AE (AE ?_))
 have bc : ∀ g, vo.ownBlock = some g → g ≠ b8 := fun g hg h => by have := bQ g hg; omega
 have ea := HJ U to_ (f.take i); have eb : (f.take i).length ≤ i := List.length_take_le _ _
 refine AB (Zo (AL rfl CP AY η rfl j) (Zr [.agg _] rfl η func144 Jm ?_))
 rintro e cp ⟨rfl, F10⟩
 refine ⟨_, rfl, ?_⟩
 have cv := F10.size
 replace I := Z0 I F10
 replace rf := bt _ I
 replace ra := br _ I
 replace rb := bs _ I
 replace o := o.evo0 F10
 replace B8 := B8.evo0 F10
 replace j := j.evo0 F10
 refine Zn (Fh rfl η) (JB η (fun ao => ?_) (fun ao => ?_))
 have R : ¬ Bh (f.getD i default) = true := by simpa using ao
 refine Zs (Zo (AN (v := vo) rfl η) (Zo (AL rfl CP AY η rfl j) (BL (u := .agg _) (y := ⟨_, _, _⟩) rfl rfl underlying33 AY η o (fun _ => η) η ξ (τ) (τ) ω ?_)))
 intro q_v12 v12 w13 E13 hov12 hlv12
 have c0 := E13.size
 replace I := AP I E13 (fun g hg => .inl (by first | exact (o.block hg).1 | (have := o.block hg; omega)))
 replace B8 := B8.evo E13 (by intro hm; have bo := Option.mem_toList.1 hm; have := bf _ bo; omega)
 replace j := j.evo E13 (by intro hm; have bo := Option.mem_toList.1 hm; have := bf _ bo; omega)
 refine Zn (AR (v := v12) rfl η) (Ak rfl (AB (Zo Br (Zn AU (Zg (i + 1) ?_)))))
 refine ⟨_, σ, rfl, δ, (by first | (rw [Bv U to_ f i ω, Eb R]; exact hov12) | (rw [Bv U to_ f i ω, Fm R (hnf.trans (by rw [Gk ω ω, if_pos ao]))]; exact hov12) | (rw [Bv U to_ f i ω, Gy R (hnf.trans (Hd ω _)), List.append_nil]; exact hov12)), δ, I⟩
 have R : Bh (f.getD i default) = true := by simpa using ao
 refine AJ (Zs (Zn Am (AK (Aq (α := Nat) [7, 10, 27, 28, 29, 30, 31, 32, 33, 34, 35, 36, 37, 38, 39, 40, 41, 42, 43, 44, 45, 46, 47, 48, 49, 50, 51, 52, 53, 54, 55, 56, 57] (fun k g w => g 10 = .int .i64 (k : Nat) ∧ g 7 = vo ∧ OwnE w w0.heap.size 71 vo (Hc U to_ (f.take i)) ∧ Blk w b8 71 [.int .i64 (f.getD i default).kind, S (f.getD i default).text, .int .i64 (f.getD i default).id] ∧ (DL U to_ (f.getD i default).id = DL (U.drop k) (to_.drop k) (f.getD i default).id) ∧ (k ≤ U.length ∧ k ≤ to_.length) ∧ cp.heap.size ≤ w.heap.size ∧ Evo w0 w []) (fun k => U.length - k) 0 ?_ ?_))))
 refine ⟨σ, rfl, o, B8, rfl, δ, δ, I⟩
 rintro k g ej ⟨bM, hj17, o, B8, hnf, hka, hzl14, I⟩
 have bx := I.size
 have b_ := B8.lt
 have j := B8.at
 refine Zk 10 bM (Zk 7 hj17 (AE (Zs (Zo AU (Zo Bi (Zo (AQ rfl η underlying22) (Zo Dn (Zo Cb ?_))))))))
 refine Aj rfl BW rfl (fun hg => AU) ?_
 refine Aj rfl BW rfl (fun hg => Bi) ?_
 refine Aj rfl BW rfl (fun hg => AQ rfl (Ar hg) underlying22) ?_
 refine Aj rfl BW rfl (fun hg => Dc rfl (Ar hg) (Ar hg)) ?_
 refine Zn Ht (AH η (fun a_ => ?_) (fun a_ => ?_))
 refine AJ (AE (AK (AE (Bt ζ ζ (Zq (fun w' J => Bi) (Zq (fun w' J => AU) (Zq (fun w' J => Ab (k) rfl underlying22 Bd η η χ ω ((br _ I).addr (i := k) ω)) ?_)))))))
 have bm := fun (w' : World) (h : Evo w0 w' []) => (br w' h).atD (k) ω
 refine Zq (fun w' J => AA rfl Ae η (((bm _ I).evo0 J).cell 0 η)) (Zq (fun w' J => AD rfl η CO) (Zq (fun w' J => AA rfl Ae η ((j.evo0 J).cell 2 η)) (Zq (fun w' J => BK rfl η η) (EV (fun ek F22 => ?_)))))
 have c3 := F22.size
 replace I := Z0 I F22
 replace o := o.evo0 F22
 replace B8 := B8.evo0 F22
 replace j := j.evo0 F22
 refine AH η (fun au => ?_) (fun au => ?_)
 refine AE ?_
 have b2 := B8
 have al := j
 have bL := I
 refine Aw ([]) ζ ?_
 intro w24 F25 C
 have c9 := F25.size
 replace I := Z0 I F25
 replace o := o.evo0 F25
 replace B8 := B8.evo0 F25
 replace j := j.evo0 F25
 refine Zt (i := 0) η (fun w' J => AN (v := vo) rfl η) C (Zt (i := 1) η (fun w' J => AD rfl η CG) C (Zt (i := 2) η (fun w' J => AA rfl Ae η ((al.evo0 J).cell 0 η)) C (Zt (i := 3) η (fun w' J => AD rfl η Bp) C (Zt (i := 4) η (fun w' J => AA rfl BX η ((al.evo0 J).cell 1 η)) C (Zt (i := 5) η (fun w' J => Bi) C (Zt (i := 6) η (fun w' J => AU) C (Zt (i := 7) η (fun w' J => Ab (k) rfl underlying22 Bd η η χ ω ((bs _ I).addr (i := k) ω)) C ?_)))))))
 have bn := fun (w' : World) (h : Evo w0 w' []) => (bs w' h).atD (k) ω
 refine Zt (i := 8) η (fun w' J => AA rfl Ae η ((bn _ (CB bL J)).cell 0 η)) C (Zt (i := 9) η (fun w' J => A2 (pv := [(0, .int _ _), (1, S _), (2, .int _ _)]) (zs := [_, _, _]) (cells := [_, _, _]) rfl AY η Eu η η) C ?_)
 refine Zh (i := 10) ?_
 refine BT (pv := [(0, .agg _)]) (zs := [_, _, _]) (cs := [_, _, _]) underlying33 AY η rfl η rfl η ?_
 intro b28 w29 J28 E29 B28 Y28
 have c_ := E29.size
 replace I := Z0 I E29
 replace C := Z0 C E29
 replace o := o.evo0 E29
 replace B8 := B8.evo0 E29
 replace j := j.evo0 E29
 have bq := CH (α := Vc.Item) [⟨_, _, _⟩] B28 (by show [_, _, _] = [_, _, _]; first | (dsimp only; done) | exact rfl | (dsimp only; exact rfl)) rfl
 refine AZ C ?_
 refine Zh (i := 11) ?_
 refine Bs rfl underlying33 AY η o η η bq rfl (τ) (τ) ω ?_
 intro v30 w31 E31 hov30 hlv30
 have dc := E31.size
 replace I := AP I E31 (fun g hg => .inl (by first | exact (o.block hg).1 | (have := o.block hg; omega)))
 replace B8 := B8.evo E31 (by intro hm; exact bc _ (Option.mem_toList.1 hm) rfl)
 replace j := j.evo E31 (by intro hm; exact bc _ (Option.mem_toList.1 hm) rfl)
 refine Ah ζ ?_
 refine Zh (i := 12) ?_
 refine Zo (AR (v := v30) rfl η) ?_
 refine Ah ζ ?_
 refine A5 ζ ?_
 refine Ak rfl (AX (AB (Zo Br (Zn AU (Zg (i + 1) ?_)))))
 refine ⟨_, σ, rfl, δ, (by first | (rw [Bv U to_ f i ω, Eb R]; exact hov30) | (rw [Bv U to_ f i ω, Fm R (hnf.trans (by rw [Gk ω ω, if_pos au]))]; exact hov30) | (rw [Bv U to_ f i ω, Gy R (hnf.trans (Hd ω _)), List.append_nil]; exact hov30)), δ, I⟩
 refine AJ (AX (AB (Zo AU (Zo Br (Zn Am (Zg (k + 1) ?_))))))
 refine ⟨σ, rfl, o, B8, (hnf.trans (by rw [Gk ω ω, if_neg au])), δ, δ, I⟩
 refine Ak rfl (AX (AB (Zo Br (Zn AU (Zg (i + 1) ?_)))))
 refine ⟨_, σ, rfl, δ, (by first | (rw [Bv U to_ f i ω, Eb R]; exact o) | (rw [Bv U to_ f i ω, Fm R (hnf.trans (by rw [Gk ω ω, if_pos a_]))]; exact o) | (rw [Bv U to_ f i ω, Gy R (hnf.trans (Hd ω _)), List.append_nil]; exact o)), δ, I⟩
 refine Ak rfl (AE ?_)
 rw [List.take_of_length_le ω] at o
 refine AB (Zo (AN (v := vo) rfl η) ?_)
 obtain ⟨cq, dp, cr, bX, bR, ct⟩ := o.rowOf
 subst bX
 refine Zr [.slice _ _ _] rfl η func143 (Gu bR (by first | assumption | exact LN κ | exact Nf κ | (rw [cS]; assumption))) ?_
 rintro e en ⟨bl, rfl, F33, hon33⟩
 refine ⟨_, rfl, ?_⟩
 have dk := F33.size
 replace I := Z0 I F33
 refine Zn (AR (v := bl) rfl η) (AM (C8 (v := bl) rfl η) ?_)
 exact ⟨_, rfl, I, by have h9 := hon33; exact h9.base_le ω⟩
theorem K2 {a1 a_ : Option Addr} {bn ba al bo bb ao : Nat} {s t : List Vc.Item} {w0 : World} (rs : RowE w0 a1 bn ba al s) (rt : RowE w0 a_ bo bb ao t) (bx : Small s) (bz : Small t) (aS : Small (s ++ t)) :
    Calls Tryz.prog 33 #[.slice a1 s.length al, .slice a_ t.length ao] w0 fun e w' => ∃ v u, e = .returned (.tuple #[v, u]) ∧ Evo w0 w' [] ∧ OwnE w' w0.heap.size 71 v (Kw (A4 (s ++ t)) (upL (A4 (s ++ t)).length) s) ∧ OwnE w' w0.heap.size 71 u (Kw (A4 (s ++ t)) (upL (A4 (s ++ t)).length) t) := by
 have bt := aS.1; rw [List.length_append] at bt
 refine AG (n := 24) func33 rfl ntmps33 rfl ?_
 have C : Evo w0 w0 [] := Evo.refl _ _
 have bL := A9 rs
 have bl := rs.bd
 have bc := A9 rt
 have bm := rt.bd
 refine Zs (Zo Ew (Zn Ew (Zs (Zo Bi (Bs rfl underlying33 AY η (OwnE.nil (α := Vc.Item) _ w0.heap.size _) η η rs rfl (θ) (θ) ω ?_)))))
 intro v1 w2 E2 hov1 hlv1
 have Q2 := E2.size
 replace C := Z0 C E2
 refine Zo Bi (Bs rfl underlying33 AY η hov1 η η (bc _ C) rfl (θ) (θ) ω ?_)
 intro v3 w4 E4 o hlv3
 have Q4 := E4.size
 replace C := AP C E4 (fun g hg => .inl (by first | exact (hov1.block hg).1 | (have := hov1.block hg; omega)))
 obtain ⟨bS, g5, b0, bA, J, b3⟩ := o.rowOf
 subst bA
 refine Zr [.slice _ _ _] rfl η func84 (Mw J (by first | assumption | exact aS)) ?_
 rintro e w6 ⟨aT, rfl, F6, j⟩
 refine ⟨_, rfl, ?_⟩
 have Q6 := F6.size
 replace C := Z0 C F6
 replace o := o.evo0 F6
 replace J := J.evo0 F6
 refine Zn (AR (v := aT) rfl η) (AE ?_)
 rw [List.nil_append] at j
 have br := Df (s ++ t); rw [List.length_append] at br; have b6 := Ee (A4 (s ++ t)).length; have b7 := bx.1; have b8 := bz.1; have bs := aS.1; rw [List.length_append] at bs
 refine AB (Zo (AN (v := aT) rfl η) (Zo (Ci rfl η underlying22 j) (Zr [.int _ _] rfl η func85 (T7 ω) ?_)))
 rintro e w7 ⟨bf, rfl, F7, R⟩
 refine ⟨_, rfl, ?_⟩
 have Q7 := F7.size
 replace C := Z0 C F7
 replace rs := bL _ C
 replace o := o.evo0 F7
 replace J := J.evo0 F7
 replace j := j.evo0 F7
 refine Zn (AR (v := bf) rfl η) (Zs (Zo Bi (Zo (AN (v := aT) rfl η) (Zo (AN (v := bf) rfl η) ?_))))
 obtain ⟨bX, g8, b1, bB, U, b4⟩ := j.rowOf
 subst bB
 obtain ⟨bY, g9, b2, bF, af, b5⟩ := R.rowOf
 subst bF
 refine Zr [.slice _ _ _, .slice _ _ _, .slice _ _ _] rfl η func86 (JJ rs U af κ ω ω) ?_
 rintro e b9 ⟨au, rfl, F10, I⟩
 refine ⟨_, rfl, ?_⟩
 have bQ := F10.size
 replace C := Z0 C F10
 replace rt := bc _ C
 replace o := o.evo0 F10
 replace J := J.evo0 F10
 replace j := j.evo0 F10
 replace R := R.evo0 F10
 replace U := U.evo0 F10
 replace af := af.evo0 F10
 refine Zo Bi (Zo Bi (Zo Bi (Zr [.slice _ _ _, .slice _ _ _, .slice _ _ _] rfl η func86 (JJ rt U af κ ω ω) ?_)))
 rintro e b_ ⟨az, rfl, F11, hon11⟩
 refine ⟨_, rfl, ?_⟩
 have bR := F11.size
 replace C := Z0 C F11
 replace I := I.evo0 F11
 refine Zo (AR (v := au) rfl η) (Zn (AR (v := az) rfl η) (AM (Fy (v := au) (u := az) rfl η η) ?_))
 exact ⟨_, _, rfl, C, by have h9 := I; exact h9.base_le ω, by have h9 := hon11; exact h9.base_le ω⟩
theorem MF {bf bl : Option Addr} {bQ bx az bR bz aS : Nat} {s t : List Vc.Item} {w0 : World} (rs : RowE w0 bf bQ bx az s) (rt : RowE w0 bl bR bz aS t) (a_ : Small s) (ba : Small t) (b6 : Small (s ++ t)) :
    Calls Tryz.prog 70 #[.slice bf s.length az, .slice bl t.length aS] w0 fun e w' => ∃ v u, e = .returned (.tuple #[v, u]) ∧ Evo w0 w' [] ∧ OwnE w' w0.heap.size 71 v (Kw (A4 (s ++ t)) (upL (A4 (s ++ t)).length) s) ∧ OwnE w' w0.heap.size 71 u (Kw (A4 (s ++ t)) (upL (A4 (s ++ t)).length) t) := by
 refine AG (n := 39) func70 rfl ntmps70 rfl ?_
 have I : Evo w0 w0 [] := Evo.refl _ _
 have bA := A9 rs
 have bF := rs.bd
 have bb := A9 rt
 have bL := rt.bd
 refine Zs (Zo Ew (Zn Ew (AE ?_)))
 have b3 := Df s; have b4 := Df t; have bo := a_.1; have bq := ba.1
 refine AB (Zo Bi (Zr [.slice _ _ _] rfl η func125 (Gb rs κ) ?_))
 rintro e w1 ⟨b8, rfl, F1, ag⟩
 refine ⟨_, rfl, ?_⟩
 have Q1 := F1.size
 replace I := Z0 I F1
 replace rt := bb _ I
 refine Zn (AR (v := b8) rfl η) (AE (AE ?_))
 have bn := fun g hg => (ag.block (g := g) hg).2
 refine AB (Zo Bi (Zr [.slice _ _ _] rfl η func125 (Gb rt κ) ?_))
 rintro e w2 ⟨dp, rfl, F2, hou2⟩
 refine ⟨_, rfl, ?_⟩
 have Q2 := F2.size
 replace I := Z0 I F2
 replace rs := bA _ I
 replace rt := bb _ I
 replace ag := ag.evo0 F2
 refine Zo (Ci rfl η underlying22 hou2) (Zn AU (AK ?_))
 obtain ⟨bM, g3, bS, b7, b5, bm⟩ := hou2.rowOf
 subst b7
 refine Aq (α := Nat) [6, 8, 14, 15, 16, 17, 18, 19, 20, 21, 22, 23, 24, 25, 26] (fun k g w => ∃ vo : Value, g 14 = .int .i64 (k : Nat) ∧ g 6 = vo ∧ k ≤ (A4 t).length ∧ OwnE w w0.heap.size 3 vo (((A4 t).take k).foldl EE (A4 s)) ∧ RowE w bM g3 0 bS (A4 t) ∧ (A4 t ≠ [] → ∀ g, vo.ownBlock = some g → g ≠ g3) ∧ (A4 t ≠ [] → g3 < w.heap.size) ∧ w2.heap.size ≤ w.heap.size ∧ Evo w0 w []) (fun k => (A4 t).length - k) 0 ?_ ?_
 refine ⟨_, σ, rfl, δ, (ag.base_le ω), b5, (fun o g hg h9 => by have h1 := (bm o).2.1; have h2 := bn g hg; omega), (fun o => (bm o).2.2), δ, I⟩
 rintro k g w5 ⟨vo, hj6, hj7, hk_k, j, C, hneT, hgT, hzl4, I⟩
 have br := I.size
 refine Zk 14 hj6 (Zk 6 hj7 (Zs (Zn Dn (AE (AH η (fun b0 => ?_) (fun b0 => ?_))))))
 refine AJ (AE (AK (Zs (Zo (Ab (k) rfl underlying22 Bd η η χ ω (C.addr (i := k) ω)) ?_))))
 have bY := C.atD (k) ω
 refine Zo (AA rfl Ae η (bY.cell 0 η)) (Zn Am (AE ?_))
 have dm := X2 (A4 s) ((A4 t).take k); have dn : ((A4 t).take k).length ≤ k := List.length_take_le _ _; have b3 := Df s; have b4 := Df t; have bo := a_.1; have bq := ba.1
 refine AB (Zo (AN (v := vo) rfl η) (Zo AU ?_))
 obtain ⟨b9, g10, ca, bs, ao, cm⟩ := j.rowOf
 subst bs
 refine Zr [.slice _ _ _, .int _ _] rfl η func133 (MD ao) ?_
 rintro e ds ⟨rfl, F11⟩
 refine ⟨_, rfl, ?_⟩
 have ct := F11.size
 replace I := Z0 I F11
 replace j := j.evo0 F11
 replace C := C.evo0 F11
 replace ao := ao.evo0 F11
 refine Zn (Cd rfl η) (AH η (fun U => ?_) (fun U => ?_))
 refine AB (Zo Bi (Zo AU (BL (u := .int _ _) (y := _) rfl rfl underlying22 Bd η j (fun _ => η) η ξ₁ (τ) (τ) ω ?_)))
 intro q_v13 v13 w14 E14 hov13 hlv13
 have cv := E14.size
 replace I := AP I E14 (fun g hg => .inl (by first | exact (j.block hg).1 | (have := j.block hg; omega)))
 replace C := C1 C E14 (fun o hm => hneT o _ (Option.mem_toList.1 hm) rfl)
 refine Zn (AR (v := v13) rfl η) (AX (AB (Zo Br (Zn AU (Zg (k + 1) ?_)))))
 refine ⟨_, σ, rfl, δ, (by first | (rw [HM EE (A4 s) (A4 t) k ω, M8 U]; exact hov13) | (rw [HM EE (A4 s) (A4 t) k ω, IM (Classical.not_not.1 U)]; exact hov13)), C, (by first | exact hneT | exact (fun o g hg => hlv13.elim (fun h => hneT o g (h.symm.trans hg)) (fun ⟨g2, h, h2⟩ => by have h7 := hgT o; have h8 : g2 = g := Option.some.inj (h.symm.trans hg); omega))), (fun o => by have h7 := hgT o; omega), δ, I⟩
 refine AJ (AX (AB (Zo Br (Zn AU (Zg (k + 1) ?_)))))
 refine ⟨_, σ, rfl, δ, (by first | (rw [HM EE (A4 s) (A4 t) k ω, M8 U]; exact j) | (rw [HM EE (A4 s) (A4 t) k ω, IM (Classical.not_not.1 U)]; exact j)), C, (by first | exact hneT | exact (fun o g hg => hl.slice _ _ _.elim (fun h => hneT o g (h.symm.trans hg)) (fun ⟨g2, h, h2⟩ => by have h7 := hgT o; have h8 : g2 = g := Option.some.inj (h.symm.trans hg); omega))), (fun o => by have h7 := hgT o; omega), δ, I⟩
 refine Ak rfl (AE ?_)
 rw [List.take_of_length_le ω, O1] at j
 have b1 := Df (s ++ t); rw [List.length_append] at b1; have dk := Ee (A4 (s ++ t)).length; have bo := a_.1; have bq := ba.1; have b2 := b6.1; rw [List.length_append] at b2
 refine AB (Zo Bi (Zo (AN (v := vo) rfl η) (Zo (AN (v := vo) rfl η) (Zo (Ci rfl η underlying22 j) (Zr [.int _ _] rfl η func127 (IK ω) ?_)))))
 rintro e dO ⟨cq, rfl, F15, ao15, br15, cr15, rfl, af⟩
 refine ⟨_, rfl, ?_⟩
 have c0 := F15.size
 replace I := Z0 I F15
 replace rs := bA _ I
 replace j := j.evo0 F15
 replace C := C.evo0 F15
 obtain ⟨b_, g16, cb, bt, R, cp⟩ := j.rowOf
 subst bt
 refine Zr [.slice _ _ _, .slice _ _ _, .slice _ _ _] rfl η func126 (HP rs R af κ ω ω) ?_
 rintro e d_ ⟨aT, rfl, F17, J⟩
 refine ⟨_, rfl, ?_⟩
 have c3 := F17.size
 replace I := Z0 I F17
 replace j := j.evo0 F17
 replace C := C.evo0 F17
 replace af := af.evo0 F17
 replace R := R.evo0 F17
 refine Zo Bi (Zo Bi (Zo Bi (Zo (AQ rfl η underlying22) (Zr [.int _ _] rfl η func127 (IK ω) ?_))))
 rintro e ea ⟨cr, rfl, F18, ao18, br18, cr18, rfl, hr18⟩
 refine ⟨_, rfl, ?_⟩
 have c9 := F18.size
 replace I := Z0 I F18
 replace rt := bb _ I
 replace j := j.evo0 F18
 replace C := C.evo0 F18
 replace af := af.evo0 F18
 replace R := R.evo0 F18
 replace J := J.evo0 F18
 refine Zr [.slice _ _ _, .slice _ _ _, .slice _ _ _] rfl η func126 (HP rt R hr18 κ ω ω) ?_
 rintro e eb ⟨a1, rfl, F19, hon19⟩
 refine ⟨_, rfl, ?_⟩
 have c_ := F19.size
 replace I := Z0 I F19
 replace J := J.evo0 F19
 refine Zo (AR (v := aT) rfl η) (Zn (AR (v := a1) rfl η) (AM (Fy (v := aT) (u := a1) rfl η η) ?_))
 exact ⟨_, _, rfl, I, by have h9 := J; exact h9.base_le ω, by have h9 := hon19; exact h9.base_le ω⟩
theorem HI (x n : Int) {j : World} (J : 1 ≤ n) (C : n ≤ 1000000000) :
    Calls Tryz.prog 13 #[.int .i64 x, .int .i64 n] j fun e w' => e = .returned (.int .i64 (x % n)) ∧ j = w' := by
 refine AG (n := 14) func13 rfl ntmps13 rfl ?_
 have I : Evo j j [] := Evo.refl _ _
 refine Zs (Zn Am (Zs (Zo AU (Zo AU (Zo (VQ rfl η η ω) (Zn Am (AE (Zs (Zo AU ?_)))))))))
 refine Zn Dn (AH η (fun o => ?_) (fun o => ?_))
 refine AB (Zo AU (Zo AU (Zo (Bl rfl η η (by have := MW x n ω; omega) (by have := MW x n ω; omega)) (Zn Am (Zs (Zo AU (Zn Am (AM C3 ?_))))))))
 exact ⟨A3 (by rw [← PD x n ω ω]), rfl⟩
 refine AJ (Zs (Zo AU (Zn Am (AM C3 ?_))))
 exact ⟨A3 (by rw [← PQ x n ω ω]), rfl⟩
theorem R3 {T R : Nat} {ao : Option Addr} {b off cap : Nat} {l : List Int} {N : Nat} {n : Int} {J : World} (C : Blk J R T [.slice ao l.length cap, .int .i64 (N : Nat)]) (U : RowE J ao b off cap l) (hN : N ≤ 1000000) (hn : 1 ≤ n) (au : n ≤ 1000000000) :
    Calls Tryz.prog 31 #[.pointer (some ⟨R, 0, none⟩), .int .i64 n] J fun e w' => e = .returned (.int .i64 (L3 l N n)) ∧ Evo J w' [R] ∧ Blk w' R T [.slice ao l.length cap, .int .i64 (N + 1 : Nat)] := by
 have o := C.at
 refine AG (n := 36) func31 rfl ntmps31 rfl ?_
 have I : Evo J J [R] := Evo.refl _ _
 have af := U.bd
 refine Zs (Zn Am (Zs (Zn Am (AE (AE (Bt ζ ζ (Zq (fun w' j => EA) (Zq (fun w' j => Au rfl η) (Zq (fun w' j => AD rfl η Dz) ?_)))))))))
 refine Zq (fun w' j => AA rfl Ae η ((o.evo0 j).cell 1 η)) (Zq (fun w' j => EA) (Zq (fun w' j => Au rfl η) (Zq (fun w' j => AD rfl η Mc) (Zq (fun w' j => AA rfl VH η ((o.evo0 j).cell 0 η)) (Zq (fun w' j => AQ rfl η underlying22) (Zq (fun w' j => Dc rfl η η) (EV (fun w1 F2 => ?_))))))))
 have Q1 := F2.size
 replace I := Z0 I F2
 replace C := C.evo0 F2
 replace o := o.evo0 F2
 replace U := U.evo0 F2
 refine AH η (fun al => ?_) (fun al => ?_)
 refine Bt ζ ζ (Zq (fun w' j => EA) (Zq (fun w' j => Au rfl η) (Zq (fun w' j => AD rfl η Mc) (Zq (fun w' j => AA rfl VH η ((o.evo0 j).cell 0 η)) (Zq (fun w' j => EA) (Zq (fun w' j => Au rfl η) (Zq (fun w' j => AD rfl η Dz) (Zq (fun w' j => AA rfl Ae η ((o.evo0 j).cell 1 η)) (Zq (fun w' j => Ab (N) rfl underlying22 Bd η η χ ω (U.addr (i := N) ω)) ?_)))))))))
 have ag := U.atD (N) ω
 refine Zq (fun w' j => AA rfl Ae η ((ag.evo0 j).cell 0 η)) (Zq (fun w' j => Am) (EV (fun w5 F6 => ?_)))
 have Q5 := F6.size
 replace I := Z0 I F6
 replace C := C.evo0 F6
 replace o := o.evo0 F6
 refine Zs (Zo EA (Zo (Au rfl η) (Zo (AD rfl η Dz) (Zo (AA rfl Ae η (o.cell 1 η)) (Zo Br (Zo (Au rfl η) (Zo (AD rfl η Dz) (Ai (v := .int _ _) (vs := [_]) (cs' := [_, _]) η η C Bd η rfl η rfl η ?_))))))))
 intro w7 E7 V7 hb_new
 have Q7 := E7.size
 replace I := Z1 I E7 (.inr (by simp))
 replace C := hb_new
 clear hb_new
 refine Ag (Zs (Zo AU (Zo AU (Zr [.int _ _, .int _ _] rfl η func13 (HI _ _ ω ω) ?_))))
 rintro e w8 ⟨rfl, rfl⟩
 refine ⟨_, rfl, ?_⟩
 refine Zn Am (AM C3 ?_)
 exact ⟨A3 (by first | rfl | (unfold L3; simp [List.getD, List.getElem?_eq_none (by omega : l.length ≤ N)]; done)), I, C⟩
 refine AJ (Zs (Zo EA (Zo (Au rfl η) (Zo (AD rfl η Dz) (Zo (AA rfl Ae η (o.cell 1 η)) (Zo Br (Zo (Au rfl η) (Zo (AD rfl η Dz) (Ai (v := .int _ _) (vs := [_]) (cs' := [_, _]) η η C Bd η rfl η rfl η ?_)))))))))
 intro w9 E9 V9 hb_new
 have Q9 := E9.size
 replace I := Z1 I E9 (.inr (by simp))
 replace C := hb_new
 clear hb_new
 refine Ag (Zs (Zo AU (Zo AU (Zr [.int _ _, .int _ _] rfl η func13 (HI _ _ ω ω) ?_))))
 rintro e az ⟨rfl, rfl⟩
 refine ⟨_, rfl, ?_⟩
 refine Zn Am (AM C3 ?_)
 exact ⟨A3 (by first | rfl | (unfold L3; simp [List.getD, List.getElem?_eq_none (by omega : l.length ≤ N)]; done)), I, C⟩
theorem Cq {o : World} {T j : Nat} {ao : Option Addr} {b off cap : Nat} {l : List Int} {N : Nat} {n : Int} (hb : Blk o j T [.slice ao l.length cap, .int .i64 (N : Nat)]) (hl : RowE o ao b off cap l) (U : N ≤ 1000000) (I : 1 ≤ n) (C : n ≤ 1000000000) :
    Calls Tryz.prog 31 #[.pointer (some ⟨j, 0, none⟩), .int .i64 n] o fun e w' => ∃ r, e = .returned (.int .i64 r) ∧ (0 ≤ r ∧ r < n) ∧ Evo o w' [j] ∧ Blk w' j T [.slice ao l.length cap, .int .i64 (N + 1 : Nat)] :=
  (R3 hb hl U I C).mono fun e w' ⟨h1, J, R⟩ => ⟨_, h1, Ss l N n I, J, R⟩
def wordsL : List Ac := [[114, 101, 100], [99, 97, 114], [82, 101, 100], [97], [99, 97, 114, 115], [49, 44, 53], [50, 50], [100, 111, 110, 39, 116], [46], [33], [32], [32, 32], [60], [38], [123], [34], [92], [120, 45, 121], [10], [61], [125], [62], [9], [98]]
theorem WY (j : Nat) : (wordsL.getD j default).length ≤ 5 := by
  rcases Nat.lt_or_ge j 24 with h | h
  · have : ∀ j, j < 24 → (wordsL.getD j default).length ≤ 5 := by decide
    exact this j h
  · have e : wordsL.getD j default = [] := by simp [List.getD, List.getElem?_eq_none (show wordsL.length ≤ j from h)]; rfl
    rw [e]; simp
theorem Tl {T J : Nat} {ao : Option Addr} {b off cap : Nat} {l : List Int} {N : Nat} {R : World} (C : Blk R J T [.slice ao l.length cap, .int .i64 (N : Nat)]) (hl : ∀ w', Evo R w' [J] → RowE w' ao b off cap l) (hN : N ≤ 900000) :
    Calls Tryz.prog 142 #[.pointer (some ⟨J, 0, none⟩)] R fun e w' => ∃ t : Ac, ∃ N', e = .returned (S t) ∧ t.length ≤ 5 ∧ (N ≤ N' ∧ N' ≤ N + 1) ∧ Evo R w' [J] ∧ Blk w' J T [.slice ao l.length cap, .int .i64 (N' : Nat)] := by
 have aS := C.at; have au := C.lt
 refine AG (n := 8) func142 rfl ntmps142 rfl ?_
 have o : Evo R R [J] := Evo.refl _ _
 have U := hl
 have af := (U _ o).bd
 refine Zs (Zn Fa (Zs (BT (pv := [(0, S _), (1, S _), (2, S _), (3, S _), (4, S _), (5, S _), (6, S _), (7, S _), (8, S _), (9, S _), (10, S _), (11, S _), (12, S _), (13, S _), (14, S _), (15, S _), (16, S _), (17, S _), (18, S _), (19, S _), (20, S _), (21, S _), (22, S _), (23, S _)]) (zs := [_]) (cs := [_, _, _, _, _, _, _, _, _, _, _, _, _, _, _, _, _, _, _, _, _, _, _, _]) underlying91 Es η rfl η rfl η ?_)))
 intro b1 w2 J1 E2 B1 Y1
 have Q2 := E2.size
 replace o := Z0 o E2
 replace C := C.evo0 E2
 replace hl := U _ o
 have j : RowE w2 (some ⟨b1, 0, none⟩) b1 0 24 wordsL := CH wordsL B1 rfl rfl
 refine Zo EA (Zr [.pointer _, .int _ _] rfl η func31 (Cq C hl ω ω ω) ?_)
 rintro e w3 ⟨I, rfl, hx3, F3, hn3⟩
 refine ⟨_, rfl, ?_⟩
 have Q3 := F3.size
 replace o := Z1 o F3 (.inr (by simp))
 replace j := j.evo F3 θ
 replace C := hn3
 clear hn3
 refine Zo (Ab (I.toNat) rfl underlying91 Es η η ω (by show _ < 24; omega) (j.addr (i := I.toNat) (by show _ < 24; omega))) ?_
 have al := j.atD (I.toNat) (by show _ < 24; omega)
 refine Zo (AA rfl BX η (al.cell 0 η)) (Zn Fa (AM (C8 (v := S _) rfl η) ?_))
 exact ⟨_, N + 1, rfl, WY _, by omega, o, C⟩
theorem NN {T C : Nat} {ao : Option Addr} {b off cap : Nat} {l : List Int} {N : Nat} {n : Int} {R : World} (j : Blk R C T [.slice ao l.length cap, .int .i64 (N : Nat)]) (hl : ∀ w', Evo R w' [C] → RowE w' ao b off cap l) (hN : N ≤ 800000) (bf : 0 ≤ n) (bl : n ≤ 3) (bc : C < R.heap.size) :
    Calls Tryz.prog 81 #[.pointer (some ⟨C, 0, none⟩), .int .i64 n] R fun e w' => ∃ t : Ac, ∃ N', e = .returned (S t) ∧ t.length ≤ 18 ∧ (N ≤ N' ∧ N' ≤ N + 7) ∧ Evo R w' [C] ∧ Blk w' C T [.slice ao l.length cap, .int .i64 (N' : Nat)] := by
 have I := j.at; have aT := j.lt
 refine AG (n := 31) func81 rfl ntmps81 rfl ?_
 have o : Evo R R [C] := Evo.refl _ _
 have J := hl
 replace hl := J _ o
 have az := hl.bd
 refine Zs (Zn Fa (Zs (Zn Fa (AE (Zs (Zo EA (Zo AU (Zo Br (Zr [.pointer _, .int _ _] rfl η func31 (Cq j hl ω ω ω) ?_)))))))))
 rintro e w1 ⟨a_, rfl, hx1, F1, hn1⟩
 refine ⟨_, rfl, ?_⟩
 have Q1 := F1.size
 replace o := Z1 o F1 (.inr (by simp))
 replace hl := J _ o
 replace j := hn1
 clear hn1
 have I := j.at
 refine Zn Am (AK (Aq (α := Nat) [5, 6, 7, 12, 13, 14, 15, 16, 17, 18, 19, 20, 21, 22, 23, 24, 25, 26, 27, 28, 29] (fun i g w => ∃ t : Ac, ∃ U : Nat, g 6 = .int .i64 (i : Nat) ∧ g 5 = S t ∧ Blk w C T [.slice ao l.length cap, .int .i64 (U : Nat)] ∧ (N + 1 ≤ U ∧ U + 2 * i ≤ N + 7) ∧ (t.length + 6 * i ≤ 18) ∧ w1.heap.size ≤ w.heap.size ∧ Evo R w [C]) (fun i => i) a_.toNat ?_ ?_))
 refine ⟨[], _, (congrArg (Value.int _) ω), rfl, j, δ, θ, δ, o⟩
 rintro i g w3 ⟨t, U, hj4, hj5, j, hN1, htl, hzl2, o⟩
 have au := o.size
 have ba := j.lt
 have I := j.at
 refine Zk 6 hj4 (Zk 5 hj5 (AE (Zs (Zo AU (Zn Ve (AH η (fun a1 => ?_) (fun a1 => ?_)))))))
 refine AJ (AE (AK (Zs (Zo EA (Zr [.pointer _] rfl η func142 (Tl j (fun w9 h9 => J _ (Evo.trans o h9 (fun x hx _ => hx))) ω) ?_)))))
 rintro e w8 ⟨bn, Nw8, rfl, htw8, hNw8, F8, hn8⟩
 refine ⟨_, rfl, ?_⟩
 have Q8 := F8.size
 replace o := Z1 o F8 (.inr (by simp))
 replace j := hn8
 clear hn8
 have I := j.at
 refine Zn Fa (AE (Zs (Zo Ca (Zo (Ds rfl η η) (Zo Cb ?_)))))
 refine Aj rfl BW rfl (fun hg => EA) ?_
 refine ab rfl BW rfl (fun hg => BN rfl (BU (v := .pointer _) (Ar hg) (BU (v := .int _ _) η (rfl))) func31 rfl ζ) (fun hg => (Cq j (J _ o) ω ω ω)) j ?_
 intro nx10 w9 Ng10 hx10 F10 hna10 hnb10 hbn
 have Q9 := F10.size
 replace o := Z1 o F10 (.inr (by simp))
 replace j := hbn
 clear hbn
 have I := j.at
 refine Aj rfl BW rfl (fun hg => C6 rfl (Ar hg) η) ?_
 refine Zn Ht (AH η (fun af => ?_) (fun af => ?_))
 refine AB (Zo Ca (Zo (Bg rfl η η μ) (Zn Fa (AB (Zo Ca (Zo Ca (Zo (Bg rfl η η μ) (Zn Fa (AX ?_)))))))))
 refine AB (Zo AU (Zo TP (Zn Am (Zg (i - 1) ?_))))
 refine ⟨_, _, σ, rfl, j, δ, τ, δ, o⟩
 refine AJ (AB (Zo Ca (Zo Ca (Zo (Bg rfl η η μ) (Zn Fa (AX (AB (Zo AU (Zo TP ?_)))))))))
 refine Zn Am (Zg (i - 1) ?_)
 refine ⟨_, _, σ, rfl, j, δ, τ, δ, o⟩
 refine Ak rfl (Zs (Zo Ca (Zn Fa (AM (C8 (v := S _) rfl η) ?_))))
 exact ⟨_, U, rfl, by omega, by omega, o, j⟩
theorem GW {J R : Option Addr} {ba af j bb ag o : Nat} {a b : List Vc.Item} {I : World} (ha : RowE I J ba af j a) (hb : RowE I R bb ag o b) (U : Small (a ++ b)) :
    Calls Tryz.prog 83 #[.slice J a.length j, .slice R b.length o] I fun e w' => ∃ v, e = .returned v ∧ Evo I w' [] ∧ OwnE w' I.heap.size 71 v (Bf (a ++ b)) := by
 have a1 := U.1; rw [List.length_append] at a1
 refine AG (n := 10) func83 rfl ntmps83 rfl ?_
 have C : Evo I I [] := Evo.refl _ _
 have br := A9 ha
 have ao := ha.bd
 have aS := A9 hb
 have au := hb.bd
 refine Zs (Zn Ew (Zs (Zo Bi (Bs rfl underlying33 AY η (OwnE.nil (α := Vc.Item) _ I.heap.size _) η η ha rfl (θ) (θ) ω ?_))))
 intro v1 w2 E2 hov1 hlv1
 have Q2 := E2.size
 replace C := Z0 C E2
 refine Zo Bi (Bs rfl underlying33 AY η hov1 η η (aS _ C) rfl (θ) (θ) ω ?_)
 intro v3 w4 E4 hov3 hlv3
 have Q4 := E4.size
 replace C := AP C E4 (fun g hg => .inl (by first | exact (hov1.block hg).1 | (have := hov1.block hg; omega)))
 obtain ⟨bm, g5, bq, a_, aT, bs⟩ := hov3.rowOf
 subst a_
 refine Zr [.slice _ _ _] rfl η func143 (Gu aT (by first | assumption | exact U | exact LN κ)) ?_
 rintro e w6 ⟨al, rfl, F6, hon6⟩
 refine ⟨_, rfl, ?_⟩
 have Q6 := F6.size
 replace C := Z0 C F6
 refine Zn (AR (v := al) rfl η) (AM (C8 (v := al) rfl η) ?_)
 exact ⟨_, rfl, C, by have h9 := hon6; rw [List.nil_append] at h9; exact h9.base_le ω⟩
set_option maxHeartbeats 4000000 in
theorem NL {T bs : Nat} {ao : Option Addr} {b off cap : Nat} {l : List Int} {N : Nat} {n : Int} {tags nested : Bool} {w0 : World} (U : Blk w0 bs T [.slice ao l.length cap, .int .i64 (N : Nat)]) (hl : ∀ w', Evo w0 w' [bs] → RowE w' ao b off cap l) (hN : N ≤ 100000) (ih : 0 ≤ n) (ij : n ≤ 100) :
    Calls Tryz.prog 30 #[.pointer (some ⟨bs, 0, none⟩), .int .i64 n, .bool tags, .bool nested] w0 fun e w' => ∃ v, ∃ f : List Vc.Item, ∃ N', e = .returned v ∧ (Bo [] f = 0 ∧ (f.length : Int) ≤ 2 * n ∧ (Ay f : Int) ≤ 30 * n ∧ (nested = true → IY f = some ([], []))) ∧ (N ≤ N' ∧ N' ≤ N + 2000) ∧ Evo w0 w' [bs] ∧ Blk w' bs T [.slice ao l.length cap, .int .i64 (N' : Nat)] ∧ OwnE w' w0.heap.size 71 v f := by
 have a1 := U.at; have gM := U.lt
 refine AG (n := 141) func30 rfl ntmps30 rfl ?_
 have hV : Evo w0 w0 [bs] := Evo.refl _ _
 have bm := hl
 replace hl := bm _ hV
 have gy := hl.bd
 refine Zs (Zn Ew (Zs (Zo Ew (Zn Ew (Zs (Zn Am (AE (Zs (Zo EA ?_)))))))))
 refine Zo AU (Zo Br (Zr [.pointer _, .int _ _] rfl η func31 (Cq U hl ω ω ω) ?_))
 rintro e w1 ⟨b1, rfl, hx1, F1, hn1⟩
 refine ⟨_, rfl, ?_⟩
 have Q1 := F1.size
 replace hV := Z1 hV F1 (.inr (by simp))
 replace hl := bm _ hV
 replace U := hn1
 clear hn1
 have a1 := U.at
 refine Zn Am (AK (Aq (α := Nat) [9, 10, 11, 12, 13, 14, 20, 21, 22, 23, 24, 25, 26, 27, 28, 29, 30, 31, 32, 33, 34, 35, 36, 37, 38, 39, 40, 41, 42, 43, 44, 45, 46, 47, 48, 49, 50, 51, 52, 53, 54, 55, 56, 57, 58, 59, 60, 61, 62, 63, 64, 65, 66, 67, 68, 69, 70, 71, 72, 73, 74, 75, 76, 77, 78, 79, 80, 81, 82, 83, 84, 85, 86, 87, 88, 89, 90, 91, 92, 93, 94, 95, 96, 97, 98, 99, 100, 101, 102, 103, 104, 105, 106, 107, 108, 109, 110, 111, 112, 113, 114] (fun i g w => ∃ vf : Value, ∃ vo : Value, ∃ f : List Vc.Item, ∃ op : List Vc.Item, ∃ b0 : Int, ∃ N1 : Nat, g 12 = .int .i64 (i : Nat) ∧ g 9 = vf ∧ g 10 = vo ∧ g 11 = .int .i64 b0 ∧ OwnE w w0.heap.size 71 vf f ∧ OwnE w w0.heap.size 71 vo op ∧ Blk w bs T [.slice ao l.length cap, .int .i64 (N1 : Nat)] ∧ FI f op b0 ∧ NS nested f op ∧ (f.length + i ≤ b1.toNat ∧ Ay f + 18 * i ≤ 18 * b1.toNat ∧ op.length + i ≤ b1.toNat ∧ b0 + i ≤ b1.toNat ∧ N + 1 ≤ N1 ∧ N1 + 11 * i ≤ N + 1 + 11 * b1.toNat) ∧ (∀ g, vf.ownBlock = some g → ∀ h, vo.ownBlock = some h → g ≠ h) ∧ (∀ o ∈ op, o.text.length ≤ 5) ∧ w1.heap.size ≤ w.heap.size ∧ Evo w0 w [bs]) (fun i => i) b1.toNat ?_ ?_))
 refine ⟨_, _, [], [], _, _, (congrArg (Value.int _) ω), rfl, rfl, rfl, (OwnE.nil _ _ _), (OwnE.nil _ _ _), U, FI.nil, (NS.nil _), (by first | (simp [Ay]; done) | (simp [Ay]; omega)), (fun g hg => by have h9 : (none : Option Nat) = some g := hg; cases h9), (by simp), δ, hV⟩
 rintro i g w3 ⟨vf, vo, f, op, b0, N1, hj4, hj5, hj6, hj7, J, I, U, hFI, hNS, hsz, hsep, hopt, hzl2, hV⟩
 have gi := hV.size
 have hv := U.lt
 replace hl := bm _ hV
 have a1 := U.at
 refine Zk 12 hj4 (Zk 9 hj5 (Zk 10 hj6 (Zk 11 hj7 (AE (Zs (Zo AU (Zn Ve (AH η (fun gN => ?_) (fun gN => ?_)))))))))
 refine AJ (AE (AK (AE ?_)))
 have hy := hFI.pos; have gb := fun g hg => (J.block (g := g) hg).2; have gd := fun g hg => (I.block (g := g) hg).2
 refine AB (Zo EA (Zr [.pointer _, .int _ _] rfl η func81 (NN U (fun w9 h9 => bm _ (Evo.trans hV h9 (fun x hx _ => hx))) ω ω ω ω) ?_))
 rintro e iq ⟨gr, Nl10, rfl, htl10, hNl10, F10, hn10⟩
 refine ⟨_, rfl, ?_⟩
 have hB := F10.size
 replace hV := Z1 hV F10 (.inr (by simp))
 replace J := J.evo F10 (by intro g hg hm; simp at hm; subst hm; have := J.block hg; omega)
 replace I := I.evo F10 (by intro g hg hm; simp at hm; subst hm; have := I.block hg; omega)
 replace U := hn10
 clear hn10
 have a1 := U.at
 refine Zo (A2 (pv := [(0, .int _ _), (1, S _)]) (zs := [_, _, _]) (cells := [_, _, _]) rfl AY η Eu η η) ?_
 have gU := fun g hg => (J.block (g := g) hg).2
 have b9 := fun g hg => (I.block (g := g) hg).2
 refine Bq (zs := [_, _, _]) (vs := [_, _, _]) AY η rfl η (fun _ => rfl) η rfl rfl η ?_
 intro b13 w14 J13 E14 B13 Y13
 have hD := E14.size
 replace hV := Z0 hV E14
 replace hl := bm _ hV
 replace J := J.evo0 E14
 replace I := I.evo0 E14
 replace U := U.evo0 E14
 replace a1 := a1.evo0 E14
 have C := B13.at
 refine Ag (AE (AE ?_))
 have bx : ∀ g, vf.ownBlock = some g → g ≠ b13 := fun g hg h => by have := gb g hg; omega
 have bz : ∀ g, vo.ownBlock = some g → g ≠ b13 := fun g hg h => by have := gd g hg; omega
 refine AB (Zo EA (Zr [.pointer _, .int _ _] rfl η func31 (Cq U hl ω ω ω) ?_))
 rintro e cm ⟨bl, rfl, hx15, F15, hn15⟩
 refine ⟨_, rfl, ?_⟩
 have hE := F15.size
 replace hV := Z1 hV F15 (.inr (by simp))
 replace hl := bm _ hV
 replace J := J.evo F15 (by intro g hg hm; simp at hm; subst hm; have := J.block hg; omega)
 replace I := I.evo F15 (by intro g hg hm; simp at hm; subst hm; have := I.block hg; omega)
 replace B13 := B13.evo F15 θ
 replace C := C.evo F15 θ
 replace U := hn15
 clear hn15
 have a1 := U.at
 refine Ag (AK (AE (Zs (Zo DA (Zn BV (EC [29, 31] (fun g w => g 29 = .bool (decide (bl = 0 ∨ bl = 1)) ∧ cm = w) ?_ ?_))))))
 refine AH η (fun e_ => ?_) (fun e_ => ?_)
 refine AJ (Ad ?_ ?_)
 refine ⟨(congrArg Value.bool (decide_eq_decide.2 ω)), rfl⟩
 exact ψ
 refine AB (Zo DA (Zn BV (Ad ?_ ?_)))
 refine ⟨(congrArg Value.bool (decide_eq_decide.2 ω)), rfl⟩
 exact ψ
 rintro g _ ⟨fs, rfl⟩
 refine Zk 29 fs (EC [10, 11, 14, 32, 33, 34, 35, 36, 37, 38, 39, 40, 41, 42, 43, 44, 45, 46, 47, 48, 49, 50, 51, 52, 53, 54, 55, 56, 57, 58, 59, 60, 61, 62, 63, 64, 65, 66, 67, 68, 69, 70, 71, 72, 73, 74, 75, 76, 77, 78, 79, 80, 81, 82, 83, 84, 85, 86, 87, 88, 89, 90, 91, 92, 93, 94, 95, 96, 97, 98, 99, 100, 101, 102, 103, 104, 105, 106, 107, 108, 109, 110] (fun g w => ∃ en : Value, ∃ b2 : List Vc.Item, ∃ bY : Int, ∃ N2 : Nat, ∃ kx : Int, ∃ tx : Ac, ∃ ix : Int, g 10 = en ∧ g 11 = .int .i64 bY ∧ OwnE w w0.heap.size 71 vf f ∧ OwnE w w0.heap.size 71 en b2 ∧ Blk w b13 71 [.int .i64 kx, S tx, .int .i64 ix] ∧ Blk w bs T [.slice ao l.length cap, .int .i64 (N2 : Nat)] ∧ (FI (BF f ⟨kx, tx, ix⟩) b2 bY) ∧ (NS nested (BF f ⟨kx, tx, ix⟩) b2) ∧ (tx.length ≤ 18 ∧ b2.length ≤ op.length + 1 ∧ bY ≤ b0 + 1 ∧ N1 ≤ N2 ∧ N2 ≤ N1 + 11) ∧ (∀ o ∈ b2, o.text.length ≤ 5) ∧ cm.heap.size ≤ w.heap.size ∧ Evo w0 w [bs]) ?_ ?_)
 refine AH η (fun dp => ?_) (fun dp => ?_)
 refine AB (BT (pv := [(0, S _), (1, S _), (2, S _)]) (zs := [_]) (cs := [_, _, _]) underlying91 Es η rfl η rfl η ?_)
 intro b20 w21 J20 E21 B20 Y20
 have hF := E21.size
 replace hV := Z0 hV E21
 replace hl := bm _ hV
 replace J := J.evo0 E21
 replace I := I.evo0 E21
 replace B13 := B13.evo0 E21
 replace C := C.evo0 E21
 replace U := U.evo0 E21
 replace a1 := a1.evo0 E21
 have bn : RowE w21 (some ⟨b20, 0, none⟩) b20 0 3 slotW := CH slotW B20 rfl rfl
 refine Zo EA (Zr [.pointer _, .int _ _] rfl η func31 (Cq U hl ω ω ω) ?_)
 rintro e ir ⟨ca, rfl, hx22, F22, hn22⟩
 refine ⟨_, rfl, ?_⟩
 have hG := F22.size
 replace hV := Z1 hV F22 (.inr (by simp))
 replace J := J.evo F22 (by intro g hg hm; simp at hm; subst hm; have := J.block hg; omega)
 replace I := I.evo F22 (by intro g hg hm; simp at hm; subst hm; have := I.block hg; omega)
 replace B13 := B13.evo F22 θ
 replace C := C.evo F22 θ
 replace bn := bn.evo F22 θ
 replace U := hn22
 clear hn22
 have a1 := U.at
 refine Zo (Ab (ca.toNat) rfl underlying91 Es η η ω (by show _ < 3; omega) (bn.addr (i := ca.toNat) (by show _ < 3; omega))) ?_
 have e6 := bn.atD (ca.toNat) (by show _ < 3; omega)
 refine Zo (AA rfl BX η (e6.cell 0 η)) (Zo (A2 (pv := [(0, .int _ _), (1, S _)]) (zs := [_, _, _]) (cells := [_, _, _]) rfl AY η Eu η η) (Ai (v := .agg _) (vs := [_, _, _]) (cs' := [_, _, _]) η η B13 AY η rfl η rfl η ?_))
 intro w24 E24 V24 hb_new
 have hI := E24.size
 replace hV := Z1 hV E24 ε
 replace J := J.evo E24 (by intro g hg hm; simp at hm; subst hm; exact bx _ hg rfl)
 replace I := I.evo E24 (by intro g hg hm; simp at hm; subst hm; exact bz _ hg rfl)
 replace U := U.evo E24 θ
 replace B13 := hb_new
 have C := B13.at
 clear hb_new
 refine Ag (Ad ?_ ?_)
 refine ⟨_, _, _, _, _, _, _, rfl, rfl, J, (I.base_le ω), B13, U, (by first | exact hFI.text _ | exact hFI.slot (CN _ ω).1 | exact hFI.empty (Bu _ ω).1 ω | exact hFI.open_ (BZ _ ω).1 ω | exact hFI.close ω ω | exact hFI.closeNew υ ω), (by first | exact hNS.otherB rfl rfl | exact hNS.open_ _ _ | exact hNS.close ω hkn _ | exact NS.closeNew (dp).2), ⟨by first | omega | exact Nat.le_trans (CN _ ω).2 υ | exact Nat.le_trans (Bu _ ω).2 υ | exact Nat.le_trans (BZ _ ω).2 υ | exact Nat.le_trans (CR _) (Nat.le_trans (GF hopt _) υ) | decide, by first | omega | (simp; done) | (simp; omega), by omega, by omega, by omega⟩, (by first | exact hopt | exact (fun o ho => (List.mem_append.1 ho).elim (hopt o) (fun h => by simp at h; subst h; exact (BZ _ ω).2)) | exact (fun o ho => (List.mem_append.1 ho).elim (fun h => hopt o (List.mem_of_mem_take h)) (fun h => hopt o (List.mem_of_mem_drop h)))), δ, hV⟩
 exact ψ
 refine Zs (Zo DA (Zn BV (AH η (fun fg => ?_) (fun fg => ?_))))
 refine Zs (Zn (Cc rfl η) (AH η (fun b5 => ?_) (fun b5 => ?_)))
 refine Zs (Zo AU (Zo Br (Zn Am (AB (BT (pv := [(0, S _), (1, S _)]) (zs := [_]) (cs := [_, _]) underlying91 Es η rfl η rfl η ?_)))))
 intro b27 w28 J27 E28 B27 Y27
 have hJ := E28.size
 replace hV := Z0 hV E28
 replace hl := bm _ hV
 replace J := J.evo0 E28
 replace I := I.evo0 E28
 replace B13 := B13.evo0 E28
 replace C := C.evo0 E28
 replace U := U.evo0 E28
 replace a1 := a1.evo0 E28
 have bo : RowE w28 (some ⟨b27, 0, none⟩) b27 0 2 emptyW := CH emptyW B27 rfl rfl
 refine Zo EA (Zr [.pointer _, .int _ _] rfl η func31 (Cq U hl ω ω ω) ?_)
 rintro e iu ⟨cb, rfl, hx29, F29, hn29⟩
 refine ⟨_, rfl, ?_⟩
 have hK := F29.size
 replace hV := Z1 hV F29 (.inr (by simp))
 replace J := J.evo F29 (by intro g hg hm; simp at hm; subst hm; have := J.block hg; omega)
 replace I := I.evo F29 (by intro g hg hm; simp at hm; subst hm; have := I.block hg; omega)
 replace B13 := B13.evo F29 θ
 replace C := C.evo F29 θ
 replace bo := bo.evo F29 θ
 replace U := hn29
 clear hn29
 have a1 := U.at
 refine Zo (Ab (cb.toNat) rfl underlying91 Es η η ω (by show _ < 2; omega) (bo.addr (i := cb.toNat) (by show _ < 2; omega))) ?_
 have e8 := bo.atD (cb.toNat) (by show _ < 2; omega)
 refine Zo (AA rfl BX η (e8.cell 0 η)) (Zo AU (Zo (A2 (pv := [(0, .int _ _), (1, S _), (2, .int _ _)]) (zs := [_, _, _]) (cells := [_, _, _]) rfl AY η Eu η η) (Ai (v := .agg _) (vs := [_, _, _]) (cs' := [_, _, _]) η η B13 AY η rfl η rfl η ?_)))
 intro w31 E31 V31 hb_new
 have hL := E31.size
 replace hV := Z1 hV E31 ε
 replace J := J.evo E31 (by intro g hg hm; simp at hm; subst hm; exact bx _ hg rfl)
 replace I := I.evo E31 (by intro g hg hm; simp at hm; subst hm; exact bz _ hg rfl)
 replace U := U.evo E31 θ
 replace B13 := hb_new
 have C := B13.at
 clear hb_new
 refine Ag (Ad ?_ ?_)
 refine ⟨_, _, _, _, _, _, _, rfl, rfl, J, (I.base_le ω), B13, U, (by first | exact hFI.text _ | exact hFI.slot (CN _ ω).1 | exact hFI.empty (Bu _ ω).1 ω | exact hFI.open_ (BZ _ ω).1 ω | exact hFI.close ω ω | exact hFI.closeNew υ ω), (by first | exact hNS.otherB rfl rfl | exact hNS.open_ _ _ | exact hNS.close ω hkn _ | exact NS.closeNew (b5).2), ⟨by first | omega | exact Nat.le_trans (CN _ ω).2 υ | exact Nat.le_trans (Bu _ ω).2 υ | exact Nat.le_trans (BZ _ ω).2 υ | exact Nat.le_trans (CR _) (Nat.le_trans (GF hopt _) υ) | decide, by first | omega | (simp; done) | (simp; omega), by omega, by omega, by omega⟩, (by first | exact hopt | exact (fun o ho => (List.mem_append.1 ho).elim (hopt o) (fun h => by simp at h; subst h; exact (BZ _ ω).2)) | exact (fun o ho => (List.mem_append.1 ho).elim (fun h => hopt o (List.mem_of_mem_take h)) (fun h => hopt o (List.mem_of_mem_drop h)))), δ, hV⟩
 exact ψ
 refine AJ (Ad ?_ ?_)
 refine ⟨_, _, _, _, _, _, _, rfl, rfl, J, (I.base_le ω), B13, U, (by first | exact hFI.text _ | exact hFI.slot (CN _ ω).1 | exact hFI.empty (Bu _ ω).1 ω | exact hFI.open_ (BZ _ ω).1 ω | exact hFI.close ω ω | exact hFI.closeNew υ ω), (by first | exact hNS.otherB rfl rfl | exact hNS.open_ _ _ | exact hNS.close ω hkn _ | exact NS.closeNew (b5).2), ⟨by first | omega | exact Nat.le_trans (CN _ ω).2 υ | exact Nat.le_trans (Bu _ ω).2 υ | exact Nat.le_trans (BZ _ ω).2 υ | exact Nat.le_trans (CR _) (Nat.le_trans (GF hopt _) υ) | decide, by first | omega | (simp; done) | (simp; omega), by omega, by omega, by omega⟩, (by first | exact hopt | exact (fun o ho => (List.mem_append.1 ho).elim (hopt o) (fun h => by simp at h; subst h; exact (BZ _ ω).2)) | exact (fun o ho => (List.mem_append.1 ho).elim (fun h => hopt o (List.mem_of_mem_take h)) (fun h => hopt o (List.mem_of_mem_drop h)))), δ, hV⟩
 exact ψ
 refine AE (Zs (Zo DA (Zn BV (EC [50, 52] (fun g w => g 50 = .bool (decide (bl = 3 ∨ bl = 4)) ∧ cm = w) ?_ ?_))))
 refine AH η (fun fi => ?_) (fun fi => ?_)
 refine AJ (Ad ?_ ?_)
 refine ⟨(congrArg Value.bool (decide_eq_decide.2 ω)), rfl⟩
 exact ψ
 refine AB (Zo DA (Zn BV (Ad ?_ ?_)))
 refine ⟨(congrArg Value.bool (decide_eq_decide.2 ω)), rfl⟩
 exact ψ
 rintro g _ ⟨f_, rfl⟩
 refine Zk 50 f_ (AH η (fun fo => ?_) (fun fo => ?_))
 refine Zs (Zn (Cc rfl η) (AH η (fun b6 => ?_) (fun b6 => ?_)))
 refine Zs (Zo AU (Zo Br (Zn Am (Zs (BT (pv := [(0, S _), (1, S _), (2, S _)]) (zs := [_]) (cs := [_, _, _]) underlying91 Es η rfl η rfl η ?_)))))
 intro b36 w37 J36 E37 B36 Y36
 have hM := E37.size
 replace hV := Z0 hV E37
 replace hl := bm _ hV
 replace J := J.evo0 E37
 replace I := I.evo0 E37
 replace B13 := B13.evo0 E37
 replace C := C.evo0 E37
 replace U := U.evo0 E37
 replace a1 := a1.evo0 E37
 have bq : RowE w37 (some ⟨b36, 0, none⟩) b36 0 3 openW := CH openW B36 rfl rfl
 refine Zo EA (Zr [.pointer _, .int _ _] rfl η func31 (Cq U hl ω ω ω) ?_)
 rintro e iw ⟨cc, rfl, hx38, F38, hn38⟩
 refine ⟨_, rfl, ?_⟩
 have hP := F38.size
 replace hV := Z1 hV F38 (.inr (by simp))
 replace J := J.evo F38 (by intro g hg hm; simp at hm; subst hm; have := J.block hg; omega)
 replace I := I.evo F38 (by intro g hg hm; simp at hm; subst hm; have := I.block hg; omega)
 replace B13 := B13.evo F38 θ
 replace C := C.evo F38 θ
 replace bq := bq.evo F38 θ
 replace U := hn38
 clear hn38
 have a1 := U.at
 refine Zo (Ab (cc.toNat) rfl underlying91 Es η η ω (by show _ < 3; omega) (bq.addr (i := cc.toNat) (by show _ < 3; omega))) ?_
 have e9 := bq.atD (cc.toNat) (by show _ < 3; omega)
 refine Zo (AA rfl BX η (e9.cell 0 η)) (Zo AU (Zo (A2 (pv := [(0, .int _ _), (1, S _), (2, .int _ _)]) (zs := [_, _, _]) (cells := [_, _, _]) rfl AY η Eu η η) (Ai (v := .agg _) (vs := [_, _, _]) (cs' := [_, _, _]) η η B13 AY η rfl η rfl η ?_)))
 intro w40 E40 V40 hb_new
 have hQ := E40.size
 replace hV := Z1 hV E40 ε
 replace J := J.evo E40 (by intro g hg hm; simp at hm; subst hm; exact bx _ hg rfl)
 replace I := I.evo E40 (by intro g hg hm; simp at hm; subst hm; exact bz _ hg rfl)
 replace U := U.evo E40 θ
 replace B13 := hb_new
 have C := B13.at
 clear hb_new
 refine Ag (AB (Zo (AN (v := vo) rfl η) (Zo (AL rfl CP AY η rfl C) (BL (u := .agg _) (y := ⟨_, _, _⟩) rfl rfl underlying33 AY η I (fun _ => η) η ξ (τ) (τ) ω ?_))))
 intro q_v41 v41 w42 E42 hov41 hlv41
 have hR := E42.size
 replace hV := AP hV E42 (fun g hg => .inl (by first | exact (I.block hg).1 | (have := I.block hg; omega)))
 replace J := J.evo E42 (by intro g hg hm; exact hsep g hg _ (Option.mem_toList.1 hm) rfl)
 replace U := U.evo E42 (by intro hm; have aT := Option.mem_toList.1 hm; have := I.block aT; omega)
 replace C := C.evo E42 (by intro hm; have aT := Option.mem_toList.1 hm; have := b9 _ aT; omega)
 replace B13 := B13.evo E42 (by intro hm; have aT := Option.mem_toList.1 hm; have := b9 _ aT; omega)
 refine Zn (AR (v := v41) rfl η) (Ad ?_ ?_)
 refine ⟨_, _, _, _, _, _, _, rfl, rfl, J, (hov41.base_le ω), B13, U, (by first | exact hFI.text _ | exact hFI.slot (CN _ ω).1 | exact hFI.empty (Bu _ ω).1 ω | exact hFI.open_ (BZ _ ω).1 ω | exact hFI.close ω ω | exact hFI.closeNew υ ω), (by first | exact hNS.otherB rfl rfl | exact hNS.open_ _ _ | exact hNS.close ω hkn _ | exact NS.closeNew (b6).2), ⟨by first | omega | exact Nat.le_trans (CN _ ω).2 υ | exact Nat.le_trans (Bu _ ω).2 υ | exact Nat.le_trans (BZ _ ω).2 υ | exact Nat.le_trans (CR _) (Nat.le_trans (GF hopt _) υ) | decide, by first | omega | (simp; done) | (simp; omega), by omega, by omega, by omega⟩, (by first | exact hopt | exact (fun o ho => (List.mem_append.1 ho).elim (hopt o) (fun h => by simp at h; subst h; exact (BZ _ ω).2)) | exact (fun o ho => (List.mem_append.1 ho).elim (fun h => hopt o (List.mem_of_mem_take h)) (fun h => hopt o (List.mem_of_mem_drop h)))), δ, hV⟩
 exact ψ
 refine AJ (Ad ?_ ?_)
 refine ⟨_, _, _, _, _, _, _, rfl, rfl, J, (I.base_le ω), B13, U, (by first | exact hFI.text _ | exact hFI.slot (CN _ ω).1 | exact hFI.empty (Bu _ ω).1 ω | exact hFI.open_ (BZ _ ω).1 ω | exact hFI.close ω ω | exact hFI.closeNew υ ω), (by first | exact hNS.otherB rfl rfl | exact hNS.open_ _ _ | exact hNS.close ω hkn _ | exact NS.closeNew (b6).2), ⟨by first | omega | exact Nat.le_trans (CN _ ω).2 υ | exact Nat.le_trans (Bu _ ω).2 υ | exact Nat.le_trans (BZ _ ω).2 υ | exact Nat.le_trans (CR _) (Nat.le_trans (GF hopt _) υ) | decide, by first | omega | (simp; done) | (simp; omega), by omega, by omega, by omega⟩, (by first | exact hopt | exact (fun o ho => (List.mem_append.1 ho).elim (hopt o) (fun h => by simp at h; subst h; exact (BZ _ ω).2)) | exact (fun o ho => (List.mem_append.1 ho).elim (fun h => hopt o (List.mem_of_mem_take h)) (fun h => hopt o (List.mem_of_mem_drop h)))), δ, hV⟩
 exact ψ
 refine AE (Zs (Zo DA (Zn BV (EC [67, 69] (fun g w => g 67 = .bool (decide (bl = 5 ∨ bl = 6)) ∧ cm = w) ?_ ?_))))
 refine AH η (fun fr => ?_) (fun fr => ?_)
 refine AJ (Ad ?_ ?_)
 refine ⟨(congrArg Value.bool (decide_eq_decide.2 ω)), rfl⟩
 exact ψ
 refine AB (Zo DA (Zn BV (Ad ?_ ?_)))
 refine ⟨(congrArg Value.bool (decide_eq_decide.2 ω)), rfl⟩
 exact ψ
 rintro g _ ⟨ga, rfl⟩
 refine Zk 67 ga (AH η (fun ds => ?_) (fun ds => ?_))
 refine Zs (Zo (AN (v := vo) rfl η) (Zo (Ci rfl η underlying33 I) (Zo TP (Zn Am (Zs (Zo AU (Zn (CV rfl η η) (AH η (fun dO => ?_) (fun dO => ?_)))))))))
 refine AE (Zs (Zo (Cc rfl η) (Zn (Cd rfl η) (EC [14, 77, 78, 79, 80] (fun g w => ∃ kk : Nat, ∃ N3 : Nat, g 14 = .int .i64 (kk : Nat) ∧ OwnE w w0.heap.size 71 vf f ∧ OwnE w w0.heap.size 71 vo op ∧ Blk w b13 71 [.int .i64 1, S gr, .int .i64 0] ∧ Blk w bs T [.slice ao l.length cap, .int .i64 (N3 : Nat)] ∧ (kk < op.length ∧ N1 ≤ N3 ∧ N3 ≤ N1 + 9) ∧ (nested = true → kk = op.length - 1) ∧ cm.heap.size ≤ w.heap.size ∧ Evo w0 w [bs]) ?_ ?_))))
 refine AH η (fun b7 => ?_) (fun b7 => ?_)
 refine AB (Zo EA (Zo AU (Zo Br (Zr [.pointer _, .int _ _] rfl η func31 (Cq U hl ω ω ω) ?_))))
 rintro e iy ⟨gq, rfl, hx49, F49, hn49⟩
 refine ⟨_, rfl, ?_⟩
 have hS := F49.size
 replace hV := Z1 hV F49 (.inr (by simp))
 replace J := J.evo F49 (by intro g hg hm; simp at hm; subst hm; have := J.block hg; omega)
 replace I := I.evo F49 (by intro g hg hm; simp at hm; subst hm; have := I.block hg; omega)
 replace B13 := B13.evo F49 θ
 replace U := hn49
 clear hn49
 have a1 := U.at
 refine Zn Am (Ad ?_ ?_)
 refine ⟨gq.toNat, _, (congrArg (Value.int _) ω), J, I, B13, U, ω, (fun h9 => by first | rfl | exact absurd h9 b7), δ, hV⟩
 exact ψ
 refine AJ (Ad ?_ ?_)
 refine ⟨(op.length - 1), _, (congrArg (Value.int _) ω), J, I, B13, U, ω, (fun h9 => by first | rfl | exact absurd h9 b7), δ, hV⟩
 exact ψ
 rintro g iz ⟨kk, N3, hj51, J, I, B13, U, hkk, hkn, hzl47, hV⟩
 have e0 := hV.size
 have gP := B13.lt
 have gQ := U.lt
 have C := B13.at
 have a1 := U.at
 refine Zk 14 hj51 (AE ?_)
 obtain ⟨ha, ib, hf, gj, bc, hr⟩ := I.rowOf
 subst gj
 have gO := GF hopt kk
 have b4 := B13
 have b3 := C
 have bS := bc
 have dn := hV
 refine Aw ([]) ζ ?_
 intro w55 F56 aS
 have hT := F56.size
 replace hV := Z0 hV F56
 replace J := J.evo0 F56
 replace I := I.evo0 F56
 replace B13 := B13.evo0 F56
 replace U := U.evo0 F56
 replace C := C.evo0 F56
 replace bc := bc.evo0 F56
 refine Zt (i := 0) η (fun w' hC => Bi) aS (Zt (i := 1) η (fun w' hC => AU) aS (Zt (i := 2) η (fun w' hC => Ab (kk) rfl underlying33 AY η η ω ω (bc.addr (i := kk) ω)) aS ?_))
 have hp := bc.atD (kk) ω
 have ct := bS.atD (kk) ω
 refine Zt (i := 3) η (fun w' hC => AD rfl η Bp) aS (Zt (i := 4) η (fun w' hC => AA rfl BX η ((ct.evo0 hC).cell 1 η)) aS (Zt (i := 6) η (fun w' hC => Bi) aS (Zt (i := 7) η (fun w' hC => AU) aS (Zt (i := 8) η (fun w' hC => Ab (kk) rfl underlying33 AY η η ω ω (bc.addr (i := kk) ω)) aS ?_))))
 have hq := bc.atD (kk) ω
 have cv := bS.atD (kk) ω
 refine Zt (i := 9) η (fun w' hC => AD rfl η CO) aS (Zt (i := 10) η (fun w' hC => AA rfl Ae η ((cv.evo0 hC).cell 2 η)) aS ?_)
 refine Zh (i := 5) ?_
 refine Zr [S _] rfl η func82 (GG ω) ?_
 rintro e iA ⟨rfl, F60⟩
 refine ⟨_, rfl, ?_⟩
 have hU := F60.size
 replace hV := Z0 hV F60
 replace aS := Z0 aS F60
 replace J := J.evo0 F60
 replace I := I.evo0 F60
 replace B13 := B13.evo0 F60
 replace U := U.evo0 F60
 replace C := C.evo0 F60
 replace bc := bc.evo0 F60
 refine AZ aS ?_
 refine Zt (i := 11) η (fun w' hC => A2 (pv := [(0, .int _ _), (1, S _), (2, .int _ _)]) (zs := [_, _, _]) (cells := [_, _, _]) rfl AY η Eu η η) aS ?_
 refine Zh (i := 12) ?_
 refine Ai (v := .agg _) (vs := [_, _, _]) (cs' := [_, _, _]) η η B13 AY η rfl η rfl η ?_
 intro w61 E61 V61 hb_new
 have hW := E61.size
 replace hV := Z1 hV E61 ε
 replace J := J.evo E61 (by intro g hg hm; simp at hm; subst hm; exact bx _ hg rfl)
 replace I := I.evo E61 (by intro g hg hm; simp at hm; subst hm; exact bz _ hg rfl)
 replace U := U.evo E61 θ
 replace B13 := hb_new
 have C := B13.at
 clear hb_new
 refine Ah ζ ?_
 refine A5 ζ ?_
 obtain ⟨hc, ic, hi, gk, bf, hs⟩ := I.rowOf
 injection gk with ha62 hx62 hc62
 subst ha62; subst hc62
 have gf := fun g hg => (I.block (g := g) hg).2; have ej := fun g hg => (J.block (g := g) hg).2
 have b3 := C
 have b4 := B13
 have bX := bf
 have dn := hV
 refine Aw ([]) ζ ?_
 intro w63 F64 bb
 have hX := F64.size
 replace hV := Z0 hV F64
 replace J := J.evo0 F64
 replace I := I.evo0 F64
 replace U := U.evo0 F64
 replace C := C.evo0 F64
 replace B13 := B13.evo0 F64
 replace bf := bf.evo0 F64
 refine Zt (i := 0) η (fun w' hC => Bi) bb (Zt (i := 1) η (fun w' hC => AU) bb (Zt (i := 2) η (fun w' hC => by exact P1 (0) (kk) rfl underlying33 AY η (bX.evo0 hC) cx (W5 η ω) τ τ List.drop_zero) bb ?_))
 have bQ := (by have h9 := (bf.take (kk)).drop (0); rw [List.drop_zero] at h9; exact h9)
 have eT := bQ.bd
 refine Zt (i := 4) η (fun w' hC => Bi) bb (Zt (i := 5) η (fun w' hC => AU) bb (Zt (i := 6) η (fun w' hC => Bl rfl η η ω ω) bb (Zt (i := 7) η (fun w' hC => by exact W9 ((kk + 1)) rfl underlying33 AY rfl η (bX.evo0 hC) (W5 η ω) τ) bb ?_)))
 have bR := bf.drop ((kk + 1))
 have eU := bR.bd
 refine Zh (i := 3) ?_
 refine Bs rfl underlying33 AY η (OwnE.nil (α := Vc.Item) _ w61.heap.size _) η η bQ rfl (τ) (τ) ω ?_
 intro v68 w69 E69 hov68 hlv68
 have hY := E69.size
 replace hV := Z0 hV E69
 replace bb := Z0 bb E69
 replace J := J.evo0 E69
 replace I := I.evo0 E69
 replace U := U.evo0 E69
 replace C := C.evo0 E69
 replace B13 := B13.evo0 E69
 replace bf := bf.evo0 E69
 replace bQ := bQ.evo0 E69
 replace bR := bR.evo0 E69
 refine AZ bb ?_
 refine Zh (i := 8) ?_
 refine Bs rfl underlying33 AY η hov68 η η bR rfl (τ) (τ) ω ?_
 intro v70 w71 E71 hov70 hlv70
 have hZ := E71.size
 replace hV := AP hV E71 (fun g hg => .inl (by first | exact (hov68.block hg).1 | (have := hov68.block hg; omega)))
 replace J := J.evo E71 (by intro g hg hm; have aT := Option.mem_toList.1 hm; have h1 := hov68.block aT; have h2 := ej g hg; omega)
 replace I := I.evo E71 (by intro g hg hm; have aT := Option.mem_toList.1 hm; have h1 := hov68.block aT; have h2 := gf g hg; omega)
 replace U := U.evo E71 (by intro hm; have aT := Option.mem_toList.1 hm; have := hov68.block aT; omega)
 replace C := C.evo E71 (by intro hm; have aT := Option.mem_toList.1 hm; have := hov68.block aT; omega)
 replace B13 := B13.evo E71 (by intro hm; have aT := Option.mem_toList.1 hm; have := hov68.block aT; omega)
 refine Ah ζ ?_
 refine Zh (i := 9) ?_
 refine Zo (AR (v := v70) rfl η) ?_
 refine Ah ζ ?_
 refine A5 ζ ?_
 refine Ad ?_ ?_
 refine ⟨_, _, _, _, _, _, _, rfl, rfl, J, (hov70.base_le ω), B13, U, (by first | exact hFI.text _ | exact hFI.slot (CN _ ω).1 | exact hFI.empty (Bu _ ω).1 ω | exact hFI.open_ (BZ _ ω).1 ω | exact hFI.close ω ω | exact hFI.closeNew υ ω), (by first | exact hNS.otherB rfl rfl | exact hNS.open_ _ _ | exact hNS.close ω hkn _ | exact NS.closeNew (dO).2), ⟨by first | omega | exact Nat.le_trans (CN _ ω).2 υ | exact Nat.le_trans (Bu _ ω).2 υ | exact Nat.le_trans (BZ _ ω).2 υ | exact Nat.le_trans (CR _) (Nat.le_trans (GF hopt _) υ) | decide, by first | omega | (simp; done) | (simp; omega), by omega, by omega, by omega⟩, (by first | exact hopt | exact (fun o ho => (List.mem_append.1 ho).elim (hopt o) (fun h => by simp at h; subst h; exact (BZ _ ω).2)) | exact (fun o ho => (List.mem_append.1 ho).elim (fun h => hopt o (List.mem_of_mem_take h)) (fun h => hopt o (List.mem_of_mem_drop h)))), δ, hV⟩
 exact ψ
 refine Zs (Zo (Cc rfl η) (Zo Cb ?_))
 refine Aj rfl BW rfl (fun hg => Cc rfl η) ?_
 refine Aj rfl BW rfl (fun hg => Cd rfl (Ar hg)) ?_
 refine Zn Ht (AH η (fun b8 => ?_) (fun b8 => ?_))
 refine Zs (Zo AU (Zo Br (Zn Am (AB (Zo AU (Zo (A2 (pv := [(0, .int _ _), (1, S _), (2, .int _ _)]) (zs := [_, _, _]) (cells := [_, _, _]) rfl AY η Eu η η) (Ai (v := .agg _) (vs := [_, _, _]) (cs' := [_, _, _]) η η B13 AY η rfl η rfl η ?_)))))))
 intro w73 E73 V73 hb_new
 have h0 := E73.size
 replace hV := Z1 hV E73 ε
 replace J := J.evo E73 (by intro g hg hm; simp at hm; subst hm; exact bx _ hg rfl)
 replace I := I.evo E73 (by intro g hg hm; simp at hm; subst hm; exact bz _ hg rfl)
 replace U := U.evo E73 θ
 replace B13 := hb_new
 have C := B13.at
 clear hb_new
 refine Ag (Ad ?_ ?_)
 refine ⟨_, _, _, _, _, _, _, rfl, rfl, J, (I.base_le ω), B13, U, (by first | exact hFI.text _ | exact hFI.slot (CN _ ω).1 | exact hFI.empty (Bu _ ω).1 ω | exact hFI.open_ (BZ _ ω).1 ω | exact hFI.close ω ω | exact hFI.closeNew υ ω), (by first | exact hNS.otherB rfl rfl | exact hNS.open_ _ _ | exact hNS.close ω hkn _ | exact NS.closeNew (b8).2), ⟨by first | omega | exact Nat.le_trans (CN _ ω).2 υ | exact Nat.le_trans (Bu _ ω).2 υ | exact Nat.le_trans (BZ _ ω).2 υ | exact Nat.le_trans (CR _) (Nat.le_trans (GF hopt _) υ) | decide, by first | omega | (simp; done) | (simp; omega), by omega, by omega, by omega⟩, (by first | exact hopt | exact (fun o ho => (List.mem_append.1 ho).elim (hopt o) (fun h => by simp at h; subst h; exact (BZ _ ω).2)) | exact (fun o ho => (List.mem_append.1 ho).elim (fun h => hopt o (List.mem_of_mem_take h)) (fun h => hopt o (List.mem_of_mem_drop h)))), δ, hV⟩
 exact ψ
 refine AJ (Ad ?_ ?_)
 refine ⟨_, _, _, _, _, _, _, rfl, rfl, J, (I.base_le ω), B13, U, (by first | exact hFI.text _ | exact hFI.slot (CN _ ω).1 | exact hFI.empty (Bu _ ω).1 ω | exact hFI.open_ (BZ _ ω).1 ω | exact hFI.close ω ω | exact hFI.closeNew υ ω), (by first | exact hNS.otherB rfl rfl | exact hNS.open_ _ _ | exact hNS.close ω hkn _ | exact NS.closeNew (b8).2), ⟨by first | omega | exact Nat.le_trans (CN _ ω).2 υ | exact Nat.le_trans (Bu _ ω).2 υ | exact Nat.le_trans (BZ _ ω).2 υ | exact Nat.le_trans (CR _) (Nat.le_trans (GF hopt _) υ) | decide, by first | omega | (simp; done) | (simp; omega), by omega, by omega, by omega⟩, (by first | exact hopt | exact (fun o ho => (List.mem_append.1 ho).elim (hopt o) (fun h => by simp at h; subst h; exact (BZ _ ω).2)) | exact (fun o ho => (List.mem_append.1 ho).elim (fun h => hopt o (List.mem_of_mem_take h)) (fun h => hopt o (List.mem_of_mem_drop h)))), δ, hV⟩
 exact ψ
 refine AJ (Ad ?_ ?_)
 refine ⟨_, _, _, _, _, _, _, rfl, rfl, J, (I.base_le ω), B13, U, (by first | exact hFI.text _ | exact hFI.slot (CN _ ω).1 | exact hFI.empty (Bu _ ω).1 ω | exact hFI.open_ (BZ _ ω).1 ω | exact hFI.close ω ω | exact hFI.closeNew υ ω), (by first | exact hNS.otherB rfl rfl | exact hNS.open_ _ _ | exact hNS.close ω hkn _ | exact NS.closeNew (ds).2), ⟨by first | omega | exact Nat.le_trans (CN _ ω).2 υ | exact Nat.le_trans (Bu _ ω).2 υ | exact Nat.le_trans (BZ _ ω).2 υ | exact Nat.le_trans (CR _) (Nat.le_trans (GF hopt _) υ) | decide, by first | omega | (simp; done) | (simp; omega), by omega, by omega, by omega⟩, (by first | exact hopt | exact (fun o ho => (List.mem_append.1 ho).elim (hopt o) (fun h => by simp at h; subst h; exact (BZ _ ω).2)) | exact (fun o ho => (List.mem_append.1 ho).elim (fun h => hopt o (List.mem_of_mem_take h)) (fun h => hopt o (List.mem_of_mem_drop h)))), δ, hV⟩
 exact ψ
 rintro g iB ⟨en, b2, bY, N2, kx, tx, ix, hj75, hj76, J, I, B13, U, hFX, hNX, hsz2, hop2, hzl18, hV⟩
 have e1 := hV.size
 have gR := B13.lt
 have gS := U.lt
 have C := B13.at
 have a1 := U.at
 refine Zk 10 hj75 (Zk 11 hj76 (AX ?_))
 have gg := fun g hg => (I.block (g := g) hg).2
 have il : Small (f ++ [⟨kx, tx, ix⟩]) := ⟨by rw [List.length_append]; simp; omega, by rw [BR, CK]; simp; omega⟩
 refine AB (Zo (AN (v := vf) rfl η) (Zo (AL rfl CP AY η rfl C) (BT (pv := [(0, .agg _)]) (zs := [_, _, _]) (cs := [_, _, _]) underlying33 AY η rfl η rfl η ?_)))
 intro b79 w80 J79 E80 B79 Y79
 have h3 := E80.size
 replace hV := Z0 hV E80
 replace J := J.evo0 E80
 replace I := I.evo0 E80
 replace U := U.evo0 E80
 have bL : RowE w80 (some ⟨b79, 0, none⟩) b79 0 1 ([⟨kx, tx, ix⟩] : List Vc.Item) := CH ([⟨kx, tx, ix⟩] : List Vc.Item) B79 rfl rfl
 obtain ⟨hd, ie, hj, gm, b_, ht⟩ := J.rowOf
 subst gm
 refine Zr [.slice _ _ _, .slice (some ⟨b79, 0, none⟩) _ _] rfl η func83 (GW b_ bL κ) ?_
 rintro e iC ⟨gu, rfl, F82, hon82⟩
 refine ⟨_, rfl, ?_⟩
 have h4 := F82.size
 replace hV := Z0 hV F82
 replace J := J.evo0 F82
 replace I := I.evo0 F82
 replace U := U.evo0 F82
 replace bL := bL.evo0 F82
 replace b_ := b_.evo0 F82
 refine Zn (AR (v := gu) rfl η) (AX (AB (Zo AU (Zo TP (Zn Am (Zg (i - 1) ?_))))))
 refine ⟨_, _, _, _, _, _, σ, rfl, rfl, rfl, (hon82.base_le ω), I, U, (by rw [hFI.norm]; exact hFX), (by rw [hFI.norm]; exact hNX), (by have h1 := D9 (f ++ [⟨kx, tx, ix⟩]); have h2 := D4 (f ++ [⟨kx, tx, ix⟩]); rw [List.length_append] at h1; rw [BR, CK] at h2; simp at h1 h2; omega), (fun g hg h hh => by have h1 := (hon82).block (g := g) hg; have h2 := gg h hh; omega), hop2, δ, hV⟩
 refine Ak rfl (AE (Zs (Zo (AN (v := vo) rfl η) (Zo (Ci rfl η underlying33 I) (Zo TP (Zn Am (AK ?_)))))))
 obtain ⟨e3, ec, e4, gn, gh, ea⟩ := I.rowOf
 subst gn
 refine Aq (α := Nat) [9, 15, 118, 119, 120, 121, 122, 123, 124, 125, 126, 127, 128, 129, 130, 131, 132, 133, 134, 135, 136, 137, 138, 139] (fun j g w => ∃ bB : Value, ∃ f2 : List Vc.Item, g 15 = .int .i64 ((j : Nat) - 1) ∧ g 9 = bB ∧ OwnE w w0.heap.size 71 bB f2 ∧ RowE w e3 ec 0 e4 op ∧ Blk w bs T [.slice ao l.length cap, .int .i64 (N1 : Nat)] ∧ FI f2 (op.take j) b0 ∧ NS nested f2 (op.take j) ∧ (f2.length + j ≤ f.length + op.length ∧ Ay f2 + 5 * j ≤ Ay f + 5 * op.length ∧ j ≤ op.length) ∧ (op ≠ [] → ∀ g, bB.ownBlock = some g → g ≠ ec) ∧ (op ≠ [] → ec < w.heap.size) ∧ w3.heap.size ≤ w.heap.size ∧ Evo w0 w [bs]) (fun j => j) op.length ?_ ?_
 refine ⟨_, _, rfl, rfl, J, gh, U, (by rw [List.take_of_length_le (Nat.le_refl _)]; exact hFI), (by rw [List.take_of_length_le (Nat.le_refl _)]; exact hNS), δ, (fun az g hg => hsep g hg _ (ea az).1), (fun az => (ea az).2.2), δ, hV⟩
 rintro j g iD ⟨bB, f2, hj86, hj87, al, au, U, hFI2, hNS2, hsz3, hsep2, hgo, hzl84, hV⟩
 have e2 := hV.size
 have gT := U.lt
 have a1 := U.at
 refine Zk 15 hj86 (Zk 9 hj87 (AE (Zs (Zo AU (Zo (CV rfl η η) (Zo Cb ?_))))))
 refine Aj rfl BW rfl (fun hg => Cc rfl η) ?_
 refine Zn Ht (AH η (fun d_ => ?_) (fun d_ => ?_))
 refine AJ (AE (AK ?_))
 have gO := GF hopt (j - 1)
 have dn := hV
 refine Aw ([]) ζ ?_
 intro w90 F91 R
 have h5 := F91.size
 replace hV := Z0 hV F91
 replace al := al.evo0 F91
 replace au := au.evo0 F91
 replace U := U.evo0 F91
 refine Zt (i := 0) η (fun w' hC => AN (v := bB) rfl η) R (Zt (i := 1) η (fun w' hC => Bi) R (Zt (i := 2) η (fun w' hC => AU) R (Zt (i := 3) η (fun w' hC => Ab ((j - 1)) rfl underlying33 AY η η ω ω (au.addr (i := (j - 1)) ω)) R ?_)))
 have dm := au.atD ((j - 1)) ω
 refine Zt (i := 4) η (fun w' hC => AD rfl η Bp) R (Zt (i := 7) η (fun w' hC => Bi) R (Zt (i := 8) η (fun w' hC => AU) R (Zt (i := 9) η (fun w' hC => Ab ((j - 1)) rfl underlying33 AY η η ω ω (au.addr (i := (j - 1)) ω)) R ?_)))
 have bt := au.atD ((j - 1)) ω
 refine Zt (i := 10) η (fun w' hC => AD rfl η CO) R ?_
 refine GM (i := 5) (j := 11) ζ ?_ ?_
 refine EO η ?_
 refine Zo (AA rfl BX η (dm.cell 1 η)) ?_
 refine AZ R ?_
 refine GM (i := 6) (j := 11) ζ ?_ ?_
 refine EO η ?_
 refine Zr [S _] rfl η func82 (GG ω) ?_
 rintro e iE ⟨rfl, F95⟩
 refine ⟨_, rfl, ?_⟩
 have h6 := F95.size
 replace hV := Z0 hV F95
 replace R := Z0 R F95
 replace al := al.evo0 F95
 replace au := au.evo0 F95
 replace U := U.evo0 F95
 replace bt := bt.evo0 F95
 refine AZ R ?_
 refine Zh (i := 11) ?_
 refine Zo (AA rfl Ae η (bt.cell 2 η)) ?_
 refine AZ R ?_
 refine Zt (i := 12) η (fun w' hC => A2 (pv := [(0, .int _ _), (1, S _), (2, .int _ _)]) (zs := [_, _, _]) (cells := [_, _, _]) rfl AY η Eu η η) R ?_
 refine Zh (i := 13) ?_
 refine BT (pv := [(0, .agg _)]) (zs := [_, _, _]) (cs := [_, _, _]) underlying33 AY η rfl η rfl η ?_
 intro b96 w97 J96 E97 B96 Y96
 have h_ := E97.size
 replace hV := Z0 hV E97
 replace R := Z0 R E97
 replace al := al.evo0 E97
 replace au := au.evo0 E97
 replace U := U.evo0 E97
 have ek := CH (α := Vc.Item) [⟨_, _, _⟩] B96 (by show [_, _, _] = [_, _, _]; first | (dsimp only; done) | exact rfl | (dsimp only; exact rfl)) rfl
 refine AZ R ?_
 refine Zh (i := 14) ?_
 refine Bs rfl underlying33 AY η al η η ek rfl (τ) (τ) ω ?_
 intro v98 w99 E99 hov98 hlv98
 have ia := E99.size
 replace hV := AP hV E99 (fun g hg => .inl (by first | exact (al.block hg).1 | (have := al.block hg; omega)))
 replace au := C1 au E99 (fun az hm => hsep2 az _ (Option.mem_toList.1 hm) rfl)
 replace U := U.evo E99 (by intro hm; have aT := Option.mem_toList.1 hm; have := al.block aT; omega)
 refine Ah ζ ?_
 refine Zh (i := 15) ?_
 refine Zo (AR (v := v98) rfl η) ?_
 refine Ah ζ ?_
 refine A5 ζ ?_
 refine AX (AB (Zo AU (Zo TP (Zn Am (Zg (j - 1) ?_)))))
 refine ⟨_, _, σ, rfl, hov98, au, U, (hFI2.closeLast ω ω ω), (hNS2.closeLast ω ω _), (by rw [List.length_append, BR, CK]; have h1 := CR (op.getD (j - 1) default).text; have h2 := GF hopt (j - 1); simp only [List.length_cons, List.length_nil]; omega), (fun az g hg => hlv98.elim (fun h => hsep2 az g (h.symm.trans hg)) (fun h => by have h7 := hgo az; have h8 := Option.some.inj (h.symm.trans hg); omega)), (fun az => by have h7 := hgo az; omega), δ, hV⟩
 refine EO η ?_
 refine Zo (AA rfl Ae η (bt.cell 2 η)) ?_
 refine AZ R ?_
 refine Zh (i := 6) ?_
 refine Zr [S _] rfl η func82 (GG ω) ?_
 rintro e hz ⟨rfl, F100⟩
 refine ⟨_, rfl, ?_⟩
 have gV := F100.size
 replace hV := Z0 hV F100
 replace R := Z0 R F100
 replace al := al.evo0 F100
 replace au := au.evo0 F100
 replace U := U.evo0 F100
 refine AZ R ?_
 refine Zt (i := 12) η (fun w' hC => A2 (pv := [(0, .int _ _), (1, S _), (2, .int _ _)]) (zs := [_, _, _]) (cells := [_, _, _]) rfl AY η Eu η η) R ?_
 refine Zh (i := 13) ?_
 refine BT (pv := [(0, .agg _)]) (zs := [_, _, _]) (cs := [_, _, _]) underlying33 AY η rfl η rfl η ?_
 intro b101 w102 J101 E102 B101 Y101
 have gW := E102.size
 replace hV := Z0 hV E102
 replace R := Z0 R E102
 replace al := al.evo0 E102
 replace au := au.evo0 E102
 replace U := U.evo0 E102
 have c0 := CH (α := Vc.Item) [⟨_, _, _⟩] B101 (by show [_, _, _] = [_, _, _]; first | (dsimp only; done) | exact rfl | (dsimp only; exact rfl)) rfl
 refine AZ R ?_
 refine Zh (i := 14) ?_
 refine Bs rfl underlying33 AY η al η η c0 rfl (τ) (τ) ω ?_
 intro v103 w104 E104 hov103 hlv103
 have gX := E104.size
 replace hV := AP hV E104 (fun g hg => .inl (by first | exact (al.block hg).1 | (have := al.block hg; omega)))
 replace au := C1 au E104 (fun az hm => hsep2 az _ (Option.mem_toList.1 hm) rfl)
 replace U := U.evo E104 (by intro hm; have aT := Option.mem_toList.1 hm; have := al.block aT; omega)
 refine Ah ζ ?_
 refine Zh (i := 15) ?_
 refine Zo (AR (v := v103) rfl η) ?_
 refine Ah ζ ?_
 refine A5 ζ ?_
 refine AX (AB (Zo AU (Zo TP (Zn Am (Zg (j - 1) ?_)))))
 refine ⟨_, _, σ, rfl, hov103, au, U, (hFI2.closeLast ω ω ω), (hNS2.closeLast ω ω _), (by rw [List.length_append, BR, CK]; have h1 := CR (op.getD (j - 1) default).text; have h2 := GF hopt (j - 1); simp only [List.length_cons, List.length_nil]; omega), (fun az g hg => hlv103.elim (fun h => hsep2 az g (h.symm.trans hg)) (fun h => by have h7 := hgo az; have h8 := Option.some.inj (h.symm.trans hg); omega)), (fun az => by have h7 := hgo az; omega), δ, hV⟩
 refine EO η ?_
 refine Zo (AA rfl Ae η (bt.cell 2 η)) ?_
 refine AZ R ?_
 refine Zh (i := 5) ?_
 refine Zo (AA rfl BX η (dm.cell 1 η)) ?_
 refine AZ R ?_
 refine Zh (i := 6) ?_
 refine Zr [S _] rfl η func82 (GG ω) ?_
 rintro e hA ⟨rfl, F105⟩
 refine ⟨_, rfl, ?_⟩
 have gY := F105.size
 replace hV := Z0 hV F105
 replace R := Z0 R F105
 replace al := al.evo0 F105
 replace au := au.evo0 F105
 replace U := U.evo0 F105
 refine AZ R ?_
 refine Zt (i := 12) η (fun w' hC => A2 (pv := [(0, .int _ _), (1, S _), (2, .int _ _)]) (zs := [_, _, _]) (cells := [_, _, _]) rfl AY η Eu η η) R ?_
 refine Zh (i := 13) ?_
 refine BT (pv := [(0, .agg _)]) (zs := [_, _, _]) (cs := [_, _, _]) underlying33 AY η rfl η rfl η ?_
 intro b106 w107 J106 E107 B106 Y106
 have gZ := E107.size
 replace hV := Z0 hV E107
 replace R := Z0 R E107
 replace al := al.evo0 E107
 replace au := au.evo0 E107
 replace U := U.evo0 E107
 have c3 := CH (α := Vc.Item) [⟨_, _, _⟩] B106 (by show [_, _, _] = [_, _, _]; first | (dsimp only; done) | exact rfl | (dsimp only; exact rfl)) rfl
 refine AZ R ?_
 refine Zh (i := 14) ?_
 refine Bs rfl underlying33 AY η al η η c3 rfl (τ) (τ) ω ?_
 intro v108 w109 E109 hov108 hlv108
 have g_ := E109.size
 replace hV := AP hV E109 (fun g hg => .inl (by first | exact (al.block hg).1 | (have := al.block hg; omega)))
 replace au := C1 au E109 (fun az hm => hsep2 az _ (Option.mem_toList.1 hm) rfl)
 replace U := U.evo E109 (by intro hm; have aT := Option.mem_toList.1 hm; have := al.block aT; omega)
 refine Ah ζ ?_
 refine Zh (i := 15) ?_
 refine Zo (AR (v := v108) rfl η) ?_
 refine Ah ζ ?_
 refine A5 ζ ?_
 refine AX (AB (Zo AU (Zo TP (Zn Am (Zg (j - 1) ?_)))))
 refine ⟨_, _, σ, rfl, hov108, au, U, (hFI2.closeLast ω ω ω), (hNS2.closeLast ω ω _), (by rw [List.length_append, BR, CK]; have h1 := CR (op.getD (j - 1) default).text; have h2 := GF hopt (j - 1); simp only [List.length_cons, List.length_nil]; omega), (fun az g hg => hlv108.elim (fun h => hsep2 az g (h.symm.trans hg)) (fun h => by have h7 := hgo az; have h8 := Option.some.inj (h.symm.trans hg); omega)), (fun az => by have h7 := hgo az; omega), δ, hV⟩
 refine Ak rfl (Zs (Zo (AN (v := bB) rfl η) (Zn (AR (v := bB) rfl η) (AM (C8 (v := bB) rfl η) ?_))))
 exact ⟨_, _, N1, rfl, ⟨hFI2.val, by omega, by omega, hNS2.done d_⟩, by omega, hV, U, al⟩
end Go.Proofs.YtbgmlpbgofcfjaaGreatDoor
namespace Go.Vc
open Go Go.RowKit Go.IntWalk Go.Sort
section
variable {P : Program} {B : Exit → Act → World → Prop} {n : Nat} {k : List Kont} {f : Fr} {w : World} {ops : Array Oper} {rest : List Oper}
theorem Qo {T d : Nat} {t : TypeId} {pos : String} {j : Array Edge} {x : Operand} {v : Value} {vs : List Value} (I : opv f x = v) (C : v.cells = vs.toArray) (o : Nat.blt d n = true)
    (h : ∀ b w', b = w.heap.size → Evo w w' [] → Blk w' b T vs → w'.heap.size = b + 1 → w.drawn ≤ w'.drawn → KL P B n ops k rest (upd f d (.pointer (some ⟨b, 0, none⟩))) w') :
    KL P B n ops k (⟨some d, .box T x, t, pos, j, none⟩ :: rest) f w := by
  refine Hs (v := .pointer (some ⟨w.heap.size, 0, none⟩)) (w' := w.alloc (.cells vs.toArray T)) rfl rfl o ?_ (h _ _ rfl (Evo.alloc _ _ _) (heap_alloc_new w _) (by simp) (Nat.le_refl _))
  simp [execOp, I, Instr.box, newVar, newRow, C]
theorem Pc {id : Nat} {l : List Oper} (E : List Nat) (hm : P.follows .mixedOrders = true) (h : ∀ j, Evo w j [] → Evo w j E → w.drawn ≤ j.drawn → HA P B n k (fun w' => Evo w w' E) l.toArray l.toArray.size [] f j) : KF P B n (.code (.region id l.toArray true) :: k) f w := by
  intro a ha
  show (Code.region id l.toArray true).wp P (Kx P B k) a w
  exact wp_region_noPanic (wp_region_any hm (OD _ _ _ _ (h _ (Evo.drew _ _) (Evo.drew _ _) (Nat.le_succ _) a ha)))
theorem O4 {T E d len m bb : Nat} {t : TypeId} {pos : String} {C : Array Edge} {ps : List (Nat × Operand)} {pv : List (Nat × Value)} {z : Value} {zs cs : List Value}
    (hu : P.underlying T = some (.slice E)) (U : Cy P E = some (m, bb, some z)) (hz : z.cells = zs.toArray) (hd : Nat.blt d n = true) (R : (ps.map fun p => (p.1, opv f p.2)) = pv) (hlen : (Nat.beq zs.length m && Nat.ble 1 m && Nat.ble (len * m) 10000) = true)
    (hf : Ej (fun i => some (i * m, m)) (List.replicate len zs).flatten pv = some cs)
    (h : ∀ b w', b = w.heap.size → Evo w w' [] → Blk w' b E cs → w'.heap.size = b + 1 → w.drawn ≤ w'.drawn → KL P B n ops k rest (upd f d (.slice (some ⟨b, 0, none⟩) len len)) w') :
    KL P B n ops k (⟨some d, .buildSlice T len ps.toArray, t, pos, C, none⟩ :: rest) f w := by
  refine Hs (v := .slice (some ⟨w.heap.size, 0, none⟩) len len) (w' := w.alloc (.cells cs.toArray E)) rfl rfl hd ?_ (h _ _ rfl (Evo.alloc _ _ _) (heap_alloc_new w _) (by simp) (Nat.le_refl _))
  unfold execOp
  simp only []
  rw [Iz, R]
  simp only [Bool.and_eq_true, Nat.ble_eq] at hlen
  have af := Nat.eq_of_beq_eq_true hlen.1.1
  have I : ¬ (2 ^ 24 < len * m) := by have : (2:Nat) ^ 24 = 16777216 := (by decide); omega
  have j := Il _ _ _ hf
  rw [← Da hz af ω len] at j
  by_cases h0 : len * m = 0
  · have J : len = 0 := by
      rcases Nat.mul_eq_zero.1 h0 with h1 | h1
      · exact h1
      · omega
    subst J
    have e0 : ∀ g : Nat → Value, (Array.range 0).map g = #[] := fun g => Array.eq_empty_of_size_eq_zero (by simp)
    have o : Instr.fill (fun i => some (i * m, m)) #[] pv = some cs.toArray := by
      rw [show 0 * m = 0 by omega, e0] at j
      exact j
    simp [Instr.buildSlice, run_underlying hu, CF U, newRow, e0, o]
  · simp [Instr.buildSlice, run_underlying hu, CF U, ET U, I, h0, newRow]
    rw [j]
    simp
end
theorem Rj {w w' : World} (h : Evo w w' []) (U : w.drawn ≤ w'.drawn) : ∃ q j, w' = grow (w.drewN q) j := by
  obtain ⟨h1, o, C, R, I⟩ := h
  refine ⟨w'.drawn - w.drawn, w'.heap.extract w.heap.size w'.heap.size, ?_⟩
  have J : w'.heap = w.heap ++ w'.heap.extract w.heap.size w'.heap.size := by
    apply Array.ext_getElem?
    intro i
    rcases Nat.lt_or_ge i w.heap.size with hi | hi
    · rw [Array.getElem?_append_left hi]; exact I i hi (by simp)
    · rw [Array.getElem?_append_right hi, Array.getElem?_extract]
      split
      · congr 1; omega
      · rw [Array.getElem?_eq_none ω]
  cases w; cases w'
  simp only [grow, World.drewN] at *
  subst h1; subst o; subst C
  simp only [World.mk.injEq, true_and]
  refine ⟨J, ?_, trivial⟩
  omega
theorem Ot {P : Program} {n : Nat} {f : Fr} {w : World} {fn : Func} {s t : Nat} {T : TypeId} {b : Nat} {m j : Nat} {z : Option Value} {cs : List Value} {u : Value} (h : fn.results = #[.cell s T, .tmp t]) (C : CQ P T = some true) (ht : Cy P T = some (m, j, z)) (U : f s = .pointer (some ⟨b, 0, none⟩)) (R : cs.length = m) (I : At w b 0 cs) (hu : f t = u) :
    ∀ a, Is n f a → (results fn a.tmps).run P w = .ok (.tuple #[.agg cs.toArray, u]) w := fun a J => by
  have h1 := Gn (P := P) (w := w) C ht R I
  have o : (loadVar T ⟨b, 0, none⟩).run P w = .ok (.agg cs.toArray) w := by
    simpa [Instr.loadAt, Instr.sureAddr] using h1
  simp [results, h, J.get, U, hu, asAddr, o]
end Go.Vc
namespace Go.Vc
open Go Go.RowKit Go.IntWalk Go.Sort Go.Proofs
section
variable {α : Type} [Enc α] [Inhabited α] {w : World} {base : Nat} {E : TypeId} {v : Value} {l : List α}
theorem NU (l : List α) : (flatK (Enc.enc : α → List Value) (Enc.n α) l.toArray).toList = (l.map Enc.enc).flatten := by
  have j : ∀ cs ∈ l.map (Enc.enc : α → List Value), cs.length = Enc.n α := fun cs C => by
    obtain ⟨x, _, rfl⟩ := List.mem_map.1 C; exact Enc.len x
  have R := Enc.pos (α := α)
  have o := Bm _ _ j
  rw [List.length_map] at o
  apply List.ext_getElem?
  intro t
  rcases Nat.lt_or_ge t (l.length * Enc.n α) with ht | ht
  · have I : t / Enc.n α < l.length := (Nat.div_lt_iff_lt_mul R).2 ht
    have J : t % Enc.n α < Enc.n α := Nat.mod_lt _ R
    have h1 := Ea (l.map Enc.enc) (Enc.n α) (t / Enc.n α) (t % Enc.n α) (Enc.enc l[t / Enc.n α]) j (by simp [I]) J
    have e : t / Enc.n α * Enc.n α + t % Enc.n α = t := by rw [Nat.mul_comm]; exact Nat.div_add_mod _ _
    rw [e] at h1
    rw [h1, Array.getElem?_toList]
    have hlen : (Enc.enc l[t / Enc.n α]).length = Enc.n α := Enc.len _
    simp [flatK, ht, I, getElem!_pos, hlen, J]
  · rw [List.getElem?_eq_none (by simpa using ht), List.getElem?_eq_none (by rw [o]; exact ht)]
theorem Ph {g cur : _} (C : w.heap[g]? = some (.cells cur E (0, 0))) (I : cur.toList.take (l.length * Enc.n α) = (l.map Enc.enc).flatten) : HoldsK (Enc.enc : α → List Value) (Enc.n α) w g 0 l.toArray := by
  intro j hj
  have o : j < l.length * Enc.n α := by simpa using hj
  refine ⟨?_, by simp [World.frozen?, C]⟩
  have h1 : (cur.toList.take (l.length * Enc.n α))[j]? = (flatK (Enc.enc : α → List Value) (Enc.n α) l.toArray).toList[j]? := by rw [I, NU]
  rw [List.getElem?_take_of_lt o] at h1
  simp only [World.cell?, C, Nat.zero_add]
  simp only [Option.isSome_none, Bool.false_eq_true, if_false]
  rw [← Array.getElem?_toList, h1, Array.getElem?_toList]
  simp [o]
theorem Pz {g n : Nat} {os : Array Obj} {cur : Array Value} (d : Array α) (j : w.heap[g]? = some (.cells cur E (0, 0))) :
    (sortWorldK (Enc.enc : α → List Value) (Enc.n α) w g 0 n d os).heap[g]? = some (.cells (putCells id 0 (flatK Enc.enc (Enc.n α) d) cur) E (0, 0)) := by
  have o : g < w.heap.size := (Array.getElem?_eq_some_iff.1 j).1
  unfold sortWorldK putRowK
  rw [heap_grow_old _ _ (by simpa [putRow, mapBlock, Sort.ahead] using o)]
  simp [putRow, mapBlock, Sort.ahead, Array.getElem?_modify, j, onCells]
theorem H7 {g n : Nat} {os : Array Obj} (d : Array α) : Evo w (sortWorldK (Enc.enc : α → List Value) (Enc.n α) w g 0 n d os) [g] := by
  unfold sortWorldK putRowK
  refine ⟨rfl, rfl, rfl, by simp [putRow, mapBlock, Sort.ahead], fun k hk j => ?_⟩
  rw [heap_grow_old _ _ (by simpa [putRow, mapBlock, Sort.ahead] using hk)]
  have : g ≠ k := fun e => j (by simp [e])
  simp [putRow, mapBlock, Sort.ahead, Array.getElem?_modify, this]
theorem Vg (cur : Array Value) (F : Array Value) (h : F.size ≤ cur.size) : (putCells id 0 F cur).toList.take F.size = F.toList := by
  apply List.ext_getElem?
  intro j
  by_cases o : j < F.size
  · rw [List.getElem?_take_of_lt o, Array.getElem?_toList]
    simp [putCells, o, show j < cur.size by omega]
  · rw [List.getElem?_take_eq_none ω, List.getElem?_eq_none θ]
theorem L5 {g n cap : Nat} {os : Array Obj} {cur : Array Value} {l' : List α} (o : l'.length = l.length) (hb : base ≤ g) (hg : w.heap[g]? = some (.cells cur E (0, 0))) (h1 : l.length ≤ cap) (U : cap ≤ maxLen) (J : cur.size = cap * Enc.n α) (C : l.length ≤ 140737488355328) :
    OwnE (sortWorldK (Enc.enc : α → List Value) (Enc.n α) w g 0 n l'.toArray os) base E (.slice (some ⟨g, 0, none⟩) l.length cap) l' := by
  have j : ∀ cs ∈ l'.map (Enc.enc : α → List Value), cs.length = Enc.n α := fun cs I => by
    obtain ⟨x, _, rfl⟩ := List.mem_map.1 I; exact Enc.len x
  have hle : l.length * Enc.n α ≤ cap * Enc.n α := Nat.mul_le_mul_right _ h1
  refine ⟨⟨?_, .inr ⟨g, cap, _, by rw [List.length_map, o], hb, Pz _ hg, by rw [List.length_map, o]; exact h1, U, by simp [putCells, J], ?_⟩⟩, j, by rw [List.length_map, o]; exact C⟩
  · rw [Bm _ _ j]
  · rw [List.length_map, o, ← NU]
    have R : (flatK (Enc.enc : α → List Value) (Enc.n α) l'.toArray).size = l.length * Enc.n α := by simp [o]
    rw [← R]
    exact Vg cur _ (by rw [R, J]; exact hle)
theorem Xb {P : Program} {fn g : FuncId} {C : Array Value} {R : List α → List α → Prop} (hs : ∀ l l', R l l' → l'.length = l.length) (U : R [] [])
    (c : ∀ (j off cap : Nat) (d : Array α) (w : World), HoldsK (Enc.enc : α → List Value) (Enc.n α) w j off d → j < w.heap.size → d.size < 4611686018427387904 →
      Calls P fn #[.slice (some ⟨j, off, none⟩) d.size cap, .func (.func g) #[] C] w fun e w' => e = .returned (.tuple #[]) ∧ ∃ (o : Array α) (n : Nat) (os : Array Obj), R d.toList o.toList ∧ w' = sortWorldK (Enc.enc : α → List Value) (Enc.n α) w j off n o os)
    (c0 : ∀ w : World, Calls P fn #[.slice none 0 0, .func (.func g) #[] C] w fun e w' => e = .returned (.tuple #[]) ∧ w' = w)
    (h : OwnE w base E v l) : Calls P fn #[v, .func (.func g) #[] C] w fun e w' => e = .returned (.tuple #[]) ∧ Evo w w' v.ownBlock.toList ∧ ∃ l', R l l' ∧ OwnE w' base E v l' := by
  have h0 : Own w base E (Enc.n α) v (l.map Enc.enc) := h
  rcases h0.row.2 with ⟨hv, hl⟩ | ⟨g2, cap, cur, hv, hb, hg, h2, h3, h4, h5⟩
  · have J : l = [] := List.eq_nil_of_length_eq_zero (by simpa using hl)
    subst J; subst hv
    refine (c0 w).mono ?_
    rintro e w' ⟨rfl, rfl⟩
    exact ⟨rfl, Evo.refl _ _, [], U, h⟩
  · rw [List.length_map] at hv h2 h5
    have I := h.bd
    subst hv
    refine (c g2 0 cap l.toArray w (Ph hg h5) (Array.getElem?_eq_some_iff.1 hg).1 θ).mono ?_
    rintro e w' ⟨rfl, o, n, os, hR, rfl⟩
    exact ⟨rfl, H7 _, o.toList, hR, L5 (l' := o.toList) (hs _ _ hR) hb hg h2 h3 h4 I⟩
end
def S4 {α : Type} (lt : α → α → Bool) (l l' : List α) : Prop := l'.Perm l ∧ l'.Pairwise (fun x y => lt y x = false)
theorem X7 {α : Type} [Inhabited α] {lt : α → α → Bool} {d o : Array α} (U : PermIn 0 d.size d o) (hs : SortedIn lt 0 d.size o) : S4 lt d.toList o.toList := by
  obtain ⟨h1, _, J⟩ := U
  refine ⟨?_, List.pairwise_iff_getElem.2 fun i j R I C => ?_⟩
  · have e : o.extract 0 d.size = o := by rw [← h1]; simp
    rw [e] at J; simpa using J
  · have := hs i j (Nat.zero_le _) C (by rw [← h1]; simpa using I)
    simp at R I
    rwa [getElem!_pos o j I, getElem!_pos o i R] at this
section
variable {P : Program} {f : Fr} {w : World} {o : Oper}
theorem V1 {t t2 : TypeId} {x y : Operand} {a b : List UInt8} (j : o.op = .binOp .gtr t x y t2) (C : opv f x = S a) (I : opv f y = S b) :
    (execOp (opv f) o).run P w = .ok (.value (.bool (decide (¬ (blt a b || a == b) = true)))) w := H2 j C I (by
  simp only [Op.stringOp, Fp, blt, Sem.run_pure]
  congr 2
  rw [Bool.eq_iff_iff]; simp)
end
def IZ (a b : Ac) : Int := if a < b then -1 else if b < a then 1 else 0
def OL (a b : Int) : Int := if ¬ a = 0 then a else b
def OW (x y : Gram) : Int := OL (IZ x.fst y.fst) (IZ x.snd y.snd)
theorem Fg (a : Ac) : ¬ a < a := List.lt_irrefl a
theorem Pd {a b c : Ac} (h : a < b) (j : b < c) : a < c := List.lt_trans h j
theorem Ml {a b : Ac} (h : ¬ a < b) (j : ¬ b < a) : a = b := List.le_antisymm (List.not_lt.1 j) (List.not_lt.1 h)
def Pp (x y : Ac × Ac) : Prop := x.1 < y.1 ∨ (x.1 = y.1 ∧ x.2 < y.2)
instance (x y : Ac × Ac) : Decidable (Pp x y) := by unfold Pp; infer_instance
def Bj (x : Gram) : Ac × Ac := (x.fst, x.snd)
theorem Cz (x : Ac × Ac) : ¬ Pp x x := fun h => by rcases h with h | h; exact Fg _ h; exact Fg _ h.2
theorem G6 {x y z : Ac × Ac} (h : Pp x y) (j : Pp y z) : Pp x z := by
  rcases h with h | ⟨h, C⟩ <;> rcases j with j | ⟨j, h2'⟩
  · exact .inl (Pd h j)
  · exact .inl (j ▸ h)
  · exact .inl (h ▸ j)
  · exact .inr ⟨h.trans j, Pd C h2'⟩
theorem Me {x y : Ac × Ac} (h : ¬ Pp x y) (C : ¬ Pp y x) : x = y := by
  have j : x.1 = y.1 := Ml (fun q => h (.inl q)) (fun q => C (.inl q))
  have I : x.2 = y.2 := Ml (fun q => h (.inr ⟨j, q⟩)) (fun q => C (.inr ⟨j.symm, q⟩))
  exact Prod.ext j I
theorem TH {a b : Ac} : IZ a b < 0 ↔ a < b := by
  unfold IZ
  by_cases h : a < b
  · simp [h]
  · by_cases j : b < a <;> simp [h, j]
theorem K8 {a b : Ac} : IZ a b = 0 ↔ a = b := by
  unfold IZ
  by_cases h : a < b
  · simp [h]; intro e; exact Fg _ (e ▸ h)
  · by_cases j : b < a
    · simp [h, j]; intro e; exact Fg _ (e ▸ j)
    · simp [h, j]; exact Ml h j
theorem Ye {x y : Gram} : OW x y < 0 ↔ Pp (Bj x) (Bj y) := by
  unfold OW OL Pp Bj
  by_cases h : IZ x.fst y.fst = 0
  · rw [if_neg (by simpa using h), TH]
    have e := K8.1 h
    constructor
    · exact fun j => .inr ⟨e, j⟩
    · rintro (j | j)
      · exact absurd (e ▸ j) (Fg _)
      · exact j.2
  · rw [if_pos h, TH]
    constructor
    · exact fun j => .inl j
    · rintro (j | j)
      · exact j
      · exact absurd (K8.2 j.1) h
theorem Qc (x y : Gram) : ltOf OW x y = decide (Pp (Bj x) (Bj y)) := by unfold ltOf; exact decide_eq_decide.2 Ye
theorem e7 : Go.Sort.SWO (ltOf OW) where
  irrefl x := by rw [Qc]; simpa using Cz _
  trans x y z h1 h2 := by rw [Qc] at *; simp only [decide_eq_true_eq] at *; exact G6 h1 h2
  ntrans x y z h1 h2 := by
    rw [Qc] at *
    simp only [decide_eq_false_iff_not] at *
    intro h3
    by_cases j : Pp (Bj y) (Bj x)
    · exact h2 (G6 j h3)
    · have e := Me h1 j
      rw [e] at h3; exact h2 h3
end Go.Vc
namespace Go.Proofs.YtbgmlpbgofcfjaaGreatDoor
open Go.RowKit Go.Vc Go.Proofs.Tryz
theorem H9 : A8 Tryz.prog 105 0 = some 0 := ζ
theorem Ic : A8 Tryz.prog 105 1 = some 1 := ζ
theorem aE {s t : Ac} (h : ¬ blt s t = true) (C : ¬ (blt s t || s == t) = true) : IZ s t = 1 := by
  have h1 : ¬ s < t := fun q => h ((Ut _ _).2 q)
  have I : ¬ s = t := fun q => C (by simp [q])
  unfold IZ
  rw [if_neg h1]
  by_cases j : t < s
  · rw [if_pos j]
  · exact absurd (Ml h1 j) I
theorem eW {p q : Int} {k : Nat} (hk : k < 2) (C : ∀ j, j < k → ([p, q] : List Int).getD j default = 0) (J : ¬ ([p, q] : List Int).getD k default = 0) : ([p, q] : List Int).getD k default = OL p q := by
  unfold OL
  match k, hk with
  | 0, _ => exact (if_pos J).symm
  | 1, _ => have I : p = 0 := C 0 ω
            rw [if_neg (by simpa using I)]; rfl
theorem aA {p q : Int} (C : ∀ j, j < 2 → ([p, q] : List Int).getD j default = 0) : (0 : Int) = OL p q := by
  have I : p = 0 := C 0 ω
  have h1 : q = 0 := C 1 ω
  unfold OL; rw [if_neg (by simpa using I), h1]
theorem ae {s t : Ac} (h : ¬ blt s t = true) (j : ¬ ¬ (blt s t || s == t) = true) : IZ s t = 0 := by
  have C : s = t := by
    simpa [h] using j
  exact K8.2 C
theorem LX {s : Ac} {j : World}  :
    Calls Tryz.prog 138 #[S s] j fun e w' => e = .returned (.bool false) ∧ j = w' := by
 refine AG (n := 6) func138 rfl ntmps138 rfl ?_
 have C : Evo j j [] := Evo.refl _ _
 refine Zs (Zn BV (Zs (Zo Ca (Zo Ca (Zo (Ds rfl η η) (Zn BV (AM G7 ?_)))))))
 exact ⟨Bn (by simp), rfl⟩
theorem cmps_calls {s t : Ac} {J : World}  :
    Calls Tryz.prog 76 #[S s, S t] J fun e w' => e = .returned (.int .i64 (IZ s t)) ∧ J = w' := by
 refine AG (n := 20) func76 rfl ntmps76 rfl ?_
 have R : Evo J J [] := Evo.refl _ _
 refine Zs (Zn Am (Zs (Zo Ca (Zr [S _] rfl η func138 LX ?_))))
 rintro e U ⟨rfl, rfl⟩
 refine ⟨_, rfl, ?_⟩
 refine Zn BV (Zs (Zo Ca (Zr [S _] rfl η func138 LX ?_)))
 rintro e w2 ⟨rfl, rfl⟩
 refine ⟨_, rfl, ?_⟩
 refine Zn BV (AE (Zs (Zn Cb (Dm η (AJ (AE (Zs (Zn Cb (Dm η ?_)))))))))
 refine AJ (AE (Zs (Zo Ca (Zo Ca (Zn (Wh rfl η η) (AH η (fun j => ?_) (fun j => ?_)))))))
 refine Zs (Zn Am (AM C3 ?_))
 exact ⟨A3 (by unfold IZ; rw [if_pos ((Ut _ _).1 j)]), rfl⟩
 refine AJ (AE (AE ?_))
 have I := j
 refine AB (Zo Ca (Zo Ca (Zn (V1 rfl η η) (AH η (fun C => ?_) (fun C => ?_)))))
 refine Zs (Zn Am (AM C3 ?_))
 exact ⟨A3 (aE I C).symm, rfl⟩
 refine AJ (Zs (Zn Am (AM C3 ?_)))
 exact ⟨A3 (ae I C).symm, rfl⟩
theorem Xn {ao : Option Addr} {b off cap : Nat} {p q : Int} {C : World} (hl : RowE C ao b off cap ([p, q] : List Int)) :
    Calls Tryz.prog 42 #[.slice ao ([p, q] : List Int).length cap] C fun e w' => e = .returned (.int .i64 (OL p q)) ∧ C = w' := by
 refine AG (n := 18) func42 rfl ntmps42 rfl ?_
 have U : Evo C C [] := Evo.refl _ _
 have af := hl.bd
 refine Zs (Zn Am (Zs (Zn Am (AE (Zs (Zo Bi (Zo (AQ rfl η underlying22) (Zn AU (AK ?_)))))))))
 refine Aq (α := Nat) [2, 5, 8, 9, 10, 11, 12, 13, 14, 15, 16] (fun k g w => g 8 = .int .i64 (k : Nat) ∧ k ≤ ([p, q] : List Int).length ∧ w = C ∧ (∀ j, j < k → ([p, q] : List Int).getD j default = 0) ∧ C.heap.size ≤ w.heap.size ∧ Evo C w []) (fun k => ([p, q] : List Int).length - k) 0 ?_ ?_
 refine ⟨σ, δ, rfl, (fun j h => by omega), δ, U⟩
 rintro k g w2 ⟨al, hk_k, hw, hno, hzl1, U⟩
 have R := U.size
 refine Zk 8 al ?_
 replace hw := hw.symm; subst hw
 refine Zs (Zn Dn (AE (AH η (fun I => ?_) (fun I => ?_))))
 refine AJ (AE (AK (Zs (Zo (Ab (k) rfl underlying22 Bd η η χ ω (hl.addr (i := k) ω)) ?_))))
 have ag := hl.atD (k) ω
 refine Zo (AA rfl Ae η (ag.cell 0 η)) (Zn Am (Zs (Zo AU (Zo AU (Zn (BP rfl η η) (AH η (fun J => ?_) (fun J => ?_)))))))
 refine Zs (Zo AU (Zn Am (AM C3 ?_)))
 exact ⟨A3 (eW (by simp at I; omega) hno (by simpa using J)), rfl⟩
 refine AJ (AX (AB (Zo Br (Zn AU (Zg (k + 1) ?_)))))
 refine ⟨σ, δ, rfl, (KR hno (by simpa using J)), δ, U⟩
 refine Ak rfl (Zs (Zo AU (Zn Am (AM C3 ?_))))
 exact ⟨A3 (aA (fun j hj => hno j (by simp at I; omega))), rfl⟩
theorem cmpg_calls {x y : Gram} {w0 : World}  :
    Calls Tryz.prog 146 #[(.agg (Enc.enc x).toArray), (.agg (Enc.enc y).toArray)] w0 fun e w' => e = .returned (.int .i64 (OW x y)) ∧ Evo w0 w' [] ∧ w0.drawn ≤ w'.drawn := by
 refine AG (n := 17) func146 rfl ntmps146 rfl ?_
 have R : Evo w0 w0 [] := Evo.refl _ _
 refine Zs (Qo (vs := [_, _, _]) η η rfl ?_)
 intro b1 w2 J1 E2 B1 Y1 hdr_0
 have Q2 := E2.size
 replace R := Z0 R E2
 refine Qo (vs := [_, _, _]) η η rfl ?_
 intro b3 w4 J3 E4 B3 Y3 hdr_1
 have Q4 := E4.size
 replace R := Z0 R E4
 replace B1 := B1.evo0 E4
 refine Zn Am (AE ?_)
 have ag := B1
 have C := B1.at
 have al := B3
 have I := B3.at
 have au := R
 refine Pc ([]) ζ ?_
 intro w5 F6 j hdr_2
 have Q5 := F6.size
 replace R := Z0 R F6
 refine Zt (i := 0) η (fun w' J => AD rfl η H9) j (Zt (i := 1) η (fun w' J => AA rfl BX η ((C.evo0 J).cell 0 η)) j (Zt (i := 2) η (fun w' J => AD rfl η H9) j (Zt (i := 3) η (fun w' J => AA rfl BX η ((I.evo0 J).cell 0 η)) j ?_)))
 refine U9 (i := 4) η rfl rfl rfl ζ (fun w' J => ⟨_, _, BN (vs := [S _, S _]) rfl η func76 rfl ζ, cmps_calls.mono (fun e ao h => ⟨h.1, h.2.symm⟩)⟩) j ?_
 refine Zt (i := 5) η (fun w' J => AD rfl η Ic) j (Zt (i := 6) η (fun w' J => AA rfl BX η ((C.evo0 J).cell 1 η)) j (Zt (i := 7) η (fun w' J => AD rfl η Ic) j (Zt (i := 8) η (fun w' J => AA rfl BX η ((I.evo0 J).cell 1 η)) j ?_)))
 refine U9 (i := 9) η rfl rfl rfl ζ (fun w' J => ⟨_, _, BN (vs := [S _, S _]) rfl η func76 rfl ζ, cmps_calls.mono (fun e ao h => ⟨h.1, h.2.symm⟩)⟩) j ?_
 refine Zh (i := 10) ?_
 refine O4 (pv := [(0, .int _ _), (1, .int _ _)]) (zs := [_]) (cs := [_, _]) underlying22 Bd η rfl η rfl η ?_
 intro b7 w8 J7 E8 B7 Y7 hdr_3
 have Q8 := E8.size
 replace R := Z0 R E8
 replace j := Z0 j E8
 have U : RowE w8 (some ⟨b7, 0, none⟩) b7 0 2 ([IZ x.fst y.fst, IZ x.snd y.snd] : List Int) := CH ([IZ x.fst y.fst, IZ x.snd y.snd] : List Int) B7 rfl rfl
 refine AZ j ?_
 refine Zh (i := 11) ?_
 refine Zr [.slice (some ⟨b7, 0, none⟩) _ _] rfl η func42 (Xn U) ?_
 rintro e w9 ⟨rfl, rfl⟩
 refine ⟨_, rfl, ?_⟩
 refine AZ j ?_
 refine Zt (i := 12) η (fun w' J => Am) j ?_
 refine A5 ζ ?_
 refine AM C3 ?_
 exact ⟨rfl, R, by omega⟩
end Go.Proofs.YtbgmlpbgofcfjaaGreatDoor
namespace Go.Proofs
open Go.Shelf Go.Proofs.Tryz
def Tryz.sortGram_ren : Go.Shelf.Ren := ⟨fun | 6 => 145 | 15 => 103 | 14 => 205 | 28 => 160 | 29 => 161 | 20 => 239 | 21 => 240 | 22 => 241 | 23 => 242 | 24 => 243 | 25 => 244 | 26 => 245 | 27 => 246 | 46 => 275 | 47 => 212 | 48 => 213 | 49 => 276 | 50 => 277 | 57 => 293 | n => n, fun | 22 => 96 | 24 => 105 | 25 => 225 | 3 => 3 | 39 => 193 | 0 => 0 | 53 => 236 | 55 => 238 | 4 => 4 | 46 => 230 | 45 => 229 | 50 => 83 | 5 => 5 | 9 => 9 | 66 => 298 | 70 => 302 | 76 => 348 | 77 => 112 | n => n, fun | n => n⟩
theorem Tryz.sortGram : Go.Proofs.SlLaysF0.n6 Tryz.prog Tryz.sortGram_ren := {
  mixed := by kernel_rfl
  f6 := ⟨Tryz.f145.name, by decide, Tryz.func145.trans (congrArg some (by kernel_rfl))⟩
  f14 := ⟨Tryz.f205.name, by decide, Tryz.func205.trans (congrArg some (by kernel_rfl))⟩
  f15 := Tryz.func103.trans (congrArg some (by kernel_rfl))
  f20 := ⟨Tryz.f239.name, by decide, Tryz.func239.trans (congrArg some (by kernel_rfl))⟩
  f21 := ⟨Tryz.f240.name, by decide, Tryz.func240.trans (congrArg some (by kernel_rfl))⟩
  f22 := ⟨Tryz.f241.name, by decide, Tryz.func241.trans (congrArg some (by kernel_rfl))⟩
  f23 := ⟨Tryz.f242.name, by decide, Tryz.func242.trans (congrArg some (by kernel_rfl))⟩
  f24 := ⟨Tryz.f243.name, by decide, Tryz.func243.trans (congrArg some (by kernel_rfl))⟩
  f25 := ⟨Tryz.f244.name, by decide, Tryz.func244.trans (congrArg some (by kernel_rfl))⟩
  f26 := ⟨Tryz.f245.name, by decide, Tryz.func245.trans (congrArg some (by kernel_rfl))⟩
  f27 := ⟨Tryz.f246.name, by decide, Tryz.func246.trans (congrArg some (by kernel_rfl))⟩
  f28 := Tryz.func160.trans (congrArg some (by kernel_rfl))
  f29 := Tryz.func161.trans (congrArg some (by kernel_rfl))
  f46 := ⟨Tryz.f275.name, by decide, Tryz.func275.trans (congrArg some (by kernel_rfl))⟩
  f47 := Tryz.func212.trans (congrArg some (by kernel_rfl))
  f48 := Tryz.func213.trans (congrArg some (by kernel_rfl))
  f49 := ⟨Tryz.f276.name, by decide, Tryz.func276.trans (congrArg some (by kernel_rfl))⟩
  f50 := ⟨Tryz.f277.name, by decide, Tryz.func277.trans (congrArg some (by kernel_rfl))⟩
  f57 := ⟨Tryz.f293.name, by decide, Tryz.func293.trans (congrArg some (by kernel_rfl))⟩
  t0 := underlying0
  a0 := isAgg0
  z0 := sizeOf0
  v0 := zeroValue0
  t3 := underlying3
  a3 := isAgg3
  z3 := sizeOf3
  v3 := zeroValue3
  t4 := underlying4
  a4 := isAgg4
  z4 := sizeOf4
  v4 := zeroValue4
  t5 := underlying5
  a5 := isAgg5
  z5 := sizeOf5
  v5 := zeroValue5
  t9 := underlying9
  a9 := isAgg9
  z9 := sizeOf9
  v9 := zeroValue9
  t22 := underlying96
  a22 := isAgg96
  z22 := sizeOf96
  v22 := zeroValue96
  t25 := underlying225
  a25 := isAgg225
  z25 := sizeOf225
  v25 := zeroValue225
  t39 := underlying193
  a39 := isAgg193
  z39 := sizeOf193
  v39 := zeroValue193
  t45 := underlying229
  a45 := isAgg229
  z45 := sizeOf229
  v45 := zeroValue229
  t46 := underlying230
  a46 := isAgg230
  z46 := sizeOf230
  v46 := zeroValue230
  t50 := underlying83
  a50 := isAgg83
  z50 := sizeOf83
  v50 := zeroValue83
  t53 := underlying236
  a53 := isAgg236
  z53 := sizeOf236
  v53 := zeroValue236
  t55 := underlying238
  a55 := isAgg238
  z55 := sizeOf238
  v55 := zeroValue238
  t66 := underlying298
  a66 := isAgg298
  z66 := sizeOf298
  v66 := zeroValue298
  t70 := underlying302
  a70 := isAgg302
  z70 := sizeOf302
  v70 := zeroValue302
  t76 := underlying348
  a76 := isAgg348
  z76 := sizeOf348
  v76 := zeroValue348
  t77 := underlying112
  a77 := isAgg112
  z77 := sizeOf112
  v77 := zeroValue112 }
end Go.Proofs
namespace Go.Vc
open Go
def Bk : Ac → List Ac → List (Ac × Ac)
  | l, [] => [(l, [])]
  | l, w :: r => (l, w) :: Bk w r
theorem D8 : ∀ (l : Ac) (ws : List Ac), (Bk l ws).length = ws.length + 1
  | _, [] => rfl
  | _, w :: r => by simp [Bk, D8 w r]
def IQ : List Gram → Ac × Ac → List Gram
  | [], p => [⟨p.1, p.2, 1⟩]
  | x :: r, p => if Pp (Bj x) p then x :: IQ r p else if Bj x = p then ⟨x.fst, x.snd, x.count + 1⟩ :: r else ⟨p.1, p.2, 1⟩ :: x :: r
def GL (ps : List (Ac × Ac)) : List Gram := ps.foldl IQ []
def AW (ws : List Ac) : List Gram := GL (Bk [] ws)
def NG (g : List Gram) : Prop := g.Pairwise (fun x y => Pp (Bj x) (Bj y))
def GramsOk (ps : List (Ac × Ac)) (g : List Gram) : Prop := NG g ∧ (∀ x ∈ g, 0 < ps.count (Bj x) ∧ x.count = ((ps.count (Bj x) : Nat) : Int)) ∧ ∀ p ∈ ps, ∃ x ∈ g, Bj x = p
theorem H6 {x y : Gram} (h : Bj x = Bj y) (j : x.count = y.count) : x = y := by
  cases x; cases y; simp only [Bj, Prod.mk.injEq] at h; simp_all
theorem Ld : ∀ {g C : List Gram}, NG g → NG C → (∀ x, x ∈ g ↔ x ∈ C) → g = C
  | [], [], _, _, _ => rfl
  | [], y :: r, _, _, h => absurd ((h y).2 (by simp)) (by simp)
  | x :: r, [], _, _, h => absurd ((h x).1 (by simp)) (by simp)
  | x :: r, y :: s, h1, h2, h => by
    unfold NG at h1 h2
    rw [List.pairwise_cons] at h1 h2
    have e : x = y := by
      rcases List.mem_cons.1 ((h x).1 (by simp)) with e | hx
      · exact e
      · rcases List.mem_cons.1 ((h y).2 (by simp)) with e | hy
        · exact e.symm
        · exact absurd (G6 (h1.1 y hy) (h2.1 x hx)) (Cz _)
    subst e
    congr 1
    refine Ld h1.2 h2.2 fun z => ⟨fun j => ?_, fun j => ?_⟩
    · rcases List.mem_cons.1 ((h z).1 (by simp [j])) with e | hz'
      · subst e; exact absurd (h1.1 z j) (Cz _)
      · exact hz'
    · rcases List.mem_cons.1 ((h z).2 (by simp [j])) with e | hz'
      · subst e; exact absurd (h2.1 z j) (Cz _)
      · exact hz'
theorem Qb {ps : List (Ac × Ac)} {g R : List Gram} (h : GramsOk ps g) (C : GramsOk ps R) : g = R := by
  refine Ld h.1 C.1 fun x => ⟨fun I => ?_, fun I => ?_⟩
  · have h1 := h.2.1 x I
    obtain ⟨y, J, e⟩ := C.2.2 (Bj x) (List.count_pos_iff.1 h1.1)
    have j := C.2.1 y J
    rw [e] at j
    rwa [H6 e.symm (h1.2.trans j.2.symm)]
  · have h1 := C.2.1 x I
    obtain ⟨y, J, e⟩ := h.2.2 (Bj x) (List.count_pos_iff.1 h1.1)
    have j := h.2.1 y J
    rw [e] at j
    rwa [H6 e.symm (h1.2.trans j.2.symm)]
theorem VX {p : Ac × Ac} : ∀ {g : List Gram} {x : Gram}, x ∈ IQ g p → Bj x = p ∨ x ∈ g
  | [], x, h => by simp [IQ] at h; subst h; exact .inl rfl
  | y :: r, x, h => by
    unfold IQ at h
    split at h
    · rcases List.mem_cons.1 h with e | h
      · exact .inr (by simp [e])
      · rcases VX h with e | h
        · exact .inl e
        · exact .inr (by simp [h])
    · split at h
      · rename_i _ e
        rcases List.mem_cons.1 h with e2 | h
        · subst e2; exact .inl e
        · exact .inr (by simp [h])
      · rcases List.mem_cons.1 h with e | h
        · subst e; exact .inl rfl
        · exact .inr h
theorem Sr {p : Ac × Ac} : ∀ {g : List Gram}, NG g → NG (IQ g p)
  | [], _ => by unfold NG IQ; simp
  | y :: r, h => by
    unfold NG at h ⊢
    rw [List.pairwise_cons] at h
    unfold IQ
    split
    · rename_i h1
      rw [List.pairwise_cons]
      refine ⟨fun z hz => ?_, Sr h.2⟩
      rcases VX hz with e | hz
      · rw [e]; exact h1
      · exact h.1 z hz
    · rename_i h1
      split
      · rename_i e
        rw [List.pairwise_cons]
        exact ⟨fun z hz => h.1 z hz, h.2⟩
      · rename_i h2
        have h3 : Pp p (Bj y) := Classical.not_not.1 fun q => h2 (Me h1 q)
        rw [List.pairwise_cons]
        refine ⟨fun z hz => ?_, by rw [List.pairwise_cons]; exact h⟩
        rcases List.mem_cons.1 hz with e | hz
        · subst e; exact h3
        · exact G6 h3 (h.1 z hz)
theorem Sq {p : Ac × Ac} : ∀ {g : List Gram}, NG g → ∀ x, x ∈ IQ g p ↔ (x ∈ g ∧ Bj x ≠ p) ∨ (Bj x = p ∧ ((∃ y ∈ g, Bj y = p ∧ x.count = y.count + 1) ∨ (x.count = 1 ∧ ∀ y ∈ g, Bj y ≠ p)))
  | [], _, x => by
    simp only [IQ, List.mem_singleton, List.not_mem_nil, false_and, false_or, not_false_eq_true, exists_false, implies_true, and_true]
    constructor
    · rintro rfl; exact ⟨rfl, by simp⟩
    · rintro ⟨h1, j⟩
      have C : x.count = 1 := by simpa using j
      exact H6 (y := ⟨p.1, p.2, 1⟩) h1 C
  | y :: r, h, x => by
    unfold NG at h
    rw [List.pairwise_cons] at h
    have ih := Sq (p := p) (g := r) h.2 x
    unfold IQ
    split
    · rename_i h1
      have hy : Bj y ≠ p := fun e => Cz p (e ▸ h1)
      rw [List.mem_cons, ih]
      constructor
      · rintro (rfl | j)
        · exact .inl ⟨by simp, hy⟩
        · rcases j with ⟨j, C⟩ | ⟨j, ⟨z, C, I⟩ | ⟨C, I⟩⟩
          · exact .inl ⟨by simp [j], C⟩
          · exact .inr ⟨j, .inl ⟨z, by simp [C], I⟩⟩
          · refine .inr ⟨j, .inr ⟨C, fun z J => ?_⟩⟩
            rcases List.mem_cons.1 J with e | J
            · subst e; exact hy
            · exact I z J
      · rintro (⟨j, C⟩ | ⟨j, ⟨z, C, I, h5⟩ | ⟨C, I⟩⟩)
        · rcases List.mem_cons.1 j with e | j
          · exact .inl e
          · exact .inr (.inl ⟨j, C⟩)
        · rcases List.mem_cons.1 C with e | C
          · subst e; exact absurd I hy
          · exact .inr (.inr ⟨j, .inl ⟨z, C, I, h5⟩⟩)
        · exact .inr (.inr ⟨j, .inr ⟨C, fun z J => I z (by simp [J])⟩⟩)
    · rename_i h1
      split
      · rename_i e
        have U : ∀ z ∈ r, Bj z ≠ p := fun z J R => Cz p (by have := h.1 z J; rwa [e, R] at this)
        rw [List.mem_cons]
        constructor
        · rintro (rfl | j)
          · exact .inr ⟨e, .inl ⟨y, by simp, e, rfl⟩⟩
          · exact .inl ⟨by simp [j], U x j⟩
        · rintro (⟨j, C⟩ | ⟨j, ⟨z, C, I, h5⟩ | ⟨C, I⟩⟩)
          · rcases List.mem_cons.1 j with R | j
            · subst R; exact absurd e C
            · exact .inr j
          · rcases List.mem_cons.1 C with R | C
            · subst R
              exact .inl (H6 (y := ⟨z.fst, z.snd, z.count + 1⟩) (j.trans I.symm) h5)
            · exact absurd I (U z C)
          · exact absurd e (I y (by simp))
      · rename_i j
        have C : Pp p (Bj y) := Classical.not_not.1 fun q => j (Me h1 q)
        have U : ∀ z ∈ y :: r, Bj z ≠ p := fun z J R => by
          rcases List.mem_cons.1 J with e3 | J
          · subst e3; exact j R
          · exact Cz p (by have := G6 C (h.1 z J); rwa [R] at this)
        rw [List.mem_cons]
        constructor
        · rintro (rfl | I)
          · exact .inr ⟨rfl, .inr ⟨rfl, U⟩⟩
          · exact .inl ⟨I, U x I⟩
        · rintro (⟨I, h5⟩ | ⟨I, ⟨z, h5, h6, h7⟩ | ⟨h5, h6⟩⟩)
          · exact .inr I
          · exact absurd h6 (U z h5)
          · exact .inl (H6 (y := ⟨p.1, p.2, 1⟩) I h5)
theorem GramsOk.nil : GramsOk [] [] := ⟨List.Pairwise.nil, by simp, by simp⟩
theorem GramsOk.ins {ps : List (Ac × Ac)} {g : List Gram} {p : Ac × Ac} (h : GramsOk ps g) : GramsOk (ps ++ [p]) (IQ g p) := by
  have hm := Sq (p := p) h.1
  refine ⟨Sr h.1, fun x U => ?_, fun q hq => ?_⟩
  · rcases (hm x).1 U with ⟨h1, j⟩ | ⟨h1, ⟨y, j, C, h4⟩ | ⟨j, C⟩⟩
    · have C := h.2.1 x h1
      have e : (ps ++ [p]).count (Bj x) = ps.count (Bj x) := by rw [List.count_append, List.count_singleton]; simp [Ne.symm j]
      rw [e]; exact C
    · have J := h.2.1 y j
      rw [C] at J
      rw [h1, List.count_append, List.count_singleton, h4, J.2]
      simp
    · have J : ps.count p = 0 := List.count_eq_zero.2 fun R => by
        obtain ⟨y, I, e⟩ := h.2.2 p R
        exact C y I e
      rw [h1, List.count_append, List.count_singleton, j, J]
      simp
  · rcases List.mem_append.1 hq with h1 | h1
    · obtain ⟨x, U, e⟩ := h.2.2 q h1
      by_cases R : q = p
      · subst R
        exact ⟨⟨q.1, q.2, x.count + 1⟩, (hm _).2 (.inr ⟨rfl, .inl ⟨x, U, e, rfl⟩⟩), rfl⟩
      · exact ⟨x, (hm x).2 (.inl ⟨U, by rw [e]; exact R⟩), e⟩
    · have e : q = p := by simpa using h1
      subst e
      by_cases j : ∃ y ∈ g, Bj y = q
      · obtain ⟨y, I, e⟩ := j
        exact ⟨⟨q.1, q.2, y.count + 1⟩, (hm _).2 (.inr ⟨rfl, .inl ⟨y, I, e, rfl⟩⟩), rfl⟩
      · exact ⟨⟨q.1, q.2, 1⟩, (hm _).2 (.inr ⟨rfl, .inr ⟨rfl, fun y I e => j ⟨y, I, e⟩⟩⟩), rfl⟩
theorem KJ : ∀ (qs ps : List (Ac × Ac)) (g : List Gram), GramsOk ps g → GramsOk (ps ++ qs) (qs.foldl IQ g)
  | [], ps, g, h => by simpa using h
  | q :: qs, ps, g, h => by
    have := KJ qs (ps ++ [q]) (IQ g q) h.ins
    simpa using this
theorem D6 (ps : List (Ac × Ac)) : GramsOk ps (GL ps) := by have := KJ ps [] [] GramsOk.nil; simpa [GL] using this
theorem RA {ps : List (Ac × Ac)} {g j : List Gram} (hs : S4 (Go.Proofs.ltOf OW) g j) (hn : (g.map Bj).Nodup) (h1 : ∀ x ∈ g, 0 < ps.count (Bj x) ∧ x.count = ((ps.count (Bj x) : Nat) : Int)) (h2 : ∀ p ∈ ps, ∃ x ∈ g, Bj x = p) : GramsOk ps j := by
  obtain ⟨J, hw⟩ := hs
  have C : (j.map Bj).Nodup := (J.map Bj).nodup_iff.2 hn
  refine ⟨?_, fun x U => h1 x (J.mem_iff.1 U), fun p R => ?_⟩
  · unfold NG
    have I : j.Pairwise (fun x y => Bj x ≠ Bj y) := List.pairwise_map.1 C
    refine (hw.and I).imp fun {x y} h => ?_
    have h3 := h.1
    rw [Qc] at h3
    have h4 : ¬ Pp (Bj y) (Bj x) := by simpa using h3
    exact Classical.not_not.1 fun q => h.2 (Me q h4)
  · obtain ⟨x, U, e⟩ := h2 p R
    exact ⟨x, J.mem_iff.2 U, e⟩
end Go.Vc
namespace Go.Vc
open Go Go.RowKit Go.IntWalk
open Go.ChangeMaps (setBlock)
theorem Mn {P : Program} {K : TypeId} {α : Type} [DecidableEq α] {C : α → Value} (heq : ∀ (w : World) (x y : α), (Op.equal K (C x) (C y)).run P w = .ok (decide (x = y)) w) (x : α) (w : World) :
    ∀ (es : List MapEntry) (i k : Nat) (e : MapEntry), (∀ e ∈ es, ∃ y, e.key = C y) → es[i]? = some e → e.key = C x → (∀ j I, j < i → es[j]? = some I → I.key ≠ C x) → (Instr.findAsking K (C x) es k).run P w = .ok (some (k + i, e.val)) w
  | [], i, k, e, _, h, _, _ => by simp at h
  | a :: es, 0, k, e, _, h, hk, _ => by
    simp at h; subst h
    simp only [Instr.findAsking, Sem.run_bind, hk, heq, Result.andThen_ok, decide_true, if_true, Sem.run_pure, Nat.add_zero]
  | a :: es, i + 1, k, e, hall, h, hk, hne => by
    obtain ⟨y, R⟩ := hall a (by simp)
    have U := hne 0 a ω (by simp)
    have ih := Mn heq x w es i (k + 1) e (fun e he => hall e (by simp [he])) (by simpa using h) hk (fun j I hj J => hne (j + 1) I ω (by simpa using J))
    have hd : decide (x = y) = false := by simp; intro h; exact U (by rw [R, h])
    simp only [Instr.findAsking, Sem.run_bind, R, heq, hd, Result.andThen_ok, Bool.false_eq_true, if_false]
    rw [ih, show k + 1 + i = k + (i + 1) by omega]
theorem L4 {P : Program} {K : TypeId} {α : Type} [DecidableEq α] {j : α → Value} (heq : ∀ (w : World) (x y : α), (Op.equal K (j x) (j y)).run P w = .ok (decide (x = y)) w) (x : α) (w : World) :
    ∀ (es : List MapEntry) (k : Nat), (∀ e ∈ es, ∃ y, e.key = j y) → (∀ e ∈ es, e.key ≠ j x) → (Instr.findAsking K (j x) es k).run P w = .ok none w
  | [], _, _, _ => rfl
  | a :: es, k, hall, hne => by
    obtain ⟨y, C⟩ := hall a (by simp)
    have I := hne a (by simp)
    have R := L4 heq x w es (k + 1) (fun e he => hall e (by simp [he])) (fun e he => hne e (by simp [he]))
    have J : decide (x = y) = false := by simp; intro h; exact I (by rw [C, h])
    simp only [Instr.findAsking, Sem.run_bind, C, heq, J, Result.andThen_ok, Bool.false_eq_true, if_false]
    exact R
theorem KeyLaw.asked {P : Program} {K : TypeId} {D : TypeDesc} {α : Type} [DecidableEq α] {j : α → Value} (hu : P.underlying K = some D) (inj : ∀ x y, j x = j y → x = y) (C : ∀ x y, Instr.sameNow D (j x) (j y) = none)
    (heq : ∀ (w : World) (x y : α), (Op.equal K (j x) (j y)).run P w = .ok (decide (x = y)) w) (check : ∀ w e x, (Instr.checkKey e 10000 K (j x)).run P w = .ok () w) (same : ∀ x, Instr.sameBits 10000 (j x) (j x) = true) : KeyLaw P K j where
  inj := inj
  check := check
  same := same
  hit w x es i e hall h hk hne := by
    have h1 := Mn heq x w es i 0 e hall h hk hne
    rw [Nat.zero_add] at h1
    cases es with
    | nil => simp at h
    | cons a es =>
      obtain ⟨y, J⟩ := hall a (by simp)
      have I : Instr.findNow D (j x) (a :: es) 0 = none := by simp only [Instr.findNow, J, C]
      simp only [Instr.findKey, Sem.run_bind, run_underlying hu, Result.andThen_ok, I]
      exact h1
  miss w x es hall hne := by
    have h1 := L4 heq x w es 0 hall hne
    cases es with
    | nil => simp only [Instr.findKey, Sem.run_bind, run_underlying hu, Result.andThen_ok, Instr.findNow]; rfl
    | cons a es =>
      obtain ⟨y, J⟩ := hall a (by simp)
      have I : Instr.findNow D (j x) (a :: es) 0 = none := by simp only [Instr.findNow, J, C]
      simp only [Instr.findKey, Sem.run_bind, run_underlying hu, Result.andThen_ok, I]
      exact h1
theorem ZM {P : Program} {T : TypeId} {f0 f1 f2 : Field} (hu : P.underlying T = some (.struct #[f0, f1, f2])) (n0 : f0.name ≠ "_") (n1 : f1.name ≠ "_") (n2 : f2.name ≠ "_")
    (o0 : f0.offset = 0) (o1 : f1.offset = 1) (o2 : f2.offset = 2) (u0 : P.underlying f0.type = some (.int .i64)) (u1 : P.underlying f1.type = some .string) (u2 : P.underlying f2.type = some (.int .i64))
    (a0 : CQ P f0.type = some false) (C : CQ P f1.type = some false) (a2 : CQ P f2.type = some false)
    (he : ∀ (w : World) (x y : Item), (Op.equalIn 10000 T (.agg (Enc.enc x).toArray) (.agg (Enc.enc y).toArray)).run P w = .ok (decide (x = y)) w) : KeyLaw P T (fun x : Item => Value.agg (Enc.enc x).toArray) := by
  refine KeyLaw.asked hu (fun x y h => ?_) (fun x y => rfl) (fun w x y => he w x y) (fun w e x => ?_) (fun x => ?_)
  · obtain ⟨R, t1, i1⟩ := x
    obtain ⟨U, t2, i2⟩ := y
    have h1 : [Value.int .i64 R, S t1, Value.int .i64 i1] = [Value.int .i64 U, S t2, Value.int .i64 i2] := by
      have j := Value.agg.inj h
      exact List.toArray_inj j
    simp only [List.cons.injEq, Value.int.injEq, true_and, and_true] at h1
    rw [h1.1, Zb h1.2.1, h1.2.2]
  · have p0 : ∀ (z : Item), (part f0.type (Enc.enc z).toArray 0).run P w = .ok (.int .i64 z.kind) w := fun z => C2 a0 rfl
    have p1 : ∀ (z : Item), (part f1.type (Enc.enc z).toArray 1).run P w = .ok (S z.text) w := fun z => C2 C rfl
    have p2 : ∀ (z : Item), (part f2.type (Enc.enc z).toArray 2).run P w = .ok (.int .i64 z.id) w := fun z => C2 a2 rfl
    have I := Dk u0 w e 9998 (.int .i64 x.kind) (.inr ⟨_, _, rfl, rfl⟩)
    have c1 := Dk u1 w e 9998 (S x.text) (.inl ⟨rfl, _, rfl⟩)
    have c2 := Dk u2 w e 9998 (.int .i64 x.id) (.inr ⟨_, _, rfl, rfl⟩)
    unfold Instr.checkKey
    simp only [Sem.run_bind, run_underlying hu, Result.andThen_ok]
    simp [n0, n1, n2, o0, o1, o2, p0, p1, p2, I, c1, c2, Sem.run_bind]
  · show Instr.sameBits 10000 (.agg #[.int .i64 x.kind, S x.text, .int .i64 x.id]) (.agg #[.int .i64 x.kind, S x.text, .int .i64 x.id]) = true
    have h1 := Nd 9999 ⟨x.text.toArray⟩
    have J := NT 9999 .i64 x.kind
    have j := NT 9999 .i64 x.id
    unfold Instr.sameBits
    simp only [S] at *
    simp [J, h1, j]
def StampIs {α : Type} (w : World) (b : Nat) (ek : α → Value) (a : α) (s : Int) : Prop := ∃ (es : Array MapEntry) (clock i : Nat) (e : MapEntry), w.heap[b]? = some (.map es clock) ∧ es[i]? = some e ∧ (e.born : Int) = s ∧ e.key = ek a
section
variable {P : Program} {B : Exit → Act → World → Prop} {n : Nat} {k : List Kont} {f : Fr} {w : World} {ops : Array Oper} {rest : List Oper}
variable {α β : Type} {ek : α → Value} {ev : β → Value} {b : Nat} {m : List (α × β)} {K E : TypeId}
theorem StampIs.evo {w' : World} {a : α} {s : Int} {X : List Nat} (h : StampIs w b ek a s) (he : Evo w w' X) (C : b < w.heap.size) (I : b ∉ X) : StampIs w' b ek a s := by
  obtain ⟨es, c, i, e, h1, j⟩ := h
  exact ⟨es, c, i, e, (he.same b C I).trans h1, j⟩
theorem QB [DecidableEq α] (L : KeyLaw P K ek) {T : TypeId} {z : β} {s0 bb : Nat} (hu : P.underlying T = some (.map K E)) (hz : Cy P E = some (s0, bb, some (ev z))) (a : α) (h : MapIs w b ek ev m) :
    ∃ w' s, (Instr.mapEntry T (.map (some b)) (ek a)).run P w = .ok (.tuple #[ev ((Az m a).getD z), .int .i64 s]) w' ∧ Evo w w' [b] ∧ w'.heap.size = w.heap.size ∧ MapIs w' b ek ev (Co m a ((Az m a).getD z)) ∧ StampIs w' b ek a s := by
  obtain ⟨es, c, hb, he, aS, ag, ao⟩ := h.ex
  have af := h.lt
  obtain ⟨bl, c', U, hf⟩ := h.find L a
  rw [hb] at U
  injection U with U
  injection U with e1 e2
  subst e1; subst e2
  rcases hf with ⟨hg, hf⟩ | ⟨i, u, hg, hi, hne, hf⟩
  · have al : ∀ p ∈ m, p.1 ≠ a := by
      intro p hp e
      unfold Az at hg
      have a1 := hg
      simp only [Option.map_eq_none_iff, List.find?_eq_none, decide_eq_true_eq] at a1
      exact a1 p hp e
    refine ⟨setBlock w b (.map (es.push { key := ek a, val := ev z, born := c }) (c + 1)), (c : Int), ?_, Evo.setB _ _ _, by simp [setBlock], ⟨_, _, Dj af _, ?_, ?_, ?_, Gv a _ m ao⟩, ⟨_, _, es.size, { key := ek a, val := ev z, born := c }, Dj af _, by simp, rfl, rfl⟩⟩
    · rw [hg]
      simp only [Instr.mapEntry, getObj, Sem.run_bind, run_underlying hu, Result.andThen_ok, Sem.run, hb, L.check, hf, setObj, setBlock, ET hz, goInt]
      rfl
    · rw [hg, FZ al]; simp [he]
    · simp only [Array.toList_push, List.map_append, List.map_cons, List.map_nil]
      rw [List.nodup_append]
      refine ⟨aS, by simp, fun x hx y hy => ?_⟩
      simp at hy
      subst hy
      obtain ⟨e, J, rfl⟩ := List.mem_map.1 hx
      have := ag e J
      omega
    · intro e J
      simp only [Array.toList_push, List.mem_append, List.mem_singleton] at J
      rcases J with J | rfl
      · have := ag e J; omega
      · simp
  · have C := Ev he i
    rw [hi] at C
    cases hes : es.toList[i]? with
    | none => rw [hes] at C; simp at C
    | some e =>
      rw [hes] at C
      simp only [Option.map_some, Option.some.injEq, Prod.mk.injEq] at C
      have I : es[i]? = some e := by simpa using hes
      have az : (Instr.keyThatStays (((es[i]?).map (·.key)).getD (ek a)) (ek a)).run P w = .ok (ek a) w := by
        rw [I]
        simp only [Option.map_some, Option.getD_some, C.1, Instr.keyThatStays, L.same, if_true, Sem.run_pure]
      have au : (es.modify i fun e => { e with key := ek a }) = es := by
        apply Array.ext_getElem?
        intro j
        rw [Array.getElem?_modify]
        by_cases R : i = j
        · subst R
          rw [if_pos rfl, I]
          obtain ⟨k0, v0, b0⟩ := e
          obtain rfl : k0 = ek a := C.1
          rfl
        · rw [if_neg R]
      have a_ : Co m a ((Az m a).getD z) = m := by
        rw [hg, IL hi ao]
        apply List.ext_getElem?
        intro j
        rw [List.getElem?_set]
        by_cases R : i = j
        · subst R
          have bc : i < m.length := (List.getElem?_eq_some_iff.1 hi).1
          rw [if_pos rfl, if_pos bc, hi]; rfl
        · rw [if_neg R]
      refine ⟨setBlock w b (.map es c), (e.born : Int), ?_, Evo.setB _ _ _, by simp [setBlock], ?_, ⟨es, c, i, e, Dj af _, I, rfl, C.1⟩⟩
      · rw [hg]
        simp only [Instr.mapEntry, getObj, Sem.run_bind, run_underlying hu, Result.andThen_ok, Sem.run, hb, L.check, hf, az, setObj, setBlock, au, goInt]
        rw [I]
        rfl
      · rw [a_]
        exact ⟨es, c, Dj af _, he, aS, ag, ao⟩
theorem N5 [DecidableEq α] (L : KeyLaw P K ek) {T : TypeId} {a : α} {s : Int} (v : β) (h : MapIs w b ek ev m) (hs : StampIs w b ek a s) :
    ∃ w', (Instr.entryStore T (.map (some b)) (.int .i64 s) (ev v)).run P w = .ok () w' ∧ Evo w w' [b] ∧ w'.heap.size = w.heap.size ∧ MapIs w' b ek ev (Co m a v) := by
  obtain ⟨es, c, hb, he, au, az, aS⟩ := h.ex
  have aT := h.lt
  obtain ⟨bb, c', i, e, U, J, al, ag⟩ := hs
  rw [hb] at U
  injection U with U
  injection U with e1 e2
  subst e1; subst e2
  have C := Ev he i
  have af : es.toList[i]? = some e := by simpa using J
  rw [af] at C
  cases hi : m[i]? with
  | none => rw [hi] at C; simp at C
  | some p =>
    rw [hi] at C
    simp only [Option.map_some, Option.some.injEq, Prod.mk.injEq] at C
    obtain ⟨a', u⟩ := p
    have ha : a' = a := L.inj _ _ (C.1.symm.trans ag)
    subst ha
    have ao : es.findIdx? (fun e => (e.born : Int) == s) = some i := by
      cases hq : es.findIdx? (fun e => (e.born : Int) == s) with
      | none =>
        rw [Array.findIdx?_eq_none_iff] at hq
        have := hq e (by rw [← Array.mem_toList_iff]; exact List.mem_of_getElem? af)
        simp [al] at this
      | some j =>
        obtain ⟨R, hp, _⟩ := Array.findIdx?_eq_some_iff_getElem.1 hq
        have h1 : ((es[j]).born : Int) = s := by simpa using hp
        have h2 : (es.toList.map (·.born))[j]? = (es.toList.map (·.born))[i]? := by
          rw [List.getElem?_map, List.getElem?_map, af, Array.getElem?_toList, Array.getElem?_eq_getElem R]
          simp only [Option.map_some, Option.some.injEq]
          omega
        have h3 := (List.getElem?_inj (by simpa using R) au).1 h2
        rw [h3]
    refine ⟨setBlock w b (.map (es.modify i fun e => { e with val := ev v }) c), ?_, Evo.setB _ _ _, by simp [setBlock], ⟨_, _, Dj aT _, ?_, ?_, ?_, Gv a' v m aS⟩⟩
    · have hint : (asInt (.int .i64 s)).run P w = .ok s w := rfl
      simp only [Instr.entryStore, getObj, Sem.run_bind, Result.andThen_ok, Sem.run, hb, hint, ao, setObj, setBlock]
    · rw [IL hi aS]
      apply List.ext_getElem?
      intro j
      have R := Ev he j
      simp only [List.getElem?_map, Array.getElem?_toList, Array.getElem?_modify] at R ⊢
      rw [List.getElem?_set]
      by_cases I : i = j
      · subst I
        have a1 : i < m.length := (List.getElem?_eq_some_iff.1 hi).1
        simp [J, a1, ag]
      · simp [I, R]
    · have : (es.modify i fun e => { e with val := ev v }).toList.map (·.born) = es.toList.map (·.born) := by
        apply List.ext_getElem?
        intro j
        simp only [List.getElem?_map, Array.getElem?_toList, Array.getElem?_modify]
        by_cases I : i = j
        · subst I; simp [J]
        · simp [I]
      rw [this]; exact au
    · intro x hx
      obtain ⟨j, R⟩ := List.getElem?_of_mem hx
      simp only [Array.getElem?_toList, Array.getElem?_modify] at R
      by_cases I : i = j
      · subst I
        simp [J] at R
        rw [← R]
        exact az e (List.mem_of_getElem? af)
      · simp only [I, if_false] at R
        exact az x (by rw [← Array.getElem?_toList] at R; exact List.mem_of_getElem? R)
theorem CX [DecidableEq α] (L : KeyLaw P K ek) {T d : Nat} {z : β} {s0 I : Nat} {t : TypeId} {pos : String} {j : Array Edge} {x y : Operand} {a : α} (R : Nat.blt d n = true) (hu : P.underlying T = some (.map K E)) (hz : Cy P E = some (s0, I, some (ev z)))
    (hx : opv f x = .map (some b)) (hy : opv f y = ek a) (h : MapIs w b ek ev m)
    (J : ∀ s w', Evo w w' [b] → w'.heap.size = w.heap.size → MapIs w' b ek ev (Co m a ((Az m a).getD z)) → StampIs w' b ek a s → KL P B n ops k rest (upd f d (.tuple #[ev ((Az m a).getD z), .int .i64 s])) w') :
    KL P B n ops k (⟨some d, .mapEntry T x y, t, pos, j, none⟩ :: rest) f w := by
  obtain ⟨w', s, U, he, hs, hm, C⟩ := QB L hu hz a h
  refine Hs (w' := w') rfl rfl R ?_ (J s w' he hs hm C)
  simp [execOp, hx, hy, U]
theorem Bw [DecidableEq α] (L : KeyLaw P K ek) {T : TypeId} {t : TypeId} {pos : String} {j : Array Edge} {x y u : Operand} {a : α} {s : Int} {v : β} (U : opv f x = .map (some b)) (hy : opv f y = .int .i64 s) (hu : opv f u = ev v)
    (h : MapIs w b ek ev m) (R : StampIs w b ek a s) (I : ∀ w', Evo w w' [b] → w'.heap.size = w.heap.size → MapIs w' b ek ev (Co m a v) → KL P B n ops k rest f w') :
    KL P B n ops k (⟨none, .entryStore T x y u, t, pos, j, none⟩ :: rest) f w := by
  obtain ⟨w', J, he, C, hm⟩ := N5 (T := T) L v h R
  refine UP (w' := w') rfl rfl ?_ (I w' he C hm)
  simp [execOp, U, hy, hu, J]
theorem N7 [DecidableEq α] (x : α) (u v : β) (m : List (α × β)) : Co (Co m x u) x v = Co m x v := by
  unfold Co
  by_cases h : m.any (·.1 = x) = true
  · have j : (m.map (fun p => if p.1 = x then (x, u) else p)).any (·.1 = x) = true := by
      obtain ⟨p, C, I⟩ := List.any_eq_true.1 h
      refine List.any_eq_true.2 ⟨(x, u), List.mem_map.2 ⟨p, C, by simp at I; simp [I]⟩, by simp⟩
    rw [if_pos h, if_pos j, if_pos h, List.map_map]
    refine List.map_congr_left (fun p _ => ?_)
    by_cases e : p.1 = x
    · simp [e]
    · simp [e]
  · have j : (m ++ [(x, u)]).any (·.1 = x) = true := by simp
    rw [if_neg h, if_pos j, if_neg h, List.map_append]
    congr 1
    · conv => rhs; rw [← List.map_id m]
      refine List.map_congr_left (fun p C => ?_)
      have : ¬ p.1 = x := fun e => h (List.any_eq_true.2 ⟨p, C, by simpa using e⟩)
      simp [this]
    · simp
end
end Go.Vc
