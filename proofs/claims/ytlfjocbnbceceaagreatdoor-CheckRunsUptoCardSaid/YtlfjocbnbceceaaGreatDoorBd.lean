/-
  Library, plain laws and walks that the statements reach (joined by a program out of smaller texts).
-/
import Derived.Test.YtlfjocbnbceceaaGreatDoorBc
import Derived.Test.YtlfjocbnbceceaaGreatDoorBa
import Derived.Test.YtlfjocbnbceceaaGreatDoorBb
import Derived.Scope
import Derived.Lib.Bytealg
import Derived.Shelf.LaysM
import Derived.Shelf.Strings.Search1
import Derived.Shelf.Strings.Search2
import Derived.Shelf.Strings.Search3
import Derived.Shelf.Strings.Count
import Derived.Shelf.Strings.Shaped
import Derived.Shelf.Sort.Plain
import Derived.Shelf.Unicode.DecodeSlow
import Derived.Shelf.Slices.In.SortNone
import Derived.Test.YtlfjocbnbceceaaGreatDoorProg
set_option linter.unusedVariables false
set_option linter.unusedSimpArgs false
namespace Go.Proofs.YtlfjocbnbceceaaGreatDoor
open Go.RowKit Go.Vc Go.Proofs.Tryz
set_option maxHeartbeats 4000000 in
theorem Ig {T bs : Nat} {ao : Option Addr} {b off cap : Nat} {l : List Int} {N : Nat} {n : Int} {tags nested : Bool} {w0 : World} (U : Blk w0 bs T [.slice ao l.length cap, .int .i64 (N : Nat)]) (hl : ∀ w', Evo w0 w' [bs] → RowE w' ao b off cap l) (hN : N ≤ 100000) (fw : 0 ≤ n) (fx : n ≤ 100) :
    Calls Tryz.prog 41 #[.pointer (some ⟨bs, 0, none⟩), .int .i64 n, .bool tags, .bool nested] w0 fun e w' => ∃ v, ∃ f : List Vc.Item, ∃ N', e = .returned v ∧ (ES [] f = 0 ∧ (f.length : Int) ≤ 2 * n ∧ (BK f : Int) ≤ 30 * n ∧ (nested = true → BE f = some ([], []))) ∧ (N ≤ N' ∧ N' ≤ N + 2000) ∧ Evo w0 w' [bs] ∧ Blk w' bs T [.slice ao l.length cap, .int .i64 (N' : Nat)] ∧ OwnE w' w0.heap.size 32 v f := by
 have a_ := U.at; have et := U.lt
 refine AG (n := 141) func41 rfl ntmps41 rfl ?_
 have hV : Evo w0 w0 [bs] := Evo.refl _ _
 have bm := hl
 replace hl := bm _ hV
 have ep := hl.bd
 refine Zs (Zn Bs (Zs (Zo Bs (Zn Bs (Zs (Zn Ah (AB (Zs (Zo Ey ?_)))))))))
 refine Zo AN (Zo A8 (Zr [.pointer _, .int _ _] rfl η func38 (C4 U hl ω ω ω) ?_))
 rintro e w1 ⟨b5, rfl, hx1, F1, hn1⟩
 refine ⟨_, rfl, ?_⟩
 have Q1 := F1.size
 replace hV := Z1 hV F1 (.inr (by simp))
 replace hl := bm _ hV
 replace U := hn1
 clear hn1
 have a_ := U.at
 refine Zn Ah (AD (AZ (α := Nat) [9, 10, 11, 12, 13, 14, 20, 21, 22, 23, 24, 25, 26, 27, 28, 29, 30, 31, 32, 33, 34, 35, 36, 37, 38, 39, 40, 41, 42, 43, 44, 45, 46, 47, 48, 49, 50, 51, 52, 53, 54, 55, 56, 57, 58, 59, 60, 61, 62, 63, 64, 65, 66, 67, 68, 69, 70, 71, 72, 73, 74, 75, 76, 77, 78, 79, 80, 81, 82, 83, 84, 85, 86, 87, 88, 89, 90, 91, 92, 93, 94, 95, 96, 97, 98, 99, 100, 101, 102, 103, 104, 105, 106, 107, 108, 109, 110, 111, 112, 113, 114] (fun i g w => ∃ vf : Value, ∃ vo : Value, ∃ f : List Vc.Item, ∃ op : List Vc.Item, ∃ b4 : Int, ∃ N1 : Nat, g 12 = .int .i64 (i : Nat) ∧ g 9 = vf ∧ g 10 = vo ∧ g 11 = .int .i64 b4 ∧ OwnE w w0.heap.size 32 vf f ∧ OwnE w w0.heap.size 32 vo op ∧ Blk w bs T [.slice ao l.length cap, .int .i64 (N1 : Nat)] ∧ FI f op b4 ∧ NS nested f op ∧ (f.length + i ≤ b5.toNat ∧ BK f + 18 * i ≤ 18 * b5.toNat ∧ op.length + i ≤ b5.toNat ∧ b4 + i ≤ b5.toNat ∧ N + 1 ≤ N1 ∧ N1 + 11 * i ≤ N + 1 + 11 * b5.toNat) ∧ (∀ g, vf.ownBlock = some g → ∀ h, vo.ownBlock = some h → g ≠ h) ∧ (∀ o ∈ op, o.text.length ≤ 5) ∧ w1.heap.size ≤ w.heap.size ∧ Evo w0 w [bs]) (fun i => i) b5.toNat ?_ ?_))
 refine ⟨_, _, [], [], _, _, (congrArg (Value.int _) ω), rfl, rfl, rfl, (OwnE.nil _ _ _), (OwnE.nil _ _ _), U, FI.nil, (NS.nil _), (by first | (simp [BK]; done) | (simp [BK]; omega)), (fun g hg => by have h9 : (none : Option Nat) = some g := hg; cases h9), (by simp), δ, hV⟩
 rintro i g w3 ⟨vf, vo, f, op, b4, N1, hj4, hj5, hj6, hj7, J, I, U, hFI, hNS, hsz, hsep, hopt, hzl2, hV⟩
 have ed := hV.size
 have eW := U.lt
 replace hl := bm _ hV
 have a_ := U.at
 refine Zk 12 hj4 (Zk 9 hj5 (Zk 10 hj6 (Zk 11 hj7 (AB (Zs (Zo AN (Zn IG (AE η (fun eu => ?_) (fun eu => ?_)))))))))
 refine AF (AB (AD (AB ?_)))
 have eX := hFI.pos; have dZ := fun g hg => (J.block (g := g) hg).2; have d_ := fun g hg => (I.block (g := g) hg).2
 refine AA (Zo Ey (Zr [.pointer _, .int _ _] rfl η func74 (N7 U (fun w9 h9 => bm _ (Evo.trans hV h9 (fun x hx _ => hx))) ω ω ω ω) ?_))
 rintro e fA ⟨ej, Nl10, rfl, htl10, hNl10, F10, hn10⟩
 refine ⟨_, rfl, ?_⟩
 have e0 := F10.size
 replace hV := Z1 hV F10 (.inr (by simp))
 replace J := J.evo F10 (by intro g hg hm; simp at hm; subst hm; have := J.block hg; omega)
 replace I := I.evo F10 (by intro g hg hm; simp at hm; subst hm; have := I.block hg; omega)
 replace U := hn10
 clear hn10
 have a_ := U.at
 refine Zo (Aj (pv := [(0, .int _ _), (1, S _)]) (zs := [_, _, _]) (cells := [_, _, _]) rfl Ag η Gr η η) ?_
 have eC := fun g hg => (J.block (g := g) hg).2
 have cc := fun g hg => (I.block (g := g) hg).2
 refine CO (zs := [_, _, _]) (vs := [_, _, _]) Ag η rfl η (fun _ => rfl) η rfl rfl η ?_
 intro b13 w14 J13 E14 B13 Y13
 have e1 := E14.size
 replace hV := Z0 hV E14
 replace hl := bm _ hV
 replace J := J.evo0 E14
 replace I := I.evo0 E14
 replace U := U.evo0 E14
 replace a_ := a_.evo0 E14
 have C := B13.at
 refine As (AB (AB ?_))
 have bx : ∀ g, vf.ownBlock = some g → g ≠ b13 := fun g hg h => by have := dZ g hg; omega
 have bz : ∀ g, vo.ownBlock = some g → g ≠ b13 := fun g hg h => by have := d_ g hg; omega
 refine AA (Zo Ey (Zr [.pointer _, .int _ _] rfl η func38 (C4 U hl ω ω ω) ?_))
 rintro e cH ⟨bl, rfl, hx15, F15, hn15⟩
 refine ⟨_, rfl, ?_⟩
 have e2 := F15.size
 replace hV := Z1 hV F15 (.inr (by simp))
 replace hl := bm _ hV
 replace J := J.evo F15 (by intro g hg hm; simp at hm; subst hm; have := J.block hg; omega)
 replace I := I.evo F15 (by intro g hg hm; simp at hm; subst hm; have := I.block hg; omega)
 replace B13 := B13.evo F15 θ
 replace C := C.evo F15 θ
 replace U := hn15
 clear hn15
 have a_ := U.at
 refine As (AD (AB (Zs (Zo C3 (Zn A6 (C1 [29, 31] (fun g w => g 29 = .bool (decide (bl = 0 ∨ bl = 1)) ∧ cH = w) ?_ ?_))))))
 refine AE η (fun dR => ?_) (fun dR => ?_)
 refine AF (Ae ?_ ?_)
 refine ⟨(congrArg Value.bool (decide_eq_decide.2 ω)), rfl⟩
 exact ψ
 refine AA (Zo C3 (Zn A6 (Ae ?_ ?_)))
 refine ⟨(congrArg Value.bool (decide_eq_decide.2 ω)), rfl⟩
 exact ψ
 rintro g _ ⟨dW, rfl⟩
 refine Zk 29 dW (C1 [10, 11, 14, 32, 33, 34, 35, 36, 37, 38, 39, 40, 41, 42, 43, 44, 45, 46, 47, 48, 49, 50, 51, 52, 53, 54, 55, 56, 57, 58, 59, 60, 61, 62, 63, 64, 65, 66, 67, 68, 69, 70, 71, 72, 73, 74, 75, 76, 77, 78, 79, 80, 81, 82, 83, 84, 85, 86, 87, 88, 89, 90, 91, 92, 93, 94, 95, 96, 97, 98, 99, 100, 101, 102, 103, 104, 105, 106, 107, 108, 109, 110] (fun g w => ∃ dq : Value, ∃ b6 : List Vc.Item, ∃ b3 : Int, ∃ N2 : Nat, ∃ kx : Int, ∃ tx : AQ, ∃ ix : Int, g 10 = dq ∧ g 11 = .int .i64 b3 ∧ OwnE w w0.heap.size 32 vf f ∧ OwnE w w0.heap.size 32 dq b6 ∧ Blk w b13 32 [.int .i64 kx, S tx, .int .i64 ix] ∧ Blk w bs T [.slice ao l.length cap, .int .i64 (N2 : Nat)] ∧ (FI (BC f ⟨kx, tx, ix⟩) b6 b3) ∧ (NS nested (BC f ⟨kx, tx, ix⟩) b6) ∧ (tx.length ≤ 18 ∧ b6.length ≤ op.length + 1 ∧ b3 ≤ b4 + 1 ∧ N1 ≤ N2 ∧ N2 ≤ N1 + 11) ∧ (∀ o ∈ b6, o.text.length ≤ 5) ∧ cH.heap.size ≤ w.heap.size ∧ Evo w0 w [bs]) ?_ ?_)
 refine AE η (fun dd => ?_) (fun dd => ?_)
 refine AA (Av (pv := [(0, S _), (1, S _), (2, S _)]) (zs := [_]) (cs := [_, _, _]) underlying77 BW η rfl η rfl η ?_)
 intro b20 w21 J20 E21 B20 Y20
 have e3 := E21.size
 replace hV := Z0 hV E21
 replace hl := bm _ hV
 replace J := J.evo0 E21
 replace I := I.evo0 E21
 replace B13 := B13.evo0 E21
 replace C := C.evo0 E21
 replace U := U.evo0 E21
 replace a_ := a_.evo0 E21
 have bn : RowE w21 (some ⟨b20, 0, none⟩) b20 0 3 slotW := Bl slotW B20 rfl rfl
 refine Zo Ey (Zr [.pointer _, .int _ _] rfl η func38 (C4 U hl ω ω ω) ?_)
 rintro e fB ⟨cn, rfl, hx22, F22, hn22⟩
 refine ⟨_, rfl, ?_⟩
 have e4 := F22.size
 replace hV := Z1 hV F22 (.inr (by simp))
 replace J := J.evo F22 (by intro g hg hm; simp at hm; subst hm; have := J.block hg; omega)
 replace I := I.evo F22 (by intro g hg hm; simp at hm; subst hm; have := I.block hg; omega)
 replace B13 := B13.evo F22 θ
 replace C := C.evo F22 θ
 replace bn := bn.evo F22 θ
 replace U := hn22
 clear hn22
 have a_ := U.at
 refine Zo (AV (cn.toNat) rfl underlying77 BW η η ω (by show _ < 3; omega) (bn.addr (i := cn.toNat) (by show _ < 3; omega))) ?_
 have dz := bn.atD (cn.toNat) (by show _ < 3; omega)
 refine Zo (AH rfl BF η (dz.cell 0 η)) (Zo (Aj (pv := [(0, .int _ _), (1, S _)]) (zs := [_, _, _]) (cells := [_, _, _]) rfl Ag η Gr η η) (BB (v := .agg _) (vs := [_, _, _]) (cs' := [_, _, _]) η η B13 Ag η rfl η rfl η ?_))
 intro w24 E24 V24 hb_new
 have e5 := E24.size
 replace hV := Z1 hV E24 ε
 replace J := J.evo E24 (by intro g hg hm; simp at hm; subst hm; exact bx _ hg rfl)
 replace I := I.evo E24 (by intro g hg hm; simp at hm; subst hm; exact bz _ hg rfl)
 replace U := U.evo E24 θ
 replace B13 := hb_new
 have C := B13.at
 clear hb_new
 refine As (Ae ?_ ?_)
 refine ⟨_, _, _, _, _, _, _, rfl, rfl, J, (I.base_le ω), B13, U, (by first | exact hFI.text _ | exact hFI.slot (CU _ ω).1 | exact hFI.empty (CA _ ω).1 ω | exact hFI.open_ (BU _ ω).1 ω | exact hFI.close ω ω | exact hFI.closeNew υ ω), (by first | exact hNS.otherB rfl rfl | exact hNS.open_ _ _ | exact hNS.close ω hkn _ | exact NS.closeNew (dd).2), ⟨by first | omega | exact Nat.le_trans (CU _ ω).2 υ | exact Nat.le_trans (CA _ ω).2 υ | exact Nat.le_trans (BU _ ω).2 υ | exact Nat.le_trans (C6 _) (Nat.le_trans (G1 hopt _) υ) | decide, by first | omega | (simp; done) | (simp; omega), by omega, by omega, by omega⟩, (by first | exact hopt | exact (fun o ho => (List.mem_append.1 ho).elim (hopt o) (fun h => by simp at h; subst h; exact (BU _ ω).2)) | exact (fun o ho => (List.mem_append.1 ho).elim (fun h => hopt o (List.mem_of_mem_take h)) (fun h => hopt o (List.mem_of_mem_drop h)))), δ, hV⟩
 exact ψ
 refine Zs (Zo C3 (Zn A6 (AE η (fun dS => ?_) (fun dS => ?_))))
 refine Zs (Zn (Bt rfl η) (AE η (fun b9 => ?_) (fun b9 => ?_)))
 refine Zs (Zo AN (Zo A8 (Zn Ah (AA (Av (pv := [(0, S _), (1, S _)]) (zs := [_]) (cs := [_, _]) underlying77 BW η rfl η rfl η ?_)))))
 intro b27 w28 J27 E28 B27 Y27
 have e6 := E28.size
 replace hV := Z0 hV E28
 replace hl := bm _ hV
 replace J := J.evo0 E28
 replace I := I.evo0 E28
 replace B13 := B13.evo0 E28
 replace C := C.evo0 E28
 replace U := U.evo0 E28
 replace a_ := a_.evo0 E28
 have bp : RowE w28 (some ⟨b27, 0, none⟩) b27 0 2 emptyW := Bl emptyW B27 rfl rfl
 refine Zo Ey (Zr [.pointer _, .int _ _] rfl η func38 (C4 U hl ω ω ω) ?_)
 rintro e fC ⟨cr, rfl, hx29, F29, hn29⟩
 refine ⟨_, rfl, ?_⟩
 have e7 := F29.size
 replace hV := Z1 hV F29 (.inr (by simp))
 replace J := J.evo F29 (by intro g hg hm; simp at hm; subst hm; have := J.block hg; omega)
 replace I := I.evo F29 (by intro g hg hm; simp at hm; subst hm; have := I.block hg; omega)
 replace B13 := B13.evo F29 θ
 replace C := C.evo F29 θ
 replace bp := bp.evo F29 θ
 replace U := hn29
 clear hn29
 have a_ := U.at
 refine Zo (AV (cr.toNat) rfl underlying77 BW η η ω (by show _ < 2; omega) (bp.addr (i := cr.toNat) (by show _ < 2; omega))) ?_
 have dO := bp.atD (cr.toNat) (by show _ < 2; omega)
 refine Zo (AH rfl BF η (dO.cell 0 η)) (Zo AN (Zo (Aj (pv := [(0, .int _ _), (1, S _), (2, .int _ _)]) (zs := [_, _, _]) (cells := [_, _, _]) rfl Ag η Gr η η) (BB (v := .agg _) (vs := [_, _, _]) (cs' := [_, _, _]) η η B13 Ag η rfl η rfl η ?_)))
 intro w31 E31 V31 hb_new
 have e8 := E31.size
 replace hV := Z1 hV E31 ε
 replace J := J.evo E31 (by intro g hg hm; simp at hm; subst hm; exact bx _ hg rfl)
 replace I := I.evo E31 (by intro g hg hm; simp at hm; subst hm; exact bz _ hg rfl)
 replace U := U.evo E31 θ
 replace B13 := hb_new
 have C := B13.at
 clear hb_new
 refine As (Ae ?_ ?_)
 refine ⟨_, _, _, _, _, _, _, rfl, rfl, J, (I.base_le ω), B13, U, (by first | exact hFI.text _ | exact hFI.slot (CU _ ω).1 | exact hFI.empty (CA _ ω).1 ω | exact hFI.open_ (BU _ ω).1 ω | exact hFI.close ω ω | exact hFI.closeNew υ ω), (by first | exact hNS.otherB rfl rfl | exact hNS.open_ _ _ | exact hNS.close ω hkn _ | exact NS.closeNew (b9).2), ⟨by first | omega | exact Nat.le_trans (CU _ ω).2 υ | exact Nat.le_trans (CA _ ω).2 υ | exact Nat.le_trans (BU _ ω).2 υ | exact Nat.le_trans (C6 _) (Nat.le_trans (G1 hopt _) υ) | decide, by first | omega | (simp; done) | (simp; omega), by omega, by omega, by omega⟩, (by first | exact hopt | exact (fun o ho => (List.mem_append.1 ho).elim (hopt o) (fun h => by simp at h; subst h; exact (BU _ ω).2)) | exact (fun o ho => (List.mem_append.1 ho).elim (fun h => hopt o (List.mem_of_mem_take h)) (fun h => hopt o (List.mem_of_mem_drop h)))), δ, hV⟩
 exact ψ
 refine AF (Ae ?_ ?_)
 refine ⟨_, _, _, _, _, _, _, rfl, rfl, J, (I.base_le ω), B13, U, (by first | exact hFI.text _ | exact hFI.slot (CU _ ω).1 | exact hFI.empty (CA _ ω).1 ω | exact hFI.open_ (BU _ ω).1 ω | exact hFI.close ω ω | exact hFI.closeNew υ ω), (by first | exact hNS.otherB rfl rfl | exact hNS.open_ _ _ | exact hNS.close ω hkn _ | exact NS.closeNew (b9).2), ⟨by first | omega | exact Nat.le_trans (CU _ ω).2 υ | exact Nat.le_trans (CA _ ω).2 υ | exact Nat.le_trans (BU _ ω).2 υ | exact Nat.le_trans (C6 _) (Nat.le_trans (G1 hopt _) υ) | decide, by first | omega | (simp; done) | (simp; omega), by omega, by omega, by omega⟩, (by first | exact hopt | exact (fun o ho => (List.mem_append.1 ho).elim (hopt o) (fun h => by simp at h; subst h; exact (BU _ ω).2)) | exact (fun o ho => (List.mem_append.1 ho).elim (fun h => hopt o (List.mem_of_mem_take h)) (fun h => hopt o (List.mem_of_mem_drop h)))), δ, hV⟩
 exact ψ
 refine AB (Zs (Zo C3 (Zn A6 (C1 [50, 52] (fun g w => g 50 = .bool (decide (bl = 3 ∨ bl = 4)) ∧ cH = w) ?_ ?_))))
 refine AE η (fun dT => ?_) (fun dT => ?_)
 refine AF (Ae ?_ ?_)
 refine ⟨(congrArg Value.bool (decide_eq_decide.2 ω)), rfl⟩
 exact ψ
 refine AA (Zo C3 (Zn A6 (Ae ?_ ?_)))
 refine ⟨(congrArg Value.bool (decide_eq_decide.2 ω)), rfl⟩
 exact ψ
 rintro g _ ⟨dX, rfl⟩
 refine Zk 50 dX (AE η (fun dU => ?_) (fun dU => ?_))
 refine Zs (Zn (Bt rfl η) (AE η (fun b_ => ?_) (fun b_ => ?_)))
 refine Zs (Zo AN (Zo A8 (Zn Ah (Zs (Av (pv := [(0, S _), (1, S _), (2, S _)]) (zs := [_]) (cs := [_, _, _]) underlying77 BW η rfl η rfl η ?_)))))
 intro b36 w37 J36 E37 B36 Y36
 have e9 := E37.size
 replace hV := Z0 hV E37
 replace hl := bm _ hV
 replace J := J.evo0 E37
 replace I := I.evo0 E37
 replace B13 := B13.evo0 E37
 replace C := C.evo0 E37
 replace U := U.evo0 E37
 replace a_ := a_.evo0 E37
 have bq : RowE w37 (some ⟨b36, 0, none⟩) b36 0 3 openW := Bl openW B36 rfl rfl
 refine Zo Ey (Zr [.pointer _, .int _ _] rfl η func38 (C4 U hl ω ω ω) ?_)
 rintro e fE ⟨ct, rfl, hx38, F38, hn38⟩
 refine ⟨_, rfl, ?_⟩
 have e_ := F38.size
 replace hV := Z1 hV F38 (.inr (by simp))
 replace J := J.evo F38 (by intro g hg hm; simp at hm; subst hm; have := J.block hg; omega)
 replace I := I.evo F38 (by intro g hg hm; simp at hm; subst hm; have := I.block hg; omega)
 replace B13 := B13.evo F38 θ
 replace C := C.evo F38 θ
 replace bq := bq.evo F38 θ
 replace U := hn38
 clear hn38
 have a_ := U.at
 refine Zo (AV (ct.toNat) rfl underlying77 BW η η ω (by show _ < 3; omega) (bq.addr (i := ct.toNat) (by show _ < 3; omega))) ?_
 have dQ := bq.atD (ct.toNat) (by show _ < 3; omega)
 refine Zo (AH rfl BF η (dQ.cell 0 η)) (Zo AN (Zo (Aj (pv := [(0, .int _ _), (1, S _), (2, .int _ _)]) (zs := [_, _, _]) (cells := [_, _, _]) rfl Ag η Gr η η) (BB (v := .agg _) (vs := [_, _, _]) (cs' := [_, _, _]) η η B13 Ag η rfl η rfl η ?_)))
 intro w40 E40 V40 hb_new
 have fa := E40.size
 replace hV := Z1 hV E40 ε
 replace J := J.evo E40 (by intro g hg hm; simp at hm; subst hm; exact bx _ hg rfl)
 replace I := I.evo E40 (by intro g hg hm; simp at hm; subst hm; exact bz _ hg rfl)
 replace U := U.evo E40 θ
 replace B13 := hb_new
 have C := B13.at
 clear hb_new
 refine As (AA (Zo (AP (v := vo) rfl η) (Zo (AY rfl CT Ag η rfl C) (Ad (u := .agg _) (y := ⟨_, _, _⟩) rfl rfl underlying33 Ag η I (fun _ => η) η ξ (τ) (τ) ω ?_))))
 intro q_v41 v41 w42 E42 hov41 hlv41
 have fb := E42.size
 replace hV := AI hV E42 (fun g hg => .inl (by first | exact (I.block hg).1 | (have := I.block hg; omega)))
 replace J := J.evo E42 (by intro g hg hm; exact hsep g hg _ (Option.mem_toList.1 hm) rfl)
 replace U := U.evo E42 (by intro hm; have a8 := Option.mem_toList.1 hm; have := I.block a8; omega)
 replace B13 := B13.evo E42 (by intro hm; have a8 := Option.mem_toList.1 hm; have := cc _ a8; omega)
 replace C := C.evo E42 (by intro hm; have a8 := Option.mem_toList.1 hm; have := cc _ a8; omega)
 refine Zn (AM (v := v41) rfl η) (Ae ?_ ?_)
 refine ⟨_, _, _, _, _, _, _, rfl, rfl, J, (hov41.base_le ω), B13, U, (by first | exact hFI.text _ | exact hFI.slot (CU _ ω).1 | exact hFI.empty (CA _ ω).1 ω | exact hFI.open_ (BU _ ω).1 ω | exact hFI.close ω ω | exact hFI.closeNew υ ω), (by first | exact hNS.otherB rfl rfl | exact hNS.open_ _ _ | exact hNS.close ω hkn _ | exact NS.closeNew (b_).2), ⟨by first | omega | exact Nat.le_trans (CU _ ω).2 υ | exact Nat.le_trans (CA _ ω).2 υ | exact Nat.le_trans (BU _ ω).2 υ | exact Nat.le_trans (C6 _) (Nat.le_trans (G1 hopt _) υ) | decide, by first | omega | (simp; done) | (simp; omega), by omega, by omega, by omega⟩, (by first | exact hopt | exact (fun o ho => (List.mem_append.1 ho).elim (hopt o) (fun h => by simp at h; subst h; exact (BU _ ω).2)) | exact (fun o ho => (List.mem_append.1 ho).elim (fun h => hopt o (List.mem_of_mem_take h)) (fun h => hopt o (List.mem_of_mem_drop h)))), δ, hV⟩
 exact ψ
 refine AF (Ae ?_ ?_)
 refine ⟨_, _, _, _, _, _, _, rfl, rfl, J, (I.base_le ω), B13, U, (by first | exact hFI.text _ | exact hFI.slot (CU _ ω).1 | exact hFI.empty (CA _ ω).1 ω | exact hFI.open_ (BU _ ω).1 ω | exact hFI.close ω ω | exact hFI.closeNew υ ω), (by first | exact hNS.otherB rfl rfl | exact hNS.open_ _ _ | exact hNS.close ω hkn _ | exact NS.closeNew (b_).2), ⟨by first | omega | exact Nat.le_trans (CU _ ω).2 υ | exact Nat.le_trans (CA _ ω).2 υ | exact Nat.le_trans (BU _ ω).2 υ | exact Nat.le_trans (C6 _) (Nat.le_trans (G1 hopt _) υ) | decide, by first | omega | (simp; done) | (simp; omega), by omega, by omega, by omega⟩, (by first | exact hopt | exact (fun o ho => (List.mem_append.1 ho).elim (hopt o) (fun h => by simp at h; subst h; exact (BU _ ω).2)) | exact (fun o ho => (List.mem_append.1 ho).elim (fun h => hopt o (List.mem_of_mem_take h)) (fun h => hopt o (List.mem_of_mem_drop h)))), δ, hV⟩
 exact ψ
 refine AB (Zs (Zo C3 (Zn A6 (C1 [67, 69] (fun g w => g 67 = .bool (decide (bl = 5 ∨ bl = 6)) ∧ cH = w) ?_ ?_))))
 refine AE η (fun dV => ?_) (fun dV => ?_)
 refine AF (Ae ?_ ?_)
 refine ⟨(congrArg Value.bool (decide_eq_decide.2 ω)), rfl⟩
 exact ψ
 refine AA (Zo C3 (Zn A6 (Ae ?_ ?_)))
 refine ⟨(congrArg Value.bool (decide_eq_decide.2 ω)), rfl⟩
 exact ψ
 rintro g _ ⟨dY, rfl⟩
 refine Zk 67 dY (AE η (fun de => ?_) (fun de => ?_))
 refine Zs (Zo (AP (v := vo) rfl η) (Zo (Bn rfl η underlying33 I) (Zo JV (Zn Ah (Zs (Zo AN (Zn (BQ rfl η η) (AE η (fun df => ?_) (fun df => ?_)))))))))
 refine AB (Zs (Zo (Bt rfl η) (Zn (CQ rfl η) (C1 [14, 77, 78, 79, 80] (fun g w => ∃ kk : Nat, ∃ N3 : Nat, g 14 = .int .i64 (kk : Nat) ∧ OwnE w w0.heap.size 32 vf f ∧ OwnE w w0.heap.size 32 vo op ∧ Blk w b13 32 [.int .i64 1, S ej, .int .i64 0] ∧ Blk w bs T [.slice ao l.length cap, .int .i64 (N3 : Nat)] ∧ (kk < op.length ∧ N1 ≤ N3 ∧ N3 ≤ N1 + 9) ∧ (nested = true → kk = op.length - 1) ∧ cH.heap.size ≤ w.heap.size ∧ Evo w0 w [bs]) ?_ ?_))))
 refine AE η (fun ca => ?_) (fun ca => ?_)
 refine AA (Zo Ey (Zo AN (Zo A8 (Zr [.pointer _, .int _ _] rfl η func38 (C4 U hl ω ω ω) ?_))))
 rintro e fF ⟨ei, rfl, hx49, F49, hn49⟩
 refine ⟨_, rfl, ?_⟩
 have fc := F49.size
 replace hV := Z1 hV F49 (.inr (by simp))
 replace J := J.evo F49 (by intro g hg hm; simp at hm; subst hm; have := J.block hg; omega)
 replace I := I.evo F49 (by intro g hg hm; simp at hm; subst hm; have := I.block hg; omega)
 replace B13 := B13.evo F49 θ
 replace U := hn49
 clear hn49
 have a_ := U.at
 refine Zn Ah (Ae ?_ ?_)
 refine ⟨ei.toNat, _, (congrArg (Value.int _) ω), J, I, B13, U, ω, (fun h9 => by first | rfl | exact absurd h9 ca), δ, hV⟩
 exact ψ
 refine AF (Ae ?_ ?_)
 refine ⟨(op.length - 1), _, (congrArg (Value.int _) ω), J, I, B13, U, ω, (fun h9 => by first | rfl | exact absurd h9 ca), δ, hV⟩
 exact ψ
 rintro g fG ⟨kk, N3, hj51, J, I, B13, U, hkk, hkn, hzl47, hV⟩
 have dt := hV.size
 have ew := B13.lt
 have ey := U.lt
 have C := B13.at
 have a_ := U.at
 refine Zk 14 hj51 (AB ?_)
 obtain ⟨eJ, fs, eM, ee, bf, eS⟩ := I.rowOf
 subst ee
 have ev := G1 hopt kk
 have b8 := B13
 have b7 := C
 have b1 := bf
 have dc := hV
 refine CJ ([]) ζ ?_
 intro w55 F56 a7
 have fe := F56.size
 replace hV := Z0 hV F56
 replace J := J.evo0 F56
 replace I := I.evo0 F56
 replace B13 := B13.evo0 F56
 replace U := U.evo0 F56
 replace C := C.evo0 F56
 replace bf := bf.evo0 F56
 refine Zt (i := 0) η (fun w' hC => Ar) a7 (Zt (i := 1) η (fun w' hC => AN) a7 (Zt (i := 2) η (fun w' hC => AV (kk) rfl underlying33 Ag η η ω ω (bf.addr (i := kk) ω)) a7 ?_))
 have eQ := bf.atD (kk) ω
 have cR := b1.atD (kk) ω
 refine Zt (i := 3) η (fun w' hC => AJ rfl η CI) a7 (Zt (i := 4) η (fun w' hC => AH rfl BF η ((cR.evo0 hC).cell 1 η)) a7 (Zt (i := 6) η (fun w' hC => Ar) a7 (Zt (i := 7) η (fun w' hC => AN) a7 (Zt (i := 8) η (fun w' hC => AV (kk) rfl underlying33 Ag η η ω ω (bf.addr (i := kk) ω)) a7 ?_))))
 have eR := bf.atD (kk) ω
 have cV := b1.atD (kk) ω
 refine Zt (i := 9) η (fun w' hC => AJ rfl η DU) a7 (Zt (i := 10) η (fun w' hC => AH rfl A0 η ((cV.evo0 hC).cell 2 η)) a7 ?_)
 refine Zh (i := 5) ?_
 refine Zr [S _] rfl η func75 (Gw ω) ?_
 rintro e fH ⟨rfl, F60⟩
 refine ⟨_, rfl, ?_⟩
 have ff := F60.size
 replace hV := Z0 hV F60
 replace a7 := Z0 a7 F60
 replace J := J.evo0 F60
 replace I := I.evo0 F60
 replace B13 := B13.evo0 F60
 replace U := U.evo0 F60
 replace C := C.evo0 F60
 replace bf := bf.evo0 F60
 refine Ap a7 ?_
 refine Zt (i := 11) η (fun w' hC => Aj (pv := [(0, .int _ _), (1, S _), (2, .int _ _)]) (zs := [_, _, _]) (cells := [_, _, _]) rfl Ag η Gr η η) a7 ?_
 refine Zh (i := 12) ?_
 refine BB (v := .agg _) (vs := [_, _, _]) (cs' := [_, _, _]) η η B13 Ag η rfl η rfl η ?_
 intro w61 E61 V61 hb_new
 have fg := E61.size
 replace hV := Z1 hV E61 ε
 replace J := J.evo E61 (by intro g hg hm; simp at hm; subst hm; exact bx _ hg rfl)
 replace I := I.evo E61 (by intro g hg hm; simp at hm; subst hm; exact bz _ hg rfl)
 replace U := U.evo E61 θ
 replace B13 := hb_new
 have C := B13.at
 clear hb_new
 refine CV ζ ?_
 refine CH ζ ?_
 obtain ⟨eK, ft, eN, ef, bg, eT⟩ := I.rowOf
 injection ef with ha62 hx62 hc62
 subst ha62; subst hc62
 have ea := fun g hg => (I.block (g := g) hg).2; have dn := fun g hg => (J.block (g := g) hg).2
 have b8 := B13
 have b7 := C
 have b2 := bg
 have dc := hV
 refine CJ ([]) ζ ?_
 intro w63 F64 bc
 have fh := F64.size
 replace hV := Z0 hV F64
 replace J := J.evo0 F64
 replace I := I.evo0 F64
 replace U := U.evo0 F64
 replace B13 := B13.evo0 F64
 replace C := C.evo0 F64
 replace bg := bg.evo0 F64
 refine Zt (i := 0) η (fun w' hC => Ar) bc (Zt (i := 1) η (fun w' hC => AN) bc (Zt (i := 2) η (fun w' hC => by exact Hu (0) (kk) rfl underlying33 Ag η (b2.evo0 hC) LU (at1 η ω) τ τ List.drop_zero) bc ?_))
 have bY := (by have h9 := (bg.take (kk)).drop (0); rw [List.drop_zero] at h9; exact h9)
 have dr := bY.bd
 refine Zt (i := 4) η (fun w' hC => Ar) bc (Zt (i := 5) η (fun w' hC => AN) bc (Zt (i := 6) η (fun w' hC => Cp rfl η η ω ω) bc (Zt (i := 7) η (fun w' hC => by exact Nk ((kk + 1)) rfl underlying33 Ag rfl η (b2.evo0 hC) (at1 η ω) τ) bc ?_)))
 have b0 := bg.drop ((kk + 1))
 have ds := b0.bd
 refine Zh (i := 3) ?_
 refine BS rfl underlying33 Ag η (OwnE.nil (α := Vc.Item) _ w61.heap.size _) η η bY rfl (τ) (τ) ω ?_
 intro v68 w69 E69 hov68 hlv68
 have fi := E69.size
 replace hV := Z0 hV E69
 replace bc := Z0 bc E69
 replace J := J.evo0 E69
 replace I := I.evo0 E69
 replace U := U.evo0 E69
 replace B13 := B13.evo0 E69
 replace C := C.evo0 E69
 replace bg := bg.evo0 E69
 replace bY := bY.evo0 E69
 replace b0 := b0.evo0 E69
 refine Ap bc ?_
 refine Zh (i := 8) ?_
 refine BS rfl underlying33 Ag η hov68 η η b0 rfl (τ) (τ) ω ?_
 intro v70 w71 E71 hov70 hlv70
 have fj := E71.size
 replace hV := AI hV E71 (fun g hg => .inl (by first | exact (hov68.block hg).1 | (have := hov68.block hg; omega)))
 replace J := J.evo E71 (by intro g hg hm; have a8 := Option.mem_toList.1 hm; have h1 := hov68.block a8; have h2 := dn g hg; omega)
 replace I := I.evo E71 (by intro g hg hm; have a8 := Option.mem_toList.1 hm; have h1 := hov68.block a8; have h2 := ea g hg; omega)
 replace U := U.evo E71 (by intro hm; have a8 := Option.mem_toList.1 hm; have := hov68.block a8; omega)
 replace B13 := B13.evo E71 (by intro hm; have a8 := Option.mem_toList.1 hm; have := hov68.block a8; omega)
 replace C := C.evo E71 (by intro hm; have a8 := Option.mem_toList.1 hm; have := hov68.block a8; omega)
 refine CV ζ ?_
 refine Zh (i := 9) ?_
 refine Zo (AM (v := v70) rfl η) ?_
 refine CV ζ ?_
 refine CH ζ ?_
 refine Ae ?_ ?_
 refine ⟨_, _, _, _, _, _, _, rfl, rfl, J, (hov70.base_le ω), B13, U, (by first | exact hFI.text _ | exact hFI.slot (CU _ ω).1 | exact hFI.empty (CA _ ω).1 ω | exact hFI.open_ (BU _ ω).1 ω | exact hFI.close ω ω | exact hFI.closeNew υ ω), (by first | exact hNS.otherB rfl rfl | exact hNS.open_ _ _ | exact hNS.close ω hkn _ | exact NS.closeNew (df).2), ⟨by first | omega | exact Nat.le_trans (CU _ ω).2 υ | exact Nat.le_trans (CA _ ω).2 υ | exact Nat.le_trans (BU _ ω).2 υ | exact Nat.le_trans (C6 _) (Nat.le_trans (G1 hopt _) υ) | decide, by first | omega | (simp; done) | (simp; omega), by omega, by omega, by omega⟩, (by first | exact hopt | exact (fun o ho => (List.mem_append.1 ho).elim (hopt o) (fun h => by simp at h; subst h; exact (BU _ ω).2)) | exact (fun o ho => (List.mem_append.1 ho).elim (fun h => hopt o (List.mem_of_mem_take h)) (fun h => hopt o (List.mem_of_mem_drop h)))), δ, hV⟩
 exact ψ
 refine Zs (Zo (Bt rfl η) (Zo Br ?_))
 refine Ab rfl Aq rfl (fun hg => Bt rfl η) ?_
 refine Ab rfl Aq rfl (fun hg => CQ rfl (Af hg)) ?_
 refine Zn Fm (AE η (fun cb => ?_) (fun cb => ?_))
 refine Zs (Zo AN (Zo A8 (Zn Ah (AA (Zo AN (Zo (Aj (pv := [(0, .int _ _), (1, S _), (2, .int _ _)]) (zs := [_, _, _]) (cells := [_, _, _]) rfl Ag η Gr η η) (BB (v := .agg _) (vs := [_, _, _]) (cs' := [_, _, _]) η η B13 Ag η rfl η rfl η ?_)))))))
 intro w73 E73 V73 hb_new
 have fk := E73.size
 replace hV := Z1 hV E73 ε
 replace J := J.evo E73 (by intro g hg hm; simp at hm; subst hm; exact bx _ hg rfl)
 replace I := I.evo E73 (by intro g hg hm; simp at hm; subst hm; exact bz _ hg rfl)
 replace U := U.evo E73 θ
 replace B13 := hb_new
 have C := B13.at
 clear hb_new
 refine As (Ae ?_ ?_)
 refine ⟨_, _, _, _, _, _, _, rfl, rfl, J, (I.base_le ω), B13, U, (by first | exact hFI.text _ | exact hFI.slot (CU _ ω).1 | exact hFI.empty (CA _ ω).1 ω | exact hFI.open_ (BU _ ω).1 ω | exact hFI.close ω ω | exact hFI.closeNew υ ω), (by first | exact hNS.otherB rfl rfl | exact hNS.open_ _ _ | exact hNS.close ω hkn _ | exact NS.closeNew (cb).2), ⟨by first | omega | exact Nat.le_trans (CU _ ω).2 υ | exact Nat.le_trans (CA _ ω).2 υ | exact Nat.le_trans (BU _ ω).2 υ | exact Nat.le_trans (C6 _) (Nat.le_trans (G1 hopt _) υ) | decide, by first | omega | (simp; done) | (simp; omega), by omega, by omega, by omega⟩, (by first | exact hopt | exact (fun o ho => (List.mem_append.1 ho).elim (hopt o) (fun h => by simp at h; subst h; exact (BU _ ω).2)) | exact (fun o ho => (List.mem_append.1 ho).elim (fun h => hopt o (List.mem_of_mem_take h)) (fun h => hopt o (List.mem_of_mem_drop h)))), δ, hV⟩
 exact ψ
 refine AF (Ae ?_ ?_)
 refine ⟨_, _, _, _, _, _, _, rfl, rfl, J, (I.base_le ω), B13, U, (by first | exact hFI.text _ | exact hFI.slot (CU _ ω).1 | exact hFI.empty (CA _ ω).1 ω | exact hFI.open_ (BU _ ω).1 ω | exact hFI.close ω ω | exact hFI.closeNew υ ω), (by first | exact hNS.otherB rfl rfl | exact hNS.open_ _ _ | exact hNS.close ω hkn _ | exact NS.closeNew (cb).2), ⟨by first | omega | exact Nat.le_trans (CU _ ω).2 υ | exact Nat.le_trans (CA _ ω).2 υ | exact Nat.le_trans (BU _ ω).2 υ | exact Nat.le_trans (C6 _) (Nat.le_trans (G1 hopt _) υ) | decide, by first | omega | (simp; done) | (simp; omega), by omega, by omega, by omega⟩, (by first | exact hopt | exact (fun o ho => (List.mem_append.1 ho).elim (hopt o) (fun h => by simp at h; subst h; exact (BU _ ω).2)) | exact (fun o ho => (List.mem_append.1 ho).elim (fun h => hopt o (List.mem_of_mem_take h)) (fun h => hopt o (List.mem_of_mem_drop h)))), δ, hV⟩
 exact ψ
 refine AF (Ae ?_ ?_)
 refine ⟨_, _, _, _, _, _, _, rfl, rfl, J, (I.base_le ω), B13, U, (by first | exact hFI.text _ | exact hFI.slot (CU _ ω).1 | exact hFI.empty (CA _ ω).1 ω | exact hFI.open_ (BU _ ω).1 ω | exact hFI.close ω ω | exact hFI.closeNew υ ω), (by first | exact hNS.otherB rfl rfl | exact hNS.open_ _ _ | exact hNS.close ω hkn _ | exact NS.closeNew (de).2), ⟨by first | omega | exact Nat.le_trans (CU _ ω).2 υ | exact Nat.le_trans (CA _ ω).2 υ | exact Nat.le_trans (BU _ ω).2 υ | exact Nat.le_trans (C6 _) (Nat.le_trans (G1 hopt _) υ) | decide, by first | omega | (simp; done) | (simp; omega), by omega, by omega, by omega⟩, (by first | exact hopt | exact (fun o ho => (List.mem_append.1 ho).elim (hopt o) (fun h => by simp at h; subst h; exact (BU _ ω).2)) | exact (fun o ho => (List.mem_append.1 ho).elim (fun h => hopt o (List.mem_of_mem_take h)) (fun h => hopt o (List.mem_of_mem_drop h)))), δ, hV⟩
 exact ψ
 rintro g fI ⟨dq, b6, b3, N2, kx, tx, ix, hj75, hj76, J, I, B13, U, hFX, hNX, hsz2, hop2, hzl18, hV⟩
 have du := hV.size
 have ez := B13.lt
 have eA := U.lt
 have C := B13.at
 have a_ := U.at
 refine Zk 10 hj75 (Zk 11 hj76 (AO ?_))
 have eb := fun g hg => (I.block (g := g) hg).2
 have fz : Fh (f ++ [⟨kx, tx, ix⟩]) := ⟨by rw [List.length_append]; simp; omega, by rw [BT, CX]; simp; omega⟩
 refine AA (Zo (AP (v := vf) rfl η) (Zo (AY rfl CT Ag η rfl C) (Av (pv := [(0, .agg _)]) (zs := [_, _, _]) (cs := [_, _, _]) underlying33 Ag η rfl η rfl η ?_)))
 intro b79 w80 J79 E80 B79 Y79
 have fl := E80.size
 replace hV := Z0 hV E80
 replace J := J.evo0 E80
 replace I := I.evo0 E80
 replace U := U.evo0 E80
 have bQ : RowE w80 (some ⟨b79, 0, none⟩) b79 0 1 ([⟨kx, tx, ix⟩] : List Vc.Item) := Bl ([⟨kx, tx, ix⟩] : List Vc.Item) B79 rfl rfl
 obtain ⟨eL, fu, eO, eg, cg, eV⟩ := J.rowOf
 subst eg
 refine Zr [.slice _ _ _, .slice (some ⟨b79, 0, none⟩) _ _] rfl η func76 (HI cg bQ κ) ?_
 rintro e fJ ⟨ek, rfl, F82, hon82⟩
 refine ⟨_, rfl, ?_⟩
 have fm := F82.size
 replace hV := Z0 hV F82
 replace J := J.evo0 F82
 replace I := I.evo0 F82
 replace U := U.evo0 F82
 replace bQ := bQ.evo0 F82
 replace cg := cg.evo0 F82
 refine Zn (AM (v := ek) rfl η) (AO (AA (Zo AN (Zo JV (Zn Ah (Zg (i - 1) ?_))))))
 refine ⟨_, _, _, _, _, _, σ, rfl, rfl, rfl, (hon82.base_le ω), I, U, (by rw [hFI.norm]; exact hFX), (by rw [hFI.norm]; exact hNX), (by have h1 := I4 (f ++ [⟨kx, tx, ix⟩]); have h2 := H2 (f ++ [⟨kx, tx, ix⟩]); rw [List.length_append] at h1; rw [BT, CX] at h2; simp at h1 h2; omega), (fun g hg h hh => by have h1 := (hon82).block (g := g) hg; have h2 := eb h hh; omega), hop2, δ, hV⟩
 refine AW rfl (AB (Zs (Zo (AP (v := vo) rfl η) (Zo (Bn rfl η underlying33 I) (Zo JV (Zn Ah (AD ?_)))))))
 obtain ⟨dw, dm, dx, eh, ec, di⟩ := I.rowOf
 subst eh
 refine AZ (α := Nat) [9, 15, 118, 119, 120, 121, 122, 123, 124, 125, 126, 127, 128, 129, 130, 131, 132, 133, 134, 135, 136, 137, 138, 139] (fun j g w => ∃ bL : Value, ∃ f2 : List Vc.Item, g 15 = .int .i64 ((j : Nat) - 1) ∧ g 9 = bL ∧ OwnE w w0.heap.size 32 bL f2 ∧ RowE w dw dm 0 dx op ∧ Blk w bs T [.slice ao l.length cap, .int .i64 (N1 : Nat)] ∧ FI f2 (op.take j) b4 ∧ NS nested f2 (op.take j) ∧ (f2.length + j ≤ f.length + op.length ∧ BK f2 + 5 * j ≤ BK f + 5 * op.length ∧ j ≤ op.length) ∧ (op ≠ [] → ∀ g, bL.ownBlock = some g → g ≠ dm) ∧ (op ≠ [] → dm < w.heap.size) ∧ w3.heap.size ≤ w.heap.size ∧ Evo w0 w [bs]) (fun j => j) op.length ?_ ?_
 refine ⟨_, _, rfl, rfl, J, ec, U, (by rw [List.take_of_length_le (Nat.le_refl _)]; exact hFI), (by rw [List.take_of_length_le (Nat.le_refl _)]; exact hNS), δ, (fun a6 g hg => hsep g hg _ (di a6).1), (fun a6 => (di a6).2.2), δ, hV⟩
 rintro j g fK ⟨bL, f2, hj86, hj87, aT, a1, U, hFI2, hNS2, hsz3, hsep2, hgo, hzl84, hV⟩
 have dv := hV.size
 have eB := U.lt
 have a_ := U.at
 refine Zk 15 hj86 (Zk 9 hj87 (AB (Zs (Zo AN (Zo (BQ rfl η η) (Zo Br ?_))))))
 refine Ab rfl Aq rfl (fun hg => Bt rfl η) ?_
 refine Zn Fm (AE η (fun dh => ?_) (fun dh => ?_))
 refine AF (AB (AD ?_))
 have ev := G1 hopt (j - 1)
 have dc := hV
 refine CJ ([]) ζ ?_
 intro w90 F91 R
 have fo := F91.size
 replace hV := Z0 hV F91
 replace aT := aT.evo0 F91
 replace a1 := a1.evo0 F91
 replace U := U.evo0 F91
 refine Zt (i := 0) η (fun w' hC => AP (v := bL) rfl η) R (Zt (i := 1) η (fun w' hC => Ar) R (Zt (i := 2) η (fun w' hC => AN) R (Zt (i := 3) η (fun w' hC => AV ((j - 1)) rfl underlying33 Ag η η ω ω (a1.addr (i := (j - 1)) ω)) R ?_)))
 have db := a1.atD ((j - 1)) ω
 refine Zt (i := 4) η (fun w' hC => AJ rfl η CI) R (Zt (i := 7) η (fun w' hC => Ar) R (Zt (i := 8) η (fun w' hC => AN) R (Zt (i := 9) η (fun w' hC => AV ((j - 1)) rfl underlying33 Ag η η ω ω (a1.addr (i := (j - 1)) ω)) R ?_)))
 have bw := a1.atD ((j - 1)) ω
 refine Zt (i := 10) η (fun w' hC => AJ rfl η DU) R ?_
 refine Kp (i := 5) (j := 11) ζ ?_ ?_
 refine Hx η ?_
 refine Zo (AH rfl BF η (db.cell 1 η)) ?_
 refine Ap R ?_
 refine Kp (i := 6) (j := 11) ζ ?_ ?_
 refine Hx η ?_
 refine Zr [S _] rfl η func75 (Gw ω) ?_
 rintro e fL ⟨rfl, F95⟩
 refine ⟨_, rfl, ?_⟩
 have fp := F95.size
 replace hV := Z0 hV F95
 replace R := Z0 R F95
 replace aT := aT.evo0 F95
 replace a1 := a1.evo0 F95
 replace U := U.evo0 F95
 replace bw := bw.evo0 F95
 refine Ap R ?_
 refine Zh (i := 11) ?_
 refine Zo (AH rfl A0 η (bw.cell 2 η)) ?_
 refine Ap R ?_
 refine Zt (i := 12) η (fun w' hC => Aj (pv := [(0, .int _ _), (1, S _), (2, .int _ _)]) (zs := [_, _, _]) (cells := [_, _, _]) rfl Ag η Gr η η) R ?_
 refine Zh (i := 13) ?_
 refine Av (pv := [(0, .agg _)]) (zs := [_, _, _]) (cs := [_, _, _]) underlying33 Ag η rfl η rfl η ?_
 intro b96 w97 J96 E97 B96 Y96
 have fq := E97.size
 replace hV := Z0 hV E97
 replace R := Z0 R E97
 replace aT := aT.evo0 E97
 replace a1 := a1.evo0 E97
 replace U := U.evo0 E97
 have dp := Bl (α := Vc.Item) [⟨_, _, _⟩] B96 (by show [_, _, _] = [_, _, _]; first | (dsimp only; done) | exact rfl | (dsimp only; exact rfl)) rfl
 refine Ap R ?_
 refine Zh (i := 14) ?_
 refine BS rfl underlying33 Ag η aT η η dp rfl (τ) (τ) ω ?_
 intro v98 w99 E99 hov98 hlv98
 have fr := E99.size
 replace hV := AI hV E99 (fun g hg => .inl (by first | exact (aT.block hg).1 | (have := aT.block hg; omega)))
 replace a1 := Cg a1 E99 (fun a6 hm => hsep2 a6 _ (Option.mem_toList.1 hm) rfl)
 replace U := U.evo E99 (by intro hm; have a8 := Option.mem_toList.1 hm; have := aT.block a8; omega)
 refine CV ζ ?_
 refine Zh (i := 15) ?_
 refine Zo (AM (v := v98) rfl η) ?_
 refine CV ζ ?_
 refine CH ζ ?_
 refine AO (AA (Zo AN (Zo JV (Zn Ah (Zg (j - 1) ?_)))))
 refine ⟨_, _, σ, rfl, hov98, a1, U, (hFI2.closeLast ω ω ω), (hNS2.closeLast ω ω _), (by rw [List.length_append, BT, CX]; have h1 := C6 (op.getD (j - 1) default).text; have h2 := G1 hopt (j - 1); simp only [List.length_cons, List.length_nil]; omega), (fun a6 g hg => hlv98.elim (fun h => hsep2 a6 g (h.symm.trans hg)) (fun h => by have h7 := hgo a6; have h8 := Option.some.inj (h.symm.trans hg); omega)), (fun a6 => by have h7 := hgo a6; omega), δ, hV⟩
 refine Hx η ?_
 refine Zo (AH rfl A0 η (bw.cell 2 η)) ?_
 refine Ap R ?_
 refine Zh (i := 6) ?_
 refine Zr [S _] rfl η func75 (Gw ω) ?_
 rintro e eY ⟨rfl, F100⟩
 refine ⟨_, rfl, ?_⟩
 have eD := F100.size
 replace hV := Z0 hV F100
 replace R := Z0 R F100
 replace aT := aT.evo0 F100
 replace a1 := a1.evo0 F100
 replace U := U.evo0 F100
 refine Ap R ?_
 refine Zt (i := 12) η (fun w' hC => Aj (pv := [(0, .int _ _), (1, S _), (2, .int _ _)]) (zs := [_, _, _]) (cells := [_, _, _]) rfl Ag η Gr η η) R ?_
 refine Zh (i := 13) ?_
 refine Av (pv := [(0, .agg _)]) (zs := [_, _, _]) (cs := [_, _, _]) underlying33 Ag η rfl η rfl η ?_
 intro b101 w102 J101 E102 B101 Y101
 have eE := E102.size
 replace hV := Z0 hV E102
 replace R := Z0 R E102
 replace aT := aT.evo0 E102
 replace a1 := a1.evo0 E102
 replace U := U.evo0 E102
 have c0 := Bl (α := Vc.Item) [⟨_, _, _⟩] B101 (by show [_, _, _] = [_, _, _]; first | (dsimp only; done) | exact rfl | (dsimp only; exact rfl)) rfl
 refine Ap R ?_
 refine Zh (i := 14) ?_
 refine BS rfl underlying33 Ag η aT η η c0 rfl (τ) (τ) ω ?_
 intro v103 w104 E104 hov103 hlv103
 have eF := E104.size
 replace hV := AI hV E104 (fun g hg => .inl (by first | exact (aT.block hg).1 | (have := aT.block hg; omega)))
 replace a1 := Cg a1 E104 (fun a6 hm => hsep2 a6 _ (Option.mem_toList.1 hm) rfl)
 replace U := U.evo E104 (by intro hm; have a8 := Option.mem_toList.1 hm; have := aT.block a8; omega)
 refine CV ζ ?_
 refine Zh (i := 15) ?_
 refine Zo (AM (v := v103) rfl η) ?_
 refine CV ζ ?_
 refine CH ζ ?_
 refine AO (AA (Zo AN (Zo JV (Zn Ah (Zg (j - 1) ?_)))))
 refine ⟨_, _, σ, rfl, hov103, a1, U, (hFI2.closeLast ω ω ω), (hNS2.closeLast ω ω _), (by rw [List.length_append, BT, CX]; have h1 := C6 (op.getD (j - 1) default).text; have h2 := G1 hopt (j - 1); simp only [List.length_cons, List.length_nil]; omega), (fun a6 g hg => hlv103.elim (fun h => hsep2 a6 g (h.symm.trans hg)) (fun h => by have h7 := hgo a6; have h8 := Option.some.inj (h.symm.trans hg); omega)), (fun a6 => by have h7 := hgo a6; omega), δ, hV⟩
 refine Hx η ?_
 refine Zo (AH rfl A0 η (bw.cell 2 η)) ?_
 refine Ap R ?_
 refine Zh (i := 5) ?_
 refine Zo (AH rfl BF η (db.cell 1 η)) ?_
 refine Ap R ?_
 refine Zh (i := 6) ?_
 refine Zr [S _] rfl η func75 (Gw ω) ?_
 rintro e eZ ⟨rfl, F105⟩
 refine ⟨_, rfl, ?_⟩
 have eG := F105.size
 replace hV := Z0 hV F105
 replace R := Z0 R F105
 replace aT := aT.evo0 F105
 replace a1 := a1.evo0 F105
 replace U := U.evo0 F105
 refine Ap R ?_
 refine Zt (i := 12) η (fun w' hC => Aj (pv := [(0, .int _ _), (1, S _), (2, .int _ _)]) (zs := [_, _, _]) (cells := [_, _, _]) rfl Ag η Gr η η) R ?_
 refine Zh (i := 13) ?_
 refine Av (pv := [(0, .agg _)]) (zs := [_, _, _]) (cs := [_, _, _]) underlying33 Ag η rfl η rfl η ?_
 intro b106 w107 J106 E107 B106 Y106
 have eH := E107.size
 replace hV := Z0 hV E107
 replace R := Z0 R E107
 replace aT := aT.evo0 E107
 replace a1 := a1.evo0 E107
 replace U := U.evo0 E107
 have c3 := Bl (α := Vc.Item) [⟨_, _, _⟩] B106 (by show [_, _, _] = [_, _, _]; first | (dsimp only; done) | exact rfl | (dsimp only; exact rfl)) rfl
 refine Ap R ?_
 refine Zh (i := 14) ?_
 refine BS rfl underlying33 Ag η aT η η c3 rfl (τ) (τ) ω ?_
 intro v108 w109 E109 hov108 hlv108
 have eI := E109.size
 replace hV := AI hV E109 (fun g hg => .inl (by first | exact (aT.block hg).1 | (have := aT.block hg; omega)))
 replace a1 := Cg a1 E109 (fun a6 hm => hsep2 a6 _ (Option.mem_toList.1 hm) rfl)
 replace U := U.evo E109 (by intro hm; have a8 := Option.mem_toList.1 hm; have := aT.block a8; omega)
 refine CV ζ ?_
 refine Zh (i := 15) ?_
 refine Zo (AM (v := v108) rfl η) ?_
 refine CV ζ ?_
 refine CH ζ ?_
 refine AO (AA (Zo AN (Zo JV (Zn Ah (Zg (j - 1) ?_)))))
 refine ⟨_, _, σ, rfl, hov108, a1, U, (hFI2.closeLast ω ω ω), (hNS2.closeLast ω ω _), (by rw [List.length_append, BT, CX]; have h1 := C6 (op.getD (j - 1) default).text; have h2 := G1 hopt (j - 1); simp only [List.length_cons, List.length_nil]; omega), (fun a6 g hg => hlv108.elim (fun h => hsep2 a6 g (h.symm.trans hg)) (fun h => by have h7 := hgo a6; have h8 := Option.some.inj (h.symm.trans hg); omega)), (fun a6 => by have h7 := hgo a6; omega), δ, hV⟩
 refine AW rfl (Zs (Zo (AP (v := bL) rfl η) (Zn (AM (v := bL) rfl η) (AK (BN (v := bL) rfl η) ?_))))
 exact ⟨_, _, N1, rfl, ⟨hFI2.val, by omega, by omega, hNS2.done dh⟩, by omega, hV, U, aT⟩
def Fv (x : Vc.Item) : Prop := x.kind = 6 ∨ x.kind = 7
instance (x : Vc.Item) : Decidable (Fv x) := by unfold Fv; infer_instance
def HH (x : Vc.Item) : Prop := x.kind = 8 ∨ x.kind = 2 ∨ x.kind = 3 ∨ x.kind = 4
instance (x : Vc.Item) : Decidable (HH x) := by unfold HH; infer_instance
def GW : List Vc.Item → Nat → Int
  | [], _ => -1
  | x :: r, k => if Fv x then (k : Int) else if HH x then GW r (k + 1) else -1
def Fs (l : List Vc.Item) (i : Nat) : Int := GW (l.drop (i + 1)) (i + 1)
theorem KA {l : List Vc.Item} {k : Nat} (h : k < l.length) : l.drop k = l.getD k default :: l.drop (k + 1) := by
  have e : l.getD k default = l[k] := by simp [List.getD, h]
  rw [e]; exact (List.drop_eq_getElem_cons h)
theorem Ff {l : List Vc.Item} {k : Nat} (h : k < l.length) (j : Fv (l.getD k default)) : GW (l.drop k) k = (k : Int) := by rw [KA h]; exact if_pos j
theorem Ep {l : List Vc.Item} {k : Nat} (h : k < l.length) (j : ¬ Fv (l.getD k default)) (o : HH (l.getD k default)) : GW (l.drop k) k = GW (l.drop (k + 1)) (k + 1) := by
  rw [KA h]
  conv => lhs; unfold GW
  rw [if_neg j, if_pos o]
theorem Eg {l : List Vc.Item} {k : Nat} (h : k < l.length) (j : ¬ Fv (l.getD k default)) (o : ¬ HH (l.getD k default)) : GW (l.drop k) k = -1 := by
  rw [KA h]; unfold GW; rw [if_neg j, if_neg o]
theorem Fk {l : List Vc.Item} {k : Nat} (h : l.length ≤ k) : GW (l.drop k) k = -1 := by rw [List.drop_of_length_le h]; rfl
theorem Sy (l : List Vc.Item) : ∀ (n k : Nat), l.length - k = n → k ≤ l.length → GW (l.drop k) k = -1 ∨ ((k : Int) ≤ GW (l.drop k) k ∧ GW (l.drop k) k < (l.length : Int) ∧ Fv (l.getD (GW (l.drop k) k).toNat default))
  | 0, k, h, _ => .inl (Fk ω)
  | n + 1, k, h, _ => by
    have hk : k < l.length := by omega
    by_cases j : Fv (l.getD k default)
    · rw [Ff hk j]; exact .inr ⟨by omega, by omega, by simpa using j⟩
    · by_cases o : HH (l.getD k default)
      · rw [Ep hk j o]
        rcases Sy l n (k + 1) ω ω with h4 | ⟨h4, h5, h6⟩
        · exact .inl h4
        · exact .inr ⟨by omega, h5, h6⟩
      · exact .inl (Eg hk j o)
theorem N0 {l : List Vc.Item} {i : Nat} (h : i < l.length) : Fs l i = -1 ∨ ((i : Int) + 1 ≤ Fs l i ∧ Fs l i < (l.length : Int) ∧ Fv (l.getD (Fs l i).toNat default)) := by
  rcases Sy l _ (i + 1) rfl ω with h1 | ⟨h1, h2, h3⟩
  · exact .inl h1
  · exact .inr ⟨by have : ((i + 1 : Nat) : Int) ≤ Fs l i := h1; omega, h2, h3⟩
def FR (l : List Vc.Item) : Int → Int → List (List AQ) → Int
  | _, e, [] => e
  | i, _, s :: r => if i < 0 then -1 else if Cc (l.getD i.toNat default).text ∈ s then FR l (Fs l i.toNat) (i + 1) r else -1
theorem JA {l : List Vc.Item} {i e : Int} {s : List AQ} {r : List (List AQ)} (h : i < 0) : FR l i e (s :: r) = -1 := if_pos h
theorem LH {l : List Vc.Item} {i e : Int} {s : List AQ} {r : List (List AQ)} (h : ¬ i < 0) (j : ¬ Cc (l.getD i.toNat default).text ∈ s) : FR l i e (s :: r) = -1 := by unfold FR; rw [if_neg h, if_neg j]
theorem SU {l : List Vc.Item} {i e : Int} {s : List AQ} {r : List (List AQ)} (h : ¬ i < 0) (j : Cc (l.getD i.toNat default).text ∈ s) : FR l i e (s :: r) = FR l (Fs l i.toNat) (i + 1) r := by
  conv => lhs; unfold FR
  rw [if_neg h, if_pos j]
theorem J0 {ss : List (List AQ)} {k : Nat} (h : k < ss.length) : ss.drop k = ss.getD k default :: ss.drop (k + 1) := by
  have e : ss.getD k default = ss[k] := by simp [List.getD, h]
  rw [e]; exact (List.drop_eq_getElem_cons h)
end Go.Proofs.YtlfjocbnbceceaaGreatDoor
namespace Go.Vc
open Go Go.RowKit Go.IntWalk Go.Deep
structure TermL where
  words : List Ende
  req : List AQ
  forb : List AQ
deriving Inhabited
instance : Rep TermL where
  n := 3
  rep w cs x := (∃ ao b off cap ao1 b1 off1 cap1 ao2 b2 off2 cap2, cs = [.slice ao x.words.length cap, .slice ao1 x.req.length cap1, .slice ao2 x.forb.length cap2] ∧ RowE w ao b off cap x.words ∧ RowE w ao1 b1 off1 cap1 x.req ∧ RowE w ao2 b2 off2 cap2 x.forb) ∧ (x.words.length ≤ 4398046510976 ∧ ∀ y ∈ x.words, QK y)
  len := fun ⟨⟨_, _, _, _, _, _, _, _, _, _, _, _, h, _⟩, _⟩ => by rw [h]; rfl
  evo0 := fun ⟨⟨ao, b, off, cap, ao1, b1, off1, cap1, ao2, b2, off2, cap2, h, h1, h2, h3⟩, hb⟩ he => ⟨⟨ao, b, off, cap, ao1, b1, off1, cap1, ao2, b2, off2, cap2, h, h1.evo0 he, h2.evo0 he, h3.evo0 he⟩, hb⟩
  pos := by decide
theorem QE {w : World} {ao : Option Addr} {b off cap : Nat} {l : List TermL} (h : RowR w ao b off cap l) (k : Nat) (hk : k < l.length) :
    ∃ R bW az C J bQ ag o I bF U j, At w b (off + k * 3) [.slice R (l.getD k default).words.length C, .slice J (l.getD k default).req.length o, .slice I (l.getD k default).forb.length j] ∧ RowE w R bW az C (l.getD k default).words ∧ RowE w J bQ ag o (l.getD k default).req ∧ RowE w I bF U j (l.getD k default).forb := by
  obtain ⟨cs, h1, ⟨ao, b, off, cap, a_, b1, a7, a1, ba, b2, a8, a6, h2, h3, h4, h5⟩, _⟩ := h.atD k hk
  exact ⟨_, _, _, _, _, _, _, _, _, _, _, _, h2 ▸ h1, h3, h4, h5⟩
theorem EP {w : World} {E : List Nat} {ao : Option Addr} {b off cap : Nat} {l : List TermL} (h : RowRK w E ao b off cap l) (k : Nat) (hk : k < l.length) :
    ∃ U bW a8 C R bQ a7 o J bF a6 j, ∀ w', Evo w w' E → At w' b (off + k * 3) [.slice U (l.getD k default).words.length C, .slice R (l.getD k default).req.length o, .slice J (l.getD k default).forb.length j] ∧ RowE w' U bW a8 C (l.getD k default).words ∧ RowE w' R bQ a7 o (l.getD k default).req ∧ RowE w' J bF a6 j (l.getD k default).forb := by
  obtain ⟨cs, h1⟩ := h.atD k hk
  obtain ⟨ao, b, off, cap, ba, b1, aT, ag, bb, b2, a1, az, h2, h3, h4, h5⟩ := (h1 w (Evo.refl _ _)).2.1
  refine ⟨ao, b, off, cap, ba, b1, aT, ag, bb, b2, a1, az, fun w' he => ⟨h2 ▸ (h1 w' he).1, ?_⟩⟩
  obtain ⟨bx, b', bw, bs, bp, bL, bm, bc, bq, bY, bn, bd, I, bf, bg, bl⟩ := (h1 w' he).2.1
  rw [h2] at I
  simp only [List.cons.injEq, Value.slice.injEq, and_true, true_and] at I
  obtain ⟨⟨rfl, rfl⟩, ⟨rfl, rfl⟩, rfl, rfl⟩ := I
  exact ⟨Hi bf h3, Hi bg h4, Hi bl h5⟩
theorem Uo {w : World} {I : Option Addr} {b off cap : Nat} {l : List TermL} (h : RowR w I b off cap l) : ∀ x ∈ l, x.words.length ≤ 4398046510976 ∧ ∀ y ∈ x.words, QK y := fun x U => by
  obtain ⟨j, _, J, R⟩ := h
  obtain ⟨i, C⟩ := List.getElem?_of_mem U
  have o : i < l.length := (List.getElem?_eq_some_iff.1 C).1
  exact (R i (j[i]'ω) x (by simp [J, o]) C).2
structure SetS where
  ks : List AQ
deriving Inhabited
def eU : Unit → Value := fun _ => Value.agg #[]
def SetIs (w : World) (b : Nat) (ks : List AQ) : Prop := ∃ m : List (AQ × Unit), MapIs w b S eU m ∧ ∀ s, (Bz m s).isSome = true ↔ s ∈ ks
theorem SetIs.evo {w w' : World} {b : Nat} {j : List AQ} {E : List Nat} (h : SetIs w b j) (he : Evo w w' E) (C : b ∉ E) : SetIs w' b j := by
  obtain ⟨m, h1, o⟩ := h; exact ⟨m, h1.evo he C, o⟩
theorem SetIs.evo0 {w w' : World} {b : Nat} {j : List AQ} (h : SetIs w b j) (he : Evo w w' []) : SetIs w' b j := h.evo he (by simp)
theorem SetIs.lt {w : World} {b : Nat} {j : List AQ} (h : SetIs w b j) : b < w.heap.size := by obtain ⟨m, h1, _⟩ := h; exact h1.lt
theorem SetIs.bd {w : World} {b : Nat} {j : List AQ} (_ : SetIs w b j) : True := trivial
instance : Rep SetS where
  n := 1
  rep w cs x := ∃ b, cs = [.map (some b)] ∧ SetIs w b x.ks
  len := fun ⟨_, h, _⟩ => by rw [h]; rfl
  evo0 := fun ⟨b, h, hm⟩ he => ⟨b, h, hm.evo0 he⟩
  pos := by decide
theorem Zv {w : World} {E : List Nat} {I : Option Addr} {b off cap : Nat} {l : List SetS} (h : RowRK w E I b off cap l) (k : Nat) (hk : k < l.length) :
    ∃ j, ∀ w', Evo w w' E → At w' b (off + k * 1) [.map (some j)] ∧ SetIs w' j (l.getD k default).ks := by
  obtain ⟨cs, h1⟩ := h.atD k hk
  obtain ⟨j, C, _⟩ := (h1 w (Evo.refl _ _)).2
  refine ⟨j, fun w' he => ⟨C ▸ (h1 w' he).1, ?_⟩⟩
  obtain ⟨R, o, J⟩ := (h1 w' he).2
  rw [C] at o
  simp only [List.cons.injEq, Value.map.injEq, Option.some.injEq, and_true] at o
  rw [o]; exact J
end Go.Vc
namespace Go.Proofs.YtlfjocbnbceceaaGreatDoor
open Go.RowKit Go.Vc Go.Proofs.Tryz
theorem Mc : DH Tryz.prog 96 = some true := ζ
theorem Fb : CG Tryz.prog 96 0 = some 0 := ζ
theorem JT {x : Vc.Item} {o : World}  :
    Calls Tryz.prog 191 #[.agg (Enc.enc x).toArray] o fun e w' => e = .returned (.bool (decide (Fv x))) ∧ Evo o w' [] := by
 refine AG (n := 11) func191 rfl ntmps191 rfl ?_
 have C : Evo o o [] := Evo.refl _ _
 refine Zs (Ch (vs := [_, _, _]) η η rfl ?_)
 intro b1 w2 J1 E2 B1 Y1
 have I := E2.size
 replace C := Z0 C E2
 refine Zn A6 (Zs (Zo (AJ rfl η Fb) (Zo (AH rfl A0 η (B1.at.cell 0 η)) (Zo C3 (Zo Br ?_)))))
 refine Ab rfl Ay rfl (fun j => AJ rfl η Fb) ?_
 refine Ab rfl Ay rfl (fun j => AH rfl A0 (Af j) (B1.at.cell 0 η)) ?_
 refine Ab rfl Ay rfl (fun j => A1 rfl (Af j) η) ?_
 refine Zo Ee (Zn A6 (AK Dk ?_))
 exact ⟨Ao (decide_eq_decide.2 (by unfold Fv; omega)), C⟩
theorem JW {x : Vc.Item} {o : World}  :
    Calls Tryz.prog 197 #[.agg (Enc.enc x).toArray] o fun e w' => e = .returned (.bool (decide (Fv x))) ∧ Evo o w' [] := by
 refine AG (n := 11) func197 rfl ntmps197 rfl ?_
 have C : Evo o o [] := Evo.refl _ _
 refine Zs (Ch (vs := [_, _, _]) η η rfl ?_)
 intro b1 w2 J1 E2 B1 Y1
 have I := E2.size
 replace C := Z0 C E2
 refine Zn A6 (Zs (Zo (AJ rfl η Fb) (Zo (AH rfl A0 η (B1.at.cell 0 η)) (Zo C3 (Zo Br ?_)))))
 refine Ab rfl Ay rfl (fun j => AJ rfl η Fb) ?_
 refine Ab rfl Ay rfl (fun j => AH rfl A0 (Af j) (B1.at.cell 0 η)) ?_
 refine Ab rfl Ay rfl (fun j => A1 rfl (Af j) η) ?_
 refine Zo Ee (Zn A6 (AK Dk ?_))
 exact ⟨Ao (decide_eq_decide.2 (by unfold Fv; omega)), C⟩
theorem Ql {ao : Option Addr} {b off cap : Nat} {l : List Vc.Item} {i : Int} {C : World} (hl : RowE C ao b off cap l) (h0 : 0 ≤ i) (h1 : i < l.length) :
    Calls Tryz.prog 212 #[.slice ao l.length cap, .int .i64 i] C fun e w' => e = .returned (.int .i64 (Fs l i.toNat)) ∧ Evo C w' [] := by
 refine AG (n := 28) func212 rfl ntmps212 rfl ?_
 have j : Evo C C [] := Evo.refl _ _
 have az := Ak hl
 have a1 := hl.bd
 refine Zs (Zn Ah (AB (Zs (Zo AN (Zo A8 (Zn Ah (AD (AZ (α := Nat) [4, 5, 8, 9, 10, 11, 12, 13, 14, 15, 16, 17, 18, 19, 20, 21, 22, 23, 24, 25, 26, 27] (fun k g w => g 5 = .int .i64 (k : Nat) ∧ k ≤ l.length ∧ GW (l.drop k) k = Fs l i.toNat ∧ C.heap.size ≤ w.heap.size ∧ Evo C w []) (fun k => l.length - k) (i.toNat + 1) ?_ ?_))))))))
 refine ⟨(congrArg (Value.int _) ω), δ, rfl, δ, j⟩
 rintro k g w2 ⟨a8, hk, hnx, hzl1, j⟩
 have aT := j.size
 refine Zk 5 a8 (AB (Zs (Zo AN (Zo Ar (Zo (AL rfl η underlying94) (Zn Bu (AE η (fun a6 => ?_) (fun a6 => ?_))))))))
 refine AF (AB (AD (Zs (Zo Ar (Zo AN (Zo (AV (k) rfl underlying94 BX η η χ ω ((az _ j).addr (i := k) ω)) ?_))))))
 have I := fun (w' : World) (h : Evo C w' []) => (az w' h).atD (k) ω
 refine Zo (AJ rfl η Fb) (Zn (AH rfl A0 η ((I _ j).cell 0 η)) (AD (AB (Zs (Zo C3 (Zn A6 (AE η (fun R => ?_) (fun R => ?_))))))))
 refine AF (EB η R (Zs (Zo AN (Zn Ah (AK CZ ?_)))))
 first | exact ⟨AU (by rw [← hnx, Ff (l := l) (k := k) ω (by first | assumption | (unfold Fv; omega))]), j⟩ | exact ⟨AU (by rw [← hnx, Eg (l := l) (k := k) ω (by first | assumption | (unfold Fv; omega)) (by unfold HH; omega)]), j⟩ | exact ⟨AU (by rw [← hnx, Fk (l := l) (k := k) ω]), j⟩
 refine AA (Zo C3 (Zn A6 (AE η (fun a7 => ?_) (fun a7 => ?_))))
 refine Zs (Zo AN (Zn Ah (AK CZ ?_)))
 first | exact ⟨AU (by rw [← hnx, Ff (l := l) (k := k) ω (by first | assumption | (unfold Fv; omega))]), j⟩ | exact ⟨AU (by rw [← hnx, Eg (l := l) (k := k) ω (by first | assumption | (unfold Fv; omega)) (by unfold HH; omega)]), j⟩ | exact ⟨AU (by rw [← hnx, Fk (l := l) (k := k) ω]), j⟩
 refine AB (Zs (Zo C3 (Zn A6 (AE η (fun U => ?_) (fun U => ?_)))))
 refine AF (EB η U (AF (AO (AO (AA (Zo AN (Zo A8 (Zn Ah (Zg (k + 1) ?_)))))))))
 refine ⟨(congrArg (Value.int _) ω), δ, (by rw [← hnx, Ep (l := l) (k := k) ω (by first | assumption | (unfold Fv; omega)) (by unfold HH; omega)]), δ, j⟩
 refine Zs (Zo C3 (Zn A6 (AE η (fun ag => ?_) (fun ag => ?_))))
 refine AF (EB η ag (AF (AO (AO (AA (Zo AN (Zo A8 (Zn Ah (Zg (k + 1) ?_)))))))))
 refine ⟨(congrArg (Value.int _) ω), δ, (by rw [← hnx, Ep (l := l) (k := k) ω (by first | assumption | (unfold Fv; omega)) (by unfold HH; omega)]), δ, j⟩
 refine Zs (Zo C3 (Zn A6 (AE η (fun o => ?_) (fun o => ?_))))
 refine AF (EB η o (AF (AO (AO (AA (Zo AN (Zo A8 (Zn Ah (Zg (k + 1) ?_)))))))))
 refine ⟨(congrArg (Value.int _) ω), δ, (by rw [← hnx, Ep (l := l) (k := k) ω (by first | assumption | (unfold Fv; omega)) (by unfold HH; omega)]), δ, j⟩
 refine AA (Zo C3 (Zn A6 (AE η (fun J => ?_) (fun J => ?_))))
 refine AF (AO (AO (AA (Zo AN (Zo A8 (Zn Ah (Zg (k + 1) ?_)))))))
 refine ⟨(congrArg (Value.int _) ω), δ, (by rw [← hnx, Ep (l := l) (k := k) ω (by first | assumption | (unfold Fv; omega)) (by unfold HH; omega)]), δ, j⟩
 refine Zs (Zn Ah (AK CZ ?_))
 first | exact ⟨AU (by rw [← hnx, Ff (l := l) (k := k) ω (by first | assumption | (unfold Fv; omega))]), j⟩ | exact ⟨AU (by rw [← hnx, Eg (l := l) (k := k) ω (by first | assumption | (unfold Fv; omega)) (by unfold HH; omega)]), j⟩ | exact ⟨AU (by rw [← hnx, Fk (l := l) (k := k) ω]), j⟩
 refine AW rfl (Zs (Zn Ah (AK CZ ?_)))
 first | exact ⟨AU (by rw [← hnx, Ff (l := l) (k := k) ω (by first | assumption | (unfold Fv; omega))]), j⟩ | exact ⟨AU (by rw [← hnx, Eg (l := l) (k := k) ω (by first | assumption | (unfold Fv; omega)) (by unfold HH; omega)]), j⟩ | exact ⟨AU (by rw [← hnx, Fk (l := l) (k := k) ω]), j⟩
theorem RS {ao : Option Addr} {b off cap : Nat} {l : List Vc.Item} {i : Int} {C : World} (hl : RowE C ao b off cap l) (h0 : 0 ≤ i) (h1 : i < l.length) :
    Calls Tryz.prog 199 #[.slice ao l.length cap, .int .i64 i] C fun e w' => e = .returned (.int .i64 (Fs l i.toNat)) ∧ Evo C w' [] := by
 refine AG (n := 30) func199 rfl ntmps199 rfl ?_
 have j : Evo C C [] := Evo.refl _ _
 have o := Ak hl
 have a1 := hl.bd
 refine Zs (Zn Ah (AB (Zs (Zo AN (Zo A8 (Zn Ah (AD (AZ (α := Nat) [4, 5, 8, 9, 10, 11, 12, 13, 14, 15, 16, 17, 18, 19, 20, 21, 22, 23, 24, 25, 26, 27, 28, 29] (fun k g w => g 5 = .int .i64 (k : Nat) ∧ k ≤ l.length ∧ GW (l.drop k) k = Fs l i.toNat ∧ C.heap.size ≤ w.heap.size ∧ Evo C w []) (fun k => l.length - k) (i.toNat + 1) ?_ ?_))))))))
 refine ⟨(congrArg (Value.int _) ω), δ, rfl, δ, j⟩
 rintro k g w2 ⟨a8, hk, hnx, hzl1, j⟩
 have aT := j.size
 refine Zk 5 a8 (AB (Zs (Zo AN (Zo Ar (Zo (AL rfl η underlying94) (Zn Bu (AE η (fun a6 => ?_) (fun a6 => ?_))))))))
 refine AF (AB (AD (AB (Zs (Zo Ar (Zo AN (Zo (AV (k) rfl underlying94 BX η η χ ω ((o _ j).addr (i := k) ω)) ?_)))))))
 have R := fun (w' : World) (h : Evo C w' []) => (o w' h).atD (k) ω
 refine Zo (AY rfl Mc BX η rfl (R _ j)) (Zr [.agg _] rfl η func197 (JW (x := (l.getD k default))) ?_)
 rintro e w6 ⟨rfl, F6⟩
 refine ⟨_, rfl, ?_⟩
 have Q6 := F6.size
 replace j := Z0 j F6
 refine As (AE η (fun a7 => ?_) (fun a7 => ?_))
 refine Zs (Zo AN (Zn Ah (AK CZ ?_)))
 first | exact ⟨AU (by rw [← hnx, Ff (l := l) (k := k) ω (by first | assumption | (unfold Fv; omega))]), j⟩ | exact ⟨AU (by rw [← hnx, Eg (l := l) (k := k) ω (by first | assumption | (unfold Fv; omega)) (by unfold HH; omega)]), j⟩ | exact ⟨AU (by rw [← hnx, Fk (l := l) (k := k) ω]), j⟩
 refine AF (Zs (Zo Ar (Zo AN (Zo (AV (k) rfl underlying94 BX η η χ ω ((o _ j).addr (i := k) ω)) ?_))))
 have U := fun (w' : World) (h : Evo C w' []) => (o w' h).atD (k) ω
 refine Zo (AJ rfl η Fb) (Zn (AH rfl A0 η ((U _ j).cell 0 η)) (AD (AB (Zs (Zo C3 (Zn A6 (AE η (fun az => ?_) (fun az => ?_))))))))
 refine AF (EB η az (AF (AO (AO (AA (Zo AN (Zo A8 (Zn Ah (Zg (k + 1) ?_)))))))))
 refine ⟨(congrArg (Value.int _) ω), δ, (by rw [← hnx, Ep (l := l) (k := k) ω (by first | assumption | (unfold Fv; omega)) (by unfold HH; omega)]), δ, j⟩
 refine Zs (Zo C3 (Zn A6 (AE η (fun I => ?_) (fun I => ?_))))
 refine AF (EB η I (AF (AO (AO (AA (Zo AN (Zo A8 (Zn Ah (Zg (k + 1) ?_)))))))))
 refine ⟨(congrArg (Value.int _) ω), δ, (by rw [← hnx, Ep (l := l) (k := k) ω (by first | assumption | (unfold Fv; omega)) (by unfold HH; omega)]), δ, j⟩
 refine Zs (Zo C3 (Zn A6 (AE η (fun J => ?_) (fun J => ?_))))
 refine AF (EB η J (AF (AO (AO (AA (Zo AN (Zo A8 (Zn Ah (Zg (k + 1) ?_)))))))))
 refine ⟨(congrArg (Value.int _) ω), δ, (by rw [← hnx, Ep (l := l) (k := k) ω (by first | assumption | (unfold Fv; omega)) (by unfold HH; omega)]), δ, j⟩
 refine AA (Zo C3 (Zn A6 (AE η (fun ag => ?_) (fun ag => ?_))))
 refine AF (AO (AO (AA (Zo AN (Zo A8 (Zn Ah (Zg (k + 1) ?_)))))))
 refine ⟨(congrArg (Value.int _) ω), δ, (by rw [← hnx, Ep (l := l) (k := k) ω (by first | assumption | (unfold Fv; omega)) (by unfold HH; omega)]), δ, j⟩
 refine Zs (Zn Ah (AK CZ ?_))
 first | exact ⟨AU (by rw [← hnx, Ff (l := l) (k := k) ω (by first | assumption | (unfold Fv; omega))]), j⟩ | exact ⟨AU (by rw [← hnx, Eg (l := l) (k := k) ω (by first | assumption | (unfold Fv; omega)) (by unfold HH; omega)]), j⟩ | exact ⟨AU (by rw [← hnx, Fk (l := l) (k := k) ω]), j⟩
 refine AW rfl (Zs (Zn Ah (AK CZ ?_)))
 first | exact ⟨AU (by rw [← hnx, Ff (l := l) (k := k) ω (by first | assumption | (unfold Fv; omega))]), j⟩ | exact ⟨AU (by rw [← hnx, Eg (l := l) (k := k) ω (by first | assumption | (unfold Fv; omega)) (by unfold HH; omega)]), j⟩ | exact ⟨AU (by rw [← hnx, Fk (l := l) (k := k) ω]), j⟩
theorem bk : DH Tryz.prog 171 = some false := ζ
theorem EU : DH Tryz.prog 77 = some false := ζ
theorem M1 : CG Tryz.prog 96 1 = some 1 := ζ
theorem QC : Dl Tryz.prog 171 = some (1, 8, some (.map none)) := ζ
theorem ML : Dl Tryz.prog 77 = some (1, 24, some (.slice none 0 0)) := ζ
theorem X9 {l : List AQ} {x : AQ} (h : ∀ j, j < l.length → ¬ l.getD j default = x) : ¬ x ∈ l := fun q => by
  obtain ⟨j, o, e⟩ := List.getElem_of_mem q
  exact h j o (by simp [List.getD, o, e])
theorem Ml {m : List (AQ × Unit)} {x : AQ} : (Bz m x).isSome = true ↔ x ∈ m.map (·.1) := by
  unfold Bz
  rw [Option.isSome_map, List.find?_isSome]
  simp only [decide_eq_true_eq, List.mem_map]
theorem KeyIs.some {m : List (AQ × Unit)} {l : List AQ} (h : KeyIs m l) (s : AQ) : (Bz m s).isSome = true ↔ s ∈ l := by
  rw [Ml]; exact h.2 s
def Z5 (ss : List SetS) : List (List AQ) := ss.map (·.ks)
theorem Gb {ss : List SetS} {k : Nat} (h : k < ss.length) : Z5 (ss.drop k) = (ss.getD k default).ks :: Z5 (ss.drop (k + 1)) := by
  have e : ss.getD k default = ss[k] := by simp [List.getD, h]
  rw [e, List.drop_eq_getElem_cons h]; rfl
def cB (l : List Vc.Item) (i : Int) : Prop := i = -1 ∨ (0 ≤ i ∧ i < (l.length : Int))
theorem Pp {l : List Vc.Item} {i : Int} (h : 0 ≤ i) (j : i < (l.length : Int)) : cB l (Fs l i.toNat) := by
  rcases N0 (l := l) (i := i.toNat) ω with h3 | ⟨h3, h4, _⟩
  · exact .inl h3
  · exact .inr ⟨by omega, h4⟩
theorem PE {ao : Option Addr} {b off cap : Nat} {l : List AQ} {x : AQ} {C : World} (hl : RowE C ao b off cap l) :
    Calls Tryz.prog 198 #[.slice ao l.length cap, S x] C fun e w' => e = .returned (.bool (decide (x ∈ l))) ∧ Evo C w' [] := by
 refine AG (n := 17) func198 rfl ntmps198 rfl ?_
 have o : Evo C C [] := Evo.refl _ _
 have R := Ak hl
 have ag := hl.bd
 refine Zs (Zn A6 (AB (Zs (Zo Ar (Zo (AL rfl η underlying77) (Zn AN (AD (AZ (α := Nat) [4, 6, 9, 10, 11, 12, 13, 14, 15, 16] (fun k g w => g 9 = .int .i64 (k : Nat) ∧ k ≤ l.length ∧ (∀ j, j < k → ¬ l.getD j default = x) ∧ C.heap.size ≤ w.heap.size ∧ Evo C w []) (fun k => l.length - k) 0 ?_ ?_))))))))
 refine ⟨σ, δ, (fun j h => by omega), δ, o⟩
 rintro k g w2 ⟨aT, hk_k, hno, hzl1, o⟩
 have U := o.size
 refine Zk 9 aT (Zs (Zn Bu (AB (AE η (fun az => ?_) (fun az => ?_)))))
 refine AF (AB (AD (Zs (Zo (AV (k) rfl underlying77 BW η η χ ω ((R _ o).addr (i := k) ω)) ?_))))
 have J := fun (w' : World) (h : Evo C w' []) => (R w' h).atD (k) ω
 refine Zo (AH rfl BF η ((J _ o).cell 0 η)) (Zn CD (Zs (Zo Au (Zo Au (Zn (Cn rfl η η) (AE η (fun I => ?_) (fun I => ?_)))))))
 refine Zs (Zn A6 (AK Dk ?_))
 exact ⟨Ao (decide_eq_true (by rw [← I]; exact A5 ω)).symm, o⟩
 refine AF (AO (AA (Zo A8 (Zn AN (Zg (k + 1) ?_)))))
 refine ⟨σ, δ, (CS hno I), δ, o⟩
 refine AW rfl (Zs (Zn A6 (AK Dk ?_)))
 exact ⟨Ao (decide_eq_false (X9 (fun j hj => hno j ω))).symm, o⟩
theorem Kq {ao : Option Addr} {b off cap : Nat} {l : List Vc.Item} {i : Int} {az : Option Addr} {bs a_ R : Nat} {ss : List SetS} {I : World} (hl : RowE I ao b off cap l) (hs : RowR I az bs a_ R ss) (hq : ∀ x ∈ l, x.text.length ≤ 140737488355328) (h0 : 0 ≤ i) (h1 : i < l.length) :
    Calls Tryz.prog 192 #[.slice ao l.length cap, .int .i64 i, .slice az ss.length R] I fun e w' => e = .returned (.int .i64 (FR l i (-1) (Z5 ss))) ∧ Evo I w' [] := by
 refine AG (n := 40) func192 rfl ntmps192 rfl ?_
 have j : Evo I I [] := Evo.refl _ _
 have U := Ak hl
 have ba := hl.bd
 have a7 := hs.keep
 have bb := hs.bd
 refine Zs (Zn Ah (Zs (Zn Ah (AB (Zs (Zo Ar (Zo (AL rfl η underlying200) (Zn AN (AD ?_)))))))))
 refine AZ (α := Nat) [1, 6, 7, 9, 10, 11, 14, 15, 16, 17, 18, 19, 20, 21, 22, 23, 24, 25, 26, 27, 28, 29, 30, 31, 32, 33, 34, 35, 36, 37, 38] (fun k g w => ∃ at1 : Int, ∃ en : Int, g 14 = .int .i64 (k : Nat) ∧ g 1 = .int .i64 at1 ∧ g 7 = .int .i64 en ∧ k ≤ ss.length ∧ cB l at1 ∧ FR l at1 en (Z5 (ss.drop k)) = FR l i (-1) (Z5 ss) ∧ I.heap.size ≤ w.heap.size ∧ Evo I w []) (fun k => ss.length - k) 0 ?_ ?_
 refine ⟨i, (-1), σ, rfl, rfl, δ, (.inr ⟨h0, h1⟩), rfl, δ, j⟩
 rintro k g w2 ⟨at1, en, hj3, hj4, hj5, hk_k, hat, hch, hzl1, j⟩
 have a8 := j.size
 refine Zk 14 hj3 (Zk 1 hj4 (Zk 7 hj5 (Zs (Zn Bu (AB (AE η (fun bl => ?_) (fun bl => ?_)))))))
 refine AF (AB (AD (Zs (Zo (AV (k) rfl underlying200 QC η η χ ω ((a7.now j).addr (i := k) ω)) ?_))))
 obtain ⟨bx, hX⟩ := Zv a7 (k) ω
 have aT := fun (w' : World) (h : Evo I w' []) => (hX w' h).1
 have a6 := fun (w' : World) (h : Evo I w' []) => (hX w' h).2
 clear hX
 refine Zo (AH rfl bk η ((aT _ j).cell 0 η)) (Zn Wk (AB (Zs (Zo AN (Zn Bu (AE η (fun bm => ?_) (fun bm => ?_)))))))
 refine Zs (Zn Ah (AK CZ ?_))
 first | exact ⟨AU (by rw [← hch, Gb (ss := ss) (k := k) ω, JA ω]), j⟩ | exact ⟨AU (by rw [← hch, Gb (ss := ss) (k := k) ω, LH ω (fun q => by have h9 := (J _).2 q; simp_all)]), j⟩ | exact ⟨AU (by rw [← hch, List.drop_of_length_le ω]; rfl), j⟩
 refine AF (AB (AB ?_))
 have bL : 0 ≤ at1 ∧ at1 < l.length := by rcases hat with h9 | h9 <;> omega
 have bQ := hq _ (A5 (show at1.toNat < l.length by omega))
 refine AA (Zo O6 (Zo Ar (Zo AN (Zo (AV (at1.toNat) rfl underlying94 BX η η ω ω ((U _ j).addr (i := at1.toNat) ω)) ?_))))
 have a1 := fun (w' : World) (h : Evo I w' []) => (U w' h).atD (at1.toNat) ω
 refine Zo (AJ rfl η M1) (Zo (AH rfl BF η ((a1 _ j).cell 1 η)) (Zr [S _] rfl η func183 (G6 τ) ?_))
 rintro e bW ⟨rfl, F10⟩
 refine ⟨_, rfl, ?_⟩
 have bq := F10.size
 replace j := Z0 j F10
 obtain ⟨mS, C, J⟩ := (a6 _ j)
 refine Zo (R1 (a := (Cc (l.getD at1.toNat default).text)) (z := ()) (v := .agg _) (FZ underlying9) rfl underlying171 Jt η η C rfl) (Zo S4 (Zo (AX (v := .agg _) rfl η η) (Zo (AX (v := .bool _) rfl η η) (CO (zs := []) (vs := []) Jt η rfl η (fun _ => rfl) η rfl rfl η ?_))))
 intro b11 w12 J11 E12 B11 Y11
 have bt := E12.size
 replace j := Z0 j E12
 replace hl := U _ j
 replace C := C.evo0 E12
 refine Zn A6 (Zs (Zo (Bt rfl η) (Zn (CQ rfl η) (AE η (fun o => ?_) (fun o => ?_)))))
 refine Zs (Zn Ah (AK CZ ?_))
 first | exact ⟨AU (by rw [← hch, Gb (ss := ss) (k := k) ω, JA ω]), j⟩ | exact ⟨AU (by rw [← hch, Gb (ss := ss) (k := k) ω, LH ω (fun q => by have h9 := (J _).2 q; simp_all)]), j⟩ | exact ⟨AU (by rw [← hch, List.drop_of_length_le ω]; rfl), j⟩
 refine AF (Zs (Zo AN (Zo A8 (Zn Ah (AA (Zo Ar (Zo AN (Zr [.slice _ _ _, .int _ _] rfl η func212 (Ql hl (i := at1) ω ω) ?_))))))))
 rintro e bY ⟨rfl, F14⟩
 refine ⟨_, rfl, ?_⟩
 have bw := F14.size
 replace j := Z0 j F14
 replace C := C.evo0 F14
 refine Zn Ah (AO (AA (Zo A8 (Zn AN (Zg (k + 1) ?_)))))
 refine ⟨_, _, σ, rfl, rfl, δ, (Pp ω (by rcases hat with h9 | h9 <;> omega)), (by rw [← hch, Gb (ss := ss) (k := k) ω, SU ω ((J _).1 (by first | exact o | exact Classical.not_not.1 o | simpa [Option.isSome_iff_ne_none] using o))]), δ, j⟩
 refine AW rfl (Zs (Zo AN (Zn Ah (AK CZ ?_))))
 first | exact ⟨AU (by rw [← hch, Gb (ss := ss) (k := k) ω, JA ω]), j⟩ | exact ⟨AU (by rw [← hch, Gb (ss := ss) (k := k) ω, LH ω (fun q => by have h9 := (J _).2 q; simp_all)]), j⟩ | exact ⟨AU (by rw [← hch, List.drop_of_length_le ω]; rfl), j⟩
theorem Tl {l : List Vc.Item} {B : Nat} (h : ∀ x ∈ l, x.text.length ≤ B) (k : Nat) : (l.getD k default).text.length ≤ B := by
  rcases Nat.lt_or_ge k l.length with h1 | h1
  · exact h _ (A5 h1)
  · have e : l.getD k default = default := by simp [List.getD, List.getElem?_eq_none h1]
    rw [e]; exact Nat.zero_le _
def EL (l : List Vc.Item) : Int → Int → List (List AQ) → Int
  | _, e, [] => e
  | i, _, s :: r => if (i < 0 ∨ ¬ Fv (l.getD i.toNat default)) ∨ ¬ Cc (l.getD i.toNat default).text ∈ s then -1 else EL l (Fs l i.toNat) (i + 1) r
theorem FN {l : List Vc.Item} {i e : Int} {s : List AQ} {r : List (List AQ)} (h : (i < 0 ∨ ¬ Fv (l.getD i.toNat default)) ∨ ¬ Cc (l.getD i.toNat default).text ∈ s) : EL l i e (s :: r) = -1 := if_pos h
theorem LV {l : List Vc.Item} {i e : Int} {s : List AQ} {r : List (List AQ)} (h : ¬ ((i < 0 ∨ ¬ Fv (l.getD i.toNat default)) ∨ ¬ Cc (l.getD i.toNat default).text ∈ s)) : EL l i e (s :: r) = EL l (Fs l i.toNat) (i + 1) r := by
  conv => lhs; unfold EL
  rw [if_neg h]
theorem KZ {ao : Option Addr} {b off cap : Nat} {l : List Vc.Item} {i : Int} {ag : Option Addr} {bs a8 R : Nat} {ss : List (List AQ)} {J : World} (hl : RowE J ao b off cap l) (hs : RowR J ag bs a8 R ss) (hq : ∀ x ∈ l, x.text.length ≤ 140737488355328) (h0 : 0 ≤ i) (h1 : i < l.length) :
    Calls Tryz.prog 171 #[.slice ao l.length cap, .int .i64 i, .slice ag ss.length R] J fun e w' => e = .returned (.int .i64 (EL l i (-1) ss)) ∧ Evo J w' [] := by
 refine AG (n := 44) func171 rfl ntmps171 rfl ?_
 have o : Evo J J [] := Evo.refl _ _
 have I := Ak hl
 have a_ := hl.bd
 have a6 := hs.keep
 have ba := hs.bd
 refine Zs (Zn Ah (Zs (Zn Ah (AB (Zs (Zo Ar (Zo (AL rfl η underlying91) (Zn AN (AD ?_)))))))))
 refine AZ (α := Nat) [1, 6, 7, 9, 12, 13, 14, 15, 16, 17, 18, 19, 20, 21, 22, 23, 24, 25, 26, 27, 28, 29, 30, 31, 32, 33, 34, 35, 36, 37, 38, 39, 40, 41, 42] (fun k g w => ∃ at1 : Int, ∃ en : Int, g 12 = .int .i64 (k : Nat) ∧ g 1 = .int .i64 at1 ∧ g 7 = .int .i64 en ∧ k ≤ ss.length ∧ cB l at1 ∧ EL l at1 en (ss.drop k) = EL l i (-1) ss ∧ J.heap.size ≤ w.heap.size ∧ Evo J w []) (fun k => ss.length - k) 0 ?_ ?_
 refine ⟨i, (-1), σ, rfl, rfl, δ, (.inr ⟨h0, h1⟩), rfl, δ, o⟩
 rintro k g w2 ⟨at1, en, hj3, hj4, hj5, hk_k, hat, hch, hzl1, o⟩
 have a7 := o.size
 refine Zk 12 hj3 (Zk 1 hj4 (Zk 7 hj5 (Zs (Zn Bu (AB (AE η (fun a1 => ?_) (fun a1 => ?_)))))))
 refine AF (AB (AD (Zs (Zo (AV (k) rfl underlying91 ML η η χ ω ((a6.now o).addr (i := k) ω)) ?_))))
 obtain ⟨bw, b7, bn, bl, hX⟩ := Xa a6 (k) ω
 have az := fun (w' : World) (h : Evo J w' []) => (hX w' h).1
 have U := fun (w' : World) (h : Evo J w' []) => (hX w' h).2
 clear hX
 have aT := (U _ o).bd
 refine Zo (AH rfl EU η ((az _ o).cell 0 η)) (Zn Bs (AB (AB ?_)))
 have bF : ¬ at1 < 0 → 0 ≤ at1 ∧ at1 < l.length := fun h8 => by rcases hat with h9 | h9 <;> omega
 have bM := Tl hq at1.toNat
 refine AA (Zo AN (Zo Bu (Zo Br ?_)))
 refine Ab rfl Ay rfl (fun j => Ar) ?_
 refine Ab rfl Ay rfl (fun j => AN) ?_
 refine Ab rfl Ay rfl (fun j => AV (at1.toNat) rfl underlying94 BX (Af j) (Af j) ω ω ((I _ o).addr (i := at1.toNat) ω)) ?_
 refine Ab rfl Ay rfl (fun j => AY rfl Mc BX (Af j) rfl ((I _ o).atD (at1.toNat) ω)) ?_
 refine Bb rfl Ay rfl (fun j => Am rfl (An (v := .agg _) (Af j) (rfl)) func197 rfl ζ) (fun j => (JW (x := (l.getD at1.toNat default))).mono (fun e w' h => ⟨h.1, h.2⟩)) (fun w8 F9 => ?_)
 have Q8 := F9.size
 replace o := Z0 o F9
 refine Ab rfl Ay rfl (fun j => CQ rfl (Af j)) ?_
 refine Zo Ee (Zo Br ?_)
 refine Ab rfl Ay rfl (fun j => Ar) ?_
 refine Ab rfl Ay rfl (fun j => Ar) ?_
 refine Ab rfl Ay rfl (fun j => AN) ?_
 refine Ab rfl Ay rfl (fun j => AV (at1.toNat) rfl underlying94 BX (Af j) (Af j) ω ω ((I _ o).addr (i := at1.toNat) ω)) ?_
 refine Ab rfl Ay rfl (fun j => AJ rfl (Af j) M1) ?_
 refine Ab rfl Ay rfl (fun j => AH rfl BF (Af j) (((I _ o).atD (at1.toNat) ω).cell 1 η)) ?_
 refine Bb rfl Ay rfl (fun j => Am rfl (An (v := S _) (Af j) (rfl)) func173 rfl ζ) (fun j => (GC τ).mono (fun e w' h => ⟨h.1, h.2⟩)) (fun bQ F11 => ?_)
 have bp := F11.size
 replace o := Z0 o F11
 refine Bb rfl Ay rfl (fun j => Am rfl (An (v := .slice _ _ _) (Af j) (An (v := S _) (Af j) (rfl))) func198 rfl ζ) (fun j => (PE (U _ o)).mono (fun e w' h => ⟨h.1, h.2⟩)) (fun bW F13 => ?_)
 have bq := F13.size
 replace o := Z0 o F13
 replace hl := I _ o
 refine Ab rfl Ay rfl (fun j => CQ rfl (Af j)) ?_
 refine Zn Ee (AE η (fun C => ?_) (fun C => ?_))
 refine Zs (Zn Ah (AK CZ ?_))
 first | exact ⟨AU (by rw [← hch, J0 (ss := ss) (k := k) ω, FN C]), o⟩ | exact ⟨AU (by rw [← hch, List.drop_of_length_le ω]; rfl), o⟩
 refine AF (Zs (Zo AN (Zo A8 (Zn Ah (AA (Zo Ar (Zo AN (Zr [.slice _ _ _, .int _ _] rfl η func199 (RS hl (i := at1) ω ω) ?_))))))))
 rintro e bY ⟨rfl, F15⟩
 refine ⟨_, rfl, ?_⟩
 have bt := F15.size
 replace o := Z0 o F15
 refine Zn Ah (AO (AA (Zo A8 (Zn AN (Zg (k + 1) ?_)))))
 refine ⟨_, _, σ, rfl, rfl, δ, (Pp ω (by rcases hat with h9 | h9 <;> omega)), (by rw [← hch, J0 (ss := ss) (k := k) ω, LV C]), δ, o⟩
 refine AW rfl (Zs (Zo AN (Zn Ah (AK CZ ?_))))
 first | exact ⟨AU (by rw [← hch, J0 (ss := ss) (k := k) ω, FN a1]), o⟩ | exact ⟨AU (by rw [← hch, List.drop_of_length_le ω]; rfl), o⟩
end Go.Proofs.YtlfjocbnbceceaaGreatDoor
namespace Go.Vc
open Go Go.RowKit Go.IntWalk
theorem Sg {α : Type} [Enc α] {w : World} {b base : Nat} {E : TypeId} {cs : List Value} (L : List α) (h : Blk w b E cs) (J : cs = (L.map Enc.enc).flatten) (I : base ≤ b) (R : L.length ≤ 10000) : OwnE w base E (.slice (some ⟨b, 0, none⟩) L.length L.length) L := by
  subst J
  have o : ∀ cs ∈ L.map (Enc.enc : α → List Value), cs.length = Enc.n α := fun cs C => by
    obtain ⟨x, _, rfl⟩ := List.mem_map.1 C; exact Enc.len x
  have j := CF _ _ o
  refine ⟨⟨j, .inr ⟨b, L.length, _, by rw [List.length_map], I, h, by simp, by unfold maxLen; omega, ?_, ?_⟩⟩, o, by rw [List.length_map]; omega⟩
  · rw [List.length_map] at j; simpa using j
  · show List.take _ ((L.map Enc.enc).flatten.toArray).toList = _
    rw [← j]; exact List.take_length
end Go.Vc
namespace Go.Proofs.YtlfjocbnbceceaaGreatDoor
open Go.RowKit Go.Vc Go.Proofs.Tryz
theorem O3 {ao : Option Addr} {b off cap : Nat} {c : List Clas} {p q : AQ} {R : World} (hc : RowR R ao b off cap c) (bQ : (Co c q).length ≤ 4398046510976) (bg : ∀ k, QK ((Co c q).getD k default)) (hp : p.length ≤ 140737488355328) (hq : q.length ≤ 140737488355328) :
    Calls Tryz.prog 200 #[.slice ao c.length cap, (.agg #[S p, S q])] R fun e w' => ∃ v, e = .returned v ∧ Evo R w' [] ∧ OwnE w' R.heap.size 9 v (Ed c p q) := by
 refine AG (n := 51) func200 rfl ntmps200 rfl ?_
 have j : Evo R R [] := Evo.refl _ _
 have a6 := hc.keep
 have bc := hc.bd
 refine Zs (Ch (vs := [_, _]) η η rfl ?_)
 intro b1 w2 J1 E2 B1 Y1
 have Q2 := E2.size
 replace j := Z0 j E2
 refine Zn Bs (AB (Zs (Zo (AJ rfl η Kv) (Zo (AH rfl BF η (B1.at.cell 0 η)) (Zn (Cn rfl η η) (AE η (fun a8 => ?_) (fun a8 => ?_)))))))
 refine Zs (Zn Bs (AK (BN (v := .slice _ _ _) rfl η) ?_))
 exact ⟨_, rfl, j, by unfold Ed; rw [if_pos a8]; exact OwnE.nil _ _ _⟩
 refine AF (Zs (Zo (AJ rfl η Kv) (Zo (AH rfl BF η (B1.at.cell 0 η)) (Zr [S _] rfl η func173 (GC τ) ?_))))
 rintro e w4 ⟨rfl, F4⟩
 refine ⟨_, rfl, ?_⟩
 have Q4 := F4.size
 replace j := Z0 j F4
 replace B1 := B1.evo0 F4
 refine Zn CD (Zs (Zo Au (Av (pv := [(0, S _)]) (zs := [_]) (cs := [_]) underlying77 BW η rfl η rfl η ?_)))
 intro b5 w6 J5 E6 B5 Y5
 have Q6 := E6.size
 replace j := Z0 j E6
 replace B1 := B1.evo0 E6
 have I : OwnE w6 R.heap.size 9 (.slice (some ⟨b5, 0, none⟩) 1 1) (([Cc p] : List AQ)) := Sg (([Cc p] : List AQ)) B5 rfl ω (by simp)
 refine Zn (AM (v := (.slice (some ⟨b5, 0, none⟩) 1 1)) rfl η) (AB (Zs (Zo (AJ rfl η Gp) (Zo (AH rfl BF η (B1.at.cell 1 η)) (Zn (Cn rfl η η) (AE η (fun a_ => ?_) (fun a_ => ?_)))))))
 refine Zs (Zo (AP (v := (.slice (some ⟨b5, 0, none⟩) 1 1)) rfl η) (Zn (AM (v := (.slice (some ⟨b5, 0, none⟩) 1 1)) rfl η) (AK (BN (v := (.slice (some ⟨b5, 0, none⟩) 1 1)) rfl η) ?_)))
 exact ⟨_, rfl, j, by rw [UM κ a_]; exact I⟩
 refine AF (AB (Zs (Zo Ar (Zo (AJ rfl η Gp) (Zo (AH rfl BF η (B1.at.cell 1 η)) (Zr [.slice _ _ _, S _] rfl η func214 (R9 a6 j) ?_))))))
 rintro e w8 ⟨bF, b8, off8, cap8, rfl, F8, hr80⟩
 refine ⟨_, rfl, ?_⟩
 have Q8 := F8.size
 replace j := Z0 j F8
 replace hc := a6.now j
 replace I := I.evo0 F8
 have bn := hr80 _ j
 have aT := bn.bd
 refine Zo (AL rfl η underlying108) (Zn AN (AD (AZ (α := Nat) [6, 8, 9, 10, 28, 29, 30, 31, 32, 33, 34, 35, 36, 37, 38, 39, 40, 41, 42, 43, 44, 45, 46, 47, 48, 49] (fun k g w => ∃ vo : Value, g 28 = .int .i64 (k : Nat) ∧ g 6 = vo ∧ k ≤ (Co c q).length ∧ OwnE w R.heap.size 9 vo (Dy (fun _ => true) (Cc p) ME ((Co c q).take k)) ∧ w8.heap.size ≤ w.heap.size ∧ Evo R w []) (fun k => (Co c q).length - k) 0 ?_ ?_)))
 refine ⟨_, σ, rfl, δ, I, δ, j⟩
 rintro k g b0 ⟨vo, hj11, hj12, hk_k, o, hzl9, j⟩
 have az := j.size
 refine Zk 28 hj11 (Zk 6 hj12 ?_)
 have bW := Pv (fun _ => true) (Cc p) ME ((Co c q).take k)
 have bY : ((Co c q).take k).length ≤ k := List.length_take_le _ _
 have a1 := bg k
 have bL := a1.1
 have bM := a1.2
 refine Zs (Zn Bu (AB (AE η (fun a7 => ?_) (fun a7 => ?_))))
 refine AF (AB (AD (Zs (Zo (AV (k) rfl underlying108 Be η η χ ω ((hr80 _ j).addr (i := k) ω)) ?_))))
 have U := fun (w' : World) (h : Evo R w' []) => (hr80 w' h).atD (k) ω
 refine Zo (AY rfl Dr Be η rfl (U _ j)) ?_
 have bm := fun g hg => (o.block (g := g) hg).2
 refine CO (zs := [_, _]) (vs := [_, _]) Be η rfl η (fun _ => rfl) η rfl rfl η ?_
 intro b16 w17 J16 E17 B16 Y16
 have bw := E17.size
 replace j := Z0 j E17
 replace o := o.evo0 E17
 refine As (Zs (Zo Au (Zo (AJ rfl η IL) (Zo (AH rfl BF η (B16.at.cell 0 η)) (Zo (AJ rfl η HN) (Zo (AH rfl BF η (B16.at.cell 1 η)) (Zr [S _, S _, S _] rfl η func215 (RZ τ τ τ) ?_)))))))
 rintro e b2 ⟨rfl, F18⟩
 refine ⟨_, rfl, ?_⟩
 have bx := F18.size
 replace j := Z0 j F18
 replace o := o.evo0 F18
 refine Zo S4 (Zo (AX (v := S _) rfl η η) (Zo (AX (v := .bool _) rfl η η) (Zo CD (Zn A6 (Zs (Zo (Bt rfl η) (Zo Br ?_)))))))
 refine Ab rfl Aq rfl (fun hg => Au) ?_
 refine Ab rfl Aq rfl (fun hg => CR rfl (Af hg) η) ?_
 refine Zn Fm (AE η (fun C => ?_) (fun C => ?_))
 refine AA (Zo (AP (v := vo) rfl η) (Zo Au ?_))
 obtain ⟨bq, g20, bs, ba, J, bt⟩ := o.rowOf
 subst ba
 refine Zr [.slice _ _ _, S _] rfl η func128 (Jv J ω) ?_
 rintro e b3 ⟨bb, rfl, F21, hi21⟩
 refine ⟨_, rfl, ?_⟩
 have bz := F21.size
 replace j := Z0 j F21
 replace o := o.evo0 F21
 replace J := J.evo0 F21
 refine Zn (AM (v := bb) rfl η) (AO (AA (Zo A8 (Zn AN (Zg (k + 1) ?_)))))
 refine ⟨_, σ, rfl, δ, (by first | (rw [OC (ok := fun _ => true) (b := ME) ω C rfl]; exact hi21.base_le ω) | (rw [Qk (ok := fun _ => true) (b := ME) ω (fun h => C h.1)]; exact hi21)), δ, j⟩
 refine AF (AO (AA (Zo A8 (Zn AN (Zg (k + 1) ?_)))))
 refine ⟨_, σ, rfl, δ, (by first | (rw [OC (ok := fun _ => true) (b := ME) ω C rfl]; exact o.base_le ω) | (rw [Qk (ok := fun _ => true) (b := ME) ω (fun h => C h.1)]; exact o)), δ, j⟩
 refine AW rfl (Zs (Zo (AP (v := vo) rfl η) (Zn (AM (v := vo) rfl η) (AK (BN (v := vo) rfl η) ?_))))
 exact ⟨_, rfl, j, by rw [VL (k := k) κ κ ω]; exact o⟩
theorem Qm {ao : Option Addr} {b off cap : Nat} {c : List Clas} {p q : AQ} {R : World} (hc : RowR R ao b off cap c) (bc : (Co c q).length ≤ 4398046510976) (aT : ∀ k, QK ((Co c q).getD k default)) (hp : p.length ≤ 140737488355328) (hq : q.length ≤ 140737488355328) :
    Calls Tryz.prog 208 #[.slice ao c.length cap, (.agg #[S p, S q])] R fun e w' => ∃ v, e = .returned v ∧ Evo R w' [] ∧ OwnE w' R.heap.size 9 v (Ed c p q) := by
 refine AG (n := 53) func208 rfl ntmps208 rfl ?_
 have o : Evo R R [] := Evo.refl _ _
 have a6 := hc.keep
 have a_ := hc.bd
 refine Zs (Ch (vs := [_, _]) η η rfl ?_)
 intro b1 w2 J1 E2 B1 Y1
 have Q2 := E2.size
 replace o := Z0 o E2
 refine Zn Bs (Zs (Zo (AJ rfl η Kv) (Zo (AH rfl BF η (B1.at.cell 0 η)) (Zr [S _] rfl η func183 (G6 τ) ?_))))
 rintro e w3 ⟨rfl, F3⟩
 refine ⟨_, rfl, ?_⟩
 have Q3 := F3.size
 replace o := Z0 o F3
 replace B1 := B1.evo0 F3
 refine Zn CD (AB (Zs (Zo Au (Zn (Cn rfl η η) (AE η (fun a8 => ?_) (fun a8 => ?_))))))
 refine Zs (Zn Bs (AK (BN (v := .slice _ _ _) rfl η) ?_))
 exact ⟨_, rfl, o, by rw [WI a8]; exact OwnE.nil _ _ _⟩
 refine AF (Zs (GI (α := AQ) (β := Unit) S (fun _ : Unit => Value.agg #[]) rfl ?_))
 intro b5 w6 J5 E6 j Y5
 have Q6 := E6.size
 replace o := Z0 o E6
 replace B1 := B1.evo0 E6
 refine Zo Au (Zo (Aj (pv := []) (zs := []) (cells := []) rfl Jt η Oh η η) (XA (a := _) (v := ()) (FZ underlying9) underlying171 η η η j ?_))
 intro w7 E7 V7 hm_new
 have Q7 := E7.size
 replace o := Z1 o E7 ε
 replace B1 := B1.evo E7 θ
 replace j := hm_new
 clear hm_new
 refine Zo O6 (Zn Wk (AB (Zs (Zo Ar (Zo (AJ rfl η Gp) (Zo (AH rfl BF η (B1.at.cell 1 η)) (Zr [.slice _ _ _, S _] rfl η func225 (UA a6 o) ?_)))))))
 rintro e w8 ⟨bs, b8, off8, cap8, rfl, F8, hr80⟩
 refine ⟨_, rfl, ?_⟩
 have Q8 := F8.size
 replace o := Z0 o F8
 replace hc := a6.now o
 replace j := j.evo0 F8
 have bg := hr80 _ o
 have az := bg.bd
 refine Zo (AL rfl η underlying108) (Zn AN (AD (AZ (α := Nat) [8, 9, 10, 25, 26, 27, 28, 29, 30, 31, 32, 33, 34, 35, 36, 37, 38, 39, 40, 41, 42, 43, 44, 45, 46, 47, 48, 49, 50] (fun k g w => ∃ m : List (AQ × Unit), g 25 = .int .i64 (k : Nat) ∧ k ≤ (if q = [] then ([] : List Ende) else Co c q).length ∧ MapIs w b5 S (fun _ : Unit => Value.agg #[]) m ∧ KeyIs m (Dy (fun _ => true) (Cc p) ME ((if q = [] then ([] : List Ende) else Co c q).take k)) ∧ w8.heap.size ≤ w.heap.size ∧ Evo R w []) (fun k => (if q = [] then ([] : List Ende) else Co c q).length - k) 0 ?_ ?_)))
 refine ⟨_, σ, δ, j, (KeyIs.one _), δ, o⟩
 rintro k g bL ⟨m, hj11, hk_k, j, hks, hzl9, o⟩
 have ag := o.size
 have bf := j.lt
 refine Zk 25 hj11 ?_
 have a1 := Pg aT k
 have bw := a1.1
 have bx := a1.2
 refine Zs (Zn Bu (AB (AE η (fun a7 => ?_) (fun a7 => ?_))))
 refine AF (AB (AD (Zs (Zo (AV (k) rfl underlying108 Be η η χ ω ((hr80 _ o).addr (i := k) ω)) ?_))))
 have U := fun (w' : World) (h : Evo R w' []) => (hr80 w' h).atD (k) ω
 refine Zo (AY rfl Dr Be η rfl (U _ o)) (CO (zs := [_, _]) (vs := [_, _]) Be η rfl η (fun _ => rfl) η rfl rfl η ?_)
 intro b15 w16 J15 E16 B15 Y15
 have bm := E16.size
 replace o := Z0 o E16
 replace j := j.evo0 E16
 refine As (Zs (Zo Au (Zo (AJ rfl η IL) (Zo (AH rfl BF η (B15.at.cell 0 η)) (Zr [S _, S _] rfl η func226 (T0 τ τ) ?_)))))
 rintro e bM ⟨rfl, F17⟩
 refine ⟨_, rfl, ?_⟩
 have bn := F17.size
 replace o := Z0 o F17
 replace j := j.evo0 F17
 replace B15 := B15.evo0 F17
 refine Zo S4 (Zo (AX (v := S _) rfl η η) (Zo (AX (v := .bool _) rfl η η) (Zo CD (Zn A6 (AB ?_)))))
 have bz := Zm (Cc p) ((if q = [] then ([] : List Ende) else Co c q).getD k default).strip; have bF := lowS_len p
 refine AA (Zo (Bt rfl η) (Zo Br ?_))
 refine Ab rfl Aq rfl (fun I => Au) ?_
 refine Ab rfl Aq rfl (fun I => AJ rfl η HN) ?_
 refine Ab rfl Aq rfl (fun I => AH rfl BF (Af I) (B15.at.cell 1 η)) ?_
 refine Ab rfl Aq rfl (fun I => A7 rfl (Af I) (Af I) μ) ?_
 refine Ab rfl Aq rfl (fun I => CR rfl (Af I) η) ?_
 refine Zn Fm (AE η (fun C => ?_) (fun C => ?_))
 refine AA (Zo O6 (Zo Au (Zo (AJ rfl η HN) (Zo (AH rfl BF η (B15.at.cell 1 η)) (Zo (A7 rfl η η μ) (Zo (Aj (pv := []) (zs := []) (cells := []) rfl Jt η Oh η η) (Hb (a := _) (v := ()) (FZ underlying9) underlying171 η η η j ?_)))))))
 intro w19 E19 V19 hm_new
 have bp := E19.size
 replace o := Z1 o E19 ε
 replace j := hm_new
 clear hm_new
 refine As (AO (AA (Zo A8 (Zn AN (Zg (k + 1) ?_)))))
 refine ⟨_, σ, δ, j, (by first | exact VA hks ω C | exact XU hks ω C), δ, o⟩
 refine AF (AO (AA (Zo A8 (Zn AN (Zg (k + 1) ?_)))))
 refine ⟨_, σ, δ, j, (by first | exact VA hks ω C | exact XU hks ω C), δ, o⟩
 refine AW rfl (Zs (Zo O6 (Zr [.map _] rfl η func227 (QA j (Zc hks (fun k => Pg aT k) (by rw [lowS_len]; omega)) (by have h9 := U7 hks (Kg _ _ _ _); have h8 := Pv (fun _ => true) (Cc p) ME ((if q = [] then ([] : List Ende) else Co c q).take k); have h7 : ((if q = [] then ([] : List Ende) else Co c q).take k).length ≤ (if q = [] then ([] : List Ende) else Co c q).length := List.length_take_le' _ _; have h6 := UF bc; omega)) ?_)))
 rintro e bQ ⟨J, rfl, F20, hsr20⟩
 refine ⟨_, rfl, ?_⟩
 have bq := F20.size
 replace o := Z0 o F20
 replace j := j.evo0 F20
 refine Zn (AM (v := J) rfl η) (AK (BN (v := J) rfl η) ?_)
 have e9 : Fu (m.map (·.1)) = Ed c p q := by rw [hks.sorted (Kg _ _ _ _), Wz κ, List.take_of_length_le ω]
 exact ⟨_, rfl, o, by have h9 := hsr20; rw [e9] at h9; exact h9.base_le ω⟩
theorem XK {m : List (AQ × Unit)} {l : List AQ} {k : Nat} (hk : k < l.length) (h : ∀ s, (Bz m s).isSome = true ↔ s ∈ l.take k) (s : AQ) : (Bz (Dj m (l.getD k default) ()) s).isSome = true ↔ s ∈ l.take (k + 1) := by
  rw [Ai l k hk, List.mem_append, List.mem_singleton, ED]
  by_cases e : s = l.getD k default
  · simp [e]
  · rw [if_neg (by first | exact e | exact fun q => e q.symm), h s]
    exact ⟨.inl, fun q => q.elim id (fun q => absurd q e)⟩
theorem PF {ao : Option Addr} {b off cap : Nat} {l : List AQ} {C : World} (hl : RowE C ao b off cap l) :
    Calls Tryz.prog 190 #[.slice ao l.length cap] C fun e w' => ∃ bm, e = .returned (.map (some bm)) ∧ Evo C w' [] ∧ SetIs w' bm l ∧ C.heap.size ≤ bm := by
 refine AG (n := 18) func190 rfl ntmps190 rfl ?_
 have o : Evo C C [] := Evo.refl _ _
 have I := Ak hl
 have U := hl.bd
 refine Zs (Zn Wk (Zs (GI (α := AQ) (β := Unit) S eU rfl ?_)))
 intro b1 w2 J1 E2 j Y1
 have Q2 := E2.size
 replace o := Z0 o E2
 replace hl := I _ o
 refine Zn Wk (AB (Zs (Zo Ar (Zo (AL rfl η underlying77) (Zn AN (AD (AZ (α := Nat) [5, 9, 10, 11, 12, 13, 14, 15, 16] (fun k g w => ∃ m : List (AQ × Unit), g 9 = .int .i64 (k : Nat) ∧ k ≤ l.length ∧ MapIs w b1 S eU m ∧ (∀ s, (Bz m s).isSome = true ↔ s ∈ l.take k) ∧ w2.heap.size ≤ w.heap.size ∧ Evo C w []) (fun k => l.length - k) 0 ?_ ?_)))))))
 refine ⟨_, σ, δ, j, (fun s => by simp [Bz]), δ, o⟩
 rintro k g w4 ⟨m, hj5, hk_k, j, hms, hzl3, o⟩
 have R := o.size
 have a6 := j.lt
 refine Zk 9 hj5 (Zs (Zn Bu (AB (AE η (fun az => ?_) (fun az => ?_)))))
 refine AF (AB (AD (Zs (Zo (AV (k) rfl underlying77 BW η η χ ω ((I _ o).addr (i := k) ω)) ?_))))
 have J := fun (w' : World) (h : Evo C w' []) => (I w' h).atD (k) ω
 refine Zo (AH rfl BF η ((J _ o).cell 0 η)) (Zn CD (AA (Zo O6 (Zo Au (Zo (Aj (pv := []) (zs := []) (cells := []) rfl Jt η Oh η η) (Hb (a := _) (v := ()) (FZ underlying9) underlying171 η η η j ?_))))))
 intro w9 E9 V9 hm_new
 have Q9 := E9.size
 replace o := Z1 o E9 ε
 replace j := hm_new
 clear hm_new
 refine As (AO (AA (Zo A8 (Zn AN (Zg (k + 1) ?_)))))
 refine ⟨_, σ, δ, j, (XK ω hms), δ, o⟩
 refine AW rfl (Zs (Zo O6 (Zn Wk (AK (BN (v := .map _) rfl η) ?_))))
 exact ⟨_, rfl, o, ⟨m, j, fun s => by rw [hms s, List.take_of_length_le ω]⟩, by omega⟩
theorem IB : DH Tryz.prog 83 = some false := ζ
theorem Ob : DH Tryz.prog 88 = some true := ζ
theorem EA : CG Tryz.prog 85 0 = some 0 := ζ
theorem FG : Dl Tryz.prog 88 = some (2, 32, some (.agg #[(.string ⟨#[]⟩), (.string ⟨#[]⟩)])) := ζ
def Dg (c : List Clas) (ws : List Ende) : List (List AQ) := ws.map (fun y => Ed c y.strip y.add)
theorem Me {c : List Clas} {ws : List Ende} {k : Nat} (hk : k < ws.length) : Dg c (ws.take (k + 1)) = Dg c (ws.take k) ++ [Ed c (ws.getD k default).strip (ws.getD k default).add] := by
  unfold Dg; rw [Ai ws k hk, List.map_append]; rfl
theorem H5 (c : List Clas) (ws : List Ende) : (Dg c ws).length = ws.length := by unfold Dg; rw [List.length_map]
theorem PQ {ws : List Ende} (h : ∀ y ∈ ws, QK y) (k : Nat) : QK (ws.getD k default) := by
  rcases Nat.lt_or_ge k ws.length with h1 | h1
  · exact h _ (A5 h1)
  · rw [List.getD_eq_getElem?_getD, List.getElem?_eq_none h1]; exact ⟨Nat.zero_le _, Nat.zero_le _⟩
theorem Ov {ao : Option Addr} {b off cap : Nat} {c : List Clas} {az : Option Addr} {bw bf I : Nat} {ws : List Ende} {v1 v2 : Value} {C : World} (U : RowR C ao b off cap c) (hw : RowE C az bw bf I ws) (bm : ∀ y ∈ ws, QK y) (b2 : ws.length ≤ 4398046510976) :
    Calls Tryz.prog 172 #[.slice ao c.length cap, .agg #[.slice az ws.length I, v1, v2]] C fun e w' => ∃ v, e = .returned v ∧ Evo C w' [] ∧ OwnR w' C.heap.size 77 [] v (Dg c ws) := by
 have a7 := LI U
 refine AG (n := 23) func172 rfl ntmps172 rfl ?_
 have o : Evo C C [] := Evo.refl _ _
 have a6 := U.keep
 have bg := U.bd
 have J := Ak hw
 have bl := hw.bd
 refine Zs (Ch (vs := [_, _, _]) η η rfl ?_)
 intro b1 w2 J1 E2 B1 Y1
 have Q2 := E2.size
 replace o := Z0 o E2
 replace U := a6.now o
 replace hw := J _ o
 refine Zn Bs (Zs (Zn Bs (AB (Zs (Zo (AJ rfl η EA) (Zo (AH rfl IB η (B1.at.cell 0 η)) (Zo (AL rfl η underlying83) (Zn AN (AD ?_)))))))))
 refine AZ (α := Nat) [5, 7, 11, 12, 13, 14, 15, 16, 17, 18, 19, 20, 21] (fun k g w => ∃ R : Value, g 11 = .int .i64 (k : Nat) ∧ g 5 = R ∧ k ≤ ws.length ∧ OwnR w C.heap.size 77 [] R (Dg c (ws.take k)) ∧ w2.heap.size ≤ w.heap.size ∧ Evo C w []) (fun k => ws.length - k) 0 ?_ ?_
 refine ⟨_, σ, rfl, δ, (OwnR.nil _ _ _ _), δ, o⟩
 rintro k g w4 ⟨R, hj5, hj6, hk_k, j, hzl3, o⟩
 have bb := o.size
 refine Zk 11 hj5 (Zk 5 hj6 (Zs (Zn Bu (AB (AE η (fun bn => ?_) (fun bn => ?_))))))
 refine AF (AB (AD (AB ?_)))
 have a_ := fun g hg => (j.block (g := g) hg).2; have a1 := PQ bm k; have bY := H5 c (ws.take k); have b0 := List.length_take_le k ws
 refine AA (Zo (AV (k) rfl underlying83 FG η η χ ω ((J _ o).addr (i := k) ω)) ?_)
 have aT := fun (w' : World) (h : Evo C w' []) => (J w' h).atD (k) ω
 refine Zo (AY rfl Ob FG η rfl (aT _ o)) ?_
 have bx := fun g hg => (j.block (g := g) hg).2
 refine CO (zs := [_, _]) (vs := [_, _]) FG η rfl η (fun _ => rfl) η rfl rfl η ?_
 intro b10 w11 J10 E11 B10 Y10
 have bF := E11.size
 replace o := Z0 o E11
 replace U := a6.now o
 replace j := j.evo0 E11
 refine As (AA (Zo (AP (v := R) rfl η) (Zo Ar (Zo (AY rfl Ob FG η rfl B10.at) (Zr [.slice _ _ _, .agg _] rfl η func200 (O3 U (p := (ws.getD k default).strip) (q := (ws.getD k default).add) (SY a7 _) (Up a7 _) (by have := a1.1; omega) (by have := a1.2; omega)) ?_)))))
 rintro e b3 ⟨bz, rfl, F12, hof12⟩
 refine ⟨_, rfl, ?_⟩
 have bL := F12.size
 replace o := Z0 o F12
 replace j := j.evo0 F12
 obtain ⟨bs, g13, bt, bc, ba, a8⟩ := hof12.rowOf
 subst bc
 refine GN (u := .slice _ _ _) (us := [_]) rfl rfl underlying91 ML η rfl rfl j (fun _ => η) η η rfl η (fun w9 h9 => Lj (Cg ba h9 (fun bp hm => by have h2 := (a8 bp).2.1; have h3 := a_ _ (Option.mem_toList.1 (by simpa using hm)); omega))) (τ) (τ) ω ?_
 intro q_v14 v14 w15 E15 hov14 hlv14
 have bM := E15.size
 replace o := AI o E15 (fun g hg => .inl (by first | exact (j.block hg).1 | (have := j.block hg; omega)))
 refine Zn (AM (v := v14) rfl η) (AO (AA (Zo A8 (Zn AN (Zg (k + 1) ?_)))))
 refine ⟨_, σ, rfl, δ, (by rw [Me ω]; exact hov14), δ, o⟩
 refine AW rfl (Zs (Zo (AP (v := R) rfl η) (Zn (AM (v := R) rfl η) (AK (BN (v := R) rfl η) ?_))))
 exact ⟨_, rfl, o, by rw [List.take_of_length_le ω] at j; exact j⟩
end Go.Proofs.YtlfjocbnbceceaaGreatDoor
namespace Go.Proofs.YtlfjocbnbceceaaGreatDoor
open Go Go.RowKit Go.Vc Go.Proofs.Tryz
structure Spt where
  t : Int
  fr : Int
  to : Int
deriving DecidableEq, Inhabited
instance : Enc Spt := ⟨3, fun x => [.int .i64 x.t, .int .i64 x.fr, .int .i64 x.to], fun _ => rfl, fun _ => rfl, by decide⟩
section
variable (l : List Vc.Item)
theorem LD : ∀ (ss : List (List AQ)) (i e : Int), i < l.length → (i < 0 ∨ Fv (l.getD i.toNat default)) → FR l i e ss = EL l i e ss
  | [], _, _, _, _ => rfl
  | s :: r, i, e, hl, h => by
    by_cases h0 : i < 0
    · rw [JA h0, FN (.inl (.inl h0))]
    · have hw : Fv (l.getD i.toNat default) := h.resolve_left h0
      by_cases h2 : Cc (l.getD i.toNat default).text ∈ s
      · rw [SU h0 h2, LV (by rintro ((q | q) | q); exact h0 q; exact q hw; exact q h2)]
        rcases N0 (l := l) (i := i.toNat) ω with h3 | ⟨h3, h4, h5⟩
        · exact LD r _ _ ω (.inl ω)
        · exact LD r _ _ h4 (.inr h5)
      · rw [LH h0 h2, FN (.inr h2)]
theorem LN : ∀ (ss : List (List AQ)) (i e : Int), i < l.length → EL l i e ss = -1 ∨ EL l i e ss = e ∨ (i + 1 ≤ EL l i e ss ∧ EL l i e ss ≤ l.length)
  | [], _, _, _ => .inr (.inl rfl)
  | s :: r, i, e, hl => by
    by_cases h : (i < 0 ∨ ¬ Fv (l.getD i.toNat default)) ∨ ¬ Cc (l.getD i.toNat default).text ∈ s
    · exact .inl (FN h)
    · rw [LV h]
      have h0 : ¬ i < 0 := fun q => h (.inl (.inl q))
      rcases N0 (l := l) (i := i.toNat) ω with h3 | ⟨h3, h4, h5⟩
      · rcases LN r (Fs l i.toNat) (i + 1) ω with h6 | h6 | ⟨h6, h7⟩
        · exact .inl h6
        · exact .inr (.inr ⟨by omega, by omega⟩)
        · cases r with
          | nil => exact .inr (.inr ⟨by show i + 1 ≤ i + 1; omega, by show i + 1 ≤ _; omega⟩)
          | cons s2 r2 => exact .inl (FN (.inl (.inl ω)))
      · rcases LN r (Fs l i.toNat) (i + 1) h4 with h6 | h6 | ⟨h6, h7⟩
        · exact .inl h6
        · exact .inr (.inr ⟨by omega, by omega⟩)
        · exact .inr (.inr ⟨by omega, h7⟩)
def cT (i : Nat) (ss : List (List AQ)) : Int := EL l i (-1) ss
theorem aW {i : Nat} (h : ¬ Fv (l.getD i default)) (ss : List (List AQ)) : cT l i ss = -1 := by
  unfold cT
  cases ss with
  | nil => rfl
  | cons s r => exact FN (.inl (.inr (by simpa using h)))
theorem cJ {i : Nat} (j : i < l.length) (ss : List (List AQ)) : cT l i ss = -1 ∨ ((i : Int) + 1 ≤ cT l i ss ∧ cT l i ss ≤ l.length) := by
  rcases LN l ss i (-1) ω with h | h | h
  · exact .inl h
  · exact .inl h
  · exact .inr h
variable (fs : List (List (List AQ)))
def Hy (o : Option (Nat × Int)) (k : Nat) : Bool := o.all fun q => decide ((fs.getD q.1 default).length < (fs.getD k default).length)
def Bq (i : Nat) : Nat → Option (Nat × Int)
  | 0 => none
  | k + 1 => if 0 ≤ cT l i (fs.getD k default) ∧ Hy fs (Bq i k) k = true then some (k, cT l i (fs.getD k default)) else Bq i k
theorem Gg {i k : Nat} (h : 0 ≤ cT l i (fs.getD k default) ∧ Hy fs (Bq l fs i k) k = true) : Bq l fs i (k + 1) = some (k, cT l i (fs.getD k default)) := if_pos h
theorem G3 {i k : Nat} (h : ¬ (0 ≤ cT l i (fs.getD k default) ∧ Hy fs (Bq l fs i k) k = true)) : Bq l fs i (k + 1) = Bq l fs i k := if_neg h
theorem Lt {i : Nat} (h : ¬ Fv (l.getD i default)) : ∀ k, Bq l fs i k = none
  | 0 => rfl
  | k + 1 => by rw [G3 l fs (by rw [aW l h]; omega)]; exact Lt h k
theorem Fc {i : Nat} (hi : i < l.length) : ∀ (k : Nat) (q : Nat × Int), Bq l fs i k = some q → q.1 < k ∧ (i : Int) + 1 ≤ q.2 ∧ q.2 ≤ l.length ∧ q.2 = cT l i (fs.getD q.1 default)
  | 0, q, h => by cases h
  | k + 1, q, h => by
    by_cases h1 : 0 ≤ cT l i (fs.getD k default) ∧ Hy fs (Bq l fs i k) k = true
    · rw [Gg l fs h1] at h
      cases h
      rcases cJ l hi (fs.getD k default) with h2 | h2
      · omega
      · exact ⟨Nat.lt_succ_self _, h2.1, h2.2, rfl⟩
    · rw [G3 l fs h1] at h
      have := Fc hi k q h
      exact ⟨by omega, this.2⟩
def Cu (o : Option (Nat × Int)) : Int × Int := match o with | none => (-1, -1) | some q => ((q.1 : Int), q.2)
def XW (i : Nat) (o : Option (Nat × Int)) : Int := match o with | none => 0 | some _ => (i : Int)
def Yk (o : Option (Nat × Int)) : Int := match o with | none => 0 | some q => q.2
theorem Nh (o : Option (Nat × Int)) (k : Nat) : Hy fs o k = true ↔ ((Cu o).1 < 0 ∨ (fs.getD (Cu o).1.toNat default).length < (fs.getD k default).length) := by
  cases o with
  | none => simp [Hy, Cu]
  | some q =>
    have h : ¬ ((q.1 : Nat) : Int) < 0 := by omega
    simp only [Hy, Cu, Option.all_some, decide_eq_true_eq, h, false_or, Int.toNat_natCast]
def Ds : Nat → Nat → List Spt
  | 0, _ => []
  | n + 1, i => match Bq l fs i fs.length with
    | none => Ds n (i + 1)
    | some q => ⟨(q.1 : Int), i, q.2⟩ :: Ds n q.2.toNat
def AR (i : Nat) : List Spt := Ds l fs (l.length - i) i
theorem DF : ∀ (n i : Nat), l.length ≤ i → Ds l fs n i = []
  | 0, _, _ => rfl
  | n + 1, i, h => by
    have hb := Lt l fs (i := i) (by rw [List.getD_eq_getElem?_getD, List.getElem?_eq_none h]; decide) fs.length
    unfold Ds
    rw [hb]
    exact DF n (i + 1) ω
theorem Gn : ∀ (n m i : Nat), l.length - i ≤ n → l.length - i ≤ m → Ds l fs n i = Ds l fs m i
  | 0, m, i, h1, h2 => by rw [DF l fs 0 i ω, DF l fs m i ω]
  | n + 1, 0, i, h1, h2 => by rw [DF l fs _ i ω, DF l fs _ i ω]
  | n + 1, m + 1, i, h1, h2 => by
    rcases Nat.lt_or_ge i l.length with hi | hi
    · unfold Ds
      cases hb : Bq l fs i fs.length with
      | none => exact Gn n m (i + 1) ω ω
      | some q =>
        have h3 := Fc l fs hi _ _ hb
        exact congrArg _ (Gn n m q.2.toNat ω ω)
    · rw [DF l fs _ i hi, DF l fs _ i hi]
theorem Jw {i : Nat} (o : i < l.length) (h : Bq l fs i fs.length = none) : AR l fs i = AR l fs (i + 1) := by
  unfold AR
  obtain ⟨n, j⟩ : ∃ n, l.length - i = n + 1 := ⟨l.length - i - 1, by omega⟩
  rw [j]
  conv => lhs; unfold Ds
  rw [h]
  exact Gn l fs _ _ _ ω ω
theorem Nn {i : Nat} (j : i < l.length) {q : Nat × Int} (h : Bq l fs i fs.length = some q) : AR l fs i = ⟨(q.1 : Int), i, q.2⟩ :: AR l fs q.2.toNat := by
  have C := Fc l fs j _ _ h
  unfold AR
  obtain ⟨n, o⟩ : ∃ n, l.length - i = n + 1 := ⟨l.length - i - 1, by omega⟩
  rw [o]
  conv => lhs; unfold Ds
  rw [h]
  exact congrArg _ (Gn l fs _ _ _ ω ω)
theorem Pc {i : Nat} (h : l.length ≤ i) : AR l fs i = [] := DF l fs _ i h
end
theorem UQ {o : Option (Nat × Int)} (h : ¬ (Cu o).1 < 0) : ∃ q, o = some q ∧ (Cu o).1 = (q.1 : Int) ∧ (Cu o).2 = q.2 := by
  cases o with
  | none => exact absurd (show (-1 : Int) < 0 by decide) h
  | some q => exact ⟨q, rfl, rfl, rfl⟩
theorem NW {o : Option (Nat × Int)} (h : (Cu o).1 < 0) : o = none := by
  cases o with
  | none => rfl
  | some q => exact absurd h (by show ¬ ((q.1 : Nat) : Int) < 0; omega)
theorem Kl : DH Tryz.prog 85 = some true := ζ
theorem Ts : D3 Tryz.prog 187 = some [(0, 1), (1, 1), (2, 1)] := ζ
theorem Er : Dl Tryz.prog 187 = some (3, 24, some (.agg #[(.int .i64 0), (.int .i64 0), (.int .i64 0)])) := ζ
theorem Ci : Dl Tryz.prog 85 = some (3, 72, some (.agg #[(.slice none 0 0), (.slice none 0 0), (.slice none 0 0)])) := ζ
def BG (c : List Clas) (ts : List TermL) : List (List (List AQ)) := ts.map (fun t => Dg c t.words)
theorem Kz (c : List Clas) (ts : List TermL) : (BG c ts).length = ts.length := by unfold BG; rw [List.length_map]
theorem M4 {c : List Clas} {ts : List TermL} {k : Nat} (h : k < ts.length) : (BG c ts).getD k default = Dg c (ts.getD k default).words := by
  unfold BG; simp [List.getD, h]
theorem K8 {c : List Clas} {ts : List TermL} {k : Nat} (h : k < ts.length) : ((BG c ts).getD k default).length = (ts.getD k default).words.length := by rw [M4 h, H5]
theorem Ss {ts : List TermL} (h : ∀ x ∈ ts, x.words.length ≤ 4398046510976 ∧ ∀ y ∈ x.words, QK y) (k : Nat) : (ts.getD k default).words.length ≤ 4398046510976 ∧ ∀ y ∈ (ts.getD k default).words, QK y := by
  rcases Nat.lt_or_ge k ts.length with h1 | h1
  · exact h _ (A5 h1)
  · rw [List.getD_eq_getElem?_getD, List.getElem?_eq_none h1]; exact ⟨Nat.zero_le _, fun y j => by cases j⟩
theorem KG {l : List Vc.Item} {fs : List (List (List AQ))} {i k n : Nat} (j : i < l.length) (hk : k ≤ n) (o : 0 < n) : (Cu (Bq l fs i k)).1.toNat < n := by
  cases h : Bq l fs i k with
  | none => exact o
  | some q => have := (Fc l fs j k q h).1; show ((q.1 : Nat) : Int).toNat < n; omega
theorem Gu {l : List Vc.Item} {c : List Clas} {ts : List TermL} {i k : Nat} (o : i < l.length) (hk : k < ts.length) : (0 ≤ EL l i (-1) (Dg c (ts.getD k default).words) ∧ ((Cu (Bq l (BG c ts) i k)).1 < 0 ∨ (((ts.getD (Cu (Bq l (BG c ts) i k)).1.toNat default).words.length : Nat) : Int) < (((ts.getD k default).words.length : Nat) : Int))) ↔ (0 ≤ cT l i ((BG c ts).getD k default) ∧ Hy (BG c ts) (Bq l (BG c ts) i k) k = true) := by
  have j := KG (l := l) (fs := BG c ts) (i := i) (k := k) (n := ts.length) o ω ω
  rw [Nh, K8 j, K8 hk, M4 hk]
  unfold cT
  omega
theorem R5 {l : List Vc.Item} {fs : List (List (List AQ))} {i k : Nat} (j : i < l.length) : -1 ≤ (Cu (Bq l fs i k)).1 ∧ (Cu (Bq l fs i k)).1 < (k : Int) + 0 ∨ (Cu (Bq l fs i k)).1 = -1 := by
  cases h : Bq l fs i k with
  | none => exact .inr rfl
  | some q => have := (Fc l fs j k q h).1; exact .inl ⟨by show -1 ≤ ((q.1 : Nat) : Int); omega, by show ((q.1 : Nat) : Int) < _; omega⟩
set_option maxHeartbeats 1000000 in
theorem KP {bz : Option Addr} {cR b8 bb : Nat} {ts : List TermL} {ao : Option Addr} {b off cap : Nat} {c : List Clas} {bx : Option Addr} {bl b7 ba : Nat} {l : List Vc.Item} {w0 : World} (ht : RowR w0 bz cR b8 bb ts) (hc : RowR w0 ao b off cap c) (hl : RowE w0 bx bl b7 ba l) (hq : ∀ x ∈ l, x.text.length ≤ 140737488355328) (dw : l.length ≤ 4398046510976) :
    Calls Tryz.prog 136 #[.slice bz ts.length bb, .slice ao c.length cap, .slice bx l.length ba] w0 fun e w' => ∃ v, e = .returned v ∧ Evo w0 w' [] ∧ OwnE w' w0.heap.size 187 v (AR l (BG c ts) 0) := by
 have du := LI hc; have db := Uo ht
 refine AG (n := 65) func136 rfl ntmps136 rfl ?_
 have o : Evo w0 w0 [] := Evo.refl _ _
 have a7 := ht.keep
 have cg := ht.bd
 have bM := hc.keep
 have cb := hc.bd
 have bY := Ak hl
 have cc := hl.bd
 refine Zs (Zn Bs (Zs (Zn Bs (AB (Zs (Zn Ah (AD (AZ (α := Nat) [7, 8, 9, 10, 11, 12, 13, 14, 15, 16, 17, 18, 19, 20, 21, 22, 23, 24, 25, 26, 27, 28, 29, 30, 31, 32, 33, 34, 35, 36, 37, 38, 39, 40, 41, 42, 43, 44, 45, 46, 47, 48, 49, 50, 51, 52, 53, 54, 55, 56, 57, 58, 59, 60, 61, 62, 63] (fun i g w => ∃ vo : Value, ∃ sp : List Spt, g 8 = .int .i64 (i : Nat) ∧ g 7 = vo ∧ i ≤ l.length ∧ OwnE w w0.heap.size 187 vo sp ∧ sp ++ AR l (BG c ts) i = AR l (BG c ts) 0 ∧ sp.length ≤ i ∧ w0.heap.size ≤ w.heap.size ∧ Evo w0 w []) (fun i => l.length - i) 0 ?_ ?_))))))))
 refine ⟨_, [], rfl, rfl, δ, (OwnE.nil _ _ _), rfl, δ, δ, o⟩
 rintro i g w2 ⟨vo, sp, hj3, hj4, dB, j, hsp, hsl, hzl1, o⟩
 have b3 := o.size
 replace ht := a7.now o
 replace hc := bM.now o
 replace hl := bY _ o
 refine Zk 8 hj3 (Zk 7 hj4 (AB (Zs (Zo AN (Zo Ar (Zo (AL rfl η underlying94) (Zn Bu (AE η (fun c3 => ?_) (fun c3 => ?_)))))))))
 refine AF (AD (Zs (Zo Ah (Zn Ah (AB (Zs (Zo Ar (Zo (AL rfl η underlying25) (Zn AN ?_)))))))))
 refine AD (AZ (α := Nat) [9, 10, 11, 12, 13, 20, 21, 22, 23, 24, 25, 26, 27, 28, 29, 30, 31, 32, 33, 34, 35, 36, 37, 38, 39, 40, 41, 42, 43, 44, 45, 46, 47, 48, 49, 50, 51] (fun k g w => g 20 = .int .i64 (k : Nat) ∧ g 9 = .int .i64 (Cu (Bq l (BG c ts) i k)).1 ∧ g 10 = .int .i64 (Cu (Bq l (BG c ts) i k)).2 ∧ k ≤ ts.length ∧ OwnE w w0.heap.size 187 vo sp ∧ w2.heap.size ≤ w.heap.size ∧ Evo w0 w []) (fun k => ts.length - k) 0 ?_ ?_)
 refine ⟨σ, rfl, rfl, δ, j, δ, o⟩
 rintro k g w7 ⟨c4, hj9, hj10, hk_k, j, hzl6, o⟩
 have b4 := o.size
 refine Zk 20 c4 (Zk 9 hj9 (Zk 10 hj10 (Zs (Zn Bu (AB (AE η (fun bQ => ?_) (fun bQ => ?_)))))))
 refine AF (AB (AD (AB ?_)))
 have b0 := fun g C => (j.block (g := g) C).2
 have b5 := Ss db k; have c0 := KG (l := l) (fs := (BG c ts)) (i := i) (k := k) (n := ts.length) ω ω ω; have dt := R5 (l := l) (fs := (BG c ts)) (i := i) (k := k) ω
 refine AA (Zo AN (Zo (AV (k) rfl underlying25 Ci η η χ ω ((a7.now o).addr (i := k) ω)) ?_))
 obtain ⟨cQ, dh, cH, ca, cK, df, ct, b_, cI, de, cr, b9, hX⟩ := EP a7 (k) ω
 have bg := fun (w' : World) (h : Evo w0 w' []) => (hX w' h).1
 have aT := fun (w' : World) (h : Evo w0 w' []) => (hX w' h).2.1
 have bn := fun (w' : World) (h : Evo w0 w' []) => (hX w' h).2.2.1
 have bm := fun (w' : World) (h : Evo w0 w' []) => (hX w' h).2.2.2
 clear hX
 have bs := (aT _ o).bd
 have bq := (bn _ o).bd
 have bp := (bm _ o).bd
 refine Zo (AY rfl Kl Ci η rfl (bg _ o)) ?_
 have c9 := fun g C => (j.block (g := g) C).2
 refine DI (zs := [_, _, _]) Ci η rfl ?_
 intro b14 w15 J14 E15 B14 Y14
 have dk := E15.size
 replace o := Z0 o E15
 replace j := j.evo0 E15
 refine Zo Ah (BB (v := .agg _) (vs := [_, _, _]) (cs' := [_, _, _]) η η B14 Ci η rfl η rfl η ?_)
 intro w16 E16 V16 hb_new
 have dm := E16.size
 replace o := Z1 o E16 ε
 replace hc := bM.now o
 replace j := j.evo E16 (by intro g C hm; simp at hm; subst hm; have h7 := b0 g C; omega)
 replace bF := aT _ o
 replace B14 := hb_new
 clear hb_new
 refine As (Zs (Zo Ar (Zo AN (Zo Ar (Zo (AY rfl Kl Ci η rfl B14.at) (Zr [.slice _ _ _, .agg _] rfl η func172 (Ov hc bF b5.2 b5.1) ?_))))))
 rintro e dx ⟨dj, rfl, F17, J⟩
 refine ⟨_, rfl, ?_⟩
 have dn := F17.size
 replace o := Z0 o F17
 replace hl := bY _ o
 replace j := j.evo0 F17
 replace B14 := B14.evo0 F17
 obtain ⟨dd, g18, di, b6, R⟩ := J.rowOf
 subst b6
 have bt := R.bd
 refine Zr [.slice _ _ _, .int _ _, .slice _ _ _] rfl η func171 (KZ hl R (i := (i : Int)) hq ω ω) ?_
 rintro e dy ⟨rfl, F19⟩
 refine ⟨_, rfl, ?_⟩
 have dp := F19.size
 replace o := Z0 o F19
 replace j := j.evo0 F19
 replace B14 := B14.evo0 F19
 replace J := J.evo0 F19
 replace R := R.evo0 F19
 have bc : EL l i (-1) (Dg c (ts.getD k default).words) = cT l i ((BG c ts).getD k default) := by rw [M4 ω]; rfl
 refine Zn Ah (AB ?_)
 obtain ⟨dQ, dR, z29, z39, z49, z59, dS, z79, dT, dU, z109, z119, cV, _, _, _⟩ := QE (a7.now o) (Cu (Bq l (BG c ts) i k)).1.toNat c0
 refine Ba ζ ζ (Zq (fun w' U => AN) (Zq (fun w' U => BQ rfl η η) (Zq (fun w' U => Br) ?_)))
 refine Dm rfl Aq rfl (fun C w' U => AN) ?_
 refine Dm rfl Aq rfl (fun C w' U => Cx rfl (Af C) η) ?_
 refine Dm rfl Aq rfl (fun C w' U => AP (v := .bool _) rfl (Af C)) ?_
 refine Dm rfl (CP η) rfl (fun C w' U => AJ rfl η EA) ?_
 refine Dm rfl (CP η) rfl (fun C w' U => AH rfl IB (Af C) ((B14.at.evo0 U).cell 0 η)) ?_
 refine Dm rfl (CP η) rfl (fun C w' U => AL rfl (Af C) underlying83) ?_
 refine Dm rfl (CP η) rfl (fun C w' U => Ar) ?_
 refine Dm rfl (CP η) rfl (fun C w' U => AN) ?_
 refine Dm rfl (CP η) rfl (fun C w' U => AV ((Cu (Bq l (BG c ts) i k)).1.toNat) rfl underlying25 Ci (Af C) (Af C) ω ω ((a7.now o).addr (i := (Cu (Bq l (BG c ts) i k)).1.toNat) ω)) ?_
 refine Dm rfl (CP η) rfl (fun C w' U => AJ rfl (Af C) EA) ?_
 refine Dm rfl (CP η) rfl (fun C w' U => AH rfl IB (Af C) ((cV.evo0 U).cell 0 η)) ?_
 refine Dm rfl (CP η) rfl (fun C w' U => AL rfl (Af C) underlying83) ?_
 refine Dm rfl (CP η) rfl (fun C w' U => Bf rfl (Af C) (Af C)) ?_
 refine Dm rfl Aq rfl (fun C w' U => Cq rfl (Af C) rfl (fun hq => IK η (fun h => h) (And.intro C hq))) ?_
 refine Zq (fun w' U => Bc rfl η (fun hq => IK η (fun h => h) hq) rfl) ?_
 refine EE (fun dO F21 => ?_)
 have dq := F21.size
 replace o := Z0 o F21
 replace j := j.evo0 F21
 replace J := J.evo0 F21
 replace R := R.evo0 F21
 refine AE η (fun I => ?_) (fun I => ?_)
 refine AA (Zo AN (Zo AN (Zo Ah (Zn Ah (AO (AA (Zo A8 (Zn AN (Zg (k + 1) ?_)))))))))
 refine ⟨σ, (congrArg (Value.int _) (by first | (rw [Gg l _ ((Gu ω ω).1 I)]; rfl) | (rw [G3 l _ (fun q9 => I ((Gu ω ω).2 q9))]))), (congrArg (Value.int _) (by first | (rw [Gg l _ ((Gu ω ω).1 I)]; exact bc) | (rw [G3 l _ (fun q9 => I ((Gu ω ω).2 q9))]))), δ, j, δ, o⟩
 refine AF (AO (AA (Zo A8 (Zn AN (Zg (k + 1) ?_)))))
 refine ⟨σ, (congrArg (Value.int _) (by first | (rw [Gg l _ ((Gu ω ω).1 I)]; rfl) | (rw [G3 l _ (fun q9 => I ((Gu ω ω).2 q9))]))), (congrArg (Value.int _) (by first | (rw [Gg l _ ((Gu ω ω).1 I)]; exact bc) | (rw [G3 l _ (fun q9 => I ((Gu ω ω).2 q9))]))), δ, j, δ, o⟩
 refine AW rfl (AB (Zs (Zo AN (Zn Bu (AE η (fun a1 => ?_) (fun a1 => ?_))))))
 refine AB ?_
 obtain rfl : k = ts.length := by omega
 obtain ⟨a8, a6⟩ : ∃ z, z = i + 1 := ⟨_, rfl⟩
 have ag : AR l (BG c ts) i = AR l (BG c ts) a8 := by rw [a6]; exact Jw l _ ω (by rw [Kz]; exact NW a1)
 refine AA (Zo AN (Zo A8 (Zn Ah (AW rfl (Zg a8 ?_)))))
 refine ⟨_, _, (congrArg (Value.int _) ω), rfl, δ, j, (by first | (rw [← hsp, ag]; done) | (rw [← hsp, ag]; simp; done)), τ, δ, o⟩
 refine AF (AB ?_)
 obtain rfl : k = ts.length := by omega
 obtain ⟨q9, b2, c_, da⟩ := UQ a1
 have dv := Fc l (BG c ts) ω _ _ b2
 obtain ⟨a8, a6⟩ : ∃ z, z = q9.2.toNat := ⟨_, rfl⟩
 have ag : AR l (BG c ts) i = ⟨(Cu (Bq l (BG c ts) i ts.length)).1, (i : Int), (Cu (Bq l (BG c ts) i ts.length)).2⟩ :: AR l (BG c ts) a8 := by rw [a6, c_, da]; exact Nn l _ ω (by rw [Kz]; exact b2)
 refine AA (Zo (AP (v := vo) rfl η) (Zo AN (Zo AN (Zo AN (Zo (Aj (pv := [(0, .int _ _), (1, .int _ _), (2, .int _ _)]) (zs := [_, _, _]) (cells := [_, _, _]) rfl Er η Ts η η) (Ad (u := .agg _) (y := ⟨_, _, _⟩) rfl rfl underlying158 Er η j (fun _ => η) η ξ (τ) (τ) ω ?_))))))
 intro q_v24 v24 w25 E25 hov24 hlv24
 have dr := E25.size
 replace o := AI o E25 (fun g C => .inl (by first | exact (j.block C).1 | (have := j.block C; omega)))
 refine Zn (AM (v := v24) rfl η) (AA (Zo AN (Zn Ah (AO (Zg a8 ?_)))))
 refine ⟨_, _, (congrArg (Value.int _) ω), rfl, δ, hov24, (by first | (rw [← hsp, ag]; done) | (rw [← hsp, ag]; simp; done)), τ, δ, o⟩
 refine AW rfl (Zs (Zo (AP (v := vo) rfl η) (Zn (AM (v := vo) rfl η) (AK (BN (v := vo) rfl η) ?_))))
 exact ⟨_, rfl, o, by rw [Pc l _ ω, List.append_nil] at hsp; rw [← hsp]; exact j⟩
end Go.Proofs.YtlfjocbnbceceaaGreatDoor
namespace Go.Vc
open Go Go.RowKit Go.IntWalk
def FRow (w : World) (bt : Nat) (v : Value) (l : List (List AQ)) : Prop := ∀ w', Evo w w' [bt] → ∃ ao b off cap, v = .slice ao (l.map SetS.mk).length cap ∧ RowR w' ao b off cap (l.map SetS.mk)
theorem FRow.evo {w w' : World} {j : Nat} {v : Value} {l : List (List AQ)} (h : FRow w j v l) (he : Evo w w' [j]) : FRow w' j v l := fun I o => h I (Evo.trans he o (fun x C _ => C))
theorem FRow.of {w : World} {base E j : Nat} {v : Value} {l : List (List AQ)} (h : OwnR w base E [j] v (l.map SetS.mk)) (R : j < base) : FRow w j v l := fun w' he => by
  obtain ⟨o, g, cap, I, C⟩ := (h.evoY he (fun y J => by have e : y = j := (by simpa using J); omega)).rowOf
  exact ⟨o, g, 0, cap, I, C⟩
theorem Wx (l : List (List AQ)) : (l.map SetS.mk).map (·.ks) = l := by rw [List.map_map]; exact List.map_id' l
section
variable {P : Program} {n : Nat} {f : Fr} {w : World}
theorem M3 {B : Exit → Act → World → Prop} (hB : ∀ i a w, ¬ B (.goto i) a w) {i : Nat} {a : Act} {w : World} : ∀ k : List Kont, ¬ Kx P B k (.goto i) a w
  | [], h => hB i a w h
  | .code _ :: k, h => M3 hB k h
  | .blk _ :: k, h => M3 hB k h
  | .stop _ :: k, h => M3 hB k h
theorem aG {fn : Func} {R : Ending → World → Prop} {c : Code} {k : List Kont} (h : KF P (bodyPost P fn R) n (.code c :: k) f w) : KF P (bodyPost P fn R) n (.code (.scope c) :: k) f w := by
  intro a ha
  show (Code.scope c).wp P (Kx P (bodyPost P fn R) k) a w
  refine wp_scope_straight (wp_mono (h a ha) fun e a w j => ?_)
  cases e with
  | goto i => exact (M3 (P := P) (fun _ _ _ h => h) k j).elim
  | normal => exact j
  | exit i => exact j
  | ret => exact j
  | panic c => exact j
  | outgrown => exact j
theorem Zb {B : Exit → Act → World → Prop} {l : Nat} {k : List Kont} (h : KF P B n k f w) : KF P B n (.code (.label l) :: k) f w := fun a j => wp_label (h a j)
end
theorem YQ {α : Type} [Rep α] {w : World} {b : Nat} {T : TypeId} {cs : List Value} {x : α} (E : List Nat) (h : Blk w b T cs) (C : b ∉ E) (o : ∀ w', Evo w w' E → Rep.rep w' cs x) : RowRK w E (some ⟨b, 0, none⟩) b 0 1 [x] := by
  refine ⟨[cs], fun w' he => ⟨⟨by simp, fun _ => rfl, fun i c j => ?_⟩, RepL.one (o w' he)⟩⟩
  cases i with
  | zero =>
    simp at j; subst j
    refine ⟨Rep.len (o w' he), ?_⟩
    have := (h.evo he C).at
    simpa using this
  | succ i => simp at j
section
variable {P : Program} {B : Exit → Act → World → Prop} {n : Nat} {k : List Kont} {f : Fr} {w : World} {ops : Array Oper} {rest : List Oper}
theorem Z6 {T E d m J len : Nat} {t : TypeId} {pos : String} {R : Array Edge} {x y : Operand} {z : Value} {zs : List Value} {κ I : IntKind} {i j : Int}
    (hu : P.underlying T = some (.slice E)) (ht : Dl P E = some (m, J, some z)) (hz : z.cells = zs.toArray) (hm : (Nat.beq zs.length m && Nat.ble 1 m) = true) (hd : Nat.blt d n = true)
    (hx : opv f x = .int κ i) (hy : opv f y = .int I j) (hi : i = (len : Int)) (hj : j = (len : Int)) (hlen : len ≤ 140737488355328) (hb : J * len ≤ 281474976710656)
    (h : ∀ b w', b = w.heap.size → Evo w w' [] → FB w' b E m len (fun _ => zs) → w'.heap.size = b + 1 → KL P B n ops k rest (upd f d (.slice (some ⟨b, 0, none⟩) len len)) w') :
    KL P B n ops k (⟨some d, .makeSlice T x y, t, pos, R, none⟩ :: rest) f w := by
  simp only [Bool.and_eq_true, Nat.ble_eq] at hm
  have C := Nat.eq_of_beq_eq_true hm.1
  obtain ⟨it, hit, h1, h2, h3⟩ := KW ht
  have a1 : len ≤ len * m := Nat.le_mul_of_pos_right len ω
  have U : (J : Int) * (len : Int) = ((J * len : Nat) : Int) := by simp
  have o := run_make (P := P) w T E it z hu hit h3 κ I (len : Int) (len : Int) ω (Int.le_refl _) (by rw [h2, U]; omega) ω
  simp only [Int.toNat_natCast, h1] at o
  rw [Iu hz C ω len] at o
  refine Hp (v := .slice (some ⟨w.heap.size, 0, none⟩) len len) (w' := w.alloc (.cells (Hc len (fun _ => zs)).toArray E)) rfl rfl hd ?_ (h _ _ rfl (Evo.alloc _ _ _) ⟨heap_alloc_new w _, fun _ => C⟩ (by simp))
  subst hi
  subst hj
  simp [execOp, hx, hy, o]
end
end Go.Vc
namespace Go.Proofs.YtlfjocbnbceceaaGreatDoor
open Go.RowKit Go.Vc Go.Proofs.Tryz
theorem Ta : DH Tryz.prog 187 = some true := ζ
theorem YJ : DH Tryz.prog 200 = some false := ζ
theorem IV : CG Tryz.prog 187 0 = some 0 := ζ
theorem YK : CG Tryz.prog 187 2 = some 2 := ζ
theorem NK : Dl Tryz.prog 200 = some (1, 24, some (.slice none 0 0)) := ζ
theorem Mw {l : List Vc.Item} {c : List Clas} {ts : List TermL} {i k : Nat} (o : i < l.length) (hk : k < ts.length) {e : Int} (he : e = cT l i ((BG c ts).getD k default)) : (0 ≤ e ∧ ((Cu (Bq l (BG c ts) i k)).1 < 0 ∨ (((ts.getD (Cu (Bq l (BG c ts) i k)).1.toNat default).words.length : Nat) : Int) < ((((Dg c (ts.getD k default).words).map SetS.mk).length : Nat) : Int))) ↔ (0 ≤ cT l i ((BG c ts).getD k default) ∧ Hy (BG c ts) (Bq l (BG c ts) i k) k = true) := by
  have j := KG (l := l) (fs := BG c ts) (i := i) (k := k) (n := ts.length) o ω ω
  rw [Nh, K8 j, K8 hk, List.length_map, H5, he]
  omega
theorem aE (w : World) (cs : List Value) (x : SetS) (h : Rep.rep w cs x) : DL cs = true := by obtain ⟨b, rfl, _⟩ := h; rfl
section
variable {l : List Vc.Item} {fs : List (List (List AQ))} {i to9 : Nat}
theorem UO (o : i < l.length) (h : (i : Int) < (to9 : Int) ∨ ¬ Fv (l.getD i default)) : AR l fs (max i to9) = AR l fs (max (i + 1) to9) := by
  by_cases h1 : i < to9
  · rw [show max i to9 = max (i + 1) to9 by omega]
  · have j : ¬ Fv (l.getD i default) := h.resolve_left ω
    rw [show max i to9 = i by omega, show max (i + 1) to9 = i + 1 by omega]
    exact Jw l fs o (Lt l fs j _)
theorem WX (o : i < l.length) (h : ¬ ((i : Int) < (to9 : Int) ∨ ¬ Fv (l.getD i default))) (j : Bq l fs i fs.length = none) : AR l fs (max i to9) = AR l fs (max (i + 1) to9) := by
  have h1 : ¬ (i : Int) < (to9 : Int) := fun q => h (.inl q)
  rw [show max i to9 = i by omega, show max (i + 1) to9 = i + 1 by omega]
  exact Jw l fs o j
theorem WK (o : i < l.length) (h : ¬ ((i : Int) < (to9 : Int) ∨ ¬ Fv (l.getD i default))) {q : Nat × Int} (j : Bq l fs i fs.length = some q) : AR l fs (max i to9) = ⟨(q.1 : Int), (i : Int), q.2⟩ :: AR l fs (max (i + 1) q.2.toNat) := by
  have h1 : ¬ (i : Int) < (to9 : Int) := fun q => h (.inl q)
  have C := Fc l fs o _ _ j
  rw [show max i to9 = i by omega, show max (i + 1) q.2.toNat = q.2.toNat by omega]
  exact Nn l fs o j
theorem UT {o : Option (Nat × Int)} (h : ¬ (Cu o).1 < 0) : ∃ q, o = some q ∧ (Cu o).1 = (q.1 : Int) ∧ XW i o = (i : Int) ∧ Yk o = q.2 := by
  cases o with
  | none => exact absurd (show (-1 : Int) < 0 by decide) h
  | some q => exact ⟨q, rfl, rfl, rfl, rfl⟩
end
set_option maxHeartbeats 1000000 in
theorem SA {da : Option Addr} {dU dz b9 : Nat} {ts : List TermL} {ao : Option Addr} {b off cap : Nat} {c : List Clas} {c_ : Option Addr} {bl dy b7 : Nat} {l : List Vc.Item} {w0 : World} (ht : RowR w0 da dU dz b9 ts) (hc : RowR w0 ao b off cap c) (hl : RowE w0 c_ bl dy b7 l) (hq : ∀ x ∈ l, x.text.length ≤ 140737488355328) (ff : l.length ≤ 4398046510976) (fg : ts.length ≤ 1954687338760) :
    Calls Tryz.prog 187 #[.slice da ts.length b9, .slice ao c.length cap, .slice c_ l.length b7] w0 fun e w' => ∃ v, e = .returned v ∧ Evo w0 w' [] ∧ OwnE w' w0.heap.size 187 v (AR l (BG c ts) 0) := by
 have dr := LI hc; have eo := Uo ht
 refine AG (n := 114) func187 rfl ntmps187 rfl ?_
 have C : Evo w0 w0 [] := Evo.refl _ _
 have bp := ht.keep
 have dS := ht.bd
 have bM := hc.keep
 have dQ := hc.bd
 have bm := Ak hl
 have dR := hl.bd
 refine Zs (Zn Bs (aG (Zs (Zo Ar (Zo (AL rfl η underlying25) (Z6 (len := ts.length) (zs := [_]) underlying213 NK η rfl rfl η η ω ω ω ω ?_))))))
 intro bt w1 hebt E1 hout hzbt
 have Q1 := E1.size
 replace C := Z0 C E1
 replace ht := bp.now C
 replace hc := bM.now C
 replace hl := bm _ C
 refine Zn (AM (v := .slice (some ⟨bt, 0, none⟩) _ _) rfl η) (AB (Zs (Zo Ar (Zo (AL rfl η underlying25) (Zn AN (AD (AZ (α := Nat) [8, 9, 11, 24, 25, 26, 27, 28, 29, 30, 31, 32, 33, 34, 35, 36, 37, 38, 39, 40, 41, 42, 43, 44, 45, 46, 47, 48, 49, 50] (fun k g w => ∃ vs : Nat → Value, g 24 = .int .i64 (k : Nat) ∧ k ≤ ts.length ∧ FB w bt 200 1 ts.length (fun x => [vs x]) ∧ (∀ x, x < k → FRow w bt (vs x) (Dg c (ts.getD x default).words)) ∧ (∀ x, k ≤ x → vs x = .slice none 0 0) ∧ w1.heap.size ≤ w.heap.size ∧ Evo w0 w []) (fun k => ts.length - k) 0 ?_ ?_)))))))
 refine ⟨(fun _ => .slice none 0 0), σ, δ, hout, (fun x hx => absurd hx ω), (fun x hx => rfl), δ, C⟩
 rintro k g w3 ⟨vs, hj4, hk_k, o, hrw, hnl, hzl2, C⟩
 have dw := C.size
 have eJ := o.lt
 replace ht := bp.now C
 replace hc := bM.now C
 replace hl := bm _ C
 refine Zk 24 hj4 (Zs (Zn Bu (AB (AE η (fun ea => ?_) (fun ea => ?_)))))
 refine AF (AB (AD (AB ?_)))
 have hB : Evo w3 w3 [bt] := Evo.refl _ _
 refine AA (Zo AN (Zo (AV (k) rfl underlying25 Ci η η χ ω (ht.addr (i := k) ω)) ?_))
 obtain ⟨eC, e4, ew, dX, eB, e3, ev, dW, eA, e2, eu, dV, hX⟩ := EP bp (k) ω
 have b_ := fun (w' : World) (h : Evo w0 w' []) => (hX w' h).1
 have bq := fun (w' : World) (h : Evo w0 w' []) => (hX w' h).2.1
 have cb := fun (w' : World) (h : Evo w0 w' []) => (hX w' h).2.2.1
 have ca := fun (w' : World) (h : Evo w0 w' []) => (hX w' h).2.2.2
 clear hX
 have dh := (bq _ C).bd
 have df := (cb _ C).bd
 have de := (ca _ C).bd
 refine Zo (AY rfl Kl Ci η rfl (b_ _ C)) (DI (zs := [_, _, _]) Ci η rfl ?_)
 intro b8 w9 J8 E9 B8 Y8
 have Q9 := E9.size
 replace C := Z0 C E9
 replace hB := Z0 hB E9
 replace o := o.evo0 E9
 replace e6 := b_ _ C
 refine Zo Ah (BB (v := .agg _) (vs := [_, _, _]) (cs' := [_, _, _]) η η B8 Ci η rfl η rfl η ?_)
 intro w10 E10 V10 hb_new
 have eN := E10.size
 replace C := Z1 C E10 ε
 replace hB := Z1 hB E10 ε
 replace ht := bp.now C
 replace hc := bM.now C
 replace hl := bm _ C
 replace o := o.evo E10 θ
 replace e_ := bq _ C
 replace e8 := cb _ C
 replace e7 := ca _ C
 replace B8 := hb_new
 clear hb_new
 refine As (AB ?_)
 have ep := Ss eo k
 refine AA (Zo (AJ rfl η EA) (Zo (AH rfl IB η (B8.at.cell 0 η)) (Zo (AL rfl η underlying83) (Zn AN (AD (AZ (α := Nat) [11, 32, 33, 34, 35, 36, 37, 38, 39, 40, 41, 42, 43, 44, 45, 46, 47, 48, 49] (fun j g w => ∃ vc : Value, g 32 = .int .i64 (j : Nat) ∧ j ≤ (ts.getD k default).words.length ∧ OwnR w w10.heap.size 171 [bt] vc ((Dg c ((ts.getD k default).words.take j)).map SetS.mk) ∧ FB w bt 200 1 ts.length (fun x => if x = k then [vc] else [vs x]) ∧ w10.heap.size ≤ w.heap.size ∧ Evo w0 w [] ∧ Evo w3 w [bt]) (fun j => (ts.getD k default).words.length - j) 0 ?_ ?_))))))
 refine ⟨(.slice none 0 0), σ, δ, (OwnR.nil _ _ _ _), (o.congr (fun x => by by_cases e9 : x = k; (subst e9; rw [if_pos rfl, hnl x (Nat.le_refl _)]); rw [if_neg e9])), δ, C, hB⟩
 rintro j g fh ⟨vc, hj13, hk_j, az, o, hzl11, C, hB⟩
 have c3 := C.size
 have c0 := hB.size
 have eb := o.lt
 refine Zk 32 hj13 (Zs (Zn Bu (AB (AE η (fun dm => ?_) (fun dm => ?_)))))
 refine AF (AB (AD (AB ?_)))
 have bW := fun {g : Nat} (I : vc.ownBlock = some g) => az.block (g := g) I
 refine AA (Zo (AV (j) rfl underlying83 FG η η χ ω ((bq _ C).addr (i := j) ω)) ?_)
 have ct := fun (w' : World) (h : Evo w0 w' []) => (bq w' h).atD (j) ω
 refine Zo (AY rfl Ob FG η rfl (ct _ C)) ?_
 have eg := fun g I => (az.block (g := g) I).2
 refine CO (zs := [_, _]) (vs := [_, _]) FG η rfl η (fun _ => rfl) η rfl rfl η ?_
 intro b18 w19 J18 E19 B18 Y18
 have eO := E19.size
 replace C := Z0 C E19
 replace hB := Z0 hB E19
 replace az := az.evo0 E19
 replace o := o.evo0 E19
 refine As ?_
 have bY := fun g I => (az.block (g := g) I); have dj := PQ ep.2 j; have fb := H5 c ((ts.getD k default).words.take j); have fc := List.length_take_le j (ts.getD k default).words
 have dk := o.lt
 have ef : bt ∉ vc.ownBlock.toList := fun hm => by have h9 := bY _ (Option.mem_toList.1 hm); omega
 have cI := o
 have dd := B18
 have bL := B18.at
 have eH := C
 have eG := hB
 refine CJ (vc.ownBlock.toList) ζ ?_
 intro w20 F21 J
 have eP := F21.size
 replace C := Z0 C F21
 replace hB := Z0 hB F21
 replace hc := bM.now C
 replace az := az.evo0 F21
 replace o := o.evo0 F21
 replace B18 := B18.evo0 F21
 refine Zt (i := 0) η (fun w' hC => AP (v := .slice (some ⟨bt, 0, none⟩) _ _) rfl η) J (Zt (i := 1) η (fun w' hC => AN) J (Zt (i := 2) η (fun w' hC => AP (v := .slice (some ⟨bt, 0, none⟩) _ _) rfl η) J (Zt (i := 3) η (fun w' hC => AN) J (Zt (i := 4) η (fun w' hC => AV (k) rfl underlying213 NK η η χ ω rfl) J (Zt (i := 5) η (fun w' hC => AH rfl YJ η ((cI.evo hC ef).cell0 (x := k) ω (v := vc) (r := []) (if_pos rfl))) J (Zt (i := 6) η (fun w' hC => Ar) J (Zt (i := 7) η (fun w' hC => AY rfl Ob FG η rfl (bL.evo hC (fun I => by have h8 := bW (Option.mem_toList.1 I); omega))) J ?_)))))))
 refine Zh (i := 8) ?_
 refine Zr [.slice _ _ _, .agg _] rfl η func208 (Qm hc (p := ((ts.getD k default).words.getD j default).strip) (q := ((ts.getD k default).words.getD j default).add) (SY dr _) (Up dr _) (by have := dj.1; omega) (by have := dj.2; omega)) ?_
 rintro e fi ⟨eL, rfl, F22, a7⟩
 refine ⟨_, rfl, ?_⟩
 have eQ := F22.size
 replace C := Z0 C F22
 replace hB := Z0 hB F22
 replace J := Z0 J F22
 replace az := az.evo0 F22
 replace o := o.evo0 F22
 refine Ap J ?_
 refine Zh (i := 9) ?_
 obtain ⟨ez, g23, eE, dx, bc, eI⟩ := a7.rowOf
 subst dx
 refine Zr [.slice _ _ _] rfl η func190 (PF bc) ?_
 rintro e fj ⟨b6, rfl, F24, bn, hsb24⟩
 refine ⟨_, rfl, ?_⟩
 have eR := F24.size
 replace C := Z0 C F24
 replace hB := Z0 hB F24
 replace J := Z0 J F24
 replace az := az.evo0 F24
 replace o := o.evo0 F24
 replace a7 := a7.evo0 F24
 replace bc := bc.evo0 F24
 refine Ap J ?_
 refine Zh (i := 10) ?_
 refine Av (pv := [(0, .map (some b6))]) (zs := [_]) (cs := [_]) underlying200 QC η rfl η rfl η ?_
 intro b25 w26 J25 E26 B25 Y25
 have eS := E26.size
 replace C := Z0 C E26
 replace hB := Z0 hB E26
 replace J := Z0 J E26
 replace az := az.evo0 E26
 replace o := o.evo0 E26
 replace a7 := a7.evo0 E26
 replace bc := bc.evo0 E26
 replace bn := bn.evo0 E26
 have aT : Evo w26 w26 ([bt] ++ vc.ownBlock.toList) := Evo.refl _ _
 have bw := YQ ([bt] ++ vc.ownBlock.toList) B25 (by intro hm; simp only [List.singleton_append, List.mem_cons] at hm; rcases hm with hm | hm; omega; have h8 := bY _ (Option.mem_toList.1 hm); omega) (fun w9 h9 => ⟨b6, rfl, bn.evo h9 (by intro hm; simp only [List.singleton_append, List.mem_cons] at hm; rcases hm with hm | hm; omega; have h8 := bY _ (Option.mem_toList.1 hm); omega)⟩) (x := (⟨Ed c ((ts.getD k default).words.getD j default).strip ((ts.getD k default).words.getD j default).add⟩ : SetS))
 have cH := (bw.now aT).bd
 refine Ap J ?_
 refine Zh (i := 11) ?_
 refine Wl (w1 := w26) (E' := [bt] ++ vc.ownBlock.toList) rfl underlying200 QC η aE az η η bw ((fun w9 h9 => Evo.trans aT h9 (fun x hx _ => hx))) rfl ((by simp only [List.length_map, List.length_cons, List.length_nil]; omega)) ((by simp only [List.length_map, List.length_cons, List.length_nil]; omega)) ω ?_
 intro v27 w28 E28 a8 hlv27
 have eT := E28.size
 replace C := AI C E28 (fun g I => .inl (by first | exact (az.block I).1 | (have := az.block I; omega)))
 replace hB := AI hB E28 (fun g I => .inl (by first | exact (az.block I).1 | (have := az.block I; omega)))
 replace J := AI J E28 (fun g I => .inr (Option.mem_toList.2 I))
 replace aT := AI aT E28 (fun g I => .inr (List.mem_append.2 (.inr (Option.mem_toList.2 I))))
 replace o := o.evo E28 (by intro hm; have bQ := Option.mem_toList.1 hm; first | (have := az.block bQ; omega) | (simp [Value.ownBlock] at bQ; omega))
 obtain ⟨dT, dY, et⟩ := a8.shape
 subst et
 refine Ap J ?_
 refine Zt (i := 12) η (fun w' hC => AV (k) rfl underlying213 NK η η χ ω rfl) J ?_
 refine Zh (i := 13) ?_
 refine Ku (v := (.slice dT _ dY)) (vs := [_]) (k) η rfl η o ω NK η rfl η ?_
 intro w29 E29 V29 hb_new
 have eV := E29.size
 replace C := Z1 C E29 ε
 replace hB := Z1 hB E29 ε
 replace aT := Z1 aT E29 ε
 replace a8 := a8.evo E29 (by simp) (by intro g I hm; simp at hm; subst hm; have := a8.block I; omega)
 replace o := hb_new
 clear hb_new
 refine CV ζ ?_
 refine CH ζ ?_
 refine AO (AA (Zo A8 (Zn AN (Zg (j + 1) ?_))))
 refine ⟨_, σ, δ, (by rw [Me ω, List.map_append]; exact a8), (o.congr (fun x => by by_cases e9 : x = k <;> simp [e9])), δ, C, hB⟩
 refine AW rfl (AO (AA (Zo A8 (Zn AN (Zg (k + 1) ?_)))))
 refine ⟨(fun x => if x = k then vc else vs x), σ, δ, (o.congr (fun x => by by_cases e9 : x = k <;> simp [e9])), (fun x hx => by show FRow _ _ (if x = k then vc else vs x) _; by_cases e9 : x = k; (rw [if_pos e9, e9]; exact FRow.of (by have h8 := az; rw [List.take_of_length_le ω] at h8; exact h8) ω); (rw [if_neg e9]; exact (hrw x ω).evo hB)), (fun x hx => by show (if x = k then vc else vs x) = _; rw [if_neg ω]; exact hnl x ω), δ, C⟩
 refine AW rfl (AB ?_)
 have ag : Evo w3 w3 [bt] := Evo.refl _ _
 have dv : ∀ x, x < ts.length → FRow w3 bt (vs x) (Dg c (ts.getD x default).words) := fun x hx => hrw x ω
 have dk := o.lt
 refine AA (Zn Bs (Zs (Zn Ah (AB (Zb (AB (Zs (Zo Ar (Zo (AL rfl η underlying94) ?_)))))))))
 refine Zn AN (AD (AZ (α := Nat) [12, 13, 14, 15, 16, 17, 18, 53, 54, 55, 56, 57, 58, 59, 60, 61, 62, 63, 64, 65, 66, 67, 68, 69, 70, 71, 72, 73, 74, 75, 76, 77, 78, 79, 80, 81, 82, 83, 84, 85, 86, 87, 88, 89, 90, 91, 92, 93, 94, 95, 96, 97, 98, 99, 100, 101, 102, 103, 104, 105, 106, 107, 108, 109, 110, 111, 112] (fun i g w => ∃ to9 : Nat, ∃ vo : Value, ∃ sp : List Spt, g 53 = .int .i64 (i : Nat) ∧ g 13 = .int .i64 (to9 : Nat) ∧ g 12 = vo ∧ i ≤ l.length ∧ FB w bt 200 1 ts.length (fun x => [vs x]) ∧ OwnE w w3.heap.size 187 vo sp ∧ to9 ≤ l.length ∧ sp ++ AR l (BG c ts) (max i to9) = AR l (BG c ts) 0 ∧ sp.length ≤ i ∧ w3.heap.size ≤ w.heap.size ∧ Evo w0 w [] ∧ Evo w3 w [bt]) (fun i => l.length - i) 0 ?_ ?_))
 refine ⟨0, _, [], σ, rfl, rfl, δ, o, (OwnE.nil _ _ _), δ, rfl, δ, δ, C, ag⟩
 rintro i g fk ⟨to9, vo, sp, hj32, hj33, hj34, hk_i, o, U, hto, hsp, hsl, hzl30, C, ag⟩
 have c4 := C.size
 have cQ := ag.size
 have ec := o.lt
 refine Zk 53 hj32 (Zk 13 hj33 (Zk 12 hj34 (Zs (Zn Bu (AB (AE η (fun dn => ?_) (fun dn => ?_)))))))
 refine AF (AB (AD (Zs (Zo AN (Zn Ah (AB (AB ?_)))))))
 have b0 := fun g I => (U.block (g := g) I).2
 refine AA (Zo AN (Zo AN (Zo Bu (Zo Br ?_))))
 refine Ab rfl Ay rfl (fun I => Ar) ?_
 refine Ab rfl Ay rfl (fun I => AN) ?_
 refine Ab rfl Ay rfl (fun I => AV (i) rfl underlying94 BX (Af I) (Af I) χ ω ((bm _ C).addr (i := i) ω)) ?_
 refine Ab rfl Ay rfl (fun I => AY rfl Mc BX (Af I) rfl ((bm _ C).atD (i) ω)) ?_
 refine Bb rfl Ay rfl (fun I => Am rfl (An (v := .agg _) (Af I) (rfl)) func191 rfl ζ) (fun I => (JT (x := (l.getD i default))).mono (fun e w' h => ⟨h.1, h.2⟩)) (fun fl F38 => ?_)
 have eW := F38.size
 replace C := Z0 C F38
 replace ag := Z0 ag F38
 replace o := o.evo0 F38
 replace U := U.evo0 F38
 refine Ab rfl Ay rfl (fun I => CQ rfl (Af I)) ?_
 refine Zn Ee (AE η (fun bs => ?_) (fun bs => ?_))
 obtain ⟨bf, bb⟩ : ∃ z, z = to9 := ⟨_, rfl⟩
 have a1 : AR l (BG c ts) (max i to9) = AR l (BG c ts) (max (i + 1) bf) := by rw [bb]; exact UO ω bs
 refine AW rfl (AA (Zo A8 (Zn AN (Zg (i + 1) ?_))))
 refine ⟨bf, _, _, σ, (congrArg (Value.int _) ω), rfl, δ, o, U, δ, (by first | (rw [← hsp, a1]; done) | (rw [← hsp, a1, List.append_assoc]; rfl)), τ, δ, C, ag⟩
 have cc := bs
 have ds : Fv (l.getD i default) := Classical.not_not.1 (fun q => bs (.inr q))
 refine AF (Zs (Zo (Aj (pv := [(0, .int _ _)]) (zs := [_, _, _]) (cells := [_, _, _]) rfl Er η Ts η η) ?_))
 have eh := fun g I => (U.block (g := g) I).2
 refine CO (zs := [_, _, _]) (vs := [_, _, _]) Er η rfl η (fun _ => rfl) η rfl rfl η ?_
 intro b41 w42 J41 E42 B41 Y41
 have eX := E42.size
 replace C := Z0 C E42
 replace ag := Z0 ag E42
 replace ht := bp.now C
 replace hc := bM.now C
 replace hl := bm _ C
 replace o := o.evo0 E42
 replace U := U.evo0 E42
 have R := B41.at
 refine As (AB (Zs (Zo (AP (v := .slice (some ⟨bt, 0, none⟩) _ _) rfl η) (Zo (AL rfl η underlying213) (Zn AN (AD (AZ (α := Nat) [16, 17, 18, 70, 71, 72, 73, 74, 75, 76, 77, 78, 79, 80, 81, 82, 83, 84, 85, 86, 87, 88, 89, 90, 91, 92, 93, 94, 95, 96, 97, 98, 99, 100, 101, 102] (fun m9 g w => g 70 = .int .i64 (m9 : Nat) ∧ m9 ≤ ts.length ∧ FB w bt 200 1 ts.length (fun x => [vs x]) ∧ OwnE w w3.heap.size 187 vo sp ∧ Blk w b41 187 [.int .i64 (Cu (Bq l (BG c ts) i m9)).1, .int .i64 (XW i (Bq l (BG c ts) i m9)), .int .i64 (Yk (Bq l (BG c ts) i m9))] ∧ w42.heap.size ≤ w.heap.size ∧ Evo w0 w [] ∧ Evo w3 w [bt]) (fun m9 => ts.length - m9) 0 ?_ ?_)))))))
 refine ⟨σ, δ, o, U, B41, δ, C, ag⟩
 rintro m9 g fm ⟨dt, hk_m9, o, U, B41, hzl43, C, ag⟩
 have c9 := C.size
 have cR := ag.size
 have ed := o.lt
 have ee := B41.lt
 replace hl := bm _ C
 have R := B41.at
 refine Zk 70 dt (Zs (Zn Bu (AB (AE η (fun dp => ?_) (fun dp => ?_)))))
 refine AF (AB (AD (AB ?_)))
 obtain ⟨e1, bF, eK, eD, er, b5⟩ := dv m9 ω _ ag
 have di := b5.bd
 have d_ := KG (l := l) (fs := (BG c ts)) (i := i) (k := m9) (n := ts.length) ω ω ω; have fa := R5 (l := l) (fs := (BG c ts)) (i := i) (k := m9) ω
 refine AA (Zo AN (Zo (AV (m9) rfl underlying213 NK η η χ ω rfl) (Zo (AH rfl YJ η (by have h9 := o.cell0 (x := m9) ω (v := vs m9) (r := []) rfl; rw [er] at h9; exact h9)) (Zo Ah (Zn Bs (Zs (Zo Ar (Zo AN (Zo Ar ?_)))))))))
 refine Zr [.slice _ _ _, .int _ _, .slice _ _ _] rfl η func192 (Kq hl b5 (i := (i : Int)) hq ω ω) ?_
 rintro e fo ⟨rfl, F49⟩
 refine ⟨_, rfl, ?_⟩
 have eY := F49.size
 replace C := Z0 C F49
 replace ag := Z0 ag F49
 replace o := o.evo0 F49
 replace U := U.evo0 F49
 replace B41 := B41.evo0 F49
 replace R := R.evo0 F49
 replace b5 := b5.evo0 F49
 have a_ : FR l (i : Int) (-1) (Z5 ((Dg c (ts.getD m9 default).words).map SetS.mk)) = cT l i ((BG c ts).getD m9 default) := by rw [show Z5 ((Dg c (ts.getD m9 default).words).map SetS.mk) = Dg c (ts.getD m9 default).words from Wx _, M4 ω, LD l _ _ _ ω (.inr (by simpa using ds))]; rfl
 refine Zn Ah (AB ?_)
 obtain ⟨fp, fq, z29, z39, z49, z59, fr, z79, ft, fu, z109, z119, dZ, _, _, _⟩ := QE (bp.now C) (Cu (Bq l (BG c ts) i m9)).1.toNat d_
 refine AA (Zo AN (Zo (BQ rfl η η) (Zo Br ?_)))
 refine Ab rfl Aq rfl (fun I => AJ rfl η IV) ?_
 refine Ab rfl Aq rfl (fun I => AH rfl A0 (Af I) (R.cell 0 η)) ?_
 refine Ab rfl Aq rfl (fun I => Cx rfl (Af I) η) ?_
 refine Ab rfl Aq rfl (fun I => AP (v := .bool _) rfl (Af I)) ?_
 refine Ab rfl (CP η) rfl (fun I => Ar) ?_
 refine Ab rfl (CP η) rfl (fun I => AL rfl (Af I) underlying200) ?_
 refine Ab rfl (CP η) rfl (fun I => Ar) ?_
 refine Ab rfl (CP η) rfl (fun I => AJ rfl η IV) ?_
 refine Ab rfl (CP η) rfl (fun I => AH rfl A0 (Af I) (R.cell 0 η)) ?_
 refine Ab rfl (CP η) rfl (fun I => AV ((Cu (Bq l (BG c ts) i m9)).1.toNat) rfl underlying25 Ci (Af I) (Af I) ω ω ((bp.now C).addr (i := (Cu (Bq l (BG c ts) i m9)).1.toNat) ω)) ?_
 refine Ab rfl (CP η) rfl (fun I => AJ rfl (Af I) EA) ?_
 refine Ab rfl (CP η) rfl (fun I => AH rfl IB (Af I) (dZ.cell 0 η)) ?_
 refine Ab rfl (CP η) rfl (fun I => AL rfl (Af I) underlying83) ?_
 refine Ab rfl (CP η) rfl (fun I => Bf rfl (Af I) (Af I)) ?_
 refine Ab rfl Aq rfl (fun I => Cq rfl (Af I) rfl (fun hq => IK η (fun h => h) (And.intro I hq))) ?_
 refine Zn Fm (AE η (fun ba => ?_) (fun ba => ?_))
 refine AA (Zo AN (Zo AN (Zo AN (Zo (Aj (pv := [(0, .int _ _), (1, .int _ _), (2, .int _ _)]) (zs := [_, _, _]) (cells := [_, _, _]) rfl Er η Ts η η) (BB (v := .agg _) (vs := [_, _, _]) (cs' := [_, _, _]) η η B41 Er η rfl η rfl η ?_)))))
 intro w51 E51 V51 hb_new
 have eZ := E51.size
 replace C := Z1 C E51 ε
 replace ag := Z1 ag E51 ε
 replace o := o.evo E51 θ
 replace U := U.evo E51 (by intro g I hm; simp at hm; subst hm; have h7 := b0 g I; omega)
 replace B41 := hb_new
 have R := B41.at
 clear hb_new
 refine As (AO (AA (Zo A8 (Zn AN (Zg (m9 + 1) ?_)))))
 refine ⟨σ, δ, o, U, (by first | (rw [Gg l _ ((Mw ω ω a_).1 ba)]; have h9 := B41; rw [a_] at h9; exact h9) | (rw [G3 l _ (fun q9 => ba ((Mw ω ω a_).2 q9))]; exact B41)), δ, C, ag⟩
 refine AF (AO (AA (Zo A8 (Zn AN (Zg (m9 + 1) ?_)))))
 refine ⟨σ, δ, o, U, (by first | (rw [Gg l _ ((Mw ω ω a_).1 ba)]; have h9 := B41; rw [a_] at h9; exact h9) | (rw [G3 l _ (fun q9 => ba ((Mw ω ω a_).2 q9))]; exact B41)), δ, C, ag⟩
 refine AW rfl (Zs (Zo (AJ rfl η IV) (Zo (AH rfl A0 η (R.cell 0 η)) (Zn (BQ rfl η η) (AE η (fun dq => ?_) (fun dq => ?_))))))
 have cK : m9 = ts.length := by omega
 subst cK
 obtain ⟨q9, du, ej, ek, en⟩ := UT (i := i) (show ¬ (Cu (Bq l (BG c ts) i ts.length)).1 < 0 by omega)
 have fe := Fc l (BG c ts) ω _ _ du
 obtain ⟨bf, bb⟩ : ∃ z, z = q9.2.toNat := ⟨_, rfl⟩
 have a1 : AR l (BG c ts) (max i to9) = ⟨(Cu (Bq l (BG c ts) i ts.length)).1, XW i (Bq l (BG c ts) i ts.length), Yk (Bq l (BG c ts) i ts.length)⟩ :: AR l (BG c ts) (max (i + 1) bf) := by rw [bb, ej, ek, en]; exact WK ω cc (by rw [Kz]; exact du)
 refine Zs (Zo (AP (v := vo) rfl η) (Zo (AY rfl Ta Er η rfl R) (Ad (u := .agg _) (y := ⟨_, _, _⟩) rfl rfl underlying158 Er η U (fun _ => η) η ξ (τ) (τ) ω ?_)))
 intro q_v53 v53 w54 E54 hov53 hlv53
 have e0 := E54.size
 replace C := AI C E54 (fun g I => .inl (by first | exact (U.block I).1 | (have := U.block I; omega)))
 replace ag := AI ag E54 (fun g I => .inl (by first | exact (U.block I).1 | (have := U.block I; omega)))
 replace o := o.evo E54 (by intro hm; have bQ := Option.mem_toList.1 hm; first | (have := U.block bQ; omega) | (simp [Value.ownBlock] at bQ; omega))
 replace B41 := B41.evo E54 (by intro hm; have h7 := b0 _ (Option.mem_toList.1 hm); omega)
 replace R := R.evo E54 (by intro hm; have h7 := b0 _ (Option.mem_toList.1 hm); omega)
 refine Zn (AM (v := v53) rfl η) (AA (Zo (AJ rfl η YK) (Zo (AH rfl A0 η (R.cell 2 η)) (Zn Ah (AO (AA (Zo A8 (Zn AN (Zg (i + 1) ?_)))))))))
 refine ⟨bf, _, _, σ, (congrArg (Value.int _) ω), rfl, δ, o, hov53, δ, (by first | (rw [← hsp, a1]; done) | (rw [← hsp, a1, List.append_assoc]; rfl)), τ, δ, C, ag⟩
 have cK : m9 = ts.length := by omega
 subst cK
 obtain ⟨bf, bb⟩ : ∃ z, z = to9 := ⟨_, rfl⟩
 have a1 : AR l (BG c ts) (max i to9) = AR l (BG c ts) (max (i + 1) bf) := by rw [bb]; exact WX ω cc (by rw [Kz]; exact NW ω)
 refine AF (AO (AA (Zo A8 (Zn AN (Zg (i + 1) ?_)))))
 refine ⟨bf, _, _, σ, (congrArg (Value.int _) ω), rfl, δ, o, U, δ, (by first | (rw [← hsp, a1]; done) | (rw [← hsp, a1, List.append_assoc]; rfl)), τ, δ, C, ag⟩
 refine AW rfl (Zs (Zo (AP (v := vo) rfl η) (Zn (AM (v := vo) rfl η) (AK (BN (v := vo) rfl η) ?_))))
 exact ⟨_, rfl, C, by rw [Pc l _ ω, List.append_nil] at hsp; rw [← hsp]; exact U.base_le ω⟩
end Go.Proofs.YtlfjocbnbceceaaGreatDoor
namespace Go.Proofs.YtlfjocbnbceceaaGreatDoor
open Go Go.RowKit Go.Vc
def A2 : AQ → List AQ
  | [] => [[]]
  | c :: r => if c = 32 then [] :: A2 r else match A2 r with | [] => [[c]] | w :: ws => (c :: w) :: ws
theorem Lk : ∀ s, A2 s ≠ []
  | [] => by simp [A2]
  | c :: r => by
    unfold A2
    split
    · simp
    · split <;> simp
theorem La : ∀ s : AQ, (Lib.indexByte s 32 = -1 ∧ A2 s = [s] ∧ s.count 32 = 0) ∨ (∃ m : Nat, Lib.indexByte s 32 = (m : Int) ∧ m < s.length ∧ A2 s = s.take m :: A2 (s.drop (m + 1)) ∧ s.count 32 = 1 + (s.drop (m + 1)).count 32)
  | [] => .inl ⟨rfl, rfl, rfl⟩
  | c :: r => by
    by_cases o : c = 32
    · subst o
      refine .inr ⟨0, rfl, by simp, rfl, ?_⟩
      rw [List.count_cons_self]; simp; omega
    · have C : (c == 32) = false := by simpa using o
      have j : (c :: r).count 32 = r.count 32 := by rw [List.count_cons, C]; rfl
      rcases La r with ⟨h1, h2, h3⟩ | ⟨m, h1, h2, h3, h4⟩
      · refine .inl ⟨?_, ?_, by rw [j, h3]⟩
        · unfold Lib.indexByte; rw [C, h1]; rfl
        · unfold A2; rw [if_neg o, h2]
      · refine .inr ⟨m + 1, ?_, by simp; omega, ?_, by rw [j, h4]; rfl⟩
        · unfold Lib.indexByte
          rw [C, h1]
          have I : (((m : Nat) : Int) == -1) = false := by simp
          rw [I]; simp
        · conv => lhs; unfold A2
          rw [if_neg o, h3]; rfl
theorem Lp : ∀ s : AQ, (A2 s).length = s.count 32 + 1
  | [] => rfl
  | c :: r => by
    have o := Lp r
    by_cases j : c = 32
    · subst j
      unfold A2
      rw [if_pos rfl, List.length_cons, o, List.count_cons_self]
    · have C : (c == 32) = false := by simpa using j
      unfold A2
      rw [if_neg j, List.count_cons, C]
      cases h : A2 r with
      | nil => exact absurd h (Lk r)
      | cons w ws => rw [h] at o; simpa using o
theorem Rp : ∀ (s : AQ) (j : Nat), j ≤ s.length → (∀ k, k < j → s.getD k default ≠ 32) → (j = s.length ∧ A2 s = [s]) ∨ (j < s.length ∧ (s.getD j default = 32 → A2 s = s.take j :: A2 (s.drop (j + 1))))
  | [], 0, _, _ => .inl ⟨rfl, rfl⟩
  | c :: r, 0, _, _ => by
    refine .inr ⟨by simp, fun h => ?_⟩
    have h' : c = 32 := h
    subst h'; rfl
  | c :: r, j + 1, hj, h => by
    have hc : ¬ c = 32 := h 0 ω
    rcases Rp r j (by simpa using hj) (fun k hk => h (k + 1) ω) with ⟨h1, h2⟩ | ⟨h1, h2⟩
    · refine .inl ⟨by simp [h1], ?_⟩
      unfold A2; rw [if_neg hc, h2]
    · refine .inr ⟨by simpa using h1, fun h3 => ?_⟩
      conv => lhs; unfold A2
      rw [if_neg hc, h2 h3]; rfl
theorem IZ : ∀ s : AQ, ((A2 s).map (·.length)).sum + (A2 s).length = s.length + 1
  | [] => rfl
  | c :: r => by
    have ih := IZ r
    by_cases hc : c = 32
    · unfold A2
      rw [if_pos hc]; simp; omega
    · unfold A2
      rw [if_neg hc]
      cases hs : A2 r with
      | nil => exact absurd hs (Lk r)
      | cons v vs => rw [hs] at ih; simp at ih ⊢; omega
def C2 (s : AQ) : Prop := (s ≠ [] ∧ s.length ≤ 64) ∧ (∀ j, j < s.length → BM (s.getD j default) = BM (s.getD 0 default)) ∧ (BM (s.getD 0 default) = 4 ∨ BM (s.getD 0 default) = 3)
instance (s : AQ) : Decidable (C2 s) := by unfold C2; infer_instance
def CC (s : AQ) : Prop := (∀ w ∈ A2 s, C2 w) ∧ (A2 s).length ≤ 8
instance (s : AQ) : Decidable (CC s) := by unfold CC; infer_instance
def CK (s : AQ) : List AQ := if CC s then A2 s else []
theorem Py : ∀ l : List AQ, (∀ w ∈ l, C2 w) → (l.map (·.length)).sum ≤ 64 * l.length
  | [], _ => by simp
  | w :: l, h => by
    have h1 := (h w (by simp)).1.2
    have h2 := Py l (fun x hx => h x (by simp [hx]))
    simp; omega
theorem XM {s : AQ} (h : CC s) : s.length ≤ 520 := by
  have h1 := IZ s
  have j := Py _ h.1
  have o := h.2
  omega
theorem Iq {s : AQ} (h : CC s) : CK s = A2 s := if_pos h
theorem Eu {s : AQ} (h : ¬ CC s) : CK s = [] := if_neg h
end Go.Proofs.YtlfjocbnbceceaaGreatDoor
namespace Go.Proofs
open Go.Shelf Go.Proofs.Tryz
def Tryz.lays143_ren : Go.Shelf.Ren := ⟨fun | 143 => 206 | 219 => 220 | 217 => 231 | 225 => 232 | 224 => 233 | 267 => 234 | 266 => 249 | 314 => 250 | n => n, fun | 9 => 9 | 3 => 3 | 4 => 4 | 5 => 5 | 46 => 105 | 146 => 245 | 51 => 151 | n => n, fun | 1 => 0 | n => n⟩
theorem Tryz.lays143 : Go.Proofs.Lays.n143 Tryz.prog Tryz.lays143_ren := {
  mixed := by kernel_rfl
  f143 := Tryz.func206.trans (congrArg some (by kernel_rfl))
  f217 := Tryz.func231.trans (congrArg some (by kernel_rfl))
  f219 := Tryz.func220.trans (congrArg some (by kernel_rfl))
  f224 := Tryz.func233.trans (congrArg some (by kernel_rfl))
  f225 := Tryz.func232.trans (congrArg some (by kernel_rfl))
  f266 := Tryz.func249.trans (congrArg some (by kernel_rfl))
  f267 := Tryz.func234.trans (congrArg some (by kernel_rfl))
  f314 := Tryz.func250.trans (congrArg some (by kernel_rfl))
  t3 := underlying3
  a3 := isAgg3
  z3 := sizeOf3
  v3 := zeroValue3
  t4 := underlying4
  a4 := isAgg4
  z4 := sizeOf4
  v4 := zeroValue4
  t5 := underlying5
  a5 := isAgg5
  z5 := sizeOf5
  v5 := zeroValue5
  t9 := underlying9
  a9 := isAgg9
  z9 := sizeOf9
  v9 := zeroValue9
  t46 := underlying105
  a46 := isAgg105
  z46 := sizeOf105
  v46 := zeroValue105
  t51 := underlying151
  a51 := isAgg151
  z51 := sizeOf151
  v51 := zeroValue151
  t146 := underlying245
  a146 := isAgg245
  z146 := sizeOf245
  v146 := zeroValue245
  g1 := by kernel_rfl }
open Go.RowKit Go.Lib in
theorem Tryz.strings_Index_one (s : ByteArray) (c : UInt8) (w : World) :
    Calls Tryz.prog 206 #[.string s, .string ⟨#[c]⟩] w fun e w' => e = .returned (.int .i64 (Lib.indexByte s.data.toList c)) ∧ w' = w := Any.strings_Index_one Tryz.lays143 s c w
def Tryz.lays138_ren : Go.Shelf.Ren := ⟨fun | 138 => 205 | 195 => 217 | 218 => 219 | 143 => 206 | 219 => 220 | 217 => 231 | 225 => 232 | 224 => 233 | 267 => 234 | 266 => 249 | 314 => 250 | n => n, fun | 9 => 9 | 3 => 3 | 4 => 4 | 5 => 5 | 0 => 0 | 46 => 105 | 146 => 245 | 51 => 151 | n => n, fun | 1 => 0 | n => n⟩
theorem Tryz.lays138 : Go.Proofs.Lays.n138 Tryz.prog Tryz.lays138_ren := {
  mixed := by kernel_rfl
  f138 := Tryz.func205.trans (congrArg some (by kernel_rfl))
  f143 := Tryz.func206.trans (congrArg some (by kernel_rfl))
  f195 := Tryz.func217.trans (congrArg some (by kernel_rfl))
  f217 := Tryz.func231.trans (congrArg some (by kernel_rfl))
  f218 := Tryz.func219.trans (congrArg some (by kernel_rfl))
  f219 := Tryz.func220.trans (congrArg some (by kernel_rfl))
  f224 := Tryz.func233.trans (congrArg some (by kernel_rfl))
  f225 := Tryz.func232.trans (congrArg some (by kernel_rfl))
  f266 := Tryz.func249.trans (congrArg some (by kernel_rfl))
  f267 := Tryz.func234.trans (congrArg some (by kernel_rfl))
  f314 := Tryz.func250.trans (congrArg some (by kernel_rfl))
  t0 := underlying0
  a0 := isAgg0
  z0 := sizeOf0
  v0 := zeroValue0
  t3 := underlying3
  a3 := isAgg3
  z3 := sizeOf3
  v3 := zeroValue3
  t4 := underlying4
  a4 := isAgg4
  z4 := sizeOf4
  v4 := zeroValue4
  t5 := underlying5
  a5 := isAgg5
  z5 := sizeOf5
  v5 := zeroValue5
  t9 := underlying9
  a9 := isAgg9
  z9 := sizeOf9
  v9 := zeroValue9
  t46 := underlying105
  a46 := isAgg105
  z46 := sizeOf105
  v46 := zeroValue105
  t51 := underlying151
  a51 := isAgg151
  z51 := sizeOf151
  v51 := zeroValue151
  t146 := underlying245
  a146 := isAgg245
  z146 := sizeOf245
  v146 := zeroValue245
  g1 := by kernel_rfl }
open Go.RowKit Go.Lib in
theorem Tryz.strings_Count_one (s : ByteArray) (c : UInt8) (w : World) :
    Calls Tryz.prog 205 #[.string s, .string ⟨#[c]⟩] w fun e w' => e = .returned (.int .i64 (Lib.countByte s.data.toList c)) ∧ w' = w := Any.strings_Count_one Tryz.lays138 s c w
def Tryz.lays189_ren : Go.Shelf.Ren := ⟨fun | 189 => 210 | 125 => 69 | 257 => 229 | 128 => 122 | 129 => 123 | 294 => 240 | 295 => 241 | 296 => 242 | 297 => 243 | 298 => 244 | 299 => 245 | 216 => 246 | 300 => 247 | 301 => 248 | 328 => 254 | 329 => 162 | 330 => 163 | 331 => 255 | 332 => 256 | 215 => 70 | 343 => 257 | n => n, fun | 28 => 22 | 3 => 3 | 46 => 105 | 0 => 0 | 51 => 151 | 53 => 153 | 4 => 4 | 183 => 144 | 182 => 143 | 131 => 148 | 5 => 5 | 9 => 9 | 218 => 177 | 222 => 181 | 228 => 204 | 229 => 131 | n => n, fun | n => n⟩
theorem Tryz.lays189 : Go.Proofs.Lays.n189 Tryz.prog Tryz.lays189_ren := {
  mixed := by kernel_rfl
  f125 := Tryz.func69.trans (congrArg some (by kernel_rfl))
  f128 := Tryz.func122.trans (congrArg some (by kernel_rfl))
  f129 := Tryz.func123.trans (congrArg some (by kernel_rfl))
  f189 := Tryz.func210.trans (congrArg some (by kernel_rfl))
  f215 := Tryz.func70.trans (congrArg some (by kernel_rfl))
  f216 := Tryz.func246.trans (congrArg some (by kernel_rfl))
  f257 := Tryz.func229.trans (congrArg some (by kernel_rfl))
  f294 := Tryz.func240.trans (congrArg some (by kernel_rfl))
  f295 := Tryz.func241.trans (congrArg some (by kernel_rfl))
  f296 := Tryz.func242.trans (congrArg some (by kernel_rfl))
  f297 := Tryz.func243.trans (congrArg some (by kernel_rfl))
  f298 := Tryz.func244.trans (congrArg some (by kernel_rfl))
  f299 := Tryz.func245.trans (congrArg some (by kernel_rfl))
  f300 := Tryz.func247.trans (congrArg some (by kernel_rfl))
  f301 := Tryz.func248.trans (congrArg some (by kernel_rfl))
  f328 := Tryz.func254.trans (congrArg some (by kernel_rfl))
  f329 := Tryz.func162.trans (congrArg some (by kernel_rfl))
  f330 := Tryz.func163.trans (congrArg some (by kernel_rfl))
  f331 := Tryz.func255.trans (congrArg some (by kernel_rfl))
  f332 := Tryz.func256.trans (congrArg some (by kernel_rfl))
  f343 := Tryz.func257.trans (congrArg some (by kernel_rfl))
  t0 := underlying0
  a0 := isAgg0
  z0 := sizeOf0
  v0 := zeroValue0
  t3 := underlying3
  a3 := isAgg3
  z3 := sizeOf3
  v3 := zeroValue3
  t4 := underlying4
  a4 := isAgg4
  z4 := sizeOf4
  v4 := zeroValue4
  t5 := underlying5
  a5 := isAgg5
  z5 := sizeOf5
  v5 := zeroValue5
  t9 := underlying9
  a9 := isAgg9
  z9 := sizeOf9
  v9 := zeroValue9
  t28 := underlying22
  a28 := isAgg22
  z28 := sizeOf22
  v28 := zeroValue22
  t46 := underlying105
  a46 := isAgg105
  z46 := sizeOf105
  v46 := zeroValue105
  t51 := underlying151
  a51 := isAgg151
  z51 := sizeOf151
  v51 := zeroValue151
  t53 := underlying153
  a53 := isAgg153
  z53 := sizeOf153
  v53 := zeroValue153
  t131 := underlying148
  a131 := isAgg148
  z131 := sizeOf148
  v131 := zeroValue148
  t182 := underlying143
  a182 := isAgg143
  z182 := sizeOf143
  v182 := zeroValue143
  t183 := underlying144
  a183 := isAgg144
  z183 := sizeOf144
  v183 := zeroValue144
  t218 := underlying177
  a218 := isAgg177
  z218 := sizeOf177
  v218 := zeroValue177
  t222 := underlying181
  a222 := isAgg181
  z222 := sizeOf181
  v222 := zeroValue181
  t228 := underlying204
  a228 := isAgg204
  z228 := sizeOf204
  v228 := zeroValue204
  t229 := underlying131
  a229 := isAgg131
  z229 := sizeOf131
  v229 := zeroValue131 }
open Go.Sort Go.RowKit in
theorem Tryz.slices_Sort_int (j off cap : Nat) (zs : List Int) (w : World) (hH : Holds (Value.int .i64) w j off zs.toArray) (hblk : j < w.heap.size) (o : zs.length < 4611686018427387904) :
    Calls Tryz.prog 210 #[.slice (some ⟨j, off, none⟩) zs.length cap] w fun e w' =>
      e = .returned (.tuple #[]) ∧ ∃ n os, w' = grow (putRow (Value.int .i64) (Sort.ahead w n) j off (zs.mergeSort fun x y => decide (x ≤ y)).toArray) os := Any.slices_Sort_int Tryz.lays189 j off cap zs w hH hblk o
def Tryz.lays190_ren : Go.Shelf.Ren := ⟨fun | 190 => 91 | 125 => 69 | 258 => 139 | 128 => 122 | 129 => 123 | 302 => 174 | 303 => 175 | 304 => 176 | 305 => 177 | 306 => 178 | 307 => 179 | 308 => 180 | 309 => 181 | 310 => 182 | 333 => 201 | 329 => 162 | 330 => 163 | 334 => 202 | 335 => 203 | 336 => 71 | 344 => 216 | n => n, fun | 31 => 77 | 9 => 9 | 3 => 3 | 46 => 105 | 0 => 0 | 51 => 151 | 53 => 153 | 4 => 4 | 183 => 144 | 182 => 143 | 131 => 148 | 5 => 5 | 218 => 177 | 222 => 181 | 228 => 204 | 229 => 131 | n => n, fun | n => n⟩
theorem Tryz.lays190 : Go.Proofs.Lays.n190 Tryz.prog Tryz.lays190_ren := {
  mixed := by kernel_rfl
  f125 := Tryz.func69.trans (congrArg some (by kernel_rfl))
  f128 := Tryz.func122.trans (congrArg some (by kernel_rfl))
  f129 := Tryz.func123.trans (congrArg some (by kernel_rfl))
  f190 := Tryz.func91.trans (congrArg some (by kernel_rfl))
  f258 := Tryz.func139.trans (congrArg some (by kernel_rfl))
  f302 := Tryz.func174.trans (congrArg some (by kernel_rfl))
  f303 := Tryz.func175.trans (congrArg some (by kernel_rfl))
  f304 := Tryz.func176.trans (congrArg some (by kernel_rfl))
  f305 := Tryz.func177.trans (congrArg some (by kernel_rfl))
  f306 := Tryz.func178.trans (congrArg some (by kernel_rfl))
  f307 := Tryz.func179.trans (congrArg some (by kernel_rfl))
  f308 := Tryz.func180.trans (congrArg some (by kernel_rfl))
  f309 := Tryz.func181.trans (congrArg some (by kernel_rfl))
  f310 := Tryz.func182.trans (congrArg some (by kernel_rfl))
  f329 := Tryz.func162.trans (congrArg some (by kernel_rfl))
  f330 := Tryz.func163.trans (congrArg some (by kernel_rfl))
  f333 := Tryz.func201.trans (congrArg some (by kernel_rfl))
  f334 := Tryz.func202.trans (congrArg some (by kernel_rfl))
  f335 := Tryz.func203.trans (congrArg some (by kernel_rfl))
  f336 := Tryz.func71.trans (congrArg some (by kernel_rfl))
  f344 := Tryz.func216.trans (congrArg some (by kernel_rfl))
  t0 := underlying0
  a0 := isAgg0
  z0 := sizeOf0
  v0 := zeroValue0
  t3 := underlying3
  a3 := isAgg3
  z3 := sizeOf3
  v3 := zeroValue3
  t4 := underlying4
  a4 := isAgg4
  z4 := sizeOf4
  v4 := zeroValue4
  t5 := underlying5
  a5 := isAgg5
  z5 := sizeOf5
  v5 := zeroValue5
  t9 := underlying9
  a9 := isAgg9
  z9 := sizeOf9
  v9 := zeroValue9
  t31 := underlying77
  a31 := isAgg77
  z31 := sizeOf77
  v31 := zeroValue77
  t46 := underlying105
  a46 := isAgg105
  z46 := sizeOf105
  v46 := zeroValue105
  t51 := underlying151
  a51 := isAgg151
  z51 := sizeOf151
  v51 := zeroValue151
  t53 := underlying153
  a53 := isAgg153
  z53 := sizeOf153
  v53 := zeroValue153
  t131 := underlying148
  a131 := isAgg148
  z131 := sizeOf148
  v131 := zeroValue148
  t182 := underlying143
  a182 := isAgg143
  z182 := sizeOf143
  v182 := zeroValue143
  t183 := underlying144
  a183 := isAgg144
  z183 := sizeOf144
  v183 := zeroValue144
  t218 := underlying177
  a218 := isAgg177
  z218 := sizeOf177
  v218 := zeroValue177
  t222 := underlying181
  a222 := isAgg181
  z222 := sizeOf181
  v222 := zeroValue181
  t228 := underlying204
  a228 := isAgg204
  z228 := sizeOf204
  v228 := zeroValue204
  t229 := underlying131
  a229 := isAgg131
  z229 := sizeOf131
  v229 := zeroValue131 }
open Go.Sort Go.RowKit in
theorem Tryz.slices_Sort_string (j off cap : Nat) (ss : List (List UInt8)) (w : World) (hH : Holds encStr w j off ss.toArray) (hblk : j < w.heap.size) (o : ss.length < 4611686018427387904) :
    Calls Tryz.prog 91 #[.slice (some ⟨j, off, none⟩) ss.length cap] w fun e w' =>
      e = .returned (.tuple #[]) ∧ ∃ n os, w' = grow (putRow encStr (Sort.ahead w n) j off (ss.mergeSort fun x y => decide (x ≤ y)).toArray) os := Any.slices_Sort_string Tryz.lays190 j off cap ss w hH hblk o
open Go.RowKit Go.Sort in
theorem Tryz.slices_Sort_string_none (p : Option Addr) (cap : Nat) (w : World) :
    Calls Tryz.prog 91 #[.slice p 0 cap] w fun e w' => e = .returned (.tuple #[]) ∧ w' = w := Any.slices_Sort_string_none Tryz.lays190 p cap w
open Go.RowKit Go.Sort in
theorem Tryz.slices_Sort_int_none (p : Option Addr) (cap : Nat) (w : World) :
    Calls Tryz.prog 210 #[.slice p 0 cap] w fun e w' => e = .returned (.tuple #[]) ∧ w' = w := Any.slices_Sort_int_none Tryz.lays189 p cap w
end Go.Proofs
