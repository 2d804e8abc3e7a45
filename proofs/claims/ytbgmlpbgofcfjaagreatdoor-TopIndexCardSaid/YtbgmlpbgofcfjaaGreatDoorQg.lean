/-
  Library, plain laws and walks that the statements reach (joined by a program out of smaller texts).
-/
import Derived.Test.YtbgmlpbgofcfjaaGreatDoorQf
import Derived.Test.YtbgmlpbgofcfjaaGreatDoorQa
import Derived.Lib.Builder
import Derived.Lib.AppendStr
import Derived.Lib.UnsafeStr
import Derived.Laws.CopyRow
import Derived.Test.YtbgmlpbgofcfjaaGreatDoorQe
import Derived.Test.YtbgmlpbgofcfjaaGreatDoorProg
import Derived.Shelf.Spec.SlicesInsertGrow
import Derived.Shelf.SlSortCmp.NoneTotal
import Derived.Test.YtbgmlpbgofcfjaaGreatDoorQc
import Derived.ArgAppend
import Derived.Laws.Slices
set_option linter.unusedVariables false
set_option linter.unusedSimpArgs false
namespace Go.Proofs.YtbgmlpbgofcfjaaGreatDoor
open Go.RowKit Go.Vc Go.Proofs.Tryz
theorem VM : A8 Tryz.prog 43 1 = some 1 := ζ
theorem UO : A8 Tryz.prog 43 2 = some 2 := ζ
theorem Ib {x : Vc.Item} {o : World}  :
    Calls Tryz.prog 247 #[(.agg (Enc.enc x).toArray)] o fun e w' => e = .returned (.bool (decide (MM x))) ∧ Evo o w' [] := by
 refine AG (n := 16) func247 rfl ntmps247 rfl ?_
 have C : Evo o o [] := Evo.refl _ _
 refine Zs (CE (vs := [_, _, _]) η η rfl ?_)
 intro b1 w2 J1 E2 B1 Y1
 have I := E2.size
 replace C := Z0 C E2
 refine Zn BV (Zs (Zo (AD rfl η Ba) (Zo (AA rfl Ae η (B1.at.cell 0 η)) (Zo DA (Zo Cb ?_)))))
 refine Aj rfl BQ rfl (fun j => AD rfl η Ba) ?_
 refine Aj rfl BQ rfl (fun j => AA rfl Ae (Ar j) (B1.at.cell 0 η)) ?_
 refine Aj rfl BQ rfl (fun j => BK rfl (Ar j) η) ?_
 refine Zo FW (Zo Cb ?_)
 refine Aj rfl BQ rfl (fun j => AD rfl η Ba) ?_
 refine Aj rfl BQ rfl (fun j => AA rfl Ae (Ar j) (B1.at.cell 0 η)) ?_
 refine Aj rfl BQ rfl (fun j => BK rfl (Ar j) η) ?_
 refine Zo FW (Zn BV (AM G7 ?_))
 exact ⟨Bn (decide_eq_decide.2 (by unfold MM; omega)), C⟩
theorem Rb {x y : Vc.Item} {C : World}  :
    Calls Tryz.prog 248 #[(.agg (Enc.enc x).toArray), (.agg (Enc.enc y).toArray)] C fun e w' => e = .returned (.bool (decide (x.kind = y.kind ∧ x.text = y.text))) ∧ Evo C w' [] := by
 refine AG (n := 17) func248 rfl ntmps248 rfl ?_
 have o : Evo C C [] := Evo.refl _ _
 refine Zs (CE (vs := [_, _, _]) η η rfl ?_)
 intro b1 w2 J1 E2 B1 Y1
 have I := E2.size
 replace o := Z0 o E2
 refine CE (vs := [_, _, _]) η η rfl ?_
 intro b3 w4 J3 E4 B3 Y3
 have J := E4.size
 replace o := Z0 o E4
 replace B1 := B1.evo0 E4
 refine Zn BV (Zs (Zo (AD rfl η Ba) (Zo (AA rfl Ae η (B1.at.cell 0 η)) (Zo (AD rfl η Ba) (Zo (AA rfl Ae η (B3.at.cell 0 η)) (Zo DA (Zo Cb ?_)))))))
 refine Aj rfl BW rfl (fun j => AD rfl η Fq) ?_
 refine Aj rfl BW rfl (fun j => AA rfl BX (Ar j) (B1.at.cell 1 η)) ?_
 refine Aj rfl BW rfl (fun j => AD rfl η Fq) ?_
 refine Aj rfl BW rfl (fun j => AA rfl BX (Ar j) (B3.at.cell 1 η)) ?_
 refine Aj rfl BW rfl (fun j => Fw rfl (Ar j) (Ar j)) ?_
 refine Zo Ht (Zn BV (AM G7 ?_))
 exact ⟨rfl, o⟩
def cu (x : Vc.Item) : Int := if MM x then 1 else wK x.kind
theorem Kt (x : Vc.Item) : 0 ≤ cu x ∧ cu x ≤ 4 := by
  unfold cu; have := JI x.kind; split <;> omega
theorem FP {x : Vc.Item} {C : World}  :
    Calls Tryz.prog 207 #[(.agg (Enc.enc x).toArray)] C fun e w' => e = .returned (.int .i64 (cu x)) ∧ Evo C w' [] := by
 refine AG (n := 7) func207 rfl ntmps207 rfl ?_
 have j : Evo C C [] := Evo.refl _ _
 refine Zs (CE (vs := [_, _, _]) η η rfl ?_)
 intro b1 w2 J1 E2 B1 Y1
 have I := E2.size
 replace j := Z0 j E2
 refine Zn Am (AE (Zs (Zo (AL rfl BE Aa η rfl B1.at) (Zr [.agg _] rfl η func247 (Ib (x := x)) ?_))))
 rintro e U ⟨rfl, F3⟩
 refine ⟨_, rfl, ?_⟩
 have J := F3.size
 replace j := Z0 j F3
 replace B1 := B1.evo0 F3
 refine Ag (AH η (fun o => ?_) (fun o => ?_))
 refine Zs (Zn Am (AM C3 ?_))
 exact ⟨A3 (by unfold cu; rw [if_pos o]), j⟩
 refine AJ (Zs (Zo (AL rfl BE Aa η rfl B1.at) (Zr [.agg _] rfl η func92 (Cf (x := x)) ?_)))
 rintro e w5 ⟨rfl, F5⟩
 refine ⟨_, rfl, ?_⟩
 have R := F5.size
 replace j := Z0 j F5
 refine Zn Am (AM C3 ?_)
 exact ⟨A3 (by unfold cu; rw [if_neg o]), j⟩
theorem TJ {x y : Vc.Item} {w0 : World} (hx : x.text.length ≤ 140737488355328) (hy : y.text.length ≤ 140737488355328) :
    Calls Tryz.prog 208 #[(.agg (Enc.enc x).toArray), (.agg (Enc.enc y).toArray)] w0 fun e w' => ∃ (c : Int) (b : Bool), e = .returned (.tuple #[.int .i64 c, .bool b]) ∧ (0 ≤ c ∧ c ≤ 4) ∧ Evo w0 w' [] := by
 have bd := JI x.kind
 refine AG (n := 32) func208 rfl ntmps208 rfl ?_
 have j : Evo w0 w0 [] := Evo.refl _ _
 refine Zs (CE (vs := [_, _, _]) η η rfl ?_)
 intro b1 w2 J1 E2 B1 Y1
 have Q2 := E2.size
 replace j := Z0 j E2
 refine CE (vs := [_, _, _]) η η rfl ?_
 intro b3 w4 J3 E4 B3 Y3
 have Q4 := E4.size
 replace j := Z0 j E4
 replace B1 := B1.evo0 E4
 refine Zo Am (Zn BV (AE (Zs (Zo (AL rfl BE Aa η rfl B1.at) (Zo (AL rfl BE Aa η rfl B3.at) (Zr [.agg _, .agg _] rfl η func248 (Rb (x := x) (y := y)) ?_))))))
 rintro e w5 ⟨rfl, F5⟩
 refine ⟨_, rfl, ?_⟩
 have Q5 := F5.size
 replace j := Z0 j F5
 replace B1 := B1.evo0 F5
 replace B3 := B3.evo0 F5
 refine Ag (AH η (fun au => ?_) (fun au => ?_))
 refine Zs (Zo Am (Zn BV (AM (Fy (v := .int _ _) (u := .bool _) rfl η η) ?_)))
 exact ⟨_, _, rfl, by omega, j⟩
 refine AJ (AE (Zs (Zo (AD rfl η Ba) (Zo (AA rfl Ae η (B1.at.cell 0 η)) (Zo (AD rfl η Ba) (Zo (AA rfl Ae η (B3.at.cell 0 η)) (Zn (BP rfl η η) (AH η (fun az => ?_) (fun az => ?_)))))))))
 refine Zs (Zo Am (Zn BV (AM (Fy (v := .int _ _) (u := .bool _) rfl η η) ?_)))
 exact ⟨_, _, rfl, by omega, j⟩
 refine AJ (AE (Zs (Zo (AD rfl η Ba) (Zn (AA rfl Ae η (B1.at.cell 0 η)) (AK (Zs (Zo DA (Zn BV (AH η (fun aS => ?_) (fun aS => ?_))))))))))
 refine AE (AE (Bt ζ ζ (Zq (fun w' o => AL rfl BE Aa η rfl (B1.at.evo0 o)) (Je rfl rfl rfl (fun w' o => BN rfl (BU (v := .agg _) η (rfl)) func147 rfl ζ) (fun w' o => (Db (x := x) hx).mono (fun e aT h => ⟨h.1, CB o h.2⟩)) (Zq (fun w' o => AL rfl BE Aa η rfl (B3.at.evo0 o)) (Je rfl rfl rfl (fun w' o => BN rfl (BU (v := .agg _) η (rfl)) func147 rfl ζ) (fun w' o => (Db (x := y) hy).mono (fun e aT h => ⟨h.1, CB o h.2⟩)) (Zq (fun w' o => Fw rfl η η) (EV (fun w9 F10 => ?_)))))))))
 have Q9 := F10.size
 replace j := Z0 j F10
 replace B1 := B1.evo0 F10
 refine AH η (fun C => ?_) (fun C => ?_)
 refine Zs (Zo Am (Zn BV (AM (Fy (v := .int _ _) (u := .bool _) rfl η η) ?_)))
 exact ⟨_, _, rfl, by omega, j⟩
 refine AJ (Zs (Zo (AL rfl BE Aa η rfl B1.at) (Zr [.agg _] rfl η func92 (Cf (x := x)) ?_)))
 rintro e bm ⟨rfl, F12⟩
 refine ⟨_, rfl, ?_⟩
 have a1 := F12.size
 replace j := Z0 j F12
 refine Zo Am (Zn BV (AM (Fy (v := .int _ _) (u := .bool _) rfl η η) ?_))
 exact ⟨_, _, rfl, by omega, j⟩
 refine AE (Zs (Zo DA (Zn BV (AH η (fun I => ?_) (fun I => ?_)))))
 refine AJ (AH η (fun J => ?_) (fun J => ?_))
 refine Zs (Zo (AL rfl BE Aa η rfl B1.at) (Zr [.agg _] rfl η func92 (Cf (x := x)) ?_))
 rintro e bn ⟨rfl, F15⟩
 refine ⟨_, rfl, ?_⟩
 have a_ := F15.size
 replace j := Z0 j F15
 refine Zo Am (Zn BV (AM (Fy (v := .int _ _) (u := .bool _) rfl η η) ?_))
 exact ⟨_, _, rfl, by omega, j⟩
 refine AJ (AX (Zs (Zo Am (Zn BV (AM (Fy (v := .int _ _) (u := .bool _) rfl η η) ?_)))))
 exact ⟨_, _, rfl, by omega, j⟩
 refine Zs (Zo DA (Zn BV (AH η (fun R => ?_) (fun R => ?_))))
 refine AJ (AH η (fun U => ?_) (fun U => ?_))
 refine Zs (Zo (AL rfl BE Aa η rfl B1.at) (Zr [.agg _] rfl η func92 (Cf (x := x)) ?_))
 rintro e bo ⟨rfl, F18⟩
 refine ⟨_, rfl, ?_⟩
 have ba := F18.size
 replace j := Z0 j F18
 refine Zo Am (Zn BV (AM (Fy (v := .int _ _) (u := .bool _) rfl η η) ?_))
 exact ⟨_, _, rfl, by omega, j⟩
 refine AJ (AX (Zs (Zo Am (Zn BV (AM (Fy (v := .int _ _) (u := .bool _) rfl η η) ?_)))))
 exact ⟨_, _, rfl, by omega, j⟩
 refine Zs (Zo DA (Zn BV (AH η (fun af => ?_) (fun af => ?_))))
 refine AJ (AH η (fun ag => ?_) (fun ag => ?_))
 refine Zs (Zo (AL rfl BE Aa η rfl B1.at) (Zr [.agg _] rfl η func92 (Cf (x := x)) ?_))
 rintro e bq ⟨rfl, F21⟩
 refine ⟨_, rfl, ?_⟩
 have bb := F21.size
 replace j := Z0 j F21
 refine Zo Am (Zn BV (AM (Fy (v := .int _ _) (u := .bool _) rfl η η) ?_))
 exact ⟨_, _, rfl, by omega, j⟩
 refine AJ (AX (Zs (Zo Am (Zn BV (AM (Fy (v := .int _ _) (u := .bool _) rfl η η) ?_)))))
 exact ⟨_, _, rfl, by omega, j⟩
 refine AB (Zo DA (Zn BV (AH η (fun al => ?_) (fun al => ?_))))
 refine Zs (Zo (AL rfl BE Aa η rfl B1.at) (Zr [.agg _] rfl η func92 (Cf (x := x)) ?_))
 rintro e br ⟨rfl, F23⟩
 refine ⟨_, rfl, ?_⟩
 have bc := F23.size
 replace j := Z0 j F23
 refine Zo Am (Zn BV (AM (Fy (v := .int _ _) (u := .bool _) rfl η η) ?_))
 exact ⟨_, _, rfl, by omega, j⟩
 refine AJ (AX (Zs (Zo Am (Zn BV (AM (Fy (v := .int _ _) (u := .bool _) rfl η η) ?_)))))
 exact ⟨_, _, rfl, by omega, j⟩
theorem RC {J R : Option Addr} {ba U j bb af o : Nat} {a b : List Vc.Item} {I : World} (ha : RowE I J ba U j a) (hb : RowE I R bb af o b) (a_ : a.length ≤ 1000000) (bc : b.length ≤ 1000000) :
    Calls Tryz.prog 149 #[.slice J a.length j, .slice R b.length o] I fun e w' => e = .returned (.int .i64 (max (EU a) (EU b))) ∧ Evo I w' [] := by
 refine AG (n := 10) func149 rfl ntmps149 rfl ?_
 have C : Evo I I [] := Evo.refl _ _
 have a1 := A9 ha
 have al := ha.bd
 have az := A9 hb
 have ao := hb.bd
 refine Zs (Zn Am (Zs (Zo Bi (Zr [.slice _ _ _] rfl η func89 (II ha ω) ?_))))
 rintro e w1 ⟨rfl, F1⟩
 refine ⟨_, rfl, ?_⟩
 have Q1 := F1.size
 replace C := Z0 C F1
 replace hb := az _ C
 refine Zo Bi (Zr [.slice _ _ _] rfl η func89 (II hb ω) ?_)
 rintro e w2 ⟨rfl, F2⟩
 refine ⟨_, rfl, ?_⟩
 have Q2 := F2.size
 replace C := Z0 C F2
 refine Zo (GH rfl η η) (Zn Am (AM C3 ?_))
 exact ⟨rfl, C⟩
theorem ND {C I J : Option Addr} {a b q : Nat} {R U af : Nat} {pv nx au pj az ao : Ac} {cr og nw th mo : Int} {w0 : World}  :
    Calls Tryz.prog 101 #[.agg #[.slice C a R, .slice I b U, S pv, S nx, S au, S pj, .int .i64 cr, .int .i64 og], .agg #[.slice J q af, S az, S ao, .int .i64 nw, .int .i64 th, .int .i64 mo]] w0 fun e w' => ∃ r : Int, e = .returned (.int .i64 r) ∧ (0 ≤ r ∧ r ≤ 2) ∧ Evo w0 w' [] := by
 refine AG (n := 31) func101 rfl ntmps101 rfl ?_
 have o : Evo w0 w0 [] := Evo.refl _ _
 refine Zs (CE (vs := [_, _, _, _, _, _, _, _]) η η rfl ?_)
 intro b1 w2 J1 E2 B1 Y1
 have Q2 := E2.size
 replace o := Z0 o E2
 refine CE (vs := [_, _, _, _, _, _]) η η rfl ?_
 intro b3 w4 J3 E4 B3 Y3
 have Q4 := E4.size
 replace o := Z0 o E4
 replace B1 := B1.evo0 E4
 refine Zn Am (Zs (Zn Am (AE (Zs (Zo (AD rfl η J0) (Zo (AA rfl BX η (B1.at.cell 2 η)) (Zo (Ds rfl η η) (Zo Cb ?_))))))))
 refine Aj rfl BW rfl (fun j => AD rfl η J0) ?_
 refine Aj rfl BW rfl (fun j => AA rfl BX (Ar j) (B1.at.cell 2 η)) ?_
 refine Aj rfl BW rfl (fun j => AD rfl η VM) ?_
 refine Aj rfl BW rfl (fun j => AA rfl BX (Ar j) (B3.at.cell 1 η)) ?_
 refine Aj rfl BW rfl (fun j => Fw rfl (Ar j) (Ar j)) ?_
 refine Zn Ht (EC [5, 16, 17] (fun g w => ∃ z : Int, g 5 = .int .i64 z ∧ Blk w b1 35 [.slice C a R, .slice I b U, S pv, S nx, S au, S pj, .int .i64 cr, .int .i64 og] ∧ Blk w b3 43 [.slice J q af, S az, S ao, .int .i64 nw, .int .i64 th, .int .i64 mo] ∧ (0 ≤ z ∧ z ≤ 1) ∧ w4.heap.size ≤ w.heap.size ∧ Evo w0 w []) ?_ ?_)
 refine AH η (fun aT => ?_) (fun aT => ?_)
 refine AB (Zo AU (Zo Br (Zn Am (Ad ?_ ?_))))
 refine ⟨_, σ, B1, B3, δ, δ, o⟩
 exact ψ
 refine AJ (Ad ?_ ?_)
 refine ⟨_, σ, B1, B3, δ, δ, o⟩
 exact ψ
 rintro g w7 ⟨z, hj8, B1, B3, hz1, hzl5, o⟩
 have al := o.size
 have bb := B1.lt
 have a1 := B3.lt
 refine Zk 5 hj8 (AE (Zs (Zo (AD rfl η Jo) (Zo (AA rfl BX η (B1.at.cell 3 η)) (Zo (Ds rfl η η) (Zo Cb ?_))))))
 refine Aj rfl BW rfl (fun j => AD rfl η Jo) ?_
 refine Aj rfl BW rfl (fun j => AA rfl BX (Ar j) (B1.at.cell 3 η)) ?_
 refine Aj rfl BW rfl (fun j => AD rfl η UO) ?_
 refine Aj rfl BW rfl (fun j => AA rfl BX (Ar j) (B3.at.cell 2 η)) ?_
 refine Aj rfl BW rfl (fun j => Fw rfl (Ar j) (Ar j)) ?_
 refine Zn Ht (AH η (fun ag => ?_) (fun ag => ?_))
 refine AB (Zo AU (Zo Br (Zn Am (Zs (Zo AU (Zn Am (AM C3 ?_)))))))
 exact ⟨_, rfl, by omega, o⟩
 refine AJ (Zs (Zo AU (Zn Am (AM C3 ?_))))
 exact ⟨_, rfl, by omega, o⟩
theorem OM  {j : World}  :
    Calls Tryz.prog 37 #[.slice none 0 0] j fun e w' => e = .returned (.int .i64 0) ∧ Evo j w' [] := by
 refine AG (n := 63) func37 rfl ntmps37 rfl ?_
 have C : Evo j j [] := Evo.refl _ _
 refine Zs (Zn Am (AE (Zs (Zo Bi (Zo (AQ rfl η underlying114) (Zn Ve (AH η (fun I => ?_) (fun I => ?_))))))))
 exfalso; omega
 refine AJ (AE (Zs (Zo Bi (Zo (AQ rfl η underlying114) (Zn AU (AK (Aq (α := Nat) [2, 4, 10, 11, 12, 13, 14, 15, 16, 17, 18, 19, 20, 21, 22, 23, 24, 25, 26, 27, 28, 29, 30, 31, 32, 33, 34, 35, 36, 37, 38, 39, 40, 41, 42, 43, 44, 45, 46, 47, 48, 49, 50, 51, 52, 53, 54, 55, 56, 57, 58, 59, 60, 61, 62] (fun k g w => g 10 = .int .i64 0 ∧ j.heap.size ≤ w.heap.size ∧ Evo j w []) (fun k => 0) 0 ?_ ?_)))))))
 refine ⟨σ, δ, C⟩
 rintro k g U ⟨R, hzl2, C⟩
 have o := C.size
 refine Zk 10 R (Zs (Zn Dn (AE (AH η (fun J => ?_) (fun J => ?_)))))
 exfalso; omega
 refine Ak rfl (Zs (Zn Am (AM C3 ?_)))
 exact ⟨rfl, C⟩
theorem GU {I J : Option Addr} {a b : Nat} {R U : Nat} {pv nx au pj : Ac} {cr og nw : Int} {C : World}  :
    Calls Tryz.prog 100 #[.slice none 0 0, .agg #[.slice I a R, .slice J b U, S pv, S nx, S au, S pj, .int .i64 cr, .int .i64 og], .int .i64 nw] C fun e w' => e = .returned (.int .i64 0) ∧ Evo C w' [] := by
 refine AG (n := 33) func100 rfl ntmps100 rfl ?_
 have j : Evo C C [] := Evo.refl _ _
 refine Zs (CE (vs := [_, _, _, _, _, _, _, _]) η η rfl ?_)
 intro b1 w2 J1 E2 B1 Y1
 have Q2 := E2.size
 replace j := Z0 j E2
 refine Zn Am (Zs (Zn Am (AE (Zs (Zo Bi (Zo (AQ rfl η underlying114) (Zn AU (AK (Aq (α := Nat) [7, 9, 12, 13, 14, 15, 16, 17, 18, 19, 20, 21, 22, 23, 24, 25, 26, 27, 28, 29, 30, 31] (fun k g w => g 12 = .int .i64 0 ∧ g 7 = .int .i64 0 ∧ w2.heap.size ≤ w.heap.size ∧ Evo C w []) (fun k => 0) 0 ?_ ?_)))))))))
 refine ⟨σ, σ, δ, j⟩
 rintro k g w4 ⟨ag, hj6, hzl3, j⟩
 have o := j.size
 refine Zk 12 ag (Zk 7 hj6 (Zs (Zn Dn (AE (AH η (fun af => ?_) (fun af => ?_))))))
 exfalso; omega
 refine Ak rfl (Zs (Zo AU (Zn Am (AM C3 ?_))))
 exact ⟨rfl, j⟩
theorem Er {m : List (Vc.Item × Int)} {a : Vc.Item} {u v : Int} : (Co (Co m a u) a v).length ≤ m.length + 1 := by
  rw [N7]; unfold Co; split
  · rw [List.length_map]; omega
  · rw [List.length_append]; simp
theorem Qu {m m2 : List (Vc.Item × Int)} {a : Vc.Item} {d : Int} {N : Nat} (h : OY m m2 a d) (h1 : -1 ≤ d) (o : d ≤ 1) (j : ∀ x, -(N : Int) ≤ (Az m x).getD 0 ∧ (Az m x).getD 0 ≤ N) : ∀ x, -((N + 1 : Nat) : Int) ≤ (Az m2 x).getD 0 ∧ (Az m2 x).getD 0 ≤ ((N + 1 : Nat) : Int) := fun x => by
  rw [h x]
  split
  · have := j a; simp only [Option.getD_some]; omega
  · have := j x; omega
theorem Qj {m : List (Vc.Item × Int)} {N : Nat} (j : ∀ x, -(N : Int) ≤ (Az m x).getD 0 ∧ (Az m x).getD 0 ≤ N) : ∀ x, -((N + 1 : Nat) : Int) ≤ (Az m x).getD 0 ∧ (Az m x).getD 0 ≤ ((N + 1 : Nat) : Int) := fun x => by
  have := j x; omega
set_option maxHeartbeats 1000000 in
theorem Nu {bt bx : Option Addr} {ba bX a1 bb bY a_ : Nat} {a b : List Vc.Item} {w0 : World} (ha : RowE w0 bt ba bX a1 a) (hb : RowE w0 bx bb bY a_ b) (e1 : a.length ≤ 1000) (e2 : b.length ≤ 1000) :
    Calls Tryz.prog 209 #[.slice bt a.length a1, .slice bx b.length a_] w0 fun e w' => ∃ r : Int, e = .returned (.int .i64 r) ∧ (0 ≤ r ∧ r ≤ 8000000) ∧ Evo w0 w' [] := by
 refine AG (n := 66) func209 rfl ntmps209 rfl ?_
 have C : Evo w0 w0 [] := Evo.refl _ _
 have az := A9 ha
 have b4 := ha.bd
 have al := A9 hb
 have b5 := hb.bd
 refine Zs (Zn Am (Zs (DF (α := Vc.Item) (β := Int) (fun x : Vc.Item => Value.agg (Enc.enc x).toArray) (Value.int .i64) rfl ?_)))
 intro b1 w2 J1 E2 o Y1
 have Q2 := E2.size
 replace C := Z0 C E2
 replace ha := az _ C
 replace hb := al _ C
 refine Zn c5 (AE (Zs (Zo Bi (Zo (AQ rfl η underlying40) (Zn AU (AK (Aq (α := Nat) [7, 16, 17, 18, 19, 20, 21, 22, 23, 24, 25, 26, 27, 28, 29, 30, 31, 32] (fun k g w => ∃ m : List (Vc.Item × Int), g 16 = .int .i64 (k : Nat) ∧ k ≤ a.length ∧ MapIs w b1 (fun x : Vc.Item => Value.agg (Enc.enc x).toArray) (Value.int .i64) m ∧ (∀ x, -((k : Nat) : Int) ≤ (Az m x).getD 0 ∧ (Az m x).getD 0 ≤ ((k : Nat) : Int)) ∧ (m.length ≤ k) ∧ w2.heap.size ≤ w.heap.size ∧ Evo w0 w []) (fun k => a.length - k) 0 ?_ ?_)))))))
 refine ⟨_, σ, δ, o, (fun x => by simp [Az]), (by simp), δ, C⟩
 rintro k g w4 ⟨m, hj5, hk_k, o, hmb, hml, hzl3, C⟩
 have bS := C.size
 have c0 := o.lt
 replace ha := az _ C
 replace hb := al _ C
 refine Zk 16 hj5 (Zs (Zn Dn (AE (AH η (fun b_ => ?_) (fun b_ => ?_)))))
 refine AJ (AE (AK (Zs (Zo (Ab (k) rfl underlying40 Aa η η χ ω (ha.addr (i := k) ω)) ?_))))
 have bA := fun (w' : World) (h : Evo w0 w' []) => (az w' h).atD (k) ω
 have b6 := bA _ C
 refine Zo (AL rfl BE Aa η rfl b6) (Bq (zs := [_, _, _]) (vs := [_, _, _]) Aa η rfl η (fun _ => rfl) η rfl rfl η ?_)
 intro b9 w10 J9 E10 B9 Y9
 have c_ := E10.size
 replace C := Z0 C E10
 replace o := o.evo0 E10
 refine Ag (Zs (Zo (AL rfl BE Aa η rfl B9.at) (Zr [.agg _] rfl η func247 (Ib (x := a.getD k default)) ?_)))
 rintro e ct ⟨rfl, F11⟩
 refine ⟨_, rfl, ?_⟩
 have dc := F11.size
 replace C := Z0 C F11
 replace ha := az _ C
 replace hb := al _ C
 replace o := o.evo0 F11
 replace B9 := B9.evo0 F11
 refine Ag (AH η (fun bL => ?_) (fun bL => ?_))
 have b7 := hmb (⟨(a.getD k default).kind, (a.getD k default).text, 0⟩ : Vc.Item); have b8 : (Az (Co m (⟨(a.getD k default).kind, (a.getD k default).text, 0⟩ : Vc.Item) ((Az m (⟨(a.getD k default).kind, (a.getD k default).text, 0⟩ : Vc.Item)).getD 0)) (⟨(a.getD k default).kind, (a.getD k default).text, 0⟩ : Vc.Item)).getD 0 = (Az m (⟨(a.getD k default).kind, (a.getD k default).text, 0⟩ : Vc.Item)).getD 0 := by rw [CW, if_pos rfl]; rfl
 refine EC [22, 23, 24, 25, 26, 27, 28, 29, 30, 31] (fun g w => ∃ m2 : List (Vc.Item × Int), MapIs w b1 (fun x : Vc.Item => Value.agg (Enc.enc x).toArray) (Value.int .i64) m2 ∧ (OY m m2 (⟨(a.getD k default).kind, (a.getD k default).text, 0⟩ : Vc.Item) 1 ∧ m2.length ≤ m.length + 1) ∧ ct.heap.size ≤ w.heap.size ∧ Evo w0 w []) ?_ ?_
 have aT := o
 have b3 := B9
 have ao := B9.at
 have bB := C
 refine Aw ([b1]) ζ ?_
 intro w14 F15 I
 have dk := F15.size
 replace C := Z0 C F15
 replace o := o.evo0 F15
 replace B9 := B9.evo0 F15
 refine Zt (i := 0) η (fun w' U => TQ) I (Zt (i := 1) η (fun w' U => AD rfl η Ba) I (Zt (i := 2) η (fun w' U => AA rfl Ae η ((ao.evo U θ).cell 0 η)) I (Zt (i := 3) η (fun w' U => AD rfl η Fq) I (Zt (i := 4) η (fun w' U => AA rfl BX η ((ao.evo U θ).cell 1 η)) I (Zt (i := 5) η (fun w' U => A2 (pv := [(0, .int _ _), (1, S _)]) (zs := [_, _, _]) (cells := [_, _, _]) rfl Aa η HU η η) I ?_)))))
 refine GM (i := 6) (j := 8) ζ ?_ ?_
 refine EO η ?_
 refine Zo (BM (a := (⟨(a.getD k default).kind, (a.getD k default).text, 0⟩ : Vc.Item)) (z := 0) (v := .int _ _) DB rfl underlying97 Bd η η o rfl) ?_
 refine AZ I ?_
 refine Zt (i := 7) η (fun w' U => Bl rfl η η ω ω) I ?_
 refine Zh (i := 8) ?_
 refine CX (a := (⟨(a.getD k default).kind, (a.getD k default).text, 0⟩ : Vc.Item)) (z := 0) DB rfl underlying97 Bd η η o ?_
 intro s17 w17 F17 V17 hm_new hst17
 have dm := F17.size
 replace C := Z1 C F17 ε
 replace I := Z1 I F17 ε
 replace o := hm_new
 clear hm_new
 refine AZ I ?_
 refine Zt (i := 9) η (fun w' U => AI (v := .int _ _) rfl η η) I ?_
 refine Zh (i := 10) ?_
 refine Bw (a := (⟨(a.getD k default).kind, (a.getD k default).text, 0⟩ : Vc.Item)) DB η η η o hst17 ?_
 intro w18 F18 V18 hm_new
 have dn := F18.size
 replace C := Z1 C F18 ε
 replace o := hm_new
 clear hm_new
 refine Ah ζ ?_
 refine A5 ζ ?_
 refine Ad ?_ ?_
 refine ⟨_, o, (by first | exact ⟨JS 1, Er⟩ | exact ⟨JR 1, Er⟩), δ, C⟩
 exact ψ
 refine EO η ?_
 refine CX (a := (⟨(a.getD k default).kind, (a.getD k default).text, 0⟩ : Vc.Item)) (z := 0) DB rfl underlying97 Bd η η o ?_
 intro s19 w19 F19 V19 hm_new hst19
 have dp := F19.size
 replace C := Z1 C F19 ε
 replace I := Z1 I F19 ε
 replace o := hm_new
 clear hm_new
 refine AZ I ?_
 refine Zt (i := 9) η (fun w' U => AI (v := .int _ _) rfl η η) I ?_
 refine Zh (i := 6) ?_
 refine Zo (BM (a := (⟨(a.getD k default).kind, (a.getD k default).text, 0⟩ : Vc.Item)) (z := 0) (v := .int _ _) DB rfl underlying97 Bd η η o rfl) ?_
 refine AZ I ?_
 refine Zt (i := 7) η (fun w' U => Bl rfl η η ω ω) I ?_
 refine Zh (i := 10) ?_
 refine Bw (a := (⟨(a.getD k default).kind, (a.getD k default).text, 0⟩ : Vc.Item)) DB η η η o hst19 ?_
 intro w20 F20 V20 hm_new
 have ds := F20.size
 replace C := Z1 C F20 ε
 replace o := hm_new
 clear hm_new
 refine Ah ζ ?_
 refine A5 ζ ?_
 refine Ad ?_ ?_
 refine ⟨_, o, (by first | exact ⟨JS 1, Er⟩ | exact ⟨JR 1, Er⟩), δ, C⟩
 exact ψ
 rintro g e3 ⟨m2, o, hm2, hzl13, C⟩
 have bo := C.size
 have cb := o.lt
 refine AX (AB (Zo Br (Zn AU (Zg (k + 1) ?_))))
 refine ⟨_, σ, δ, o, (by first | exact Qu hm2.1 υ υ hmb | exact Qj hmb), (by first | (have h9 := hm2.2; omega) | omega), δ, C⟩
 refine AJ (AX (AB (Zo Br (Zn AU (Zg (k + 1) ?_)))))
 refine ⟨_, σ, δ, o, (by first | exact Qu hm2.1 υ υ hmb | exact Qj hmb), (by first | (have h9 := hm2.2; omega) | omega), δ, C⟩
 refine Ak rfl (AE (Zs (Zo Bi (Zo (AQ rfl η underlying40) (Zn AU (AK (Aq (α := Nat) [9, 35, 36, 37, 38, 39, 40, 41, 42, 43, 44, 45, 46, 47, 48, 49, 50, 51] (fun k g w => ∃ m : List (Vc.Item × Int), g 35 = .int .i64 (k : Nat) ∧ k ≤ b.length ∧ MapIs w b1 (fun x : Vc.Item => Value.agg (Enc.enc x).toArray) (Value.int .i64) m ∧ (∀ x, -(((a.length + k) : Nat) : Int) ≤ (Az m x).getD 0 ∧ (Az m x).getD 0 ≤ (((a.length + k) : Nat) : Int)) ∧ (m.length ≤ (a.length + k)) ∧ w4.heap.size ≤ w.heap.size ∧ Evo w0 w []) (fun k => b.length - k) 0 ?_ ?_)))))))
 refine ⟨_, σ, δ, o, (fun x => by have h9 := hmb x; omega), ω, δ, C⟩
 rintro k g e4 ⟨m, hj25, hk_k, o, hmb, hml, hzl23, C⟩
 have bq := C.size
 have cc := o.lt
 refine Zk 35 hj25 (Zs (Zn Dn (AE (AH η (fun bM => ?_) (fun bM => ?_)))))
 refine AJ (AE (AK (Zs (Zo (Ab (k) rfl underlying40 Aa η η χ ω ((al _ C).addr (i := k) ω)) ?_))))
 have bf := fun (w' : World) (h : Evo w0 w' []) => (al w' h).atD (k) ω
 have bz := bf _ C
 refine Zo (AL rfl BE Aa η rfl bz) (Bq (zs := [_, _, _]) (vs := [_, _, _]) Aa η rfl η (fun _ => rfl) η rfl rfl η ?_)
 intro b29 w30 J29 E30 B29 Y29
 have dO := E30.size
 replace C := Z0 C E30
 replace o := o.evo0 E30
 refine Ag (Zs (Zo (AL rfl BE Aa η rfl B29.at) (Zr [.agg _] rfl η func247 (Ib (x := b.getD k default)) ?_)))
 rintro e cv ⟨rfl, F31⟩
 refine ⟨_, rfl, ?_⟩
 have d_ := F31.size
 replace C := Z0 C F31
 replace ha := az _ C
 replace hb := al _ C
 replace o := o.evo0 F31
 replace B29 := B29.evo0 F31
 refine Ag (AH η (fun bQ => ?_) (fun bQ => ?_))
 have b7 := hmb (⟨(b.getD k default).kind, (b.getD k default).text, 0⟩ : Vc.Item); have b8 : (Az (Co m (⟨(b.getD k default).kind, (b.getD k default).text, 0⟩ : Vc.Item) ((Az m (⟨(b.getD k default).kind, (b.getD k default).text, 0⟩ : Vc.Item)).getD 0)) (⟨(b.getD k default).kind, (b.getD k default).text, 0⟩ : Vc.Item)).getD 0 = (Az m (⟨(b.getD k default).kind, (b.getD k default).text, 0⟩ : Vc.Item)).getD 0 := by rw [CW, if_pos rfl]; rfl
 refine EC [41, 42, 43, 44, 45, 46, 47, 48, 49, 50] (fun g w => ∃ m2 : List (Vc.Item × Int), MapIs w b1 (fun x : Vc.Item => Value.agg (Enc.enc x).toArray) (Value.int .i64) m2 ∧ (OY m m2 (⟨(b.getD k default).kind, (b.getD k default).text, 0⟩ : Vc.Item) (-1) ∧ m2.length ≤ m.length + 1) ∧ cv.heap.size ≤ w.heap.size ∧ Evo w0 w []) ?_ ?_
 have aT := o
 have bF := B29
 have af := B29.at
 have bB := C
 refine Aw ([b1]) ζ ?_
 intro w34 F35 J
 have ea := F35.size
 replace C := Z0 C F35
 replace o := o.evo0 F35
 replace B29 := B29.evo0 F35
 refine Zt (i := 0) η (fun w' U => TQ) J (Zt (i := 1) η (fun w' U => AD rfl η Ba) J (Zt (i := 2) η (fun w' U => AA rfl Ae η ((af.evo U θ).cell 0 η)) J (Zt (i := 3) η (fun w' U => AD rfl η Fq) J (Zt (i := 4) η (fun w' U => AA rfl BX η ((af.evo U θ).cell 1 η)) J (Zt (i := 5) η (fun w' U => A2 (pv := [(0, .int _ _), (1, S _)]) (zs := [_, _, _]) (cells := [_, _, _]) rfl Aa η HU η η) J ?_)))))
 refine GM (i := 6) (j := 8) ζ ?_ ?_
 refine EO η ?_
 refine Zo (BM (a := (⟨(b.getD k default).kind, (b.getD k default).text, 0⟩ : Vc.Item)) (z := 0) (v := .int _ _) DB rfl underlying97 Bd η η o rfl) ?_
 refine AZ J ?_
 refine Zt (i := 7) η (fun w' U => FK rfl η η ω ω) J ?_
 refine Zh (i := 8) ?_
 refine CX (a := (⟨(b.getD k default).kind, (b.getD k default).text, 0⟩ : Vc.Item)) (z := 0) DB rfl underlying97 Bd η η o ?_
 intro s37 w37 F37 V37 hm_new hst37
 have eb := F37.size
 replace C := Z1 C F37 ε
 replace J := Z1 J F37 ε
 replace o := hm_new
 clear hm_new
 refine AZ J ?_
 refine Zt (i := 9) η (fun w' U => AI (v := .int _ _) rfl η η) J ?_
 refine Zh (i := 10) ?_
 refine Bw (a := (⟨(b.getD k default).kind, (b.getD k default).text, 0⟩ : Vc.Item)) DB η η η o hst37 ?_
 intro w38 F38 V38 hm_new
 have ec := F38.size
 replace C := Z1 C F38 ε
 replace o := hm_new
 clear hm_new
 refine Ah ζ ?_
 refine A5 ζ ?_
 refine Ad ?_ ?_
 refine ⟨_, o, (by first | exact ⟨JS (-1), Er⟩ | exact ⟨JR (-1), Er⟩), δ, C⟩
 exact ψ
 refine EO η ?_
 refine CX (a := (⟨(b.getD k default).kind, (b.getD k default).text, 0⟩ : Vc.Item)) (z := 0) DB rfl underlying97 Bd η η o ?_
 intro s39 w39 F39 V39 hm_new hst39
 have ej := F39.size
 replace C := Z1 C F39 ε
 replace J := Z1 J F39 ε
 replace o := hm_new
 clear hm_new
 refine AZ J ?_
 refine Zt (i := 9) η (fun w' U => AI (v := .int _ _) rfl η η) J ?_
 refine Zh (i := 6) ?_
 refine Zo (BM (a := (⟨(b.getD k default).kind, (b.getD k default).text, 0⟩ : Vc.Item)) (z := 0) (v := .int _ _) DB rfl underlying97 Bd η η o rfl) ?_
 refine AZ J ?_
 refine Zt (i := 7) η (fun w' U => FK rfl η η ω ω) J ?_
 refine Zh (i := 10) ?_
 refine Bw (a := (⟨(b.getD k default).kind, (b.getD k default).text, 0⟩ : Vc.Item)) DB η η η o hst39 ?_
 intro w40 F40 V40 hm_new
 have ek := F40.size
 replace C := Z1 C F40 ε
 replace o := hm_new
 clear hm_new
 refine Ah ζ ?_
 refine A5 ζ ?_
 refine Ad ?_ ?_
 refine ⟨_, o, (by first | exact ⟨JS (-1), Er⟩ | exact ⟨JR (-1), Er⟩), δ, C⟩
 exact ψ
 rintro g e6 ⟨m2, o, hm2, hzl33, C⟩
 have br := C.size
 have cm := o.lt
 refine AX (AB (Zo Br (Zn AU (Zg (k + 1) ?_))))
 refine ⟨_, σ, δ, o, (by first | exact Qu hm2.1 υ υ hmb | exact Qj hmb), (by first | (have h9 := hm2.2; omega) | omega), δ, C⟩
 refine AJ (AX (AB (Zo Br (Zn AU (Zg (k + 1) ?_)))))
 refine ⟨_, σ, δ, o, (by first | exact Qu hm2.1 υ υ hmb | exact Qj hmb), (by first | (have h9 := hm2.2; omega) | omega), δ, C⟩
 refine Ak rfl (Zs (Zn Am (AE (Zs (Zo TQ (Ip rfl underlying97 η o ?_))))))
 intro r43 w44 her43 E44 R hzr43
 have en := E44.size
 replace C := Z0 C E44
 replace ha := az _ C
 replace hb := al _ C
 replace o := o.evo0 E44
 refine Ag (AK ?_)
 have cp := o.nodup
 refine Aq (α := List (Vc.Item × Int)) [10, 12, 54, 55, 56, 57, 58, 59, 60, 61, 62, 63, 64] (fun left g w => ∃ la : Option (Vc.Item × Int), ∃ sm : Int, g 10 = .int .i64 sm ∧ IterIs w r43 b1 (fun x : Vc.Item => Value.agg (Enc.enc x).toArray) (Value.int .i64) m left la ∧ (∀ p ∈ left, p ∈ m) ∧ (0 ≤ sm ∧ sm + 4000 * (left.length : Int) ≤ 4000 * (m.length : Int)) ∧ w44.heap.size ≤ w.heap.size ∧ Evo w0 w []) (fun left => left.length) m ?_ ?_
 refine ⟨_, _, σ, R, (fun p h => h), ω, δ, C⟩
 rintro left g e8 ⟨la, sm, hj47, R, hls, hsm, hzl45, C⟩
 have bs := C.size
 refine Zk 10 hj47 (Zs (LF rfl η R (fun bR => ?_) (fun bm b0 bn e9 ag F48 c3 au => ?_)))
 subst bR
 refine Zn (AI (v := .bool _) rfl η η) (AE (Dm η (Ak rfl (Zs (Zo AU (Zn Am (AM C3 ?_)))))))
 exact ⟨_, rfl, by omega, C⟩
 have eT := F48.size
 replace C := Z1 C F48 ε
 replace R := au
 clear au
 refine Zn (AI (v := .bool _) rfl η η) (AE (DY η (AJ (AK (Zs (Zo (EW rfl η R) (Zo (AI (v := .int _ _) rfl η η) (Zn Am ?_))))))))
 have cq := hls b0 (by rw [ag]; simp); have cr := hmb b0.1; rw [FH cp cq, Option.getD_some] at cr; have ca := congrArg List.length ag; simp only [List.length_append, List.length_cons] at ca
 refine AB (Zo AU (Zo AU (Zo AU (Zo (Z8 rfl η ω ω) (Zo (GH rfl η η) (Zo (Ha rfl η η ω ω) (Zo Br (Zn Am (AX ?_)))))))))
 refine DN (bm ++ bn) ?_ ?_ ?_
 rw [ag]; simp
 refine ⟨_, _, σ, R, (fun p h => hls p (by rw [ag]; rcases List.mem_append.1 h with h | h; exact List.mem_append_left _ h; exact List.mem_append_right _ (List.mem_cons_of_mem _ h))), (by rw [ag] at hsm; simp only [List.length_append, List.length_cons] at hsm ⊢; omega), δ, C⟩
 exact ψ
set_option maxHeartbeats 2000000 in
theorem RJ {bt bx : Option Addr} {ba bX bc bb bY bf : Nat} {a b : List Vc.Item} {w0 : World} (ha : RowE w0 bt ba bX bc a) (hb : RowE w0 bx bb bY bf b) (eT : a.length ≤ 1000) (eU : b.length ≤ 1000) (ca : ∀ x ∈ a, x.text.length ≤ 140737488355328) (cb : ∀ x ∈ b, x.text.length ≤ 140737488355328) :
    Calls Tryz.prog 150 #[.slice bt a.length bc, .slice bx b.length bf] w0 fun e w' => ∃ d : Int, e = .returned (.int .i64 d) ∧ (0 ≤ d ∧ d ≤ 10000000) ∧ Evo w0 w' [] := by
 refine AG (n := 111) func150 rfl ntmps150 rfl ?_
 have o : Evo w0 w0 [] := Evo.refl _ _
 have ao := A9 ha
 have b1 := ha.bd
 have al := A9 hb
 have b2 := hb.bd
 refine Zs (Zn Am (Zs (Zo Bi (Zo (AQ rfl η underlying40) (Zo Br (Zf (len := (b.length + 1)) (zs := [_]) underlying22 Bd η rfl rfl η η ω ω ω ω ?_))))))
 intro bR w1 hebR E1 I hzbR
 have Q1 := E1.size
 replace o := Z0 o E1
 replace ha := ao _ o
 replace hb := al _ o
 refine Zn (AR (v := .slice (some ⟨bR, 0, none⟩) _ _) rfl η) (AE (Zs (Zo Bi (Zo (AQ rfl η underlying40) (Zn AU (AK (Aq (α := Nat) [6, 7, 22, 23, 24, 25, 26, 27, 28, 29, 30, 31, 32, 33, 34, 35, 36, 37, 38] (fun k g w => ∃ r : Nat → Int, g 22 = .int .i64 (k : Nat) ∧ k ≤ b.length ∧ FB w bR 3 1 (b.length + 1) (fun x => [.int .i64 (r x)]) ∧ (∀ x, 0 ≤ r x ∧ r x ≤ 4 * (k : Int)) ∧ w1.heap.size ≤ w.heap.size ∧ Evo w0 w []) (fun k => b.length - k) 0 ?_ ?_)))))))
 refine ⟨(fun _ => 0), σ, δ, I, (fun x => ⟨Int.le_refl 0, by simp⟩), δ, o⟩
 rintro k g w3 ⟨r, hj4, hk_k, I, hr, hzl2, o⟩
 have bS := o.size
 have cv := I.lt
 replace ha := ao _ o
 replace hb := al _ o
 refine Zk 22 hj4 (Zs (Zn Dn (AE (AH η (fun b4 => ?_) (fun b4 => ?_)))))
 refine AJ (AE (AK (Zs (Zo AU (Zo (Ab (k) rfl underlying40 Aa η η χ ω (hb.addr (i := k) ω)) ?_)))))
 have bA := fun (w' : World) (h : Evo w0 w' []) => (al w' h).atD (k) ω
 refine Zo (AL rfl BE Aa η rfl (bA _ o)) (CU (zs := [_, _, _]) Aa η rfl ?_)
 intro b8 w9 J8 E9 B8 Y8
 have Q9 := E9.size
 replace o := Z0 o E9
 replace I := I.evo0 E9
 refine Zo Am (Ai (v := .agg _) (vs := [_, _, _]) (cs' := [_, _, _]) η η B8 Aa η rfl η rfl η ?_)
 intro w10 E10 V10 hb_new
 have c0 := E10.size
 replace o := Z1 o E10 ε
 replace I := I.evo E10 θ
 replace B8 := hb_new
 clear hb_new
 refine Ag ?_
 have bQ := hr k; have cc := Kt (b.getD k default)
 have ag := I
 have a1 := B8.at
 have b0 := B8
 have bm := o
 refine Aw ([]) ζ ?_
 intro w11 F12 J
 have c3 := F12.size
 replace o := Z0 o F12
 replace I := I.evo0 F12
 replace B8 := B8.evo0 F12
 refine Zt (i := 0) η (fun w' C => AN (v := .slice (some ⟨bR, 0, none⟩) _ _) rfl η) J (Zt (i := 1) η (fun w' C => AU) J (Zt (i := 2) η (fun w' C => Bl rfl η η ω ω) J (Zt (i := 3) η (fun w' C => AN (v := .slice (some ⟨bR, 0, none⟩) _ _) rfl η) J (Zt (i := 4) η (fun w' C => AU) J (Zt (i := 5) η (fun w' C => Ab (k) rfl underlying22 Bd η η χ ω rfl) J (Zt (i := 6) η (fun w' C => AA rfl Ae η ((ag.evo0 C).cell0 (x := k) ω rfl)) J (Zt (i := 7) η (fun w' C => AL rfl BE Aa η rfl (a1.evo0 C)) J ?_)))))))
 refine Zh (i := 8) ?_
 refine Zr [.agg _] rfl η func207 (FP (x := b.getD k default)) ?_
 rintro e e4 ⟨rfl, F14⟩
 refine ⟨_, rfl, ?_⟩
 have c9 := F14.size
 replace o := Z0 o F14
 replace J := Z0 J F14
 replace I := I.evo0 F14
 refine AZ J ?_
 refine Zt (i := 9) η (fun w' C => Bl rfl η η ω ω) J (Zt (i := 10) η (fun w' C => Ab ((k + 1)) rfl underlying22 Bd η η χ ω rfl) J ?_)
 refine Zh (i := 11) ?_
 refine Jz (v := .int _ _) (vs := [_]) ((k + 1)) η rfl η I ω Bd η rfl η ?_
 intro w15 E15 V15 hb_new
 have c_ := E15.size
 replace o := Z1 o E15 ε
 replace I := hb_new
 clear hb_new
 refine Ah ζ ?_
 refine A5 ζ ?_
 refine AX (AB (Zo Br (Zn AU (Zg (k + 1) ?_))))
 refine ⟨(fun q => if q = k + 1 then r k + cu (b.getD k default) else r q), σ, δ, (I.congr (fun x => by dsimp only; by_cases h9 : x = k + 1; (rw [if_pos h9, if_pos h9]); (rw [if_neg h9, if_neg h9]))), (fun x => by have h9 := hr x; have h8 := hr k; have h7 := Kt (b.getD k default); dsimp only; split <;> omega), δ, o⟩
 refine Ak rfl (AE (Zs (Zo Bi (Zo (AQ rfl η underlying40) (Zn AU (AK (Aq (α := Nat) [9, 10, 11, 12, 13, 14, 15, 41, 42, 43, 44, 45, 46, 47, 48, 49, 50, 51, 52, 53, 54, 55, 56, 57, 58, 59, 60, 61, 62, 63, 64, 65, 66, 67, 68, 69, 70, 71, 72, 73, 74, 75, 76, 77, 78, 79, 80, 81, 82, 83, 84, 85, 86, 87, 88, 89, 90, 91, 92, 93, 94, 95, 96, 97, 98, 99, 100, 101] (fun i g w => ∃ r : Nat → Int, g 41 = .int .i64 (i : Nat) ∧ i ≤ a.length ∧ FB w bR 3 1 (b.length + 1) (fun x => [.int .i64 (r x)]) ∧ (∀ x, 0 ≤ r x ∧ r x ≤ (4 * (b.length : Int) + 4 * (i : Int))) ∧ w3.heap.size ≤ w.heap.size ∧ Evo w0 w []) (fun i => a.length - i) 0 ?_ ?_)))))))
 refine ⟨_, σ, δ, I, (fun x => by have h9 := hr x; omega), δ, o⟩
 rintro i g e5 ⟨r, hj18, hk_i, I, hr, hzl16, o⟩
 have bo := o.size
 have b5 := I.lt
 refine Zk 41 hj18 (Zs (Zn Dn (AE (AH η (fun bF => ?_) (fun bF => ?_)))))
 refine AJ (AE (AK (Zs (Zo (Ab (i) rfl underlying40 Aa η η χ ω ((ao _ o).addr (i := i) ω)) ?_))))
 have az := fun (w' : World) (h : Evo w0 w' []) => (ao w' h).atD (i) ω
 have bl := az _ o
 refine Zo (AL rfl BE Aa η rfl bl) (Bq (zs := [_, _, _]) (vs := [_, _, _]) Aa η rfl η (fun _ => rfl) η rfl rfl η ?_)
 intro b22 w23 J22 E23 B22 Y22
 have dc := E23.size
 replace o := Z0 o E23
 replace I := I.evo0 E23
 refine Ag (Zs (Zo (AN (v := .slice (some ⟨bR, 0, none⟩) _ _) rfl η) (Zo (Ab (0) rfl underlying22 Bd η η χ ω rfl) (Zo (AA rfl Ae η (I.cell0 (x := 0) ω rfl)) (Zn Am (AE ?_))))))
 have bQ := hr 0; have cc := Kt (a.getD i default)
 have ag := I
 have bB := B22
 have aT := B22.at
 have bm := o
 refine Aw ([]) ζ ?_
 intro w24 F25 U
 have dk := F25.size
 replace o := Z0 o F25
 replace I := I.evo0 F25
 replace B22 := B22.evo0 F25
 refine Zt (i := 0) η (fun w' C => AN (v := .slice (some ⟨bR, 0, none⟩) _ _) rfl η) U (Zt (i := 1) η (fun w' C => Ab (0) rfl underlying22 Bd η η χ ω rfl) U (Zt (i := 2) η (fun w' C => AA rfl Ae η ((ag.evo0 C).cell0 (x := 0) ω rfl)) U (Zt (i := 3) η (fun w' C => AL rfl BE Aa η rfl (aT.evo0 C)) U ?_)))
 refine Zh (i := 4) ?_
 refine Zr [.agg _] rfl η func207 (FP (x := a.getD i default)) ?_
 rintro e e6 ⟨rfl, F27⟩
 refine ⟨_, rfl, ?_⟩
 have dm := F27.size
 replace o := Z0 o F27
 replace U := Z0 U F27
 replace I := I.evo0 F27
 replace B22 := B22.evo0 F27
 refine AZ U ?_
 refine Zt (i := 5) η (fun w' C => Bl rfl η η ω ω) U (Zt (i := 6) η (fun w' C => Ab (0) rfl underlying22 Bd η η χ ω rfl) U ?_)
 refine Zh (i := 7) ?_
 refine Jz (v := .int _ _) (vs := [_]) (0) η rfl η I ω Bd η rfl η ?_
 intro w28 E28 V28 hb_new
 have dn := E28.size
 replace o := Z1 o E28 ε
 replace ha := ao _ o
 replace hb := al _ o
 replace B22 := B22.evo E28 θ
 replace I := hb_new
 clear hb_new
 refine Ah ζ ?_
 refine A5 ζ ?_
 refine Zs (Zo Bi (Zo (AQ rfl η underlying40) (Zn AU (AK (Aq (α := Nat) [10, 11, 12, 13, 14, 15, 57, 58, 59, 60, 61, 62, 63, 64, 65, 66, 67, 68, 69, 70, 71, 72, 73, 74, 75, 76, 77, 78, 79, 80, 81, 82, 83, 84, 85, 86, 87, 88, 89, 90, 91, 92, 93, 94, 95, 96, 97, 98, 99, 100] (fun j g w => ∃ r : Nat → Int, ∃ dg : Int, g 57 = .int .i64 (j : Nat) ∧ g 10 = .int .i64 dg ∧ j ≤ b.length ∧ FB w bR 3 1 (b.length + 1) (fun x => [.int .i64 (r x)]) ∧ Blk w b22 111 (Enc.enc (a.getD i default)) ∧ (∀ x, (0 ≤ r x ∧ r x ≤ (4 * (b.length : Int) + 4 * (i : Int)) + 4) ∧ (j < x → r x ≤ (4 * (b.length : Int) + 4 * (i : Int)))) ∧ (0 ≤ dg ∧ dg ≤ (4 * (b.length : Int) + 4 * (i : Int))) ∧ w28.heap.size ≤ w.heap.size ∧ Evo w0 w []) (fun j => b.length - j) 0 ?_ ?_)))))
 refine ⟨(fun q => if q = 0 then r 0 + cu (a.getD i default) else r q), _, σ, rfl, δ, (I.congr (fun x => by dsimp only; by_cases h9 : x = 0; (rw [if_pos h9, if_pos h9]); (rw [if_neg h9, if_neg h9]))), B22, (fun x => by have h9 := hr x; have h8 := hr 0; have h7 := Kt (a.getD i default); dsimp only; split <;> (constructor <;> omega)), (by have h8 := hr 0; omega), δ, o⟩
 rintro j g e9 ⟨r, dg, hj31, hj32, hk_j, I, B22, hr, hdg, hzl29, o⟩
 have bq := o.size
 have b6 := I.lt
 have b7 := B22.lt
 replace bl := az _ o
 refine Zk 57 hj31 (Zk 10 hj32 (Zs (Zn Dn (AE (AH η (fun bL => ?_) (fun bL => ?_))))))
 refine AJ (AE (AK (Zs (Zo AU (Zo (Ab (j) rfl underlying40 Aa η η χ ω ((al _ o).addr (i := j) ω)) ?_)))))
 have aS := fun (w' : World) (h : Evo w0 w' []) => (al w' h).atD (j) ω
 refine Zo (AL rfl BE Aa η rfl (aS _ o)) (CU (zs := [_, _, _]) Aa η rfl ?_)
 intro b37 w38 J37 E38 B37 Y37
 have dp := E38.size
 replace o := Z0 o E38
 replace I := I.evo0 E38
 replace B22 := B22.evo0 E38
 replace ct := aS _ o
 refine Zo Am (Ai (v := .agg _) (vs := [_, _, _]) (cs' := [_, _, _]) η η B37 Aa η rfl η rfl η ?_)
 intro w39 E39 V39 hb_new
 have ds := E39.size
 replace o := Z1 o E39 ε
 replace I := I.evo E39 θ
 replace B22 := B22.evo E39 θ
 replace B37 := hb_new
 clear hb_new
 refine Ag (AE ?_)
 have e0 := hr (j + 1); have bQ := hr j; have e2 := Kt (a.getD i default); have e3 := Kt (b.getD j default)
 refine Bt ζ ζ (Zq (fun w' C => AN (v := .slice (some ⟨bR, 0, none⟩) _ _) rfl η) (Zq (fun w' C => AU) (Zq (fun w' C => Bl rfl η η ω ω) (Zq (fun w' C => Ab ((j + 1)) rfl underlying22 Bd η η χ ω rfl) (Zq (fun w' C => AA rfl Ae η ((I.evo0 C).cell0 (x := (j + 1)) ω rfl)) (Zq (fun w' C => AL rfl BE Aa η rfl (B22.at.evo0 C)) (Je rfl rfl rfl (fun w' C => BN rfl (BU (v := .agg _) η (rfl)) func207 rfl ζ) (fun w' C => (FP (x := a.getD i default)).mono (fun e cm h => ⟨h.1, CB C h.2⟩)) (Zq (fun w' C => Bl rfl η η ω ω) (Zq (fun w' C => AN (v := .slice (some ⟨bR, 0, none⟩) _ _) rfl η) ?_)))))))))
 refine Zq (fun w' C => AU) (Zq (fun w' C => Ab (j) rfl underlying22 Bd η η χ ω rfl) (Zq (fun w' C => AA rfl Ae η ((I.evo0 C).cell0 (x := j) ω rfl)) (Zq (fun w' C => AL rfl BE Aa η rfl (B37.at.evo0 C)) (Je rfl rfl rfl (fun w' C => BN rfl (BU (v := .agg _) η (rfl)) func207 rfl ζ) (fun w' C => (FP (x := b.getD j default)).mono (fun e cm h => ⟨h.1, CB C h.2⟩)) (Zq (fun w' C => Bl rfl η η ω ω) (Zq (fun w' C => Eg rfl η η) (Zq (fun w' C => Am) (EV (fun e_ F41 => ?_)))))))))
 have dO := F41.size
 replace o := Z0 o F41
 replace I := I.evo0 F41
 replace B22 := B22.evo0 F41
 replace B37 := B37.evo0 F41
 refine AE (Zs (Zo (AL rfl BE Aa η rfl B22.at) (Zo (AL rfl BE Aa η rfl B37.at) (Zr [.agg _, .agg _] rfl η func208 (TJ (ca _ (EM (show i < a.length by omega))) (cb _ (EM (show j < b.length by omega)))) ?_))))
 rintro e cp ⟨cq, cb42, rfl, hcc42, F42⟩
 refine ⟨_, rfl, ?_⟩
 have d_ := F42.size
 replace o := Z0 o F42
 replace ha := ao _ o
 replace hb := al _ o
 replace I := I.evo0 F42
 replace B22 := B22.evo0 F42
 refine Zo PW (Zo (AI (v := .int _ _) rfl η η) (Zo (AI (v := .bool _) rfl η η) (Zo Am (Zn BV (Zs (Zn (Cc rfl η) (EC [13, 85, 86, 87, 88, 89] (fun g w => ∃ bs : Int, g 13 = .int .i64 bs ∧ FB w bR 3 1 (b.length + 1) (fun x => [.int .i64 (r x)]) ∧ Blk w b22 111 (Enc.enc (a.getD i default)) ∧ (0 ≤ bs ∧ bs ≤ (4 * (b.length : Int) + 4 * (i : Int)) + 4) ∧ cp.heap.size ≤ w.heap.size ∧ Evo w0 w []) ?_ ?_)))))))
 refine AH η (fun bM => ?_) (fun bM => ?_)
 refine AB (Zo AU (Zo AU (Zo AU (Zo Br (Zo (Eg rfl η η) (Zn Am (Ad ?_ ?_)))))))
 refine ⟨_, σ, I, B22, ω, δ, o⟩
 exact ψ
 refine AJ (Ad ?_ ?_)
 refine ⟨_, σ, I, B22, ω, δ, o⟩
 exact ψ
 rintro g fg ⟨bs, hj46, I, B22, hbs, hzl43, o⟩
 have br := o.size
 have b9 := I.lt
 have b_ := B22.lt
 refine Zk 13 hj46 (AB (Zo (AN (v := .slice (some ⟨bR, 0, none⟩) _ _) rfl η) (Zo AU (Zo Br (Zo (AN (v := .slice (some ⟨bR, 0, none⟩) _ _) rfl η) (Zo AU (Zo Br (Zo (Ab ((j + 1)) rfl underlying22 Bd η η χ ω rfl) (Zo (AA rfl Ae η (I.cell0 (x := (j + 1)) ω rfl)) ?_)))))))))
 refine Zo AU (Zo Am (Zo (Ab ((j + 1)) rfl underlying22 Bd η η χ ω rfl) (Jz (v := .int _ _) (vs := [_]) ((j + 1)) η rfl η I ω Bd η rfl η ?_)))
 intro w49 E49 V49 hb_new
 have ea := E49.size
 replace o := Z1 o E49 ε
 replace B22 := B22.evo E49 θ
 replace I := hb_new
 clear hb_new
 refine Ag (AX (AB (Zo Br (Zn AU (Zg (j + 1) ?_)))))
 refine ⟨(fun q => if q = j + 1 then bs else r q), _, σ, rfl, δ, (I.congr (fun x => by dsimp only; by_cases h9 : x = j + 1; (rw [if_pos h9, if_pos h9]); (rw [if_neg h9, if_neg h9]))), B22, (fun x => by have h9 := hr x; dsimp only; split <;> (constructor <;> omega)), (by have h8 := hr (j + 1); omega), δ, o⟩
 refine Ak rfl (AX (AB (Zo Br (Zn AU (Zg (i + 1) ?_)))))
 refine ⟨_, σ, δ, I, (fun x => by have h9 := (hr x).1; omega), δ, o⟩
 refine Ak rfl (AE ?_)
 have e1 := hr b.length
 have ag := I
 have bm := o
 refine Aw ([]) ζ ?_
 intro w50 F51 R
 have eb := F51.size
 replace o := Z0 o F51
 replace ha := ao _ o
 replace hb := al _ o
 refine Zt (i := 0) η (fun w' C => AN (v := .slice (some ⟨bR, 0, none⟩) _ _) rfl η) R (Zt (i := 1) η (fun w' C => Bi) R (Zt (i := 2) η (fun w' C => AQ rfl η underlying40) R (Zt (i := 3) η (fun w' C => Ab (b.length) rfl underlying22 Bd η η χ ω rfl) R (Zt (i := 4) η (fun w' C => AA rfl Ae η ((ag.evo0 C).cell0 (x := b.length) ω rfl)) R (Zt (i := 5) η (fun w' C => Bi) R (Zt (i := 6) η (fun w' C => Bi) R ?_))))))
 refine Zh (i := 7) ?_
 refine Zr [.slice _ _ _, .slice _ _ _] rfl η func209 (Nu ha hb ω ω) ?_
 rintro e fi ⟨cr, rfl, hds53, F53⟩
 refine ⟨_, rfl, ?_⟩
 have ec := F53.size
 replace o := Z0 o F53
 replace R := Z0 R F53
 refine AZ R ?_
 refine Zt (i := 8) η (fun w' C => Bl rfl η η ω ω) R (Zt (i := 9) η (fun w' C => Am) R ?_)
 refine A5 ζ ?_
 refine AM C3 ?_
 exact ⟨_, rfl, by omega, o⟩
theorem Ys {t x : Int} (j : 0 < t) (o : 0 ≤ x) (h1 : x ≤ t) : 0 ≤ (100 * x).tdiv t ∧ (100 * x).tdiv t ≤ 100 := by
  refine ⟨Int.tdiv_nonneg ω ω, ?_⟩
  rw [Int.tdiv_eq_ediv_of_nonneg ω]
  exact Int.ediv_le_of_le_mul j ω
theorem IB {J R : Option Addr} {ba ag j bb al o : Nat} {a b : List Vc.Item} {I : World} (U : RowE I J ba ag j a) (hb : RowE I R bb al o b) (bn : a.length ≤ 1000) (bo : b.length ≤ 1000) (bc : ∀ x ∈ a, x.text.length ≤ 140737488355328) (bf : ∀ x ∈ b, x.text.length ≤ 140737488355328) :
    Calls Tryz.prog 99 #[.slice J a.length j, .slice R b.length o] I fun e w' => ∃ p : Int, e = .returned (.int .i64 p) ∧ (0 ≤ p ∧ p ≤ 100) ∧ Evo I w' [] := by
 refine AG (n := 20) func99 rfl ntmps99 rfl ?_
 have C : Evo I I [] := Evo.refl _ _
 have aS := A9 U
 have ao := U.bd
 have aT := A9 hb
 have au := hb.bd
 refine Zs (Zn Am (Zs (Zo Bi (Zo Bi (Zr [.slice _ _ _, .slice _ _ _] rfl η func149 (RC U hb ω ω) ?_)))))
 rintro e w1 ⟨rfl, F1⟩
 refine ⟨_, rfl, ?_⟩
 have Q1 := F1.size
 replace C := Z0 C F1
 replace U := aS _ C
 replace hb := aT _ C
 refine Zn Am (AE (Zs (Zo AU (Zn DA (AH η (fun a1 => ?_) (fun a1 => ?_))))))
 refine Zs (Zn Am (AM C3 ?_))
 exact ⟨_, rfl, by omega, C⟩
 refine AJ (AE ?_)
 have bq := MO a; have br := MO b
 refine AB (Zo AU (Zo Bi (Zo Bi (Zr [.slice _ _ _, .slice _ _ _] rfl η func150 (RJ U hb ω ω bc bf) ?_))))
 rintro e w3 ⟨az, rfl, hdd3, F3⟩
 refine ⟨_, rfl, ?_⟩
 have Q3 := F3.size
 replace C := Z0 C F3
 have a_ := Ys (t := max (EU a) (EU b)) (x := max (max (EU a) (EU b) - az) 0) ω ω ω
 refine Zo TP (Zo (GH rfl η η) (Zo (Ha rfl η η ω ω) (Zo AU (Zo (P3 rfl η η ω ω ω) (Zn Am (AM C3 ?_))))))
 exact ⟨_, rfl, a_, C⟩
theorem XO : CQ Tryz.prog 52 = some true := ζ
theorem Qw : A8 Tryz.prog 43 3 = some 3 := ζ
theorem Md : A8 Tryz.prog 52 1 = some 1 := ζ
theorem UL : A8 Tryz.prog 52 2 = some 2 := ζ
theorem bZ : A8 Tryz.prog 52 3 = some 3 := ζ
theorem MS : A8 Tryz.prog 52 4 = some 4 := ζ
theorem ZF : Cn Tryz.prog 52 = some [(0, 1), (1, 1), (2, 1), (3, 1), (4, 1)] := ζ
theorem EH : Cy Tryz.prog 52 = some (5, 40, some (.agg #[(.int .i64 0), (.int .i64 0), (.int .i64 0), (.int .i64 0), (.int .i64 0)])) := ζ
set_option maxHeartbeats 1000000 in
theorem Nl {bf bl bn : Option Addr} {a b q : Nat} {bs bt bx : Nat} {pv nx au pj b2 b0 : Ac} {cr og nw th mo : Int} {bo bq : Option Addr} {bX ct bz bY cv bA : Nat} {ta tb : List Vc.Item} {w0 : World} (ag : RowE w0 bo bX ct bz ta) (al : RowE w0 bq bY cv bA tb) (bM : ta.length ≤ 1000) (bQ : tb.length ≤ 1000) (bR : ∀ x ∈ ta, x.text.length ≤ 140737488355328) (bS : ∀ x ∈ tb, x.text.length ≤ 140737488355328) :
    Calls Tryz.prog 39 #[.agg #[.slice bf a bs, .slice bl b bt, S pv, S nx, S au, S pj, .int .i64 cr, .int .i64 og], .slice bo ta.length bz, .slice bq tb.length bA, .slice none 0 0, .agg #[.slice bn q bx, S b2, S b0, .int .i64 nw, .int .i64 th, .int .i64 mo]] w0 fun e w' => ∃ p c s : Int, e = .returned (.agg #[.int .i64 0, .int .i64 p, .int .i64 c, .int .i64 0, .int .i64 s]) ∧ Evo w0 w' [] := by
 refine AG (n := 39) func39 rfl ntmps39 rfl ?_
 have R : Evo w0 w0 [] := Evo.refl _ _
 have aT := A9 ag
 have bB := ag.bd
 have a1 := A9 al
 have bF := al.bd
 refine Zs (CE (vs := [_, _, _, _, _, _, _, _]) η η rfl ?_)
 intro b1 w2 J1 E2 B1 Y1
 have Q2 := E2.size
 replace R := Z0 R E2
 have o := B1.at
 refine CE (vs := [_, _, _, _, _, _]) η η rfl ?_
 intro b3 w4 J3 E4 B3 Y3
 have Q4 := E4.size
 replace R := Z0 R E4
 replace B1 := B1.evo0 E4
 replace o := o.evo0 E4
 have I := B3.at
 refine CU (zs := [_, _, _, _, _]) EH η rfl ?_
 intro b5 w6 J5 E6 B5 Y5
 have Q6 := E6.size
 replace R := Z0 R E6
 replace B1 := B1.evo0 E6
 replace o := o.evo0 E6
 replace B3 := B3.evo0 E6
 replace I := I.evo0 E6
 have C := B5.at
 refine Ag (AE (EC [11, 12, 13, 14, 15, 16, 17, 18, 19, 20] (fun g w => ∃ bm : Nat, ∃ p : Int, g 11 = .pointer (some ⟨bm, 0, none⟩) ∧ Blk w b1 35 [.slice bf a bs, .slice bl b bt, S pv, S nx, S au, S pj, .int .i64 cr, .int .i64 og] ∧ Blk w b3 43 [.slice bn q bx, S b2, S b0, .int .i64 nw, .int .i64 th, .int .i64 mo] ∧ Blk w b5 52 [.int .i64 0, .int .i64 0, .int .i64 0, .int .i64 0, .int .i64 0] ∧ Blk w bm 52 [.int .i64 0, .int .i64 p, .int .i64 0, .int .i64 0, .int .i64 0] ∧ (0 ≤ p ∧ p ≤ 100) ∧ (b5 < bm) ∧ w6.heap.size ≤ w.heap.size ∧ Evo w0 w []) ?_ ?_))
 have b6 := B1
 have az := o
 have b7 := B3
 have aS := I
 have b8 := B5
 have b4 := C
 have c_ := R
 refine Aw ([]) ζ ?_
 intro w8 F9 J
 have Q8 := F9.size
 replace R := Z0 R F9
 replace ag := aT _ R
 replace al := a1 _ R
 replace B1 := B1.evo0 F9
 replace o := o.evo0 F9
 replace B3 := B3.evo0 F9
 replace I := I.evo0 F9
 replace B5 := B5.evo0 F9
 replace C := C.evo0 F9
 refine Zt (i := 0) η (fun w' hC => Bi) J (Zt (i := 1) η (fun w' hC => Bi) J (Zt (i := 3) η (fun w' hC => Bi) J (Zt (i := 4) η (fun w' hC => AL rfl Ek Cv η rfl (az.evo0 hC)) J (Zt (i := 5) η (fun w' hC => AD rfl η Qw) J (Zt (i := 6) η (fun w' hC => AA rfl Ae η ((aS.evo0 hC).cell 3 η)) J ?_)))))
 refine GM (i := 2) (j := 9) ζ ?_ ?_
 refine EO η ?_
 refine Zr [.slice _ _ _, .slice _ _ _] rfl η func99 (IB ag al bM bQ bR bS) ?_
 rintro e fg ⟨dO, rfl, hsp11, F11⟩
 refine ⟨_, rfl, ?_⟩
 have eb := F11.size
 replace R := Z0 R F11
 replace J := Z0 J F11
 replace B1 := B1.evo0 F11
 replace o := o.evo0 F11
 replace B3 := B3.evo0 F11
 replace I := I.evo0 F11
 replace B5 := B5.evo0 F11
 replace C := C.evo0 F11
 refine AZ J ?_
 refine GM (i := 7) (j := 9) ζ ?_ ?_
 refine EO η ?_
 refine Zr [.slice _ _ _, .agg _, .int _ _] rfl η func100 (GU ) ?_
 rintro e fi ⟨rfl, F12⟩
 refine ⟨_, rfl, ?_⟩
 have ec := F12.size
 replace R := Z0 R F12
 replace J := Z0 J F12
 replace B1 := B1.evo0 F12
 replace o := o.evo0 F12
 replace B3 := B3.evo0 F12
 replace I := I.evo0 F12
 replace B5 := B5.evo0 F12
 replace C := C.evo0 F12
 refine AZ J ?_
 refine Zt (i := 8) η (fun w' hC => A2 (pv := [(1, .int _ _), (3, .int _ _)]) (zs := [_, _, _, _, _]) (cells := [_, _, _, _, _]) rfl EH η ZF η η) J ?_
 refine Zh (i := 9) ?_
 refine CU (zs := [_, _, _, _, _]) EH η rfl ?_
 intro b13 w14 J13 E14 ba Y13
 have ej := E14.size
 replace R := Z0 R E14
 replace J := Z0 J E14
 replace B1 := B1.evo0 E14
 replace o := o.evo0 E14
 replace B3 := B3.evo0 E14
 replace I := I.evo0 E14
 replace B5 := B5.evo0 E14
 replace C := C.evo0 E14
 refine AZ J ?_
 refine Zh (i := 10) ?_
 refine Ai (v := .agg _) (vs := [_, _, _, _, _]) (cs' := [_, _, _, _, _]) η η ba EH η rfl η rfl η ?_
 intro w15 E15 V15 hb_new
 have ek := E15.size
 replace R := Z1 R E15 ε
 replace B1 := B1.evo E15 θ
 replace o := o.evo E15 θ
 replace B3 := B3.evo E15 θ
 replace I := I.evo E15 θ
 replace B5 := B5.evo E15 θ
 replace C := C.evo E15 θ
 replace ba := hb_new
 clear hb_new
 refine Ah ζ ?_
 refine A5 ζ ?_
 refine Ad ?_ ?_
 refine ⟨_, _, rfl, B1, B3, B5, ba, ω, ω, δ, R⟩
 exact ψ
 refine EO η ?_
 refine CU (zs := [_, _, _, _, _]) EH η rfl ?_
 intro b16 w17 J16 E17 B16 Y16
 have en := E17.size
 replace R := Z0 R E17
 replace J := Z0 J E17
 replace B1 := B1.evo0 E17
 replace o := o.evo0 E17
 replace B3 := B3.evo0 E17
 replace I := I.evo0 E17
 replace B5 := B5.evo0 E17
 replace C := C.evo0 E17
 refine AZ J ?_
 refine Zh (i := 7) ?_
 refine Zr [.slice _ _ _, .agg _, .int _ _] rfl η func100 (GU ) ?_
 rintro e fo ⟨rfl, F18⟩
 refine ⟨_, rfl, ?_⟩
 have eT := F18.size
 replace R := Z0 R F18
 replace J := Z0 J F18
 replace B1 := B1.evo0 F18
 replace o := o.evo0 F18
 replace B3 := B3.evo0 F18
 replace I := I.evo0 F18
 replace B5 := B5.evo0 F18
 replace C := C.evo0 F18
 replace B16 := B16.evo0 F18
 refine AZ J ?_
 refine Zt (i := 8) η (fun w' hC => A2 (pv := [(1, .int _ _), (3, .int _ _)]) (zs := [_, _, _, _, _]) (cells := [_, _, _, _, _]) rfl EH η ZF η η) J ?_
 refine Zh (i := 10) ?_
 refine Ai (v := .agg _) (vs := [_, _, _, _, _]) (cs' := [_, _, _, _, _]) η η B16 EH η rfl η rfl η ?_
 intro w19 E19 V19 hb_new
 have eU := E19.size
 replace R := Z1 R E19 ε
 replace B1 := B1.evo E19 θ
 replace o := o.evo E19 θ
 replace B3 := B3.evo E19 θ
 replace I := I.evo E19 θ
 replace B5 := B5.evo E19 θ
 replace C := C.evo E19 θ
 replace B16 := hb_new
 clear hb_new
 refine Ah ζ ?_
 refine A5 ζ ?_
 refine Ad ?_ ?_
 refine ⟨_, _, rfl, B1, B3, B5, B16, ω, ω, δ, R⟩
 exact ψ
 refine EO η ?_
 refine CU (zs := [_, _, _, _, _]) EH η rfl ?_
 intro b20 w21 J20 E21 B20 Y20
 have e0 := E21.size
 replace R := Z0 R E21
 replace J := Z0 J E21
 replace ag := aT _ R
 replace al := a1 _ R
 replace B1 := B1.evo0 E21
 replace o := o.evo0 E21
 replace B3 := B3.evo0 E21
 replace I := I.evo0 E21
 replace B5 := B5.evo0 E21
 replace C := C.evo0 E21
 refine AZ J ?_
 refine Zh (i := 2) ?_
 refine Zr [.slice _ _ _, .slice _ _ _] rfl η func99 (IB ag al bM bQ bR bS) ?_
 rintro e fr ⟨d_, rfl, hsp22, F22⟩
 refine ⟨_, rfl, ?_⟩
 have e1 := F22.size
 replace R := Z0 R F22
 replace J := Z0 J F22
 replace B1 := B1.evo0 F22
 replace o := o.evo0 F22
 replace B3 := B3.evo0 F22
 replace I := I.evo0 F22
 replace B5 := B5.evo0 F22
 replace C := C.evo0 F22
 replace B20 := B20.evo0 F22
 refine AZ J ?_
 refine Zh (i := 7) ?_
 refine Zr [.slice _ _ _, .agg _, .int _ _] rfl η func100 (GU ) ?_
 rintro e fs ⟨rfl, F23⟩
 refine ⟨_, rfl, ?_⟩
 have e2 := F23.size
 replace R := Z0 R F23
 replace J := Z0 J F23
 replace B1 := B1.evo0 F23
 replace o := o.evo0 F23
 replace B3 := B3.evo0 F23
 replace I := I.evo0 F23
 replace B5 := B5.evo0 F23
 replace C := C.evo0 F23
 replace B20 := B20.evo0 F23
 refine AZ J ?_
 refine Zt (i := 8) η (fun w' hC => A2 (pv := [(1, .int _ _), (3, .int _ _)]) (zs := [_, _, _, _, _]) (cells := [_, _, _, _, _]) rfl EH η ZF η η) J ?_
 refine Zh (i := 10) ?_
 refine Ai (v := .agg _) (vs := [_, _, _, _, _]) (cs' := [_, _, _, _, _]) η η B20 EH η rfl η rfl η ?_
 intro w24 E24 V24 hb_new
 have e3 := E24.size
 replace R := Z1 R E24 ε
 replace B1 := B1.evo E24 θ
 replace o := o.evo E24 θ
 replace B3 := B3.evo E24 θ
 replace I := I.evo E24 θ
 replace B5 := B5.evo E24 θ
 replace C := C.evo E24 θ
 replace B20 := hb_new
 clear hb_new
 refine Ah ζ ?_
 refine A5 ζ ?_
 refine Ad ?_ ?_
 refine ⟨_, _, rfl, B1, B3, B5, B20, ω, ω, δ, R⟩
 exact ψ
 rintro g c0 ⟨bm, p, hj26, B1, B3, B5, U, hp, hbm0, hzl7, R⟩
 have bb := R.size
 have ca := B1.lt
 have cb := B3.lt
 have cc := B5.lt
 have cm := U.lt
 have o := B1.at
 have I := B3.at
 have C := B5.at
 have af := U.at
 refine Zk 11 hj26 (AE (Zs (Zo (AD rfl η Md) (Zo (AA rfl Ae η (af.cell 1 η)) (Zn DA (EC [24, 25, 26, 27] (fun g w => ∃ c : Int, Blk w b5 52 [.int .i64 0, .int .i64 0, .int .i64 0, .int .i64 0, .int .i64 0] ∧ Blk w bm 52 [.int .i64 0, .int .i64 p, .int .i64 c, .int .i64 0, .int .i64 0] ∧ (0 ≤ c ∧ c ≤ 2) ∧ c0.heap.size ≤ w.heap.size ∧ Evo w0 w []) ?_ ?_))))))
 refine AH η (fun bL => ?_) (fun bL => ?_)
 refine AB (Zo (AL rfl Ek Cv η rfl o) (Zo (AL rfl SB KA η rfl I) (Zr [.agg _, .agg _] rfl η func101 (ND ) ?_)))
 rintro e f_ ⟨ds, rfl, hsc33, F33⟩
 refine ⟨_, rfl, ?_⟩
 have e4 := F33.size
 replace R := Z0 R F33
 replace B1 := B1.evo0 F33
 replace B3 := B3.evo0 F33
 replace B5 := B5.evo0 F33
 replace U := U.evo0 F33
 replace o := o.evo0 F33
 replace I := I.evo0 F33
 replace C := C.evo0 F33
 replace af := af.evo0 F33
 refine Zo (AD rfl η UL) (Ai (v := .int _ _) (vs := [_]) (cs' := [_, _, _, _, _]) η η U Bd η rfl η rfl η ?_)
 intro w34 E34 V34 hb_new
 have e5 := E34.size
 replace R := Z1 R E34 ε
 replace B1 := B1.evo E34 θ
 replace B3 := B3.evo E34 θ
 replace B5 := B5.evo E34 θ
 replace o := o.evo E34 θ
 replace I := I.evo E34 θ
 replace C := C.evo E34 θ
 replace U := hb_new
 have af := U.at
 clear hb_new
 refine Ag (Ad ?_ ?_)
 refine ⟨_, B5, U, ω, δ, R⟩
 exact ψ
 refine AJ (Ad ?_ ?_)
 refine ⟨_, B5, U, ω, δ, R⟩
 exact ψ
 rintro g ga ⟨c, B5, U, hc, hzl31, R⟩
 have bc := R.size
 have cp := B5.lt
 have cq := U.lt
 have C := B5.at
 have af := U.at
 refine Zs (Zo (AD rfl η Md) (Zo (AA rfl Ae η (af.cell 1 η)) (Zo (AD rfl η UL) (Zo (AA rfl Ae η (af.cell 2 η)) (Zo Br (Zo (AD rfl η bZ) (Zo (AA rfl Ae η (af.cell 3 η)) (Zo TP (Zo (GH rfl η η) ?_)))))))))
 refine Zo (AD rfl η MS) (Ai (v := .int _ _) (vs := [_]) (cs' := [_, _, _, _, _]) η η U Bd η rfl η rfl η ?_)
 intro w38 E38 V38 hb_new
 have e6 := E38.size
 replace R := Z1 R E38 ε
 replace B5 := B5.evo E38 θ
 replace C := C.evo E38 θ
 replace U := hb_new
 have af := U.at
 clear hb_new
 refine Ag (Zs (Zo (AL rfl XO EH η rfl af) (Ai (v := .agg _) (vs := [_, _, _, _, _]) (cs' := [_, _, _, _, _]) η η B5 EH η rfl η rfl η ?_)))
 intro w39 E39 V39 hb_new
 have e8 := E39.size
 replace R := Z1 R E39 ε
 replace af := af.evo E39 θ
 replace U := U.evo E39 θ
 replace B5 := hb_new
 have C := B5.at
 clear hb_new
 refine Ag (AM (Nn (cs := [_, _, _, _, _]) rfl XO EH η rfl C) ?_)
 exact ⟨_, _, _, rfl, R⟩
theorem Mk : A8 Tryz.prog 43 0 = some 0 := ζ
theorem Ix : A8 Tryz.prog 43 4 = some 4 := ζ
theorem MT : A8 Tryz.prog 43 5 = some 5 := ζ
set_option maxHeartbeats 1000000 in
theorem Sl {I : Option Addr} {bA bo J : Nat} {a : List Vc.Item} {pv nx : Ac} {nw th mo : Int} {w0 : World} (C : RowE w0 I bA bo J a) (bl : Bo [] a = 0) (ba : a ≠ []) (aT : a.length ≤ 16) (a1 : Ay a ≤ 400) (bc : pv ∈ FD) (bb : nx ∈ FE) (bF : 0 ≤ nw ∧ nw ≤ 1000) (bM : 1 ≤ th ∧ th ≤ 102) (bz : 1 ≤ mo ∧ mo ≤ 100) :
    Calls Tryz.prog 36 #[.agg #[.slice I a.length J, S pv, S nx, .int .i64 nw, .int .i64 th, .int .i64 mo]] w0 fun e w' => e = .returned (.int .i64 0) ∧ Evo w0 w' [] := by
 have bL : Small a := ⟨by omega, by omega⟩; have au := JT _ bc; have ao := JX _ bb; have bf := Ra bl aT a1; have bB : 0 < a.length := List.length_pos_iff.2 ba
 refine AG (n := 68) func36 rfl ntmps36 rfl ?_
 have o : Evo w0 w0 [] := Evo.refl _ _
 have az := A9 C
 have R := C.bd
 refine Zs (CE (vs := [_, _, _, _, _, _]) η η rfl ?_)
 intro b1 w2 J1 E2 B1 Y1
 have Q2 := E2.size
 replace o := Z0 o E2
 replace C := az _ o
 refine Zn Am (AE (Zs (Zo (AD rfl η Mk) (Zo (AA rfl DZ η (B1.at.cell 0 η)) (Zr [(.slice I a.length J)] rfl η func69 (Dw C κ) ?_)))))
 rintro e w3 ⟨rfl, F3⟩
 refine ⟨_, rfl, ?_⟩
 have Q3 := F3.size
 replace o := Z0 o F3
 replace B1 := B1.evo0 F3
 refine Zn Am (Zs (Zo AU (Zn (BP rfl η η) (AH η (fun af => ?_) (fun af => ?_)))))
 exfalso; exact af (by rw [bf])
 refine AJ (AE (Zs (Zo (AD rfl η Mk) (Zo (AA rfl DZ η (B1.at.cell 0 η)) (Zo (AQ rfl η underlying33) (Zn DA (AH η (fun a_ => ?_) (fun a_ => ?_))))))))
 exfalso; omega
 refine AJ (AE (Zs (Zo (AD rfl η VM) (Zo (AA rfl BX η (B1.at.cell 1 η)) (Zr [S _] rfl η func71 (FN au.2 au.1) ?_)))))
 rintro e w6 ⟨br, np6, cpp6, rfl, F6⟩
 refine ⟨_, rfl, ?_⟩
 have Q6 := F6.size
 replace o := Z0 o F6
 replace B1 := B1.evo0 F6
 refine Zo PW (Zo (AI (v := .slice _ _ _) rfl η η) (Zo (AI (v := .int _ _) rfl η η) (Zo (AI (v := .int _ _) rfl η η) (Zo Ew (Zo Am (Zn Am (Zs (Zo AU (Zn (BP rfl η η) ?_)))))))))
 refine AH η (fun ag => ?_) (fun ag => ?_)
 exfalso; exact ag rfl
 refine AJ (AE (Zs (Zo (AD rfl η UO) (Zo (AA rfl BX η (B1.at.cell 2 η)) (Zr [S _] rfl η func71 (FN ao.2 ao.1) ?_)))))
 rintro e w8 ⟨bs, np8, cpp8, rfl, F8⟩
 refine ⟨_, rfl, ?_⟩
 have Q8 := F8.size
 replace o := Z0 o F8
 replace B1 := B1.evo0 F8
 refine Zo PW (Zo (AI (v := .slice _ _ _) rfl η η) (Zo (AI (v := .int _ _) rfl η η) (Zo (AI (v := .int _ _) rfl η η) (Zo Ew (Zo Am (Zn Am (Zs (Zo AU (Zn (BP rfl η η) ?_)))))))))
 refine AH η (fun al => ?_) (fun al => ?_)
 exfalso; exact al rfl
 refine AJ (AE (Zs (Zo (AD rfl η Qw) (Zo (AA rfl Ae η (B1.at.cell 3 η)) (Zo Dn (Zo Cb ?_))))))
 refine Aj rfl BQ rfl (fun j => AD rfl η Qw) ?_
 refine Aj rfl BQ rfl (fun j => AA rfl Ae (Ar j) (B1.at.cell 3 η)) ?_
 refine Aj rfl BQ rfl (fun j => C6 rfl (Ar j) η) ?_
 refine Zo FW (Zo Cb ?_)
 refine Aj rfl BQ rfl (fun j => AD rfl η Ix) ?_
 refine Aj rfl BQ rfl (fun j => AA rfl Ae (Ar j) (B1.at.cell 4 η)) ?_
 refine Aj rfl BQ rfl (fun j => Dc rfl (Ar j) η) ?_
 refine Zo FW (Zo Cb ?_)
 refine Aj rfl BQ rfl (fun j => AD rfl η Ix) ?_
 refine Aj rfl BQ rfl (fun j => AA rfl Ae (Ar j) (B1.at.cell 4 η)) ?_
 refine Aj rfl BQ rfl (fun j => C6 rfl (Ar j) η) ?_
 refine Zo FW (Zo Cb ?_)
 refine Aj rfl BQ rfl (fun j => AD rfl η MT) ?_
 refine Aj rfl BQ rfl (fun j => AA rfl Ae (Ar j) (B1.at.cell 5 η)) ?_
 refine Aj rfl BQ rfl (fun j => Dc rfl (Ar j) η) ?_
 refine Zo FW (Zo Cb ?_)
 refine Aj rfl BQ rfl (fun j => AD rfl η MT) ?_
 refine Aj rfl BQ rfl (fun j => AA rfl Ae (Ar j) (B1.at.cell 5 η)) ?_
 refine Aj rfl BQ rfl (fun j => C6 rfl (Ar j) η) ?_
 refine Zn FW (AH η (fun U => ?_) (fun U => ?_))
 exfalso; omega
 refine AJ (Zs (Zn Am (AM C3 ?_)))
 exact ⟨rfl, o⟩
theorem Lh {n : Int} {j : World}  :
    Calls Tryz.prog 98 #[.int .i64 n] j fun e w' => e = .returned (.bool (decide (¬ n = n))) ∧ j = w' := by
 refine AG (n := 6) func98 rfl ntmps98 rfl ?_
 have o : Evo j j [] := Evo.refl _ _
 refine Zs (Zn BV (Zs (Zo AU (Zo AU (Zo (BP rfl η η) (Zn BV (AM G7 ?_)))))))
 exact ⟨rfl, rfl⟩
theorem GR {n : Int} {j : World}  :
    Calls Tryz.prog 104 #[.int .i64 n] j fun e w' => e = .returned (.bool (decide (¬ n = n))) ∧ j = w' := by
 refine AG (n := 6) func104 rfl ntmps104 rfl ?_
 have o : Evo j j [] := Evo.refl _ _
 refine Zs (Zn BV (Zs (Zo AU (Zo AU (Zo (BP rfl η η) (Zn BV (AM G7 ?_)))))))
 exact ⟨rfl, rfl⟩
theorem QY {m n : Int} {o : World}  :
    Calls Tryz.prog 97 #[.int .i64 m, .int .i64 n] o fun e w' => ∃ x : Bool, e = .returned (.bool x) ∧ Evo o w' [] := by
 refine AG (n := 17) func97 rfl ntmps97 rfl ?_
 have C : Evo o o [] := Evo.refl _ _
 refine Zs (Zn BV (Zs (Zo AU (Zr [.int _ _] rfl η func104 GR ?_))))
 rintro e J ⟨rfl, rfl⟩
 refine ⟨_, rfl, ?_⟩
 refine Zo Cb ?_
 refine Aj rfl BW rfl (fun j => AU) ?_
 refine Dg rfl BW rfl (fun j => BN rfl (BU (v := .int _ _) (Ar j) (rfl)) func104 rfl ζ) (fun j => (GR ).mono (fun e w' h => ⟨h.1, by rw [← h.2]; exact Evo.refl _ _⟩)) (fun R F3 => ?_)
 have I := F3.size
 replace C := Z0 C F3
 refine Aj rfl BW rfl (fun j => Cd rfl (Ar j)) ?_
 refine Zo Ht (Zo Cb ?_)
 refine Aj rfl BQ rfl (fun j => AU) ?_
 refine Aj rfl BQ rfl (fun j => AU) ?_
 refine Aj rfl BQ rfl (fun j => Dc rfl (Ar j) (Ar j)) ?_
 refine Zo FW (Zn BV (AM G7 ?_))
 exact ⟨_, rfl, C⟩
set_option maxHeartbeats 1000000 in
theorem V6 {ao : Option Addr} {b off cap : Nat} {l : List Int} {t : Int} {R : World} (J : RowE R ao b off cap l) :
    Calls Tryz.prog 38 #[.slice ao l.length cap, .int .i64 t] R fun e w' => ∃ (i : Nat) (x : Bool), e = .returned (.tuple #[.int .i64 (i : Nat), .bool x]) ∧ (x = true → t ∈ l) ∧ Evo R w' [] := by
 refine AG (n := 54) func38 rfl ntmps38 rfl ?_
 have I : Evo R R [] := Evo.refl _ _
 have al := A9 J
 have az := J.bd
 refine Zs (Zo Am (Zn BV (Zs (Zo Bi (Zo (AQ rfl η underlying22) (Zn Am (Zs (Zo AU (Zo Am ?_)))))))))
 refine Zn Am (AE (AK (Aq (α := Nat × Nat) [7, 8, 9, 13, 14, 15, 16, 17, 18, 19, 20, 21, 22, 23, 24, 25, 26, 27, 28, 29, 30] (fun C g w => g 7 = .int .i64 (C.1 : Nat) ∧ g 8 = .int .i64 (C.2 : Nat) ∧ (C.1 ≤ C.2 ∧ C.2 ≤ l.length) ∧ R.heap.size ≤ w.heap.size ∧ Evo R w []) (fun C => C.2 - C.1) (0, l.length) ?_ ?_)))
 refine ⟨σ, σ, ⟨Nat.zero_le _, Nat.le_refl _⟩, δ, I⟩
 rintro C g w2 ⟨a1, hj4, hij, hzl1, I⟩
 have au := I.size
 replace J := al _ I
 refine Zk 7 a1 (Zk 8 hj4 (AE (Zs (Zo AU (Zo AU (Zn Dn (AH η (fun aS => ?_) (fun aS => ?_))))))))
 refine AJ (AK (Zs (Zo AU (Zo AU (Zo Br (Zo (RU (a := (C.1 + C.2)) rfl underlying3 underlying193 η ω) (Zo (R2 (a := (C.1 + C.2)) (m := 1) rfl η η ω) (Zo (RW (a := ((C.1 + C.2) / 2 ^ 1)) rfl underlying193 underlying3 η ω) (Zn Am ?_)))))))))
 refine Zs (Zo Bi (Zo AU (Zo (Ab (((C.1 + C.2) / 2 ^ 1)) rfl underlying22 Bd η η rfl ω (J.addr (i := ((C.1 + C.2) / 2 ^ 1)) ω)) ?_)))
 have ag := fun (w' : World) (h : Evo R w' []) => (al w' h).atD (((C.1 + C.2) / 2 ^ 1)) ω
 refine Zo (AA rfl Ae η ((ag _ I).cell 0 η)) (Zo AU (Zr [.int _ _, .int _ _] rfl η func97 QY ?_))
 rintro e w7 ⟨bb, rfl, F7⟩
 refine ⟨_, rfl, ?_⟩
 have Q7 := F7.size
 replace I := Z0 I F7
 refine Ag (JB η (fun aT => ?_) (fun aT => ?_))
 obtain ⟨U, j⟩ : ∃ U : Nat × Nat, U = (((C.1 + C.2) / 2 ^ 1) + 1, C.2) := ⟨_, rfl⟩
 refine AB (Zo AU (Zo Br (Zn Am (AX (DN U ?_ ?_ ?_)))))
 rw [j]; dsimp only; omega
 refine ⟨(by first | (rw [j]; done) | (rw [j]; exact rfl) | (rw [j]; exact congrArg (Value.int _) (by dsimp only; omega))), (by first | (rw [j]; done) | (rw [j]; exact rfl) | (rw [j]; exact congrArg (Value.int _) (by dsimp only; omega))), (by rw [j]; dsimp only; omega), δ, I⟩
 exact ψ
 obtain ⟨U, j⟩ : ∃ U : Nat × Nat, U = (C.1, ((C.1 + C.2) / 2 ^ 1)) := ⟨_, rfl⟩
 refine AB (Zo AU (Zn Am (AX (DN U ?_ ?_ ?_))))
 rw [j]; dsimp only; omega
 refine ⟨(by first | (rw [j]; done) | (rw [j]; exact rfl) | (rw [j]; exact congrArg (Value.int _) (by dsimp only; omega))), (by first | (rw [j]; done) | (rw [j]; exact rfl) | (rw [j]; exact congrArg (Value.int _) (by dsimp only; omega))), (by rw [j]; dsimp only; omega), δ, I⟩
 exact ψ
 refine Ak rfl (Zs (Zo AU (Zo AU (Zo AU (Zo Dn (Zo Cb ?_))))))
 refine Aj rfl BW rfl (fun o => Bi) ?_
 refine Aj rfl BW rfl (fun o => AU) ?_
 refine Aj rfl BW rfl (fun o => Ab (C.1) rfl underlying22 Bd (Ar o) (Ar o) χ ω (J.addr (i := C.1) ω)) ?_
 refine Aj rfl BW rfl (fun o => AA rfl Ae (Ar o) ((J.atD (C.1) ω).cell 0 η)) ?_
 refine Aj rfl BW rfl (fun o => AU) ?_
 refine Aj rfl BW rfl (fun o => BK rfl (Ar o) (Ar o)) ?_
 refine Aj rfl BW rfl (fun o => AN (v := .bool _) rfl (Ar o)) ?_
 refine Aj rfl (DU η) rfl (fun o => Bi) ?_
 refine Aj rfl (DU η) rfl (fun o => AU) ?_
 refine Aj rfl (DU η) rfl (fun o => Ab (C.1) rfl underlying22 Bd (Ar o) (Ar o) χ ω (J.addr (i := C.1) ω)) ?_
 refine Aj rfl (DU η) rfl (fun o => AA rfl Ae (Ar o) ((J.atD (C.1) ω).cell 0 η)) ?_
 refine Dg rfl (DU η) rfl (fun o => BN rfl (BU (v := .int _ _) (Ar o) (rfl)) func98 rfl ζ) (fun o => (Lh ).mono (fun e w' h => ⟨h.1, by rw [← h.2]; exact Evo.refl _ _⟩)) (fun w9 F10 => ?_)
 have Q9 := F10.size
 replace I := Z0 I F10
 refine Aj rfl (DU η) rfl (fun o => AN (v := .bool _) rfl (Ar o)) ?_
 refine Aj rfl (GV η) rfl (fun o => AU) ?_
 refine Dg rfl (GV η) rfl (fun o => BN rfl (BU (v := .int _ _) (Ar o) (rfl)) func98 rfl ζ) (fun o => (Lh ).mono (fun e w' h => ⟨h.1, by rw [← h.2]; exact Evo.refl _ _⟩)) (fun bc F12 => ?_)
 have ba := F12.size
 replace I := Z0 I F12
 refine Aj rfl (DU η) rfl (fun o => Cu rfl (Ar o) (fun hq => OR η (fun h => h) (And.intro o hq)) rfl) ?_
 refine Aj rfl BW rfl (fun o => C4 rfl (Ar o) rfl (fun hq => OR η (fun h => h) (And.intro o hq))) ?_
 refine Zo Ht (Zo Am (Zn BV (AM (Fy (v := .int _ _) (u := .bool _) rfl η η) ?_)))
 exact ⟨_, _, rfl, fun h => by obtain ⟨h1, h2⟩ := of_decide_eq_true h; rcases h2 with h2 | h2; (rw [← h2]; exact EM (show C.1 < l.length by omega)); exact absurd rfl h2.1, I⟩
end Go.Proofs.YtbgmlpbgofcfjaaGreatDoor
namespace Go.Vc
open Go Go.RowKit Go.IntWalk
section
variable {P : Program} {f : Fr} {w : World} {o : Oper}
theorem Wq {op : BinOp} {t : TypeId} {x y : Operand} {a b : Option Addr} : (eqGuard op t x y (.pointer a) (.pointer b)).run P w = .ok () w := by cases op <;> simp [eqGuard]
theorem Sa {op : BinOp} {t t2 : TypeId} {x y : Operand} {a b : Option Addr} {v : Value} (j : o.op = .binOp op t x y t2) (C : opv f x = .pointer a) (I : opv f y = .pointer b) (h : (binOp op t (.pointer a) (.pointer b)).run P w = .ok v w) : (execOp (opv f) o).run P w = .ok (.value v) w := by
  unfold execOp; rw [j]; simp only []; rw [C, I]; simp [Wq, h]
theorem P0 {j I : TypeId} (a : Addr) (C : P.underlying j = some (.pointer I)) : (binOp .eql j (.pointer (some a)) (.pointer none)).run P w = .ok (.bool false) w := by
  have h : ∀ d : Nat, (Op.equalIn (d + 1) j (.pointer (some a)) (.pointer none)).run P w = .ok false w := fun d => by
    simp [Op.equalIn, run_underlying C]
  simp only [binOp]
  simp [Op.equal, Op.maxDepth, h 9999]
theorem TD {src dst : TypeId} {x : Operand} {a v : Value} (j : o.op = .convert src dst x) (C : opv f x = a) (h : (convert src dst a).run P w = .ok v w) : (execOp (opv f) o).run P w = .ok (.value v) w := by
  unfold execOp; rw [j]; simp only []; rw [C]; simp [h]
theorem G3 {b : Nat} {T : TypeId} {cs : List Value} (h : Blk w b T cs) : w.shape? b = some (T, cs.length) := by unfold Blk at h; simp [World.shape?, h]
end
section
variable {P : Program} {B : Exit → Act → World → Prop} {n : Nat} {k : List Kont} {f : Fr} {w : World} {ops : Array Oper} {rest : List Oper}
theorem Tn {w : World} {g n : Nat} : Evo w (w.freeze ⟨g, 0, none⟩ n) [g] := by
  unfold World.freeze
  split
  · exact Evo.refl _ _
  · exact ⟨rfl, rfl, rfl, by simp, fun k hk j => by
      simp only [Array.getElem?_modify]
      rw [if_neg (fun e => j (by simp [e]))]⟩
section
variable {o : Oper}
theorem Wl {ts : Array TypeId} {x : Operand} {a : Addr} {n c : Nat} (C : o.op = .call ⟨.builtin .unsafeSliceData, #[x], ts⟩) (I : opv f x = .slice (some a) n c) (j : c ≠ 0) : (execOp (opv f) o).run P w = .ok (.value (.pointer (some a))) w :=
  CA (s := Builtin.unsafeSliceData_ ts o.type #[.slice (some a) n c]) C (by simp [I]) (fun cs => rfl) (Lib.run_unsafeSliceData_row w ts _ a n c j)
theorem Ya {I it e : TypeId} {x y : Operand} {g cells : Nat} {l : Ac} (ho : o.op = .call ⟨.builtin .unsafeString, #[x, y], #[I, it]⟩) (hx : opv f x = .pointer (some ⟨g, 0, none⟩)) (hy : opv f y = .int .i64 ((l.length : Nat) : Int)) (hp : P.underlying I = some (.pointer e)) (hc : P.cellsOf e = 1) (R : w.shape? g = some (e, cells)) (U : l ≠ []) (hn : l.length ≤ cells) (J : l.length ≤ 9223372036854775807)
    (C : ∀ j x, l[j]? = some x → w.cell? ⟨g, j, none⟩ = some (.int .u8 x.toNat)) : (execOp (opv f) o).run P w = .ok (.value (S l)) (w.freeze ⟨g, 0, none⟩ l.length) :=
  CA (s := Builtin.unsafeString_ #[I, it] o.type #[.pointer (some ⟨g, 0, none⟩), .int .i64 ((l.length : Nat) : Int)]) ho (by simp [hx, hy]) (fun cs => rfl) (Lib.run_unsafeString_row w I it _ e hp hc g cells R l U hn J (fun j x hj => by rw [add_lit, Nat.zero_add]; exact C j x hj))
end
end
def Ps (w : World) (base b TB E8 : Nat) (p : Value) (s : Ac) : Prop := base ≤ b ∧ ∃ v, Blk w b TB [p, v] ∧ w.ownsRow base E8 1 v s.length (Lib.byteCells s) ∧ (s = [] → v = .slice none 0 0)
def Bld (w : World) (base b TB E8 : Nat) (s : Ac) : Prop := Ps w base b TB E8 (.pointer none) s ∨ Ps w base b TB E8 (.pointer (some ⟨b, 0, none⟩)) s
theorem R0 {w w' : World} {base E : Nat} {v : Value} {s : Ac} {X : List Nat} (h : w.ownsRow base E 1 v s.length (Lib.byteCells s)) (he : Evo w w' X) (j : ∀ g, v.ownBlock = some g → g ∉ X) : w'.ownsRow base E 1 v s.length (Lib.byteCells s) := by
  refine ⟨h.1, ?_⟩
  rcases h.2 with hv | ⟨g, cap, cur, hv, hb, hg, r⟩
  · exact .inl hv
  · exact .inr ⟨g, cap, cur, hv, hb, (he.same g (h.lt g (by rw [hv]; rfl)).2 (j g (by rw [hv]; rfl))).trans hg, r⟩
theorem bp {w : World} {base E b T : Nat} {v : Value} {s : Ac} {cs : List Value} (h : w.ownsRow base E 1 v s.length (Lib.byteCells s)) (C : Blk w b T cs) (j : T ≠ E) : v.ownBlock ≠ some b := Lib.ownBlock_ne h C j
theorem Bld.evo0 {w w' : World} {base b C j : Nat} {s : Ac} (h : Bld w base b C j s) (he : Evo w w' []) : Bld w' base b C j s := by
  have k : ∀ p, Ps w base b C j p s → Ps w' base b C j p s := fun p ⟨h1, v, I, J, R⟩ => ⟨h1, v, I.evo0 he, R0 J he (by simp), R⟩
  exact h.imp (k _) (k _)
theorem Bld.lt {w : World} {base b I C : Nat} {s : Ac} (h : Bld w base b I C s) : base ≤ b ∧ b < w.heap.size := by
  rcases h with ⟨h1, v, j, _⟩ | ⟨h1, v, j, _⟩ <;> exact ⟨h1, j.lt⟩
theorem Bld.evo {w w' : World} {base b C j g T : Nat} {s : Ac} {cs : List Value} (h : Bld w base b C j s) (he : Evo w w' [g]) (hg : Blk w g T cs) (U : T ≠ j) (hb : b ≠ g) : Bld w' base b C j s := by
  have k : ∀ p, Ps w base b C j p s → Ps w' base b C j p s := fun p ⟨h1, v, J, I, R⟩ => ⟨h1, v, J.evo he (by simpa using hb), R0 I he (fun x hx hm => by
    have e : x = g := by simpa using hm
    subst e
    exact bp I hg U hx), R⟩
  exact h.imp (k _) (k _)
theorem XK {w : World} {g E : Nat} {cs : List Value} (h : Blk w g E cs) {j : Nat} {x : Value} (C : cs[j]? = some x) : w.cell? ⟨g, j, none⟩ = some x := by have := h.at j x C; rwa [Nat.zero_add] at this
theorem Ir {P : Program} (w : World) (dT sT ty elem : TypeId) (g o C J : Nat) (a : Addr) (I af m n : Nat) (cur : List Value) (t : TypeId) (cs : List Value)
    (hu : P.underlying dT = some (.slice elem)) (hs : (P.info? elem).map (·.size) = some m)
    (hg : Blk w g t cur) (hn : Nat.min I C = n) (hl : cs.length = n * m)
    (U : ∀ j v, cs[j]? = some v → w.cell? (a.add j) = some v) (R : o + cs.length ≤ cur.length) (h1 : ∀ v ∈ cs, v.oneCell' = true) :
    (Builtin.copy_ #[dT, sT] ty #[.slice (some ⟨g, o, none⟩) C J, .slice (some a) I af]).run P w =
      .ok (goInt n) (w.setRow g (cur.take o ++ cs ++ cur.drop (o + cs.length)).toArray) := by
  have ag := run_loadCells_list (P := P) w a cs U
  have al := run_storeCells_at P g o t cs 0 cur.toArray w hg (by simpa using R) h1
  cases hq : P.info? elem with
  | none => simp [hq] at hs
  | some i =>
    have hi : i.size = m := by simpa [hq] using hs
    simp [Builtin.copy_, run_underlying hu, Builtin.lenOf, Builtin.firstCells, sizeOf, typeInfo, hq, hi, hn, ← hl, ag, al]
theorem YZ {α : Type} [Enc α] {w : World} {base : Nat} {E : TypeId} {v : Value} {l : List α} (h : OwnE w base E v l) : (v = .slice none 0 0 ∧ l = []) ∨ ∃ g cap R, v = .slice (some ⟨g, 0, none⟩) l.length cap ∧ base ≤ g ∧
    Blk w g E ((l.map Enc.enc).flatten ++ R) ∧ (l.map Enc.enc).flatten.length = l.length * Enc.n α ∧ R.length = (cap - l.length) * Enc.n α ∧ l.length ≤ cap ∧ cap ≤ maxLen := by
  rcases h.row.2 with ⟨h1, h2⟩ | ⟨g, cap, cur, rfl, h2, h3, h4, h5, h6, h7⟩
  · exact .inl ⟨h1, List.eq_nil_of_length_eq_zero (by simpa using h2)⟩
  · rw [List.length_map] at h4 h7
    have C : (l.map Enc.enc).flatten.length = l.length * Enc.n α := by have := Bm (l.map Enc.enc) (Enc.n α) (fun cs j => by obtain ⟨y, _, rfl⟩ := List.mem_map.1 j; exact Enc.len y); rwa [List.length_map] at this
    refine .inr ⟨g, cap, cur.toList.drop (l.length * Enc.n α), by simp, h2, ?_, C, ?_, h4, h5⟩
    · unfold Blk; rw [h3, ← h7, List.take_append_drop]
    · rw [List.length_drop, Array.length_toList, h6, Nat.sub_mul]
theorem PN {α : Type} [Enc α] {w : World} {base g cap : Nat} {E : TypeId} {l : List α} {R : List Value} (U : base ≤ g) (I : Blk w g E ((l.map Enc.enc).flatten ++ R)) (J : R.length = (cap - l.length) * Enc.n α) (hl : l.length ≤ cap) (hc : cap ≤ maxLen) (hd : l.length ≤ 140737488355328) : OwnE w base E (.slice (some ⟨g, 0, none⟩) l.length cap) l := by
  have C : (l.map Enc.enc).flatten.length = l.length * Enc.n α := by have := Bm (l.map Enc.enc) (Enc.n α) (fun cs j => by obtain ⟨y, _, rfl⟩ := List.mem_map.1 j; exact Enc.len y); rwa [List.length_map] at this
  refine ⟨⟨by rw [List.length_map]; exact C, .inr ⟨g, cap, _, by simp, U, I, by rw [List.length_map]; exact hl, hc, ?_, ?_⟩⟩, fun cs j => by obtain ⟨y, _, rfl⟩ := List.mem_map.1 j; exact Enc.len y, by rw [List.length_map]; exact hd⟩
  · simp only [List.size_toArray, List.length_append, C, J, ← Nat.add_mul]
    congr 1; omega
  · rw [List.length_map]
    show ((l.map Enc.enc).flatten ++ R).take _ = _
    rw [← C]; exact List.take_left
theorem ZB {α : Type} [Enc α] (l : List α) (i : Nat) : ((l.take i).map (Enc.enc (α := α))).flatten = ((l.map Enc.enc).flatten).take (i * Enc.n α) := by
  induction l generalizing i with
  | nil => simp
  | cons x l ih =>
    cases i with
    | zero => simp
    | succ i =>
      rw [List.take_succ_cons, List.map_cons, List.flatten_cons, ih, List.map_cons, List.flatten_cons, List.take_append, Enc.len x, Nat.add_mul, Nat.one_mul, Nat.add_sub_cancel]
      congr 1
      rw [List.take_of_length_le (by rw [Enc.len x]; omega)]
theorem Za {α : Type} [Enc α] (l : List α) (i : Nat) : ((l.drop i).map (Enc.enc (α := α))).flatten = ((l.map Enc.enc).flatten).drop (i * Enc.n α) := by
  induction l generalizing i with
  | nil => simp
  | cons x l ih =>
    cases i with
    | zero => simp
    | succ i =>
      rw [List.drop_succ_cons, ih, List.map_cons, List.flatten_cons, List.drop_append, Enc.len x, Nat.add_mul, Nat.one_mul, Nat.add_sub_cancel]
      have e : (Enc.enc x).drop (i * Enc.n α + Enc.n α) = [] := List.drop_eq_nil_of_le (by rw [Enc.len x]; omega)
      rw [e, List.nil_append]
theorem Uj {α : Type} [Enc α] (l : List α) : ∀ v ∈ (l.map (Enc.enc (α := α))).flatten, v.oneCell' = true := fun v C => by
  obtain ⟨cs, j, C⟩ := List.mem_flatten.1 C
  obtain ⟨y, _, rfl⟩ := List.mem_map.1 j
  exact List.all_eq_true.1 (Enc.one y) v C
end Go.Vc
namespace Go.Proofs.YtbgmlpbgofcfjaaGreatDoor
open Go Go.RowKit Go.Vc Go.Proofs.Tryz
theorem Na {L R : List Value} {i : Nat} {X : Value} (h : L[i]? = some X) : (L ++ R)[i]? = some X := by
  rw [List.getElem?_append_left (List.getElem?_eq_some_iff.1 h).1]; exact h
theorem Uz {w : World} {b T : Nat} {cs : List Value} (h : Blk w b T cs) : b < w.heap.size := by
  unfold Blk at h; exact (Array.getElem?_eq_some_iff.1 h).1
theorem WV {A Z1 j X : List Value} {p : Nat} (J : A.length = p) (R : X.length = 11) (h1 : 11 ≤ Z1.length) : (A ++ Z1 ++ j).take p ++ X ++ (A ++ Z1 ++ j).drop (p + X.length) = A ++ X ++ (Z1.drop 11 ++ j) := by
  have C : (A ++ Z1 ++ j).take p = A := by rw [List.append_assoc]; exact List.take_left' J
  have I : (A ++ Z1 ++ j).drop (p + X.length) = Z1.drop 11 ++ j := by
    rw [List.append_assoc, List.drop_append, List.drop_eq_nil_of_le ω, List.nil_append, show p + X.length - A.length = 11 by omega, List.drop_append, show 11 - Z1.length = 0 by omega, List.drop_zero]
  rw [C, I]
theorem Wp {A X B Y Z : List Value} {p : Nat} (I : (A ++ X).length = p) (J : Y.length = B.length) : (A ++ X ++ (Y ++ Z)).take p ++ B ++ (A ++ X ++ (Y ++ Z)).drop (p + B.length) = A ++ X ++ B ++ Z := by
  have j : (A ++ X ++ (Y ++ Z)).take p = A ++ X := List.take_left' I
  have C : (A ++ X ++ (Y ++ Z)).drop (p + B.length) = Z := by
    rw [← List.append_assoc]; exact List.drop_left' (by rw [List.length_append]; omega)
  rw [j, C]
theorem bW : Tryz.prog.underlying 74 = some (.slice 87) := ζ
theorem fb (w : World) : (Go.sizeOf 87).run Tryz.prog w = .ok 11 w := ζ
theorem Wm {g I : Nat} {C X : List Value} {w : World} (J : I ≠ g) (hB : Blk w g 87 C) (hC : C.length ≠ 0) (j : Blk w I 87 X) (o la R lb U : Nat) :
    (callFunc 79 #[.slice (some ⟨I, 0, none⟩) la R, .slice (some ⟨g, o, none⟩) lb U]).run Tryz.prog w = .ok (.value (.bool false)) w := by
  rw [run_callFunc_extern func79 ζ ζ ζ (e := Extern.SlicesOverlaps.overlaps #[74, 74] #[4]) ζ,
    Lib.run_overlaps_apart w 74 4 87 bW 11 fb ⟨I, 0, none⟩ ⟨g, o, none⟩ la R lb U J 87 87 X.length C.length (G3 j) (G3 hB) hC (by unfold Blk at j; simp [World.frozen?, j]) (by unfold Blk at j; simp [World.frozen?, j])]
  rfl
theorem Py : Tryz.prog.follows .mixedOrders = true := ζ
set_option maxHeartbeats 4000000 in
set_option maxRecDepth 100000 in
theorem bE (g n c i vb : Nat) (C R X : List Value) (w : World) (hi : i < n) (br : n + 1 ≤ c) (bF : c ≤ 9223372036854775807) (bd : vb ≠ g)
    (hB : Blk w g 87 (C ++ R)) (hC : C.length = n * 11) (hR : 11 ≤ R.length) (hV : Blk w vb 87 X) (hX : X.length = 11) (bl : ∀ v ∈ C, v.oneCell' = true) (bm : ∀ v ∈ X, v.oneCell' = true) :
    Calls Tryz.prog 29 #[.slice (some ⟨g, 0, none⟩) n c, .int .i64 i, .slice (some ⟨vb, 0, none⟩) 1 1] w fun e w' =>
      e = .returned (.slice (some ⟨g, 0, none⟩) (n + 1) c) ∧ Evo w w' [g] ∧ Blk w' g 87 (C.take (i * 11) ++ X ++ C.drop (i * 11) ++ R.drop 11) := by
  have b9 : ¬ ((i : Int) = (n : Int)) := by omega
  have bc : (Tryz.prog.info? 87).map (·.size) = some 11 := ζ
  have bq : ∀ lb cb, (callFunc 79 #[.slice (some ⟨vb, 0, none⟩) 1 1, .slice (some ⟨g, (i + 1) * 11, none⟩) lb cb]).run Tryz.prog w = .ok (.value (.bool false)) w := fun lb cb => Wm bd hB (by rw [List.length_append]; omega) hV _ _ _ _ _
  have au : (C.drop (i * 11)).length = (n - i) * 11 := by rw [List.length_drop, hC]; omega
  have b7 : IntKind.i64.wrap ((i : Int) + 1) = (i : Int) + 1 := by rw [IntKind.wrap_i64]; omega
  have b8 : IntKind.i64.wrap ((n : Int) + 1) = (n : Int) + 1 := by rw [IntKind.wrap_i64]; omega
  have bY : (0 : Int) ≤ (i : Int) + 1 := by omega
  have bB : (0 : Int) ≤ (n : Int) + 1 := by omega
  have b4 : i ≤ n := by omega
  have b5 : ((i : Int) + 1).toNat = i + 1 := by omega
  have bL : ((n : Int) + 1).toNat = n + 1 := by omega
  have b0 : ¬ (c = i + 1) := by omega
  have b1 : (i : Int) ≤ (n : Int) + 1 := by omega
  have b2 : ¬ (c = i) := by omega
  have b3 : ¬ (c < n + 1) := by omega
  have al : Blk w.drew g 87 (C ++ R) := hB
  have I : ∀ ty dc sc, (Builtin.copy_ #[74, 74] ty #[.slice (some ⟨g, (i + 1) * 11, none⟩) (n - i) dc, .slice (some ⟨g, i * 11, none⟩) (n + 1 - i) sc]).run Tryz.prog w.drew = .ok (goInt (n - i : Nat)) (w.drew.setRow g ((C ++ R).take ((i + 1) * 11) ++ C.drop (i * 11) ++ (C ++ R).drop ((i + 1) * 11 + (C.drop (i * 11)).length)).toArray) := fun ty dc sc =>
    Ir w.drew _ _ ty 87 g ((i + 1) * 11) (n - i) dc ⟨g, i * 11, none⟩ (n + 1 - i) sc 11 (n - i) (C ++ R) 87 (C.drop (i * 11)) bW bc al (by simp only [Nat.min_def]; split <;> omega) au
      (fun j v hj => by
        rw [Addr.add_lit]
        have := al.at.cell (i * 11 + j) (Na (R := R) (by rwa [List.getElem?_drop] at hj))
        rwa [Nat.zero_add] at this)
      (by rw [au, List.length_append]; omega) (fun v hv => bl v (List.mem_of_mem_drop hv))
  obtain ⟨D, hD⟩ : ∃ D, D = (C ++ R).take ((i + 1) * 11) ++ C.drop (i * 11) ++ (C ++ R).drop ((i + 1) * 11 + (C.drop (i * 11)).length) := ⟨_, rfl⟩
  rw [← hD] at I
  obtain ⟨W1, J⟩ : ∃ W1, W1 = w.drew.setRow g D.toArray := ⟨_, rfl⟩
  rw [← J] at I
  have ao : Blk W1 g 87 D := by rw [J]; exact setRow_heap _ g _ _ _ _ al
  have az : Evo w W1 [g] := by rw [J]; exact (Evo.drew w [g]).trans (Evo.setRow w.drew g _) (by simp)
  have a_ : Blk W1 vb 87 X := hV.evo az (by simpa using bd)
  have a1 : D.length = (C ++ R).length := by rw [hD]; simp only [List.length_append, List.length_take, List.length_drop, hC]; omega
  have U : ∀ ty dc, (Builtin.copy_ #[74, 74] ty #[.slice (some ⟨g, i * 11, none⟩) (n + 1 - i) dc, .slice (some ⟨vb, 0, none⟩) 1 1]).run Tryz.prog W1 = .ok (goInt (1 : Nat)) (W1.setRow g (D.take (i * 11) ++ X ++ D.drop (i * 11 + X.length)).toArray) := fun ty dc =>
    Ir W1 _ _ ty 87 g (i * 11) (n + 1 - i) dc ⟨vb, 0, none⟩ 1 1 11 1 D 87 X bW bc ao (by simp only [Nat.min_def]; split <;> omega) ω
      (fun j v hj => by
        rw [Addr.add_lit]
        have := a_.at.cell j hj
        exact this)
      (by rw [a1, List.length_append]; omega) bm
  have af : D.take (i * 11) ++ X ++ D.drop (i * 11 + X.length) = C.take (i * 11) ++ X ++ C.drop (i * 11) ++ R.drop 11 := by
    have e1 : (C ++ R).take ((i + 1) * 11) = C.take (i * 11) ++ (C.drop (i * 11)).take 11 := by
      rw [List.take_append_of_le_length ω, show (i + 1) * 11 = i * 11 + 11 by omega, List.take_add]
    have l1 : (C.take (i * 11)).length = i * 11 := by rw [List.length_take]; omega
    have l2 : ((C.drop (i * 11)).take 11).length = 11 := by rw [List.length_take]; omega
    have e2 : (C ++ R).drop ((i + 1) * 11 + (C.drop (i * 11)).length) = R.drop 11 := by
      rw [List.drop_append, au, hC, List.drop_eq_nil_of_le ω, List.nil_append]; congr 1; omega
    rw [hD, e1, e2]
    rw [show C.take (i * 11) ++ (C.drop (i * 11)).take 11 ++ C.drop (i * 11) ++ R.drop 11 = C.take (i * 11) ++ ((C.drop (i * 11)).take 11 ++ (C.drop (i * 11) ++ R.drop 11)) by simp]
    rw [List.take_left' l1]
    rw [← List.append_assoc (C.take (i * 11)), List.drop_left' (by rw [List.length_append, l1, l2, hX])]
    simp
  have bb : Evo w (W1.setRow g (D.take (i * 11) ++ X ++ D.drop (i * 11 + X.length)).toArray) [g] := az.trans (Evo.setRow W1 g _) (by simp)
  have aT : Blk (W1.setRow g (D.take (i * 11) ++ X ++ D.drop (i * 11 + X.length)).toArray) g 87 (C.take (i * 11) ++ X ++ C.drop (i * 11) ++ R.drop 11) := by
    rw [← af]; exact setRow_heap _ g _ _ _ _ ao
  obtain ⟨W2, ba⟩ : ∃ W2, W2 = W1.setRow g (D.take (i * 11) ++ X ++ D.drop (i * 11 + X.length)).toArray := ⟨_, rfl⟩
  rw [← ba] at U bb aT
  clear ba af J hD ao a_ az a1
  have u4 := bW
  have mixed := Py
  have ca := fb
  go_enter func29, ntmps29
  go_wp2_with (simp only [bq])
  go_region_law_o (refine step_copy_runI rfl _ _ 74 74 rfl _ _ (by simp [Act.eval, Act.put]) (by simp [Act.eval, Act.put]) (I _ _ _) ?_)
  go_wp2_with (at_builtin; refine wpList_copy_runI _ rfl _ _ 74 74 rfl _ _ rfl rfl (U _ _) ?_)
  go_ret
  exact ⟨rfl, bb, aT⟩
def zero87 : Value := .agg #[.int .i64 0, .string ⟨#[]⟩, .slice none 0 0, .slice none 0 0, .string ⟨#[]⟩, .string ⟨#[]⟩, .string ⟨#[]⟩, .string ⟨#[]⟩, .int .i64 0, .int .i64 0, .slice none 0 0]
theorem gC : Cy Tryz.prog 87 = some (11, 176, some zero87) := ζ
theorem dh : zero87.cells.size = 11 := ζ
theorem u3 : Tryz.prog.underlying 3 = some (.int .i64) := ζ
set_option maxHeartbeats 4000000 in
set_option maxRecDepth 100000 in
theorem dP {base : Nat} {v : Value} {n vb : Nat} {C X : List Value} {w : World} (I : w.ownsRow base 87 11 v n C) (U : base ≤ w.heap.size) (hn : n ≤ 100000) (hV : Blk w vb 87 X) (hX : X.length = 11) (au : ∀ v ∈ X, v.oneCell' = true) :
    Calls Tryz.prog 29 #[v, .int .i64 n, .slice (some ⟨vb, 0, none⟩) 1 1] w fun e w' => ∃ R, e = .returned R ∧ w'.ownsRow base 87 11 R (n + 1) (C ++ X) ∧ Evo w w' v.ownBlock.toList ∧ (R.ownBlock = v.ownBlock ∨ R.ownBlock = some w.heap.size) := by
  obtain ⟨i0, Zp, aT, az, a1⟩ := GK gC
  obtain ⟨R, w', hr, ag, aS, _, J⟩ := run_append_own_at (P := Tryz.prog) (w := w) base 74 3 87 i0 zero87 11 176 bW Zp a1 aT az dh ω v n C I ⟨vb, 0, none⟩ 1 1 X ω (fun j u hj => by rw [Addr.add_lit]; exact hV.at.cell j hj) au (by unfold maxLen; omega) ω U
  have al : ∀ ty, (Builtin.append_ #[74, 74] ty #[v, .slice (some ⟨vb, 0, none⟩) 1 1]).run Tryz.prog w = .ok R w' := fun ty => hr
  have af := Evo.grown aS
  have mixed := Py
  have bd := fb
  have bc : ((n : Int) == (n : Int)) = true := by simp
  rcases I.2 with ⟨rfl, rfl⟩ | ⟨g, cap, cur, rfl, _, _, hnc, _, _, _⟩
  · clear I hr
    go_enter func29, ntmps29
    go_wp2_with (at_builtin; refine Lib.wpList_append_run _ rfl _ _ _ _ rfl _ _ rfl rfl _ _ (al _) ?_)
    all_goals (refine bodyPost_ret (results_tmp rfl _ _ _) rfl ⟨R, ?_, ag, af, J⟩; rfl)
  · have h0 : (0 : Int) ≤ n := by omega
    go_enter func29, ntmps29
    go_wp2_with (at_builtin; refine Lib.wpList_append_run _ rfl _ _ _ _ rfl _ _ rfl rfl _ _ (al _) ?_)
    all_goals (refine bodyPost_ret (results_tmp rfl _ _ _) rfl ⟨R, ?_, ag, af, J⟩; rfl)
set_option maxHeartbeats 4000000 in
set_option maxRecDepth 100000 in
theorem bJ (g n i vb : Nat) (C R X : List Value) (w : World) (hi : i < n) (hn : n ≤ 100000)
    (hB : Blk w g 87 (C ++ R)) (hC : C.length = n * 11) (hV : Blk w vb 87 X) (hX : X.length = 11) (bQ : ∀ v ∈ C, v.oneCell' = true) (bR : ∀ v ∈ X, v.oneCell' = true) :
    Calls Tryz.prog 29 #[.slice (some ⟨g, 0, none⟩) n n, .int .i64 i, .slice (some ⟨vb, 0, none⟩) 1 1] w fun e w' => ∃ G Z, e = .returned (.slice (some ⟨w.heap.size, 0, none⟩) (n + 1) G) ∧ Evo w w' [] ∧
      Blk w' w.heap.size 87 (C.take (i * 11) ++ X ++ C.drop (i * 11) ++ Z) ∧ Z.length = (G - (n + 1)) * 11 ∧ n + 1 ≤ G ∧ G ≤ maxLen := by
  obtain ⟨i0, Zp, b3, br, b5⟩ := GK gC
  have bz : (Tryz.prog.info? 87).map (·.size) = some 11 := ζ
  have bx : (n : Int) + 1 - (i : Int) = ((n + 1 - i : Nat) : Int) := by omega
  have bl : i + (n + 1 - i) = n + 1 := by omega
  have b1 : g < w.heap.size := Uz hB
  have hold : (Builtin.firstCells i0.size i (.slice (some ⟨g, 0, none⟩) i n)).run Tryz.prog w.drew = .ok (C.take (i * 11)).toArray w.drew := by
    rw [b3]
    exact run_firstCells_some w.drew 11 i ⟨g, 0, none⟩ i n (C.take (i * 11)) (by rw [List.length_take]; omega) (fun j v hj => by
      rw [Addr.add_lit, Nat.zero_add]
      rw [List.getElem?_take] at hj
      split at hj
      · have := hB.at.cell j (Na (R := R) hj)
        rwa [Nat.zero_add] at this
      · cases hj)
  have bt := grownCap_ge w (n + 1) n 87
  have bd : grownCap w (n + 1) n 87 ≤ maxLen := grownCap_le_maxLen w (n + 1) n 87 (by unfold maxLen; omega)
  have al : ∀ ty, (Builtin.append_ #[74, 3] ty #[.slice (some ⟨g, 0, none⟩) i n, .int .i64 ((n : Int) + 1 - (i : Int))]).run Tryz.prog w =
      .ok (.slice (some ⟨w.heap.size, 0, none⟩) (n + 1) (grownCap w (n + 1) n 87)) (w.drew.alloc (.cells ((C.take (i * 11)).toArray ++ Builtin.zeroCells zero87.cells (n + 1 - i) ++ Builtin.zeroCells zero87.cells (grownCap w (n + 1) n 87 - (n + 1))) 87)) := fun ty => by
    have h := Lib.run_append_grow_zeros (P := Tryz.prog) w 74 3 ty 87 i0 zero87 .i64 .i64 bW u3 Zp b5 (some ⟨g, 0, none⟩) i n (C.take (i * 11)) hold (n + 1 - i) ω ω ω ω (by rw [br]; omega) (by rw [br, bl]; exact growslice_fits ω ω)
    rw [bl] at h
    rw [bx]
    exact h
  obtain ⟨G, hG⟩ : ∃ G, G = grownCap w (n + 1) n 87 := ⟨_, rfl⟩
  rw [← hG] at al bt bd
  obtain ⟨Z1, bb⟩ : ∃ Z1 : List Value, Z1 = (Builtin.zeroCells zero87.cells (n + 1 - i)).toList := ⟨_, rfl⟩
  obtain ⟨Z2, bc⟩ : ∃ Z2 : List Value, Z2 = (Builtin.zeroCells zero87.cells (G - (n + 1))).toList := ⟨_, rfl⟩
  have l1 : Z1.length = (n + 1 - i) * 11 := by rw [bb, Array.length_toList, size_zeroCells, dh]
  have l2 : Z2.length = (G - (n + 1)) * 11 := by rw [bc, Array.length_toList, size_zeroCells, dh]
  obtain ⟨N, hN⟩ : ∃ N, N = w.heap.size := ⟨_, rfl⟩
  rw [← hN] at al b1 ⊢
  obtain ⟨W1, J⟩ : ∃ W1, W1 = w.drew.alloc (.cells ((C.take (i * 11)).toArray ++ Builtin.zeroCells zero87.cells (n + 1 - i) ++ Builtin.zeroCells zero87.cells (G - (n + 1))) 87) := ⟨_, rfl⟩
  rw [← J] at al
  have a1 : Blk W1 N 87 (C.take (i * 11) ++ Z1 ++ Z2) := by
    have := heap_alloc_new w.drew (.cells ((C.take (i * 11)).toArray ++ Builtin.zeroCells zero87.cells (n + 1 - i) ++ Builtin.zeroCells zero87.cells (G - (n + 1))) 87)
    unfold Blk
    rw [J, hN, bb, bc]
    rw [show (C.take (i * 11) ++ (Builtin.zeroCells zero87.cells (n + 1 - i)).toList ++ (Builtin.zeroCells zero87.cells (G - (n + 1))).toList).toArray = (C.take (i * 11)).toArray ++ Builtin.zeroCells zero87.cells (n + 1 - i) ++ Builtin.zeroCells zero87.cells (G - (n + 1)) by apply Array.ext'; simp]
    exact this
  have ag : Evo w W1 [] := by rw [J]; exact (Evo.drew w []).trans (Evo.alloc w.drew _ []) (by simp)
  have bq : Blk W1 vb 87 X := hV.evo0 ag
  have b0 : Blk W1 g 87 (C ++ R) := hB.evo0 ag
  have c9 : vb < N := by rw [hN]; exact Uz hV
  have lC : (C.take (i * 11)).length = i * 11 := by rw [List.length_take]; omega
  have lD : (C.drop (i * 11)).length = (n - i) * 11 := by rw [List.length_drop, hC]; omega
  obtain ⟨D, hD⟩ : ∃ D, D = (C.take (i * 11) ++ Z1 ++ Z2).take (i * 11) ++ X ++ (C.take (i * 11) ++ Z1 ++ Z2).drop (i * 11 + X.length) := ⟨_, rfl⟩
  have au : ∀ ty dc, (Builtin.copy_ #[74, 74] ty #[.slice (some ⟨N, i * 11, none⟩) (n + 1 - i) dc, .slice (some ⟨vb, 0, none⟩) 1 1]).run Tryz.prog W1 = .ok (goInt (1 : Nat)) (W1.setRow N D.toArray) := fun ty dc => by
    rw [hD]
    exact Ir W1 _ _ ty 87 N (i * 11) (n + 1 - i) dc ⟨vb, 0, none⟩ 1 1 11 1 _ 87 X bW bz a1 (by simp only [Nat.min_def]; split <;> omega) ω
      (fun j v hj => by rw [Addr.add_lit]; exact bq.at.cell j hj) (by simp only [List.length_append, lC, l1]; omega) bR
  obtain ⟨W2, U⟩ : ∃ W2, W2 = W1.setRow N D.toArray := ⟨_, rfl⟩
  rw [← U] at au
  have bn : Blk W2 N 87 D := by rw [U]; exact setRow_heap _ N _ _ _ _ a1
  have cv : w.heap.size ≤ N := by omega
  have bf : Evo w W2 [] := by rw [U]; exact ag.trans (Evo.setRow W1 N _) (fun x hx b2 => by simp at hx; omega)
  have bs : Blk W2.drew g 87 (C ++ R) := hB.evo0 (bf.trans (Evo.drew W2 []) (by simp))
  have I : Blk W2.drew N 87 D := bn
  have ba : D = C.take (i * 11) ++ X ++ (Z1.drop 11 ++ Z2) := by
    rw [hD]; exact WV lC hX ω
  obtain ⟨D3, a_⟩ : ∃ D3, D3 = D.take ((i + 1) * 11) ++ C.drop (i * 11) ++ D.drop ((i + 1) * 11 + (C.drop (i * 11)).length) := ⟨_, rfl⟩
  have az : ∀ ty dc sc, (Builtin.copy_ #[74, 74] ty #[.slice (some ⟨N, (i + 1) * 11, none⟩) (n - i) dc, .slice (some ⟨g, i * 11, none⟩) (n - i) sc]).run Tryz.prog W2.drew = .ok (goInt (n - i : Nat)) (W2.drew.setRow N D3.toArray) := fun ty dc sc => by
    rw [a_]
    exact Ir W2.drew _ _ ty 87 N ((i + 1) * 11) (n - i) dc ⟨g, i * 11, none⟩ (n - i) sc 11 (n - i) D 87 (C.drop (i * 11)) bW bz I (Nat.min_self _) lD
      (fun j v hj => by
        rw [Addr.add_lit]
        have := bs.at.cell (i * 11 + j) (Na (R := R) (by rwa [List.getElem?_drop] at hj))
        rwa [Nat.zero_add] at this)
      (by rw [lD, ba]; simp only [List.length_append, List.length_drop, lC, l1, hX]; omega) (fun v hv => bQ v (List.mem_of_mem_drop hv))
  obtain ⟨W3, af⟩ : ∃ W3, W3 = W2.drew.setRow N D3.toArray := ⟨_, rfl⟩
  rw [← af] at az
  have bo : Blk W3 N 87 D3 := by rw [af]; exact setRow_heap _ N _ _ _ _ I
  have bY : Evo w W3 [] := by rw [af]; exact (bf.trans (Evo.drew W2 []) (by simp)).trans (Evo.setRow W2.drew N _) (fun x hx b2 => by simp at hx; omega)
  have ao : D3 = C.take (i * 11) ++ X ++ C.drop (i * 11) ++ Z2 := by
    rw [a_, ba]
    exact Wp (by rw [List.length_append, lC, hX]; omega) (by rw [List.length_drop, l1, lD]; omega)
  rw [ao] at bo
  have dn : ¬ ((i : Int) = (n : Int)) := by omega
  have dp : (n : Int) < (n : Int) + 1 := by omega
  have c_ : IntKind.i64.wrap ((i : Int) + 1) = (i : Int) + 1 := by rw [IntKind.wrap_i64]; omega
  have dk : IntKind.i64.wrap ((n : Int) + 1) = (n : Int) + 1 := by rw [IntKind.wrap_i64]; omega
  have dm : IntKind.i64.wrap ((n : Int) + 1 - (i : Int)) = (n : Int) + 1 - (i : Int) := by rw [IntKind.wrap_i64]; omega
  have cm : (0 : Int) ≤ (i : Int) + 1 := by omega
  have ct : i ≤ n := by omega
  have c0 : ((i : Int) + 1).toNat = i + 1 := by omega
  have cp : (i : Int) ≤ (n : Int) + 1 := by omega
  have cq : (i : Int) ≤ (n : Int) := by omega
  have cc : ¬ (G = i) := by omega
  have b_ : ¬ (G = i + 1) := by omega
  have cr : ¬ (n = i) := by omega
  have b9 : G ≤ 9223372036854775807 := by unfold maxLen at bd; omega
  clear bx bl hold hG bb bc J U af hD ba a_ ao a1 bn I ag bf bq b0 bs hN lC lD
  have u4 := bW
  have mixed := Py
  have dO := fb
  go_enter func29, ntmps29
  go_wp2_with (first
    | (at_builtin; refine Lib.wpList_append_run _ rfl _ _ _ _ rfl _ _ rfl rfl _ _ (al _) ?_)
    | (at_builtin; refine wpList_copy_runI _ rfl _ _ 74 74 rfl _ _ rfl rfl (au _ _) ?_))
  go_region_law_o (refine step_copy_runI rfl _ _ 74 74 rfl _ _ (by simp [Act.eval, Act.put]) (by simp [Act.eval, Act.put]) (az _ _ _) ?_)
  go_wp2
  refine bodyPost_ret (results_tmp rfl _ _ _) rfl ⟨G, Z2, ?_, bY, bo, l2, bt, bd⟩
  rfl
theorem RE {base : Nat} {v : Value} {l : List StV} {x : StV} {U i : Nat} {w : World} (h : OwnE w base 87 v l) (hb : base ≤ w.heap.size) (hl : l.length ≤ 10000) (hi : i ≤ l.length) (hV : Blk w U 87 (Enc.enc x)) (az : ∀ g, v.ownBlock = some g → g ≠ U) :
    Calls Tryz.prog 29 #[v, .int .i64 i, .slice (some ⟨U, 0, none⟩) 1 1] w fun e w' => ∃ J, e = .returned J ∧ Evo w w' v.ownBlock.toList ∧ OwnE w' base 87 J (l.take i ++ x :: l.drop i) ∧ (J.ownBlock = v.ownBlock ∨ ∃ g, J.ownBlock = some g ∧ w.heap.size ≤ g) := by
  have hn : Enc.n StV = 11 := rfl
  have hX : (Enc.enc x).length = 11 := rfl
  have I : ∀ y ∈ Enc.enc x, y.oneCell' = true := List.all_eq_true.1 (Enc.one x)
  have hlen : (l.take i ++ x :: l.drop i).length = l.length + 1 := by simp only [List.length_append, List.length_cons, List.length_take, List.length_drop]; omega
  have j : ((l.take i ++ x :: l.drop i).map (Enc.enc (α := StV))).flatten = ((l.map Enc.enc).flatten).take (i * 11) ++ Enc.enc x ++ ((l.map Enc.enc).flatten).drop (i * 11) := by
    rw [List.map_append, List.flatten_append, List.map_cons, List.flatten_cons, ZB, Za, hn]; simp
  by_cases he : i = l.length
  · subst he
    have C := h.row
    rw [List.length_map] at C
    refine (dP (v := v) (n := l.length) C hb ω hV hX I).mono ?_
    rintro e w' ⟨J, rfl, ho, hev, hloc⟩
    refine ⟨J, rfl, hev, ⟨?_, fun cs ao => by obtain ⟨y, _, rfl⟩ := List.mem_map.1 ao; exact Enc.len y, by rw [List.length_map, hlen]; omega⟩, hloc.imp_right fun h => ⟨_, h, Nat.le_refl _⟩⟩
    rw [List.length_map, hlen, j]
    have hf : ((l.map (Enc.enc (α := StV))).flatten).length = l.length * 11 := by have := C.1; exact this
    rw [List.take_of_length_le ω, List.drop_eq_nil_of_le ω, List.append_nil]
    exact ho
  · rcases YZ h with ⟨rfl, rfl⟩ | ⟨g, cap, R, rfl, h1, h2, h3, h4, h5, h6⟩
    · exact absurd (Nat.le_zero.1 hi) he
    · rw [hn] at h3 h4
      have au : U ≠ g := fun e => az g rfl e.symm
      rcases Nat.lt_or_ge l.length cap with hc | hc
      · refine (bE g l.length cap i U _ R _ w ω ω (by unfold maxLen at h6; omega) au h2 h3 ω hV hX (Uj l) I).mono ?_
        rintro e w' ⟨rfl, hev, hB⟩
        refine ⟨_, rfl, hev, ?_, .inl rfl⟩
        have := PN (α := StV) (l := l.take i ++ x :: l.drop i) (R := R.drop 11) (cap := cap) h1 (by rw [j]; exact hB) (by rw [List.length_drop, h4, hn, hlen]; omega) ω h6 ω
        rwa [hlen] at this
      · have : cap = l.length := by omega
        subst this
        refine (bJ g l.length i U _ R _ w ω ω h2 h3 hV hX (Uj l) I).mono ?_
        rintro e w' ⟨G, Z, rfl, hev, hB, hZ, hG, hG2⟩
        refine ⟨_, rfl, hev.mono (by simp), ?_, .inr ⟨_, rfl, Nat.le_refl _⟩⟩
        have := PN (α := StV) (l := l.take i ++ x :: l.drop i) (g := w.heap.size) (R := Z) (cap := G) (base := base) hb (by rw [j]; exact hB) (by rw [hZ, hn, hlen]) ω hG2 ω
        rwa [hlen] at this
theorem KP : CQ Tryz.prog 74 = some false := ζ
theorem Ei : A8 Tryz.prog 76 1 = some 1 := ζ
def Gc (a b : Int) : Int := if a < b then -1 else if b < a then 1 else 0
theorem du {p q r t : Int} {k : Nat} (hk : k < 4) (C : ∀ j, j < k → ([p, q, r, t] : List Int).getD j default = 0) (R : ¬ ([p, q, r, t] : List Int).getD k default = 0) : ([p, q, r, t] : List Int).getD k default = OL p (OL q (OL r t)) := by
  unfold OL
  match k, hk with
  | 0, _ => exact (if_pos R).symm
  | 1, _ => have I : p = 0 := C 0 ω
            have h1 : ¬ q = 0 := R
            rw [if_neg (by simpa using I), if_pos h1]; rfl
  | 2, _ => have I : p = 0 := C 0 ω
            have h1 : q = 0 := C 1 ω
            have J : ¬ r = 0 := R
            rw [if_neg (by simpa using I), if_neg (by simpa using h1), if_pos J]; rfl
  | 3, _ => have I : p = 0 := C 0 ω
            have h1 : q = 0 := C 1 ω
            have J : r = 0 := C 2 ω
            rw [if_neg (by simpa using I), if_neg (by simpa using h1), if_neg (by simpa using J)]; rfl
theorem Yv {p q r t : Int} (C : ∀ j, j < 4 → ([p, q, r, t] : List Int).getD j default = 0) : (0 : Int) = OL p (OL q (OL r t)) := by
  have I : p = 0 := C 0 ω
  have h1 : q = 0 := C 1 ω
  have J : r = 0 := C 2 ω
  have R : t = 0 := C 3 ω
  unfold OL; rw [if_neg (by simpa using I), if_neg (by simpa using h1), if_neg (by simpa using J), R]
theorem HD {a b : Int} {R : World}  :
    Calls Tryz.prog 43 #[.int .i64 a, .int .i64 b] R fun e w' => e = .returned (.int .i64 (Gc a b)) ∧ R = w' := by
 refine AG (n := 20) func43 rfl ntmps43 rfl ?_
 have U : Evo R R [] := Evo.refl _ _
 refine Zs (Zn Am (Zs (Zo AU (Zr [.int _ _] rfl η func104 GR ?_))))
 rintro e w1 ⟨rfl, rfl⟩
 refine ⟨_, rfl, ?_⟩
 refine Zn BV (Zs (Zo AU (Zr [.int _ _] rfl η func104 GR ?_)))
 rintro e w2 ⟨rfl, rfl⟩
 refine ⟨_, rfl, ?_⟩
 refine Zn BV (AE (Zs (Zn Cb (AH η (fun j => ?_) (fun j => ?_)))))
 exfalso; exact j rfl
 refine AJ (AE (Zs (Zn Cb (AH η (fun C => ?_) (fun C => ?_)))))
 exfalso; exact C rfl
 refine AJ (AE (Zs (Zo AU (Zo AU (Zn Dn (AH η (fun I => ?_) (fun I => ?_)))))))
 refine Zs (Zn Am (AM C3 ?_))
 exact ⟨A3 (by unfold Gc; rw [if_pos I]), rfl⟩
 refine AJ (AE (Zs (Zo AU (Zo AU (Zn Ve (AH η (fun J => ?_) (fun J => ?_)))))))
 refine Zs (Zn Am (AM C3 ?_))
 exact ⟨A3 (by unfold Gc; rw [if_neg ω, if_pos J]), rfl⟩
 refine AJ (Zs (Zn Am (AM C3 ?_)))
 exact ⟨A3 (by unfold Gc; rw [if_neg ω, if_neg ω]), rfl⟩
theorem WB {ao : Option Addr} {b off cap : Nat} {p q r t : Int} {C : World} (hl : RowE C ao b off cap ([p, q, r, t] : List Int)) :
    Calls Tryz.prog 42 #[.slice ao ([p, q, r, t] : List Int).length cap] C fun e w' => e = .returned (.int .i64 (OL p (OL q (OL r t)))) ∧ C = w' := by
 refine AG (n := 18) func42 rfl ntmps42 rfl ?_
 have U : Evo C C [] := Evo.refl _ _
 have af := hl.bd
 refine Zs (Zn Am (Zs (Zn Am (AE (Zs (Zo Bi (Zo (AQ rfl η underlying22) (Zn AU (AK ?_)))))))))
 refine Aq (α := Nat) [2, 5, 8, 9, 10, 11, 12, 13, 14, 15, 16] (fun k g w => g 8 = .int .i64 (k : Nat) ∧ k ≤ ([p, q, r, t] : List Int).length ∧ w = C ∧ (∀ j, j < k → ([p, q, r, t] : List Int).getD j default = 0) ∧ C.heap.size ≤ w.heap.size ∧ Evo C w []) (fun k => ([p, q, r, t] : List Int).length - k) 0 ?_ ?_
 refine ⟨σ, δ, rfl, (fun j h => by omega), δ, U⟩
 rintro k g w2 ⟨al, hk_k, hw, hno, hzl1, U⟩
 have R := U.size
 refine Zk 8 al ?_
 replace hw := hw.symm; subst hw
 refine Zs (Zn Dn (AE (AH η (fun I => ?_) (fun I => ?_))))
 refine AJ (AE (AK (Zs (Zo (Ab (k) rfl underlying22 Bd η η χ ω (hl.addr (i := k) ω)) ?_))))
 have ag := hl.atD (k) ω
 refine Zo (AA rfl Ae η (ag.cell 0 η)) (Zn Am (Zs (Zo AU (Zo AU (Zn (BP rfl η η) (AH η (fun J => ?_) (fun J => ?_)))))))
 refine Zs (Zo AU (Zn Am (AM C3 ?_)))
 exact ⟨A3 (du (by simp at I; omega) hno (by simpa using J)), rfl⟩
 refine AJ (AX (AB (Zo Br (Zn AU (Zg (k + 1) ?_)))))
 refine ⟨σ, δ, rfl, (KR hno (by simpa using J)), δ, U⟩
 refine Ak rfl (Zs (Zo AU (Zn Am (AM C3 ?_))))
 exact ⟨A3 (Yv (fun j hj => hno j (by simp at I; omega))), rfl⟩
theorem Sy {bf bx b off cap : Nat} {ao : Option Addr} {nx : Int} {l : List StV} {k : Ac} {j : World} (R : Blk j bf 76 [.pointer (some ⟨bx, 0, none⟩), .slice ao l.length cap, .int .i64 nx]) (U : RowE j ao b off cap l) :
    Calls Tryz.prog 26 #[.pointer (some ⟨bf, 0, none⟩), S k] j fun e w' => ∃ (i : Nat) (x : Bool), e = .returned (.tuple #[.int .i64 (i : Nat), .bool x]) ∧ i ≤ l.length ∧ (x = true → i < l.length) ∧ Evo j w' [] := by
 have I := R.at
 refine AG (n := 14) func26 rfl ntmps26 rfl ?_
 have J : Evo j j [] := Evo.refl _ _
 have al := A9 U
 have C := U.bd
 refine Zs (Zo Am (Zn BV (Zs (Zo EA (Zo (Au rfl η) (Zo (AD rfl η Ei) (Zo (AA rfl KP η (I.cell 1 η)) (Zo Ca (Zr [(.slice ao l.length cap), S _, .func _ _ _] rfl η func74 (Vy U) ?_)))))))))
 rintro e w1 ⟨af, bx1, rfl, hbi1, hbx1, F1⟩
 refine ⟨_, rfl, ?_⟩
 have Q1 := F1.size
 replace J := Z0 J F1
 refine Zo (AI (v := .int _ _) rfl η η) (Zo (AI (v := .bool _) rfl η η) (Zo Am (Zn BV (AM (Fy (v := .int _ _) (u := .bool _) rfl η η) ?_))))
 exact ⟨_, _, rfl, hbi1, hbx1, J⟩
abbrev Pr := List Vc.Item × List Vc.Item
def RowF (F : List Nat) (w : World) (h : Hdr) (t : List Vc.Item) : Prop := ∃ b off, RowE w h.ao b off h.cap t ∧ h.len = t.length ∧ (t ≠ [] → b ∉ F ∧ b < w.heap.size)
theorem RowF.evo {F I X : List Nat} {w w' : World} {h : Hdr} {t : List Vc.Item} (hr : RowF F w h t) (he : Evo w w' X) (U : ∀ x ∈ X, x ∈ F) (R : ∀ g ∈ I, g ∈ F ∨ w.heap.size ≤ g) : RowF I w' h t := by
  obtain ⟨b, off, h1, J, C⟩ := hr
  refine ⟨b, off, C1 h1 he (fun j hm => (C j).1 (U _ hm)), J, fun j => ⟨fun hb => ?_, Nat.lt_of_lt_of_le (C j).2 he.size⟩⟩
  rcases R b hb with h4 | h4
  · exact (C j).1 h4
  · have := (C j).2; omega
theorem SR {w : World} {base E : Nat} {v : Value} {t : List Vc.Item} {F : List Nat} (h : OwnE w base E v t) (R : ∀ g ∈ F, g < base) : ∃ C : Hdr, v = .slice C.ao C.len C.cap ∧ RowF F w C t := by
  obtain ⟨ao, cap, rfl⟩ := h.shape
  obtain ⟨_, g, J, I⟩ := h.row_of
  exact ⟨⟨ao, t.length, cap⟩, rfl, g, 0, J, rfl, fun j => ⟨fun hm => by have := R _ hm; have := (I j).2.1; omega, (I j).2.2⟩⟩
structure StF (F : List Nat) (w : World) (s : StV) (e : Pr) : Prop where
  rs : RowF F w s.src e.1
  rt : RowF F w s.tgt e.2
  rk : RowF F w s.tk (Cp e.1)
  al : e.1.length ≤ 16
  bl : e.2.length ≤ 16
  kl : (Cp e.1).length ≤ 1000
  kx : ∀ x ∈ Cp e.1, x.text.length ≤ 100000
  az : EX e.1 ≤ 1000
theorem StF.evo {F I X : List Nat} {w w' : World} {s : StV} {e : Pr} (h : StF F w s e) (he : Evo w w' X) (C : ∀ x ∈ X, x ∈ F) (j : ∀ g ∈ I, g ∈ F ∨ w.heap.size ≤ g) : StF I w' s e :=
  { h with rs := h.rs.evo he C j, rt := h.rt.evo he C j, rk := h.rk.evo he C j }
def RowsF (F : List Nat) (w : World) (l : List StV) (T : List Pr) : Prop := l.length = T.length ∧ ∀ (i : Nat) (s : StV) (e : Pr), l[i]? = some s → T[i]? = some e → StF F w s e
theorem RowsF.evo {F j X : List Nat} {w w' : World} {l : List StV} {T : List Pr} (h : RowsF F w l T) (he : Evo w w' X) (J : ∀ x ∈ X, x ∈ F) (I : ∀ g ∈ j, g ∈ F ∨ w.heap.size ≤ g) : RowsF j w' l T := ⟨h.1, fun i s e h1 C => (h.2 i s e h1 C).evo he J I⟩
theorem RowsF.ins {F : List Nat} {w : World} {l : List StV} {T : List Pr} {s : StV} {e : Pr} (h : RowsF F w l T) (J : StF F w s e) {i : Nat} (hi : i ≤ l.length) : RowsF F w (l.take i ++ s :: l.drop i) (T.take i ++ e :: T.drop i) := by
  have hlen := h.1
  refine ⟨by simp only [List.length_append, List.length_take, List.length_cons, List.length_drop]; omega, fun j s' I h1 C => ?_⟩
  have R : (l.take i).length = i := by rw [List.length_take]; omega
  have U : (T.take i).length = i := by rw [List.length_take]; omega
  rcases Nat.lt_or_ge j i with hj | hj
  · rw [List.getElem?_append_left ω, List.getElem?_take, if_pos hj] at h1 C
    exact h.2 j s' I h1 C
  · rw [List.getElem?_append_right ω] at h1 C
    rw [R] at h1; rw [U] at C
    cases hk : j - i with
    | zero => rw [hk] at h1 C; simp at h1 C; subst h1; subst C; exact J
    | succ k =>
      rw [hk] at h1 C
      simp only [List.getElem?_cons_succ, List.getElem?_drop] at h1 C
      exact h.2 _ s' I h1 C
theorem RowsF.set {F : List Nat} {w : World} {l : List StV} {T : List Pr} {s : StV} {e : Pr} (h : RowsF F w l T) (U : StF F w s e) (i : Nat) : RowsF F w (l.set i s) (T.set i e) := by
  refine ⟨by rw [List.length_set, List.length_set]; exact h.1, fun j s' R h1 C => ?_⟩
  rw [List.getElem?_set] at h1 C
  have hl := h.1
  by_cases J : i = j
  · subst J
    rw [if_pos rfl] at h1 C
    by_cases I : i < l.length
    · rw [if_pos I] at h1; rw [if_pos ω] at C
      injection h1 with h1; injection C with C; subst h1; subst C; exact U
    · rw [if_neg I] at h1; cases h1
  · rw [if_neg J] at h1 C; exact h.2 j s' R h1 C
def JL (l : List StV) (T : List Pr) : BG := (l.zip T).map fun p => (p.1.id, Cp p.2.1)
structure FndP (w : World) (bf bx : Nat) (nx : Int) (v : Value) (F FI : List Nat) (A : BG) (l : List StV) (T : List Pr) (n : Nat) (Y : List Nat) : Prop where
  blk : Blk w bf 76 [.pointer (some ⟨bx, 0, none⟩), v, .int .i64 nx]
  idx : Mp w bx A FI
  own : OwnE w 0 87 v l
  feet : F = bf :: (v.ownBlock.toList ++ FI)
  bfI : bf ∉ FI
  ownI : ∀ g, v.ownBlock = some g → g ∉ FI
  rows : RowsF (F ++ Y) w l T
  perm : A.Perm (JL l T)
  nodup : (A.map (·.1)).Nodup
  lt : ∀ p ∈ A, p.1 < nx
  nx0 : 0 ≤ nx ∧ nx ≤ n
  ln : l.length ≤ n
  ylt : ∀ g ∈ Y, g < w.heap.size
  yF : ∀ g ∈ F, g ∉ Y
def Fnd (w : World) (bf : Nat) (F : List Nat) (l : List StV) (T : List Pr) (n : Nat) (Y : List Nat) : Prop := ∃ bx nx v FI A, FndP w bf bx nx v F FI A l T n Y
theorem FndP.evo0 {w w' : World} {bf C : Nat} {I : Int} {v : Value} {F FI : List Nat} {A : BG} {l : List StV} {T : List Pr} {n : Nat} {Y : List Nat} (h : FndP w bf C I v F FI A l T n Y) (he : Evo w w' []) : FndP w' bf C I v F FI A l T n Y :=
  { h with blk := h.blk.evo0 he, idx := h.idx.evo0 he, own := h.own.evo0 he, rows := h.rows.evo he (by simp) (fun g j => .inl j), ylt := fun g j => Nat.lt_of_lt_of_le (h.ylt g j) he.size }
theorem FndP.lt' {w : World} {bf C : Nat} {I : Int} {v : Value} {F FI : List Nat} {A : BG} {l : List StV} {T : List Pr} {n : Nat} {Y : List Nat} (h : FndP w bf C I v F FI A l T n Y) : ∀ g ∈ F, g < w.heap.size := fun g j => by
  rw [h.feet] at j
  rcases List.mem_cons.1 j with rfl | j
  · exact h.blk.lt
  · rcases List.mem_append.1 j with j | j
    · exact (h.own.block (Option.mem_toList.1 j)).2
    · exact h.idx.lt g j
theorem FndP.notown {w : World} {bf j : Nat} {C : Int} {v : Value} {F FI : List Nat} {A : BG} {l : List StV} {T : List Pr} {n : Nat} {Y : List Nat} (h : FndP w bf j C v F FI A l T n Y) : ∀ g, v.ownBlock = some g → g ≠ bf := CT h.own h.blk υ
theorem Fnd.evo0 {w w' : World} {bf n : Nat} {F Y : List Nat} {l : List StV} {T : List Pr} (h : Fnd w bf F l T n Y) (he : Evo w w' []) : Fnd w' bf F l T n Y := by
  obtain ⟨j, C, v, FI, A, h⟩ := h
  exact ⟨j, C, v, FI, A, h.evo0 he⟩
theorem Fnd.evoY {w w' : World} {bf n : Nat} {F Y I : List Nat} {l : List StV} {T : List Pr} (h : Fnd w bf F l T n Y) (he : Evo w w' Y) (hY : ∀ g ∈ I, g ∈ Y ∨ w.heap.size ≤ g) (J : ∀ g ∈ I, g < w'.heap.size) : Fnd w' bf F l T n I := by
  obtain ⟨bx, nx, v, FI, A, h⟩ := h
  have hm := h.feet
  have U := h.lt'
  exact ⟨bx, nx, v, FI, A, { h with
    blk := h.blk.evo he (h.yF bf (by rw [hm]; simp))
    idx := h.idx.evo he (fun g j => h.yF g (by rw [hm]; exact List.mem_cons_of_mem _ (List.mem_append_right _ j)))
    own := h.own.evo he (fun g j => h.yF g (by rw [hm]; exact List.mem_cons_of_mem _ (List.mem_append_left _ (Option.mem_toList.2 j))))
    rows := h.rows.evo he (fun x hx => List.mem_append_right _ hx) (fun g j => (List.mem_append.1 j).elim (fun C => .inl (List.mem_append_left _ C)) (fun C => (hY g C).imp_left fun h8 => List.mem_append_right _ h8))
    ylt := J
    yF := fun g j R => (hY g R).elim (h.yF g j) (fun C => by have := U g j; omega) }⟩
theorem Fnd.toY {w : World} {bf n : Nat} {F Y : List Nat} (h : Fnd w bf F [] [] n []) (I : ∀ g ∈ Y, g < w.heap.size) (C : ∀ g ∈ F, g ∉ Y) : Fnd w bf F [] [] n Y := by
  obtain ⟨j, J, v, FI, A, h⟩ := h
  exact ⟨j, J, v, FI, A, { h with rows := ⟨rfl, fun i s e h1 => by simp at h1⟩, ylt := I, yF := C }⟩
theorem Fnd.evoX {w w' : World} {bf n : Nat} {F Y X : List Nat} {l : List StV} {T : List Pr} (h : Fnd w bf F l T n Y) (he : Evo w w' X) (C : ∀ x ∈ X, x ∈ Y) : Fnd w' bf F l T n Y := by
  have I : ∀ g ∈ Y, g < w.heap.size := by obtain ⟨J, R, v, FI, A, h⟩ := h; exact h.ylt
  exact h.evoY (he.mono C) (fun g j => .inl j) (fun g j => Nat.lt_of_lt_of_le (I g j) he.size)
theorem Fnd.evoN {w w' : World} {bf n : Nat} {F Y : List Nat} {l : List StV} {T : List Pr} (h : Fnd w bf F l T n Y) (he : Evo w w' []) (R : w.heap.size < w'.heap.size) : Fnd w' bf F l T n (w.heap.size :: Y) := by
  have I : ∀ g ∈ Y, g < w.heap.size := by obtain ⟨J, U, v, FI, A, h⟩ := h; exact h.ylt
  exact h.evoY (he.mono (by simp)) (fun g C => (List.mem_cons.1 C).elim (fun j => .inr ω) .inl) (fun g C => (List.mem_cons.1 C).elim (fun j => by omega) (fun j => by have := I g j; omega))
theorem Fnd.yf {w : World} {bf n : Nat} {F Y : List Nat} {l : List StV} {T : List Pr} (h : Fnd w bf F l T n Y) : ∀ g ∈ F, g ∉ Y := by
  obtain ⟨j, C, v, FI, A, h⟩ := h
  exact h.yF
theorem Fnd.bd {w : World} {bf n : Nat} {F Y : List Nat} {l : List StV} {T : List Pr} (h : Fnd w bf F l T n Y) : ∀ i, i < T.length → EX (T.getD i default).1 + (T.getD i default).1.length ≤ 2000 ∧ (Cp (T.getD i default).1).length ≤ 1000 ∧ ∀ x ∈ Cp (T.getD i default).1, x.text.length ≤ 100000 := by
  obtain ⟨j, I, v, FI, A, h⟩ := h
  intro i hi
  have C := h.rows.1
  have h1 := h.rows.2 i (l.getD i default) (T.getD i default) (by rw [List.getD_eq_getElem?_getD, List.getElem?_eq_getElem ω]; rfl) (by rw [List.getD_eq_getElem?_getD, List.getElem?_eq_getElem hi]; rfl)
  exact ⟨by have := h1.al; have := h1.az; omega, h1.kl, h1.kx⟩
theorem Fnd.lt {w : World} {bf n : Nat} {F Y : List Nat} {l : List StV} {T : List Pr} (h : Fnd w bf F l T n Y) : ∀ g ∈ F, g < w.heap.size := by
  obtain ⟨j, C, v, FI, A, h⟩ := h
  exact h.lt'
theorem Fnd.len {w : World} {bf n : Nat} {F Y : List Nat} {l : List StV} {T : List Pr} (h : Fnd w bf F l T n Y) : l.length = T.length ∧ l.length ≤ n := by
  obtain ⟨j, C, v, FI, A, h⟩ := h
  exact ⟨h.rows.1, h.ln⟩
theorem Qr {l : List StV} {T : List Pr} {s : StV} {e : Pr} {i : Nat} (I : l.length = T.length) (C : i ≤ l.length) : (JL (l.take i ++ s :: l.drop i) (T.take i ++ e :: T.drop i)).Perm (JL l T ++ [(s.id, Cp e.1)]) := by
  unfold JL
  rw [List.zip_append (by rw [List.length_take, List.length_take]; omega), List.zip_cons_cons, List.map_append, List.map_cons]
  have j : (l.zip T) = (l.take i).zip (T.take i) ++ (l.drop i).zip (T.drop i) := by
    rw [← List.zip_append (by rw [List.length_take, List.length_take]; omega), List.take_append_drop, List.take_append_drop]
  rw [j, List.map_append, List.append_assoc]
  refine List.Perm.append_left _ ?_
  exact (List.perm_append_singleton _ _).symm
theorem fI : Cn Tryz.prog 76 = some [(0, 1), (1, 1), (2, 1)] := ζ
theorem fD : Cy Tryz.prog 76 = some (3, 40, some (.agg #[(.pointer none), (.slice none 0 0), (.int .i64 0)])) := ζ
theorem Th  {J : World}  :
    Calls Tryz.prog 5 #[] J fun e w' => ∃ bf F, e = .returned (.pointer (some ⟨bf, 0, none⟩)) ∧ Evo J w' [] ∧ Fnd w' bf F [] [] 0 [] ∧ (∀ g ∈ F, J.heap.size ≤ g) := by
 refine AG (n := 4) func5 rfl ntmps5 rfl ?_
 have I : Evo J J [] := Evo.refl _ _
 refine Zs (Zn fH (Zs (Zr [] rfl η func6 Lx ?_)))
 rintro e w1 ⟨R, fx1, rfl, F1, C, hfx1⟩
 refine ⟨_, rfl, ?_⟩
 have Q1 := F1.size
 replace I := Z0 I F1
 have U := C.lt
 refine Zo (A2 (pv := [(0, (.pointer (some ⟨R, 0, none⟩)))]) (zs := [_, _, _]) (cells := [_, _, _]) rfl fD η fI η η) (CE (vs := [_, _, _]) η η rfl ?_)
 intro b2 w3 J2 E3 B2 Y2
 have Q3 := E3.size
 replace I := Z0 I E3
 replace C := C.evo0 E3
 refine Zn fH (AM (C8 (v := .pointer _) rfl η) ?_)
 exact ⟨_, _, rfl, I, ⟨_, 0, .slice none 0 0, _, [], B2, C, OwnE.nil _ _ _, rfl, fun hm => (by have := U _ hm; omega), (fun g j => by cases j), ⟨rfl, fun i s e h1 => by simp at h1⟩, List.Perm.refl _, List.nodup_nil, (fun p hp => by cases hp), ⟨by omega, by omega⟩, Nat.le_refl _, (fun g j => by cases j), (fun g _ j => by cases j)⟩, fun g j => by (rcases List.mem_cons.1 j with rfl | j; omega; exact hfx1 g (by simpa [Value.ownBlock] using j))⟩
theorem MP : A8 Tryz.prog 87 2 = some 2 := ζ
theorem Od {F F2 : List Nat} {s : StV} {p : Pr} {w : World} (h : StF F w s p) (j : ∀ g ∈ F2, g < w.heap.size) :
    Calls Tryz.prog 27 #[.agg #[.slice s.src.ao s.src.len s.src.cap, .slice s.tgt.ao s.tgt.len s.tgt.cap, S s.prev, S s.next, S s.author, S s.project, .int .i64 s.created, .int .i64 s.origin]] w fun e w' => ∃ x : Entr, e = .returned (.agg (Enc.enc x).toArray) ∧ Evo w w' [] ∧ RowF F2 w' x.src p.1 ∧ RowF F2 w' x.tgt p.2 := by
  obtain ⟨b, off, h1, h2, _⟩ := h.rs
  obtain ⟨b', U, C, I, _⟩ := h.rt
  rw [h2, I]
  refine (HN h1 C h.al h.bl).mono ?_
  rintro e w' ⟨v, u, rfl, hE, ho, ho'⟩
  obtain ⟨ha, rfl, J⟩ := SR ho j
  obtain ⟨hb, rfl, R⟩ := SR ho' j
  exact ⟨⟨ha, hb, s.prev, s.next, s.author, s.project, s.created, s.origin⟩, rfl, hE, J, R⟩
def EsOk (F : List Nat) (w : World) (es : List Entr) (T : List Pr) : Prop := ∀ (i : Nat) (x : Entr) (p : Pr), es[i]? = some x → T[i]? = some p → RowF F w x.src p.1
theorem EsOk.evo {F j : List Nat} {w w' : World} {es : List Entr} {T : List Pr} {X : List Nat} (h : EsOk F w es T) (he : Evo w w' X) (J : ∀ x ∈ X, x ∈ F) (I : ∀ g ∈ j, g ∈ F ∨ w.heap.size ≤ g) : EsOk j w' es T := fun i x p h1 C => (h i x p h1 C).evo he J I
theorem EsOk.snoc {F : List Nat} {w : World} {es : List Entr} {T : List Pr} {x : Entr} {p : Pr} (h : EsOk F w es T) (C : T[es.length]? = some p) (I : RowF F w x.src p.1) : EsOk F w (es ++ [x]) T := fun i y q h1 j => by
  rcases Nat.lt_or_ge i es.length with hi | hi
  · rw [List.getElem?_append_left hi] at h1; exact h i y q h1 j
  · rw [List.getElem?_append_right hi] at h1
    cases hk : i - es.length with
    | zero =>
      rw [hk] at h1; simp at h1; subst h1
      have : i = es.length := by omega
      subst this; rw [C] at j; injection j with j; subst j; exact I
    | succ n => rw [hk] at h1; simp at h1
theorem fk {v j : Value} {n : Nat} {Y : List Nat} (h : j.ownBlock = v.ownBlock ∨ ∃ q, j.ownBlock = some q ∧ n ≤ q) : ∀ g ∈ j.ownBlock.toList ++ Y, g ∈ v.ownBlock.toList ++ Y ∨ n ≤ g := fun g C => by
  rcases List.mem_append.1 C with h1 | h1
  · rcases h with h | ⟨q, h, h2⟩
    · exact .inl (List.mem_append_left _ (h ▸ h1))
    · rw [h] at h1; simp at h1; exact .inr ω
  · exact .inl (List.mem_append_right _ h1)
theorem dv {v C : Value} {n : Nat} (h : C.ownBlock = v.ownBlock ∨ ∃ q, C.ownBlock = some q ∧ n ≤ q) : ∀ g ∈ C.ownBlock.toList, g ∈ v.ownBlock.toList ∨ n ≤ g := fun g j => by
  rcases h with h | ⟨q, h, h2⟩
  · exact .inl (h ▸ j)
  · rw [h] at j; simp at j; exact .inr ω
theorem getD_some {α : Type} [Inhabited α] {l : List α} {k : Nat} (h : k < l.length) : l[k]? = some (l.getD k default) := by
  rw [List.getD_eq_getElem?_getD, List.getElem?_eq_getElem h]; rfl
set_option maxHeartbeats 1000000 in
theorem M0 {bf bx b off cap : Nat} {ao : Option Addr} {nx : Int} {l : List StV} {F Y : List Nat} {T : List Pr} {U : World} (bn : Blk U bf 76 [.pointer (some ⟨bx, 0, none⟩), .slice ao l.length cap, .int .i64 nx]) (hl : RowE U ao b off cap l) (C : RowsF F U l T) (bF : l.length ≤ 1000) (hY : ∀ g ∈ Y, g < U.heap.size) :
    Calls Tryz.prog 9 #[.pointer (some ⟨bf, 0, none⟩)] U fun e w' => ∃ v, ∃ es : List Entr, e = .returned v ∧ Evo U w' [] ∧ OwnE w' U.heap.size 35 v es ∧ es.length = l.length ∧ EsOk (v.ownBlock.toList ++ Y) w' es T := by
 have bc := bn.at; have I : EsOk ((Value.slice none 0 0).ownBlock.toList ++ Y) U [] T := fun i x p h1 => (by simp at h1); have a1 := fun w9 (h9 : Evo U w9 []) => C.evo h9 (by simp) (fun g J => .inl J)
 refine AG (n := 23) func9 rfl ntmps9 rfl ?_
 have R : Evo U U [] := Evo.refl _ _
 have aT := A9 hl
 have bb := hl.bd
 refine Zs (Zn Ew (Zs (Zn Ew (AE (Zs (Zo EA (Zo (Au rfl η) (Zo (AD rfl η Ei) (Zo (AA rfl KP η (bc.cell 1 η)) ?_)))))))))
 refine Zo (AQ rfl η underlying74) (Zn AU (AK (Aq (α := Nat) [3, 5, 11, 12, 13, 14, 15, 16, 17, 18, 19, 20, 21] (fun k g w => ∃ vo : Value, ∃ es : List Entr, g 11 = .int .i64 (k : Nat) ∧ g 3 = vo ∧ k ≤ l.length ∧ OwnE w U.heap.size 35 vo es ∧ (es.length = k) ∧ EsOk (vo.ownBlock.toList ++ Y) w es T ∧ RowsF F w l T ∧ U.heap.size ≤ w.heap.size ∧ Evo U w []) (fun k => l.length - k) 0 ?_ ?_)))
 refine ⟨_, [], σ, rfl, δ, (OwnE.nil _ _ _), rfl, I, C, δ, R⟩
 rintro k g w2 ⟨vo, es, hj3, hj4, hk_k, j, hel, I, C, hzl1, R⟩
 have a_ := R.size
 refine Zk 11 hj3 (Zk 3 hj4 (Zs (Zn Dn (AE (AH η (fun bm => ?_) (fun bm => ?_))))))
 refine AJ (AE (AK (Zs (Zo (Ab (k) rfl underlying74 C0 η η χ ω ((aT _ R).addr (i := k) ω)) ?_))))
 have al := fun (w' : World) (h : Evo U w' []) => (aT w' h).atD (k) ω
 refine Zo (AL rfl PU C0 η rfl (al _ R)) ?_
 have br := fun g J => (j.block (g := g) J).2
 refine Bq (zs := [_, _, _, _, _, _, _, _, _, _, _]) (vs := [_, _, _, _, _, _, _, _, _, _, _]) C0 η rfl η (fun _ => rfl) η rfl rfl η ?_
 intro b8 w9 J8 E9 B8 Y8
 have Q9 := E9.size
 replace R := Z0 R E9
 replace j := j.evo0 E9
 replace I := I.evo E9 (by simp) (fun g J => .inl J)
 replace C := C.evo E9 (by simp) (fun g J => .inl J)
 refine Ag ?_
 have bo := C.2 k _ _ (getD_some (show k < l.length by omega)) (getD_some (show k < T.length by have := C.1; omega))
 refine AB (Zo (AN (v := vo) rfl η) (Zo (AD rfl η MP) (Zo (AL rfl Ek Cv η rfl (B8.at.part 2 8 (ds := [_, _, _, _, _, _, _, _]) η)) (Zr [.agg _] rfl η func27 (Od (F2 := vo.ownBlock.toList ++ Y) bo (fun g J => (List.mem_append.1 J).elim (fun h9 => (j.block (Option.mem_toList.1 h9)).2) (fun h9 => Nat.lt_of_lt_of_le (hY g h9) R.size))) ?_))))
 rintro e bQ ⟨ba, rfl, hE10, hrs10, hrt10⟩
 refine ⟨_, rfl, ?_⟩
 have bt := hE10.size
 replace R := Z0 R hE10
 replace j := j.evo0 hE10
 replace I := I.evo hE10 (by simp) (fun g J => .inl J)
 replace C := C.evo hE10 (by simp) (fun g J => .inl J)
 have az := I.snoc (x := ba) (p := T.getD k default) (by rw [hel]; exact getD_some (by have := C.1; omega)) hrs10
 refine BL (u := .agg _) (y := _) rfl rfl underlying37 Cv η j (fun _ => η) η (by first | exact rfl | (show _ = List.toArray [_, _, _, _, _, _, _, _]; first | (dsimp only; done) | exact rfl | (dsimp only; exact rfl))) (τ) (τ) ω ?_
 intro q_v11 v11 w12 E12 hov11 hlv11
 have bz := E12.size
 replace R := AP R E12 (fun g J => .inl (by first | exact (j.block J).1 | (have := j.block J; omega)))
  
 have aS := az; have bl := E12
 have au := aS.evo bl (fun x hx => List.mem_append_left _ hx) (fk hlv11)
 refine Zn (AR (v := v11) rfl η) (AX (AB (Zo Br (Zn AU (Zg (k + 1) ?_)))))
 refine ⟨_, _, σ, rfl, δ, hov11, (by rw [List.length_append]; simp; omega), au, (a1 _ R), δ, R⟩
 refine Ak rfl (Zs (Zo (AN (v := vo) rfl η) (Zn (AR (v := vo) rfl η) (AM (C8 (v := vo) rfl η) ?_))))
 exact ⟨_, _, rfl, R, j, by omega, I⟩
end Go.Proofs.YtbgmlpbgofcfjaaGreatDoor
namespace Go.Proofs
open Go.Shelf Go.Proofs.Tryz
def Tryz.sortMatch_ren : Go.Shelf.Ren := ⟨fun | 6 => 40 | 15 => 103 | 14 => 102 | 28 => 160 | 29 => 161 | 20 => 152 | 21 => 153 | 22 => 154 | 23 => 155 | 24 => 156 | 25 => 157 | 26 => 158 | 27 => 159 | 46 => 211 | 47 => 212 | 48 => 213 | 49 => 214 | 50 => 215 | 57 => 251 | n => n, fun | 22 => 46 | 24 => 52 | 25 => 121 | 3 => 3 | 39 => 193 | 0 => 0 | 53 => 236 | 55 => 238 | 4 => 4 | 46 => 230 | 45 => 229 | 50 => 83 | 5 => 5 | 9 => 9 | 66 => 298 | 70 => 302 | 76 => 348 | 77 => 112 | n => n, fun | n => n⟩
theorem Tryz.sortMatch : Go.Proofs.SlLaysF0.n6 Tryz.prog Tryz.sortMatch_ren := {
  mixed := by kernel_rfl
  f6 := ⟨Tryz.f40.name, by decide, Tryz.func40.trans (congrArg some (by kernel_rfl))⟩
  f14 := ⟨Tryz.f102.name, by decide, Tryz.func102.trans (congrArg some (by kernel_rfl))⟩
  f15 := Tryz.func103.trans (congrArg some (by kernel_rfl))
  f20 := ⟨Tryz.f152.name, by decide, Tryz.func152.trans (congrArg some (by kernel_rfl))⟩
  f21 := ⟨Tryz.f153.name, by decide, Tryz.func153.trans (congrArg some (by kernel_rfl))⟩
  f22 := ⟨Tryz.f154.name, by decide, Tryz.func154.trans (congrArg some (by kernel_rfl))⟩
  f23 := ⟨Tryz.f155.name, by decide, Tryz.func155.trans (congrArg some (by kernel_rfl))⟩
  f24 := ⟨Tryz.f156.name, by decide, Tryz.func156.trans (congrArg some (by kernel_rfl))⟩
  f25 := ⟨Tryz.f157.name, by decide, Tryz.func157.trans (congrArg some (by kernel_rfl))⟩
  f26 := ⟨Tryz.f158.name, by decide, Tryz.func158.trans (congrArg some (by kernel_rfl))⟩
  f27 := ⟨Tryz.f159.name, by decide, Tryz.func159.trans (congrArg some (by kernel_rfl))⟩
  f28 := Tryz.func160.trans (congrArg some (by kernel_rfl))
  f29 := Tryz.func161.trans (congrArg some (by kernel_rfl))
  f46 := ⟨Tryz.f211.name, by decide, Tryz.func211.trans (congrArg some (by kernel_rfl))⟩
  f47 := Tryz.func212.trans (congrArg some (by kernel_rfl))
  f48 := Tryz.func213.trans (congrArg some (by kernel_rfl))
  f49 := ⟨Tryz.f214.name, by decide, Tryz.func214.trans (congrArg some (by kernel_rfl))⟩
  f50 := ⟨Tryz.f215.name, by decide, Tryz.func215.trans (congrArg some (by kernel_rfl))⟩
  f57 := ⟨Tryz.f251.name, by decide, Tryz.func251.trans (congrArg some (by kernel_rfl))⟩
  t0 := underlying0
  a0 := isAgg0
  z0 := sizeOf0
  v0 := zeroValue0
  t3 := underlying3
  a3 := isAgg3
  z3 := sizeOf3
  v3 := zeroValue3
  t4 := underlying4
  a4 := isAgg4
  z4 := sizeOf4
  v4 := zeroValue4
  t5 := underlying5
  a5 := isAgg5
  z5 := sizeOf5
  v5 := zeroValue5
  t9 := underlying9
  a9 := isAgg9
  z9 := sizeOf9
  v9 := zeroValue9
  t22 := underlying46
  a22 := isAgg46
  z22 := sizeOf46
  v22 := zeroValue46
  t25 := underlying121
  a25 := isAgg121
  z25 := sizeOf121
  v25 := zeroValue121
  t39 := underlying193
  a39 := isAgg193
  z39 := sizeOf193
  v39 := zeroValue193
  t45 := underlying229
  a45 := isAgg229
  z45 := sizeOf229
  v45 := zeroValue229
  t46 := underlying230
  a46 := isAgg230
  z46 := sizeOf230
  v46 := zeroValue230
  t50 := underlying83
  a50 := isAgg83
  z50 := sizeOf83
  v50 := zeroValue83
  t53 := underlying236
  a53 := isAgg236
  z53 := sizeOf236
  v53 := zeroValue236
  t55 := underlying238
  a55 := isAgg238
  z55 := sizeOf238
  v55 := zeroValue238
  t66 := underlying298
  a66 := isAgg298
  z66 := sizeOf298
  v66 := zeroValue298
  t70 := underlying302
  a70 := isAgg302
  z70 := sizeOf302
  v70 := zeroValue302
  t76 := underlying348
  a76 := isAgg348
  z76 := sizeOf348
  v76 := zeroValue348
  t77 := underlying112
  a77 := isAgg112
  z77 := sizeOf112
  v77 := zeroValue112 }
end Go.Proofs
namespace Go.Proofs.YtbgmlpbgofcfjaaGreatDoor
open Go.RowKit Go.Vc Go.Proofs.Tryz
theorem UN : CQ Tryz.prog 27 = some false := ζ
theorem Io : A8 Tryz.prog 52 0 = some 0 := ζ
structure MatV where
  en : Int
  pc : Int
  ct : Int
  pt : Int
  sc : Int
instance : Inhabited MatV := ⟨⟨0, 0, 0, 0, 0⟩⟩
instance : Enc MatV := ⟨5, fun x => [.int .i64 x.en, .int .i64 x.pc, .int .i64 x.ct, .int .i64 x.pt, .int .i64 x.sc], fun _ => rfl, fun _ => rfl, by decide⟩
def RG (l : List StV) (e : Int) : Int := (l.getD e.toNat default).created
def XZ (l : List StV) (x y : MatV) : Int := OL (Gc y.sc x.sc) (OL (Gc y.pc x.pc) (OL (Gc (RG l y.en) (RG l x.en)) (Gc x.en y.en)))
set_option maxHeartbeats 4000000 in
theorem Ti {bf bx b off cap : Nat} {ao : Option Addr} {nx : Int} {l : List StV} {bc : Nat} {x y : MatV} {w0 : World} (R : Blk w0 bc 27 [.pointer (some ⟨bf, 0, none⟩)]) (U : Blk w0 bf 76 [.pointer (some ⟨bx, 0, none⟩), .slice ao l.length cap, .int .i64 nx]) (hl : RowE w0 ao b off cap l) (hx : 0 ≤ x.en ∧ x.en.toNat < l.length) (hy : 0 ≤ y.en ∧ y.en.toNat < l.length) :
    Calls Tryz.prog 41 #[(.agg (Enc.enc x).toArray), (.agg (Enc.enc y).toArray), .pointer (some ⟨bc, 0, none⟩)] w0 fun e w' => e = .returned (.int .i64 (XZ l x y)) ∧ Evo w0 w' [] ∧ w0.drawn ≤ w'.drawn := by
 have au := U.at; have ag := R.at
 refine AG (n := 44) func41 rfl ntmps41 rfl ?_
 have hV : Evo w0 w0 [] := Evo.refl _ _
 have aT := A9 hl
 have bn := hl.bd
 refine Zs (Qo (vs := [_, _, _, _, _]) η η rfl ?_)
 intro b1 w2 J1 E2 B1 Y1 hdr_0
 have Q2 := E2.size
 replace hV := Z0 hV E2
 replace ag := ag.evo0 E2
 replace R := R.evo0 E2
 replace au := au.evo0 E2
 replace U := U.evo0 E2
 refine Qo (vs := [_, _, _, _, _]) η η rfl ?_
 intro b3 w4 J3 E4 B3 Y3 hdr_1
 have Q4 := E4.size
 replace hV := Z0 hV E4
 replace ag := ag.evo0 E4
 replace R := R.evo0 E4
 replace au := au.evo0 E4
 replace U := U.evo0 E4
 replace B1 := B1.evo0 E4
 refine Zn Am (AE ?_)
 have al := ag
 have bo := R
 have az := au
 have bq := U
 have bl := B1
 have I := B1.at
 have bm := B3
 have J := B3.at
 have a1 := hV
 refine Pc ([]) ζ ?_
 intro w5 F6 j hdr_2
 have Q5 := F6.size
 replace hV := Z0 hV F6
 refine Zt (i := 0) η (fun w' C => AD rfl η MS) j (Zt (i := 1) η (fun w' C => AA rfl Ae η ((J.evo0 C).cell 4 η)) j (Zt (i := 2) η (fun w' C => AD rfl η MS) j (Zt (i := 3) η (fun w' C => AA rfl Ae η ((I.evo0 C).cell 4 η)) j (Zt (i := 5) η (fun w' C => AD rfl η Md) j (Zt (i := 6) η (fun w' C => AA rfl Ae η ((J.evo0 C).cell 1 η)) j (Zt (i := 7) η (fun w' C => AD rfl η Md) j (Zt (i := 8) η (fun w' C => AA rfl Ae η ((I.evo0 C).cell 1 η)) j (Zt (i := 10) η (fun w' C => AA rfl UN η ((al.evo0 C).cell 0 η)) j (Zt (i := 11) η (fun w' C => Au rfl η) j ?_)))))))))
 refine Zt (i := 12) η (fun w' C => AD rfl η Ei) j (Zt (i := 13) η (fun w' C => AA rfl KP η ((az.evo0 C).cell 1 η)) j (Zt (i := 14) η (fun w' C => AD rfl η Io) j (Zt (i := 15) η (fun w' C => AA rfl Ae η ((J.evo0 C).cell 0 η)) j (Zt (i := 16) η (fun w' C => Ab (y.en.toNat) rfl underlying74 C0 η η ω ω ((aT _ hV).addr (i := y.en.toNat) ω)) j ?_))))
 have ba := fun (w' : World) (h : Evo w0 w' []) => (aT w' h).atD (y.en.toNat) ω
 refine Zt (i := 17) η (fun w' C => AD rfl η MP) j (Zt (i := 18) η (fun w' C => AD rfl η Mh) j (Zt (i := 19) η (fun w' C => AA rfl Ae η ((ba _ (CB a1 C)).cell 8 η)) j (Zt (i := 20) η (fun w' C => AA rfl UN η ((al.evo0 C).cell 0 η)) j (Zt (i := 21) η (fun w' C => Au rfl η) j (Zt (i := 22) η (fun w' C => AD rfl η Ei) j (Zt (i := 23) η (fun w' C => AA rfl KP η ((az.evo0 C).cell 1 η)) j (Zt (i := 24) η (fun w' C => AD rfl η Io) j (Zt (i := 25) η (fun w' C => AA rfl Ae η ((I.evo0 C).cell 0 η)) j (Zt (i := 26) η (fun w' C => Ab (x.en.toNat) rfl underlying74 C0 η η ω ω ((aT _ hV).addr (i := x.en.toNat) ω)) j ?_)))))))))
 have bb := fun (w' : World) (h : Evo w0 w' []) => (aT w' h).atD (x.en.toNat) ω
 refine Zt (i := 27) η (fun w' C => AD rfl η MP) j (Zt (i := 28) η (fun w' C => AD rfl η Mh) j (Zt (i := 29) η (fun w' C => AA rfl Ae η ((bb _ (CB a1 C)).cell 8 η)) j (Zt (i := 31) η (fun w' C => AD rfl η Io) j (Zt (i := 32) η (fun w' C => AA rfl Ae η ((I.evo0 C).cell 0 η)) j (Zt (i := 33) η (fun w' C => AD rfl η Io) j (Zt (i := 34) η (fun w' C => AA rfl Ae η ((J.evo0 C).cell 0 η)) j ?_))))))
 refine Zh (i := 4) ?_
 refine Zr [.int _ _, .int _ _] rfl η func43 HD ?_
 rintro e w9 ⟨rfl, rfl⟩
 refine ⟨_, rfl, ?_⟩
 refine AZ j ?_
 refine Zh (i := 9) ?_
 refine Zr [.int _ _, .int _ _] rfl η func43 HD ?_
 rintro e bB ⟨rfl, rfl⟩
 refine ⟨_, rfl, ?_⟩
 refine AZ j ?_
 refine Zh (i := 30) ?_
 refine Zr [.int _ _, .int _ _] rfl η func43 HD ?_
 rintro e bF ⟨rfl, rfl⟩
 refine ⟨_, rfl, ?_⟩
 refine AZ j ?_
 refine Zh (i := 35) ?_
 refine Zr [.int _ _, .int _ _] rfl η func43 HD ?_
 rintro e bL ⟨rfl, rfl⟩
 refine ⟨_, rfl, ?_⟩
 refine AZ j ?_
 refine Zh (i := 36) ?_
 refine O4 (pv := [(0, .int _ _), (1, .int _ _), (2, .int _ _), (3, .int _ _)]) (zs := [_]) (cs := [_, _, _, _]) underlying22 Bd η rfl η rfl η ?_
 intro b13 w14 J13 E14 B13 Y13 hdr_3
 have bt := E14.size
 replace hV := Z0 hV E14
 replace j := Z0 j E14
 have a_ : RowE w14 (some ⟨b13, 0, none⟩) b13 0 4 ([Gc y.sc x.sc, Gc y.pc x.pc, Gc (RG l y.en) (RG l x.en), Gc x.en y.en] : List Int) := CH ([Gc y.sc x.sc, Gc y.pc x.pc, Gc (RG l y.en) (RG l x.en), Gc x.en y.en] : List Int) B13 rfl rfl
 refine AZ j ?_
 refine Zh (i := 37) ?_
 refine Zr [.slice (some ⟨b13, 0, none⟩) _ _] rfl η func42 (WB a_) ?_
 rintro e bM ⟨rfl, rfl⟩
 refine ⟨_, rfl, ?_⟩
 refine AZ j ?_
 refine Zt (i := 38) η (fun w' C => Am) j ?_
 refine A5 ζ ?_
 refine AM C3 ?_
 exact ⟨rfl, hV, by omega⟩
end Go.Proofs.YtbgmlpbgofcfjaaGreatDoor
namespace Go.Proofs.YtbgmlpbgofcfjaaGreatDoor
open Go Go.RowKit Go.Vc Go.Proofs
structure MvN (n : Nat) where
  v : MatV
  ok : 0 ≤ v.en ∧ v.en.toNat < n
instance (n : Nat) : Enc (MvN n) := ⟨5, fun x => Enc.enc x.v, fun x => Enc.len x.v, fun x => Enc.one x.v, by decide⟩
theorem OK {l : List StV} {x y : MatV} : XZ l x y < 0 ↔ y.sc < x.sc ∨ (y.sc = x.sc ∧ (y.pc < x.pc ∨ (y.pc = x.pc ∧ (RG l y.en < RG l x.en ∨ (RG l y.en = RG l x.en ∧ x.en < y.en))))) := by
  unfold XZ OL Gc
  generalize RG l y.en = p; generalize RG l x.en = q
  repeat' split
  all_goals omega
theorem er (l : List StV) (n : Nat) : Go.Sort.SWO (ltOf fun x y : MvN n => XZ l x.v y.v) where
  irrefl x := by unfold ltOf; simp only [decide_eq_false_iff_not, OK]; omega
  trans x y z h1 h2 := by
    unfold ltOf at *; simp only [decide_eq_true_eq, OK] at *
    generalize RG l x.v.en = p at *; generalize RG l y.v.en = q at *; generalize RG l z.v.en = r at *
    omega
  ntrans x y z h1 h2 := by
    unfold ltOf at *; simp only [decide_eq_false_iff_not, OK] at *
    generalize RG l x.v.en = p at *; generalize RG l y.v.en = q at *; generalize RG l z.v.en = r at *
    omega
theorem TG {bf bx b off cap J : Nat} {ao : Option Addr} {nx : Int} {l : List StV} {base : Nat} {v : Value} {d : List (MvN l.length)} {w : World} (h : OwnE w base 52 v d)
    (af : Blk w J 27 [.pointer (some ⟨bf, 0, none⟩)]) (ag : Blk w bf 76 [.pointer (some ⟨bx, 0, none⟩), .slice ao l.length cap, .int .i64 nx]) (hl : RowE w ao b off cap l)
    (hs : ∀ g, v.ownBlock = some g → g ≠ J ∧ g ≠ bf ∧ (l ≠ [] → g ≠ b)) (hn : l = [] → v = .slice none 0 0) :
    Calls Tryz.prog 40 #[v, .func (.func 41) #[] #[.pointer (some ⟨J, 0, none⟩)]] w fun e w' => e = .returned (.tuple #[]) ∧ Evo w w' v.ownBlock.toList ∧ ∃ C : List (MvN l.length), C.Perm d ∧ OwnE w' base 52 v C := by
  have h0 : Own w base 52 (Enc.n (MvN l.length)) v (d.map Enc.enc) := h
  rcases h0.row.2 with ⟨I, hlz⟩ | ⟨g2, cap2, cur, I, hb, hg, h2, h3, h4, h5⟩
  · have au : d = [] := List.eq_nil_of_length_eq_zero (by simpa using hlz)
    subst au; subst I
    refine (AnyF.slices_SortFunc_none { Tryz.sortMatch with } none 0 (.func (.func 41) #[] #[.pointer (some ⟨J, 0, none⟩)]) w).mono ?_
    rintro e w' ⟨rfl, rfl⟩
    exact ⟨rfl, Evo.refl _ _, [], List.Perm.refl _, h⟩
  · rw [List.length_map] at I h2 h5
    have U := h.bd
    have al : 0 < l.length := List.length_pos_iff.2 fun e => by rw [hn e] at I; cases I
    haveI : Inhabited (MvN l.length) := ⟨⟨⟨0, 0, 0, 0, 0⟩, Int.le_refl 0, al⟩⟩
    subst I
    obtain ⟨s1, s2, s3⟩ := hs g2 rfl
    refine (AnyQ.slices_SortFunc Tryz.sortMatch 5 Tryz.isAgg52 Tryz.sizeOf52 Enc.enc (fun x => Enc.len x) (fun x v I => List.all_eq_true.1 (Enc.one x) v I) (fun x y : MvN l.length => XZ l x.v y.v) (er l _) 41 #[.pointer (some ⟨J, 0, none⟩)] g2 0 cap2 d.toArray w (enters_of Tryz.func41 ζ rfl)
      (fun m os dk hk x y => ?_) (Ph hg h5) (Array.getElem?_eq_some_iff.1 hg).1 θ).mono ?_
    · have he : Evo w (sortWorldK (Enc.enc : MvN l.length → List Value) 5 w g2 0 m dk os) [g2] := H7 _
      exact (show Calls Tryz.prog 41 #[.agg (Enc.enc x.v).toArray, .agg (Enc.enc y.v).toArray, .pointer (some ⟨J, 0, none⟩)] _ _ from
        (Ti (af.evo he (by simpa using fun e => s1 e.symm)) (ag.evo he (by simpa using fun e => s2 e.symm)) (C1 hl he (fun az => by simpa using fun e => s3 az e.symm)) x.ok y.ok).mono fun e w' ⟨q1, q2, q3⟩ => ⟨q1, Rj q2 q3⟩)
    · rintro e w' ⟨rfl, C, m, os, hp, hs', rfl⟩
      obtain ⟨aS, _, R⟩ := hp
      have j : C.toList.Perm d := by
        have e1 : C.extract 0 d.toArray.size = C := by rw [← aS]; simp
        rw [e1] at R; simpa using R
      exact ⟨rfl, H7 _, C.toList, j, L5 (l' := C.toList) j.length_eq hb hg h2 h3 h4 U⟩
def aZ {n : Nat} : (d : List MatV) → (∀ m ∈ d, 0 ≤ m.en ∧ m.en.toNat < n) → List (MvN n)
  | [], _ => []
  | m :: d, h => ⟨m, h m (by simp)⟩ :: aZ d (fun x hx => h x (by simp [hx]))
theorem NH {n : Nat} : ∀ (d : List MatV) (h : ∀ m ∈ d, 0 ≤ m.en ∧ m.en.toNat < n), (aZ d h).map MvN.v = d
  | [], _ => rfl
  | m :: d, h => by rw [aZ, List.map_cons, NH d]
theorem VU {n : Nat} (d : List (MvN n)) : (d.map MvN.v).map (Enc.enc (α := MatV)) = d.map (Enc.enc (α := MvN n)) := by rw [List.map_map]; rfl
theorem P4 {bf R b off cap C : Nat} {ao : Option Addr} {nx : Int} {l : List StV} {base : Nat} {v : Value} {d : List MatV} {w : World} (h : OwnE w base 52 v d)
    (I : Blk w C 27 [.pointer (some ⟨bf, 0, none⟩)]) (J : Blk w bf 76 [.pointer (some ⟨R, 0, none⟩), .slice ao l.length cap, .int .i64 nx]) (hl : RowE w ao b off cap l)
    (U : ∀ m ∈ d, 0 ≤ m.en ∧ m.en.toNat < l.length) (hs : ∀ g, v.ownBlock = some g → g ≠ C ∧ g ≠ bf ∧ (l ≠ [] → g ≠ b)) (hn : l = [] → v = .slice none 0 0) :
    Calls Tryz.prog 40 #[v, .func (.func 41) #[] #[.pointer (some ⟨C, 0, none⟩)]] w fun e w' => e = .returned (.tuple #[]) ∧ Evo w w' v.ownBlock.toList ∧ ∃ j : List MatV, j.Perm d ∧ OwnE w' base 52 v j := by
  have h1 : OwnE w base 52 v (aZ (n := l.length) d U) := by
    unfold OwnE; rw [← VU, NH]; exact h
  refine (TG h1 I J hl hs hn).mono ?_
  rintro e w' ⟨rfl, hE, j, hp, ho⟩
  refine ⟨rfl, hE, j.map MvN.v, ?_, ?_⟩
  · have := hp.map MvN.v
    rwa [NH] at this
  · unfold OwnE at ho ⊢
    rw [VU]; exact ho
end Go.Proofs.YtbgmlpbgofcfjaaGreatDoor
namespace Go.Vc
open Go Go.RowKit
section
variable {P : Program} {f : Fr} {w : World} {o : Oper}
theorem We {T E : TypeId} {x U mx : Operand} {ao : Option Addr} {len cap m bb h k : Nat} {z : Option Value} (κ j : IntKind) (ho : o.op = .slice T x none (some U) (some mx)) (hu : P.underlying T = some (.slice E))
    (ht : Cy P E = some (m, bb, z)) (hx : opv f x = .slice ao len cap) (I : opv f U = .int κ (h : Int)) (J : opv f mx = .int j (k : Int)) (h1 : h ≤ k) (h2 : k ≤ cap) :
    (execOp (opv f) o).run P w = .ok (.value (.slice ao h k)) w := by
  have R : P.elem T = E := by simp [Program.elem, hu]
  have e1 : (Instr.sliceAt T (.slice ao len cap) none (some (.int κ (h : Int))) (some (.int j (k : Int)))).run P w = .ok (.slice ao h k) w := by
    have C : P.underlying T = some (.slice (P.elem T)) := by rw [R]; exact hu
    rw [run_sliceAt_slice w T _ _ _ _ C, run_slice_hm w T ao len cap C κ j (h : Int) (k : Int) ω ω ω, R, CF ht]
    simp only [Result.andThen, sliced, Int.toNat_natCast, Nat.sub_zero, Nat.zero_mul]
    congr 2
    split
    · rfl
    · cases ao with
      | none => rfl
      | some a => simp [Addr.add]
  unfold execOp; rw [ho]; simp only [Option.map_some, Option.map_none]; rw [hx, I, J]
  simp [e1]
end
section
variable {P : Program} {B : Exit → Act → World → Prop} {n : Nat} {ops : Array Oper} {k : List Kont} {rest : List Oper} {f : Fr} {w : World}
end
end Go.Vc
namespace Go.Proofs.YtbgmlpbgofcfjaaGreatDoor
open Go.RowKit Go.Vc Go.Proofs.Tryz
theorem RP {ao : Option Addr} {b off cap : Nat} {l : List MatV} {C : World} (J : RowE C ao b off cap l) :
    Calls Tryz.prog 44 #[.slice ao l.length cap] C fun e w' => e = .returned (.slice ao l.length l.length) ∧ Evo C w' [] := by
 have j := J.le
 refine AG (n := 9) func44 rfl ntmps44 rfl ?_
 have R : Evo C C [] := Evo.refl _ _
 have U := A9 J
 have I := J.bd
 refine Zs (Zn Ew (Zs (Zo Bi (Zo Bi (Zo (AQ rfl η underlying46) (Zo Bi (Zo (AQ rfl η underlying46) (Zo (by exact We (h := l.length) (k := l.length) (ao := ao) (cap := cap) .i64 .i64 rfl underlying46 EH η η η (Nat.le_refl _) j) (Zn (AR (v := (.slice ao l.length l.length)) rfl η) ?_)))))))))
 refine AM (C8 (v := (.slice ao l.length l.length)) rfl η) ?_
 exact ⟨rfl, R⟩
theorem Ub : CQ Tryz.prog 29 = some false := ζ
theorem YV : CQ Tryz.prog 40 = some false := ζ
theorem Mi : A8 Tryz.prog 76 0 = some 0 := ζ
theorem MX : A8 Tryz.prog 87 0 = some 0 := ζ
theorem Qk : A8 Tryz.prog 87 3 = some 10 := ζ
theorem V4 {α : Type} [Enc α] {w : World} {ao : Option Addr} {b off cap : Nat} {l : List α} (h : RowE w ao b off cap l) : RowE w ao b off l.length l := ⟨⟨by simp, h.1.2⟩, h.2.1, h.2.2⟩
theorem SG {F : List Nat} {s : StV} {p : Pr} {J : Option Addr} {q R : Nat} {az al : Ac} {nw th mo : Int} {j : Option Addr} {bY au C : Nat} {I : List Vc.Item} {w : World} (h : StF F w s p) (ag : RowE w j bY au C I) (U : I.length ≤ 1000) (af : ∀ x ∈ I, x.text.length ≤ 140737488355328) :
    Calls Tryz.prog 39 #[.agg #[.slice s.src.ao s.src.len s.src.cap, .slice s.tgt.ao s.tgt.len s.tgt.cap, S s.prev, S s.next, S s.author, S s.project, .int .i64 s.created, .int .i64 s.origin], .slice s.tk.ao s.tk.len s.tk.cap, .slice j I.length C, .slice none 0 0, .agg #[.slice J q R, S az, S al, .int .i64 nw, .int .i64 th, .int .i64 mo]] w fun e w' => ∃ p c s : Int, e = .returned (.agg #[.int .i64 0, .int .i64 p, .int .i64 c, .int .i64 0, .int .i64 s]) ∧ Evo w w' [] := by
  obtain ⟨b, off, h1, h2, _⟩ := h.rk
  rw [h2]
  exact Nl h1 ag h.kl U (fun x hx => by have := h.kx x hx; omega) af
set_option maxHeartbeats 4000000 in
theorem QS {bf bx b off cap : Nat} {ao : Option Addr} {nx : Int} {l : List StV} {F FI : List Nat} {T : List Pr} {A : BG} {bB : Option Addr} {bA gb bF : Nat} {a : List Vc.Item} {pv b8 : Ac} {nw th mo : Int} {w0 : World} (J : Blk w0 bf 76 [.pointer (some ⟨bx, 0, none⟩), .slice ao l.length cap, .int .i64 nx]) (hl : RowE w0 ao b off cap l) (e2 : l ≠ [] → b < w0.heap.size) (au : Mp w0 bx A FI) (bQ : RowsF F w0 l T) (gZ : l.length ≤ 1000) (eT : A.length ≤ 1000000) (eU : ∀ q ∈ A, q.2.length ≤ 1000000) (bc : RowE w0 bB bA gb bF a) (ga : Bo [] a = 0) (e9 : a ≠ []) (e0 : a.length ≤ 16) (e1 : Ay a ≤ 400) (fr : pv ∈ FD) (fg : b8 ∈ FE) (e_ : 0 ≤ nw ∧ nw ≤ 1000) (f_ : 1 ≤ th ∧ th ≤ 102) (e8 : 1 ≤ mo ∧ mo ≤ 100) (gY : EX a + a.length ≤ 900) :
    Calls Tryz.prog 14 #[.pointer (some ⟨bf, 0, none⟩), .slice none 0 0, .agg #[.slice bB a.length bF, S pv, S b8, .int .i64 nw, .int .i64 th, .int .i64 mo]] w0 fun e w' => ∃ (cc : Option Addr) (b2 dm cm : Nat) (d : List MatV) (r : List Int), e = .returned (.tuple #[.slice cc d.length cm, .int .i64 0]) ∧ Evo w0 w' [] ∧ RowE w' cc b2 dm cm d ∧ PJ A (Cp a) (min th 100) r ∧ ∀ m ∈ d, 0 ≤ m.en ∧ m.en.toNat < l.length ∧ (l.getD m.en.toNat default).id ∈ r := by
 have af := J.at; have aT := fun w9 (h9 : Evo w0 w9 []) => bQ.evo h9 (by simp) (fun g hg => .inl hg); have g_ := IT a; have c9 : ∀ x ∈ Cp a, x.text.length ≤ 140737488355328 := fun x hx => (by have := LD hx; omega)
 refine AG (n := 90) func14 rfl ntmps14 rfl ?_
 have hV : Evo w0 w0 [] := Evo.refl _ _
 have b6 := A9 hl
 have ej := hl.bd
 have bt := A9 bc
 have cp := bc.bd
 refine Zs (CE (vs := [_]) η η rfl ?_)
 intro b1 w2 J1 E2 B1 Y1
 have Q2 := E2.size
 replace hV := Z0 hV E2
 replace af := af.evo0 E2
 replace J := J.evo0 E2
 replace au := au.evo0 E2
 have I := B1.at
 refine CE (vs := [_, _, _, _, _, _]) η η rfl ?_
 intro b3 w4 J3 E4 B3 Y3
 have Q4 := E4.size
 replace hV := Z0 hV E4
 replace af := af.evo0 E4
 replace J := J.evo0 E4
 replace bc := bt _ hV
 replace au := au.evo0 E4
 replace B1 := B1.evo0 E4
 replace I := I.evo0 E4
 have j := B3.at
 refine Zo Ew (Zn Am (AE (Zs (Zo (AL rfl SB KA η rfl j) (Zr [.agg _] rfl η func36 (Sl bc ga e9 e0 e1 fr fg e_ f_ e8) ?_)))))
 rintro e w5 ⟨rfl, F5⟩
 refine ⟨_, rfl, ?_⟩
 have Q5 := F5.size
 replace hV := Z0 hV F5
 replace af := af.evo0 F5
 replace J := J.evo0 F5
 replace au := au.evo0 F5
 replace B1 := B1.evo0 F5
 replace I := I.evo0 F5
 replace B3 := B3.evo0 F5
 replace j := j.evo0 F5
 refine Zn Am (Zs (Zo AU (Zn (BP rfl η η) (AH η (fun ct => ?_) (fun ct => ?_)))))
 exfalso; exact ct rfl
 refine AJ (AE (Zs (Zo Bi (Zr [.slice _ _ _] rfl η func37 OM ?_))))
 rintro e w7 ⟨rfl, F7⟩
 refine ⟨_, rfl, ?_⟩
 have Q7 := F7.size
 replace hV := Z0 hV F7
 replace af := af.evo0 F7
 replace J := J.evo0 F7
 replace bc := bt _ hV
 replace au := au.evo0 F7
 replace B1 := B1.evo0 F7
 replace I := I.evo0 F7
 replace B3 := B3.evo0 F7
 replace j := j.evo0 F7
 refine Zn Am (Zs (Zo AU (Zn (BP rfl η η) (AH η (fun cv => ?_) (fun cv => ?_)))))
 exfalso; exact cv rfl
 refine AJ (Zs (Zo (AD rfl η Mk) (Zo (AA rfl DZ η (j.cell 0 η)) (Zr [(.slice bB a.length bF)] rfl η func11 (EP bc ω) ?_))))
 rintro e w9 ⟨gd, rfl, F9, a_⟩
 refine ⟨_, rfl, ?_⟩
 have Q9 := F9.size
 replace hV := Z0 hV F9
 replace af := af.evo0 F9
 replace J := J.evo0 F9
 replace au := au.evo0 F9
 replace B1 := B1.evo0 F9
 replace I := I.evo0 F9
 replace B3 := B3.evo0 F9
 replace j := j.evo0 F9
 refine Zn (AR (v := gd) rfl η) (AE ?_)
 have C : Evo w9 w9 [] := Evo.refl _ _
 obtain ⟨gf, g11, gj, c_, aS, gq⟩ := a_.rowOf
 subst c_
 have bb := A9 aS
 have b5 := af
 have e3 := J
 have eb := B1
 have bL := I
 have ec := B3
 have bM := j
 have gn := hV
 have ea := C
 refine Aw ([]) ζ ?_
 intro w12 F13 hC14
 have gy := F13.size
 replace hV := Z0 hV F13
 replace C := Z0 C F13
 replace af := af.evo0 F13
 replace J := J.evo0 F13
 replace au := au.evo0 F13
 replace B1 := B1.evo0 F13
 replace I := I.evo0 F13
 replace B3 := B3.evo0 F13
 replace j := j.evo0 F13
 replace a_ := a_.evo0 F13
 replace aS := bb _ C
 refine Zt (i := 0) η (fun w' hC => AA rfl UN η ((bL.evo0 hC).cell 0 η)) hC14 (Zt (i := 1) η (fun w' hC => Au rfl η) hC14 (Zt (i := 2) η (fun w' hC => AD rfl η Mi) hC14 (Zt (i := 3) η (fun w' hC => AA rfl Ub η ((b5.evo0 hC).cell 0 η)) hC14 (Zt (i := 4) η (fun w' hC => Bi) hC14 (Zt (i := 5) η (fun w' hC => AD rfl η Ix) hC14 (Zt (i := 6) η (fun w' hC => AA rfl Ae η ((bM.evo0 hC).cell 4 η)) hC14 (Zt (i := 7) η (fun w' hC => Eg rfl η η) hC14 ?_)))))))
 refine Zh (i := 8) ?_
 refine Zr [(.pointer (some ⟨bx, 0, none⟩)), .slice _ _ _, .int _ _] rfl η func15 (Kd au aS c9 ω eT eU) ?_
 rintro e bo ⟨dp, r15, rfl, F15, hor15, hcr15⟩
 refine ⟨_, rfl, ?_⟩
 have gz := F15.size
 replace hV := Z0 hV F15
 replace C := Z0 C F15
 replace af := af.evo0 F15
 replace J := J.evo0 F15
 replace hl := b6 _ hV
 replace bc := bt _ hV
 replace au := au.evo0 F15
 replace bQ := aT _ hV
 replace B1 := B1.evo0 F15
 replace I := I.evo0 F15
 replace B3 := B3.evo0 F15
 replace j := j.evo0 F15
 replace a_ := a_.evo0 F15
 replace aS := bb _ C
 refine Ah ζ ?_
 refine Zh (i := 9) ?_
 refine Zo (AR (v := dp) rfl η) ?_
 refine Ah ζ ?_
 refine A5 ζ ?_
 refine Zs (Zn Ew (AE (AE ?_)))
 have U : Evo bo bo [] := Evo.refl _ _
 obtain ⟨gg, g17, gk, dc, bs, gr⟩ := hor15.rowOf
 subst dc
 have b7 := A9 bs
 have ha : w0.heap.size ≤ bo.heap.size := hV.size
 refine AB (Zo (AA rfl UN η (I.cell 0 η)) (Zo (Au rfl η) (Zo (AD rfl η Ei) (Zo (AA rfl KP η (af.cell 1 η)) (Zo (AQ rfl η underlying74) (Zn AU (AK (Aq (α := Nat) [12, 13, 14, 15, 16, 17, 45, 46, 47, 48, 49, 50, 51, 52, 53, 54, 55, 56, 57, 58, 59, 60, 61, 62, 63, 64, 65, 66, 67, 68, 69, 70, 71, 72, 73, 74, 75, 76, 77, 78] (fun k g w => ∃ vo : Value, ∃ d : List MatV, g 45 = .int .i64 (k : Nat) ∧ g 12 = vo ∧ k ≤ l.length ∧ Blk w b1 27 [.pointer (some ⟨bf, 0, none⟩)] ∧ Blk w b3 43 [.slice bB a.length bF, S pv, S b8, .int .i64 nw, .int .i64 th, .int .i64 mo] ∧ Blk w bf 76 [.pointer (some ⟨bx, 0, none⟩), .slice ao l.length cap, .int .i64 nx] ∧ OwnE w bo.heap.size 52 vo d ∧ (∀ m ∈ d, 0 ≤ m.en ∧ m.en.toNat < l.length ∧ (l.getD m.en.toNat default).id ∈ r15) ∧ (d.length ≤ k) ∧ (k = 0 → vo = .slice none 0 0) ∧ RowsF F w l T ∧ bo.heap.size ≤ w.heap.size ∧ Evo w0 w [] ∧ Evo w9 w [] ∧ Evo bo w []) (fun k => l.length - k) 0 ?_ ?_))))))))
 refine ⟨_, [], σ, rfl, δ, B1, B3, J, (OwnE.nil _ _ _), (fun m hm => by cases hm), (Nat.le_refl _), (fun _ => rfl), bQ, δ, hV, C, U⟩
 rintro k g hc ⟨vo, d, hj20, hj21, hk_k, B1, B3, J, R, hd, hdl, hk0, bQ, hzl18, hV, C, U⟩
 have ca := hV.size
 have bX := C.size
 have bY := U.size
 have e4 := B1.lt
 have e5 := B3.lt
 have e6 := J.lt
 replace hl := b6 _ hV
 have I := B1.at
 have j := B3.at
 have af := J.at
 refine Zk 45 hj20 (Zk 12 hj21 (Zs (Zn Dn (AE (AH η (fun cq => ?_) (fun cq => ?_))))))
 refine AJ (AE (AK (AE ?_)))
 have c3 := fun g (h : vo.ownBlock = some g) => R.block h
 refine AB (Zo AU (Zo (Ab (k) rfl underlying74 C0 η η χ ω (hl.addr (i := k) ω)) ?_))
 have b4 := fun (w' : World) (h : Evo w0 w' []) => (b6 w' h).atD (k) ω
 refine Zo (AL rfl PU C0 η rfl (b4 _ hV)) ?_
 have fi := fun g hg => (R.block (g := g) hg).2
 refine CU (zs := [_, _, _, _, _, _, _, _, _, _, _]) C0 η rfl ?_
 intro b28 w29 J28 E29 B28 Y28
 have gM := E29.size
 replace hV := Z0 hV E29
 replace C := Z0 C E29
 replace U := Z0 U E29
 replace B1 := B1.evo0 E29
 replace B3 := B3.evo0 E29
 replace J := J.evo0 E29
 replace R := R.evo0 E29
 replace I := I.evo0 E29
 replace j := j.evo0 E29
 replace af := af.evo0 E29
 refine Zo Am (Ai (v := .agg _) (vs := [_, _, _, _, _, _, _, _, _, _, _]) (cs' := [_, _, _, _, _, _, _, _, _, _, _]) η η B28 C0 η rfl η rfl η ?_)
 intro w30 E30 V30 hb_new
 have gN := E30.size
 replace hV := Z1 hV E30 ε
 replace C := Z1 C E30 ε
 replace U := Z1 U E30 ε
 replace bs := b7 _ U
 replace B1 := B1.evo E30 θ
 replace B3 := B3.evo E30 θ
 replace J := J.evo E30 θ
 replace R := R.evo E30 (by intro g hg hm; simp at hm; subst hm; have := c3 g hg; omega)
 replace I := I.evo E30 θ
 replace j := j.evo E30 θ
 replace af := af.evo E30 θ
 replace B28 := hb_new
 clear hb_new
 refine Ag (AE (Zs (Zo Bi (Zo (AD rfl η MX) (Zo (AA rfl Ae η (B28.at.cell 0 η)) (Zr [.slice _ _ _, .int _ _] rfl η func38 (V6 bs) ?_))))))
 rintro e hf ⟨gi, bx31, rfl, hbx31, F31⟩
 refine ⟨_, rfl, ?_⟩
 have gO := F31.size
 replace hV := Z0 hV F31
 replace C := Z0 C F31
 replace U := Z0 U F31
 replace aS := bb _ C
 replace B1 := B1.evo0 F31
 replace B3 := B3.evo0 F31
 replace J := J.evo0 F31
 replace R := R.evo0 F31
 replace I := I.evo0 F31
 replace j := j.evo0 F31
 replace af := af.evo0 F31
 replace B28 := B28.evo0 F31
 refine Zo PW (Zo (AI (v := .int _ _) rfl η η) (Zo (AI (v := .bool _) rfl η η) (Zo Am (Zn BV (Zs (Zo (Cc rfl η) (Zn (Cd rfl η) (AH η (fun bq => ?_) (fun bq => ?_)))))))))
 refine Ak rfl (AB (Zo Br (Zn AU (Zg (k + 1) ?_))))
 refine ⟨_, _, σ, rfl, δ, B1, B3, J, R, (by first | exact hd | exact (fun m hm => by rcases List.mem_append.1 hm with h9 | h9; exact hd m h9; simp only [List.mem_singleton] at h9; subst h9; exact ⟨by simp, by simp; omega, by simpa using ba⟩)), (by first | omega | (rw [List.length_append]; simp; omega)), (fun h => by omega), (aT _ hV), δ, hV, C, U⟩
 refine AJ (AE ?_)
 have ba : (l.getD k default).id ∈ r15 := hbx31 (by first | simpa using bq | exact Classical.not_not.1 bq)
 have fs := (aT _ hV).2 k _ _ (getD_some (show k < l.length by omega)) (getD_some (show k < T.length by have := (aT _ hV).1; omega))
 refine AB (Zo (AD rfl η MP) (Zo (AL rfl Ek Cv η rfl (B28.at.part 2 8 (ds := [_, _, _, _, _, _, _, _]) η)) (Zo (AD rfl η Qk) (Zo (AA rfl YV η (B28.at.cell 10 η)) (Zo Bi (Zo Bi (Zo (AL rfl SB KA η rfl j) (Zr [.agg _, .slice _ _ _, .slice _ _ _, .slice _ _ _, .agg _] rfl η func39 (SG fs aS ω c9) ?_))))))))
 rintro e hh ⟨gw, mc33, ms33, rfl, F33⟩
 refine ⟨_, rfl, ?_⟩
 have gP := F33.size
 replace hV := Z0 hV F33
 replace C := Z0 C F33
 replace U := Z0 U F33
 replace B1 := B1.evo0 F33
 replace B3 := B3.evo0 F33
 replace J := J.evo0 F33
 replace R := R.evo0 F33
 replace I := I.evo0 F33
 replace j := j.evo0 F33
 replace af := af.evo0 F33
 have fo := fun g hg => (R.block (g := g) hg).2
 refine Bq (zs := [_, _, _, _, _]) (vs := [_, _, _, _, _]) EH η rfl η (fun _ => rfl) η rfl rfl η ?_
 intro b35 w36 J35 E36 B35 Y35
 have gQ := E36.size
 replace hV := Z0 hV E36
 replace C := Z0 C E36
 replace U := Z0 U E36
 replace B1 := B1.evo0 E36
 replace B3 := B3.evo0 E36
 replace J := J.evo0 E36
 replace R := R.evo0 E36
 replace I := I.evo0 E36
 replace j := j.evo0 E36
 replace af := af.evo0 E36
 refine Ag (Zs (Zo AU (Zo (AD rfl η Io) (Ai (v := .int _ _) (vs := [_]) (cs' := [_, _, _, _, _]) η η B35 Bd η rfl η rfl η ?_))))
 intro w37 E37 V37 hb_new
 have gR := E37.size
 replace hV := Z1 hV E37 ε
 replace C := Z1 C E37 ε
 replace U := Z1 U E37 ε
 replace B1 := B1.evo E37 θ
 replace B3 := B3.evo E37 θ
 replace J := J.evo E37 θ
 replace R := R.evo E37 (by intro g hg hm; simp at hm; subst hm; have := c3 g hg; omega)
 replace I := I.evo E37 θ
 replace j := j.evo E37 θ
 replace af := af.evo E37 θ
 replace B35 := hb_new
 clear hb_new
 refine Ag (Zs (Zo (AD rfl η MS) (Zo (AA rfl Ae η (B35.at.cell 4 η)) (Zo (AD rfl η Ix) (Zo (AA rfl Ae η (j.cell 4 η)) (Zn (CV rfl η η) (AH η (fun cr => ?_) (fun cr => ?_))))))))
 have bl := CT R B1 υ; have bm := CT R B3 υ; have br := CT R J υ
 refine AB (Zo (AN (v := vo) rfl η) (Zo (AL rfl XO EH η rfl B35.at) (BL (u := .agg _) (y := (⟨_, _, _, _, _⟩ : MatV)) rfl rfl underlying46 EH η R (fun _ => η) η (by first | exact rfl | (show _ = List.toArray [_, _, _, _, _]; first | (dsimp only; done) | exact rfl | (dsimp only; exact rfl))) (τ) (τ) ω ?_)))
 intro q_v39 v39 w40 E40 hov39 hlv39
 have gS := E40.size
 replace hV := AP hV E40 (fun g hg => .inl (by first | exact (R.block hg).1 | (have := R.block hg; omega)))
 replace C := AP C E40 (fun g hg => .inl (by first | exact (R.block hg).1 | (have := R.block hg; omega)))
 replace U := AP U E40 (fun g hg => .inl (by first | exact (R.block hg).1 | (have := R.block hg; omega)))
 replace B1 := B1.evo E40 (by intro hm; exact bl _ (Option.mem_toList.1 hm) rfl)
 replace B3 := B3.evo E40 (by intro hm; exact bm _ (Option.mem_toList.1 hm) rfl)
 replace J := J.evo E40 (by intro hm; exact br _ (Option.mem_toList.1 hm) rfl)
 replace I := I.evo E40 (by intro hm; exact bl _ (Option.mem_toList.1 hm) rfl)
 replace j := j.evo E40 (by intro hm; exact bm _ (Option.mem_toList.1 hm) rfl)
 replace af := af.evo E40 (by intro hm; exact br _ (Option.mem_toList.1 hm) rfl)
 refine Zn (AR (v := v39) rfl η) (AX (AB (Zo Br (Zn AU (Zg (k + 1) ?_)))))
 refine ⟨_, _, σ, rfl, δ, B1, B3, J, hov39, (by first | exact hd | exact (fun m hm => by rcases List.mem_append.1 hm with h9 | h9; exact hd m h9; simp only [List.mem_singleton] at h9; subst h9; exact ⟨by simp, by simp; omega, by simpa using ba⟩)), (by first | omega | (rw [List.length_append]; simp; omega)), (fun h => by omega), (aT _ hV), δ, hV, C, U⟩
 refine AJ (AX (AB (Zo Br (Zn AU (Zg (k + 1) ?_)))))
 refine ⟨_, _, σ, rfl, δ, B1, B3, J, R, (by first | exact hd | exact (fun m hm => by rcases List.mem_append.1 hm with h9 | h9; exact hd m h9; simp only [List.mem_singleton] at h9; subst h9; exact ⟨by simp, by simp; omega, by simpa using ba⟩)), (by first | omega | (rw [List.length_append]; simp; omega)), (fun h => by omega), (aT _ hV), δ, hV, C, U⟩
 refine Ak rfl (Zs (Zo (AN (v := vo) rfl η) (Zo (UW (vs := [.pointer _]) rfl η) (Zr [vo, .func _ _ _] rfl η func40 (P4 R B1 J hl (fun m hm => ⟨(hd m hm).1, (hd m hm).2.1⟩) (fun g hg => ⟨CT R B1 υ g hg, CT R J υ g hg, fun c0 => by have := e2 c0; have := (R.block hg).1; omega⟩) (fun h9 => hk0 (by have := congrArg List.length h9; simp only [List.length_nil] at this; omega))) ?_))))
 rintro e hi ⟨rfl, F41, gs41, hsr41, hs41⟩
 refine ⟨_, rfl, ?_⟩
 have bR := CT R B3 υ
 have gT := F41.size
 replace hV := AP hV F41 (fun g hg => .inl (by first | exact (R.block hg).1 | (have := R.block hg; omega)))
 replace C := AP C F41 (fun g hg => .inl (by first | exact (R.block hg).1 | (have := R.block hg; omega)))
 replace U := AP U F41 (fun g hg => .inl (by first | exact (R.block hg).1 | (have := R.block hg; omega)))
 replace B3 := B3.evo F41 (by intro hm; exact bR _ (Option.mem_toList.1 hm) rfl)
 replace j := j.evo F41 (by intro hm; exact bR _ (Option.mem_toList.1 hm) rfl)
 replace R := hs41
 refine Ag (AE ?_)
 obtain ⟨gh, gX, gm, dk, bS, gu⟩ := R.rowOf
 subst dk
 refine AB (Zo Bi (Zo Bi (Zo (AQ rfl η underlying46) (Zo (AD rfl η MT) (Zo (AA rfl Ae η (j.cell 5 η)) (Zo (Eg rfl η η) (Zo (by exact P1 (0) ((min gs41.length mo.toNat)) rfl underlying46 EH η bS cx (W5 η ω) τ τ List.drop_zero) ?_)))))))
 have a1 := (by have h9 := (bS.take ((min gs41.length mo.toNat))).drop (0); rw [List.drop_zero] at h9; exact h9)
 have b9 := a1.bd
 refine Zr [.slice _ _ _] rfl η func44 (RP a1) ?_
 rintro e hj ⟨rfl, F44⟩
 refine ⟨_, rfl, ?_⟩
 have gU := F44.size
 replace hV := Z0 hV F44
 replace a1 := a1.evo0 F44
 refine Zo Ew (Zn Am (AM (Fy (v := .slice _ _ _) (u := .int _ _) rfl η η) ?_))
 exact ⟨_, _, _, _, _, _, rfl, hV, V4 a1, hcr15, fun m hm => hd m (hsr41.mem_iff.1 (List.mem_of_mem_take hm))⟩
end Go.Proofs.YtbgmlpbgofcfjaaGreatDoor
