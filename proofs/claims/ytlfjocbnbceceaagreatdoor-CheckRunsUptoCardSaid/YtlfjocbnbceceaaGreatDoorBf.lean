/-
  Library, plain laws and walks that the statements reach (joined by a program out of smaller texts).
-/
import Derived.Test.YtlfjocbnbceceaaGreatDoorBe
import Derived.Lib.ItoaNum
import Derived.Lib.LaidTab
import Derived.Sort.OwnSorted
import Derived.Test.YtlfjocbnbceceaaGreatDoorBb
import Derived.Test.YtlfjocbnbceceaaGreatDoorBa
import Derived.Test.YtlfjocbnbceceaaGreatDoorBd
import Derived.Test.YtlfjocbnbceceaaGreatDoorBc
import Derived.ArgAppend
import Derived.Laws.Slices
set_option linter.unusedVariables false
set_option linter.unusedSimpArgs false
namespace Go.Vc
open Go Go.RowKit Go.IntWalk Go.Sort
theorem XQ (w : World) (os : Array Obj) : Evo w (grow w os) [] := by
  refine ⟨rfl, rfl, rfl, ?_, fun b j _ => ?_⟩
  · simp [grow]
  · simp [grow, Array.getElem?_append, j]
end Go.Vc
namespace Go.Proofs.YtlfjocbnbceceaaGreatDoor
open Go Go.RowKit Go.Vc Go.Proofs.Tryz
theorem Xt (n : Nat) : ∀ s : AQ, EC n s = Go.Lib.decDigits n ++ s := by
  induction n using Nat.strongRecOn with
  | _ n ih =>
    intro s
    by_cases h : n / 10 = 0
    · rw [Ej s h]
      unfold Go.Lib.decDigits
      rw [dif_pos ω, show n % 10 = n by omega]; rfl
    · rw [Gm s h, ih (n / 10) ω]
      conv => rhs; unfold Go.Lib.decDigits
      rw [dif_neg ω, List.append_assoc]; rfl
theorem Ua (n : Nat) : Go.Lib.decDigits n = EC n [] := by rw [Xt, List.append_nil]
theorem WM (n : Int) : Go.Lib.itoa n = RG n := by
  unfold Go.Lib.itoa RG
  by_cases h : n < 0
  · rw [if_pos h, if_neg ω, Ua, show n.natAbs = (-n).toNat by omega]
  · rw [if_neg h, if_pos ω, Ua]
theorem RN {ao : Option Addr} {b off cap : Nat} {f : List Vc.Item} {U : World} (hf : RowE U ao b off cap f) (aT : Tiny f) :
    Calls Tryz.prog 77 #[.slice ao f.length cap] U fun e w' => e = .returned (.bool (Pt (Ax f))) ∧ Evo U w' [] := by
 refine AG (n := 16) func77 rfl ntmps77 rfl ?_
 have C : Evo U U [] := Evo.refl _ _
 have a8 := Ak hf
 have a1 := hf.bd
 refine Zs (Zn A6 (AB (Zs (Zo Ar (Zr [.slice _ _ _] rfl η func87 (FT hf aT.tk) ?_)))))
 rintro e w1 ⟨bp, rfl, F1, hok1⟩
 refine ⟨_, rfl, ?_⟩
 have Q1 := F1.size
 replace C := Z0 C F1
 replace hf := a8 _ C
 refine Zo (Bn rfl η underlying94 hok1) (Zn AN (AD ?_))
 have o : Evo w1 w1 [] := Evo.refl _ _
 obtain ⟨bg, g3, bl, bb, ba, bm⟩ := hok1.rowOf
 subst bb
 have J := Ak ba
 have bn := aT.tlen
 refine AZ (α := Nat) [2, 4, 8, 9, 10, 11, 12, 13, 14, 15] (fun k g w => g 8 = .int .i64 (k : Nat) ∧ k ≤ (Ax f).length ∧ (∀ j, j < k → ¬ ((Ax f).getD j default).kind = 6) ∧ w1.heap.size ≤ w.heap.size ∧ Evo U w [] ∧ Evo w1 w []) (fun k => (Ax f).length - k) 0 ?_ ?_
 refine ⟨σ, δ, (fun j h => by omega), δ, C, o⟩
 rintro k g w5 ⟨a_, hk_k, hno, hzl4, C, o⟩
 have az := C.size
 have R := o.size
 refine Zk 8 a_ (Zs (Zn Bu (AB (AE η (fun a7 => ?_) (fun a7 => ?_)))))
 refine AF (AB (AD (Zs (Zo (AV (k) rfl underlying94 BX η η χ ω ((J _ o).addr (i := k) ω)) ?_))))
 have ag := fun (w' : World) (h : Evo w1 w' []) => (J w' h).atD (k) ω
 refine Zo (AY rfl Mc BX η rfl (ag _ o)) (CO (zs := [_, _, _]) (vs := [_, _, _]) BX η rfl η (fun _ => rfl) η rfl rfl η ?_)
 intro b9 w10 J9 E10 B9 Y9
 have bf := E10.size
 replace C := Z0 C E10
 replace o := Z0 o E10
 refine As (Zs (Zo (AJ rfl η Fb) (Zo (AH rfl A0 η (B9.at.cell 0 η)) (Zn C3 (AE η (fun I => ?_) (fun I => ?_))))))
 refine Zs (Zn A6 (AK Dk ?_))
 exact ⟨Ao (PL (l := Ax f) (k := k) ω I).symm, C⟩
 refine AF (AO (AA (Zo A8 (Zn AN (Zg (k + 1) ?_)))))
 refine ⟨σ, δ, (CS hno I), δ, C, o⟩
 refine AW rfl (Zs (Zn A6 (AK Dk ?_)))
 exact ⟨Ao (Sk (fun j hj => hno j ω)).symm, C⟩
theorem JU {ao : Option Addr} {b off cap : Nat} {l : List Vc.Item} {I : World} (hl : RowE I ao b off cap l) (hz : l.length ≤ 1000000) :
    Calls Tryz.prog 108 #[.slice ao l.length cap] I fun e w' => ∃ v, e = .returned v ∧ Evo I w' [] ∧ OwnE w' I.heap.size 9 v (JL l) := by
 refine AG (n := 22) func108 rfl ntmps108 rfl ?_
 have C : Evo I I [] := Evo.refl _ _
 have U := Ak hl
 have az := hl.bd
 refine Zs (Zn Bs (Zs (Zn Bs (AB (Zs (Zo Ar (Zo (AL rfl η underlying94) (Zn AN (AD ?_)))))))))
 refine AZ (α := Nat) [3, 5, 8, 9, 10, 11, 12, 13, 14, 15, 16, 17, 18, 19, 20] (fun k g w => ∃ J : Value, g 8 = .int .i64 (k : Nat) ∧ g 3 = J ∧ k ≤ l.length ∧ OwnE w I.heap.size 9 J (JL (l.take k)) ∧ I.heap.size ≤ w.heap.size ∧ Evo I w []) (fun k => l.length - k) 0 ?_ ?_
 refine ⟨_, σ, rfl, δ, (OwnE.nil _ _ _), δ, C⟩
 rintro k g w2 ⟨J, hj3, hj4, hk_k, j, hzl1, C⟩
 have ag := C.size
 refine Zk 8 hj3 (Zk 3 hj4 (Zs (Zn Bu (AB (AE η (fun a1 => ?_) (fun a1 => ?_))))))
 refine AF (AB (AD (AB ?_)))
 have bb := Fi (l.take k); have ba : (l.take k).length ≤ k := List.length_take_le _ _
 refine AA (Zo (AV (k) rfl underlying94 BX η η χ ω ((U _ C).addr (i := k) ω)) ?_)
 have R := fun (w' : World) (h : Evo I w' []) => (U w' h).atD (k) ω
 refine Zo (AY rfl Mc BX η rfl (R _ C)) ?_
 have a8 := fun g hg => (j.block (g := g) hg).2
 refine CO (zs := [_, _, _]) (vs := [_, _, _]) BX η rfl η (fun _ => rfl) η rfl rfl η ?_
 intro b8 w9 J8 E9 B8 Y8
 have Q9 := E9.size
 replace C := Z0 C E9
 replace j := j.evo0 E9
 refine As (Zs (Zo (AJ rfl η Fb) (Zo (AH rfl A0 η (B8.at.cell 0 η)) (Zn C3 (AE η (fun o => ?_) (fun o => ?_))))))
 refine AA (Zo (AP (v := J) rfl η) (Zo (AJ rfl η M1) (Zo (AH rfl BF η (B8.at.cell 1 η)) (Ad (u := S _) (y := _) rfl rfl underlying77 BW η j (fun _ => η) η ξ₁ (ω) (ω) ω ?_))))
 intro q_v11 v11 w12 E12 hov11 hlv11
 have a_ := E12.size
 replace C := AI C E12 (fun g hg => .inl (by first | exact (j.block hg).1 | (have := j.block hg; omega)))
 refine Zn (AM (v := v11) rfl η) (AO (AA (Zo A8 (Zn AN (Zg (k + 1) ?_)))))
 refine ⟨_, σ, rfl, δ, (by first | (rw [LG ω o]; exact hov11) | (rw [Ms ω o]; exact hov11)), δ, C⟩
 refine AF (AO (AA (Zo A8 (Zn AN (Zg (k + 1) ?_)))))
 refine ⟨_, σ, rfl, δ, (by first | (rw [LG ω o]; exact j) | (rw [Ms ω o]; exact j)), δ, C⟩
 refine AW rfl (Zs (Zo (AP (v := J) rfl η) (Zn (AM (v := J) rfl η) (AK (BN (v := J) rfl η) ?_))))
 exact ⟨_, rfl, C, by rw [List.take_of_length_le ω] at j; exact j⟩
theorem Ic {ao : Option Addr} {b off cap : Nat} {f : List Vc.Item} {w0 : World} (hf : RowE w0 ao b off cap f) (a6 : Tiny f) :
    Calls Tryz.prog 84 #[.slice ao f.length cap] w0 fun e w' => ∃ v, e = .returned v ∧ Evo w0 w' [] ∧ OwnE w' w0.heap.size 9 v (JL (Ax f)) := by
 refine AG (n := 23) func84 rfl ntmps84 rfl ?_
 have I : Evo w0 w0 [] := Evo.refl _ _
 have ba := Ak hf
 have a7 := hf.bd
 refine Zs (Zn Bs (Zs (Zn Bs (AB (Zs (Zo Ar (Zr [.slice _ _ _] rfl η func87 (FT hf a6.tk) ?_)))))))
 rintro e w1 ⟨bx, rfl, F1, hok1⟩
 refine ⟨_, rfl, ?_⟩
 have Q1 := F1.size
 replace I := Z0 I F1
 replace hf := ba _ I
 refine Zo (Bn rfl η underlying94 hok1) (Zn AN (AD ?_))
 have o : Evo w1 w1 [] := Evo.refl _ _
 obtain ⟨bn, g3, bp, bf, bc, bq⟩ := hok1.rowOf
 subst bf
 have J := Ak bc
 have bw := a6.tlen
 refine AZ (α := Nat) [3, 5, 9, 10, 11, 12, 13, 14, 15, 16, 17, 18, 19, 20, 21] (fun k g w => ∃ U : Value, g 9 = .int .i64 (k : Nat) ∧ g 3 = U ∧ k ≤ (Ax f).length ∧ OwnE w w1.heap.size 9 U (JL ((Ax f).take k)) ∧ w1.heap.size ≤ w.heap.size ∧ Evo w0 w [] ∧ Evo w1 w []) (fun k => (Ax f).length - k) 0 ?_ ?_
 refine ⟨_, σ, rfl, δ, (OwnE.nil _ _ _), δ, I, o⟩
 rintro k g w5 ⟨U, hj6, hj7, hk_k, j, hzl4, I, o⟩
 have a1 := I.size
 have az := o.size
 refine Zk 9 hj6 (Zk 3 hj7 (Zs (Zn Bu (AB (AE η (fun a_ => ?_) (fun a_ => ?_))))))
 refine AF (AB (AD (AB ?_)))
 have bt := Fi ((Ax f).take k); have bs : ((Ax f).take k).length ≤ k := List.length_take_le _ _
 refine AA (Zo (AV (k) rfl underlying94 BX η η χ ω ((J _ o).addr (i := k) ω)) ?_)
 have aT := fun (w' : World) (h : Evo w1 w' []) => (J w' h).atD (k) ω
 refine Zo (AY rfl Mc BX η rfl (aT _ o)) ?_
 have bb := fun g R => (j.block (g := g) R).2
 refine CO (zs := [_, _, _]) (vs := [_, _, _]) BX η rfl η (fun _ => rfl) η rfl rfl η ?_
 intro b11 w12 J11 E12 B11 Y11
 have bl := E12.size
 replace I := Z0 I E12
 replace o := Z0 o E12
 replace j := j.evo0 E12
 refine As (Zs (Zo (AJ rfl η Fb) (Zo (AH rfl A0 η (B11.at.cell 0 η)) (Zn C3 (AE η (fun C => ?_) (fun C => ?_))))))
 refine AA (Zo (AP (v := U) rfl η) (Zo (AJ rfl η M1) (Zo (AH rfl BF η (B11.at.cell 1 η)) (Ad (u := S _) (y := _) rfl rfl underlying77 BW η j (fun _ => η) η ξ₁ (ω) (ω) ω ?_))))
 intro q_v14 v14 w15 E15 hov14 hlv14
 have bm := E15.size
 replace I := AI I E15 (fun g R => .inl (by first | exact (j.block R).1 | (have := j.block R; omega)))
 replace o := AI o E15 (fun g R => .inl (by first | exact (j.block R).1 | (have := j.block R; omega)))
 refine Zn (AM (v := v14) rfl η) (AO (AA (Zo A8 (Zn AN (Zg (k + 1) ?_)))))
 refine ⟨_, σ, rfl, δ, (by first | (rw [LG ω C]; exact hov14) | (rw [Ms ω C]; exact hov14)), δ, I, o⟩
 refine AF (AO (AA (Zo A8 (Zn AN (Zg (k + 1) ?_)))))
 refine ⟨_, σ, rfl, δ, (by first | (rw [LG ω C]; exact j) | (rw [Ms ω C]; exact j)), δ, I, o⟩
 refine AW rfl (Zs (Zo (AP (v := U) rfl η) (Zn (AM (v := U) rfl η) (AK (BN (v := U) rfl η) ?_))))
 exact ⟨_, rfl, I, by rw [List.take_of_length_le ω] at j; exact j.base_le ω⟩
theorem Va {x : Vc.Item} {j : World}  :
    Calls Tryz.prog 60 #[(.agg (Enc.enc x).toArray)] j fun e w' => e = .returned (.bool (decide (x.kind = 6))) ∧ Evo j w' [] := by
 refine AG (n := 6) func60 rfl ntmps60 rfl ?_
 have o : Evo j j [] := Evo.refl _ _
 refine Zs (Ch (vs := [_, _, _]) η η rfl ?_)
 intro b1 w2 J1 E2 B1 Y1
 have C := E2.size
 replace o := Z0 o E2
 refine Zn A6 (Zs (Zo (AJ rfl η Fb) (Zo (AH rfl A0 η (B1.at.cell 0 η)) (Zo C3 (Zn A6 (AK Dk ?_))))))
 exact ⟨rfl, o⟩
theorem WT {ao : Option Addr} {b off cap : Nat} {l : List Vc.Item} {C : World} (hl : RowE C ao b off cap l) :
    Calls Tryz.prog 104 #[.slice ao l.length cap, .func (.func 60) #[] #[]] C fun e w' => ∃ r : Int, e = .returned (.int .i64 r) ∧ Evo C w' [] ∧ (0 ≤ r ↔ Pt l = true) := by
 refine AG (n := 19) func104 rfl ntmps104 rfl ?_
 have o : Evo C C [] := Evo.refl _ _
 have R := Ak hl
 have ag := hl.bd
 refine Zs (Zn Ah (AB (Zs (Zo Ar (Zo (AL rfl η underlying94) (Zn AN (AD (AZ (α := Nat) [4, 5, 8, 9, 10, 11, 12, 13, 14, 15, 16, 17, 18] (fun k g w => g 8 = .int .i64 (k : Nat) ∧ k ≤ l.length ∧ (∀ j, j < k → ¬ (l.getD j default).kind = 6) ∧ C.heap.size ≤ w.heap.size ∧ Evo C w []) (fun k => l.length - k) 0 ?_ ?_))))))))
 refine ⟨σ, δ, (fun j h => by omega), δ, o⟩
 rintro k g w2 ⟨a1, hk_k, hno, hzl1, o⟩
 have U := o.size
 refine Zk 8 a1 (Zs (Zn Bu (AB (AE η (fun aT => ?_) (fun aT => ?_)))))
 refine AF (AB (AD (Zs (Zo AN (Zn Ah (Zs (Zo (AP (v := .func _ _ _) rfl η) (Zo Ar (Zo AN ?_)))))))))
 refine Zo (AV (k) rfl underlying94 BX η η χ ω ((R _ o).addr (i := k) ω)) ?_
 have J := fun (w' : World) (h : Evo C w' []) => (R w' h).atD (k) ω
 refine Zo (AY rfl Mc BX η rfl (J _ o)) (Dc rfl rfl rfl (Cm (vs := [.agg _]) (cs := []) rfl η η func60 rfl ζ) (Va ) ?_)
 rintro e w6 ⟨rfl, F6⟩
 refine ⟨_, rfl, ?_⟩
 have Q6 := F6.size
 replace o := Z0 o F6
 refine As (AE η (fun I => ?_) (fun I => ?_))
 refine Zs (Zo AN (Zn Ah (AK CZ ?_)))
 exact ⟨_, rfl, o, ⟨fun _ => PL (l := l) ω I, fun _ => by omega⟩⟩
 refine AF (AO (AA (Zo A8 (Zn AN (Zg (k + 1) ?_)))))
 refine ⟨σ, δ, (CS hno I), δ, o⟩
 refine AW rfl (Zs (Zn Ah (AK CZ ?_)))
 exact ⟨_, rfl, o, ⟨fun h9 => absurd h9 ω, fun h9 => absurd h9 (by rw [show Pt l = false from Sk (fun j hj => hno j ω)]; decide)⟩⟩
theorem WR {J : Option Addr} {b off cap : Nat} {l : List Vc.Item} {j : World} (I : RowE j J b off cap l) :
    Calls Tryz.prog 62 #[.slice J l.length cap, .func (.func 60) #[] #[]] j fun e w' => e = .returned (.bool (Pt l)) ∧ Evo j w' [] := by
 refine AG (n := 9) func62 rfl ntmps62 rfl ?_
 have C : Evo j j [] := Evo.refl _ _
 have R := Ak I
 have o := I.bd
 refine Zs (Zn A6 (Zs (Zo Ar (Zo (AP (v := .func _ _ _) rfl η) (Zr [.slice _ _ _, .func _ _ _] rfl η func104 (WT I) ?_)))))
 rintro e w1 ⟨r1, rfl, F1, hri1⟩
 refine ⟨_, rfl, ?_⟩
 have U := F1.size
 replace C := Z0 C F1
 refine Zo (BQ rfl η η) (Zn A6 (AK Dk ?_))
 exact ⟨Ao (by have h9 := hri1; cases h8 : Pt l <;> simp_all), C⟩
def Tab (w : World) : Prop := Go.Lib.TabIs Tryz.prog w "internal/strconv.uint64pow10" .u64 Go.Lib.pow10Tab
theorem Tab.evo0 {w w' : World} (h : Tab w) (he : Evo w w' []) : Tab w' := by
  unfold Tab Go.Lib.TabIs World.var? at *
  cases hg : Tryz.prog.globalNamed "internal/strconv.uint64pow10" with
  | none => rw [hg] at h; cases h
  | some q =>
    rw [hg] at h
    have h1 : q < w.heap.size := by
      rcases Nat.lt_or_ge q w.heap.size with h2 | h2
      · exact h2
      · simp only [Option.bind_some] at h; rw [Array.getElem?_eq_none h2] at h; cases h
    simp only [Option.bind_some] at *
    rw [he.same q h1 (by simp)]; exact h
theorem Td {w : World} {n : Int} (h : Tab w) (j : -9223372036854775808 ≤ n ∧ n ≤ 9223372036854775807) : Calls Tryz.prog 152 #[.int .i64 n] w fun e w' => e = .returned (S (RG n)) ∧ Evo w w' [] :=
  (Tryz.strconv_Itoa n j.1 j.2 w h).mono fun e w' ⟨h1, k, os, o⟩ => ⟨by rw [h1, WM]; rfl, by subst o; exact Evo.trans (Evo.drewN w k []) (XQ _ _) (by simp)⟩
theorem VG {m : Nat} : IntKind.u8.wrap (48 - (-((m : Nat) : Int)).tmod 10) = (((UInt8.ofNat (48 + m % 10)).toNat : Nat) : Int) := by
  rw [Int.neg_tmod, Int.sub_neg]; exact OZ rfl
theorem Xr {m : Nat} : (-((m : Nat) : Int)).tdiv 10 = -((m / 10 : Nat) : Int) := by rw [Int.neg_tdiv, Gc]
theorem aS {m : Nat} : 0 ≤ 48 - (-((m : Nat) : Int)).tmod 10 ∧ 48 - (-((m : Nat) : Int)).tmod 10 ≤ 57 := by
  rw [Int.neg_tmod, Int.sub_neg]; have := GA (m : Int) 10 ω; have j := Int.tmod_nonneg 10 (show (0 : Int) ≤ (m : Int) by omega); omega
theorem OW {n : Nat} {o : World} (hn : n ≤ 9223372036854775807) :
    Calls Tryz.prog 124 #[.int .i64 (n : Nat)] o fun e w' => e = .returned (S (EC n [])) ∧ Evo o w' [] := by
 have ag := Ew 18 n [] ω; have C := RD
 refine AG (n := 17) func124 rfl ntmps124 rfl ?_
 have j : Evo o o [] := Evo.refl _ _
 refine Zs (Zn CD (Zs (Zn CD (AD (AZ (α := Nat) [0, 2, 3, 4, 5, 6, 7, 8, 9, 10, 11, 12, 13, 14, 15, 16] (fun m g w => ∃ s1 : AQ, g 0 = .int .i64 (m : Nat) ∧ g 3 = S s1 ∧ (m ≤ 9223372036854775807 ∧ s1.length ≤ 20) ∧ EC n [] = EC m s1 ∧ o.heap.size ≤ w.heap.size ∧ Evo o w []) (fun m => m) n ?_ ?_)))))
 refine ⟨[], rfl, rfl, θ, rfl, δ, j⟩
 rintro m g w2 ⟨s1, hj3, hj4, hm, hdw, hzl1, j⟩
 have J := j.size
 refine Zk 0 hj3 (Zk 3 hj4 ?_)
 have aT := C m s1
 have ao := Gc m
 refine AD (Zs (Zo AN (Zo (LJ rfl η η ω) (Zo (Cp rfl η η (by have := GA (m : Int) 10 ω; omega) (by have := GA (m : Int) 10 ω; omega)) (Zo (LZ rfl underlying3 underlying5 η) (Av (pv := [(0, .int _ _)]) (zs := [_]) (cs := [_]) underlying123 LR η rfl η rfl η ?_))))))
 intro b5 w6 J5 E6 B5 Y5
 have Q6 := E6.size
 replace j := Z0 j E6
 have I : RowE w6 (some ⟨b5, 0, none⟩) b5 0 1 ([UInt8.ofNat (48 + m % 10)] : List UInt8) := Bl ([UInt8.ofNat (48 + m % 10)] : List UInt8) B5 (congrArg (fun z => [Value.int .u8 z]) (OZ (n := m) rfl)) rfl
 refine Zo (HX rfl underlying123 underlying5 underlying9 η (by first | rfl | simp) I) (Zo Au (Zo (A7 rfl η η μ) (Zn CD (Zs (Zo AN (Zo (Qo rfl η η ω (by have R := Gc m; omega) (by have R := Gc m; omega)) (Zn Ah (Zs (Zo AN ?_)))))))))
 refine Zn C3 (AE η (fun U => ?_) (fun U => ?_))
 refine Zs (Zo Au (Zn CD (AK (BN (v := S _) rfl η) ?_)))
 exact ⟨FW (by rw [hdw, Ej s1 ω]; rfl), j⟩
 refine AF (AO (Zg (m / 10) ?_))
 refine ⟨_, (congrArg (Value.int _) ao), rfl, (by have R := congrArg List.length (hdw.trans (Gm s1 ω)); have h7 := C (m / 10) (UInt8.ofNat (48 + m % 10) :: s1); simp at h7 R ag ⊢; omega), (hdw.trans (Gm s1 ω)), δ, j⟩
theorem Na {n : Nat} {j : World} (R : n ≤ 9223372036854775807) :
    Calls Tryz.prog 72 #[.int .i64 (n : Nat)] j fun e w' => e = .returned (S (EC n [])) ∧ Evo j w' [] := by
 refine AG (n := 16) func72 rfl ntmps72 rfl ?_
 have o : Evo j j [] := Evo.refl _ _
 refine Zs (Zn CD (AB (Zs (Zo AN (Zo Bu (Zo Br ?_))))))
 refine Ab rfl Aq rfl (fun I => AN) ?_
 refine Ab rfl Aq rfl (fun I => Bf rfl (Af I) η) ?_
 refine Zn Fm (AE η (fun C => ?_) (fun C => ?_))
 exfalso; omega
 refine AF (Zs (Zo AN (Zo (Ui rfl η η) (BO (i := 14) (v := .int .i64 (n : Nat)) (congrArg (Value.int _) ω) (Zr [.int _ _] rfl η func124 (OW ω) ?_)))))
 rintro e U ⟨rfl, F2⟩
 refine ⟨_, rfl, ?_⟩
 have J := F2.size
 replace o := Z0 o F2
 refine Zn CD (AK (BN (v := S _) rfl η) ?_)
 exact ⟨rfl, o⟩
theorem SH {n : Int} {C : World} (hr : -9223372036854775808 ≤ n ∧ n ≤ 9223372036854775807) :
    Calls Tryz.prog 167 #[.int .i64 n] C fun e w' => e = .returned (S (RG n)) ∧ Evo C w' [] := by
 have ao := Ew 18 (-n).toNat [] ω; have ag := RD
 refine AG (n := 22) func167 rfl ntmps167 rfl ?_
 have j : Evo C C [] := Evo.refl _ _
 refine Zs (Zn CD (AB (Zs (Zo AN (Zn (BQ rfl η η) (AE η (fun R => ?_) (fun R => ?_)))))))
 refine AB ?_
 obtain ⟨N, rfl⟩ : ∃ N : Nat, n = (N : Int) := ⟨n.toNat, by omega⟩
 refine AA (Zo AN (Zr [.int _ _] rfl η func72 (Na ω) ?_))
 rintro e w2 ⟨rfl, F2⟩
 refine ⟨_, rfl, ?_⟩
 have Q2 := F2.size
 replace j := Z0 j F2
 refine Zn CD (AK (BN (v := S _) rfl η) ?_)
 exact ⟨FW (by unfold RG; rw [if_pos ω]; rfl), j⟩
 refine AF (Zs (Zn CD (AB (AD (AZ (α := Nat) [0, 3, 8, 9, 10, 11, 12, 13, 14, 15, 16, 17, 18, 19] (fun m g w => ∃ s1 : AQ, g 0 = .int .i64 (-((m : Nat) : Int)) ∧ g 3 = S s1 ∧ (m ≤ 9223372036854775808 ∧ s1.length ≤ 20) ∧ ((m = 0 → s1 = EC (-n).toNat []) ∧ (m ≠ 0 → EC (-n).toNat [] = EC m s1)) ∧ C.heap.size ≤ w.heap.size ∧ Evo C w []) (fun m => m) (-n).toNat ?_ ?_)))))
 refine ⟨[], (congrArg (Value.int _) ω), rfl, θ, ⟨fun h => absurd h ω, fun _ => rfl⟩, δ, j⟩
 rintro m g w4 ⟨s1, hj5, hj6, hm, hdw, hzl3, j⟩
 have J := j.size
 refine Zk 0 hj5 (Zk 3 hj6 ?_)
 have aT := ag m s1
 have az := Xr (m := m)
 refine AB (Zs (Zo AN (Zn (BD rfl η η) (AE η (fun U => ?_) (fun U => ?_)))))
 refine AF (AD (Zs (Zo AN (Zo (LJ rfl η η ω) (Zo (DZ rfl η η (by have o := aS (m := m); omega) (by have o := aS (m := m); omega)) (Zo (LZ rfl underlying3 underlying5 η) (Av (pv := [(0, .int _ _)]) (zs := [_]) (cs := [_]) underlying123 LR η rfl η rfl η ?_)))))))
 intro b8 w9 J8 E9 B8 Y8
 have Q9 := E9.size
 replace j := Z0 j E9
 have I : RowE w9 (some ⟨b8, 0, none⟩) b8 0 1 ([UInt8.ofNat (48 + m % 10)] : List UInt8) := Bl ([UInt8.ofNat (48 + m % 10)] : List UInt8) B8 (congrArg (fun z => [Value.int .u8 z]) (VG (m := m))) rfl
 refine Zo (HX rfl underlying123 underlying5 underlying9 η (by first | rfl | simp) I) (Zo Au (Zo (A7 rfl η η μ) (Zn CD (AA (Zo AN (Zo (Qo rfl η η ω (by have o := Xr (m := m); omega) (by have o := Xr (m := m); omega)) (Zn Ah (AO (Zg (m / 10) ?_)))))))))
 refine ⟨_, (congrArg (Value.int _) az), rfl, (by have o := congrArg List.length (hdw.2 ω); simp at o ao ⊢; omega), ⟨fun h => by have o := hdw.2 ω; rw [Ej s1 h] at o; exact o.symm, fun h => (hdw.2 ω).trans (Gm s1 h)⟩, δ, j⟩
 refine AW rfl (Zs (Zo Au (Zo (A7 rfl η η μ) (Zn CD (AK (BN (v := S _) rfl η) ?_)))))
 exact ⟨FW (by unfold RG; rw [if_neg ω, ← hdw.1 ω]; rfl), j⟩
theorem JP : DH Tryz.prog 39 = some true := ζ
theorem Ex : CG Tryz.prog 39 0 = some 0 := ζ
theorem JH : CG Tryz.prog 39 1 = some 1 := ζ
theorem Mz : CG Tryz.prog 39 2 = some 2 := ζ
theorem Az : Dl Tryz.prog 39 = some (3, 32, some (.agg #[(.int .i64 0), (.string ⟨#[]⟩), (.int .i64 0)])) := ζ
def JM (x : Vc.Item) : Prop := -9223372036854775808 ≤ x.id ∧ x.id ≤ 9223372036854775807
theorem Su {n : Int} (h : -9223372036854775808 ≤ n ∧ n ≤ 9223372036854775807) : (RG n).length ≤ 21 := by
  unfold RG; split
  · have := Ew 18 n.toNat [] ω; simp at this; omega
  · have := Ew 18 (-n).toNat [] ω; simp at this ⊢; omega
theorem W0 {x y : Vc.Item} (h : ¬ x.kind = y.kind) : decide (x.kind < y.kind) = decide (NX x y) := decide_eq_decide.2 ⟨fun q => .inl q, fun q => q.elim id (fun q => absurd q.1 h)⟩
theorem ZF {x y : Vc.Item} (h : x.kind = y.kind) (j : ¬ x.text = y.text) : decide (blt x.text y.text = true) = decide (NX x y) :=
  decide_eq_decide.2 ⟨fun q => .inr ⟨h, .inl ((JC _ _).1 q)⟩, fun q => q.elim (fun q => by omega) (fun q => q.2.elim (fun q => (JC _ _).2 q) (fun q => absurd q.1 j))⟩
theorem bo {x y : Vc.Item} (h : x.kind = y.kind) (j : x.text = y.text) : decide (x.id < y.id) = decide (NX x y) :=
  decide_eq_decide.2 ⟨fun q => .inr ⟨h, .inr ⟨j, q⟩⟩, fun q => q.elim (fun q => by omega) (fun q => q.2.elim (fun q => absurd (j ▸ q) (GX _)) (fun q => q.2))⟩
theorem Wq {x : Vc.Item} {R : World} (J : Tab R) (ht : x.text.length ≤ 100000) (U : JM x) :
    Calls Tryz.prog 107 #[(.agg (Enc.enc x).toArray)] R fun e w' => e = .returned (S (T1 x)) ∧ Evo R w' [] := by
 have ag := Su U
 refine AG (n := 26) func107 rfl ntmps107 rfl ?_
 have C : Evo R R [] := Evo.refl _ _
 refine Zs (Ch (vs := [_, _, _]) η η rfl ?_)
 intro b1 w2 J1 E2 B1 Y1
 have Q2 := E2.size
 replace C := Z0 C E2
 refine Zn CD (AB (Ba ζ ζ (Zq (fun w' j => AJ rfl η DU) (Zq (fun w' j => AH rfl A0 η ((B1.at.evo0 j).cell 2 η)) (KC rfl rfl rfl (fun w' j => Am rfl (An (v := .int _ _) η (rfl)) func152 rfl ζ) (fun w' j => (Td ((J.evo0 C).evo0 j) U).mono (fun e ao h => ⟨h.1, CY j h.2⟩)) (Zq (fun w' j => A7 rfl η η μ) (Zq (fun w' j => AJ rfl η CI) (Zq (fun w' j => AH rfl BF η ((B1.at.evo0 j).cell 1 η)) (Zq (fun w' j => A7 rfl η η μ) ?_)))))))))
 refine Zq (fun w' j => CD) (EE (fun w3 F4 => ?_))
 have Q3 := F4.size
 replace C := Z0 C F4
 replace B1 := B1.evo0 F4
 refine AB (Zs (Zo (AJ rfl η Bo) (Zn (AH rfl A0 η (B1.at.cell 0 η)) (AD (Zs (Zo C3 (Zn A6 (AE η (fun o => ?_) (fun o => ?_)))))))))
 refine Zs (Zo Au (Zo (A7 rfl η η μ) (Zo (A7 rfl η η μ) (Zn CD (AK (BN (v := S _) rfl η) ?_)))))
 exact ⟨FW (by unfold T1; rw [if_pos o]; rfl), C⟩
 refine Zs (Zo C3 (Zn A6 (AE η (fun I => ?_) (fun I => ?_))))
 refine Zs (Zo Au (Zo (A7 rfl η η μ) (Zo (A7 rfl η η μ) (Zn CD (AK (BN (v := S _) rfl η) ?_)))))
 exact ⟨FW (by unfold T1; rw [if_neg o, if_pos I]; rfl), C⟩
 refine AF (AO (Zs (Zo Au (Zo (A7 rfl η η μ) (Zo (A7 rfl η η μ) (Zn CD (AK (BN (v := S _) rfl η) ?_)))))))
 exact ⟨FW (by unfold T1; rw [if_neg o, if_neg I]; rfl), C⟩
theorem O0 {x : Vc.Item} {J : World} (ht : x.text.length ≤ 100000) (R : JM x) :
    Calls Tryz.prog 132 #[(.agg (Enc.enc x).toArray)] J fun e w' => e = .returned (S (MM x)) ∧ Evo J w' [] := by
 have U := Su R
 refine AG (n := 26) func132 rfl ntmps132 rfl ?_
 have C : Evo J J [] := Evo.refl _ _
 refine Zs (Ch (vs := [_, _, _]) η η rfl ?_)
 intro b1 w2 J1 E2 B1 Y1
 have Q2 := E2.size
 replace C := Z0 C E2
 refine Zn CD (AB (Ba ζ ζ (Zq (fun w' j => AJ rfl η DU) (Zq (fun w' j => AH rfl A0 η ((B1.at.evo0 j).cell 2 η)) (KC rfl rfl rfl (fun w' j => Am rfl (An (v := .int _ _) η (rfl)) func167 rfl ζ) (fun w' j => (SH R).mono (fun e ag h => ⟨h.1, CY j h.2⟩)) (Zq (fun w' j => A7 rfl η η μ) (Zq (fun w' j => AJ rfl η CI) (Zq (fun w' j => AH rfl BF η ((B1.at.evo0 j).cell 1 η)) (Zq (fun w' j => A7 rfl η η μ) ?_)))))))))
 refine Zq (fun w' j => CD) (EE (fun w3 F4 => ?_))
 have Q3 := F4.size
 replace C := Z0 C F4
 replace B1 := B1.evo0 F4
 refine AB (Zs (Zo (AJ rfl η Bo) (Zn (AH rfl A0 η (B1.at.cell 0 η)) (AD (Zs (Zo C3 (Zn A6 (AE η (fun o => ?_) (fun o => ?_)))))))))
 refine Zs (Zo Au (Zo (A7 rfl η η μ) (Zo (A7 rfl η η μ) (Zn CD (AK (BN (v := S _) rfl η) ?_)))))
 exact ⟨FW (by unfold MM; rw [if_pos o]; rfl), C⟩
 refine Zs (Zo C3 (Zn A6 (AE η (fun I => ?_) (fun I => ?_))))
 refine Zs (Zo Au (Zo (A7 rfl η η μ) (Zo (A7 rfl η η μ) (Zn CD (AK (BN (v := S _) rfl η) ?_)))))
 exact ⟨FW (by unfold MM; rw [if_neg o, if_pos I]; rfl), C⟩
 refine AF (AO (Zs (Zo Au (Zo (A7 rfl η η μ) (Zo (A7 rfl η η μ) (Zn CD (AK (BN (v := S _) rfl η) ?_)))))))
 exact ⟨FW (by unfold MM; rw [if_neg o, if_neg I]; rfl), C⟩
theorem RT {x y : Vc.Item} {I : World}  :
    Calls Tryz.prog 127 #[(.agg (Enc.enc x).toArray), (.agg (Enc.enc y).toArray)] I fun e w' => e = .returned (.bool (decide (NX x y))) ∧ Evo I w' [] := by
 refine AG (n := 30) func127 rfl ntmps127 rfl ?_
 have o : Evo I I [] := Evo.refl _ _
 refine Zs (Ch (vs := [_, _, _]) η η rfl ?_)
 intro b1 w2 J1 E2 B1 Y1
 have J := E2.size
 replace o := Z0 o E2
 refine Ch (vs := [_, _, _]) η η rfl ?_
 intro b3 w4 J3 E4 B3 Y3
 have R := E4.size
 replace o := Z0 o E4
 replace B1 := B1.evo0 E4
 refine Zn A6 (AB (Zs (Zo (AJ rfl η Ex) (Zo (AH rfl A0 η (B1.at.cell 0 η)) (Zo (AJ rfl η Ex) (Zo (AH rfl A0 η (B3.at.cell 0 η)) (Zn (BD rfl η η) (AE η (fun j => ?_) (fun j => ?_)))))))))
 refine Zs (Zo (AJ rfl η Ex) (Zo (AH rfl A0 η (B1.at.cell 0 η)) (Zo (AJ rfl η Ex) (Zo (AH rfl A0 η (B3.at.cell 0 η)) (Zo Bu (Zn A6 (AK Dk ?_)))))))
 exact ⟨Ao (W0 j), o⟩
 refine AF (AB (Zs (Zo (AJ rfl η JH) (Zo (AH rfl BF η (B1.at.cell 1 η)) (Zo (AJ rfl η JH) (Zo (AH rfl BF η (B3.at.cell 1 η)) (Zn (CR rfl η η) (AE η (fun C => ?_) (fun C => ?_)))))))))
 refine Zs (Zo (AJ rfl η JH) (Zo (AH rfl BF η (B1.at.cell 1 η)) (Zo (AJ rfl η JH) (Zo (AH rfl BF η (B3.at.cell 1 η)) (Zo (LY rfl η η) (Zn A6 (AK Dk ?_)))))))
 exact ⟨Ao (ZF (Classical.not_not.1 j) C), o⟩
 refine AF (Zs (Zo (AJ rfl η Mz) (Zo (AH rfl A0 η (B1.at.cell 2 η)) (Zo (AJ rfl η Mz) (Zo (AH rfl A0 η (B3.at.cell 2 η)) (Zo Bu (Zn A6 (AK Dk ?_))))))))
 exact ⟨Ao (bo (Classical.not_not.1 j) (Classical.not_not.1 C)), o⟩
theorem C8 {ao : Option Addr} {b off cap : Nat} {l : List Vc.Item} {x : Vc.Item} {w0 : World} (hl : RowE w0 ao b off cap l) (hs : l.length ≤ 1000000000) :
    Calls Tryz.prog 78 #[.slice ao l.length cap, (.agg (Enc.enc x).toArray)] w0 fun e w' => ∃ v, e = .returned v ∧ Evo w0 w' [] ∧ OwnE w' w0.heap.size 39 v (KM l x) := by
 refine AG (n := 33) func78 rfl ntmps78 rfl ?_
 have J : Evo w0 w0 [] := Evo.refl _ _
 have a6 := Ak hl
 have bz := hl.bd
 refine Zs (Ch (vs := [_, _, _]) η η rfl ?_)
 intro b1 w2 J1 E2 B1 Y1
 have Q2 := E2.size
 replace J := Z0 J E2
 replace hl := a6 _ J
 have R := B1.at
 refine Zn Bs (Zs (Zn Ah (AB (AD (AZ (α := Nat) [5, 6, 7, 8, 9, 10, 11, 12, 13, 14, 15, 16, 17, 18, 19, 20] (fun k g w => g 5 = .int .i64 (k : Nat) ∧ Blk w b1 39 [.int .i64 x.kind, S x.text, .int .i64 x.id] ∧ k ≤ l.length ∧ (∀ j, j < k → ¬ NX x (l.getD j default)) ∧ w2.heap.size ≤ w.heap.size ∧ Evo w0 w []) (fun k => l.length - k) 0 ?_ ?_)))))
 refine ⟨rfl, B1, δ, (fun j h => by omega), δ, J⟩
 rintro k g w4 ⟨bF, B1, hk, hno, hzl3, J⟩
 have bw := J.size
 have bW := B1.lt
 have R := B1.at
 refine Zk 5 bF (AB (AB (Ba ζ ζ (Zq (fun w' hC => AN) (Zq (fun w' hC => Ar) (Zq (fun w' hC => AL rfl η underlying34) (Zq (fun w' hC => Cx rfl η η) (Zq (fun w' hC => Br) ?_))))))))
 refine Dm rfl Aq rfl (fun C w' hC => AY rfl JP Az η rfl (R.evo0 hC)) ?_
 refine Dm rfl Aq rfl (fun C w' hC => Ar) ?_
 refine Dm rfl Aq rfl (fun C w' hC => AN) ?_
 refine Dm rfl Aq rfl (fun C w' hC => AV (k) rfl underlying34 Az (Af C) (Af C) χ ω ((a6 _ J).addr (i := k) ω)) ?_
 refine Dm rfl Aq rfl (fun C w' hC => AY rfl JP Az (Af C) rfl (((a6 _ J).atD (k) ω).evo0 hC)) ?_
 refine M7 rfl Aq rfl (fun C w' hC => Am rfl (An (v := .agg _) (Af C) (An (v := .agg _) (Af C) (rfl))) func127 rfl ζ) (fun C w' hC => (RT ).mono (fun e ct h => ⟨h.1, CY hC h.2⟩)) ?_
 refine Dm rfl Aq rfl (fun C w' hC => CQ rfl (Af C)) ?_
 refine Zq (fun w' hC => Bc rfl η (fun hq => IK η (fun h => h) hq) rfl) ?_
 refine EE (fun w7 F8 => ?_)
 have Q7 := F8.size
 replace J := Z0 J F8
 replace B1 := B1.evo0 F8
 replace R := R.evo0 F8
 refine AE η (fun bg => ?_) (fun bg => ?_)
 refine AF (AD (AA (Zo AN (Zo A8 (Zn Ah (AO (Zg (k + 1) ?_)))))))
 refine ⟨σ, B1, δ, (CS hno bg.2), δ, J⟩
 refine AW rfl (AB ?_)
 have bm := Ub l x k ω hno (by by_cases q : k = l.length; exact .inl q; exact .inr (Classical.not_not.1 (fun h => bg ⟨by omega, h⟩)))
 have bx := B1
 have bb := R
 have bf := J
 refine CJ ([]) ζ ?_
 intro w10 F11 o
 have b0 := F11.size
 replace J := Z0 J F11
 replace B1 := B1.evo0 F11
 replace R := R.evo0 F11
 refine Zt (i := 1) η (fun w' hC => Ar) o (Zt (i := 2) η (fun w' hC => AN) o (Zt (i := 3) η (fun w' hC => by exact Hu (0) (k) rfl underlying34 Az η (a6 _ (CY bf hC)) LU (at1 η ω) τ τ List.drop_zero) o ?_))
 have a7 := fun (w' : World) (h : Evo w0 w' []) => (by have h9 := ((a6 w' h).take (k)).drop (0); rw [List.drop_zero] at h9; exact h9)
 have bs := (by have h9 := ((a6 _ J).take (k)).drop (0); rw [List.drop_zero] at h9; exact h9)
 have bp := bs.bd
 refine Zt (i := 5) η (fun w' hC => AY rfl JP Az η rfl (bb.evo0 hC)) o (Zt (i := 8) η (fun w' hC => Ar) o (Zt (i := 9) η (fun w' hC => AN) o (Zt (i := 10) η (fun w' hC => by exact Nk (k) rfl underlying34 Az rfl η (a6 _ (CY bf hC)) (at1 η ω) τ) o ?_)))
 have a8 := fun (w' : World) (h : Evo w0 w' []) => (a6 w' h).drop (k)
 have bt := (a6 _ J).drop (k)
 have bq := bt.bd
 refine Kp (i := 0) (j := 6) ζ ?_ ?_
 refine Hx η ?_
 refine Av (pv := []) (zs := [_, _, _]) (cs := []) underlying34 Az η rfl η rfl η ?_
 intro b14 w15 J14 E15 B14 Y14
 have b2 := E15.size
 replace J := Z0 J E15
 replace o := Z0 o E15
 replace B1 := B1.evo0 E15
 replace R := R.evo0 E15
 have I : OwnE (α := Vc.Item) w15 w7.heap.size 39 (.slice (some ⟨b14, 0, none⟩) 0 0) [] := I1 B14 ω
 refine Ap o ?_
 refine Kp (i := 4) (j := 6) ζ ?_ ?_
 refine Hx η ?_
 refine BS rfl underlying34 Az η I η η (a7 _ J) rfl (θ) (θ) ω ?_
 intro v16 w17 E17 U hlv16
 have b3 := E17.size
 replace J := AI J E17 (fun g C => .inl (by first | exact (I.block C).1 | (have := I.block C; omega)))
 replace o := AI o E17 (fun g C => .inl (by first | exact (I.block C).1 | (have := I.block C; omega)))
 replace B1 := B1.evo E17 (by intro hm; have a1 := Option.mem_toList.1 hm; first | (have := I.block a1; omega) | (simp [Value.ownBlock] at a1; omega))
 replace R := R.evo E17 (by intro hm; have a1 := Option.mem_toList.1 hm; first | (have := I.block a1; omega) | (simp [Value.ownBlock] at a1; omega))
 refine Ap o ?_
 refine Zh (i := 6) ?_
 have bM := fun g C => (U.block (g := g) C).2
 refine Av (pv := [(0, .agg _)]) (zs := [_, _, _]) (cs := [_, _, _]) underlying34 Az η rfl η rfl η ?_
 intro b19 w20 J19 E20 B19 Y19
 have b4 := E20.size
 replace J := Z0 J E20
 replace o := Z0 o E20
 replace U := U.evo0 E20
 have bn := Bl (α := Vc.Item) [⟨_, _, _⟩] B19 (by show [_, _, _] = [_, _, _]; first | (dsimp only; done) | exact rfl | (dsimp only; exact rfl)) rfl
 refine Ap o ?_
 refine Zh (i := 7) ?_
 refine BS rfl underlying34 Az η U η η bn rfl (θ) (θ) ω ?_
 intro v21 w22 E22 hov21 hlv21
 have b5 := E22.size
 replace J := AI J E22 (fun g C => .inl (by first | exact (U.block C).1 | (have := U.block C; omega)))
 replace o := AI o E22 (fun g C => .inl (by first | exact (U.block C).1 | (have := U.block C; omega)))
 refine Ap o ?_
 refine Zh (i := 11) ?_
 refine BS rfl underlying34 Az η hov21 η η (a8 _ J) rfl (θ) (θ) ω ?_
 intro v23 w24 E24 hov23 hlv23
 have b6 := E24.size
 replace J := AI J E24 (fun g C => .inl (by first | exact (hov21.block C).1 | (have := hov21.block C; omega)))
 replace o := AI o E24 (fun g C => .inl (by first | exact (hov21.block C).1 | (have := hov21.block C; omega)))
 refine Ap o ?_
 refine Zt (i := 12) η (fun w' hC => AM (v := v23) rfl η) o ?_
 refine CH ζ ?_
 refine AK (BN (v := v23) rfl η) ?_
 exact ⟨_, rfl, J, by have h9 := hov23; rw [List.nil_append, bm] at h9; exact h9.base_le ω⟩
 refine Hx η ?_
 have bl := fun g C => (I.block (g := g) C).2
 refine Av (pv := [(0, .agg _)]) (zs := [_, _, _]) (cs := [_, _, _]) underlying34 Az η rfl η rfl η ?_
 intro b26 w27 J26 E27 B26 Y26
 have b7 := E27.size
 replace J := Z0 J E27
 replace o := Z0 o E27
 replace I := I.evo0 E27
 have a_ := Bl (α := Vc.Item) [⟨_, _, _⟩] B26 (by show [_, _, _] = [_, _, _]; first | (dsimp only; done) | exact rfl | (dsimp only; exact rfl)) rfl
 refine Ap o ?_
 refine Zh (i := 4) ?_
 refine BS rfl underlying34 Az η I η η (a7 _ J) rfl (θ) (θ) ω ?_
 intro v28 w29 E29 hov28 hlv28
 have b8 := E29.size
 replace J := AI J E29 (fun g C => .inl (by first | exact (I.block C).1 | (have := I.block C; omega)))
 replace o := AI o E29 (fun g C => .inl (by first | exact (I.block C).1 | (have := I.block C; omega)))
 replace a_ := a_.evo E29 (by intro hm; have a1 := Option.mem_toList.1 hm; have := bl _ a1; omega)
 refine Ap o ?_
 refine Zh (i := 7) ?_
 refine BS rfl underlying34 Az η hov28 η η a_ rfl (θ) (θ) ω ?_
 intro v30 w31 E31 hov30 hlv30
 have b9 := E31.size
 replace J := AI J E31 (fun g C => .inl (by first | exact (hov28.block C).1 | (have := hov28.block C; omega)))
 replace o := AI o E31 (fun g C => .inl (by first | exact (hov28.block C).1 | (have := hov28.block C; omega)))
 refine Ap o ?_
 refine Zh (i := 11) ?_
 refine BS rfl underlying34 Az η hov30 η η (a8 _ J) rfl (θ) (θ) ω ?_
 intro v32 w33 E33 hov32 hlv32
 have b_ := E33.size
 replace J := AI J E33 (fun g C => .inl (by first | exact (hov30.block C).1 | (have := hov30.block C; omega)))
 replace o := AI o E33 (fun g C => .inl (by first | exact (hov30.block C).1 | (have := hov30.block C; omega)))
 refine Ap o ?_
 refine Zt (i := 12) η (fun w' hC => AM (v := v32) rfl η) o ?_
 refine CH ζ ?_
 refine AK (BN (v := v32) rfl η) ?_
 exact ⟨_, rfl, J, by have h9 := hov32; rw [List.nil_append, bm] at h9; exact h9.base_le ω⟩
 refine Hx η ?_
 refine Av (pv := [(0, .agg _)]) (zs := [_, _, _]) (cs := [_, _, _]) underlying34 Az η rfl η rfl η ?_
 intro b34 w35 J34 E35 B34 Y34
 have ca := E35.size
 replace J := Z0 J E35
 replace o := Z0 o E35
 have aT := Bl (α := Vc.Item) [⟨_, _, _⟩] B34 (by show [_, _, _] = [_, _, _]; first | (dsimp only; done) | exact rfl | (dsimp only; exact rfl)) rfl
 refine Ap o ?_
 refine Zh (i := 0) ?_
 refine Av (pv := []) (zs := [_, _, _]) (cs := []) underlying34 Az η rfl η rfl η ?_
 intro b36 w37 J36 E37 B36 Y36
 have cb := E37.size
 replace J := Z0 J E37
 replace o := Z0 o E37
 replace aT := aT.evo0 E37
 have az : OwnE (α := Vc.Item) w37 w7.heap.size 39 (.slice (some ⟨b36, 0, none⟩) 0 0) [] := I1 B36 ω
 refine Ap o ?_
 refine Zh (i := 4) ?_
 refine BS rfl underlying34 Az η az η η (a7 _ J) rfl (θ) (θ) ω ?_
 intro v38 w39 E39 hov38 hlv38
 have cc := E39.size
 replace J := AI J E39 (fun g C => .inl (by first | exact (az.block C).1 | (have := az.block C; omega)))
 replace o := AI o E39 (fun g C => .inl (by first | exact (az.block C).1 | (have := az.block C; omega)))
 replace aT := aT.evo E39 (by intro hm; have a1 := Option.mem_toList.1 hm; first | (have := az.block a1; omega) | (simp [Value.ownBlock] at a1; omega))
 refine Ap o ?_
 refine Zh (i := 7) ?_
 refine BS rfl underlying34 Az η hov38 η η aT rfl (θ) (θ) ω ?_
 intro v40 w41 E41 hov40 hlv40
 have cg := E41.size
 replace J := AI J E41 (fun g C => .inl (by first | exact (hov38.block C).1 | (have := hov38.block C; omega)))
 replace o := AI o E41 (fun g C => .inl (by first | exact (hov38.block C).1 | (have := hov38.block C; omega)))
 refine Ap o ?_
 refine Zh (i := 11) ?_
 refine BS rfl underlying34 Az η hov40 η η (a8 _ J) rfl (θ) (θ) ω ?_
 intro v42 w43 E43 hov42 hlv42
 have cn := E43.size
 replace J := AI J E43 (fun g C => .inl (by first | exact (hov40.block C).1 | (have := hov40.block C; omega)))
 replace o := AI o E43 (fun g C => .inl (by first | exact (hov40.block C).1 | (have := hov40.block C; omega)))
 refine Ap o ?_
 refine Zt (i := 12) η (fun w' hC => AM (v := v42) rfl η) o ?_
 refine CH ζ ?_
 refine AK (BN (v := v42) rfl η) ?_
 exact ⟨_, rfl, J, by have h9 := hov42; rw [List.nil_append, bm] at h9; exact h9.base_le ω⟩
theorem RQ {α : Type} [DecidableEq α] [Inhabited α] {l : List α} {x : α} {k : Nat} (hk : k < l.length) (h : l.getD k default = x) : (l.take (k + 1)).count x = (l.take k).count x + 1 := by
  rw [Ai l k hk, List.count_append, h, List.count_singleton_self]
theorem Tw {α : Type} [DecidableEq α] [Inhabited α] {l : List α} {x : α} {k : Nat} (hk : k < l.length) (h : ¬ l.getD k default = x) : (l.take (k + 1)).count x = (l.take k).count x := by
  rw [Ai l k hk, List.count_append, List.count_singleton, if_neg (by simpa using h)]; rfl
theorem bB {α : Type} [DecidableEq α] {l : List α} {x : α} {k : Nat} : (l.take k).count x ≤ k := Nat.le_trans List.count_le_length (List.length_take_le _ _)
def ai {α : Type} [DecidableEq α] (l : List α) (x : α) : Nat := l.count x
theorem TF {α : Type} [DecidableEq α] [Inhabited α] {l : List α} {x : α} {k : Nat} (hk : k < l.length) (h : l.getD k default = x) : ai (l.take (k + 1)) x = ai (l.take k) x + 1 := RQ hk h
theorem Uu {α : Type} [DecidableEq α] [Inhabited α] {l : List α} {x : α} {k : Nat} (hk : k < l.length) (h : ¬ l.getD k default = x) : ai (l.take (k + 1)) x = ai (l.take k) x := Tw hk h
theorem aH {α : Type} [DecidableEq α] {l : List α} {x : α} {k : Nat} : ai (l.take k) x ≤ k := bB
theorem TI {α : Type} [DecidableEq α] (l : List α) (x : α) : ai l x ≤ l.length := List.count_le_length
theorem Vn {α β : Type} [Inhabited α] (f : β → α → β) (z : β) {l : List α} {k : Nat} (hk : k < l.length) : (l.take (k + 1)).foldl f z = f ((l.take k).foldl f z) (l.getD k default) := by
  rw [Ai l k hk, List.foldl_append]; rfl
theorem HG : ∀ (l o : List AQ), (l.foldl Dd o).length ≤ o.length + l.length
  | [], o => by simp
  | x :: l, o => by
    have h1 := HG l (Dd o x)
    have h2 := Ir o x
    rw [List.foldl_cons, List.length_cons]; omega
theorem Sq (a b : List AQ) : (G9 a b).length ≤ a.length + b.length := by
  have := HG (a ++ b) []
  unfold G9; rw [List.length_append] at this; simpa using this
theorem TH (k : Int) (a b : List AQ) : (Z8 k a b).length ≤ a.length + b.length := Nat.le_trans (Kf _ _ _ _) (Sq a b)
section
variable {α : Type} [DecidableEq α] [Inhabited α]
theorem KN {u s t : List α} {f : α → Int → Vc.Item} {k : Nat} (hk : k < u.length) (h : ¬ Ie s t (u.getD k default) = 0) : EW (u.take (k + 1)) s t f = EW (u.take k) s t f ++ [f (u.getD k default) (Ie s t (u.getD k default))] := by
  rw [Ai u k hk, I5, if_pos h]
theorem Mv {u s t : List α} {f : α → Int → Vc.Item} {k : Nat} (hk : k < u.length) (h : ¬ ¬ Ie s t (u.getD k default) = 0) : EW (u.take (k + 1)) s t f = EW (u.take k) s t f := by
  rw [Ai u k hk, I5, if_neg h, List.append_nil]
omit [Inhabited α] in
theorem VO {u s t : List α} {f : α → Int → Vc.Item} {k : Nat} : (EW (u.take k) s t f).length ≤ u.length := Nat.le_trans (Kf _ _ _ _) (List.length_take_le' _ _)
def PA (na : Nat) (x : α) (l : List α) : Nat → Int
  | 0 => 0
  | q + 1 => if l.getD q default = x then (if q < na then PA na x l q - 1 else PA na x l q + 1) else PA na x l q
theorem Qg {j : Nat} {x : α} {l : List α} {q : Nat} (h : l.getD q default = x) (o : q < j) : PA j x l (q + 1) = PA j x l q - 1 := by rw [PA, if_pos h, if_pos o]
theorem Qp {j : Nat} {x : α} {l : List α} {q : Nat} (h : l.getD q default = x) (o : ¬ q < j) : PA j x l (q + 1) = PA j x l q + 1 := by rw [PA, if_pos h, if_neg o]
theorem Nd {j : Nat} {x : α} {l : List α} {q : Nat} (h : ¬ l.getD q default = x) : PA j x l (q + 1) = PA j x l q := by rw [PA, if_neg h]
theorem W5 (na : Nat) (x : α) (l : List α) : ∀ q : Nat, -(q : Int) ≤ PA na x l q ∧ PA na x l q ≤ q
  | 0 => ⟨Int.le_refl _, Int.le_refl _⟩
  | q + 1 => by
    have := W5 na x l q
    rw [PA]; split
    · split <;> omega
    · omega
theorem Yg {a b : List α} {x : α} : ∀ q, q ≤ (a ++ b).length → PA a.length x (a ++ b) q = (((b.take (q - a.length)).count x : Nat) : Int) - (((a.take q).count x : Nat) : Int)
  | 0, _ => by simp [PA]
  | q + 1, hq => by
    have o := Yg (a := a) (b := b) (x := x) q ω
    rw [List.length_append] at hq
    by_cases h1 : q < a.length
    · have C : (a ++ b).getD q default = a.getD q default := by rw [List.getD_eq_getElem?_getD, List.getElem?_append_left h1, ← List.getD_eq_getElem?_getD]
      have I : b.take (q + 1 - a.length) = [] := by rw [show q + 1 - a.length = 0 by omega]; rfl
      have J : b.take (q - a.length) = [] := by rw [show q - a.length = 0 by omega]; rfl
      rw [J] at o
      rw [I]
      by_cases j : a.getD q default = x
      · rw [Qg (C.trans j) h1, o, RQ h1 j]; simp; omega
      · rw [Nd (fun h => j (C.symm.trans h)), o, Tw h1 j]
    · have C : (a ++ b).getD q default = b.getD (q - a.length) default := by rw [List.getD_eq_getElem?_getD, List.getElem?_append_right ω, ← List.getD_eq_getElem?_getD]
      have I : a.take (q + 1) = a := List.take_of_length_le ω
      have J : a.take q = a := List.take_of_length_le ω
      have R : q + 1 - a.length = q - a.length + 1 := by omega
      rw [J] at o
      rw [I, R]
      by_cases j : b.getD (q - a.length) default = x
      · rw [Qp (C.trans j) h1, o, RQ ω j]; omega
      · rw [Nd (fun h => j (C.symm.trans h)), o, Tw ω j]
theorem Z3 (a b : List α) (x : α) : PA a.length x (a ++ b) (a ++ b).length = Ie a b x := by
  rw [Yg _ (Nat.le_refl _), List.take_of_length_le (by rw [List.length_append]; omega), List.take_of_length_le (by rw [List.length_append]; omega)]; rfl
theorem X0 {l : List α} {k : Nat} (hk : k < l.length) (h : ¬ ∀ j, j < l.length → l.getD j default = l.getD k default → k ≤ j) : FJ (l.take (k + 1)) = FJ (l.take k) := by
  rw [Ai l k hk, Ls, if_pos]
  rw [M8]
  simp only [Classical.not_forall] at h
  obtain ⟨j, h1, o, I⟩ := h
  have C : j < (l.take k).length := by rw [List.length_take]; omega
  have e : (l.take k).getD j default = l.getD j default := by rw [List.getD_eq_getElem?_getD, List.getElem?_take_of_lt ω, ← List.getD_eq_getElem?_getD]
  rw [← o, ← e]; exact A5 C
theorem Si {l : List α} {k : Nat} (hk : k < l.length) (h : ∀ j, j < l.length → l.getD j default = l.getD k default → k ≤ j) : FJ (l.take (k + 1)) = FJ (l.take k) ++ [l.getD k default] := by
  rw [Ai l k hk, Ls, if_neg]
  rw [M8]
  intro hm
  obtain ⟨j, o, e⟩ := List.mem_iff_getElem.1 hm
  rw [List.length_take] at o
  have h1 := h j ω (by rw [← e, List.getElem_take, List.getD_eq_getElem?_getD, List.getElem?_eq_getElem ω]; rfl)
  omega
end
theorem S0 {α : Type} [DecidableEq α] (l : List α) : (FJ l).length ≤ l.length := by
  have h : ∀ (l o : List α), (l.foldl (fun acc x => if x ∈ acc then acc else acc ++ [x]) o).length ≤ o.length + l.length := by
    intro l
    induction l with
    | nil => intro o; simp
    | cons x l ih =>
      intro o
      rw [List.foldl_cons, List.length_cons]
      refine Nat.le_trans (ih _) ?_
      split
      · omega
      · rw [List.length_append, List.length_singleton]; omega
  have := h l []
  simpa [FJ] using this
theorem K3 {l a b L : List Vc.Item} {k : Nat} (hk : k < l.length) (C : Bool) (o : C = true ↔ ∀ j, j < l.length → l.getD j default = l.getD k default → k ≤ j) {d : Int} (hd : d = Ie a b (l.getD k default)) (h : C = true ∧ ¬ d = 0) :
    AS L (EW (FJ (l.take (k + 1))) a b Uy) = KM (AS L (EW (FJ (l.take k)) a b Uy)) (Uy (l.getD k default) d) := by
  rw [Si hk (o.1 h.1), I5, if_pos (by rw [← hd]; exact h.2), DT, ← hd]
theorem Kr {l a b L : List Vc.Item} {k : Nat} (hk : k < l.length) (C : Bool) (o : C = true ↔ ∀ j, j < l.length → l.getD j default = l.getD k default → k ≤ j) {d : Int} (hd : d = Ie a b (l.getD k default)) (h : ¬ (C = true ∧ ¬ d = 0)) :
    AS L (EW (FJ (l.take (k + 1))) a b Uy) = AS L (EW (FJ (l.take k)) a b Uy) := by
  by_cases I : C = true
  · have J : d = 0 := Classical.not_not.1 (fun q => h ⟨I, q⟩)
    rw [Si hk (o.1 I), I5, if_neg (by rw [← hd]; exact fun q => q J), List.append_nil]
  · rw [X0 hk (fun q => I (o.2 q))]
theorem cD {f g : List Vc.Item} {k : Nat} (hk : k < ([] ++ Ac f ++ Ac g : List Vc.Item).length) : (([] ++ Ac f ++ Ac g : List Vc.Item).getD k default ∈ f ∨ ([] ++ Ac f ++ Ac g : List Vc.Item).getD k default ∈ g) ∧ DE (([] ++ Ac f ++ Ac g : List Vc.Item).getD k default) = true := by
  have o := A5 hk
  rcases List.mem_append.1 o with h | h
  · have h : ([] ++ Ac f ++ Ac g : List Vc.Item).getD k default ∈ Ac f := h
    have j := List.mem_filter.1 h
    exact ⟨.inl j.1, j.2⟩
  · have j := List.mem_filter.1 h
    exact ⟨.inr j.1, j.2⟩
theorem RB {α : Type} [Inhabited α] {l : List α} {x : α} {i q : Nat} {C : Bool} (h : C = true ↔ ∀ j, j < q → l.getD j default = x → i ≤ j) (R : l.getD q default = x) {o : Bool} (I : o = true ↔ (C = true ∧ i ≤ q)) : o = true ↔ ∀ j, j < q + 1 → l.getD j default = x → i ≤ j := by
  rw [I, h]
  constructor
  · rintro ⟨h1, h2⟩ j J hx2
    rcases Nat.lt_or_ge j q with h3 | h3
    · exact h1 j h3 hx2
    · omega
  · intro h1
    exact ⟨fun j J => h1 j ω, h1 q ω R⟩
theorem TW {α : Type} [Inhabited α] {l : List α} {x : α} {i q : Nat} {o : Bool} (h : o = true ↔ ∀ j, j < q → l.getD j default = x → i ≤ j) (I : ¬ l.getD q default = x) : o = true ↔ ∀ j, j < q + 1 → l.getD j default = x → i ≤ j := by
  rw [h]
  constructor
  · intro h1 j C hx2
    rcases Nat.lt_or_ge j q with h3 | h3
    · exact h1 j h3 hx2
    · have : j = q := by omega
      subst this; exact absurd hx2 I
  · intro h1 j C; exact h1 j ω
theorem KE {x : Vc.Item} {d : Int} (h : DE x = true) : (⟨4, MM x, d⟩ : Vc.Item) = Uy x d := by rw [Vx h]; rfl
theorem Tq {a b : Int} (o : 0 ≤ a) (h1 : a ≤ 10000) (j : 0 ≤ b) (C : b ≤ 101000) : 0 ≤ a * b ∧ a * b ≤ 1010000000 :=
  ⟨Int.mul_nonneg o j, Int.le_trans (Int.mul_le_mul h1 C j υ) υ⟩
theorem Ul {t : AQ} {k : Nat} (h : (((t.getD k 0).toNat : Nat) : Int) = 32 ∧ (((t.getD (k + 1) 0).toNat : Nat) : Int) = 32) : IJ t (k + 1) = IJ t k + 1 := by
  have e : ∀ c : UInt8, ((c.toNat : Nat) : Int) = 32 → c = 32 := fun c j => UInt8.toNat_inj.1 (show c.toNat = 32 by omega)
  rw [HM, if_pos (show VX t k = true from decide_eq_true ⟨e _ h.1, e _ h.2⟩)]
theorem YT {t : AQ} {k : Nat} (h : ¬ ((((t.getD k 0).toNat : Nat) : Int) = 32 ∧ (((t.getD (k + 1) 0).toNat : Nat) : Int) = 32)) : IJ t (k + 1) = IJ t k := by
  rw [HM, if_neg]
  · rfl
  · intro q
    have := of_decide_eq_true q
    exact h ⟨by rw [this.1]; rfl, by rw [this.2]; rfl⟩
theorem SR {t : AQ} {k : Nat} (hk : k < t.length) (h : [32, 32] <+: t.drop k) : IJ t (k + 1) = IJ t k + 1 := by
  rw [HM, if_pos]
  obtain ⟨r, j⟩ := h
  have o : t[k]? = some 32 := by have := congrArg (fun z => z[0]?) j; simpa using this.symm
  have C : t[k + 1]? = some 32 := by have := congrArg (fun z => z[1]?) j; simpa [List.getElem?_drop] using this.symm
  exact decide_eq_true ⟨by rw [List.getD_eq_getElem?_getD, o]; rfl, by rw [List.getD_eq_getElem?_getD, C]; rfl⟩
theorem Uj {t : AQ} {k : Nat} (hk : k < t.length) (h : ¬ [32, 32] <+: t.drop k) : IJ t (k + 1) = IJ t k := by
  rw [HM, if_neg]
  · rfl
  · intro q
    have q := of_decide_eq_true q
    refine h ?_
    have j : k + 1 < t.length := by
      rcases Nat.lt_or_ge (k + 1) t.length with h3 | h3
      · exact h3
      · have := q.2; rw [List.getD_eq_getElem?_getD, List.getElem?_eq_none h3] at this; exact absurd this υ
    have o : t[k] = 32 := by have := q.1; rwa [List.getD_eq_getElem?_getD, List.getElem?_eq_getElem hk] at this
    have C : t[k + 1] = 32 := by have := q.2; rwa [List.getD_eq_getElem?_getD, List.getElem?_eq_getElem j] at this
    rw [List.drop_eq_getElem_cons hk, List.drop_eq_getElem_cons j, o, C]
    exact ⟨_, rfl⟩
theorem Tu {sp : List Spt} {k i : Nat} (hk : k < sp.length) (h : (sp.getD k default).t = (i : Int)) : DJ sp i = true := decide_eq_true ⟨_, A5 hk, h⟩
theorem Vi {sp : List Spt} {i : Nat} (h : ∀ j, j < sp.length → ¬ (sp.getD j default).t = (i : Int)) : DJ sp i = false := decide_eq_false (fun ⟨x, C, e⟩ => by
  obtain ⟨j, o, rfl⟩ := List.mem_iff_getElem.1 C
  exact h j o (by rw [List.getD_eq_getElem?_getD, List.getElem?_eq_getElem o]; exact e))
theorem aF {q : List AQ} {p : AQ → Bool} : decide (((q.length : Nat) : Int) = 0) = (q.isEmpty || (q.take 0).any p) := by
  rw [List.take_zero, List.any_nil, Bool.or_false]; cases q with | nil => rfl | cons a b => exact decide_eq_false (by rw [List.length_cons]; omega)
theorem aB {q : List AQ} {p : AQ → Bool} {j : Nat} {fd : Bool} (C : j < q.length) (h : fd = (q.isEmpty || (q.take j).any p)) : decide (fd = true ∨ p (q.getD j default) = true) = (q.isEmpty || (q.take (j + 1)).any p) := by
  have o : decide (fd = true ∨ p (q.getD j default) = true) = (fd || p (q.getD j default)) := by cases fd <;> cases p (q.getD j default) <;> rfl
  rw [o, Ai q j C, List.any_append, h, Bool.or_assoc, List.any_cons, List.any_nil, Bool.or_false]
theorem Ye {tg : List Vc.Item} {x : TermL} {fd : Bool} {P : Prop} (j : fd = (x.req.isEmpty || x.req.any (fun s => FD s tg))) (h : P ∧ ¬ fd = true) : P ∧ G2 tg x = true := by
  have o : (!fd) = true := by simpa using h.2
  rw [j, Bool.not_or] at o; exact ⟨h.1, o⟩
theorem ak {tg : List Vc.Item} {x : TermL} {fd : Bool} {P : Prop} (j : fd = (x.req.isEmpty || x.req.any (fun s => FD s tg))) (h : ¬ (P ∧ ¬ fd = true)) : ¬ (P ∧ G2 tg x = true) := fun q => by
  have o : (!fd) = true := by rw [j, Bool.not_or]; exact q.2
  exact h ⟨q.1, by simpa using o⟩
theorem IU {U ag : Option Addr} {ba a7 J bb a8 R : Nat} {a b : List Int} {I : World} (ha : RowE I U ba a7 J a) (hb : RowE I ag bb a8 R b) :
    Calls Tryz.prog 83 #[.slice U a.length J, .slice ag b.length R] I fun e w' => e = .returned (.bool (decide (a = b))) ∧ Evo I w' [] := by
 refine AG (n := 26) func83 rfl ntmps83 rfl ?_
 have j : Evo I I [] := Evo.refl _ _
 have aT := Ak ha
 have a_ := ha.bd
 have a1 := Ak hb
 have bc := hb.bd
 refine Zs (Zn A6 (AB (Zs (Zo Ar (Zo (AL rfl η underlying22) (Zo Ar (Zo (AL rfl η underlying22) (Zn (BD rfl η η) (AE η (fun bf => ?_) (fun bf => ?_))))))))))
 refine Zs (Zn A6 (AK Dk ?_))
 exact ⟨by rw [decide_eq_false (fun h => by subst h; omega)], j⟩
 refine AF (AB (Zs (Zo Ar (Zo (AL rfl η underlying22) (Zn AN (AD (AZ (α := Nat) [4, 5, 13, 14, 15, 16, 17, 18, 19, 20, 21, 22, 23, 24, 25] (fun k g w => g 13 = .int .i64 (k : Nat) ∧ k ≤ a.length ∧ a.take k = b.take k ∧ I.heap.size ≤ w.heap.size ∧ Evo I w []) (fun k => a.length - k) 0 ?_ ?_)))))))
 refine ⟨σ, δ, (by simp), δ, j⟩
 rintro k g w3 ⟨bl, hk_k, hpre, hzl2, j⟩
 have a6 := j.size
 refine Zk 13 bl (Zs (Zn Bu (AB (AE η (fun bg => ?_) (fun bg => ?_)))))
 refine AF (AB (AD (Zs (Zo AN (Zn Ah (AB (Ba ζ ζ (Zq (fun w' C => Ar) (Zq (fun w' C => AN) ?_)))))))))
 refine Zq (fun w' C => AV (k) rfl underlying22 Cf η η χ ω ((aT _ j).addr (i := k) ω)) ?_
 have ao := fun (w' : World) (h : Evo I w' []) => (aT w' h).atD (k) ω
 refine Zq (fun w' C => AH rfl A0 η (((ao _ j).evo0 C).cell 0 η)) (Zq (fun w' C => Ar) (Zq (fun w' C => AN) (Zq (fun w' C => AV (k) rfl underlying22 Cf η η χ ω ((a1 _ j).addr (i := k) ω)) ?_)))
 have az := fun (w' : World) (h : Evo I w' []) => (a1 w' h).atD (k) ω
 refine Zq (fun w' C => AH rfl A0 η (((az _ j).evo0 C).cell 0 η)) (Zq (fun w' C => BD rfl η η) (EE (fun w8 F9 => ?_)))
 have Q8 := F9.size
 replace j := Z0 j F9
 refine AE η (fun o => ?_) (fun o => ?_)
 refine Zs (Zn A6 (AK Dk ?_))
 exact ⟨by rw [decide_eq_false (fun h => by subst h; exact o rfl)], j⟩
 refine AF (AO (AA (Zo A8 (Zn AN (Zg (k + 1) ?_)))))
 refine ⟨σ, δ, (Oi hpre ω ω (Classical.not_not.1 o)), δ, j⟩
 refine AW rfl (Zs (Zn A6 (AK Dk ?_)))
 exact ⟨by rw [decide_eq_true (by rw [List.take_of_length_le ω, List.take_of_length_le ω] at hpre; exact hpre)], j⟩
theorem K5 {ao : Option Addr} {b off cap : Nat} {sp : List Spt} {i : Nat} {I : World} (az : RowE I ao b off cap sp) :
    Calls Tryz.prog 138 #[.slice ao sp.length cap, .int .i64 (i : Nat)] I fun e w' => e = .returned (.bool (DJ sp i)) ∧ Evo I w' [] := by
 refine AG (n := 18) func138 rfl ntmps138 rfl ?_
 have o : Evo I I [] := Evo.refl _ _
 have C := Ak az
 have U := az.bd
 refine Zs (Zn A6 (AB (Zs (Zo Ar (Zo (AL rfl η underlying158) (Zn AN (AD (AZ (α := Nat) [4, 6, 9, 10, 11, 12, 13, 14, 15, 16, 17] (fun k g w => g 9 = .int .i64 (k : Nat) ∧ k ≤ sp.length ∧ (∀ j, j < k → ¬ (sp.getD j default).t = (i : Int)) ∧ I.heap.size ≤ w.heap.size ∧ Evo I w []) (fun k => sp.length - k) 0 ?_ ?_))))))))
 refine ⟨σ, δ, (fun j h => by omega), δ, o⟩
 rintro k g w2 ⟨a1, hk_k, hno, hzl1, o⟩
 have ag := o.size
 refine Zk 9 a1 (Zs (Zn Bu (AB (AE η (fun aT => ?_) (fun aT => ?_)))))
 refine AF (AB (AD (Zs (Zo (AV (k) rfl underlying158 Er η η χ ω ((C _ o).addr (i := k) ω)) ?_))))
 have R := fun (w' : World) (h : Evo I w' []) => (C w' h).atD (k) ω
 refine Zo (AY rfl Ta Er η rfl (R _ o)) (CO (zs := [_, _, _]) (vs := [_, _, _]) Er η rfl η (fun _ => rfl) η rfl rfl η ?_)
 intro b6 w7 J6 E7 B6 Y6
 have Q7 := E7.size
 replace o := Z0 o E7
 refine As (Zs (Zo (AJ rfl η IV) (Zo (AH rfl A0 η (B6.at.cell 0 η)) (Zo AN (Zn C3 (AE η (fun J => ?_) (fun J => ?_)))))))
 refine Zs (Zn A6 (AK Dk ?_))
 exact ⟨Ao (Tu ω J).symm, o⟩
 refine AF (AO (AA (Zo A8 (Zn AN (Zg (k + 1) ?_)))))
 refine ⟨σ, δ, (CS hno J), δ, o⟩
 refine AW rfl (Zs (Zn A6 (AK Dk ?_)))
 exact ⟨Ao (Vi (fun j hj => hno j ω)).symm, o⟩
set_option maxHeartbeats 1000000 in
theorem ND {bx : Option Addr} {cb b8 a_ : Nat} {ts : List TermL} {ao : Option Addr} {b off cap : Nat} {c : List Clas} {bw : Option Addr} {bl b7 a8 : Nat} {l : List Vc.Item} {bt : Option Addr} {bg b6 a7 : Nat} {tg : List Vc.Item} {U : World} (ht : RowR U bx cb b8 a_ ts) (hc : RowR U ao b off cap c) (hl : RowE U bw bl b7 a8 l) (hq : ∀ x ∈ l, x.text.length ≤ 140737488355328) (c4 : l.length ≤ 4398046510976) (dS : ts.length ≤ 1954687338760) (a6 : RowE U bt bg b6 a7 tg) (cV : ∀ x ∈ tg, x.text.length ≤ 140737488355328) (c3 : tg.length ≤ 4398046510976) (cH : ∀ x ∈ ts, IH x) :
    Calls Tryz.prog 88 #[.slice bx ts.length a_, .slice ao c.length cap, .slice bw l.length a8, .slice bt tg.length a7] U fun e w' => ∃ v, e = .returned v ∧ Evo U w' [] ∧ OwnE w' U.heap.size 3 v (Fp (BR tg ts (Aa ts.length (AR l (BG c ts) 0)))) := by
 refine AG (n := 58) func88 rfl ntmps88 rfl ?_
 have I : Evo U U [] := Evo.refl _ _
 have a1 := ht.keep
 have ca := ht.bd
 have bY := hc.keep
 have b9 := hc.bd
 have b2 := Ak hl
 have b_ := hl.bd
 have az := Ak a6
 have bQ := a6.bd
 refine Zs (Zn Bs (Zs (Zn Bs (Zs (Zo Ar (Zo Ar (Zo Ar (Zr [.slice _ _ _, .slice _ _ _, .slice _ _ _] rfl η func136 (KP ht hc hl hq c4) ?_))))))))
 rintro e w1 ⟨db, rfl, F1, hoS1⟩
 refine ⟨_, rfl, ?_⟩
 have Q1 := F1.size
 replace I := Z0 I F1
 replace ht := a1.now I
 replace hc := bY.now I
 replace hl := b2 _ I
 replace a6 := az _ I
 refine Zn (AM (v := db) rfl η) (AB (Zs (Zo Ar (Zo (AL rfl η underlying25) (Zn AN (AD ?_))))))
 have C : Evo w1 w1 [] := Evo.refl _ _
 obtain ⟨dn, g3, du, c0, aT, dO⟩ := hoS1.rowOf
 subst c0
 have bf := Ak aT
 refine AZ (α := Nat) [9, 11, 12, 13, 15, 22, 23, 24, 25, 26, 27, 28, 29, 30, 31, 32, 33, 34, 35, 36, 37, 38, 39, 40, 41, 42, 43, 44, 45, 46, 47, 48, 49, 50, 51, 52, 53, 54, 55, 56] (fun k g w => ∃ vo : Value, g 22 = .int .i64 (k : Nat) ∧ g 9 = vo ∧ k ≤ ts.length ∧ OwnE w w1.heap.size 3 vo (Fp (JQ tg ts (AR l (BG c ts) 0) k)) ∧ w1.heap.size ≤ w.heap.size ∧ Evo U w [] ∧ Evo w1 w []) (fun k => ts.length - k) 0 ?_ ?_
 refine ⟨_, σ, rfl, δ, (OwnE.nil _ _ _), δ, I, C⟩
 rintro k g w5 ⟨vo, hj6, hj7, hk_k, o, hzl4, I, C⟩
 have b4 := I.size
 have bs := C.size
 refine Zk 22 hj6 (Zk 9 hj7 (Zs (Zn Bu (AB (AE η (fun cr => ?_) (fun cr => ?_))))))
 refine AF (AB (AD (AB ?_)))
 have cK := HK tg ts (Aa k (AR l (BG c ts) 0)); have dQ := Gd (JQ tg ts (AR l (BG c ts) 0) k); have ct := DX k (AR l (BG c ts) 0); have cI := JI cH k; have dR : (JQ tg ts (AR l (BG c ts) 0) k).length ≤ k := Nat.le_trans cK ct; have b3 := fun g J => (o.block (g := g) J).2
 refine AA (Zo AN (Zo (AV (k) rfl underlying25 Ci η η χ ω ((a1.now I).addr (i := k) ω)) ?_))
 obtain ⟨df, dr, da, cn, de, dq, c_, cg, dd, dp, c9, cc, hX⟩ := EP a1 (k) ω
 have ba := fun (w' : World) (h : Evo U w' []) => (hX w' h).1
 have bc := fun (w' : World) (h : Evo U w' []) => (hX w' h).2.1
 have ag := fun (w' : World) (h : Evo U w' []) => (hX w' h).2.2.1
 have bb := fun (w' : World) (h : Evo U w' []) => (hX w' h).2.2.2
 clear hX
 have bM := (bc _ I).bd
 have bL := (ag _ I).bd
 have bF := (bb _ I).bd
 refine Zo (AY rfl Kl Ci η rfl (ba _ I)) ?_
 have cQ := fun g J => (o.block (g := g) J).2
 refine DI (zs := [_, _, _]) Ci η rfl ?_
 intro b11 w12 J11 E12 B11 Y11
 have dh := E12.size
 replace I := Z0 I E12
 replace C := Z0 C E12
 replace o := o.evo0 E12
 replace dw := ba _ I
 refine Zo Ah (BB (v := .agg _) (vs := [_, _, _]) (cs' := [_, _, _]) η η B11 Ci η rfl η rfl η ?_)
 intro w13 E13 V13 hb_new
 have di := E13.size
 replace I := Z1 I E13 ε
 replace C := Z1 C E13 ε
 replace ht := a1.now I
 replace hc := bY.now I
 replace hl := b2 _ I
 replace a6 := az _ I
 replace aT := bf _ C
 replace o := o.evo E13 (by intro g J hm; simp at hm; subst hm; have h7 := b3 g J; omega)
 replace dz := bc _ I
 replace dy := ag _ I
 replace dx := bb _ I
 replace B11 := hb_new
 clear hb_new
 refine As (Zs (Zo (AJ rfl η Ea) (Zo (AH rfl EU η (B11.at.cell 1 η)) (Zo (AL rfl η underlying77) (Zo C3 (Zn A6 (AB (Zs (Zo (AJ rfl η Ea) ?_)))))))))
 refine Zo (AH rfl EU η (B11.at.cell 1 η)) (Zo (AL rfl η underlying77) (Zn AN (AD (AZ (α := Nat) [13, 15, 34, 35, 36, 37, 38, 39, 40, 41, 42, 43, 44] (fun j g w => ∃ fd : Bool, g 34 = .int .i64 (j : Nat) ∧ g 13 = .bool fd ∧ j ≤ (ts.getD k default).req.length ∧ OwnE w w1.heap.size 3 vo (Fp (JQ tg ts (AR l (BG c ts) 0) k)) ∧ fd = ((ts.getD k default).req.isEmpty || ((ts.getD k default).req.take j).any (fun s => FD s tg)) ∧ w13.heap.size ≤ w.heap.size ∧ Evo U w [] ∧ Evo w1 w []) (fun j => (ts.getD k default).req.length - j) 0 ?_ ?_))))
 refine ⟨_, σ, rfl, δ, o, aF, δ, I, C⟩
 rintro j g dT ⟨fd, hj16, hj17, hk_j, o, hfd, hzl14, I, C⟩
 have bq := I.size
 have bp := C.size
 replace aT := bf _ C
 refine Zk 34 hj16 (Zk 13 hj17 (Zs (Zn Bu (AB (AE η (fun b0 => ?_) (fun b0 => ?_))))))
 refine AF (AB (AD (Zs (Zo (AV (j) rfl underlying77 BW η η χ ω ((ag _ I).addr (i := j) ω)) ?_))))
 have bn := fun (w' : World) (h : Evo U w' []) => (ag w' h).atD (j) ω
 refine Zo (AH rfl BF η ((bn _ I).cell 0 η)) (Zn CD (AA (Zo (Bt rfl η) (Zo Br ?_))))
 refine Ab rfl Ay rfl (fun J => Au) ?_
 refine Ab rfl Ay rfl (fun J => Ar) ?_
 refine Bb rfl Ay rfl (fun J => Am rfl (An (v := S _) (Af J) (An (v := .slice _ _ _) (Af J) (rfl))) func137 rfl ζ) (fun J => (Nr (az _ I) cV c3 (cI.2.2.1 _ (A5 ω))).mono (fun e w' h => ⟨h.1, h.2⟩)) (fun dU F21 => ?_)
 have dj := F21.size
 replace I := Z0 I F21
 replace C := Z0 C F21
 replace o := o.evo0 F21
 refine Zo (D7 rfl η rfl (fun hq => IK η (fun h => h) hq)) ?_
 refine Zn A6 (AO (AA (Zo A8 (Zn AN (Zg (j + 1) ?_)))))
 refine ⟨_, σ, rfl, δ, o, (aB ω hfd), δ, I, C⟩
 refine AW rfl (AB ?_)
 rw [List.take_of_length_le (l := (ts.getD k default).req) ω] at hfd
 refine AA (Zo Ar (Zo AN (Zr [.slice _ _ _, .int _ _] rfl η func138 (K5 aT (i := k)) ?_)))
 rintro e dV ⟨rfl, F22⟩
 refine ⟨_, rfl, ?_⟩
 have dk := F22.size
 replace I := Z0 I F22
 replace C := Z0 C F22
 replace o := o.evo0 F22
 refine Zo (Bt rfl η) ?_
 refine Ab rfl Aq rfl (fun J => Bt rfl η) ?_
 refine Ab rfl Aq rfl (fun J => CQ rfl (Af J)) ?_
 refine Zn Fm (AE η (fun R => ?_) (fun R => ?_))
 refine AA (Zo (AP (v := vo) rfl η) (Zo AN (Ad (u := .int _ _) (y := _) rfl rfl underlying22 Cf η o (fun _ => η) η ξ₁ (τ) (τ) ω ?_)))
 intro q_v24 v24 w25 E25 hov24 hlv24
 have dm := E25.size
 replace I := AI I E25 (fun g J => .inl (by first | exact (o.block J).1 | (have := o.block J; omega)))
 replace C := AI C E25 (fun g J => .inl (by first | exact (o.block J).1 | (have := o.block J; omega)))
 refine Zn (AM (v := v24) rfl η) (AO (AA (Zo A8 (Zn AN (Zg (k + 1) ?_)))))
 refine ⟨_, σ, rfl, δ, (by first | (rw [Pw tg ts (Ye hfd R), Kk]; exact hov24) | (rw [R7 tg ts (ak hfd R)]; exact hov24)), δ, I, C⟩
 refine AF (AO (AA (Zo A8 (Zn AN (Zg (k + 1) ?_)))))
 refine ⟨_, σ, rfl, δ, (by first | (rw [Pw tg ts (Ye hfd R), Kk]; exact o) | (rw [R7 tg ts (ak hfd R)]; exact o)), δ, I, C⟩
 refine AW rfl (Zs (Zo (AP (v := vo) rfl η) (Zn (AM (v := vo) rfl η) (AK (BN (v := vo) rfl η) ?_))))
 have e9 : k = ts.length := by omega
 rw [e9] at o
 exact ⟨_, rfl, I, o.base_le ω⟩
def WE (b : Bool) (tg : List Vc.Item) (o fs : List AQ) (j : Nat) : List AQ := if b = true then Gk tg o (fs.take j) else o
theorem Xe {b : Bool} {tg : List Vc.Item} {o fs : List AQ} : WE b tg o fs 0 = o := by unfold WE; split <;> rfl
theorem Um {b : Bool} {tg : List Vc.Item} {o fs : List AQ} {j : Nat} (C : j < fs.length) (h : b = true ∧ FD (fs.getD j default) tg = true) : WE b tg o fs (j + 1) = Dd (WE b tg o fs j) (fs.getD j default) := by
  unfold WE; rw [if_pos h.1, if_pos h.1, JK tg C, if_pos h.2]
theorem Ya {b : Bool} {tg : List Vc.Item} {o fs : List AQ} {j : Nat} (I : j < fs.length) (h : ¬ (b = true ∧ FD (fs.getD j default) tg = true)) : WE b tg o fs (j + 1) = WE b tg o fs j := by
  unfold WE
  by_cases C : b = true
  · rw [if_pos C, if_pos C, JK tg I, if_neg (fun q => h ⟨C, q⟩)]
  · rw [if_neg C, if_neg C]
theorem ZS {tg : List Vc.Item} {ts : List TermL} {sp : List Spt} {k j : Nat} (C : ¬ j < (ts.getD k default).forb.length) : Fq tg ts sp (k + 1) = WE (DJ sp k) tg (Fq tg ts sp k) (ts.getD k default).forb j := by
  unfold WE
  by_cases o : DJ sp k = true
  · rw [if_pos o, Tm tg ts o, List.take_of_length_le ω]
  · rw [if_neg o, WV tg ts (by simpa using o)]
theorem aC {b : Bool} {tg : List Vc.Item} {o fs : List AQ} {j : Nat} : (WE b tg o fs j).length ≤ o.length + fs.length := by
  unfold WE
  split
  · have h := Nt tg (fs.take j) o; have C := List.length_take_le' j fs; omega
  · omega
set_option maxHeartbeats 1000000 in
theorem Qd {bF : Option Addr} {cH cc bc : Nat} {ts : List TermL} {ao : Option Addr} {b off cap : Nat} {c : List Clas} {bz : Option Addr} {bl cb bb : Nat} {l : List Vc.Item} {bx : Option Addr} {bg ca ba : Nat} {tg : List Vc.Item} {U : World} (ht : RowR U bF cH cc bc ts) (hc : RowR U ao b off cap c) (hl : RowE U bz bl cb bb l) (hq : ∀ x ∈ l, x.text.length ≤ 140737488355328) (da : l.length ≤ 4398046510976) (d_ : ts.length ≤ 1048576) (a_ : RowE U bx bg ca ba tg) (c3 : ∀ x ∈ tg, x.text.length ≤ 140737488355328) (c_ : tg.length ≤ 4398046510976) (b3 : ∀ x ∈ ts, IH x) :
    Calls Tryz.prog 89 #[.slice bF ts.length bc, .slice ao c.length cap, .slice bz l.length bb, .slice bx tg.length ba] U fun e w' => ∃ v, e = .returned v ∧ Evo U w' [] ∧ OwnE w' U.heap.size 9 v (BZ tg ts [] (Aa ts.length (AR l (BG c ts) 0))) := by
 refine AG (n := 47) func89 rfl ntmps89 rfl ?_
 have I : Evo U U [] := Evo.refl _ _
 have a8 := ht.keep
 have ct := ht.bd
 have b1 := hc.keep
 have cn := hc.bd
 have b6 := Ak hl
 have cr := hl.bd
 have a1 := Ak a_
 have bY := a_.bd
 refine Zs (Zn Bs (Zs (Zn Bs (Zs (Zo Ar (Zo Ar (Zo Ar (Zr [.slice _ _ _, .slice _ _ _, .slice _ _ _] rfl η func136 (KP ht hc hl hq da) ?_))))))))
 rintro e w1 ⟨de, rfl, F1, hoS1⟩
 refine ⟨_, rfl, ?_⟩
 have Q1 := F1.size
 replace I := Z0 I F1
 replace ht := a8.now I
 replace hc := b1.now I
 replace hl := b6 _ I
 replace a_ := a1 _ I
 refine Zn (AM (v := de) rfl η) (AB (Zs (Zo Ar (Zo (AL rfl η underlying25) (Zn AN (AD ?_))))))
 have C : Evo w1 w1 [] := Evo.refl _ _
 obtain ⟨du, g3, dO, c4, a7, dW⟩ := hoS1.rowOf
 subst c4
 have bp := Ak a7
 refine AZ (α := Nat) [9, 11, 12, 14, 21, 22, 23, 24, 25, 26, 27, 28, 29, 30, 31, 32, 33, 34, 35, 36, 37, 38, 39, 40, 41, 42, 43, 44, 45] (fun k g w => ∃ vo : Value, g 21 = .int .i64 (k : Nat) ∧ g 9 = vo ∧ k ≤ ts.length ∧ OwnE w w1.heap.size 9 vo (Fq tg ts (AR l (BG c ts) 0) k) ∧ w1.heap.size ≤ w.heap.size ∧ Evo U w [] ∧ Evo w1 w []) (fun k => ts.length - k) 0 ?_ ?_
 refine ⟨_, σ, rfl, δ, (OwnE.nil _ _ _), δ, I, C⟩
 rintro k g w5 ⟨vo, hj6, hj7, hk_k, J, hzl4, I, C⟩
 have b8 := I.size
 have bw := C.size
 refine Zk 21 hj6 (Zk 9 hj7 (Zs (Zn Bu (AB (AE η (fun cR => ?_) (fun cR => ?_))))))
 refine AF (AB (AD (AB ?_)))
 have b4 := JI b3 k; have dY := b4.2.1; have c9 := H9 tg ts (B := 1048576) (fun k => (JI b3 k).2.1) (Aa k (AR l (BG c ts) 0)) []; have dV := DX k (AR l (BG c ts) 0); have dZ : (Fq tg ts (AR l (BG c ts) 0) k).length ≤ 1099511627776 := Nat.le_trans c9 (by rw [List.length_nil, Nat.zero_add]; exact Nat.le_trans (Nat.mul_le_mul_right _ (show (Aa k (AR l (BG c ts) 0)).length ≤ 1048576 by omega)) υ)
 have b7 := fun g hg => (J.block (g := g) hg).2
 refine AA (Zo AN (Zo (AV (k) rfl underlying25 Ci η η χ ω ((a8.now I).addr (i := k) ω)) ?_))
 obtain ⟨dk, dx, dd, cQ, dj, dw, dc, cK, di, dv, db, cI, hX⟩ := EP a8 (k) ω
 have bf := fun (w' : World) (h : Evo U w' []) => (hX w' h).1
 have bn := fun (w' : World) (h : Evo U w' []) => (hX w' h).2.1
 have bm := fun (w' : World) (h : Evo U w' []) => (hX w' h).2.2.1
 have ag := fun (w' : World) (h : Evo U w' []) => (hX w' h).2.2.2
 clear hX
 have bW := (bn _ I).bd
 have bQ := (bm _ I).bd
 have bM := (ag _ I).bd
 refine Zo (AY rfl Kl Ci η rfl (bf _ I)) ?_
 have cV := fun g hg => (J.block (g := g) hg).2
 refine DI (zs := [_, _, _]) Ci η rfl ?_
 intro b11 w12 J11 E12 B11 Y11
 have dp := E12.size
 replace I := Z0 I E12
 replace C := Z0 C E12
 replace J := J.evo0 E12
 replace dR := bf _ I
 refine Zo Ah (BB (v := .agg _) (vs := [_, _, _]) (cs' := [_, _, _]) η η B11 Ci η rfl η rfl η ?_)
 intro w13 E13 V13 hb_new
 have dq := E13.size
 replace I := Z1 I E13 ε
 replace C := Z1 C E13 ε
 replace ht := a8.now I
 replace hc := b1.now I
 replace hl := b6 _ I
 replace a_ := a1 _ I
 replace a7 := bp _ C
 replace J := J.evo E13 (by intro g hg hm; simp at hm; subst hm; have h7 := b7 g hg; omega)
 replace dU := bn _ I
 replace dT := bm _ I
 replace dS := ag _ I
 replace B11 := hb_new
 clear hb_new
 refine As (Zs (Zo (AJ rfl η Gx) (Zo (AH rfl EU η (B11.at.cell 2 η)) (Zo (AL rfl η underlying77) (Zn AN (AD (AZ (α := Nat) [9, 14, 29, 30, 31, 32, 33, 34, 35, 36, 37, 38, 39, 40, 41, 42, 43, 44] (fun j g w => ∃ vo : Value, g 29 = .int .i64 (j : Nat) ∧ g 9 = vo ∧ j ≤ (ts.getD k default).forb.length ∧ OwnE w w1.heap.size 9 vo (WE (DJ (AR l (BG c ts) 0) k) tg (Fq tg ts (AR l (BG c ts) 0) k) (ts.getD k default).forb j) ∧ w13.heap.size ≤ w.heap.size ∧ Evo U w [] ∧ Evo w1 w []) (fun j => (ts.getD k default).forb.length - j) 0 ?_ ?_)))))))
 refine ⟨_, σ, rfl, δ, (by rw [Xe]; exact J), δ, I, C⟩
 rintro j g ea ⟨vo, hj16, hj17, hk_j, J, hzl14, I, C⟩
 have bt := I.size
 have bs := C.size
 replace a7 := bp _ C
 refine Zk 29 hj16 (Zk 9 hj17 (Zs (Zn Bu (AB (AE η (fun b2 => ?_) (fun b2 => ?_))))))
 refine AF (AB (AD (AB ?_)))
 have dX := aC (b := DJ (AR l (BG c ts) 0) k) (tg := tg) (o := (Fq tg ts (AR l (BG c ts) 0) k)) (fs := (ts.getD k default).forb) (j := j)
 refine AA (Zo (AV (j) rfl underlying77 BW η η χ ω ((ag _ I).addr (i := j) ω)) ?_)
 have bq := fun (w' : World) (h : Evo U w' []) => (ag w' h).atD (j) ω
 refine Zo (AH rfl BF η ((bq _ I).cell 0 η)) (Zn CD (Zs (Zo Ar (Zo AN (Zr [.slice _ _ _, .int _ _] rfl η func138 (K5 a7 (i := k)) ?_)))))
 rintro e eb ⟨rfl, F20⟩
 refine ⟨_, rfl, ?_⟩
 have dr := F20.size
 replace I := Z0 I F20
 replace C := Z0 C F20
 replace J := J.evo0 F20
 refine Zo (Bt rfl η) ?_
 refine Ab rfl Aq rfl (fun hg => Au) ?_
 refine Ab rfl Aq rfl (fun hg => Ar) ?_
 refine Bb rfl Aq rfl (fun hg => Am rfl (An (v := S _) (Af hg) (An (v := .slice _ _ _) (Af hg) (rfl))) func137 rfl ζ) (fun hg => (Nr (a1 _ I) c3 c_ (b4.2.2.2 _ (A5 ω))).mono (fun e w' h => ⟨h.1, h.2⟩)) (fun ec F22 => ?_)
 have ds := F22.size
 replace I := Z0 I F22
 replace C := Z0 C F22
 replace J := J.evo0 F22
 refine Zn (Bg rfl η (fun hq => IK η (fun h => h) hq) rfl) ?_
 refine AE η (fun R => ?_) (fun R => ?_)
 refine AA (Zo (AP (v := vo) rfl η) (Zo Au ?_))
 obtain ⟨dh, g24, dm, b_, aT, dn⟩ := J.rowOf
 subst b_
 refine Zr [.slice _ _ _, S _] rfl η func128 (Jv aT ω) ?_
 rintro e ed ⟨cg, rfl, F25, hi25⟩
 refine ⟨_, rfl, ?_⟩
 have dt := F25.size
 replace I := Z0 I F25
 replace C := Z0 C F25
 replace J := J.evo0 F25
 replace aT := aT.evo0 F25
 refine Zn (AM (v := cg) rfl η) (AO (AA (Zo A8 (Zn AN (Zg (j + 1) ?_)))))
 refine ⟨_, σ, rfl, δ, (by first | (rw [Um ω R]; exact hi25.base_le ω) | (rw [Ya ω R]; exact hi25)), δ, I, C⟩
 refine AF (AO (AA (Zo A8 (Zn AN (Zg (j + 1) ?_)))))
 refine ⟨_, σ, rfl, δ, (by first | (rw [Um ω R]; exact J.base_le ω) | (rw [Ya ω R]; exact J)), δ, I, C⟩
 refine AW rfl (AO (AA (Zo A8 (Zn AN (Zg (k + 1) ?_)))))
 refine ⟨_, σ, rfl, δ, (by rw [ZS (ts := ts) (k := k) (j := j) ω]; exact J), δ, I, C⟩
 refine AW rfl (Zs (Zo (AP (v := vo) rfl η) (Zn (AM (v := vo) rfl η) (AK (BN (v := vo) rfl η) ?_))))
 have e9 : k = ts.length := by omega
 rw [e9] at J
 exact ⟨_, rfl, I, J.base_le ω⟩
set_option maxHeartbeats 1000000 in
theorem MH {T bs : Nat} {ao : Option Addr} {b off cap : Nat} {l : List Int} {N : Nat} {w0 : World} (j : Blk w0 bs T [.slice ao l.length cap, .int .i64 (N : Nat)]) (hl : ∀ w', Evo w0 w' [bs] → RowE w' ao b off cap l) (hN : N ≤ 999990) :
    Calls Tryz.prog 73 #[.pointer (some ⟨bs, 0, none⟩)] w0 fun e w' => ∃ s N', e = .returned (S s) ∧ MadePh s ∧ (N ≤ N' ∧ N' ≤ N + 4) ∧ Evo w0 w' [bs] ∧ Blk w' bs T [.slice ao l.length cap, .int .i64 (N' : Nat)] := by
 have J := j.at; have bq := j.lt
 refine AG (n := 23) func73 rfl ntmps73 rfl ?_
 have C : Evo w0 w0 [bs] := Evo.refl _ _
 have a7 := hl
 replace hl := a7 _ C
 have bn := hl.bd
 refine Zs (Zn CD (Zs (Zn CD (AB (Zs (Zo Ey (Zr [.pointer _, .int _ _] rfl η func38 (Bd j hl ω ω ω) ?_)))))))
 rintro e w1 ⟨ba, rfl, hx1, F1, hn1⟩
 refine ⟨_, rfl, ?_⟩
 have Q1 := F1.size
 replace C := Z1 C F1 (.inr (by simp))
 replace hl := a7 _ C
 replace j := hn1
 clear hn1
 have J := j.at
 refine Zn Ah (AD (AZ (α := Nat) [3, 4, 7, 8, 9, 10, 11, 12, 13, 14, 15, 16, 17, 18, 19, 20, 21] (fun ii g w => ∃ o : AQ, ∃ N1 : Nat, g 4 = .int .i64 ((ii : Nat) - 1 : Int) ∧ g 3 = S o ∧ Blk w bs T [.slice ao l.length cap, .int .i64 (N1 : Nat)] ∧ PhR (ba.toNat + 1) ii o ∧ (N1 + ii = N + 1 + (ba.toNat + 1)) ∧ w1.heap.size ≤ w.heap.size ∧ Evo w0 w [bs]) (fun ii => ii) (ba.toNat + 1) ?_ ?_))
 refine ⟨[], _, (congrArg (Value.int _) ω), rfl, j, (PhR.nil _), ω, δ, C⟩
 rintro ii g w3 ⟨o, N1, hj4, hj5, j, hph, hN1, hzl2, C⟩
 have bg := C.size
 have bw := j.lt
 have J := j.at
 refine Zk 4 hj4 (Zk 3 hj5 (AB (Zs (Zo AN (Zn (BQ rfl η η) (AE η (fun bt => ?_) (fun bt => ?_)))))))
 refine AF (AB (AD (AB (AB ?_))))
 have bM := hph.len
 refine AA (Zo Au (Zn (CR rfl η η) (AE η (fun az => ?_) (fun az => ?_))))
 refine AA (Zo Au (Zo (A7 rfl η η μ) (Zn CD (AA (Zo Au (Av (pv := [(0, S _), (1, S _), (2, S _), (3, S _), (4, S _), (5, S _), (6, S _), (7, S _)]) (zs := [_]) (cs := [_, _, _, _, _, _, _, _]) underlying77 BW η rfl η rfl η ?_))))))
 intro b9 w10 J9 E10 B9 Y9
 have bx := E10.size
 replace C := Z0 C E10
 replace hl := a7 _ C
 replace j := j.evo0 E10
 replace J := J.evo0 E10
 have R : RowE w10 (some ⟨b9, 0, none⟩) b9 0 8 phrW := Bl phrW B9 rfl rfl
 refine Zo Ey (Zr [.pointer _, .int _ _] rfl η func38 (Bd j hl ω ω ω) ?_)
 rintro e bQ ⟨U, rfl, hx11, F11, hn11⟩
 refine ⟨_, rfl, ?_⟩
 have bz := F11.size
 replace C := Z1 C F11 (.inr (by simp))
 replace R := R.evo F11 θ
 replace j := hn11
 clear hn11
 have J := j.at
 have a1 := (QU (JE (k := U.toNat) ω)).2; have aT := a1; rw [List.getD_eq_getElem?_getD] at aT
 refine Zo (AV (U.toNat) rfl underlying77 BW η η ω (by show _ < 8; omega) (R.addr (i := U.toNat) (by show _ < 8; omega))) ?_
 have bc := R.atD (U.toNat) (by show _ < 8; omega)
 refine Zo (AH rfl BF η (bc.cell 0 η)) (Zo (A7 rfl η η μ) (Zn CD (AO (AA (Zo AN (Zo JV (Zn Ah (Zg (ii - 1) ?_))))))))
 refine ⟨_, _, (congrArg (Value.int _) ω), rfl, j, (by obtain ⟨i9, a_⟩ : ∃ z, ii = z + 1 := ⟨ii - 1, by omega⟩; subst a_; first | exact hph.more1 (JE ω) az | exact hph.more2 (JE ω) (Classical.not_not.1 az)), ω, δ, C⟩
 refine AF (AA (Zo Au (Av (pv := [(0, S _), (1, S _), (2, S _), (3, S _), (4, S _), (5, S _), (6, S _), (7, S _)]) (zs := [_]) (cs := [_, _, _, _, _, _, _, _]) underlying77 BW η rfl η rfl η ?_)))
 intro b13 w14 J13 E14 B13 Y13
 have bF := E14.size
 replace C := Z0 C E14
 replace hl := a7 _ C
 replace j := j.evo0 E14
 replace J := J.evo0 E14
 have I : RowE w14 (some ⟨b13, 0, none⟩) b13 0 8 phrW := Bl phrW B13 rfl rfl
 refine Zo Ey (Zr [.pointer _, .int _ _] rfl η func38 (Bd j hl ω ω ω) ?_)
 rintro e bW ⟨ag, rfl, hx15, F15, hn15⟩
 refine ⟨_, rfl, ?_⟩
 have bL := F15.size
 replace C := Z1 C F15 (.inr (by simp))
 replace I := I.evo F15 θ
 replace j := hn15
 clear hn15
 have J := j.at
 have a1 := (QU (JE (k := ag.toNat) ω)).2; have aT := a1; rw [List.getD_eq_getElem?_getD] at aT
 refine Zo (AV (ag.toNat) rfl underlying77 BW η η ω (by show _ < 8; omega) (I.addr (i := ag.toNat) (by show _ < 8; omega))) ?_
 have bf := I.atD (ag.toNat) (by show _ < 8; omega)
 refine Zo (AH rfl BF η (bf.cell 0 η)) (Zo (A7 rfl η η μ) (Zn CD (AO (AA (Zo AN (Zo JV (Zn Ah (Zg (ii - 1) ?_))))))))
 refine ⟨_, _, (congrArg (Value.int _) ω), rfl, j, (by obtain ⟨i9, a_⟩ : ∃ z, ii = z + 1 := ⟨ii - 1, by omega⟩; subst a_; first | exact hph.more1 (JE ω) az | exact hph.more2 (JE ω) (Classical.not_not.1 az)), ω, δ, C⟩
 refine AW rfl (Zs (Zo Au (Zn CD (AK (BN (v := S _) rfl η) ?_))))
 exact ⟨o, N1, rfl, PhR.made (by rw [show ii = 0 by omega] at hph; exact hph) ω ω, by omega, C, j⟩
theorem cv : D3 Tryz.prog 88 = some [(0, 1), (1, 1)] := ζ
theorem cM : Dl Tryz.prog 83 = some (1, 24, some (.slice none 0 0)) := ζ
theorem Xh {w : World} {Y : List Nat} {j o C : Option Addr} {g1 g2 g3 c1 c2 I : Nat} (x : TermL) (h1 : RowE w j g1 0 c1 x.words) (n1 : x.words ≠ [] → g1 ∉ Y) (J : RowE w o g2 0 c2 x.req) (n2 : x.req ≠ [] → g2 ∉ Y) (R : RowE w C g3 0 I x.forb) (n3 : x.forb ≠ [] → g3 ∉ Y) (U : x.words.length ≤ 4398046510976 ∧ ∀ y ∈ x.words, QK y) :
    ∀ w', Evo w w' Y → Rep.rep w' [.slice j x.words.length c1, .slice o x.req.length c2, .slice C x.forb.length I] x := fun w' he => ⟨⟨_, _, _, _, _, _, _, _, _, _, _, _, rfl, Cg h1 he n1, Cg J he n2, Cg R he n3⟩, U⟩
theorem X1 {c : List Clas} (h : ∀ x ∈ c, x.name.length ≤ 1000) {k : Nat} (hk : k < c.length) : (c.getD k default).name.length ≤ 1000 := h _ (A5 hk)
end Go.Proofs.YtlfjocbnbceceaaGreatDoor
namespace Go.Vc
open Go Go.RowKit
theorem OwnR.rowK {α : Type} [Rep α] {w : World} {base : Nat} {E : TypeId} {Y : List Nat} {v : Value} {l : List α} (h : OwnR w base E Y v l) (U : ∀ y ∈ Y, y < base) : ∃ o g cap, v = .slice o l.length cap ∧ RowRK w Y o g 0 cap l := by
  obtain ⟨j, h1, C⟩ := h
  have R := C w (Evo.refl _ _)
  obtain ⟨o, g, cap, hv, J, hg⟩ := h1.rowOf
  refine ⟨o, g, cap, by rw [← R.1]; exact hv, j, fun w' he => ⟨?_, C w' (he.mono (fun x hx => List.mem_append.2 (.inl hx)))⟩⟩
  by_cases I : j = []
  · subst I; exact ⟨J.1, by simp, by simp⟩
  · exact J.evo he (fun hm => by have := U g hm; have := (hg I).2; omega)
end Go.Vc
namespace Go.Proofs.YtlfjocbnbceceaaGreatDoor
open Go.RowKit Go.Vc
theorem UH {cl : List Clas} {m : Nat} (h : MadeP cl m 0) (hm : m ≤ 9) : ∀ x ∈ cl, x.name.length ≤ 1000 := fun x j => by
  obtain ⟨k, hk, rfl⟩ := List.mem_iff_getElem.1 j
  rw [h.2.1 k hk]
  have := Ew 0 (m - k) [] ω
  simp at this ⊢; omega
end Go.Proofs.YtlfjocbnbceceaaGreatDoor
namespace Go.Proofs.YtlfjocbnbceceaaGreatDoor
open Go Go.RowKit Go.Vc Go.Proofs.Tryz
section
variable (l : List Vc.Item)
end
section
variable (l : List Vc.Item) (fs : List (List (List AQ)))
end
section
variable (l : List Vc.Item) (d : Nat)
theorem Iz (k : Nat) : (l.drop d).getD k default = l.getD (d + k) default := by simp [List.getD, List.getElem?_drop]
end
theorem cC : D3 Tryz.prog 128 = some [(0, 1), (1, 1)] := ζ
theorem bE : Dl Tryz.prog 128 = some (2, 48, some (.agg #[(.slice none 0 0), (.slice none 0 0)])) := ζ
theorem aP {x : TermL} (h : IH x) {i k : Nat} (j : i < 2) (hk : k < (([x.req, x.forb] : List (List AQ)).getD i default).length) : ((([x.req, x.forb] : List (List AQ)).getD i default).getD k default).length ≤ 1000000000 := by
  rcases (show i = 0 ∨ i = 1 by omega) with rfl | rfl
  · exact h.2.2.1 _ (A5 hk)
  · exact h.2.2.2 _ (A5 hk)
set_option maxHeartbeats 1000000 in
theorem Oz {bn : Option Addr} {bx ca aT : Nat} {ag : Option Addr} {bq b_ J : Nat} {U : Option Addr} {bf b8 I : Nat} {x : TermL} {ao : Option Addr} {b off cap : Nat} {c : List Clas} {R : World} (hw : RowE R bn bx ca aT x.words) (hq : RowE R ag bq b_ J x.req) (hf : RowE R U bf b8 I x.forb) (hc : RowR R ao b off cap c) :
    Calls Tryz.prog 54 #[.agg #[.slice bn x.words.length aT, .slice ag x.req.length J, .slice U x.forb.length I], .slice ao c.length cap] R fun e w' => e = .returned (.int .i64 (GZ c x)) ∧ Evo R w' [] := by
 refine AG (n := 75) func54 rfl ntmps54 rfl ?_
 have o : Evo R R [] := Evo.refl _ _
 have bc := Ak hw
 have cr := hw.bd
 have bb := Ak hq
 have cn := hq.bd
 have a_ := Ak hf
 have cg := hf.bd
 have a8 := hc.keep
 have cc := hc.bd
 refine Zs (Ch (vs := [_, _, _]) η η rfl ?_)
 intro b1 w2 J1 E2 B1 Y1
 have Q2 := E2.size
 replace o := Z0 o E2
 replace hw := bc _ o
 replace hq := bb _ o
 replace hf := a_ _ o
 replace hc := a8.now o
 refine Zn Ah (AB (Zs (Zo (AJ rfl η EA) (Zo (AH rfl IB η (B1.at.cell 0 η)) (Zo (AL rfl η underlying83) (Zo C3 (Zo Br ?_)))))))
 refine Ab rfl Ay rfl (fun C => AJ rfl η EA) ?_
 refine Ab rfl Ay rfl (fun C => AH rfl IB (Af C) (B1.at.cell 0 η)) ?_
 refine Ab rfl Ay rfl (fun C => AL rfl (Af C) underlying83) ?_
 refine Ab rfl Ay rfl (fun C => Bf rfl (Af C) η) ?_
 refine Zo Ee (Zo Br ?_)
 refine Ab rfl Ay rfl (fun C => AJ rfl η Ea) ?_
 refine Ab rfl Ay rfl (fun C => AH rfl EU (Af C) (B1.at.cell 1 η)) ?_
 refine Ab rfl Ay rfl (fun C => AL rfl (Af C) underlying77) ?_
 refine Ab rfl Ay rfl (fun C => Bf rfl (Af C) η) ?_
 refine Zo Ee (Zo Br ?_)
 refine Ab rfl Ay rfl (fun C => AJ rfl η Gx) ?_
 refine Ab rfl Ay rfl (fun C => AH rfl EU (Af C) (B1.at.cell 2 η)) ?_
 refine Ab rfl Ay rfl (fun C => AL rfl (Af C) underlying77) ?_
 refine Ab rfl Ay rfl (fun C => Bf rfl (Af C) η) ?_
 refine Zn Ee (AE η (fun bt => ?_) (fun bt => ?_))
 refine Zs (Zn Ah (AK CZ ?_))
 exact ⟨AU (Po (YR bt)).symm, o⟩
 refine AF (AB (Zs (Zo (AJ rfl η EA) (Zo (AH rfl IB η (B1.at.cell 0 η)) (Zo (AL rfl η underlying83) (Zn AN (AD ?_)))))))
 have ba : ¬ LB x := ZQ bt
 refine AZ (α := Nat) [4, 6, 36, 37, 38, 39, 40, 41, 42, 43, 44, 45, 46, 47, 48, 49, 50, 51, 52, 53, 54] (fun k g w => g 36 = .int .i64 (k : Nat) ∧ k ≤ x.words.length ∧ Blk w b1 85 [.slice bn x.words.length aT, .slice ag x.req.length J, .slice U x.forb.length I] ∧ (∀ j, j < k → GQ c (x.words.getD j default) = 0) ∧ w2.heap.size ≤ w.heap.size ∧ Evo R w []) (fun k => x.words.length - k) 0 ?_ ?_
 refine ⟨σ, δ, B1, (fun j h => by omega), δ, o⟩
 rintro k g w5 ⟨cI, hk_k, B1, hnw, hzl4, o⟩
 have b6 := o.size
 have c3 := B1.lt
 replace hw := bc _ o
 replace hq := bb _ o
 replace hf := a_ _ o
 replace hc := a8.now o
 refine Zk 36 cI (Zs (Zn Bu (AB (AE η (fun cH => ?_) (fun cH => ?_)))))
 refine AF (AB (AD (Zs (Zo (AV (k) rfl underlying83 FG η η χ ω (hw.addr (i := k) ω)) ?_))))
 have bM := fun (w' : World) (h : Evo R w' []) => (bc w' h).atD (k) ω
 refine Zo (AY rfl Ob FG η rfl (bM _ o)) (CO (zs := [_, _]) (vs := [_, _]) FG η rfl η (fun _ => rfl) η rfl rfl η ?_)
 intro b10 w11 J10 E11 B10 Y10
 have c_ := E11.size
 replace o := Z0 o E11
 replace B1 := B1.evo0 E11
 refine As (AB (Zs (Zo (AJ rfl η Kv) (Zo (AH rfl BF η (B10.at.cell 0 η)) (Zr [S _] rfl η func96 (Kn ) ?_)))))
 rintro e dj ⟨rfl, F12⟩
 refine ⟨_, rfl, ?_⟩
 have da := F12.size
 replace o := Z0 o F12
 replace B1 := B1.evo0 F12
 replace B10 := B10.evo0 F12
 refine Zn (CQ rfl η) (AE η (fun a1 => ?_) (fun a1 => ?_))
 refine Zs (Zn Ah (AK CZ ?_))
 exact ⟨AU (Ht ba ω hnw (UW (by have h9 := a1; simpa using h9)) υ).symm, o⟩
 refine AF (AB ?_)
 have b4 : C2 (x.words.getD k default).strip := by have h9 := a1; simpa using h9
 refine AA (Zo (AJ rfl η Gp) (Zo (AH rfl BF η (B10.at.cell 1 η)) (Zo (CR rfl η η) (Zo Br ?_))))
 refine Ab rfl Aq rfl (fun C => Ar) ?_
 refine Ab rfl Aq rfl (fun C => AJ rfl η Gp) ?_
 refine Ab rfl Aq rfl (fun C => AH rfl BF (Af C) (B10.at.cell 1 η)) ?_
 refine Bb rfl Aq rfl (fun C => Am rfl (An (v := .slice _ _ _) (Af C) (An (v := S _) (Af C) (rfl))) func97 rfl ζ) (fun C => (Jh (a8.now o)).mono (fun e w' h => ⟨h.1, h.2⟩)) (fun dk F15 => ?_)
 have db := F15.size
 replace o := Z0 o F15
 replace B1 := B1.evo0 F15
 refine Ab rfl Aq rfl (fun C => Cx rfl (Af C) η) ?_
 refine Zn Fm (AE η (fun a6 => ?_) (fun a6 => ?_))
 refine Zs (Zn Ah (AK CZ ?_))
 exact ⟨AU (Ht ba ω hnw (Uc b4 a6) υ).symm, o⟩
 refine AF (AO (AA (Zo A8 (Zn AN (Zg (k + 1) ?_)))))
 refine ⟨σ, δ, B1, (CS hnw (QR b4 a6)), δ, o⟩
 refine AW rfl (AB (Zs (Zo (AJ rfl η Ea) (Zo (AH rfl EU η (B1.at.cell 1 η)) (Zo (AJ rfl η Gx) (Zo (AH rfl EU η (B1.at.cell 2 η)) (Zo (Aj (pv := [(0, .slice ag x.req.length J), (1, .slice U x.forb.length I)]) (zs := [_, _]) (cells := [_, _]) rfl bE η cC η η) (Zn AN (AD ?_)))))))))
 have bl : ∀ j, j < x.words.length → GQ c (x.words.getD j default) = 0 := fun j hj => hnw j ω
 refine AZ (α := Nat) [4, 8, 10, 60, 61, 62, 63, 64, 65, 66, 67, 68, 69, 70, 71, 72, 73, 74] (fun i g w => g 60 = .int .i64 (i : Nat) ∧ i ≤ 2 ∧ (∀ j, j < i → DK Ou (([x.req, x.forb] : List (List AQ)).getD j default) = 0) ∧ w5.heap.size ≤ w.heap.size ∧ Evo R w []) (fun i => 2 - i) 0 ?_ ?_
 refine ⟨σ, δ, (fun j h => by omega), δ, o⟩
 rintro i g cQ ⟨b2, hk_i, hno, hzl17, o⟩
 have bw := o.size
 replace hw := bc _ o
 replace hq := bb _ o
 replace hf := a_ _ o
 replace hc := a8.now o
 refine Zk 60 b2 (Zs (Zn Bu (AB (AE η (fun bW => ?_) (fun bW => ?_)))))
 refine AF (AB (AD (AB ?_)))
 obtain ⟨bm, bL, c4, az, cK, bs⟩ : ∃ bF b9 b7 bg, ([.slice ag x.req.length J, .slice U x.forb.length I] : List Value)[i]? = some (.slice bF (([x.req, x.forb] : List (List AQ)).getD i default).length bg) ∧ ∀ w9, Evo R w9 [] → RowE w9 bF b9 b7 bg (([x.req, x.forb] : List (List AQ)).getD i default) := by
   rcases (show i = 0 ∨ i = 1 by omega) with rfl | rfl
   · exact ⟨_, _, _, _, rfl, bb⟩
   · exact ⟨_, _, _, _, rfl, a_⟩
 have hL := bs _ o; have cb := hL.bd
 refine AA (Zo (N9 (v := .slice bm (([x.req, x.forb] : List (List AQ)).getD i default).length az) (i) rfl underlying128 ML EU η η χ ω (by exact cK)) (Zn (AM (v := .slice bm (([x.req, x.forb] : List (List AQ)).getD i default).length az) rfl η) (Zs (Zo (AP (v := .slice bm (([x.req, x.forb] : List (List AQ)).getD i default).length az) rfl η) (Zo (AL rfl η underlying77) (Zn AN (AD (AZ (α := Nat) [4, 10, 65, 66, 67, 68, 69, 70, 71, 72, 73] (fun k g w => g 65 = .int .i64 (k : Nat) ∧ k ≤ (([x.req, x.forb] : List (List AQ)).getD i default).length ∧ (∀ j, j < k → Ou ((([x.req, x.forb] : List (List AQ)).getD i default).getD j default) = 0) ∧ cQ.heap.size ≤ w.heap.size ∧ Evo R w []) (fun k => (([x.req, x.forb] : List (List AQ)).getD i default).length - k) 0 ?_ ?_))))))))
 refine ⟨σ, δ, (fun j h => by omega), δ, o⟩
 rintro k g dm ⟨b3, hk_k, hnp, hzl21, o⟩
 have bz := o.size
 refine Zk 65 b3 (Zs (Zn Bu (AB (AE η (fun bY => ?_) (fun bY => ?_)))))
 refine AF (AB (AD (Zs (Zo (AV (k) rfl underlying77 BW η η χ ω ((bs _ o).addr (i := k) ω)) ?_))))
 have bp := fun (w' : World) (h : Evo R w' []) => (bs w' h).atD (k) ω
 refine Zo (AH rfl BF η ((bp _ o).cell 0 η)) (Zn CD (Zs (Zo Au (Zr [S _] rfl η func98 Ki ?_))))
 rintro e dn ⟨cV, bs26, off26, cap26, rfl, F26, hr26⟩
 refine ⟨_, rfl, ?_⟩
 have dc := F26.size
 replace o := Z0 o F26
 refine Zo (AL rfl η underlying77) (Zn C3 (AE η (fun a7 => ?_) (fun a7 => ?_)))
 refine Zs (Zn Ah (AK CZ ?_))
 exact ⟨AU (Pf ba bl ω hno ω hnp (Nz.1 a7)).symm, o⟩
 refine AF (AO (AA (Zo A8 (Zn AN (Zg (k + 1) ?_)))))
 refine ⟨σ, δ, (CS hnp (Qt (Classical.not_not.1 (fun q => a7 (Nz.2 q))))), δ, o⟩
 refine AW rfl (AO (AA (Zo A8 (Zn AN (Zg (i + 1) ?_)))))
 refine ⟨σ, δ, (CS hno (D6 (fun j hj => hnp j ω))), δ, o⟩
 refine AW rfl (Zs (Zn Ah (AK CZ ?_)))
 exact ⟨AU (OT ba bl (fun j hj => hno j ω)).symm, o⟩
set_option maxHeartbeats 1000000 in
theorem Mo {a7 : Option Addr} {bp bl J : Nat} {ts : List TermL} {ao : Option Addr} {b off cap : Nat} {c : List Clas} {I : World} (ht : RowR I a7 bp bl J ts) (hc : RowR I ao b off cap c) :
    Calls Tryz.prog 29 #[.slice a7 ts.length J, .slice ao c.length cap] I fun e w' => e = .returned (.int .i64 (E0 ts c)) ∧ Evo I w' [] := by
 refine AG (n := 30) func29 rfl ntmps29 rfl ?_
 have o : Evo I I [] := Evo.refl _ _
 have aT := ht.keep
 have bn := ht.bd
 have bf := hc.keep
 have bm := hc.bd
 refine Zs (Zn Ah (AB (Zs (Zo Ar (Zr [.slice _ _ _] rfl η func53 (Og hc) ?_)))))
 rintro e w1 ⟨rfl, F1⟩
 refine ⟨_, rfl, ?_⟩
 have Q1 := F1.size
 replace o := Z0 o F1
 replace ht := aT.now o
 replace hc := bf.now o
 refine Zn Ah (Zs (Zo AN (Zn (BD rfl η η) (AE η (fun az => ?_) (fun az => ?_)))))
 refine Zs (Zo AN (Zn Ah (AK CZ ?_)))
 exact ⟨AU (S5 az).symm, o⟩
 refine AF (AB (AB ?_))
 have a1 := az
 refine AA (Zo Ar (Zo (AL rfl η underlying25) (Zn IG (AE η (fun bF => ?_) (fun bF => ?_)))))
 refine Zs (Zn Ah (AK CZ ?_))
 exact ⟨AU (Np (Classical.not_not.1 a1) ω).symm, o⟩
 refine AF (AB (Zs (Zo Ar (Zo (AL rfl η underlying25) (Zn AN (AD (AZ (α := Nat) [4, 7, 8, 19, 20, 21, 22, 23, 24, 25, 26, 27, 28, 29] (fun k g w => g 19 = .int .i64 (k : Nat) ∧ k ≤ ts.length ∧ (∀ j, j < k → GZ c (ts.getD j default) = 0) ∧ w1.heap.size ≤ w.heap.size ∧ Evo I w []) (fun k => ts.length - k) 0 ?_ ?_)))))))
 refine ⟨σ, δ, (fun j h => by omega), δ, o⟩
 rintro k g w5 ⟨bM, hk_k, hno, hzl4, o⟩
 have bg := o.size
 refine Zk 19 bM (Zs (Zn Bu (AB (AE η (fun bL => ?_) (fun bL => ?_)))))
 refine AF (AB (AD (Zs (Zo (AV (k) rfl underlying25 Ci η η χ ω ((aT.now o).addr (i := k) ω)) ?_))))
 obtain ⟨b4, b_, b0, bt, b3, b8, bY, bs, b2, b7, bW, bq, hX⟩ := EP aT (k) ω
 have a8 := fun (w' : World) (h : Evo I w' []) => (hX w' h).1
 have ag := fun (w' : World) (h : Evo I w' []) => (hX w' h).2.1
 have U := fun (w' : World) (h : Evo I w' []) => (hX w' h).2.2.1
 have R := fun (w' : World) (h : Evo I w' []) => (hX w' h).2.2.2
 clear hX
 have bc := (ag _ o).bd
 have bb := (U _ o).bd
 have ba := (R _ o).bd
 refine Zo (AY rfl Kl Ci η rfl (a8 _ o)) (CO (zs := [_, _, _]) (vs := [_, _, _]) Ci η rfl η (fun _ => rfl) η rfl rfl η ?_)
 intro b9 w10 J9 E10 B9 Y9
 have b5 := E10.size
 replace o := Z0 o E10
 replace hc := bf.now o
 replace bz := ag _ o
 replace bx := U _ o
 replace bw := R _ o
 refine As (Zs (Zo (AY rfl Kl Ci η rfl B9.at) (Zo Ar (Zr [.agg _, .slice _ _ _] rfl η func54 (Oz bz bx bw hc) ?_))))
 rintro e ca ⟨rfl, F11⟩
 refine ⟨_, rfl, ?_⟩
 have b6 := F11.size
 replace o := Z0 o F11
 refine Zn Ah (Zs (Zo AN (Zn (BD rfl η η) (AE η (fun C => ?_) (fun C => ?_)))))
 refine Zs (Zo AN (Zn Ah (AK CZ ?_)))
 exact ⟨AU (HT (k := k) (Classical.not_not.1 a1) ω ω hno rfl C).symm, o⟩
 refine AF (AO (AA (Zo A8 (Zn AN (Zg (k + 1) ?_)))))
 refine ⟨σ, δ, (CS hno (Classical.not_not.1 C)), δ, o⟩
 refine AW rfl (Zs (Zn Ah (AK CZ ?_)))
 exact ⟨AU (LX (Classical.not_not.1 a1) ω (fun j hj => hno j ω)).symm, o⟩
set_option maxHeartbeats 1000000 in
theorem Lr {b7 : Option Addr} {da c3 bg : Nat} {ts : List TermL} {ao : Option Addr} {b off cap : Nat} {c : List Clas} {w0 : World} (ht : RowR w0 b7 da c3 bg ts) (hc : RowR w0 ao b off cap c) (df : ∀ x ∈ ts, IH x) :
    Calls Tryz.prog 30 #[.slice b7 ts.length bg, .slice ao c.length cap] w0 fun e w' => e = .returned (.int .i64 (E0 ts c)) ∧ Evo w0 w' [] := by
 refine AG (n := 100) func30 rfl ntmps30 rfl ?_
 have o : Evo w0 w0 [] := Evo.refl _ _
 have aT := ht.keep
 have c9 := ht.bd
 have a7 := hc.keep
 have c4 := hc.bd
 refine Zs (Zn Ah (AB (Zs (Zo Ar (Zr [.slice _ _ _] rfl η func55 (Mm hc) ?_)))))
 rintro e w1 ⟨rfl, F1⟩
 refine ⟨_, rfl, ?_⟩
 have Q1 := F1.size
 replace o := Z0 o F1
 replace ht := aT.now o
 replace hc := a7.now o
 refine Zn Ah (Zs (Zo AN (Zn (BD rfl η η) (AE η (fun bL => ?_) (fun bL => ?_)))))
 refine Zs (Zo AN (Zn Ah (AK CZ ?_)))
 exact ⟨AU (S5 bL).symm, o⟩
 refine AF (AB (AB ?_))
 have a1 := bL
 refine AA (Zo Ar (Zo (AL rfl η underlying25) (Zn IG (AE η (fun db => ?_) (fun db => ?_)))))
 refine Zs (Zn Ah (AK CZ ?_))
 exact ⟨AU (Np (Classical.not_not.1 a1) ω).symm, o⟩
 refine AF (AB (Zs (Zo Ar (Zo (AL rfl η underlying25) (Zn AN (AD (AZ (α := Nat) [4, 7, 9, 11, 13, 14, 15, 26, 27, 28, 29, 30, 31, 32, 33, 34, 35, 36, 37, 38, 39, 40, 41, 42, 43, 44, 45, 46, 47, 48, 49, 50, 51, 52, 53, 54, 55, 56, 57, 58, 59, 60, 61, 62, 63, 64, 65, 66, 67, 68, 69, 70, 71, 72, 73, 74, 75, 76, 77, 78, 79, 80, 81, 82, 83, 84, 85, 86, 87, 88, 89, 90, 91, 92, 93, 94, 95, 96, 97, 98, 99] (fun k g w => g 26 = .int .i64 (k : Nat) ∧ k ≤ ts.length ∧ (∀ j, j < k → GZ c (ts.getD j default) = 0) ∧ w1.heap.size ≤ w.heap.size ∧ Evo w0 w []) (fun k => ts.length - k) 0 ?_ ?_)))))))
 refine ⟨σ, δ, (fun j h => by omega), δ, o⟩
 rintro k g w5 ⟨de, hk_k, hno, hzl4, o⟩
 have c0 := o.size
 refine Zk 26 de (Zs (Zn Bu (AB (AE η (fun dc => ?_) (fun dc => ?_)))))
 refine AF (AB (AD (Zs (Zo (AV (k) rfl underlying25 Ci η η χ ω ((aT.now o).addr (i := k) ω)) ?_))))
 obtain ⟨b6, dy, dm, bs, b5, dx, dk, bq, b4, dw, dj, bp, hX⟩ := EP aT (k) ω
 have a6 := fun (w' : World) (h : Evo w0 w' []) => (hX w' h).1
 have bx := a6 _ o
 have U := fun (w' : World) (h : Evo w0 w' []) => (hX w' h).2.1
 have R := fun (w' : World) (h : Evo w0 w' []) => (hX w' h).2.2.1
 have J := fun (w' : World) (h : Evo w0 w' []) => (hX w' h).2.2.2
 clear hX
 have cr := (U _ o).bd
 have cn := (R _ o).bd
 have cg := (J _ o).bd
 refine Zo (AY rfl Kl Ci η rfl bx) (CO (zs := [_, _, _]) (vs := [_, _, _]) Ci η rfl η (fun _ => rfl) η rfl rfl η ?_)
 intro b9 w10 J9 E10 B9 Y9
 have dq := E10.size
 replace o := Z0 o E10
 replace ht := aT.now o
 replace hc := a7.now o
 replace bz := U _ o
 replace cb := R _ o
 replace ca := J _ o
 refine As (AB (AB ?_))
 have dh := JI df k
 refine AA (Zo (AJ rfl η EA) (Zo (AH rfl IB η (B9.at.cell 0 η)) (Zo (AL rfl η underlying83) (Zo C3 (Zo Br ?_)))))
 refine Ab rfl Ay rfl (fun C => AJ rfl η EA) ?_
 refine Ab rfl Ay rfl (fun C => AH rfl IB (Af C) (B9.at.cell 0 η)) ?_
 refine Ab rfl Ay rfl (fun C => AL rfl (Af C) underlying83) ?_
 refine Ab rfl Ay rfl (fun C => Bf rfl (Af C) η) ?_
 refine Zo Ee (Zo Br ?_)
 refine Ab rfl Ay rfl (fun C => AJ rfl η Ea) ?_
 refine Ab rfl Ay rfl (fun C => AH rfl EU (Af C) (B9.at.cell 1 η)) ?_
 refine Ab rfl Ay rfl (fun C => AL rfl (Af C) underlying77) ?_
 refine Ab rfl Ay rfl (fun C => Bf rfl (Af C) η) ?_
 refine Zo Ee (Zo Br ?_)
 refine Ab rfl Ay rfl (fun C => AJ rfl η Gx) ?_
 refine Ab rfl Ay rfl (fun C => AH rfl EU (Af C) (B9.at.cell 2 η)) ?_
 refine Ab rfl Ay rfl (fun C => AL rfl (Af C) underlying77) ?_
 refine Ab rfl Ay rfl (fun C => Bf rfl (Af C) η) ?_
 refine Zn Ee (AE η (fun a8 => ?_) (fun a8 => ?_))
 refine Zs (Zn Ah (AK CZ ?_))
 exact ⟨AU (HT (k := k) (Classical.not_not.1 a1) ω ω hno (Po (YR a8)) υ).symm, o⟩
 refine AF (AB (Zs (Zo (AJ rfl η EA) (Zo (AH rfl IB η (B9.at.cell 0 η)) (Zo (AL rfl η underlying83) (Zn AN (AD ?_)))))))
 have bf : ¬ LB (ts.getD k default) := ZQ a8
 refine AZ (α := Nat) [4, 9, 55, 56, 57, 58, 59, 60, 61, 62, 63, 64, 65, 66, 67, 68, 69, 70, 71, 72, 73] (fun kw g w => g 55 = .int .i64 (kw : Nat) ∧ kw ≤ (ts.getD k default).words.length ∧ Blk w b9 85 [.slice b6 (ts.getD k default).words.length bs, .slice b5 (ts.getD k default).req.length bq, .slice b4 (ts.getD k default).forb.length bp] ∧ (∀ j, j < kw → GQ c ((ts.getD k default).words.getD j default) = 0) ∧ w10.heap.size ≤ w.heap.size ∧ Evo w0 w []) (fun kw => (ts.getD k default).words.length - kw) 0 ?_ ?_
 refine ⟨σ, δ, B9, (fun j h => by omega), δ, o⟩
 rintro kw g dO ⟨cK, hk_kw, B9, hnw, hzl12, o⟩
 have bY := o.size
 have di := B9.lt
 replace bx := a6 _ o
 replace bz := U _ o
 replace cb := R _ o
 replace ca := J _ o
 refine Zk 55 cK (Zs (Zn Bu (AB (AE η (fun ct => ?_) (fun ct => ?_)))))
 refine AF (AB (AD (Zs (Zo (AV (kw) rfl underlying83 FG η η χ ω (bz.addr (i := kw) ω)) ?_))))
 have bw := fun (w' : World) (h : Evo w0 w' []) => (U w' h).atD (kw) ω
 refine Zo (AY rfl Ob FG η rfl (bw _ o)) (CO (zs := [_, _]) (vs := [_, _]) FG η rfl η (fun _ => rfl) η rfl rfl η ?_)
 intro b18 w19 J18 E19 B18 Y18
 have dr := E19.size
 replace o := Z0 o E19
 replace B9 := B9.evo0 E19
 refine As (AB (Zs (Zo (AJ rfl η Kv) (Zo (AH rfl BF η (B18.at.cell 0 η)) (Zr [S _] rfl η func56 (Ka ) ?_)))))
 rintro e dQ ⟨rfl, F20⟩
 refine ⟨_, rfl, ?_⟩
 have ds := F20.size
 replace o := Z0 o F20
 replace B9 := B9.evo0 F20
 replace B18 := B18.evo0 F20
 refine Zn (CQ rfl η) (AE η (fun a_ => ?_) (fun a_ => ?_))
 refine Zs (Zn Ah (AK CZ ?_))
 exact ⟨AU (HT (k := k) (Classical.not_not.1 a1) ω ω hno (Ht bf ω hnw (UW (by have h9 := a_; simpa using h9)) υ) υ).symm, o⟩
 refine AF (AB ?_)
 have cV : C2 ((ts.getD k default).words.getD kw default).strip := by have h9 := a_; simpa using h9
 refine AA (Zo (AJ rfl η Gp) (Zo (AH rfl BF η (B18.at.cell 1 η)) (Zo (CR rfl η η) (Zo Br ?_))))
 refine Ab rfl Aq rfl (fun C => Ar) ?_
 refine Ab rfl Aq rfl (fun C => AJ rfl η Gp) ?_
 refine Ab rfl Aq rfl (fun C => AH rfl BF (Af C) (B18.at.cell 1 η)) ?_
 refine Bb rfl Aq rfl (fun C => Am rfl (An (v := .slice _ _ _) (Af C) (An (v := S _) (Af C) (rfl))) func57 rfl ζ) (fun C => (Il (a7.now o)).mono (fun e w' h => ⟨h.1, h.2⟩)) (fun dR F23 => ?_)
 have dt := F23.size
 replace o := Z0 o F23
 replace B9 := B9.evo0 F23
 refine Ab rfl Aq rfl (fun C => Cx rfl (Af C) η) ?_
 refine Zn Fm (AE η (fun ba => ?_) (fun ba => ?_))
 refine Zs (Zn Ah (AK CZ ?_))
 exact ⟨AU (HT (k := k) (Classical.not_not.1 a1) ω ω hno (Ht bf ω hnw (Uc cV ba) υ) υ).symm, o⟩
 refine AF (AO (AA (Zo A8 (Zn AN (Zg (kw + 1) ?_)))))
 refine ⟨σ, δ, B9, (CS hnw (QR cV ba)), δ, o⟩
 refine AW rfl (Zs (Zo (AJ rfl η Ea) (Zo (AH rfl EU η (B9.at.cell 1 η)) (Zo (AJ rfl η Gx) (Zo (AH rfl EU η (B9.at.cell 2 η)) (Av (pv := [(0, .slice _ _ _), (1, .slice _ _ _)]) (zs := [_]) (cs := [_, _]) underlying91 ML η rfl η rfl η ?_))))))
 intro b25 w26 J25 E26 B25 Y25
 have du := E26.size
 replace o := Z0 o E26
 replace ht := aT.now o
 replace hc := a7.now o
 have bM : RowR w26 (some ⟨b25, 0, none⟩) b25 0 2 ([(ts.getD k default).req, (ts.getD k default).forb] : List (List AQ)) := U9 [[_], [_]] ([(ts.getD k default).req, (ts.getD k default).forb] : List (List AQ)) B25 rfl ((RepL.one (Lj (R _ o))).append (RepL.one (Lj (J _ o)))) rfl
 refine Zo (AL rfl η underlying91) (Zn AN (AD ?_))
 have bl : ∀ j, j < (ts.getD k default).words.length → GQ c ((ts.getD k default).words.getD j default) = 0 := fun j hj => hnw j ω
 have dz : ([(ts.getD k default).req, (ts.getD k default).forb] : List (List AQ)).length = 2 := rfl
 refine AZ (α := Nat) [4, 11, 13, 14, 15, 80, 81, 82, 83, 84, 85, 86, 87, 88, 89, 90, 91, 92, 93, 94, 95, 96, 97, 98] (fun i g w => g 80 = .int .i64 (i : Nat) ∧ i ≤ 2 ∧ RowR w (some ⟨b25, 0, none⟩) b25 0 2 ([(ts.getD k default).req, (ts.getD k default).forb] : List (List AQ)) ∧ (∀ j, j < i → DK Ou (([(ts.getD k default).req, (ts.getD k default).forb] : List (List AQ)).getD j default) = 0) ∧ w26.heap.size ≤ w.heap.size ∧ Evo w0 w []) (fun i => 2 - i) 0 ?_ ?_
 refine ⟨σ, δ, bM, (fun j h => by omega), δ, o⟩
 rintro i g dn ⟨cQ, hk_i, ag, hno2, hzl27, o⟩
 have b0 := o.size
 replace ht := aT.now o
 replace hc := a7.now o
 replace bx := a6 _ o
 replace bz := U _ o
 replace cb := R _ o
 replace ca := J _ o
 refine Zk 80 cQ (Zs (Zn Bu (AB (AE η (fun cH => ?_) (fun cH => ?_)))))
 refine AF (AB (AD (Zs (Zo (AV (i) rfl underlying91 ML η η χ ω (ag.addr (i := i) ω)) ?_))))
 obtain ⟨b3, c_, bQ, bn, b8, I⟩ := cP ag (i) ω
 have bW := I.bd
 refine Zo (AH rfl EU η (b8.cell 0 η)) (Zn Bs (Zs (Zo Ar (Zo (AL rfl η underlying77) (Zn AN (AD (AZ (α := Nat) [4, 13, 14, 15, 86, 87, 88, 89, 90, 91, 92, 93, 94, 95, 96, 97] (fun kp g w => g 86 = .int .i64 (kp : Nat) ∧ kp ≤ (([(ts.getD k default).req, (ts.getD k default).forb] : List (List AQ)).getD i default).length ∧ RowR w (some ⟨b25, 0, none⟩) b25 0 2 ([(ts.getD k default).req, (ts.getD k default).forb] : List (List AQ)) ∧ RowE w b3 c_ bQ bn (([(ts.getD k default).req, (ts.getD k default).forb] : List (List AQ)).getD i default) ∧ (∀ j, j < kp → Ou ((([(ts.getD k default).req, (ts.getD k default).forb] : List (List AQ)).getD i default).getD j default) = 0) ∧ dn.heap.size ≤ w.heap.size ∧ Evo w0 w []) (fun kp => (([(ts.getD k default).req, (ts.getD k default).forb] : List (List AQ)).getD i default).length - kp) 0 ?_ ?_)))))))
 refine ⟨σ, δ, ag, I, (fun j h => by omega), δ, o⟩
 rintro kp g dS ⟨cR, hk_kp, ag, I, hnp, hzl32, o⟩
 have b1 := o.size
 refine Zk 86 cR (Zs (Zn Bu (AB (AE η (fun cI => ?_) (fun cI => ?_)))))
 refine AF (AB (AD (Zs (Zo (AV (kp) rfl underlying77 BW η η χ ω (I.addr (i := kp) ω)) ?_))))
 have b_ := I.atD (kp) ω
 refine Zo (AH rfl BF η (b_.cell 0 η)) (Zn CD (Zs (Zo Au (Zr [S _] rfl η func58 (Ja (aP dh ω ω)) ?_))))
 rintro e dT ⟨bm, lp37, rfl, F37, hop37, hlp37⟩
 refine ⟨_, rfl, ?_⟩
 have dv := F37.size
 replace o := Z0 o F37
 replace ag := ag.evo0 F37
 replace I := I.evo0 F37
 refine Zo S4 (Zo (AX (v := bm) rfl η η) (Zo (AX (v := .bool _) rfl η η) (Zo (AM (v := bm) rfl η) (Zn A6 (Zs (Zo Br (Zn (CQ rfl η) (AE η (fun bb => ?_) (fun bb => ?_)))))))))
 refine Zs (Zn Ah (AK CZ ?_))
 exact ⟨AU (HT (k := k) (Classical.not_not.1 a1) ω ω hno (Pf bf bl ω hno2 ω hnp (by have h9 := bb; simpa using h9)) υ).symm, o⟩
 refine AF (AO (AA (Zo A8 (Zn AN (Zg (kp + 1) ?_)))))
 refine ⟨σ, δ, ag, I, (CS hnp (Qt (by have h9 := bb; simpa using h9))), δ, o⟩
 refine AW rfl (AO (AA (Zo A8 (Zn AN (Zg (i + 1) ?_)))))
 refine ⟨σ, δ, ag, (CS hno2 (D6 (fun j hj => hnp j ω))), δ, o⟩
 refine AW rfl (AO (AA (Zo A8 (Zn AN (Zg (k + 1) ?_)))))
 refine ⟨σ, δ, (CS hno (OT bf bl (fun j hj => hno2 j (by simp at *; omega)))), δ, o⟩
 refine AW rfl (Zs (Zn Ah (AK CZ ?_)))
 exact ⟨AU (LX (Classical.not_not.1 a1) ω (fun j hj => hno j ω)).symm, o⟩
end Go.Proofs.YtlfjocbnbceceaaGreatDoor
namespace Go.Vc
open Go Go.RowKit Go.IntWalk Go.Deep
structure TmsL where
  ts : List TermL
deriving Inhabited
instance : Rep TmsL where
  n := 1
  rep w cs x := ∃ ao b off cap, cs = [.slice ao x.ts.length cap] ∧ RowR w ao b off cap x.ts
  len := fun ⟨_, _, _, _, h, _⟩ => by rw [h]; rfl
  evo0 := fun ⟨ao, b, off, cap, h, h1⟩ he => ⟨ao, b, off, cap, h, h1.evo0 he⟩
  pos := by decide
end Go.Vc
namespace Go.Proofs.YtlfjocbnbceceaaGreatDoor
open Go.RowKit Go.Vc Go.Proofs.Tryz
structure MF (nested : Bool) (f : List Vc.Item) : Prop where
  val : ES [] f = 0
  len : f.length ≤ 16
  size : BK f ≤ 240
  shp : nested = true → BE f = some ([], [])
theorem MF.small {n : Bool} {f : List Vc.Item} (h : MF n f) : Fh f := ⟨by have := h.len; omega, by have := h.size; omega⟩
def Wv (f : List Vc.Item) : List Int := ((BE f).getD ([], [])).1
def Wt (f : List Vc.Item) : List Int := ((BE f).getD ([], [])).2
theorem T5 {f : List Vc.Item} {k : Nat} (hk : k ≤ f.length) (h : BE (f.take k) = none) : BE f = none := by
  have e : ∀ l : List Vc.Item, l.foldl CM none = none := fun l => by
    induction l with
    | nil => rfl
    | cons x l ih => rw [List.foldl_cons]; exact ih
  have h1 : BE f = (f.drop k).foldl CM (BE (f.take k)) := by
    unfold BE; rw [← List.foldl_append, List.take_append_drop]
  rw [h1, h, e]
theorem Rj {f : List Vc.Item} {k : Nat} {c s : List Int} (hk : k < f.length) (j : BE (f.take k) = some (c, s)) (h : (f.getD k default).kind = 3) (o : ¬ s.length = 0) (he : ¬ s.getD (s.length - 1) default = (f.getD k default).id) : BE f = none :=
  T5 (k := k + 1) ω (by rw [Aw f k hk, TP j h o he])
theorem I7 {f : List Vc.Item} {c s : List Int} (h : BE f = some (c, s)) : (BE f).isSome = true ∧ Wv f = c ∧ Wt f = s := by unfold Wv Wt; rw [h]; exact ⟨rfl, rfl, rfl⟩
theorem I6 {f : List Vc.Item} (h : BE f = none) : (BE f).isSome = false ∧ Wv f = [] ∧ Wt f = [] := by unfold Wv Wt; rw [h]; exact ⟨rfl, rfl, rfl⟩
theorem MJ {ao : Option Addr} {b off cap : Nat} {f : List Vc.Item} {w0 : World} (hf : RowE w0 ao b off cap f) (bn : Fh f) :
    Calls Tryz.prog 23 #[.slice ao f.length cap] w0 fun e w' => ∃ v u, e = .returned (.tuple #[v, u, .bool (BE f).isSome]) ∧ Evo w0 w' [] ∧ OwnE w' w0.heap.size 3 v (Wv f) ∧ OwnE w' w0.heap.size 3 u (Wt f) := by
 have bY := bn.1
 refine AG (n := 63) func23 rfl ntmps23 rfl ?_
 have hV : Evo w0 w0 [] := Evo.refl _ _
 have bc := Ak hf
 have bl := hf.bd
 refine Zs (Zo Bs (Zo Bs (Zn A6 (AB (Zs (Zo Ar (Zo (AL rfl η underlying33) (Zn AN (AD ?_)))))))))
 refine AZ (α := Nat) [2, 3, 4, 6, 9, 10, 11, 12, 13, 14, 15, 16, 17, 18, 19, 20, 21, 22, 23, 24, 25, 26, 27, 28, 29, 30, 31, 32, 33, 34, 35, 36, 37, 38, 39, 40, 41, 42, 43, 44, 45, 46, 47, 48, 49, 50, 51, 52, 53, 54, 55, 56, 57, 58, 59, 60] (fun k g w => ∃ vc : Value, ∃ vo : Value, ∃ cl : List Int, ∃ op : List Int, g 9 = .int .i64 (k : Nat) ∧ g 2 = vc ∧ g 3 = vo ∧ k ≤ f.length ∧ OwnE w w0.heap.size 3 vc cl ∧ OwnE w w0.heap.size 3 vo op ∧ Sep vc vo ∧ BE (f.take k) = some (cl, op) ∧ (cl.length ≤ k ∧ op.length ≤ k) ∧ w0.heap.size ≤ w.heap.size ∧ Evo w0 w []) (fun k => f.length - k) 0 ?_ ?_
 refine ⟨_, _, [], [], σ, rfl, rfl, δ, (OwnE.nil _ _ _), (OwnE.nil _ _ _), (Sep.nil_l _), rfl, (by simp), δ, hV⟩
 rintro k g w2 ⟨vc, vo, cl, op, hj3, hj4, hj5, hk_k, C, o, hsep, hsh, hlen, hzl1, hV⟩
 have bf := hV.size
 refine Zk 9 hj3 (Zk 2 hj4 (Zk 3 hj5 (Zs (Zn Bu (AB (AE η (fun bm => ?_) (fun bm => ?_)))))))
 refine AF (AB (AD (AB ?_)))
 have aT := fun g j => (C.block (g := g) j).2; have a1 := fun g j => (o.block (g := g) j).2
 refine AA (Zo (AV (k) rfl underlying33 Ag η η χ ω ((bc _ hV).addr (i := k) ω)) ?_)
 have bb := fun (w' : World) (h : Evo w0 w' []) => (bc w' h).atD (k) ω
 refine Zo (AY rfl CT Ag η rfl (bb _ hV)) ?_
 have bx := fun g j => (C.block (g := g) j).2
 have bz := fun g j => (o.block (g := g) j).2
 refine CO (zs := [_, _, _]) (vs := [_, _, _]) Ag η rfl η (fun _ => rfl) η rfl rfl η ?_
 intro b10 w11 J10 E11 B10 Y10
 have bF := E11.size
 replace hV := Z0 hV E11
 replace C := C.evo0 E11
 replace o := o.evo0 E11
 refine As (AD (Zs (Zo (AJ rfl η Bo) (Zo (AH rfl A0 η (B10.at.cell 0 η)) (Zo C3 (Zn A6 (AE η (fun I => ?_) (fun I => ?_))))))))
 refine AA (Zo (AP (v := vo) rfl η) (Zo (AJ rfl η DU) (Zo (AH rfl A0 η (B10.at.cell 2 η)) (Ad (u := .int _ _) (y := _) rfl rfl underlying22 Cf η o (fun _ => η) η ξ₁ (ω) (ω) ω ?_))))
 intro q_v13 v13 w14 E14 hov13 hlv13
 have bL := E14.size
 replace hV := AI hV E14 (fun g j => .inl (by first | exact (o.block j).1 | (have := o.block j; omega)))
 replace C := C.evo E14 (by intro g j hm; exact hsep _ j _ (Option.mem_toList.1 hm) rfl)
 refine Zn (AM (v := v13) rfl η) (AO (AO (AA (Zo A8 (Zn AN (Zg (k + 1) ?_))))))
 refine ⟨_, _, _, _, σ, rfl, rfl, δ, C, hov13, (by first | exact hsep | exact (hsep.symm.grow hlv13 aT ω).symm | exact hsep.grow hlvc a1 ω | exact (hsep.symm.same hlv13).symm), (by first | exact (Aw f k ω).trans (DY hsh κ) | exact (Aw f k ω).trans (Dn hsh (by first | assumption | exact I.1) (by first | omega | (have := I; omega))) | exact (Aw f k ω).trans (DA hsh (by first | assumption | exact I.1) ω (by first | exact I | exact I.2)) | exact (Aw f k ω).trans ((Bp ω ω).trans hsh)), (by first | omega | (simp only [List.length_append, List.length_cons, List.length_nil, List.length_take]; omega)), δ, hV⟩
 refine Zs (Zo (AJ rfl η Bo) (Zo (AH rfl A0 η (B10.at.cell 0 η)) (Zo C3 (Zo Br ?_))))
 refine Ab rfl Aq rfl (fun j => AP (v := vo) rfl η) ?_
 refine Ab rfl Aq rfl (fun j => Bn rfl (Af j) underlying22 o) ?_
 refine Ab rfl Aq rfl (fun j => A1 rfl (Af j) η) ?_
 refine Zo Fm (Zn A6 (AE η (fun J => ?_) (fun J => ?_)))
 refine AA (Zo (AP (v := vc) rfl η) (Zo (AJ rfl η DU) (Zo (AH rfl A0 η (B10.at.cell 2 η)) (Ad (u := .int _ _) (y := _) rfl rfl underlying22 Cf η C (fun _ => η) η ξ₁ (ω) (ω) ω ?_))))
 intro q_v16 v16 w17 E17 hov16 hlv16
 have bM := E17.size
 replace hV := AI hV E17 (fun g j => .inl (by first | exact (C.block j).1 | (have := C.block j; omega)))
 replace o := o.evo E17 (by intro g j hm; exact hsep.symm _ j _ (Option.mem_toList.1 hm) rfl)
 refine Zn (AM (v := v16) rfl η) (AO (AO (AA (Zo A8 (Zn AN (Zg (k + 1) ?_))))))
 refine ⟨_, _, _, _, σ, rfl, rfl, δ, hov16, o, (by first | exact hsep | exact (hsep.symm.grow hlvo aT ω).symm | exact hsep.grow hlv16 a1 ω | exact (hsep.symm.same hlvo).symm), (by first | exact (Aw f k ω).trans (DY hsh κ) | exact (Aw f k ω).trans (Dn hsh (by first | assumption | exact J.1) (by first | omega | (have := J; omega))) | exact (Aw f k ω).trans (DA hsh (by first | assumption | exact J.1) ω (by first | exact J | exact J.2)) | exact (Aw f k ω).trans ((Bp ω ω).trans hsh)), (by first | omega | (simp only [List.length_append, List.length_cons, List.length_nil, List.length_take]; omega)), δ, hV⟩
 refine AB ?_
 obtain ⟨bq, g18, bs, bg, a6, bw⟩ := o.rowOf
 subst bg
 refine Ba ζ ζ (Zq (fun w' hC => AJ rfl η Bo) (Zq (fun w' hC => AH rfl A0 η ((B10.at.evo0 hC).cell 0 η)) (Zq (fun w' hC => A1 rfl η η) (Zq (fun w' hC => Br) ?_))))
 refine Dm rfl Aq rfl (fun j w' hC => Ar) ?_
 refine Dm rfl Aq rfl (fun j w' hC => Ar) ?_
 refine Dm rfl Aq rfl (fun j w' hC => AL rfl (Af j) underlying22) ?_
 refine Dm rfl Aq rfl (fun j w' hC => DZ rfl (Af j) η ω ω) ?_
 refine Dm rfl Aq rfl (fun j w' hC => AV ((op.length - 1)) rfl underlying22 Cf (Af j) (Af j) ω ω (a6.addr (i := (op.length - 1)) ω)) ?_
 refine Dm rfl Aq rfl (fun j w' hC => AH rfl A0 (Af j) (((a6.atD ((op.length - 1)) ω).evo0 hC).cell 0 η)) ?_
 refine Dm rfl Aq rfl (fun j w' hC => AJ rfl η DU) ?_
 refine Dm rfl Aq rfl (fun j w' hC => AH rfl A0 (Af j) ((B10.at.evo0 hC).cell 2 η)) ?_
 refine Dm rfl Aq rfl (fun j w' hC => A1 rfl (Af j) (Af j)) ?_
 refine Zq (fun w' hC => Bc rfl η (fun hq => IK η (fun h => h) hq) rfl) ?_
 refine Zq (fun w' hC => A6) (EE (fun b0 F20 => ?_))
 have bQ := F20.size
 replace hV := Z0 hV F20
 replace C := C.evo0 F20
 replace o := o.evo0 F20
 replace B10 := B10.evo0 F20
 replace a6 := a6.evo0 F20
 refine AE η (fun R => ?_) (fun R => ?_)
 refine AA (Zo Ar (Zo Ar (Zo (AL rfl η underlying22) (Zo JV (S8 ((op.length - 1)) rfl underlying22 Cf o η (dB η ω) ω ω ?_)))))
 intro v22 hov22 hlv22
 refine Zn (AM (v := v22) rfl η) (AO (AO (AA (Zo A8 (Zn AN (Zg (k + 1) ?_))))))
 refine ⟨_, _, _, _, σ, rfl, rfl, δ, C, hov22, (by first | exact hsep | exact (hsep.symm.grow hlv22 aT ω).symm | exact hsep.grow hlvc a1 ω | exact (hsep.symm.same hlv22).symm), (by first | exact (Aw f k ω).trans (DY hsh κ) | exact (Aw f k ω).trans (Dn hsh (by first | assumption | exact R.1) (by first | omega | (have := R; omega))) | exact (Aw f k ω).trans (DA hsh (by first | assumption | exact R.1) ω (by first | exact R | exact R.2)) | exact (Aw f k ω).trans ((Bp ω ω).trans hsh)), (by first | omega | (simp only [List.length_append, List.length_cons, List.length_nil, List.length_take]; omega)), δ, hV⟩
 refine Zs (Zo (AJ rfl η Bo) (Zo (AH rfl A0 η (B10.at.cell 0 η)) (Zo C3 (Zn A6 (AE η (fun U => ?_) (fun U => ?_))))))
 refine AB ?_
 have ba : BE f = none := Rj ω hsh κ ω ω
 refine AA (Zo Bs (Zo Bs (Zn A6 (AK (Zy (v := .slice _ _ _) (u := .slice _ _ _) (x := .bool _) rfl η η η) ?_))))
 exact ⟨_, _, by rw [(I6 ba).1], hV, by rw [(I6 ba).2.1]; exact OwnE.nil _ _ _, by rw [(I6 ba).2.2]; exact OwnE.nil _ _ _⟩
 refine AF (AO (AO (AA (Zo A8 (Zn AN (Zg (k + 1) ?_))))))
 refine ⟨_, _, _, _, σ, rfl, rfl, δ, C, o, (by first | exact hsep | exact (hsep.symm.grow hl.slice _ _ _ aT ω).symm | exact hsep.grow hlvc a1 ω | exact (hsep.symm.same hl.slice _ _ _).symm), (by first | exact (Aw f k ω).trans (DY hsh κ) | exact (Aw f k ω).trans (Dn hsh (by first | assumption | exact U.1) (by first | omega | (have := U; omega))) | exact (Aw f k ω).trans (DA hsh (by first | assumption | exact U.1) ω (by first | exact U | exact U.2)) | exact (Aw f k ω).trans ((Bp ω ω).trans hsh)), (by first | omega | (simp only [List.length_append, List.length_cons, List.length_nil, List.length_take]; omega)), δ, hV⟩
 refine AW rfl (AB ?_)
 rw [List.take_of_length_le ω] at hsh
 refine AA (Zo (AP (v := vc) rfl η) (Zo (AP (v := vo) rfl η) (Zo (AM (v := vc) rfl η) (Zo (AM (v := vo) rfl η) (Zn A6 (AK (Zy (v := vc) (u := vo) (x := .bool _) rfl η η η) ?_))))))
 exact ⟨_, _, by rw [(I7 hsh).1], hV, by rw [(I7 hsh).2.1]; exact C, by rw [(I7 hsh).2.2]; exact o⟩
theorem Kd {ao : Option Addr} {b off cap : Nat} {f : List Vc.Item} {U : World} (hf : RowE U ao b off cap f) (bw : Fh f) :
    Calls Tryz.prog 82 #[.slice ao f.length cap] U fun e w' => ∃ v u, e = .returned (.tuple #[v, u, .bool (BE f).isSome]) ∧ Evo U w' [] ∧ OwnE w' U.heap.size 3 v (Wv f) ∧ OwnE w' U.heap.size 3 u (Wt f) := by
 have bY := bw.1
 refine AG (n := 63) func82 rfl ntmps82 rfl ?_
 have C : Evo U U [] := Evo.refl _ _
 have a8 := Ak hf
 have bs := hf.bd
 refine Zs (Zo Bs (Zo Bs (Zn A6 (Zs (Zo Bs (Zn Bs (AB (Zs (Zo Ar ?_)))))))))
 refine Zo (AL rfl η underlying33) (Zn AN (AD (AZ (α := Nat) [2, 3, 4, 5, 6, 7, 8, 11, 12, 13, 14, 15, 16, 17, 18, 19, 20, 21, 22, 23, 24, 25, 26, 27, 28, 29, 30, 31, 32, 33, 34, 35, 36, 37, 38, 39, 40, 41, 42, 43, 44, 45, 46, 47, 48, 49, 50, 51, 52, 53, 54, 55, 56, 57, 58, 59, 60] (fun k g w => ∃ vc : Value, ∃ vo : Value, ∃ cl : List Int, ∃ op : List Int, g 11 = .int .i64 (k : Nat) ∧ g 5 = vc ∧ g 6 = vo ∧ k ≤ f.length ∧ OwnE w U.heap.size 3 vc cl ∧ OwnE w U.heap.size 3 vo op ∧ Sep vc vo ∧ BE (f.take k) = some (cl, op) ∧ (cl.length ≤ k ∧ op.length ≤ k) ∧ U.heap.size ≤ w.heap.size ∧ Evo U w []) (fun k => f.length - k) 0 ?_ ?_)))
 refine ⟨_, _, [], [], σ, rfl, rfl, δ, (OwnE.nil _ _ _), (OwnE.nil _ _ _), (Sep.nil_l _), rfl, (by simp), δ, C⟩
 rintro k g w2 ⟨vc, vo, cl, op, hj3, hj4, hj5, hk_k, o, j, hsep, hsh, hlen, hzl1, C⟩
 have bp := C.size
 replace hf := a8 _ C
 refine Zk 11 hj3 (Zk 5 hj4 (Zk 6 hj5 (Zs (Zn Bu (AB (AE η (fun bt => ?_) (fun bt => ?_)))))))
 refine AF (AB (AD (AB ?_)))
 have ag := fun g hg => (o.block (g := g) hg).2; have az := fun g hg => (j.block (g := g) hg).2
 refine AA (Zo AN (Zn Ah (Zs (Zo Ar (Zo AN (Zo (AV (k) rfl underlying33 Ag η η χ ω (hf.addr (i := k) ω)) ?_))))))
 have bm := fun (w' : World) (h : Evo U w' []) => (a8 w' h).atD (k) ω
 refine Zo (AJ rfl η Bo) (Zn (AH rfl A0 η ((bm _ C).cell 0 η)) (AD (Zs (Zo C3 (Zn A6 (AE η (fun a6 => ?_) (fun a6 => ?_)))))))
 refine AA (Zo (AP (v := vo) rfl η) (Zo Ar (Zo AN (Zo (AV (k) rfl underlying33 Ag η η χ ω (hf.addr (i := k) ω)) ?_))))
 have bn := fun (w' : World) (h : Evo U w' []) => (a8 w' h).atD (k) ω
 refine Zo (AJ rfl η DU) (Zo (AH rfl A0 η ((bn _ C).cell 2 η)) (Ad (u := .int _ _) (y := _) rfl rfl underlying22 Cf η j (fun _ => η) η ξ₁ (ω) (ω) ω ?_))
 intro q_v10 v10 w11 E11 hov10 hlv10
 have bM := E11.size
 replace C := AI C E11 (fun g hg => .inl (by first | exact (j.block hg).1 | (have := j.block hg; omega)))
 replace o := o.evo E11 (by intro g hg hm; exact hsep _ hg _ (Option.mem_toList.1 hm) rfl)
 refine Zn (AM (v := v10) rfl η) (AO (AO (AA (Zo A8 (Zn AN (Zg (k + 1) ?_))))))
 refine ⟨_, _, _, _, σ, rfl, rfl, δ, o, hov10, (by first | exact hsep | exact (hsep.symm.grow hlv10 ag ω).symm | exact hsep.grow hlvc az ω | exact (hsep.symm.same hlv10).symm), (by first | exact (Aw f k ω).trans (DY hsh κ) | exact (Aw f k ω).trans (Dn hsh (by first | assumption | exact a6.1) (by first | omega | (have := a6; omega))) | exact (Aw f k ω).trans (DA hsh (by first | assumption | exact a6.1) ω (by first | exact a6 | exact a6.2)) | exact (Aw f k ω).trans ((Bp ω ω).trans hsh)), (by first | omega | (simp only [List.length_append, List.length_cons, List.length_nil, List.length_take]; omega)), δ, C⟩
 refine Zs (Zo C3 (Zn A6 (AE η (fun I => ?_) (fun I => ?_))))
 refine Zs (Zo (AP (v := vo) rfl η) (Zo (Bn rfl η underlying22 j) (Zn Ah (AD (Zs (Zo AN (Zo C3 (Zn A6 (AE η (fun J => ?_) (fun J => ?_))))))))))
 refine AA (Zo (AP (v := vc) rfl η) (Zo Ar (Zo AN (Zo (AV (k) rfl underlying33 Ag η η χ ω (hf.addr (i := k) ω)) ?_))))
 have bb := fun (w' : World) (h : Evo U w' []) => (a8 w' h).atD (k) ω
 refine Zo (AJ rfl η DU) (Zo (AH rfl A0 η ((bb _ C).cell 2 η)) (Ad (u := .int _ _) (y := _) rfl rfl underlying22 Cf η o (fun _ => η) η ξ₁ (ω) (ω) ω ?_))
 intro q_v15 v15 w16 E16 hov15 hlv15
 have bQ := E16.size
 replace C := AI C E16 (fun g hg => .inl (by first | exact (o.block hg).1 | (have := o.block hg; omega)))
 replace j := j.evo E16 (by intro g hg hm; exact hsep.symm _ hg _ (Option.mem_toList.1 hm) rfl)
 refine Zn (AM (v := v15) rfl η) (AO (AO (AO (AA (Zo A8 (Zn AN (Zg (k + 1) ?_)))))))
 refine ⟨_, _, _, _, σ, rfl, rfl, δ, hov15, j, (by first | exact hsep | exact (hsep.symm.grow hlvo ag ω).symm | exact hsep.grow hlv15 az ω | exact (hsep.symm.same hlvo).symm), (by first | exact (Aw f k ω).trans (DY hsh κ) | exact (Aw f k ω).trans (Dn hsh (by first | assumption | exact J.1) (by first | omega | (have := J; omega))) | exact (Aw f k ω).trans (DA hsh (by first | assumption | exact J.1) ω (by first | exact J | exact J.2)) | exact (Aw f k ω).trans ((Bp ω ω).trans hsh)), (by first | omega | (simp only [List.length_append, List.length_cons, List.length_nil, List.length_take]; omega)), δ, C⟩
 refine AB ?_
 obtain ⟨bz, g17, bF, bq, aT, bL⟩ := j.rowOf
 subst bq
 refine Ba ζ ζ (Zq (fun w' hC => Ar) (Zq (fun w' hC => AN) (Zq (fun w' hC => DZ rfl η η ω ω) (Zq (fun w' hC => AV ((op.length - 1)) rfl underlying22 Cf η η ω ω (aT.addr (i := (op.length - 1)) ω)) ?_))))
 have bl := aT.atD ((op.length - 1)) ω
 refine Zq (fun w' hC => AH rfl A0 η ((bl.evo0 hC).cell 0 η)) (Zq (fun w' hC => Ar) (Zq (fun w' hC => AN) (Zq (fun w' hC => AV (k) rfl underlying33 Ag η η χ ω (hf.addr (i := k) ω)) ?_)))
 have bc := fun (w' : World) (h : Evo U w' []) => (a8 w' h).atD (k) ω
 refine Zq (fun w' hC => AJ rfl η DU) (Zq (fun w' hC => AH rfl A0 η (((bc _ C).evo0 hC).cell 2 η)) (Zq (fun w' hC => A1 rfl η η) (Zq (fun w' hC => A6) (EE (fun b0 F21 => ?_)))))
 have bW := F21.size
 replace C := Z0 C F21
 replace o := o.evo0 F21
 replace j := j.evo0 F21
 replace aT := aT.evo0 F21
 refine AE η (fun R => ?_) (fun R => ?_)
 refine AA (Zo Ar (Zo AN (Zo JV (S8 ((op.length - 1)) rfl underlying22 Cf j η (dB η ω) ω ω ?_))))
 intro v23 hov23 hlv23
 refine Zn (AM (v := v23) rfl η) (AO (AO (AO (AA (Zo A8 (Zn AN (Zg (k + 1) ?_)))))))
 refine ⟨_, _, _, _, σ, rfl, rfl, δ, o, hov23, (by first | exact hsep | exact (hsep.symm.grow hlv23 ag ω).symm | exact hsep.grow hlvc az ω | exact (hsep.symm.same hlv23).symm), (by first | exact (Aw f k ω).trans (DY hsh κ) | exact (Aw f k ω).trans (Dn hsh (by first | assumption | exact R.1) (by first | omega | (have := R; omega))) | exact (Aw f k ω).trans (DA hsh (by first | assumption | exact R.1) ω (by first | exact R | exact R.2)) | exact (Aw f k ω).trans ((Bp ω ω).trans hsh)), (by first | omega | (simp only [List.length_append, List.length_cons, List.length_nil, List.length_take]; omega)), δ, C⟩
 refine AB ?_
 have bg : BE f = none := Rj ω hsh κ ω ω
 refine AA (Zo Bs (Zo Bs (Zn A6 (AK (Zy (v := .slice _ _ _) (u := .slice _ _ _) (x := .bool _) rfl η η η) ?_))))
 exact ⟨_, _, by rw [(I6 bg).1], C, by rw [(I6 bg).2.1]; exact OwnE.nil _ _ _, by rw [(I6 bg).2.2]; exact OwnE.nil _ _ _⟩
 refine AF (AO (AO (AA (Zo A8 (Zn AN (Zg (k + 1) ?_))))))
 refine ⟨_, _, _, _, σ, rfl, rfl, δ, o, j, (by first | exact hsep | exact (hsep.symm.grow hlvo ag ω).symm | exact hsep.grow hlvc az ω | exact (hsep.symm.same hlvo).symm), (by first | exact (Aw f k ω).trans (DY hsh κ) | exact (Aw f k ω).trans (Dn hsh (by first | assumption | exact I.1) (by first | omega | (have := I; omega))) | exact (Aw f k ω).trans (DA hsh (by first | assumption | exact I.1) ω (by first | exact I | exact I.2)) | exact (Aw f k ω).trans ((Bp ω ω).trans hsh)), (by first | omega | (simp only [List.length_append, List.length_cons, List.length_nil, List.length_take]; omega)), δ, C⟩
 refine AW rfl (AB ?_)
 rw [List.take_of_length_le ω] at hsh
 refine AA (Zo (AP (v := vc) rfl η) (Zo (AP (v := vo) rfl η) (Zo (AM (v := vc) rfl η) (Zo (AM (v := vo) rfl η) (Zn A6 (AK (Zy (v := vc) (u := vo) (x := .bool _) rfl η η η) ?_))))))
 exact ⟨_, _, by rw [(I7 hsh).1], C, by rw [(I7 hsh).2.1]; exact o, by rw [(I7 hsh).2.2]; exact j⟩
end Go.Proofs.YtlfjocbnbceceaaGreatDoor
