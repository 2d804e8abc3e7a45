/-
  Library, plain laws and walks that the statements reach (joined by a program out of smaller texts).
-/
import Derived.Test.YtlfjocbnbceceaaGreatDoorBf
import Derived.Test.YtlfjocbnbceceaaGreatDoorBa
import Derived.Test.YtlfjocbnbceceaaGreatDoorBe
import Derived.Test.YtlfjocbnbceceaaGreatDoorBb
import Derived.Test.YtlfjocbnbceceaaGreatDoorBd
import Derived.MapKept
set_option linter.unusedVariables false
set_option linter.unusedSimpArgs false
namespace Go.Proofs.YtlfjocbnbceceaaGreatDoor
open Go.RowKit Go.Vc Go.Proofs.Tryz
theorem HJ : KeyLaw Tryz.prog 32 (fun x : Vc.Item => Value.agg (Enc.enc x).toArray) := Xv underlying32 υ υ υ rfl rfl rfl underlying3 underlying9 underlying3 A0 BF A0 Ur
theorem Ks {f : List Vc.Item} {k : Nat} (h : k < f.length) (j : DE (f.getD k default) = false) : Ac (f.take (k + 1)) = Ac (f.take k) := aN h (by rw [j]; simp)
theorem SP {w : World} {base : Nat} {v : Value} {l : List AQ} (h : OwnE w base 9 v l) : Calls Tryz.prog 91 #[v] w fun e w' => e = .returned (.tuple #[]) ∧ Evo w w' v.ownBlock.toList ∧ OwnE w' base 9 v (Fu l) :=
  Yr Tryz.slices_Sort_string (Tryz.slices_Sort_string_none none 0) h
theorem NF {ao : Option Addr} {b off cap : Nat} {f : List Vc.Item} {I : World} (hf : RowE I ao b off cap f) (a6 : Fh f) :
    Calls Tryz.prog 46 #[.slice ao f.length cap] I fun e w' => ∃ v, e = .returned v ∧ Evo I w' [] ∧ OwnE w' I.heap.size 32 v (Ac f) := by
 have bf := a6.1
 refine AG (n := 20) func46 rfl ntmps46 rfl ?_
 have C : Evo I I [] := Evo.refl _ _
 have ag := Ak hf
 have aT := hf.bd
 refine Zs (Zn Bs (Zs (Zn Bs (AB (Zs (Zo Ar (Zo (AL rfl η underlying33) (Zn AN (AD ?_)))))))))
 refine AZ (α := Nat) [3, 5, 8, 9, 10, 11, 12, 13, 14, 15, 16, 17, 18] (fun k g w => ∃ J : Value, g 8 = .int .i64 (k : Nat) ∧ g 3 = J ∧ k ≤ f.length ∧ OwnE w I.heap.size 32 J (Ac (f.take k)) ∧ I.heap.size ≤ w.heap.size ∧ Evo I w []) (fun k => f.length - k) 0 ?_ ?_
 refine ⟨_, σ, rfl, δ, (OwnE.nil _ _ _), δ, C⟩
 rintro k g w2 ⟨J, hj3, hj4, hk_k, j, hzl1, C⟩
 have az := C.size
 refine Zk 8 hj3 (Zk 3 hj4 (Zs (Zn Bu (AB (AE η (fun a1 => ?_) (fun a1 => ?_))))))
 refine AF (AB (AD (AB ?_)))
 have ba := fun g R => (j.block (g := g) R).2
 have bg := Ei (f.take k); have bl : (f.take k).length ≤ k := List.length_take_le _ _
 refine AA (Zo (AV (k) rfl underlying33 Ag η η χ ω ((ag _ C).addr (i := k) ω)) ?_)
 have U := fun (w' : World) (h : Evo I w' []) => (ag w' h).atD (k) ω
 refine Zo (AY rfl CT Ag η rfl (U _ C)) ?_
 have a_ := fun g R => (j.block (g := g) R).2
 refine CO (zs := [_, _, _]) (vs := [_, _, _]) Ag η rfl η (fun _ => rfl) η rfl rfl η ?_
 intro b8 w9 J8 E9 B8 Y8
 have Q9 := E9.size
 replace C := Z0 C E9
 replace j := j.evo0 E9
 refine As (Zs (Zo (AY rfl CT Ag η rfl B8.at) (Zr [.agg _] rfl η func90 SI ?_)))
 rintro e bm ⟨rfl, F10⟩
 refine ⟨_, rfl, ?_⟩
 have bb := F10.size
 replace C := Z0 C F10
 replace j := j.evo0 F10
 replace B8 := B8.evo0 F10
 refine As (D8 η (fun o => ?_) (fun o => ?_))
 refine AA (Zo (AP (v := J) rfl η) (Zo (AY rfl CT Ag η rfl B8.at) (Ad (u := .agg _) (y := ⟨_, _, _⟩) rfl rfl underlying33 Ag η j (fun _ => η) η ξ (τ) (τ) ω ?_)))
 intro q_v12 v12 w13 E13 hov12 hlv12
 have bc := E13.size
 replace C := AI C E13 (fun g R => .inl (by first | exact (j.block R).1 | (have := j.block R; omega)))
 refine Zn (AM (v := v12) rfl η) (AO (AA (Zo A8 (Zn AN (Zg (k + 1) ?_)))))
 refine ⟨_, σ, rfl, δ, (by first | (rw [KX ω o]; exact hov12) | (rw [Ks ω o]; exact hov12)), δ, C⟩
 refine AF (AO (AA (Zo A8 (Zn AN (Zg (k + 1) ?_)))))
 refine ⟨_, σ, rfl, δ, (by first | (rw [KX ω o]; exact j) | (rw [Ks ω o]; exact j)), δ, C⟩
 refine AW rfl (Zs (Zo (AP (v := J) rfl η) (Zn (AM (v := J) rfl η) (AK (BN (v := J) rfl η) ?_))))
 exact ⟨_, rfl, C, by rw [List.take_of_length_le ω] at j; exact j⟩
theorem MV {ao : Option Addr} {b off cap : Nat} {f : List Vc.Item} {I : World} (hf : RowE I ao b off cap f) (a6 : Fh f) :
    Calls Tryz.prog 131 #[.slice ao f.length cap] I fun e w' => ∃ v, e = .returned v ∧ Evo I w' [] ∧ OwnE w' I.heap.size 32 v (Ac f) := by
 have bb := a6.1
 refine AG (n := 24) func131 rfl ntmps131 rfl ?_
 have o : Evo I I [] := Evo.refl _ _
 have J := Ak hf
 have aT := hf.bd
 refine Zs (Zn Bs (Zs (Zn Bs (AB (Zs (Zo Ar (Zo (AL rfl η underlying33) (Zn AN (AD ?_)))))))))
 refine AZ (α := Nat) [3, 4, 7, 8, 9, 10, 11, 12, 13, 14, 15, 16, 17, 18, 19, 20, 21, 22] (fun k g w => ∃ R : Value, g 7 = .int .i64 (k : Nat) ∧ g 3 = R ∧ k ≤ f.length ∧ OwnE w I.heap.size 32 R (Ac (f.take k)) ∧ I.heap.size ≤ w.heap.size ∧ Evo I w []) (fun k => f.length - k) 0 ?_ ?_
 refine ⟨_, σ, rfl, δ, (OwnE.nil _ _ _), δ, o⟩
 rintro k g w2 ⟨R, hj3, hj4, hk_k, j, hzl1, o⟩
 have az := o.size
 refine Zk 7 hj3 (Zk 3 hj4 (Zs (Zn Bu (AB (AE η (fun a1 => ?_) (fun a1 => ?_))))))
 refine AF (AB (AD (AB ?_)))
 have bc := Ei (f.take k); have bf : (f.take k).length ≤ k := List.length_take_le _ _
 refine AA (Zo AN (Zn Ah (Zs (Zo Ar (Zo AN (Zo (AV (k) rfl underlying33 Ag η η χ ω ((J _ o).addr (i := k) ω)) ?_))))))
 have U := fun (w' : World) (h : Evo I w' []) => (J w' h).atD (k) ω
 refine Zo (AY rfl CT Ag η rfl (U _ o)) (Zr [.agg _] rfl η func166 RY ?_)
 rintro e w7 ⟨rfl, F7⟩
 refine ⟨_, rfl, ?_⟩
 have Q7 := F7.size
 replace o := Z0 o F7
 replace j := j.evo0 F7
 refine As (D8 η (fun C => ?_) (fun C => ?_))
 refine AA (Zo (AP (v := R) rfl η) (Zo Ar (Zo AN (Zo (AV (k) rfl underlying33 Ag η η χ ω ((J _ o).addr (i := k) ω)) ?_))))
 have ag := fun (w' : World) (h : Evo I w' []) => (J w' h).atD (k) ω
 refine Zo (AY rfl CT Ag η rfl (ag _ o)) (Ad (u := .agg _) (y := ⟨_, _, _⟩) rfl rfl underlying33 Ag η j (fun _ => η) η ξ (τ) (τ) ω ?_)
 intro q_v10 v10 w11 E11 hov10 hlv10
 have ba := E11.size
 replace o := AI o E11 (fun g hg => .inl (by first | exact (j.block hg).1 | (have := j.block hg; omega)))
 refine Zn (AM (v := v10) rfl η) (AO (AA (Zo A8 (Zn AN (Zg (k + 1) ?_)))))
 refine ⟨_, σ, rfl, δ, (by first | (rw [KX ω C]; exact hov10) | (rw [Ks ω C]; exact hov10)), δ, o⟩
 refine AF (AO (AA (Zo A8 (Zn AN (Zg (k + 1) ?_)))))
 refine ⟨_, σ, rfl, δ, (by first | (rw [KX ω C]; exact j) | (rw [Ks ω C]; exact j)), δ, o⟩
 refine AW rfl (Zs (Zo (AP (v := R) rfl η) (Zn (AM (v := R) rfl η) (AK (BN (v := R) rfl η) ?_))))
 exact ⟨_, rfl, o, by rw [List.take_of_length_le ω] at j; exact j⟩
theorem Mi {ao : Option Addr} {b off cap : Nat} {f : List Vc.Item} {I : World} (hf : RowE I ao b off cap f) (a6 : Fh f) :
    Calls Tryz.prog 48 #[.slice ao f.length cap] I fun e w' => ∃ v, e = .returned v ∧ Evo I w' [] ∧ OwnE w' I.heap.size 9 v (Fu (Bv f)) := by
 have bf := a6.1
 refine AG (n := 24) func48 rfl ntmps48 rfl ?_
 have C : Evo I I [] := Evo.refl _ _
 have ag := Ak hf
 have aT := hf.bd
 refine Zs (Zn Bs (Zs (Zn Bs (AB (Zs (Zo Ar (Zo (AL rfl η underlying33) (Zn AN (AD ?_)))))))))
 refine AZ (α := Nat) [3, 5, 8, 9, 10, 11, 12, 13, 14, 15, 16, 17, 18, 19, 20] (fun k g w => ∃ R : Value, g 8 = .int .i64 (k : Nat) ∧ g 3 = R ∧ k ≤ f.length ∧ OwnE w I.heap.size 9 R (Bv (f.take k)) ∧ I.heap.size ≤ w.heap.size ∧ Evo I w []) (fun k => f.length - k) 0 ?_ ?_
 refine ⟨_, σ, rfl, δ, (OwnE.nil _ _ _), δ, C⟩
 rintro k g w2 ⟨R, hj3, hj4, hk_k, j, hzl1, C⟩
 have az := C.size
 refine Zk 8 hj3 (Zk 3 hj4 (Zs (Zn Bu (AB (AE η (fun a1 => ?_) (fun a1 => ?_))))))
 refine AF (AB (AD (AB ?_)))
 have ba := fun g J => (j.block (g := g) J).2
 have bg := Dp (f.take k); have bl : (f.take k).length ≤ k := List.length_take_le _ _; have bm := LA (Bv (f.take k))
 refine AA (Zo (AV (k) rfl underlying33 Ag η η χ ω ((ag _ C).addr (i := k) ω)) ?_)
 have U := fun (w' : World) (h : Evo I w' []) => (ag w' h).atD (k) ω
 refine Zo (AY rfl CT Ag η rfl (U _ C)) ?_
 have a_ := fun g J => (j.block (g := g) J).2
 refine CO (zs := [_, _, _]) (vs := [_, _, _]) Ag η rfl η (fun _ => rfl) η rfl rfl η ?_
 intro b8 w9 J8 E9 B8 Y8
 have Q9 := E9.size
 replace C := Z0 C E9
 replace j := j.evo0 E9
 refine As (Zs (Zo (AJ rfl η Bo) (Zo (AH rfl A0 η (B8.at.cell 0 η)) (Zn C3 (AE η (fun o => ?_) (fun o => ?_))))))
 refine AA (Zo (AP (v := R) rfl η) (Zo (AJ rfl η CI) (Zo (AH rfl BF η (B8.at.cell 1 η)) (Ad (u := S _) (y := _) rfl rfl underlying77 BW η j (fun _ => η) η ξ₁ (τ) (τ) ω ?_))))
 intro q_v11 v11 w12 E12 hov11 hlv11
 have bb := E12.size
 replace C := AI C E12 (fun g J => .inl (by first | exact (j.block J).1 | (have := j.block J; omega)))
 refine Zn (AM (v := v11) rfl η) (AO (AA (Zo A8 (Zn AN (Zg (k + 1) ?_)))))
 refine ⟨_, σ, rfl, δ, (by first | (rw [Lx ω o]; exact hov11) | (rw [Ko ω o]; exact hov11)), δ, C⟩
 refine AF (AO (AA (Zo A8 (Zn AN (Zg (k + 1) ?_)))))
 refine ⟨_, σ, rfl, δ, (by first | (rw [Lx ω o]; exact j) | (rw [Ko ω o]; exact j)), δ, C⟩
 refine AW rfl (AB ?_)
 rw [List.take_of_length_le ω] at j
 refine AA (Zo (AP (v := R) rfl η) (Zr [R] rfl η func91 (SP j) ?_))
 rintro e bn ⟨rfl, F13, hs13⟩
 refine ⟨_, rfl, ?_⟩
 have bc := F13.size
 replace C := AI C F13 (fun g J => .inl (by first | exact (j.block J).1 | (have := j.block J; omega)))
 replace j := hs13
 refine As (Zs (Zo (AP (v := R) rfl η) (Zn (AM (v := R) rfl η) (AK (BN (v := R) rfl η) ?_))))
 exact ⟨_, rfl, C, j⟩
theorem RE {ao : Option Addr} {b off cap : Nat} {l : List AQ} {x : AQ} {J : World} (hl : RowE J ao b off cap l) (hs : l.length ≤ 1000000000) :
    Calls Tryz.prog 130 #[.slice ao l.length cap, S x] J fun e w' => ∃ v, e = .returned v ∧ Evo J w' [] ∧ OwnE w' J.heap.size 9 v (Gj l x) := by
 refine AG (n := 33) func130 rfl ntmps130 rfl ?_
 have C : Evo J J [] := Evo.refl _ _
 have I := Ak hl
 have a8 := hl.bd
 refine Zs (Zn Bs (Zs (Zn Ah (AB (AD (AZ (α := Nat) [5, 7, 8, 9, 10, 11, 12, 13, 14, 15, 16, 17, 18, 19, 20] (fun k g w => g 5 = .int .i64 (k : Nat) ∧ k ≤ l.length ∧ (∀ j, j < k → l.getD j default ≤ x) ∧ J.heap.size ≤ w.heap.size ∧ Evo J w []) (fun k => l.length - k) 0 ?_ ?_))))))
 refine ⟨rfl, δ, (fun j h1 => by omega), δ, C⟩
 rintro k g w2 ⟨ba, hk, hall, hzl1, C⟩
 have a7 := C.size
 replace hl := I _ C
 refine Zk 5 ba (AB (Zs (Zo AN (Zo Ar (Zo (AL rfl η underlying77) (Zo Bu (Zo Br ?_)))))))
 refine Ab rfl Aq rfl (fun o => Ar) ?_
 refine Ab rfl Aq rfl (fun o => AN) ?_
 refine Ab rfl Aq rfl (fun o => AV (k) rfl underlying77 BW (Af o) (Af o) χ ω (hl.addr (i := k) ω)) ?_
 refine Ab rfl Aq rfl (fun o => AH rfl BF (Af o) ((hl.atD (k) ω).cell 0 η)) ?_
 refine Ab rfl Aq rfl (fun o => Au) ?_
 refine Ab rfl Aq rfl (fun o => Pd rfl (Af o) (Af o)) ?_
 refine Zn Fm (AE η (fun ag => ?_) (fun ag => ?_))
 refine AF (AD (AA (Zo AN (Zo A8 (Zn Ah (AO (Zg (k + 1) ?_)))))))
 refine ⟨σ, δ, (CS hall ((Iy _ _).1 ag.2)), δ, C⟩
 refine AW rfl (Zs (Zo Ar (Zo AN (Zo (by exact Hu (0) (k) rfl underlying77 BW η hl LU (at1 η ω) τ τ List.drop_zero) ?_))))
 have bc := fun (w' : World) (h : Evo J w' []) => (by have R := ((I w' h).take (k)).drop (0); rw [List.drop_zero] at R; exact R)
 have a1 := (by have R := (hl.take (k)).drop (0); rw [List.drop_zero] at R; exact R)
 have a6 := a1.bd
 refine BS rfl underlying77 BW η (OwnE.nil (α := AQ) _ J.heap.size _) η η a1 rfl θ θ ω ?_
 intro v6 w7 E7 hov6 hlv6
 have Q7 := E7.size
 replace C := Z0 C E7
 refine Zo Au (Ad (u := S _) (y := _) rfl rfl underlying77 BW η hov6 (fun _ => η) η ξ₁ (θ) (θ) ω ?_)
 intro q_v8 v8 w9 E9 hov8 hlv8
 have Q9 := E9.size
 replace C := AI C E9 (fun g o => .inl (by first | exact (hov6.block o).1 | (have := hov6.block o; omega)))
 refine Zn (AM (v := v8) rfl η) (Zs (Zo (AP (v := v8) rfl η) (Zo Ar (Zo AN (Zo (by exact Nk (k) rfl underlying77 BW rfl η (I _ C) (at1 η ω) τ) ?_)))))
 have a_ := fun (w' : World) (h : Evo J w' []) => (I w' h).drop (k)
 have U := (I _ C).drop (k)
 have aT := U.bd
 refine BS rfl underlying77 BW η hov8 η η U rfl (θ) (θ) ω ?_
 intro v11 w12 E12 hov11 hlv11
 have bf := E12.size
 replace C := AI C E12 (fun g o => .inl (by first | exact (hov8.block o).1 | (have := hov8.block o; omega)))
 refine Zn (AM (v := v11) rfl η) (AK (BN (v := v11) rfl η) ?_)
 exact ⟨_, rfl, C, by have R := hov11; rw [List.nil_append, Uv l x k hk hall ((Nat.lt_or_ge k l.length).elim (fun h => .inr (fun h2 => ag ⟨by omega, (Iy _ _).2 h2⟩)) (fun h => .inl ω))] at R; exact R.base_le ω⟩
theorem LF {ao : Option Addr} {b off cap : Nat} {f : List Vc.Item} {I : World} (hf : RowE I ao b off cap f) (a8 : Fh f) :
    Calls Tryz.prog 80 #[.slice ao f.length cap] I fun e w' => ∃ v, e = .returned v ∧ Evo I w' [] ∧ OwnE w' I.heap.size 9 v (Fu (Bv f)) := by
 have bm := a8.1
 refine AG (n := 25) func80 rfl ntmps80 rfl ?_
 have o : Evo I I [] := Evo.refl _ _
 have J := Ak hf
 have a6 := hf.bd
 refine Zs (Zn Bs (Zs (Zn Bs (AB (Zs (Zo Ar (Zo (AL rfl η underlying33) (Zn AN (AD ?_)))))))))
 refine AZ (α := Nat) [3, 4, 7, 8, 9, 10, 11, 12, 13, 14, 15, 16, 17, 18, 19, 20, 21, 22, 23] (fun k g w => ∃ U : Value, g 7 = .int .i64 (k : Nat) ∧ g 3 = U ∧ k ≤ f.length ∧ OwnE w I.heap.size 9 U ((Bv (f.take k)).foldl Gj []) ∧ I.heap.size ≤ w.heap.size ∧ Evo I w []) (fun k => f.length - k) 0 ?_ ?_
 refine ⟨_, σ, rfl, δ, (OwnE.nil _ _ _), δ, o⟩
 rintro k g w2 ⟨U, hj3, hj4, hk_k, j, hzl1, o⟩
 have aT := o.size
 refine Zk 7 hj3 (Zk 3 hj4 (Zs (Zn Bu (AB (AE η (fun a7 => ?_) (fun a7 => ?_))))))
 refine AF (AB (AD (AB ?_)))
 have bn := Dp (f.take k); have bp : (f.take k).length ≤ k := List.length_take_le _ _; have bq := LA (Bv (f.take k))
 refine AA (Zo AN (Zn Ah (Zs (Zo Ar (Zo AN (Zo (AV (k) rfl underlying33 Ag η η χ ω ((J _ o).addr (i := k) ω)) ?_))))))
 have ag := fun (w' : World) (h : Evo I w' []) => (J w' h).atD (k) ω
 refine Zo (AJ rfl η Bo) (Zo (AH rfl A0 η ((ag _ o).cell 0 η)) (Zn C3 (AE η (fun C => ?_) (fun C => ?_))))
 refine AA (Zo (AP (v := U) rfl η) (Zo Ar (Zo AN (Zo (AV (k) rfl underlying33 Ag η η χ ω ((J _ o).addr (i := k) ω)) ?_))))
 have az := fun (w' : World) (h : Evo I w' []) => (J w' h).atD (k) ω
 refine Zo (AJ rfl η CI) (Zo (AH rfl BF η ((az _ o).cell 1 η)) ?_)
 obtain ⟨bf, g9, bg, a_, R, bl⟩ := j.rowOf
 subst a_
 refine Zr [.slice _ _ _, S _] rfl η func130 (RE R ω) ?_
 rintro e bs ⟨a1, rfl, F10, hi10⟩
 refine ⟨_, rfl, ?_⟩
 have bc := F10.size
 replace o := Z0 o F10
 replace j := j.evo0 F10
 replace R := R.evo0 F10
 refine Zn (AM (v := a1) rfl η) (AO (AA (Zo A8 (Zn AN (Zg (k + 1) ?_)))))
 refine ⟨_, σ, rfl, δ, (by first | (rw [JO ω C]; exact hi10.base_le ω) | (rw [Ko ω C]; exact hi10)), δ, o⟩
 refine AF (AO (AA (Zo A8 (Zn AN (Zg (k + 1) ?_)))))
 refine ⟨_, σ, rfl, δ, (by first | (rw [JO ω C]; exact j.base_le ω) | (rw [Ko ω C]; exact j)), δ, o⟩
 refine AW rfl (Zs (Zo (AP (v := U) rfl η) (Zn (AM (v := U) rfl η) (AK (BN (v := U) rfl η) ?_))))
 exact ⟨_, rfl, o, by rw [List.take_of_length_le ω, TQ] at j; exact j⟩
theorem L6 {U ag : Option Addr} {ba a7 J bb a8 R : Nat} {a b : List Int} {I : World} (ha : RowE I U ba a7 J a) (hb : RowE I ag bb a8 R b) :
    Calls Tryz.prog 45 #[.slice U a.length J, .slice ag b.length R] I fun e w' => e = .returned (.bool (decide (a = b))) ∧ Evo I w' [] := by
 refine AG (n := 26) func45 rfl ntmps45 rfl ?_
 have j : Evo I I [] := Evo.refl _ _
 have aT := Ak ha
 have a_ := ha.bd
 have a1 := Ak hb
 have bc := hb.bd
 refine Zs (Zn A6 (AB (Zs (Zo Ar (Zo (AL rfl η underlying22) (Zo Ar (Zo (AL rfl η underlying22) (Zn (BD rfl η η) (AE η (fun bf => ?_) (fun bf => ?_))))))))))
 refine Zs (Zn A6 (AK Dk ?_))
 exact ⟨by rw [decide_eq_false (fun h => by subst h; omega)], j⟩
 refine AF (AB (Zs (Zo Ar (Zo (AL rfl η underlying22) (Zn AN (AD (AZ (α := Nat) [4, 5, 13, 14, 15, 16, 17, 18, 19, 20, 21, 22, 23, 24, 25] (fun k g w => g 13 = .int .i64 (k : Nat) ∧ k ≤ a.length ∧ a.take k = b.take k ∧ I.heap.size ≤ w.heap.size ∧ Evo I w []) (fun k => a.length - k) 0 ?_ ?_)))))))
 refine ⟨σ, δ, (by simp), δ, j⟩
 rintro k g w3 ⟨bl, hk_k, hpre, hzl2, j⟩
 have a6 := j.size
 refine Zk 13 bl (Zs (Zn Bu (AB (AE η (fun bg => ?_) (fun bg => ?_)))))
 refine AF (AB (AD (Zs (Zo AN (Zn Ah (AB (Ba ζ ζ (Zq (fun w' C => Ar) (Zq (fun w' C => AN) ?_)))))))))
 refine Zq (fun w' C => AV (k) rfl underlying22 Cf η η χ ω ((aT _ j).addr (i := k) ω)) ?_
 have ao := fun (w' : World) (h : Evo I w' []) => (aT w' h).atD (k) ω
 refine Zq (fun w' C => AH rfl A0 η (((ao _ j).evo0 C).cell 0 η)) (Zq (fun w' C => Ar) (Zq (fun w' C => AN) (Zq (fun w' C => AV (k) rfl underlying22 Cf η η χ ω ((a1 _ j).addr (i := k) ω)) ?_)))
 have az := fun (w' : World) (h : Evo I w' []) => (a1 w' h).atD (k) ω
 refine Zq (fun w' C => AH rfl A0 η (((az _ j).evo0 C).cell 0 η)) (Zq (fun w' C => BD rfl η η) (EE (fun w8 F9 => ?_)))
 have Q8 := F9.size
 replace j := Z0 j F9
 refine AE η (fun o => ?_) (fun o => ?_)
 refine Zs (Zn A6 (AK Dk ?_))
 exact ⟨by rw [decide_eq_false (fun h => by subst h; exact o rfl)], j⟩
 refine AF (AO (AA (Zo A8 (Zn AN (Zg (k + 1) ?_)))))
 refine ⟨σ, δ, (It hpre ω ω (Classical.not_not.1 o)), δ, j⟩
 refine AW rfl (Zs (Zn A6 (AK Dk ?_)))
 exact ⟨by rw [decide_eq_true (by rw [List.take_of_length_le ω, List.take_of_length_le ω] at hpre; exact hpre)], j⟩
theorem JR {ao : Option Addr} {b off cap : Nat} {f : List Vc.Item} {C : World} (J : RowE C ao b off cap f) (a6 : Fh f) :
    Calls Tryz.prog 86 #[.slice ao f.length cap] C fun e w' => e = .returned (S (A9 f)) ∧ Evo C w' [] := by
 have bm := a6.1; have bn := a6.2
 refine AG (n := 33) func86 rfl ntmps86 rfl ?_
 have j : Evo C C [] := Evo.refl _ _
 have o := Ak J
 have a7 := J.bd
 refine Zs (Zn CD (Zs (Zn CD (AB (Zs (Zo Ar (Zo (AL rfl η underlying33) (Zn AN (AD ?_)))))))))
 refine AZ (α := Nat) [3, 4, 7, 8, 9, 10, 11, 12, 13, 14, 15, 16, 17, 18, 19, 20, 21, 22, 23, 24, 25, 26, 27, 28, 29, 30, 31] (fun k g w => g 7 = .int .i64 (k : Nat) ∧ g 3 = S (A9 (f.take k)) ∧ k ≤ f.length ∧ C.heap.size ≤ w.heap.size ∧ Evo C w []) (fun k => f.length - k) 0 ?_ ?_
 refine ⟨σ, rfl, δ, δ, j⟩
 rintro k g w2 ⟨ba, hj4, hk_k, hzl1, j⟩
 have a1 := j.size
 replace J := o _ j
 refine Zk 7 ba (Zk 3 hj4 (Zs (Zn Bu (AB (AE η (fun a8 => ?_) (fun a8 => ?_))))))
 refine AF (AB (AD (Zs (Zo AN (Zn Ah (AB (AB ?_)))))))
 have bc := Jd (f.take k); have bf := Hl f k; have bg := Iv f k; have bl : (f.take k).length ≤ k := List.length_take_le _ _
 refine AA (Zo Ar (Zo AN (Zo (AV (k) rfl underlying33 Ag η η χ ω (J.addr (i := k) ω)) ?_)))
 have R := fun (w' : World) (h : Evo C w' []) => (o w' h).atD (k) ω
 refine Zo (AJ rfl η Bo) (Zo (AH rfl A0 η ((R _ j).cell 0 η)) (Zn C3 (AE η (fun a_ => ?_) (fun a_ => ?_))))
 refine AA (Zo Au (Zo Ar (Zo AN (Zo (AV (k) rfl underlying33 Ag η η χ ω (J.addr (i := k) ω)) ?_))))
 have U := fun (w' : World) (h : Evo C w' []) => (o w' h).atD (k) ω
 refine Zo (AJ rfl η CI) (Zo (AH rfl BF η ((U _ j).cell 1 η)) (Zo (A7 rfl η η ω) (Zn CD (Zs (Zo Ar (Zo AN (Zo (AV (k) rfl underlying33 Ag η η χ ω (J.addr (i := k) ω)) ?_)))))))
 have ag := fun (w' : World) (h : Evo C w' []) => (o w' h).atD (k) ω
 refine Zo (AJ rfl η Bo) (Zo (AH rfl A0 η ((ag _ j).cell 0 η)) (Zn C3 (AE η (fun az => ?_) (fun az => ?_))))
 refine AA (Zo Au (Zo (A7 rfl η η (by simp only [List.length_append, List.length_cons, List.length_nil]; omega)) (Zn CD (AO (AA (Zo A8 (Zn AN (Zg (k + 1) ?_))))))))
 refine ⟨σ, (congrArg S (by first | (rw [BL f k ω, DQ κ]; done) | (rw [BL f k ω, DR κ]; done) | (rw [BL f k ω, DD κ κ, List.append_nil]; done) | (exfalso; omega))), δ, δ, j⟩
 refine AF (AO (AA (Zo A8 (Zn AN (Zg (k + 1) ?_)))))
 refine ⟨σ, (congrArg S (by first | (rw [BL f k ω, DQ κ]; done) | (rw [BL f k ω, DR κ]; done) | (rw [BL f k ω, DD κ κ, List.append_nil]; done) | (exfalso; omega))), δ, δ, j⟩
 refine AF (Zs (Zo Ar (Zo AN (Zo (AV (k) rfl underlying33 Ag η η χ ω (J.addr (i := k) ω)) ?_))))
 have I := fun (w' : World) (h : Evo C w' []) => (o w' h).atD (k) ω
 refine Zo (AJ rfl η Bo) (Zo (AH rfl A0 η ((I _ j).cell 0 η)) (Zn C3 (AE η (fun aT => ?_) (fun aT => ?_))))
 refine AA (Zo Au (Zo (A7 rfl η η (by simp only [List.length_append, List.length_cons, List.length_nil]; omega)) (Zn CD (AO (AA (Zo A8 (Zn AN (Zg (k + 1) ?_))))))))
 refine ⟨σ, (congrArg S (by first | (rw [BL f k ω, DQ κ]; done) | (rw [BL f k ω, DR κ]; done) | (rw [BL f k ω, DD κ κ, List.append_nil]; done) | (exfalso; omega))), δ, δ, j⟩
 refine AF (AO (AA (Zo A8 (Zn AN (Zg (k + 1) ?_)))))
 refine ⟨σ, (congrArg S (by first | (rw [BL f k ω, DQ κ]; done) | (rw [BL f k ω, DR κ]; done) | (rw [BL f k ω, DD κ κ, List.append_nil]; done) | (exfalso; omega))), δ, δ, j⟩
 refine AW rfl (Zs (Zo Au (Zn CD (AK (BN (v := S _) rfl η) ?_))))
 exact ⟨by rw [List.take_of_length_le ω], j⟩
theorem Rg {U ag : Option Addr} {ba a7 J bb a8 R : Nat} {a b : List Vc.Item} {I : World} (ha : RowE I U ba a7 J a) (hb : RowE I ag bb a8 R b) :
    Calls Tryz.prog 103 #[.slice U a.length J, .slice ag b.length R] I fun e w' => e = .returned (.bool (decide (a = b))) ∧ Evo I w' [] := by
 refine AG (n := 26) func103 rfl ntmps103 rfl ?_
 have j : Evo I I [] := Evo.refl _ _
 have aT := Ak ha
 have a_ := ha.bd
 have a1 := Ak hb
 have bc := hb.bd
 refine Zs (Zn A6 (AB (Zs (Zo Ar (Zo (AL rfl η underlying33) (Zo Ar (Zo (AL rfl η underlying33) (Zn (BD rfl η η) (AE η (fun bf => ?_) (fun bf => ?_))))))))))
 refine Zs (Zn A6 (AK Dk ?_))
 exact ⟨by rw [decide_eq_false (fun h => by subst h; omega)], j⟩
 refine AF (AB (Zs (Zo Ar (Zo (AL rfl η underlying33) (Zn AN (AD (AZ (α := Nat) [4, 5, 13, 14, 15, 16, 17, 18, 19, 20, 21, 22, 23, 24, 25] (fun k g w => g 13 = .int .i64 (k : Nat) ∧ k ≤ a.length ∧ a.take k = b.take k ∧ I.heap.size ≤ w.heap.size ∧ Evo I w []) (fun k => a.length - k) 0 ?_ ?_)))))))
 refine ⟨σ, δ, (by simp), δ, j⟩
 rintro k g w3 ⟨bl, hk_k, hpre, hzl2, j⟩
 have a6 := j.size
 refine Zk 13 bl (Zs (Zn Bu (AB (AE η (fun bg => ?_) (fun bg => ?_)))))
 refine AF (AB (AD (Zs (Zo AN (Zn Ah (AB (Ba ζ ζ (Zq (fun w' C => Ar) (Zq (fun w' C => AN) ?_)))))))))
 refine Zq (fun w' C => AV (k) rfl underlying33 Ag η η χ ω ((aT _ j).addr (i := k) ω)) ?_
 have ao := fun (w' : World) (h : Evo I w' []) => (aT w' h).atD (k) ω
 refine Zq (fun w' C => AY rfl CT Ag η rfl ((ao _ j).evo0 C)) (Zq (fun w' C => Ar) (Zq (fun w' C => AN) (Zq (fun w' C => AV (k) rfl underlying33 Ag η η χ ω ((a1 _ j).addr (i := k) ω)) ?_)))
 have az := fun (w' : World) (h : Evo I w' []) => (a1 w' h).atD (k) ω
 refine Zq (fun w' C => AY rfl CT Ag η rfl ((az _ j).evo0 C)) (Zq (fun w' C => OY _ _ rfl Tryz.eqGuardType32 Ur η η) (EE (fun w8 F9 => ?_)))
 have Q8 := F9.size
 replace j := Z0 j F9
 refine AE η (fun o => ?_) (fun o => ?_)
 refine Zs (Zn A6 (AK Dk ?_))
 exact ⟨by rw [decide_eq_false (fun h => by subst h; exact o rfl)], j⟩
 refine AF (AO (AA (Zo A8 (Zn AN (Zg (k + 1) ?_)))))
 refine ⟨σ, δ, (It hpre ω ω (Classical.not_not.1 o)), δ, j⟩
 refine AW rfl (Zs (Zn A6 (AK Dk ?_)))
 exact ⟨by rw [decide_eq_true (by rw [List.take_of_length_le ω, List.take_of_length_le ω] at hpre; exact hpre)], j⟩
theorem SV {I J : Option Addr} {ba R j bb U o : Nat} {a b : List Vc.Item} {C : World} (ha : RowE C I ba R j a) (hb : RowE C J bb U o b) :
    Calls Tryz.prog 61 #[.slice I a.length j, .slice J b.length o] C fun e w' => e = .returned (.bool (decide (a = b))) ∧ Evo C w' [] := by
 refine AG (n := 8) func61 rfl ntmps61 rfl ?_
 have hV : Evo C C [] := Evo.refl _ _
 have a8 := Ak ha
 have ag := ha.bd
 have a_ := Ak hb
 have ao := hb.bd
 refine Zs (Zn A6 (Zs (Zo Ar (Zo Ar (Zr [.slice _ _ _, .slice _ _ _] rfl η func103 (Rg ha hb) ?_)))))
 rintro e w1 ⟨rfl, F1⟩
 refine ⟨_, rfl, ?_⟩
 have Q1 := F1.size
 replace hV := Z0 hV F1
 refine Zn A6 (AK Dk ?_)
 exact ⟨rfl, hV⟩
theorem Cz : D3 Tryz.prog 39 = some [(0, 1), (1, 1), (2, 1)] := ζ
theorem Md {ao : Option Addr} {b off cap : Nat} {l : List AQ} {s : AQ} {C : World} (hl : RowE C ao b off cap l) :
    Calls Tryz.prog 129 #[.slice ao l.length cap, S s] C fun e w' => e = .returned (.int .i64 (ai l s : Nat)) ∧ Evo C w' [] := by
 refine AG (n := 21) func129 rfl ntmps129 rfl ?_
 have o : Evo C C [] := Evo.refl _ _
 have J := Ak hl
 have U := hl.bd
 refine Zs (Zn Ah (Zs (Zn Ah (AB (Zs (Zo Ar (Zo (AL rfl η underlying77) (Zn AN (AD ?_)))))))))
 refine AZ (α := Nat) [5, 7, 10, 11, 12, 13, 14, 15, 16, 17, 18, 19] (fun k g w => g 10 = .int .i64 (k : Nat) ∧ g 5 = .int .i64 (ai (l.take k) s : Nat) ∧ k ≤ l.length ∧ C.heap.size ≤ w.heap.size ∧ Evo C w []) (fun k => l.length - k) 0 ?_ ?_
 refine ⟨σ, rfl, δ, δ, o⟩
 rintro k g w2 ⟨az, hj4, hk_k, hzl1, o⟩
 have R := o.size
 refine Zk 10 az (Zk 5 hj4 ?_)
 have a6 := aH (l := l) (x := s) (k := k)
 refine Zs (Zn Bu (AB (AE η (fun ag => ?_) (fun ag => ?_))))
 refine AF (AB (AD (Zs (Zo (AV (k) rfl underlying77 BW η η χ ω ((J _ o).addr (i := k) ω)) ?_))))
 have I := fun (w' : World) (h : Evo C w' []) => (J w' h).atD (k) ω
 refine Zo (AH rfl BF η ((I _ o).cell 0 η)) (Zn CD (Zs (Zo Au (Zo Au (Zn (Cn rfl η η) (AE η (fun j => ?_) (fun j => ?_)))))))
 refine AA (Zo AN (Zo A8 (Zn Ah (AO (AA (Zo A8 (Zn AN (Zg (k + 1) ?_))))))))
 refine ⟨σ, (by first | exact congrArg (Value.int _) (by rw [TF ω j]; omega) | exact congrArg (Value.int _) (by rw [Uu ω j])), δ, δ, o⟩
 refine AF (AO (AA (Zo A8 (Zn AN (Zg (k + 1) ?_)))))
 refine ⟨σ, (by first | exact congrArg (Value.int _) (by rw [TF ω j]; omega) | exact congrArg (Value.int _) (by rw [Uu ω j])), δ, δ, o⟩
 refine AW rfl (Zs (Zo AN (Zn Ah (AK CZ ?_))))
 exact ⟨AU (by rw [List.take_of_length_le ω]), o⟩
set_option maxHeartbeats 1000000 in
theorem Mk {b4 : Option Addr} {bl cK bn : Nat} {l : List Vc.Item} {kd : Int} {b2 : Option Addr} {ba cH bg : Nat} {a : List AQ} {b3 : Option Addr} {bb cI bm : Nat} {b : List AQ} {w0 : World} (hl : RowE w0 b4 bl cK bn l) (ha : RowE w0 b2 ba cH bg a) (hb : RowE w0 b3 bb cI bm b) (dW : l.length ≤ 100000000) (dU : a.length ≤ 1000000) (dV : b.length ≤ 1000000) :
    Calls Tryz.prog 79 #[.slice b4 l.length bn, .int .i64 kd, .slice b2 a.length bg, .slice b3 b.length bm] w0 fun e w' => ∃ b0 b9 ct bf, e = .returned (.slice b0 (AS l (EW (G9 a b) a b (Wu kd))).length bf) ∧ Evo w0 w' [] ∧ RowE w' b0 b9 ct bf (AS l (EW (G9 a b) a b (Wu kd))) := by
 refine AG (n := 52) func79 rfl ntmps79 rfl ?_
 have C : Evo w0 w0 [] := Evo.refl _ _
 have b_ := Ak hl
 have c3 := hl.bd
 have a8 := Ak ha
 have cV := ha.bd
 have a_ := Ak hb
 have c0 := hb.bd
 refine Zs (Zn Bs (Zs (Zn Bs (AB (Zs (Av (pv := []) (zs := [_]) (cs := []) underlying77 BW η rfl η rfl η ?_))))))
 intro b1 w2 J1 E2 B1 Y1
 have Q2 := E2.size
 replace C := Z0 C E2
 have U : OwnE (α := AQ) w2 w0.heap.size 9 (.slice (some ⟨b1, 0, none⟩) 0 0) [] := I1 B1 ω
 refine Zo Ar (BS rfl underlying77 BW η U η η (a8 _ C) rfl (θ) (θ) ω ?_)
 intro v3 w4 E4 hov3 hlv3
 have Q4 := E4.size
 replace C := AI C E4 (fun g hg => .inl (by first | exact (U.block hg).1 | (have := U.block hg; omega)))
 refine Zo Ar (BS rfl underlying77 BW η hov3 η η (a_ _ C) rfl (θ) (θ) ω ?_)
 intro v5 w6 E6 hov5 hlv5
 have Q6 := E6.size
 replace C := AI C E6 (fun g hg => .inl (by first | exact (hov3.block hg).1 | (have := hov3.block hg; omega)))
 replace hl := b_ _ C
 replace ha := a8 _ C
 replace hb := a_ _ C
 refine Zo (Bn rfl η underlying77 hov5) (Zn AN (AD ?_))
 have o : Evo w6 w6 [] := Evo.refl _ _
 obtain ⟨ds, g8, dx, c9, bx, dS⟩ := hov5.rowOf
 subst c9
 have bq := Ak bx
 have dz : (([] ++ a ++ b) : List AQ).length = a.length + b.length := List.length_append
 refine AZ (α := Nat) [9, 11, 21, 22, 23, 24, 25, 26, 27, 28] (fun k g w => ∃ vo : Value, g 21 = .int .i64 (k : Nat) ∧ g 9 = vo ∧ k ≤ (([] ++ a ++ b) : List AQ).length ∧ OwnE w w6.heap.size 9 vo (((([] ++ a ++ b) : List AQ).take k).foldl Dd []) ∧ w6.heap.size ≤ w.heap.size ∧ Evo w0 w [] ∧ Evo w6 w []) (fun k => (([] ++ a ++ b) : List AQ).length - k) 0 ?_ ?_
 refine ⟨_, σ, rfl, δ, (OwnE.nil _ _ _), δ, C, o⟩
 rintro k g aT ⟨vo, hj11, hj12, hk_k, bc, hzl9, C, o⟩
 have bW := C.size
 have bz := o.size
 replace hl := b_ _ C
 replace ha := a8 _ C
 replace hb := a_ _ C
 replace bx := bq _ o
 refine Zk 21 hj11 (Zk 9 hj12 ?_)
 have cc := HG ((([] ++ a ++ b) : List AQ).take k) []; have dX : ((([] ++ a ++ b) : List AQ).take k).length ≤ k := List.length_take_le _ _; rw [List.length_nil] at cc
 refine Zs (Zn Bu (AB (AE η (fun b5 => ?_) (fun b5 => ?_))))
 refine AF (AB (AD (Zs (Zo (AV (k) rfl underlying77 BW η η χ ω (bx.addr (i := k) ω)) ?_))))
 have bt := fun (w' : World) (h : Evo w6 w' []) => (bq w' h).atD (k) ω
 refine Zo (AH rfl BF η ((bt _ o).cell 0 η)) (Zn CD (AA (Zo (AP (v := vo) rfl η) (Zo Au ?_))))
 obtain ⟨c_, g15, dc, cg, ag, di⟩ := bc.rowOf
 subst cg
 refine Zr [.slice _ _ _, S _] rfl η func128 (Jv ag ω) ?_
 rintro e dY ⟨cQ, rfl, F16, hi16⟩
 refine ⟨_, rfl, ?_⟩
 have dn := F16.size
 replace C := Z0 C F16
 replace o := Z0 o F16
 replace bc := bc.evo0 F16
 replace ag := ag.evo0 F16
 refine Zn (AM (v := cQ) rfl η) (AO (AA (Zo A8 (Zn AN (Zg (k + 1) ?_)))))
 refine ⟨_, σ, rfl, δ, (by rw [Vn Dd [] ω]; exact hi16.base_le ω), δ, C, o⟩
 refine AW rfl (AB (AB ?_))
 have ca : OwnE _ _ _ _ (G9 a b) := (by have h9 := bc; rw [List.take_of_length_le ω] at h9; exact h9)
 refine AA (Zo (AP (v := vo) rfl η) (Zo (Bn rfl η underlying77 ca) (Zn AN (AD ?_))))
 have j : Evo aT aT [] := Evo.refl _ _
 obtain ⟨da, g18, dd, cn, cb, dj⟩ := ca.rowOf
 subst cn
 have ao := Ak cb
 have cc := Sq a b
 refine AZ (α := Nat) [0, 13, 14, 31, 32, 33, 34, 35, 36, 37, 38, 39, 40, 41, 42, 43, 44, 45, 46, 47, 48, 49, 50] (fun k g w => ∃ a7 : Option Addr, ∃ bL : Nat, ∃ az : Nat, ∃ R : Nat, g 31 = .int .i64 (k : Nat) ∧ g 0 = .slice a7 (AS l (EW ((G9 a b).take k) a b (Wu kd))).length R ∧ k ≤ (G9 a b).length ∧ RowE w a7 bL az R (AS l (EW ((G9 a b).take k) a b (Wu kd))) ∧ aT.heap.size ≤ w.heap.size ∧ Evo w0 w [] ∧ Evo w6 w [] ∧ Evo aT w []) (fun k => (G9 a b).length - k) 0 ?_ ?_
 refine ⟨_, _, _, _, σ, rfl, δ, hl, δ, C, o, j⟩
 rintro k g dZ ⟨a7, bL, az, R, hj21, hj22, hk_k, J, hzl19, C, o, j⟩
 have bY := C.size
 have bF := o.size
 have bs := j.size
 replace hb := a_ _ C
 refine Zk 31 hj21 (Zk 0 hj22 ?_)
 have dT := CL l (EW ((G9 a b).take k) a b (Wu kd)); have dR := VO (u := G9 a b) (s := a) (t := b) (f := Wu kd) (k := k)
 refine Zs (Zn Bu (AB (AE η (fun b6 => ?_) (fun b6 => ?_))))
 refine AF (AB (AD (Zs (Zo (AV (k) rfl underlying77 BW η η χ ω ((ao _ j).addr (i := k) ω)) ?_))))
 have bw := fun (w' : World) (h : Evo aT w' []) => (ao w' h).atD (k) ω
 refine Zo (AH rfl BF η ((bw _ j).cell 0 η)) (Zn CD (AB ?_))
 have dO := TI a ((G9 a b).getD k default); have dQ := TI b ((G9 a b).getD k default)
 refine AA (Zo Ar (Zo Au (Zr [.slice _ _ _, S _] rfl η func129 (Md hb) ?_)))
 rintro e d_ ⟨rfl, F25⟩
 refine ⟨_, rfl, ?_⟩
 have dp := F25.size
 replace C := Z0 C F25
 replace o := Z0 o F25
 replace j := Z0 j F25
 replace ha := a8 _ C
 replace J := J.evo0 F25
 refine Zo Ar (Zo Au (Zr [.slice _ _ _, S _] rfl η func129 (Md ha) ?_))
 rintro e ea ⟨rfl, F26⟩
 refine ⟨_, rfl, ?_⟩
 have dq := F26.size
 replace C := Z0 C F26
 replace o := Z0 o F26
 replace j := Z0 j F26
 replace J := J.evo0 F26
 refine Zo JV (Zn Ah (Zs (Zo AN (Zn (BD rfl η η) (AE η (fun I => ?_) (fun I => ?_))))))
 refine AA (Zo Ar (Zo AN (Zo Au (Zo AN (Zo (Aj (pv := [(0, .int _ _), (1, S _), (2, .int _ _)]) (zs := [_, _, _]) (cells := [_, _, _]) rfl Az η Cz η η) (Zr [.slice _ _ _, .agg _] rfl η func78 (C8 J ω (x := Wu kd ((G9 a b).getD k default) (Ie a b ((G9 a b).getD k default)))) ?_))))))
 rintro e eb ⟨dm, rfl, F28, hop28⟩
 refine ⟨_, rfl, ?_⟩
 have dr := F28.size
 replace C := Z0 C F28
 replace o := Z0 o F28
 replace j := Z0 j F28
 replace J := J.evo0 F28
 obtain ⟨db, dy, de, cr, bp, dk⟩ := hop28.rowOf
 subst cr
 refine Zn Bs (AO (AA (Zo A8 (Zn AN (Zg (k + 1) ?_)))))
 refine ⟨_, _, _, _, σ, (by first | (rw [KN ω I, DT]; exact rfl) | (rw [Mv ω I]; exact rfl)), δ, (by first | (rw [KN ω I, DT]; exact bp) | (rw [Mv ω I]; exact bp)), δ, C, o, j⟩
 refine AF (AO (AA (Zo A8 (Zn AN (Zg (k + 1) ?_)))))
 refine ⟨_, _, _, _, σ, (by first | (rw [KN ω I, DT]; exact rfl) | (rw [Mv ω I]; exact rfl)), δ, (by first | (rw [KN ω I, DT]; exact J) | (rw [Mv ω I]; exact J)), δ, C, o, j⟩
 refine AW rfl (Zs (Zo Ar (Zn Bs (AK (BN (v := .slice _ _ _) rfl η) ?_))))
 have e9 : EW ((G9 a b).take k) a b (Wu kd) = EW (G9 a b) a b (Wu kd) := by rw [List.take_of_length_le ω]
 rw [e9] at J
 exact ⟨a7, bL, az, R, by rw [e9], C, J⟩
set_option maxHeartbeats 2000000 in
theorem SF {cI : Option Addr} {bl db bY : Nat} {l : List Vc.Item} {ct : Option Addr} {bf bw bQ : Nat} {f : List Vc.Item} {cH : Option Addr} {bg da bW : Nat} {J : List Vc.Item} {w0 : World} (hl : RowE w0 cI bl db bY l) (hf : RowE w0 ct bf bw bQ f) (U : RowE w0 cH bg da bW J) (ey : l.length ≤ 100000000) (ca : Tiny f) (cb : Tiny J) (di : ∀ x ∈ Ac f, JM x) (dj : ∀ x ∈ Ac J, JM x) :
    Calls Tryz.prog 81 #[.slice cI l.length bY, .slice ct f.length bQ, .slice cH J.length bW] w0 fun e w' => ∃ cr b9 bw bM, e = .returned (.slice cr (AS l (Wh (Ac f) (Ac J))).length bM) ∧ Evo w0 w' [] ∧ RowE w' cr b9 bw bM (AS l (Wh (Ac f) (Ac J))) := by
 refine AG (n := 70) func81 rfl ntmps81 rfl ?_
 have R : Evo w0 w0 [] := Evo.refl _ _
 have c3 := Ak hl
 have df := hl.bd
 have cV := Ak hf
 have dd := hf.bd
 have a_ := Ak U
 have de := U.bd
 refine Zs (Zn Bs (Zs (Zo Ar (Zr [.slice _ _ _] rfl η func131 (MV hf ca.small) ?_))))
 rintro e w1 ⟨ds, rfl, F1, bs⟩
 refine ⟨_, rfl, ?_⟩
 have Q1 := F1.size
 replace R := Z0 R F1
 replace U := a_ _ R
 refine Zo Ar (Zr [.slice _ _ _] rfl η func131 (MV U cb.small) ?_)
 rintro e w2 ⟨dt, rfl, F2, hon2⟩
 refine ⟨_, rfl, ?_⟩
 have Q2 := F2.size
 replace R := Z0 R F2
 replace bs := bs.evo0 F2
 refine Zo (AM (v := ds) rfl η) (Zn (AM (v := dt) rfl η) (AB ?_))
 have C : Evo w2 w2 [] := Evo.refl _ _
 obtain ⟨dZ, g4, ee, dn, b5, er⟩ := bs.rowOf
 subst dn
 have aT := Ak b5
 obtain ⟨d_, g5, ef, dp, b7, et⟩ := hon2.rowOf
 subst dp
 have bt := Ak b7
 have eu := Ei f; have ev := Ei J; have eo := ca.1; have ep := cb.1
 refine AA (Av (pv := []) (zs := [_, _, _]) (cs := []) underlying33 Ag η rfl η rfl η ?_)
 intro b6 w7 J6 E7 B6 Y6
 have Q7 := E7.size
 replace R := Z0 R E7
 replace C := Z0 C E7
 replace U := a_ _ R
 have a8 : OwnE (α := Vc.Item) w7 w2.heap.size 32 (.slice (some ⟨b6, 0, none⟩) 0 0) [] := I1 B6 ω
 refine Zo Ar (BS rfl underlying33 Ag η a8 η η (aT _ C) rfl (θ) (θ) ω ?_)
 intro v8 w9 E9 hov8 hlv8
 have Q9 := E9.size
 replace R := AI R E9 (fun g U => .inl (by first | exact (a8.block U).1 | (have := a8.block U; omega)))
 replace C := AI C E9 (fun g U => .inl (by first | exact (a8.block U).1 | (have := a8.block U; omega)))
 replace U := a_ _ R
 refine Zo Ar (BS rfl underlying33 Ag η hov8 η η (bt _ C) rfl (θ) (θ) ω ?_)
 intro v10 w11 E11 hov10 hlv10
 have dS := E11.size
 replace R := AI R E11 (fun g U => .inl (by first | exact (hov8.block U).1 | (have := hov8.block U; omega)))
 replace C := AI C E11 (fun g U => .inl (by first | exact (hov8.block U).1 | (have := hov8.block U; omega)))
 replace hl := c3 _ R
 replace hf := cV _ R
 replace U := a_ _ R
 replace b5 := aT _ C
 replace b7 := bt _ C
 refine Zn (AM (v := v10) rfl η) (AB (Zs (Zo (AP (v := v10) rfl η) (Zo (Bn rfl η underlying33 hov10) (Zn AN (AD ?_))))))
 have o : Evo w11 w11 [] := Evo.refl _ _
 obtain ⟨du, g13, dw, c4, b0, dO⟩ := hov10.rowOf
 subst c4
 have az := Ak b0
 have eh : ([] ++ Ac f ++ Ac J : List Vc.Item).length = (Ac f).length + (Ac J).length := List.length_append
 refine AZ (α := Nat) [0, 10, 11, 12, 13, 14, 15, 27, 28, 29, 30, 31, 32, 33, 34, 35, 36, 37, 38, 39, 40, 41, 42, 43, 44, 45, 46, 47, 48, 49, 50, 51, 52, 53, 54, 55, 56, 57, 58, 59, 60, 61, 62, 63, 64, 65, 66, 67, 68] (fun k g w => ∃ bz : Option Addr, ∃ bL : Nat, ∃ bx : Nat, ∃ ba : Nat, g 27 = .int .i64 (k : Nat) ∧ g 0 = .slice bz (AS l (EW (FJ (([] ++ Ac f ++ Ac J : List Vc.Item).take k)) (Ac f) (Ac J) Uy)).length ba ∧ k ≤ ([] ++ Ac f ++ Ac J : List Vc.Item).length ∧ RowE w bz bL bx ba (AS l (EW (FJ (([] ++ Ac f ++ Ac J : List Vc.Item).take k)) (Ac f) (Ac J) Uy)) ∧ w11.heap.size ≤ w.heap.size ∧ Evo w0 w [] ∧ Evo w2 w [] ∧ Evo w11 w []) (fun k => ([] ++ Ac f ++ Ac J : List Vc.Item).length - k) 0 ?_ ?_
 refine ⟨_, _, _, _, σ, rfl, δ, hl, δ, R, C, o⟩
 rintro k g cc ⟨bz, bL, bx, ba, hj16, hj17, hk_k, bm, hzl14, R, C, o⟩
 have cg := R.size
 have b8 := C.size
 have b1 := o.size
 refine Zk 27 hj16 (Zk 0 hj17 ?_)
 have ew := CL l (EW (FJ (([] ++ Ac f ++ Ac J : List Vc.Item).take k)) (Ac f) (Ac J) Uy); have ej := Kf (FJ (([] ++ Ac f ++ Ac J : List Vc.Item).take k)) (Ac f) (Ac J) Uy; have ek := S0 (([] ++ Ac f ++ Ac J : List Vc.Item).take k); have en := List.length_take_le k ([] ++ Ac f ++ Ac J : List Vc.Item)
 refine Zs (Zn Bu (AB (AE η (fun cK => ?_) (fun cK => ?_))))
 refine AF (AB (AD (AB ?_)))
 have I : Evo cc cc [] := Evo.refl _ _
 have bc := Ak bm
 refine AA (Zo AN (Zo (AV (k) rfl underlying33 Ag η η χ ω ((az _ o).addr (i := k) ω)) ?_))
 have bq := fun (w' : World) (h : Evo w11 w' []) => (az w' h).atD (k) ω
 refine Zo (AY rfl CT Ag η rfl (bq _ o)) (DI (zs := [_, _, _]) Ag η rfl ?_)
 intro b21 w22 J21 E22 B21 Y21
 have dT := E22.size
 replace R := Z0 R E22
 replace C := Z0 C E22
 replace o := Z0 o E22
 replace I := Z0 I E22
 replace dz := bq _ o
 refine Zo Ah (BB (v := .agg _) (vs := [_, _, _]) (cs' := [_, _, _]) η η B21 Ag η rfl η rfl η ?_)
 intro w23 E23 V23 hb_new
 have dU := E23.size
 replace R := Z1 R E23 ε
 replace C := Z1 C E23 ε
 replace o := Z1 o E23 ε
 replace I := Z1 I E23 ε
 replace hl := c3 _ R
 replace hf := cV _ R
 replace U := a_ _ R
 replace b5 := aT _ C
 replace b7 := bt _ C
 replace b0 := az _ o
 replace bm := bc _ I
 replace B21 := hb_new
 clear hb_new
 refine As (Zs (Zo Ah (Zn A6 (AB (Zs (Zo Ar (Zo (AL rfl η underlying33) (Zn AN (AD ?_)))))))))
 refine AZ (α := Nat) [12, 13, 14, 15, 34, 35, 36, 37, 38, 39, 40, 41, 42, 43, 44, 45, 46, 47, 48, 49, 50, 51, 52, 53, 54, 55, 56] (fun q g w => ∃ fb : Bool, g 34 = .int .i64 (q : Nat) ∧ g 12 = .int .i64 (PA (Ac f).length (([] ++ Ac f ++ Ac J : List Vc.Item).getD k default) ([] ++ Ac f ++ Ac J : List Vc.Item) q) ∧ g 13 = .bool fb ∧ q ≤ ([] ++ Ac f ++ Ac J : List Vc.Item).length ∧ Blk w b21 32 [.int .i64 (([] ++ Ac f ++ Ac J : List Vc.Item).getD k default).kind, S (([] ++ Ac f ++ Ac J : List Vc.Item).getD k default).text, .int .i64 (([] ++ Ac f ++ Ac J : List Vc.Item).getD k default).id] ∧ (fb = true ↔ ∀ j, j < q → ([] ++ Ac f ++ Ac J : List Vc.Item).getD j default = (([] ++ Ac f ++ Ac J : List Vc.Item).getD k default) → k ≤ j) ∧ w23.heap.size ≤ w.heap.size ∧ Evo w0 w [] ∧ Evo w2 w [] ∧ Evo w11 w [] ∧ Evo cc w []) (fun q => ([] ++ Ac f ++ Ac J : List Vc.Item).length - q) 0 ?_ ?_
 refine ⟨true, σ, rfl, rfl, δ, B21, ⟨fun _ j h => by omega, fun _ => rfl⟩, δ, R, C, o, I⟩
 rintro q g ez ⟨fb, hj26, hj27, hj28, hk_q, B21, hfb, hzl24, R, C, o, I⟩
 have cn := R.size
 have b_ := C.size
 have b2 := o.size
 have b3 := I.size
 have dk := B21.lt
 replace U := a_ _ R
 refine Zk 34 hj26 (Zk 12 hj27 (Zk 13 hj28 ?_))
 have ei := W5 (Ac f).length (([] ++ Ac f ++ Ac J : List Vc.Item).getD k default) ([] ++ Ac f ++ Ac J : List Vc.Item) q
 refine Zs (Zn Bu (AB (AE η (fun cQ => ?_) (fun cQ => ?_))))
 refine AF (AB (AD (Zs (Zo AN (Zo (AV (q) rfl underlying33 Ag η η χ ω ((az _ o).addr (i := q) ω)) ?_)))))
 have b4 := fun (w' : World) (h : Evo w11 w' []) => (az w' h).atD (q) ω
 refine Zo (AY rfl CT Ag η rfl (b4 _ o)) (DI (zs := [_, _, _]) Ag η rfl ?_)
 intro b32 w33 J32 E33 B32 Y32
 have dV := E33.size
 replace R := Z0 R E33
 replace C := Z0 C E33
 replace o := Z0 o E33
 replace I := Z0 I E33
 replace B21 := B21.evo0 E33
 refine Zo Ah (BB (v := .agg _) (vs := [_, _, _]) (cs' := [_, _, _]) η η B32 Ag η rfl η rfl η ?_)
 intro w34 E34 V34 hb_new
 have dW := E34.size
 replace R := Z1 R E34 ε
 replace C := Z1 C E34 ε
 replace o := Z1 o E34 ε
 replace I := Z1 I E34 ε
 replace U := a_ _ R
 replace B21 := B21.evo E34 θ
 replace B32 := hb_new
 clear hb_new
 refine As (Zs (Zo (AY rfl CT Ag η rfl B21.at) (Zo (AY rfl CT Ag η rfl B32.at) (Zn (XI _ _ rfl Tryz.eqGuardType32 Ur η η) (AE η (fun bb => ?_) (fun bb => ?_))))))
 refine AB ?_
 have a1 := bb
 refine AA (Zo (Bt rfl η) (Zo Br ?_))
 refine Ab rfl Aq rfl (fun U => AN) ?_
 refine Ab rfl Aq rfl (fun U => AN) ?_
 refine Ab rfl Aq rfl (fun U => BQ rfl (Af U) (Af U)) ?_
 refine Zo Fm (Zn A6 (Zs (Zo AN (Zo Ar (Zo (AL rfl η underlying33) (Zn Bu (AE η (fun a6 => ?_) (fun a6 => ?_))))))))
 refine AA (Zo AN (Zo JV (Zn Ah (AO (AA (Zo A8 (Zn AN (Zg (q + 1) ?_))))))))
 refine ⟨_, σ, (by first | exact congrArg (Value.int _) (Qg (Eq.symm a1) ω).symm | exact congrArg (Value.int _) (Qp (Eq.symm a1) ω).symm | exact congrArg (Value.int _) (Nd (fun h => a6 h.symm)).symm), rfl, δ, B21, (by first | exact RB hfb a1.symm (by simp) | exact TW hfb (fun h => a6 h.symm)), δ, R, C, o, I⟩
 refine AA (Zo AN (Zo A8 (Zn Ah (AO (AA (Zo A8 (Zn AN (Zg (q + 1) ?_))))))))
 refine ⟨_, σ, (by first | exact congrArg (Value.int _) (Qg (Eq.symm a1) ω).symm | exact congrArg (Value.int _) (Qp (Eq.symm a1) ω).symm | exact congrArg (Value.int _) (Nd (fun h => a6 h.symm)).symm), rfl, δ, B21, (by first | exact RB hfb a1.symm (by simp) | exact TW hfb (fun h => a6 h.symm)), δ, R, C, o, I⟩
 refine AF (AO (AA (Zo A8 (Zn AN (Zg (q + 1) ?_)))))
 refine ⟨_, σ, (by first | exact congrArg (Value.int _) (Qg (Eq.symm a1) ω).symm | exact congrArg (Value.int _) (Qp (Eq.symm a1) ω).symm | exact congrArg (Value.int _) (Nd (fun h => bb h.symm)).symm), rfl, δ, B21, (by first | exact RB hfb a1.symm (by simp) | exact TW hfb (fun h => bb h.symm)), δ, R, C, o, I⟩
 refine AW rfl (AB ?_)
 have dm : q = ([] ++ Ac f ++ Ac J : List Vc.Item).length := by omega
 subst dm
 have ao := hfb
 have a7 : (PA (Ac f).length (([] ++ Ac f ++ Ac J : List Vc.Item).getD k default) ([] ++ Ac f ++ Ac J : List Vc.Item) ([] ++ Ac f ++ Ac J : List Vc.Item).length) = Ie (Ac f) (Ac J) (([] ++ Ac f ++ Ac J : List Vc.Item).getD k default) := Z3 (Ac f) (Ac J) _
 obtain ⟨c_, bn⟩ := cD (show k < ([] ++ Ac f ++ Ac J : List Vc.Item).length by omega)
 have dq : JM (([] ++ Ac f ++ Ac J : List Vc.Item).getD k default) := c_.elim (fun h => di _ (List.mem_filter.2 ⟨h, bn⟩)) (fun h => dj _ (List.mem_filter.2 ⟨h, bn⟩))
 have dr : (([] ++ Ac f ++ Ac J : List Vc.Item).getD k default).text.length ≤ 100000 := c_.elim ca.txt cb.txt
 refine AA (Zo (Bt rfl η) (Zo Br ?_))
 refine Ab rfl Aq rfl (fun U => AN) ?_
 refine Ab rfl Aq rfl (fun U => BD rfl (Af U) η) ?_
 refine Zn Fm (AE η (fun ag => ?_) (fun ag => ?_))
 refine AA (Zo Ar (Zo (AY rfl CT Ag η rfl B21.at) (Zr [.agg _] rfl η func132 (O0 dr dq) ?_)))
 rintro e eA ⟨rfl, F38⟩
 refine ⟨_, rfl, ?_⟩
 have dX := F38.size
 replace R := Z0 R F38
 replace C := Z0 C F38
 replace o := Z0 o F38
 replace I := Z0 I F38
 replace bm := bc _ I
 refine Zo AN (Zo (Aj (pv := [(0, .int _ _), (1, S _), (2, .int _ _)]) (zs := [_, _, _]) (cells := [_, _, _]) rfl Az η Cz η η) (Zr [.slice _ _ _, .agg _] rfl η func78 (C8 bm ω (x := (⟨4, MM (([] ++ Ac f ++ Ac J : List Vc.Item).getD k default), (PA (Ac f).length (([] ++ Ac f ++ Ac J : List Vc.Item).getD k default) ([] ++ Ac f ++ Ac J : List Vc.Item) ([] ++ Ac f ++ Ac J : List Vc.Item).length)⟩ : Vc.Item))) ?_))
 rintro e eB ⟨dR, rfl, F39, hop39⟩
 refine ⟨_, rfl, ?_⟩
 have dY := F39.size
 replace R := Z0 R F39
 replace C := Z0 C F39
 replace o := Z0 o F39
 replace I := Z0 I F39
 obtain ⟨dv, eg, dx, c9, aT, dQ⟩ := hop39.rowOf
 subst c9
 refine Zn Bs (AO (AA (Zo A8 (Zn AN (Zg (k + 1) ?_)))))
 refine ⟨_, _, _, _, σ, (by first | (rw [K3 ω fb ao a7 ag, ← KE bn]; exact rfl) | (rw [Kr ω fb ao a7 ag]; exact rfl)), δ, (by first | (rw [K3 ω fb ao a7 ag, ← KE bn]; exact aT) | (rw [Kr ω fb ao a7 ag]; exact aT)), δ, R, C, o⟩
 refine AF (AO (AA (Zo A8 (Zn AN (Zg (k + 1) ?_)))))
 refine ⟨_, _, _, _, σ, (by first | (rw [K3 ω fb ao a7 ag, ← KE bn]; exact rfl) | (rw [Kr ω fb ao a7 ag]; exact rfl)), δ, (by first | (rw [K3 ω fb ao a7 ag, ← KE bn]; exact (bc _ I)) | (rw [Kr ω fb ao a7 ag]; exact (bc _ I))), δ, R, C, o⟩
 refine AW rfl (Zs (Zo Ar (Zn Bs (AK (BN (v := .slice _ _ _) rfl η) ?_))))
 have e9 : EW (FJ (([] ++ Ac f ++ Ac J : List Vc.Item).take k)) (Ac f) (Ac J) Uy = Wh (Ac f) (Ac J) := by rw [List.take_of_length_le ω]; rfl
 rw [e9] at bm
 exact ⟨bz, bL, bx, ba, by rw [e9], R, bm⟩
theorem Gv : CG Tryz.prog 28 1 = some 13 := ζ
theorem FU : CG Tryz.prog 28 2 = some 14 := ζ
theorem EY {p : Prop} [Decidable p] {x : Vc.Item} : (if p then [x] else []).length ≤ 1 := by split <;> simp
theorem Yn {j : Int} {n : Nat} (h : j = 0 ∨ (100 ≤ j ∧ j ≤ 10000)) (o : n ≤ 101000) : 0 ≤ j * (n : Int) ∧ j * (n : Int) ≤ 1010000000 := Tq ω ω ω ω
theorem MA {c : Chk} {l : List Vc.Item} {s t : AQ} : AS l (CW c s t) = AS (AS (AS (AS (AS (AS l (CB s t)) (CN s t)) (ET t)) (DG s t)) (Dh c s t)) (DM c s t) := by
  unfold CW; simp only [Lm]
set_option maxHeartbeats 1000000 in
theorem Qr {c0 : Option Addr} {bl dj b_ : Nat} {l : List Vc.Item} {l0 l1 l2 l3 l4 l5 l6 l7 l8 l9 l10 J R sh lo : Int} {bW : Option Addr} {bt ot bp : Nat} {ts : List TermL} {bQ : Option Addr} {bc oc bn : Nat} {cl : List Clas} {s t : AQ} {w0 : World} (hl : RowE w0 c0 bl dj b_ l) (b4 : RowR w0 bW bt ot bp ts) (b3 : RowR w0 bQ bc oc bn cl) (hn : (0 ≤ sh ∧ sh ≤ 100) ∧ (lo = 0 ∨ (100 ≤ lo ∧ lo ≤ 10000))) (eQ : l.length ≤ 100000000) (hs : s.length ≤ 101000) (ht : t.length ≤ 101000) :
    Calls Tryz.prog 85 #[.slice c0 l.length b_, .agg #[.int .i64 l0, .int .i64 l1, .int .i64 l2, .int .i64 l3, .int .i64 l4, .int .i64 l5, .int .i64 l6, .int .i64 l7, .int .i64 l8, .int .i64 l9, .int .i64 l10, .int .i64 J, .int .i64 R, .int .i64 sh, .int .i64 lo, .slice bW ts.length bp, .slice bQ cl.length bn], S s, S t] w0 fun e w' => ∃ cV b9 di b8, e = .returned (.slice cV (AS l (CW (⟨[l0, l1, l2, l3, l4, l5, l6, l7, l8, l9, l10, J, R], sh, lo, ts, cl⟩ : Chk) s t)).length b8) ∧ Evo w0 w' [] ∧ RowE w' cV b9 di b8 (AS l (CW (⟨[l0, l1, l2, l3, l4, l5, l6, l7, l8, l9, l10, J, R], sh, lo, ts, cl⟩ : Chk) s t)) := by
 refine AG (n := 108) func85 rfl ntmps85 rfl ?_
 have I : Evo w0 w0 [] := Evo.refl _ _
 have b6 := Ak hl
 have dk := hl.bd
 have bM := b4.keep
 have c4 := b4.bd
 have bF := b3.keep
 have c3 := b3.bd
 refine Zs (Ch (vs := [_, _, _, _, _, _, _, _, _, _, _, _, _, _, _, _, _]) η η rfl ?_)
 intro b1 w2 J1 E2 B1 Y1
 have Q2 := E2.size
 replace I := Z0 I E2
 have j := B1.at
 refine Zn Bs (AB ?_)
 have : (CB s t).length ≤ 1 := EY
 have : (CN s t).length ≤ 1 := EY
 have : (ET t).length ≤ 1 := EY
 have : (DG s t).length ≤ 1 := EY
 have : (Dh (⟨[l0, l1, l2, l3, l4, l5, l6, l7, l8, l9, l10, J, R], sh, lo, ts, cl⟩ : Chk) s t).length ≤ 1 := EY
 have : (DM (⟨[l0, l1, l2, l3, l4, l5, l6, l7, l8, l9, l10, J, R], sh, lo, ts, cl⟩ : Chk) s t).length ≤ 1 := EY
 have eL := CL l (CB s t); have eM := CL (AS l (CB s t)) (CN s t); have eN := CL (AS (AS l (CB s t)) (CN s t)) (ET t); have eO := CL (AS (AS (AS l (CB s t)) (CN s t)) (ET t)) (DG s t); have eP := CL (AS (AS (AS (AS l (CB s t)) (CN s t)) (ET t)) (DG s t)) (Dh (⟨[l0, l1, l2, l3, l4, l5, l6, l7, l8, l9, l10, J, R], sh, lo, ts, cl⟩ : Chk) s t)
 have eJ := Yn hn.2 (show s.length ≤ 101000 by omega); have eK := Tq hn.1.1 (show sh ≤ 10000 by omega) (show (0 : Int) ≤ (s.length : Nat) by omega) (show ((s.length : Nat) : Int) ≤ 101000 by omega)
 refine AA (Zo Au (Zr [S _] rfl η func133 (K9 ω) ?_))
 rintro e w3 ⟨rfl, F3⟩
 refine ⟨_, rfl, ?_⟩
 have Q3 := F3.size
 replace I := Z0 I F3
 replace B1 := B1.evo0 F3
 replace j := j.evo0 F3
 refine Zo S4 (Zo (AX (v := S _) rfl η η) (Zo (AX (v := S _) rfl η η) (Zo CD (Zn CD (Zs (Zo Au (Zr [S _] rfl η func133 (K9 ω) ?_)))))))
 rintro e w4 ⟨rfl, F4⟩
 refine ⟨_, rfl, ?_⟩
 have Q4 := F4.size
 replace I := Z0 I F4
 replace hl := b6 _ I
 replace b4 := bM.now I
 replace b3 := bF.now I
 replace B1 := B1.evo0 F4
 replace j := j.evo0 F4
 refine Zo S4 (Zo (AX (v := S _) rfl η η) (Zo (AX (v := S _) rfl η η) (Zo CD (Zn CD (AB (Zs (Zo Au (Zo Au (Zn (CR rfl η η) ?_)))))))))
 refine C1 [0, 28, 29, 30] (fun g w => ∃ ag : Option Addr, ∃ bL : Nat, ∃ U : Nat, ∃ C : Nat, g 0 = .slice ag (AS l (CB s t)).length C ∧ RowE w ag bL U C (AS l (CB s t)) ∧ Blk w b1 28 [.int .i64 l0, .int .i64 l1, .int .i64 l2, .int .i64 l3, .int .i64 l4, .int .i64 l5, .int .i64 l6, .int .i64 l7, .int .i64 l8, .int .i64 l9, .int .i64 l10, .int .i64 J, .int .i64 R, .int .i64 sh, .int .i64 lo, .slice bW ts.length bp, .slice bQ cl.length bn] ∧ w4.heap.size ≤ w.heap.size ∧ Evo w0 w []) ?_ ?_
 refine AE η (fun b0 => ?_) (fun b0 => ?_)
 refine AA (Zo Ar (Zo (Aj (pv := [(0, .int _ _), (1, S _)]) (zs := [_, _, _]) (cells := [_, _, _]) rfl Az η Cz η η) (Zr [.slice _ _ _, .agg _] rfl η func78 (C8 hl ω (x := (⟨7, aL, 0⟩ : Vc.Item))) ?_)))
 rintro e w7 ⟨eT, rfl, F7, hop7⟩
 refine ⟨_, rfl, ?_⟩
 have Q7 := F7.size
 replace I := Z0 I F7
 replace B1 := B1.evo0 F7
 replace j := j.evo0 F7
 obtain ⟨ew, g8, eC, dv, da, eH⟩ := hop7.rowOf
 subst dv
 refine Zn Bs (Ae ?_ ?_)
 refine ⟨_, _, _, _, (by first | (rw [show CB s t = _ from if_pos b0]; exact rfl) | (rw [show CB s t = [] from if_neg b0]; exact rfl)), (by first | (rw [show CB s t = _ from if_pos b0]; exact da) | (rw [show CB s t = [] from if_neg b0]; exact da)), B1, δ, I⟩
 exact ψ
 refine AF (Ae ?_ ?_)
 refine ⟨_, _, _, _, (by first | (rw [show CB s t = _ from if_pos b0]; exact rfl) | (rw [show CB s t = [] from if_neg b0]; exact rfl)), (by first | (rw [show CB s t = _ from if_pos b0]; exact hl) | (rw [show CB s t = [] from if_neg b0]; exact hl)), B1, δ, I⟩
 exact ψ
 rintro g w9 ⟨ag, bL, U, C, hj10, o, B1, hzl5, I⟩
 have db := I.size
 have dn := B1.lt
 replace hl := b6 _ I
 replace b4 := bM.now I
 replace b3 := bF.now I
 have j := B1.at
 refine Zk 0 hj10 (AB (Zs (Zo Au (Zo Au (Zn (CR rfl η η) (C1 [0, 34, 35, 36] (fun g w => ∃ ag : Option Addr, ∃ bL : Nat, ∃ U : Nat, ∃ C : Nat, g 0 = .slice ag (AS (AS l (CB s t)) (CN s t)).length C ∧ RowE w ag bL U C (AS (AS l (CB s t)) (CN s t)) ∧ Blk w b1 28 [.int .i64 l0, .int .i64 l1, .int .i64 l2, .int .i64 l3, .int .i64 l4, .int .i64 l5, .int .i64 l6, .int .i64 l7, .int .i64 l8, .int .i64 l9, .int .i64 l10, .int .i64 J, .int .i64 R, .int .i64 sh, .int .i64 lo, .slice bW ts.length bp, .slice bQ cl.length bn] ∧ w9.heap.size ≤ w.heap.size ∧ Evo w0 w []) ?_ ?_))))))
 refine AE η (fun bq => ?_) (fun bq => ?_)
 refine AA (Zo Ar (Zo (Aj (pv := [(0, .int _ _), (1, S _)]) (zs := [_, _, _]) (cells := [_, _, _]) rfl Az η Cz η η) (Zr [.slice _ _ _, .agg _] rfl η func78 (C8 o ω (x := (⟨7, aM, 0⟩ : Vc.Item))) ?_)))
 rintro e eV ⟨ef, rfl, F14, hop14⟩
 refine ⟨_, rfl, ?_⟩
 have ek := F14.size
 replace I := Z0 I F14
 replace o := o.evo0 F14
 replace B1 := B1.evo0 F14
 replace j := j.evo0 F14
 obtain ⟨dQ, g15, dV, dc, ca, d_⟩ := hop14.rowOf
 subst dc
 refine Zn Bs (Ae ?_ ?_)
 refine ⟨_, _, _, _, (by first | (rw [show CN s t = _ from if_pos bq]; exact rfl) | (rw [show CN s t = [] from if_neg bq]; exact rfl)), (by first | (rw [show CN s t = _ from if_pos bq]; exact ca) | (rw [show CN s t = [] from if_neg bq]; exact ca)), B1, δ, I⟩
 exact ψ
 refine AF (Ae ?_ ?_)
 refine ⟨_, _, _, _, (by first | (rw [show CN s t = _ from if_pos bq]; exact rfl) | (rw [show CN s t = [] from if_neg bq]; exact rfl)), (by first | (rw [show CN s t = _ from if_pos bq]; exact o) | (rw [show CN s t = [] from if_neg bq]; exact o)), B1, δ, I⟩
 exact ψ
 rintro g dw ⟨ag, bL, U, C, hj17, o, B1, hzl12, I⟩
 have ct := I.size
 have dp := B1.lt
 replace hl := b6 _ I
 replace b4 := bM.now I
 replace b3 := bF.now I
 have j := B1.at
 refine Zk 0 hj17 (Zs (Zn Ah (AB (Zs (Zn Ah (AD (AZ (α := Nat) [13, 14, 37, 38, 39, 40, 41, 42, 43, 44, 45, 46, 47, 48, 49, 50, 51, 52, 53, 54, 55, 56] (fun k g w => g 13 = .int .i64 (IJ t k : Nat) ∧ g 14 = .int .i64 (k : Nat) ∧ Blk w b1 28 [.int .i64 l0, .int .i64 l1, .int .i64 l2, .int .i64 l3, .int .i64 l4, .int .i64 l5, .int .i64 l6, .int .i64 l7, .int .i64 l8, .int .i64 l9, .int .i64 l10, .int .i64 J, .int .i64 R, .int .i64 sh, .int .i64 lo, .slice bW ts.length bp, .slice bQ cl.length bn] ∧ RowE w ag bL U C (AS (AS l (CB s t)) (CN s t)) ∧ k ≤ t.length ∧ dw.heap.size ≤ w.heap.size ∧ Evo w0 w []) (fun k => t.length - k) 0 ?_ ?_)))))))
 refine ⟨rfl, rfl, B1, o, δ, δ, I⟩
 rintro k g dx ⟨c_, hj22, B1, o, hk, hzl19, I⟩
 have cH := I.size
 have dq := B1.lt
 replace hl := b6 _ I
 replace b4 := bM.now I
 replace b3 := bF.now I
 have j := B1.at
 refine Zk 13 c_ (Zk 14 hj22 ?_)
 have eI := Ue t k
 refine AB (Zs (Zo AN (Zo A8 (Zo Au (Zo (Al rfl η underlying9) (Zn Bu (AE η (fun c9 => ?_) (fun c9 => ?_))))))))
 refine AF (AB (AD (Zs (Zo Au (Zo AN (Zo (A3 (k) rfl underlying9 η η χ ω) (Zo C3 (Zo Br ?_))))))))
 refine Ab rfl Aq rfl (fun hg => Au) ?_
 refine Ab rfl Aq rfl (fun hg => AN) ?_
 refine Ab rfl Aq rfl (fun hg => Cp rfl (Af hg) η ω ω) ?_
 refine Ab rfl Aq rfl (fun hg => A3 ((k + 1)) rfl underlying9 (Af hg) (Af hg) ω ω) ?_
 refine Ab rfl Aq rfl (fun hg => A1 rfl (Af hg) η) ?_
 refine Zn Fm (AE η (fun b2 => ?_) (fun b2 => ?_))
 refine AA (Zo AN (Zo A8 (Zn Ah (AO (AA (Zo AN (Zo A8 (Zn Ah (Zg (k + 1) ?_)))))))))
 refine ⟨(by first | exact congrArg (Value.int _) (by rw [Ul b2]; omega) | exact congrArg (Value.int _) (by rw [YT b2])), (congrArg (Value.int _) ω), B1, o, δ, δ, I⟩
 refine AF (AO (AA (Zo AN (Zo A8 (Zn Ah (Zg (k + 1) ?_))))))
 refine ⟨(by first | exact congrArg (Value.int _) (by rw [Ul b2]; omega) | exact congrArg (Value.int _) (by rw [YT b2])), (congrArg (Value.int _) ω), B1, o, δ, δ, I⟩
 refine AW rfl (AB (AB ?_))
 have dm := YP (t := t) (k := k) ω ω
 refine Zk 13 (v := .int .i64 (Nj t : Nat)) (by rw [← dm]; exact rfl) (AA (Zo AN (Zn IG (C1 [0, 59, 60, 61, 62] (fun g w => ∃ ag : Option Addr, ∃ bL : Nat, ∃ U : Nat, ∃ C : Nat, g 0 = .slice ag (AS (AS (AS l (CB s t)) (CN s t)) (ET t)).length C ∧ RowE w ag bL U C (AS (AS (AS l (CB s t)) (CN s t)) (ET t)) ∧ Blk w b1 28 [.int .i64 l0, .int .i64 l1, .int .i64 l2, .int .i64 l3, .int .i64 l4, .int .i64 l5, .int .i64 l6, .int .i64 l7, .int .i64 l8, .int .i64 l9, .int .i64 l10, .int .i64 J, .int .i64 R, .int .i64 sh, .int .i64 lo, .slice bW ts.length bp, .slice bQ cl.length bn] ∧ dx.heap.size ≤ w.heap.size ∧ Evo w0 w []) ?_ ?_))))
 refine AE η (fun bs => ?_) (fun bs => ?_)
 refine AA (Zo Ar (Zo AN (Zo (Aj (pv := [(0, .int _ _), (2, .int _ _)]) (zs := [_, _, _]) (cells := [_, _, _]) rfl Az η Cz η η) (Zr [.slice _ _ _, .agg _] rfl η func78 (C8 o ω (x := (⟨8, [], (Nj t : Nat)⟩ : Vc.Item))) ?_))))
 rintro e eW ⟨eg, rfl, F28, hop28⟩
 refine ⟨_, rfl, ?_⟩
 have en := F28.size
 replace I := Z0 I F28
 replace B1 := B1.evo0 F28
 replace o := o.evo0 F28
 replace j := j.evo0 F28
 obtain ⟨dR, eD, dW, dd, cb, ea⟩ := hop28.rowOf
 subst dd
 refine Zn Bs (Ae ?_ ?_)
 refine ⟨_, _, _, _, (by first | (rw [show ET t = _ from if_pos (by have h9 := bs; omega)]; exact rfl) | (rw [show ET t = [] from if_neg (by have h9 := bs; omega)]; exact rfl)), (by first | (rw [show ET t = _ from if_pos (by have h9 := bs; omega)]; exact cb) | (rw [show ET t = [] from if_neg (by have h9 := bs; omega)]; exact cb)), B1, δ, I⟩
 exact ψ
 refine AF (Ae ?_ ?_)
 refine ⟨_, _, _, _, (by first | (rw [show ET t = _ from if_pos (by have h9 := bs; omega)]; exact rfl) | (rw [show ET t = [] from if_neg (by have h9 := bs; omega)]; exact rfl)), (by first | (rw [show ET t = _ from if_pos (by have h9 := bs; omega)]; exact o) | (rw [show ET t = [] from if_neg (by have h9 := bs; omega)]; exact o)), B1, δ, I⟩
 exact ψ
 rintro g eX ⟨ag, bL, U, C, hj31, o, B1, hzl26, I⟩
 have cI := I.size
 have dr := B1.lt
 have j := B1.at
 refine Zk 0 hj31 (AB (Zs (Zo Au (Zr [S _] rfl η func134 (Ip ω) ?_))))
 rintro e eY ⟨rfl, F33⟩
 refine ⟨_, rfl, ?_⟩
 have eo := F33.size
 replace I := Z0 I F33
 replace o := o.evo0 F33
 replace B1 := B1.evo0 F33
 replace j := j.evo0 F33
 refine Zo Au (Zr [S _] rfl η func134 (Ip ω) ?_)
 rintro e dy ⟨rfl, F34⟩
 refine ⟨_, rfl, ?_⟩
 have ep := F34.size
 replace I := Z0 I F34
 replace hl := b6 _ I
 replace b4 := bM.now I
 replace b3 := bF.now I
 replace o := o.evo0 F34
 replace B1 := B1.evo0 F34
 replace j := j.evo0 F34
 refine Zn (CR rfl η η) (C1 [0, 68, 69, 70, 71, 72] (fun g w => ∃ ag : Option Addr, ∃ bL : Nat, ∃ U : Nat, ∃ C : Nat, g 0 = .slice ag (AS (AS (AS (AS l (CB s t)) (CN s t)) (ET t)) (DG s t)).length C ∧ RowE w ag bL U C (AS (AS (AS (AS l (CB s t)) (CN s t)) (ET t)) (DG s t)) ∧ Blk w b1 28 [.int .i64 l0, .int .i64 l1, .int .i64 l2, .int .i64 l3, .int .i64 l4, .int .i64 l5, .int .i64 l6, .int .i64 l7, .int .i64 l8, .int .i64 l9, .int .i64 l10, .int .i64 J, .int .i64 R, .int .i64 sh, .int .i64 lo, .slice bW ts.length bp, .slice bQ cl.length bn] ∧ dy.heap.size ≤ w.heap.size ∧ Evo w0 w []) ?_ ?_)
 refine AE η (fun bw => ?_) (fun bw => ?_)
 refine AA (Zo Ar (Zo Au (Zr [S _] rfl η func134 (Ip ω) ?_)))
 rintro e eZ ⟨rfl, F37⟩
 refine ⟨_, rfl, ?_⟩
 have er := F37.size
 replace I := Z0 I F37
 replace o := o.evo0 F37
 replace B1 := B1.evo0 F37
 replace j := j.evo0 F37
 refine Zo (Aj (pv := [(0, .int _ _), (1, S _)]) (zs := [_, _, _]) (cells := [_, _, _]) rfl Az η Cz η η) (Zr [.slice _ _ _, .agg _] rfl η func78 (C8 o ω (x := (⟨9, Gt t, 0⟩ : Vc.Item))) ?_)
 rintro e e0 ⟨eh, rfl, F38, hop38⟩
 refine ⟨_, rfl, ?_⟩
 have et := F38.size
 replace I := Z0 I F38
 replace o := o.evo0 F38
 replace B1 := B1.evo0 F38
 replace j := j.evo0 F38
 obtain ⟨dS, eE, dX, de, cc, eb⟩ := hop38.rowOf
 subst de
 refine Zn Bs (Ae ?_ ?_)
 refine ⟨_, _, _, _, (by first | (rw [show DG s t = _ from if_pos bw]; exact rfl) | (rw [show DG s t = [] from if_neg bw]; exact rfl)), (by first | (rw [show DG s t = _ from if_pos bw]; exact cc) | (rw [show DG s t = [] from if_neg bw]; exact cc)), B1, δ, I⟩
 exact ψ
 refine AF (Ae ?_ ?_)
 refine ⟨_, _, _, _, (by first | (rw [show DG s t = _ from if_pos bw]; exact rfl) | (rw [show DG s t = [] from if_neg bw]; exact rfl)), (by first | (rw [show DG s t = _ from if_pos bw]; exact o) | (rw [show DG s t = [] from if_neg bw]; exact o)), B1, δ, I⟩
 exact ψ
 rintro g dz ⟨ag, bL, U, C, hj41, o, B1, hzl35, I⟩
 have cK := I.size
 have ds := B1.lt
 replace hl := b6 _ I
 replace b4 := bM.now I
 replace b3 := bF.now I
 have j := B1.at
 refine Zk 0 hj41 (AB (Zs (Zo (AJ rfl η FU) (Zo (AH rfl A0 η (j.cell 14 η)) (Zo (BD rfl η η) (Zo Br ?_))))))
 refine Ab rfl Aq rfl (fun hg => Au) ?_
 refine Ab rfl Aq rfl (fun hg => Al rfl (Af hg) underlying9) ?_
 refine Ab rfl Aq rfl (fun hg => Fw rfl η (Af hg) ω ω) ?_
 refine Ab rfl Aq rfl (fun hg => AJ rfl η FU) ?_
 refine Ab rfl Aq rfl (fun hg => AH rfl A0 (Af hg) (j.cell 14 η)) ?_
 refine Ab rfl Aq rfl (fun hg => Au) ?_
 refine Ab rfl Aq rfl (fun hg => Al rfl (Af hg) underlying9) ?_
 refine Ab rfl Aq rfl (fun hg => Fw rfl (Af hg) (Af hg) ω ω) ?_
 refine Ab rfl Aq rfl (fun hg => Bf rfl (Af hg) (Af hg)) ?_
 refine Zn Fm (C1 [0, 87, 88, 89] (fun g w => ∃ ag : Option Addr, ∃ bL : Nat, ∃ U : Nat, ∃ C : Nat, g 0 = .slice ag (AS (AS (AS (AS (AS l (CB s t)) (CN s t)) (ET t)) (DG s t)) (Dh (⟨[l0, l1, l2, l3, l4, l5, l6, l7, l8, l9, l10, J, R], sh, lo, ts, cl⟩ : Chk) s t)).length C ∧ RowE w ag bL U C (AS (AS (AS (AS (AS l (CB s t)) (CN s t)) (ET t)) (DG s t)) (Dh (⟨[l0, l1, l2, l3, l4, l5, l6, l7, l8, l9, l10, J, R], sh, lo, ts, cl⟩ : Chk) s t)) ∧ Blk w b1 28 [.int .i64 l0, .int .i64 l1, .int .i64 l2, .int .i64 l3, .int .i64 l4, .int .i64 l5, .int .i64 l6, .int .i64 l7, .int .i64 l8, .int .i64 l9, .int .i64 l10, .int .i64 J, .int .i64 R, .int .i64 sh, .int .i64 lo, .slice bW ts.length bp, .slice bQ cl.length bn] ∧ dz.heap.size ≤ w.heap.size ∧ Evo w0 w []) ?_ ?_)
 refine AE η (fun bx => ?_) (fun bx => ?_)
 refine AA (Zo Ar (Zo (Aj (pv := [(0, .int _ _), (1, S _)]) (zs := [_, _, _]) (cells := [_, _, _]) rfl Az η Cz η η) (Zr [.slice _ _ _, .agg _] rfl η func78 (C8 o ω (x := (⟨12, U4, 0⟩ : Vc.Item))) ?_)))
 rintro e e2 ⟨ei, rfl, F45, hop45⟩
 refine ⟨_, rfl, ?_⟩
 have eu := F45.size
 replace I := Z0 I F45
 replace o := o.evo0 F45
 replace B1 := B1.evo0 F45
 replace j := j.evo0 F45
 obtain ⟨dT, eF, dY, df, cg, ec⟩ := hop45.rowOf
 subst df
 refine Zn Bs (Ae ?_ ?_)
 refine ⟨_, _, _, _, (by first | (rw [show Dh (⟨[l0, l1, l2, l3, l4, l5, l6, l7, l8, l9, l10, J, R], sh, lo, ts, cl⟩ : Chk) s t = _ from if_pos bx]; exact rfl) | (rw [show Dh (⟨[l0, l1, l2, l3, l4, l5, l6, l7, l8, l9, l10, J, R], sh, lo, ts, cl⟩ : Chk) s t = [] from if_neg bx]; exact rfl)), (by first | (rw [show Dh (⟨[l0, l1, l2, l3, l4, l5, l6, l7, l8, l9, l10, J, R], sh, lo, ts, cl⟩ : Chk) s t = _ from if_pos bx]; exact cg) | (rw [show Dh (⟨[l0, l1, l2, l3, l4, l5, l6, l7, l8, l9, l10, J, R], sh, lo, ts, cl⟩ : Chk) s t = [] from if_neg bx]; exact cg)), B1, δ, I⟩
 exact ψ
 refine AF (Ae ?_ ?_)
 refine ⟨_, _, _, _, (by first | (rw [show Dh (⟨[l0, l1, l2, l3, l4, l5, l6, l7, l8, l9, l10, J, R], sh, lo, ts, cl⟩ : Chk) s t = _ from if_pos bx]; exact rfl) | (rw [show Dh (⟨[l0, l1, l2, l3, l4, l5, l6, l7, l8, l9, l10, J, R], sh, lo, ts, cl⟩ : Chk) s t = [] from if_neg bx]; exact rfl)), (by first | (rw [show Dh (⟨[l0, l1, l2, l3, l4, l5, l6, l7, l8, l9, l10, J, R], sh, lo, ts, cl⟩ : Chk) s t = _ from if_pos bx]; exact o) | (rw [show Dh (⟨[l0, l1, l2, l3, l4, l5, l6, l7, l8, l9, l10, J, R], sh, lo, ts, cl⟩ : Chk) s t = [] from if_neg bx]; exact o)), B1, δ, I⟩
 exact ψ
 rintro g dO ⟨ag, bL, U, C, hj48, o, B1, hzl43, I⟩
 have cQ := I.size
 have dt := B1.lt
 have j := B1.at
 refine Zk 0 hj48 (AB (Zs (Zo (AJ rfl η Gv) (Zo (AH rfl A0 η (j.cell 13 η)) (Zo (BD rfl η η) (Zo Br ?_))))))
 refine Ab rfl Aq rfl (fun hg => Au) ?_
 refine Ab rfl Aq rfl (fun hg => Al rfl (Af hg) underlying9) ?_
 refine Ab rfl Aq rfl (fun hg => Fw rfl η (Af hg) ω ω) ?_
 refine Ab rfl Aq rfl (fun hg => AJ rfl η Gv) ?_
 refine Ab rfl Aq rfl (fun hg => AH rfl A0 (Af hg) (j.cell 13 η)) ?_
 refine Ab rfl Aq rfl (fun hg => Au) ?_
 refine Ab rfl Aq rfl (fun hg => Al rfl (Af hg) underlying9) ?_
 refine Ab rfl Aq rfl (fun hg => Fw rfl (Af hg) (Af hg) ω ω) ?_
 refine Ab rfl Aq rfl (fun hg => Cx rfl (Af hg) (Af hg)) ?_
 refine Zn Fm (C1 [0, 104, 105, 106] (fun g w => ∃ ag : Option Addr, ∃ bL : Nat, ∃ U : Nat, ∃ C : Nat, g 0 = .slice ag (AS (AS (AS (AS (AS (AS l (CB s t)) (CN s t)) (ET t)) (DG s t)) (Dh (⟨[l0, l1, l2, l3, l4, l5, l6, l7, l8, l9, l10, J, R], sh, lo, ts, cl⟩ : Chk) s t)) (DM (⟨[l0, l1, l2, l3, l4, l5, l6, l7, l8, l9, l10, J, R], sh, lo, ts, cl⟩ : Chk) s t)).length C ∧ RowE w ag bL U C (AS (AS (AS (AS (AS (AS l (CB s t)) (CN s t)) (ET t)) (DG s t)) (Dh (⟨[l0, l1, l2, l3, l4, l5, l6, l7, l8, l9, l10, J, R], sh, lo, ts, cl⟩ : Chk) s t)) (DM (⟨[l0, l1, l2, l3, l4, l5, l6, l7, l8, l9, l10, J, R], sh, lo, ts, cl⟩ : Chk) s t)) ∧ Blk w b1 28 [.int .i64 l0, .int .i64 l1, .int .i64 l2, .int .i64 l3, .int .i64 l4, .int .i64 l5, .int .i64 l6, .int .i64 l7, .int .i64 l8, .int .i64 l9, .int .i64 l10, .int .i64 J, .int .i64 R, .int .i64 sh, .int .i64 lo, .slice bW ts.length bp, .slice bQ cl.length bn] ∧ dO.heap.size ≤ w.heap.size ∧ Evo w0 w []) ?_ ?_)
 refine AE η (fun bz => ?_) (fun bz => ?_)
 refine AA (Zo Ar (Zo (Aj (pv := [(0, .int _ _), (1, S _)]) (zs := [_, _, _]) (cells := [_, _, _]) rfl Az η Cz η η) (Zr [.slice _ _ _, .agg _] rfl η func78 (C8 o ω (x := (⟨12, RW, 0⟩ : Vc.Item))) ?_)))
 rintro e e3 ⟨ej, rfl, F52, hop52⟩
 refine ⟨_, rfl, ?_⟩
 have ev := F52.size
 replace I := Z0 I F52
 replace o := o.evo0 F52
 replace B1 := B1.evo0 F52
 replace j := j.evo0 F52
 obtain ⟨dU, eG, dZ, dh, cn, ed⟩ := hop52.rowOf
 subst dh
 refine Zn Bs (Ae ?_ ?_)
 refine ⟨_, _, _, _, (by first | (rw [show DM (⟨[l0, l1, l2, l3, l4, l5, l6, l7, l8, l9, l10, J, R], sh, lo, ts, cl⟩ : Chk) s t = _ from if_pos bz]; exact rfl) | (rw [show DM (⟨[l0, l1, l2, l3, l4, l5, l6, l7, l8, l9, l10, J, R], sh, lo, ts, cl⟩ : Chk) s t = [] from if_neg bz]; exact rfl)), (by first | (rw [show DM (⟨[l0, l1, l2, l3, l4, l5, l6, l7, l8, l9, l10, J, R], sh, lo, ts, cl⟩ : Chk) s t = _ from if_pos bz]; exact cn) | (rw [show DM (⟨[l0, l1, l2, l3, l4, l5, l6, l7, l8, l9, l10, J, R], sh, lo, ts, cl⟩ : Chk) s t = [] from if_neg bz]; exact cn)), B1, δ, I⟩
 exact ψ
 refine AF (Ae ?_ ?_)
 refine ⟨_, _, _, _, (by first | (rw [show DM (⟨[l0, l1, l2, l3, l4, l5, l6, l7, l8, l9, l10, J, R], sh, lo, ts, cl⟩ : Chk) s t = _ from if_pos bz]; exact rfl) | (rw [show DM (⟨[l0, l1, l2, l3, l4, l5, l6, l7, l8, l9, l10, J, R], sh, lo, ts, cl⟩ : Chk) s t = [] from if_neg bz]; exact rfl)), (by first | (rw [show DM (⟨[l0, l1, l2, l3, l4, l5, l6, l7, l8, l9, l10, J, R], sh, lo, ts, cl⟩ : Chk) s t = _ from if_pos bz]; exact o) | (rw [show DM (⟨[l0, l1, l2, l3, l4, l5, l6, l7, l8, l9, l10, J, R], sh, lo, ts, cl⟩ : Chk) s t = [] from if_neg bz]; exact o)), B1, δ, I⟩
 exact ψ
 rintro g e4 ⟨ag, bL, U, C, hj55, o, B1, hzl50, I⟩
 have cR := I.size
 have du := B1.lt
 refine Zk 0 hj55 (Zs (Zo Ar (Zn Bs (AK (BN (v := .slice _ _ _) rfl η) ?_))))
 exact ⟨ag, bL, U, C, by rw [MA], I, by rw [MA]; exact o⟩
end Go.Proofs.YtlfjocbnbceceaaGreatDoor
namespace Go.Proofs.YtlfjocbnbceceaaGreatDoor
open Go Go.RowKit Go.Vc Go.Proofs.Tryz
theorem Oa {l : List Int} {rest : List Value} {k : Nat} (hk : k < l.length) : (l.map (Value.int .i64) ++ rest)[k]? = some (.int .i64 (l.getD k default)) := by
  rw [List.getElem?_append_left (by simpa using hk), List.getElem?_map, List.getElem?_eq_getElem hk, List.getD_eq_getElem?_getD, List.getElem?_eq_getElem hk]; rfl
theorem Uz {c : Chk} {k : Nat} (hk : k < c.lev.length) (h : c.lev.getD k default < 0 ∨ 2 < c.lev.getD k default) : EG c = 1 := if_pos (.inl ⟨_, A5 hk, h⟩)
theorem RJ {c : Chk} (h : ((¬ c.lev.getD 0 default = 0 ∨ c.short < 0) ∨ 100 < c.short) ∨ (¬ c.long = 0 ∧ (c.long < 100 ∨ 10000 < c.long))) : EG c = 1 := if_pos (.inr h)
theorem br {c : Chk} {n : Nat} (J : c.lev.length = n) (o : ∀ j, j < n → ¬ (c.lev.getD j default < 0 ∨ 2 < c.lev.getD j default)) : ¬ ∃ x ∈ c.lev, x < 0 ∨ 2 < x := fun ⟨x, I, h⟩ => by
  obtain ⟨j, C, rfl⟩ := List.mem_iff_getElem.1 I
  exact o j ω (by rwa [List.getD_eq_getElem?_getD, List.getElem?_eq_getElem C])
theorem Xo {c : Chk} {n : Nat} (C : c.lev.length = n) (o : ∀ j, j < n → ¬ (c.lev.getD j default < 0 ∨ 2 < c.lev.getD j default)) (h : ¬ (((¬ c.lev.getD 0 default = 0 ∨ c.short < 0) ∨ 100 < c.short) ∨ (¬ c.long = 0 ∧ (c.long < 100 ∨ 10000 < c.long)))) : EG c = E0 c.ts c.cls :=
  if_neg (fun q => q.elim (br C o) h)
def ax (c : Chk) (j : Nat) : Prop := (c.lev.getD j default < 0 ∨ 2 < c.lev.getD j default) ∨ (j = 0 ∧ ¬ c.lev.getD j default = 0)
theorem Xg {c : Chk} {k : Nat} (hk : k < c.lev.length) (h : ax c k) : EG c = 1 := by
  rcases h with h | ⟨rfl, h⟩
  · exact Uz hk h
  · exact RJ (.inl (.inl (.inl h)))
theorem X6 {c : Chk} (h : (c.short < 0 ∨ 100 < c.short) ∨ (¬ c.long = 0 ∧ (c.long < 100 ∨ 10000 < c.long))) : EG c = 1 :=
  RJ (h.imp (fun h => h.imp (fun h => .inr h) id) id)
theorem Zj {c : Chk} {n : Nat} (J : c.lev.length = n) (C : 0 < n) (o : ∀ j, j < n → ¬ ax c j) (h : ¬ ((c.short < 0 ∨ 100 < c.short) ∨ (¬ c.long = 0 ∧ (c.long < 100 ∨ 10000 < c.long)))) : EG c = E0 c.ts c.cls :=
  Xo J (fun j I q => o j I (.inl q)) (fun q => q.elim (fun q => q.elim (fun q => q.elim (fun q => o 0 C (.inr ⟨rfl, q⟩)) (fun q => h (.inl (.inl q)))) (fun q => h (.inl (.inr q)))) (fun q => h (.inr q)))
theorem NR {c : Chk} (h : EG c = 0) : (0 ≤ c.short ∧ c.short ≤ 100) ∧ (c.long = 0 ∨ (100 ≤ c.long ∧ c.long ≤ 10000)) := by
  have h1 : ¬ LO c := fun q => by unfold EG at h; rw [if_pos q] at h; exact absurd h υ
  unfold LO at h1; omega
theorem VY {tg : List Vc.Item} {x : TermL} (h : G2 tg x = true) : 0 < x.req.length := by
  unfold G2 at h
  rcases hx : x.req with _ | ⟨a, b⟩
  · rw [hx] at h; simp at h
  · simp
theorem Sl {tg : List Vc.Item} {ts : List TermL} {n : Nat} {sp : List Spt} {k : Nat} (hk : k < (BR tg ts (Aa n sp)).length) : (BR tg ts (Aa n sp)).getD k default < n ∧ 0 < (ts.getD ((BR tg ts (Aa n sp)).getD k default) default).req.length := by
  have h1 := List.mem_filter.1 (A5 hk)
  exact ⟨List.mem_range.1 (List.mem_filter.1 h1.1).1, VY h1.2⟩
theorem Lo {tg : List Vc.Item} {ts : List TermL} {sp : List Spt} (h : ∀ x ∈ ts, x.forb.length ≤ 1048576) (o : ts.length ≤ 40) : (BZ tg ts [] (Aa ts.length sp)).length ≤ 41943040 := by
  have h1 := H9 tg ts (B := 1048576) (fun k => by
    rcases Nat.lt_or_ge k ts.length with j | j
    · exact h _ (A5 j)
    · rw [List.getD_eq_getElem?_getD, List.getElem?_eq_none j]; exact Nat.zero_le _) (Aa ts.length sp) []
  have j := DX ts.length sp
  rw [List.length_nil, Nat.zero_add] at h1
  exact Nat.le_trans h1 (Nat.le_trans (Nat.mul_le_mul_right _ (show (Aa ts.length sp).length ≤ 40 by omega)) υ)
theorem Ha {α β : Type} [Inhabited α] {l : List α} {k : Nat} (hk : k < l.length) (f : α → β) : (l.take (k + 1)).map f = (l.take k).map f ++ [f (l.getD k default)] := by rw [Ai l k hk, List.map_append]; rfl
theorem Kh {α : Type} [Inhabited α] {l : List α} {p : α → Bool} {k : Nat} (hk : k < l.length) (h : p (l.getD k default) = true) : (l.take (k + 1)).filter p = (l.take k).filter p ++ [l.getD k default] := by
  rw [Ai l k hk, List.filter_append, List.filter_cons_of_pos h]; rfl
theorem Mr {α : Type} [Inhabited α] {l : List α} {p : α → Bool} {k : Nat} (hk : k < l.length) (h : ¬ p (l.getD k default) = true) : (l.take (k + 1)).filter p = (l.take k).filter p := by
  rw [Ai l k hk, List.filter_append, List.filter_cons_of_neg h]; simp
theorem T6 {c : Chk} {f g : List Vc.Item} : DP (Hg c f g) = AS (AS (AS (AS (AS (AS (AS (AS [] (Bk f g)) (Cb f g)) (Es f g)) (Bh f g)) (HC f g)) (CW c (A9 f) (A9 g))) (VB c (Ax f) (Ax g))) (QD c (Ax f) (Ax g)) := by
  unfold DP Hg Od; simp only [Lm]
theorem Tf (c : Chk) (s t : AQ) : (CW c s t).length ≤ 6 := by
  have h : ∀ {p : Prop} [Decidable p] {x : Vc.Item}, (if p then [x] else []).length ≤ 1 := by intro p _ x; split <;> simp
  unfold CW CB CN ET DG Dh DM
  simp only [List.length_append]
  have h1 := @h (¬ K2 s = K2 t) _ ⟨7, aL, 0⟩
  have j := @h (¬ IA s = IA t) _ ⟨7, aM, 0⟩
  have o := @h (0 < Nj t) _ ⟨8, [], (Nj t : Nat)⟩
  have C := @h (¬ Gt s = Gt t) _ ⟨9, Gt t, 0⟩
  have I := @h (¬ c.long = 0 ∧ c.long * (s.length : Nat) < 100 * (t.length : Nat)) _ ⟨12, U4, 0⟩
  have J := @h (¬ c.short = 0 ∧ 100 * (t.length : Nat) < c.short * (s.length : Nat)) _ ⟨12, RW, 0⟩
  omega
structure FLens (c : Chk) (f g : List Vc.Item) : Prop where
  same : (Bk f g).length ≤ 1
  slot : (Cb f g).length ≤ 2000
  tag : (Es f g).length ≤ 2000
  shape : (Bh f g).length ≤ 1
  num : (HC f g).length ≤ 202000
  plain : (CW c (A9 f) (A9 g)).length ≤ 6
theorem W8 {c : Chk} {f g : List Vc.Item} (j : Tiny f) (o : Tiny g) : FLens c f g where
  same := by unfold Bk; split <;> simp
  slot := by
    have h := TH 3 (Fu (Bv f)) (Fu (Bv g))
    rw [Ek, Ek] at h
    have h1 := Dp f; have C := Dp g; have I := j.1; have J := o.1
    unfold Cb; omega
  tag := by
    have h : (Wh (Ac f) (Ac g)).length ≤ (FJ (Ac f ++ Ac g)).length := Kf _ _ _ _
    have R := S0 (Ac f ++ Ac g)
    rw [List.length_append] at R
    have h1 := Ei f; have C := Ei g; have I := j.1; have J := o.1
    unfold Es; omega
  shape := by unfold Bh; split <;> simp
  num := by
    have h := TH 6 (JL (Ax f)) (JL (Ax g))
    have h1 := Fi (Ax f); have C := Fi (Ax g); have I := j.tlen; have J := o.tlen
    unfold HC; omega
  plain := Tf _ _ _
theorem VI {c : Chk} {f g : List Vc.Item} (j : Tiny f) (o : Tiny g) (I : c.ts.length ≤ 40) (C : ∀ x ∈ c.ts, x.forb.length ≤ 1048576) : (Hg c f g).length ≤ 50000000 := by
  have h := W8 (c := c) j o
  have h1 := h.same; have J := h.slot; have R := h.tag; have U := h.shape; have h5 := h.num; have h6 := h.plain
  have h7 := Lo (tg := Ax g) (sp := AR (Ax f) (BG c.cls c.ts) 0) C I
  have h8 := HK (Ax g) c.ts (Aa c.ts.length (AR (Ax f) (BG c.cls c.ts) 0))
  have h9 := DX c.ts.length (AR (Ax f) (BG c.cls c.ts) 0)
  unfold Hg Od VB QD bP
  simp only [List.length_append, List.length_map]
  omega
theorem Ph {c : Chk} {f g : List Vc.Item} (j : Tiny f) (o : Tiny g) (I : c.ts.length ≤ 40) (C : ∀ x ∈ c.ts, x.forb.length ≤ 1048576) : (Cv c f g).length ≤ 50000000 := by
  unfold Cv; split
  · simp
  · exact VI j o I C
theorem VQ (l : List Vc.Item) : (DP l).length = l.length := (GV l).length_eq
theorem Z4 {c : Chk} {f g : List Vc.Item} {k : Nat} (hk : k < (DP (Cv c f g)).length) : 1 ≤ ((DP (Cv c f g)).getD k default).kind ∧ ((DP (Cv c f g)).getD k default).kind ≤ 12 := NP ((GV _).mem_iff.1 (A5 hk))
theorem Ut {c : Chk} {f g : List Vc.Item} (h : ¬ ¬ EG c = 0) : Sm c f g = (DP (Cv c f g)).filter (RU c) := if_pos (Classical.not_not.1 h)
theorem SJ {c : Chk} {f g : List Vc.Item} (h : ¬ EG c = 0) : Sm c f g = [] := if_neg h
theorem KH {c : Chk} {x : Vc.Item} (h : ¬ c.lev.getD x.kind.toNat default = 0) : RU c x = true := decide_eq_true h
theorem Mx {c : Chk} {x : Vc.Item} (h : ¬ ¬ c.lev.getD x.kind.toNat default = 0) : ¬ RU c x = true := fun q => h (of_decide_eq_true q)
theorem aZ : DH Tryz.prog 24 = some true := ζ
theorem K1 : DH Tryz.prog 25 = some false := ζ
theorem MG : DH Tryz.prog 26 = some false := ζ
theorem FE : DH Tryz.prog 28 = some true := ζ
theorem FY : CG Tryz.prog 28 0 = some 0 := ζ
theorem Fa : CG Tryz.prog 28 3 = some 15 := ζ
theorem GB : CG Tryz.prog 28 4 = some 16 := ζ
theorem aR : Dl Tryz.prog 24 = some (13, 104, some (.agg #[(.int .i64 0), (.int .i64 0), (.int .i64 0), (.int .i64 0), (.int .i64 0), (.int .i64 0), (.int .i64 0), (.int .i64 0), (.int .i64 0), (.int .i64 0), (.int .i64 0), (.int .i64 0), (.int .i64 0)])) := ζ
theorem Db : Dl Tryz.prog 28 = some (17, 168, some (.agg #[(.int .i64 0), (.int .i64 0), (.int .i64 0), (.int .i64 0), (.int .i64 0), (.int .i64 0), (.int .i64 0), (.int .i64 0), (.int .i64 0), (.int .i64 0), (.int .i64 0), (.int .i64 0), (.int .i64 0), (.int .i64 0), (.int .i64 0), (.slice none 0 0), (.slice none 0 0)])) := ζ
theorem cY : ∀ (w : World) (x y : Vc.Item), (Op.equalIn 10000 39 (.agg (Enc.enc x).toArray) (.agg (Enc.enc y).toArray)).run Tryz.prog w = .ok (decide (x = y)) w := fun w x y => K4 9998 underlying39 Tryz.stoodInHeld39 υ υ υ rfl rfl rfl underlying3 underlying9 underlying3 A0 BF A0 x y
set_option maxHeartbeats 1000000 in
theorem Mp {l0 l1 l2 l3 l4 l5 l6 l7 l8 l9 l10 C I sh lo : Int} {bl : Option Addr} {bt ot U : Nat} {ts : List TermL} {bg : Option Addr} {bc oc R : Nat} {cl : List Clas} {w0 : World} (ao : RowR w0 bl bt ot U ts) (ag : RowR w0 bg bc oc R cl) :
    Calls Tryz.prog 12 #[.agg #[.int .i64 l0, .int .i64 l1, .int .i64 l2, .int .i64 l3, .int .i64 l4, .int .i64 l5, .int .i64 l6, .int .i64 l7, .int .i64 l8, .int .i64 l9, .int .i64 l10, .int .i64 C, .int .i64 I, .int .i64 sh, .int .i64 lo, .slice bl ts.length U, .slice bg cl.length R]] w0 fun e w' => e = .returned (.int .i64 (EG (⟨[l0, l1, l2, l3, l4, l5, l6, l7, l8, l9, l10, C, I], sh, lo, ts, cl⟩ : Chk))) ∧ Evo w0 w' [] := by
 refine AG (n := 51) func12 rfl ntmps12 rfl ?_
 have J : Evo w0 w0 [] := Evo.refl _ _
 have bn := ao.keep
 have bF := ao.bd
 have bm := ag.keep
 have bz := ag.bd
 refine Zs (Ch (vs := [_, _, _, _, _, _, _, _, _, _, _, _, _, _, _, _, _]) η η rfl ?_)
 intro b1 w2 J1 E2 B1 Y1
 have Q2 := E2.size
 replace J := Z0 J E2
 replace ao := bn.now J
 replace ag := bm.now J
 refine Zn Ah (AB (Zs (Zo (AJ rfl η FY) (Zo (AY rfl aZ aR η rfl (B1.at.part 0 13 (ds := [_, _, _, _, _, _, _, _, _, _, _, _, _]) η)) (Zn AN (AD (AZ (α := Nat) [2, 4, 7, 8, 9, 10, 11, 12, 13, 14, 15, 16] (fun k g w => g 7 = .int .i64 (k : Nat) ∧ Blk w b1 28 [.int .i64 l0, .int .i64 l1, .int .i64 l2, .int .i64 l3, .int .i64 l4, .int .i64 l5, .int .i64 l6, .int .i64 l7, .int .i64 l8, .int .i64 l9, .int .i64 l10, .int .i64 C, .int .i64 I, .int .i64 sh, .int .i64 lo, .slice bl ts.length U, .slice bg cl.length R] ∧ k ≤ 13 ∧ (∀ j, j < k → ¬ (([l0, l1, l2, l3, l4, l5, l6, l7, l8, l9, l10, C, I] : List Int).getD j default < 0 ∨ 2 < ([l0, l1, l2, l3, l4, l5, l6, l7, l8, l9, l10, C, I] : List Int).getD j default)) ∧ w2.heap.size ≤ w.heap.size ∧ Evo w0 w []) (fun k => 13 - k) 0 ?_ ?_)))))))
 refine ⟨rfl, B1, δ, (fun j h => by omega), δ, J⟩
 rintro k g w4 ⟨bQ, B1, hk, hno, hzl3, J⟩
 have bL := J.size
 have bY := B1.lt
 replace ao := bn.now J
 replace ag := bm.now J
 refine Zk 7 bQ (Zs (Zn Bu (AB (AE η (fun bM => ?_) (fun bM => ?_)))))
 refine AF (AB (AD (Zs (Zo (N9 (v := .int .i64 (([l0, l1, l2, l3, l4, l5, l6, l7, l8, l9, l10, C, I] : List Int).getD k default)) (k) rfl underlying24 Cf A0 η η χ ω (by exact Oa (l := ([l0, l1, l2, l3, l4, l5, l6, l7, l8, l9, l10, C, I] : List Int)) (rest := []) (show k < 13 by omega))) (Zn Ah (Zs (Zo AN (Zo Bu (Zo Br ?_)))))))))
 refine Ab rfl Ay rfl (fun o => AN) ?_
 refine Ab rfl Ay rfl (fun o => Bf rfl (Af o) η) ?_
 refine Zn Ee (AE η (fun bp => ?_) (fun bp => ?_))
 refine Zs (Zn Ah (AK CZ ?_))
 exact ⟨AU (Uz (c := (⟨[l0, l1, l2, l3, l4, l5, l6, l7, l8, l9, l10, C, I], sh, lo, ts, cl⟩ : Chk)) (k := k) (show k < 13 by omega) bp).symm, J⟩
 refine AF (AO (AA (Zo A8 (Zn AN (Zg (k + 1) ?_)))))
 refine ⟨(congrArg (Value.int _) ω), B1, δ, (CS hno bp), δ, J⟩
 refine AW rfl (AB (Zs (Zo (AJ rfl η FY) (Zo (G0 (0) rfl underlying24 Cf η η η ω) (Zo (AH rfl A0 η (B1.at.cell 0 η)) (Zo (BD rfl η η) (Zo Br ?_)))))))
 refine Ab rfl Ay rfl (fun o => AJ rfl η Gv) ?_
 refine Ab rfl Ay rfl (fun o => AH rfl A0 (Af o) (B1.at.cell 13 η)) ?_
 refine Ab rfl Ay rfl (fun o => Cx rfl (Af o) η) ?_
 refine Zo Ee (Zo Br ?_)
 refine Ab rfl Ay rfl (fun o => AJ rfl η Gv) ?_
 refine Ab rfl Ay rfl (fun o => AH rfl A0 (Af o) (B1.at.cell 13 η)) ?_
 refine Ab rfl Ay rfl (fun o => Bf rfl (Af o) η) ?_
 refine Zo Ee (Zo Br ?_)
 refine Ab rfl Ay rfl (fun o => AJ rfl η FU) ?_
 refine Ab rfl Ay rfl (fun o => AH rfl A0 (Af o) (B1.at.cell 14 η)) ?_
 refine Ab rfl Ay rfl (fun o => BD rfl (Af o) η) ?_
 refine Ab rfl Ay rfl (fun o => AP (v := .bool _) rfl (Af o)) ?_
 refine Ab rfl (Ce η) rfl (fun o => AJ rfl η FU) ?_
 refine Ab rfl (Ce η) rfl (fun o => AH rfl A0 (Af o) (B1.at.cell 14 η)) ?_
 refine Ab rfl (Ce η) rfl (fun o => Cx rfl (Af o) η) ?_
 refine Ab rfl (Ce η) rfl (fun o => AP (v := .bool _) rfl (Af o)) ?_
 refine Ab rfl (CP η) rfl (fun o => AJ rfl η FU) ?_
 refine Ab rfl (CP η) rfl (fun o => AH rfl A0 (Af o) (B1.at.cell 14 η)) ?_
 refine Ab rfl (CP η) rfl (fun o => Bf rfl (Af o) η) ?_
 refine Ab rfl (Ce η) rfl (fun o => Cq rfl (Af o) rfl (fun hq => IK η (fun h => h) (And.intro o hq))) ?_
 refine Ab rfl Ay rfl (fun o => Bc rfl (Af o) (fun hq => IK η (fun h => h) (And.intro o hq)) rfl) ?_
 refine Zn Ee (AE η (fun bq => ?_) (fun bq => ?_))
 refine Zs (Zn Ah (AK CZ ?_))
 exact ⟨AU (RJ (c := (⟨[l0, l1, l2, l3, l4, l5, l6, l7, l8, l9, l10, C, I], sh, lo, ts, cl⟩ : Chk)) bq).symm, J⟩
 refine AF (Zs (Zo (AJ rfl η Fa) (Zo (AH rfl K1 η (B1.at.cell 15 η)) (Zo (AJ rfl η GB) (Zo (AH rfl MG η (B1.at.cell 16 η)) (Zr [.slice bl ts.length U, .slice bg cl.length R] rfl η func29 (Mo ao ag) ?_))))))
 rintro e b6 ⟨rfl, F10⟩
 refine ⟨_, rfl, ?_⟩
 have b0 := F10.size
 replace J := Z0 J F10
 refine Zn Ah (AK CZ ?_)
 exact ⟨AU (Xo (c := (⟨[l0, l1, l2, l3, l4, l5, l6, l7, l8, l9, l10, C, I], sh, lo, ts, cl⟩ : Chk)) (n := 13) rfl (fun j hj => hno j ω) bq).symm, J⟩
set_option maxHeartbeats 1000000 in
theorem L0 {l0 l1 l2 l3 l4 l5 l6 l7 l8 l9 l10 C I sh lo : Int} {aT : Option Addr} {bt ot U : Nat} {ts : List TermL} {az : Option Addr} {bc oc R : Nat} {cl : List Clas} {w0 : World} (ao : RowR w0 aT bt ot U ts) (ag : RowR w0 az bc oc R cl) (bY : ∀ x ∈ ts, IH x) :
    Calls Tryz.prog 13 #[.agg #[.int .i64 l0, .int .i64 l1, .int .i64 l2, .int .i64 l3, .int .i64 l4, .int .i64 l5, .int .i64 l6, .int .i64 l7, .int .i64 l8, .int .i64 l9, .int .i64 l10, .int .i64 C, .int .i64 I, .int .i64 sh, .int .i64 lo, .slice aT ts.length U, .slice az cl.length R]] w0 fun e w' => e = .returned (.int .i64 (EG (⟨[l0, l1, l2, l3, l4, l5, l6, l7, l8, l9, l10, C, I], sh, lo, ts, cl⟩ : Chk))) ∧ Evo w0 w' [] := by
 refine AG (n := 54) func13 rfl ntmps13 rfl ?_
 have J : Evo w0 w0 [] := Evo.refl _ _
 have bn := ao.keep
 have bF := ao.bd
 have bm := ag.keep
 have bz := ag.bd
 refine Zs (Ch (vs := [_, _, _, _, _, _, _, _, _, _, _, _, _, _, _, _, _]) η η rfl ?_)
 intro b1 w2 J1 E2 B1 Y1
 have Q2 := E2.size
 replace J := Z0 J E2
 replace ao := bn.now J
 replace ag := bm.now J
 refine Zn Ah (AB (Zs (Zo (AJ rfl η FY) (Zo (AY rfl aZ aR η rfl (B1.at.part 0 13 (ds := [_, _, _, _, _, _, _, _, _, _, _, _, _]) η)) (Zn AN (AD (AZ (α := Nat) [2, 3, 4, 7, 8, 9, 10, 11, 12, 13, 14, 15, 16, 17, 18, 19, 20, 21, 22, 23, 24, 25] (fun k g w => g 7 = .int .i64 (k : Nat) ∧ Blk w b1 28 [.int .i64 l0, .int .i64 l1, .int .i64 l2, .int .i64 l3, .int .i64 l4, .int .i64 l5, .int .i64 l6, .int .i64 l7, .int .i64 l8, .int .i64 l9, .int .i64 l10, .int .i64 C, .int .i64 I, .int .i64 sh, .int .i64 lo, .slice aT ts.length U, .slice az cl.length R] ∧ k ≤ 13 ∧ (∀ j, j < k → ¬ (ax (⟨[l0, l1, l2, l3, l4, l5, l6, l7, l8, l9, l10, C, I], sh, lo, ts, cl⟩ : Chk) j)) ∧ w2.heap.size ≤ w.heap.size ∧ Evo w0 w []) (fun k => 13 - k) 0 ?_ ?_)))))))
 refine ⟨rfl, B1, δ, (fun j h => by omega), δ, J⟩
 rintro k g w4 ⟨bW, B1, hk, hno, hzl3, J⟩
 have bM := J.size
 have b0 := B1.lt
 replace ao := bn.now J
 replace ag := bm.now J
 refine Zk 7 bW (Zs (Zn Bu (AB (AE η (fun bQ => ?_) (fun bQ => ?_)))))
 refine AF (AB (AD (Zs (Zo AN (Zo (N9 (v := .int .i64 (([l0, l1, l2, l3, l4, l5, l6, l7, l8, l9, l10, C, I] : List Int).getD k default)) (k) rfl underlying24 Cf A0 η η χ ω (by exact Oa (l := ([l0, l1, l2, l3, l4, l5, l6, l7, l8, l9, l10, C, I] : List Int)) (rest := []) (show k < 13 by omega))) (Zo Ah (Zn Ah (Zs (Zo AN ?_)))))))))
 refine Zo Bu (Zo Br ?_)
 refine Ab rfl Ay rfl (fun o => AN) ?_
 refine Ab rfl Ay rfl (fun o => Bf rfl (Af o) η) ?_
 refine Zo Ee (Zo Br ?_)
 refine Ab rfl Ay rfl (fun o => AN) ?_
 refine Ab rfl Ay rfl (fun o => A1 rfl (Af o) η) ?_
 refine Ab rfl Ay rfl (fun o => AP (v := .bool _) rfl (Af o)) ?_
 refine Ab rfl (Ce η) rfl (fun o => AN) ?_
 refine Ab rfl (Ce η) rfl (fun o => BD rfl (Af o) η) ?_
 refine Ab rfl Ay rfl (fun o => Bc rfl (Af o) (fun hq => IK η (fun h => h) (And.intro o hq)) rfl) ?_
 refine Zn Ee (AE η (fun bp => ?_) (fun bp => ?_))
 refine Zs (Zn Ah (AK CZ ?_))
 exact ⟨AU (Xg (c := (⟨[l0, l1, l2, l3, l4, l5, l6, l7, l8, l9, l10, C, I], sh, lo, ts, cl⟩ : Chk)) (k := k) (show k < 13 by omega) (by have h9 := bp; exact h9.imp (fun q => q) (fun q => ⟨by omega, q.2⟩))).symm, J⟩
 refine AF (AO (AA (Zo A8 (Zn AN (Zg (k + 1) ?_)))))
 refine ⟨(congrArg (Value.int _) ω), B1, δ, (CS hno (fun q => bp (q.imp id (fun r => ⟨by have := r.1; omega, r.2⟩)))), δ, J⟩
 refine AW rfl (AB (Zs (Zo (AJ rfl η Gv) (Zo (AH rfl A0 η (B1.at.cell 13 η)) (Zo Bu (Zo Br ?_))))))
 refine Ab rfl Ay rfl (fun o => AJ rfl η Gv) ?_
 refine Ab rfl Ay rfl (fun o => AH rfl A0 (Af o) (B1.at.cell 13 η)) ?_
 refine Ab rfl Ay rfl (fun o => Bf rfl (Af o) η) ?_
 refine Zo Ee (Zo Br ?_)
 refine Ab rfl Ay rfl (fun o => AJ rfl η FU) ?_
 refine Ab rfl Ay rfl (fun o => AH rfl A0 (Af o) (B1.at.cell 14 η)) ?_
 refine Ab rfl Ay rfl (fun o => BD rfl (Af o) η) ?_
 refine Ab rfl Ay rfl (fun o => AP (v := .bool _) rfl (Af o)) ?_
 refine Ab rfl (Ce η) rfl (fun o => AJ rfl η FU) ?_
 refine Ab rfl (Ce η) rfl (fun o => AH rfl A0 (Af o) (B1.at.cell 14 η)) ?_
 refine Ab rfl (Ce η) rfl (fun o => Cx rfl (Af o) η) ?_
 refine Ab rfl (Ce η) rfl (fun o => AP (v := .bool _) rfl (Af o)) ?_
 refine Ab rfl (CP η) rfl (fun o => AJ rfl η FU) ?_
 refine Ab rfl (CP η) rfl (fun o => AH rfl A0 (Af o) (B1.at.cell 14 η)) ?_
 refine Ab rfl (CP η) rfl (fun o => Bf rfl (Af o) η) ?_
 refine Ab rfl (Ce η) rfl (fun o => Cq rfl (Af o) rfl (fun hq => IK η (fun h => h) (And.intro o hq))) ?_
 refine Ab rfl Ay rfl (fun o => Bc rfl (Af o) (fun hq => IK η (fun h => h) (And.intro o hq)) rfl) ?_
 refine Zn Ee (AE η (fun bq => ?_) (fun bq => ?_))
 refine Zs (Zn Ah (AK CZ ?_))
 exact ⟨AU (X6 (c := (⟨[l0, l1, l2, l3, l4, l5, l6, l7, l8, l9, l10, C, I], sh, lo, ts, cl⟩ : Chk)) bq).symm, J⟩
 refine AF (Zs (Zo (AJ rfl η Fa) (Zo (AH rfl K1 η (B1.at.cell 15 η)) (Zo (AJ rfl η GB) (Zo (AH rfl MG η (B1.at.cell 16 η)) (Zr [.slice aT ts.length U, .slice az cl.length R] rfl η func30 (Lr ao ag bY) ?_))))))
 rintro e b8 ⟨rfl, F10⟩
 refine ⟨_, rfl, ?_⟩
 have b2 := F10.size
 replace J := Z0 J F10
 refine Zn Ah (AK CZ ?_)
 exact ⟨AU (Zj (c := (⟨[l0, l1, l2, l3, l4, l5, l6, l7, l8, l9, l10, C, I], sh, lo, ts, cl⟩ : Chk)) (n := 13) rfl υ (fun j hj => hno j ω) bq).symm, J⟩
theorem Dx {U ag : Option Addr} {ba a7 J bb a8 R : Nat} {a b : List Vc.Item} {I : World} (ha : RowE I U ba a7 J a) (hb : RowE I ag bb a8 R b) :
    Calls Tryz.prog 16 #[.slice U a.length J, .slice ag b.length R] I fun e w' => e = .returned (.bool (decide (a = b))) ∧ Evo I w' [] := by
 refine AG (n := 26) func16 rfl ntmps16 rfl ?_
 have j : Evo I I [] := Evo.refl _ _
 have aT := Ak ha
 have a_ := ha.bd
 have a1 := Ak hb
 have bc := hb.bd
 refine Zs (Zn A6 (AB (Zs (Zo Ar (Zo (AL rfl η underlying34) (Zo Ar (Zo (AL rfl η underlying34) (Zn (BD rfl η η) (AE η (fun bf => ?_) (fun bf => ?_))))))))))
 refine Zs (Zn A6 (AK Dk ?_))
 exact ⟨by rw [decide_eq_false (fun h => by subst h; omega)], j⟩
 refine AF (AB (Zs (Zo Ar (Zo (AL rfl η underlying34) (Zn AN (AD (AZ (α := Nat) [4, 5, 13, 14, 15, 16, 17, 18, 19, 20, 21, 22, 23, 24, 25] (fun k g w => g 13 = .int .i64 (k : Nat) ∧ k ≤ a.length ∧ a.take k = b.take k ∧ I.heap.size ≤ w.heap.size ∧ Evo I w []) (fun k => a.length - k) 0 ?_ ?_)))))))
 refine ⟨σ, δ, (by simp), δ, j⟩
 rintro k g w3 ⟨bl, hk_k, hpre, hzl2, j⟩
 have a6 := j.size
 refine Zk 13 bl (Zs (Zn Bu (AB (AE η (fun bg => ?_) (fun bg => ?_)))))
 refine AF (AB (AD (Zs (Zo AN (Zn Ah (AB (Ba ζ ζ (Zq (fun w' C => Ar) (Zq (fun w' C => AN) ?_)))))))))
 refine Zq (fun w' C => AV (k) rfl underlying34 Az η η χ ω ((aT _ j).addr (i := k) ω)) ?_
 have ao := fun (w' : World) (h : Evo I w' []) => (aT w' h).atD (k) ω
 refine Zq (fun w' C => AY rfl JP Az η rfl ((ao _ j).evo0 C)) (Zq (fun w' C => Ar) (Zq (fun w' C => AN) (Zq (fun w' C => AV (k) rfl underlying34 Az η η χ ω ((a1 _ j).addr (i := k) ω)) ?_)))
 have az := fun (w' : World) (h : Evo I w' []) => (a1 w' h).atD (k) ω
 refine Zq (fun w' C => AY rfl JP Az η rfl ((az _ j).evo0 C)) (Zq (fun w' C => OY _ _ rfl Tryz.eqGuardType39 cY η η) (EE (fun w8 F9 => ?_)))
 have Q8 := F9.size
 replace j := Z0 j F9
 refine AE η (fun o => ?_) (fun o => ?_)
 refine Zs (Zn A6 (AK Dk ?_))
 exact ⟨by rw [decide_eq_false (fun h => by subst h; exact o rfl)], j⟩
 refine AF (AO (AA (Zo A8 (Zn AN (Zg (k + 1) ?_)))))
 refine ⟨σ, δ, (Oi hpre ω ω (Classical.not_not.1 o)), δ, j⟩
 refine AW rfl (Zs (Zn A6 (AK Dk ?_)))
 exact ⟨by rw [decide_eq_true (by rw [List.take_of_length_le ω, List.take_of_length_le ω] at hpre; exact hpre)], j⟩
theorem Qs {w : World} {b off j o : Nat} {cs : List Value} {v : Value} (h : At w b off cs) (C : cs[j]? = some v) (I : o = off + j) : w.cell? ⟨b, o, none⟩ = some v := by subst I; exact h.cell j C
theorem Gq {f g : List Vc.Item} : ((¬((BE f).isSome = true ↔ (BE g).isSome = true) ∨ (!decide (Wv f = Wv g)) = true) ∨ (!decide (Wt f = Wt g)) = true) ↔ (((BE f).isSome ≠ (BE g).isSome ∨ ¬ sC f = sC g) ∨ ¬ sO f = sO g) := by
  have h1 : (¬((BE f).isSome = true ↔ (BE g).isSome = true)) ↔ ((BE f).isSome ≠ (BE g).isSome) := by rw [← Bool.eq_iff_iff]
  have j : ((!decide (Wv f = Wv g)) = true) ↔ ¬ sC f = sC g := by rw [Bool.not_eq_true', decide_eq_false_iff_not]; exact Iff.rfl
  have o : ((!decide (Wt f = Wt g)) = true) ↔ ¬ sO f = sO g := by rw [Bool.not_eq_true', decide_eq_false_iff_not]; exact Iff.rfl
  rw [h1, j, o]
set_option maxHeartbeats 1000000 in
theorem Th {l0 l1 l2 l3 l4 l5 l6 l7 l8 l9 l10 J R sh lo : Int} {da : Option Addr} {bt ot cr : Nat} {ts : List TermL} {c_ : Option Addr} {bc oc cn : Nat} {cl : List Clas} {eu : Option Addr} {bf fw dO : Nat} {f : List Vc.Item} {ev : Option Addr} {bg og dQ : Nat} {j : List Vc.Item} {w0 : World} (cg : RowR w0 da bt ot cr ts) (cI : RowR w0 c_ bc oc cn cl) (hf : RowE w0 eu bf fw dO f) (hg : RowE w0 ev bg og dQ j) (cc : Tiny f) (cQ : Tiny j) (fl : ∀ x ∈ Ac f, JM x) (fm : ∀ x ∈ Ac j, JM x) (hz : ts.length ≤ 40) (ee : ∀ x ∈ ts, IH x) (hn : (0 ≤ sh ∧ sh ≤ 100) ∧ (lo = 0 ∨ (100 ≤ lo ∧ lo ≤ 10000))) :
    Calls Tryz.prog 44 #[.agg #[.int .i64 l0, .int .i64 l1, .int .i64 l2, .int .i64 l3, .int .i64 l4, .int .i64 l5, .int .i64 l6, .int .i64 l7, .int .i64 l8, .int .i64 l9, .int .i64 l10, .int .i64 J, .int .i64 R, .int .i64 sh, .int .i64 lo, .slice da ts.length cr, .slice c_ cl.length cn], .slice eu f.length dO, .slice ev j.length dQ] w0 fun e w' => ∃ et b9 e1 dz, e = .returned (.slice et (DP (Cv (⟨[l0, l1, l2, l3, l4, l5, l6, l7, l8, l9, l10, J, R], sh, lo, ts, cl⟩ : Chk) f j)).length dz) ∧ Evo w0 w' [] ∧ RowE w' et b9 e1 dz (DP (Cv (⟨[l0, l1, l2, l3, l4, l5, l6, l7, l8, l9, l10, J, R], sh, lo, ts, cl⟩ : Chk) f j)) := by
 refine AG (n := 139) func44 rfl ntmps44 rfl ?_
 have C : Evo w0 w0 [] := Evo.refl _ _
 have cH := cg.keep
 have eA := cg.bd
 have cR := cI.keep
 have ez := cI.bd
 have cK := Ak hf
 have fa := hf.bd
 have cb := Ak hg
 have fb := hg.bd
 refine Zs (Ch (vs := [_, _, _, _, _, _, _, _, _, _, _, _, _, _, _, _, _]) η η rfl ?_)
 intro b1 w2 J1 E2 B1 Y1
 have Q2 := E2.size
 replace C := Z0 C E2
 replace hf := cK _ C
 replace hg := cb _ C
 refine Zn Bs (AB (Zs (Zo Ar (Zo (AL rfl η underlying33) (Zo C3 (Zo Br ?_))))))
 refine Ab rfl Aq rfl (fun hg => Ar) ?_
 refine Ab rfl Aq rfl (fun hg => AL rfl (Af hg) underlying33) ?_
 refine Ab rfl Aq rfl (fun hg => Bf rfl (Af hg) η) ?_
 refine Zn Fm (AE η (fun eB => ?_) (fun eB => ?_))
 refine Zs (Zo (Aj (pv := [(0, .int _ _)]) (zs := [_, _, _]) (cells := [_, _, _]) rfl Az η Cz η η) (Av (pv := [(0, .agg _)]) (zs := [_, _, _]) (cs := [_, _, _]) underlying34 Az η rfl η rfl η ?_))
 intro b4 w5 J4 E5 B4 Y4
 have Q5 := E5.size
 replace C := Z0 C E5
 have eI : RowE w5 (some ⟨b4, 0, none⟩) b4 0 1 ([⟨1, [], 0⟩] : List Vc.Item) := Bl ([⟨1, [], 0⟩] : List Vc.Item) B4 rfl rfl
 refine Zn (AM (v := .slice (some ⟨b4, 0, none⟩) _ _) rfl η) (AK (BN (v := .slice (some ⟨b4, 0, none⟩) _ _) rfl η) ?_)
 have fj : DP (Cv (⟨[l0, l1, l2, l3, l4, l5, l6, l7, l8, l9, l10, J, R], sh, lo, ts, cl⟩ : Chk) f j) = [⟨1, [], 0⟩] := by unfold Cv; rw [if_pos (show Tc f j from ⟨by omega, by omega⟩)]; rfl
 rw [fj]
 exact ⟨_, _, _, _, rfl, C, eI⟩
 refine AF (Zs (Zn Bs (AB (AB ?_))))
 have o : RowE w2 none 0 0 0 ([] : List Vc.Item) := RowE.nil _ _ _ _ _
 refine Zk 7 (v := .slice none ([] : List Vc.Item).length 0) η ?_
 have dm := W8 (c := (⟨[l0, l1, l2, l3, l4, l5, l6, l7, l8, l9, l10, J, R], sh, lo, ts, cl⟩ : Chk)) cc cQ; have hZ := dm.same; have h0 := dm.slot; have h2 := dm.tag; have h3 := dm.shape; have h4 := dm.num; have h5 := dm.plain
 have h7 := CL ([]) (Bk f j)
 have h8 := CL (AS ([]) (Bk f j)) (Cb f j)
 have h9 := CL (AS (AS ([]) (Bk f j)) (Cb f j)) (Es f j)
 have h_ := CL (AS (AS (AS ([]) (Bk f j)) (Cb f j)) (Es f j)) (Bh f j)
 have ia := CL (AS (AS (AS (AS ([]) (Bk f j)) (Cb f j)) (Es f j)) (Bh f j)) (HC f j)
 have ib := CL (AS (AS (AS (AS (AS ([]) (Bk f j)) (Cb f j)) (Es f j)) (Bh f j)) (HC f j)) (CW (⟨[l0, l1, l2, l3, l4, l5, l6, l7, l8, l9, l10, J, R], sh, lo, ts, cl⟩ : Chk) (A9 f) (A9 j))
 have h6 : ([] : List Vc.Item).length = 0 := rfl; have ic := Dp f; have ie := Dp j; have ig := Ek (Bv f); have ih := Ek (Bv j); have ij := cc.1; have ik := cQ.1; have il := Fi (Ax f); have im := Fi (Ax j); have iq := cc.tlen; have gp := cQ.tlen; have gq := cc.plen; have gr := cQ.plen
 refine AA (Zo Ar (Zo Ar (Zr [.slice _ _ _, .slice _ _ _] rfl η func27 (Te hf hg) ?_)))
 rintro e w6 ⟨rfl, F6⟩
 refine ⟨_, rfl, ?_⟩
 have Q6 := F6.size
 replace C := Z0 C F6
 replace hg := cb _ C
 replace B1 := B1.evo0 F6
 replace o := o.evo0 F6
 refine Zo Br ?_
 refine Ab rfl Aq rfl (fun hg => Ar) ?_
 refine Bb rfl Aq rfl (fun hg => Am rfl (An (v := .slice _ _ _) (Af hg) (rfl)) func77 rfl ζ) (fun hg => (RN (cK _ C) cc).mono (fun e w' h => ⟨h.1, h.2⟩)) (fun w7 F8 => ?_)
 have Q7 := F8.size
 replace C := Z0 C F8
 replace cg := cH.now C
 replace cI := cR.now C
 replace hf := cK _ C
 replace hg := cb _ C
 replace B1 := B1.evo0 F8
 replace o := o.evo0 F8
 refine Zn (Bg rfl η (fun hq => IK η (fun h => h) hq) rfl) ?_
 refine C1 [7, 37, 38, 39] (fun g w => ∃ bn : Option Addr, ∃ bL : Nat, ∃ bm : Nat, ∃ a1 : Nat, g 7 = .slice bn (AS ([]) (Bk f j)).length a1 ∧ RowE w bn bL bm a1 (AS ([]) (Bk f j)) ∧ Blk w b1 28 [.int .i64 l0, .int .i64 l1, .int .i64 l2, .int .i64 l3, .int .i64 l4, .int .i64 l5, .int .i64 l6, .int .i64 l7, .int .i64 l8, .int .i64 l9, .int .i64 l10, .int .i64 J, .int .i64 R, .int .i64 sh, .int .i64 lo, .slice da ts.length cr, .slice c_ cl.length cn] ∧ w7.heap.size ≤ w.heap.size ∧ Evo w0 w []) ?_ ?_
 refine AE η (fun b_ => ?_) (fun b_ => ?_)
 refine AA (Zo Ar (Zo (Aj (pv := [(0, .int _ _)]) (zs := [_, _, _]) (cells := [_, _, _]) rfl Az η Cz η η) (Zr [.slice _ _ _, .agg _] rfl η func78 (C8 o ω (x := (⟨2, [], 0⟩ : Vc.Item))) ?_)))
 rintro e iF ⟨gS, rfl, F11, hop11⟩
 refine ⟨_, rfl, ?_⟩
 have gW := F11.size
 replace C := Z0 C F11
 replace B1 := B1.evo0 F11
 replace o := o.evo0 F11
 obtain ⟨fA, g12, fU, eK, dR, gw⟩ := hop11.rowOf
 subst eK
 refine Zn Bs (Ae ?_ ?_)
 refine ⟨_, _, _, _, (by first | (rw [show Bk f j = _ from if_pos b_]; exact rfl) | (rw [show Bk f j = [] from if_neg b_]; exact rfl)), (by first | (rw [show Bk f j = _ from if_pos b_]; exact dR) | (rw [show Bk f j = [] from if_neg b_]; exact dR)), B1, δ, C⟩
 exact ψ
 refine AF (Ae ?_ ?_)
 refine ⟨_, _, _, _, (by first | (rw [show Bk f j = _ from if_pos b_]; exact rfl) | (rw [show Bk f j = [] from if_neg b_]; exact rfl)), (by first | (rw [show Bk f j = _ from if_pos b_]; exact o) | (rw [show Bk f j = [] from if_neg b_]; exact o)), B1, δ, C⟩
 exact ψ
 rintro g iG ⟨bn, bL, bm, a1, hj14, o, B1, hzl9, C⟩
 have ek := C.size
 have fp := B1.lt
 replace hf := cK _ C
 refine Zk 7 hj14 (Zs (Zo Ar (Zo Ar (Zr [.slice _ _ _] rfl η func80 (LF hf cc.small) ?_))))
 rintro e iH ⟨gO, rfl, F16, U⟩
 refine ⟨_, rfl, ?_⟩
 have gX := F16.size
 replace C := Z0 C F16
 replace hg := cb _ C
 replace o := o.evo0 F16
 replace B1 := B1.evo0 F16
 refine Zo Ar (Zr [.slice _ _ _] rfl η func80 (LF hg cQ.small) ?_)
 rintro e iI ⟨gP, rfl, F17, ao⟩
 refine ⟨_, rfl, ?_⟩
 have gY := F17.size
 replace C := Z0 C F17
 replace o := o.evo0 F17
 replace B1 := B1.evo0 F17
 replace U := U.evo0 F17
 obtain ⟨fB, g18, fV, eL, bb, gx⟩ := U.rowOf
 subst eL
 obtain ⟨fC, g19, fW, eM, bl, gy⟩ := ao.rowOf
 subst eM
 refine Zr [.slice _ _ _, .int _ _, .slice _ _ _, .slice _ _ _] rfl η func79 (Mk o bb bl ω ω ω) ?_
 rintro e fx ⟨dw, b20, off20, cap20, rfl, F20, az⟩
 refine ⟨_, rfl, ?_⟩
 have gZ := F20.size
 replace C := Z0 C F20
 replace hf := cK _ C
 replace hg := cb _ C
 replace o := o.evo0 F20
 replace B1 := B1.evo0 F20
 replace U := U.evo0 F20
 replace ao := ao.evo0 F20
 replace bb := bb.evo0 F20
 replace bl := bl.evo0 F20
 replace az : RowE fx dw b20 off20 cap20 (AS (AS ([]) (Bk f j)) (Cb f j)) := az
 refine BO (i := 45) (v := .slice dw (AS (AS ([]) (Bk f j)) (Cb f j)).length cap20) η (Zn Bs (Zs (Zo Ar (Zo Ar (Zo Ar (Zr [.slice _ _ _, .slice _ _ _, .slice _ _ _] rfl η func81 (SF az hf hg ω cc cQ fl fm) ?_))))))
 rintro e fy ⟨dx, b21, off21, cap21, rfl, F21, aT⟩
 refine ⟨_, rfl, ?_⟩
 have g_ := F21.size
 replace C := Z0 C F21
 replace hf := cK _ C
 replace o := o.evo0 F21
 replace B1 := B1.evo0 F21
 replace U := U.evo0 F21
 replace ao := ao.evo0 F21
 replace bb := bb.evo0 F21
 replace bl := bl.evo0 F21
 replace az := az.evo0 F21
 replace aT : RowE fy dx b21 off21 cap21 (AS (AS (AS ([]) (Bk f j)) (Cb f j)) (Es f j)) := aT
 refine BO (i := 49) (v := .slice dx (AS (AS (AS ([]) (Bk f j)) (Cb f j)) (Es f j)).length cap21) η (Zn Bs (Zs (Zo Ar (Zr [.slice _ _ _] rfl η func82 (Kd hf cc.small) ?_))))
 rintro e iJ ⟨dq, vq22, rfl, F22, bp, bq⟩
 refine ⟨_, rfl, ?_⟩
 have ha := F22.size
 replace C := Z0 C F22
 replace hg := cb _ C
 replace o := o.evo0 F22
 replace B1 := B1.evo0 F22
 replace U := U.evo0 F22
 replace ao := ao.evo0 F22
 replace bb := bb.evo0 F22
 replace bl := bl.evo0 F22
 replace az := az.evo0 F22
 replace aT := aT.evo0 F22
 refine Zo S4 (Zo (AX (v := dq) rfl η η) (Zo (AX (v := vq22) rfl η η) (Zo (AX (v := .bool _) rfl η η) (Zo (AM (v := dq) rfl η) (Zo (AM (v := vq22) rfl η) (Zn A6 (Zs (Zo Ar (Zr [.slice _ _ _] rfl η func82 (Kd hg cQ.small) ?_)))))))))
 rintro e iK ⟨dr, vq23, rfl, F23, b7, b8⟩
 refine ⟨_, rfl, ?_⟩
 have hb := F23.size
 replace C := Z0 C F23
 replace hg := cb _ C
 replace o := o.evo0 F23
 replace B1 := B1.evo0 F23
 replace U := U.evo0 F23
 replace ao := ao.evo0 F23
 replace bb := bb.evo0 F23
 replace bl := bl.evo0 F23
 replace az := az.evo0 F23
 replace aT := aT.evo0 F23
 replace bp := bp.evo0 F23
 replace bq := bq.evo0 F23
 refine Zo S4 (Zo (AX (v := dr) rfl η η) (Zo (AX (v := vq23) rfl η η) (Zo (AX (v := .bool _) rfl η η) (Zo (AM (v := dr) rfl η) (Zo (AM (v := vq23) rfl η) (Zn A6 (AB (Zs (Zo (Bt rfl η) ?_)))))))))
 refine Zo (Bt rfl η) (Zo (TR rfl underlying4 η η) (Zo Br ?_))
 refine Ab rfl Ay rfl (fun hg => AP (v := dq) rfl η) ?_
 refine Ab rfl Ay rfl (fun hg => AP (v := dr) rfl η) ?_
 obtain ⟨fD, g24, fX, eN, cV, gz⟩ := bp.rowOf
 subst eN
 obtain ⟨fE, hK, fY, eO, c0, gA⟩ := b7.rowOf
 subst eO
 refine Bb rfl Ay rfl (fun hg => Am rfl (An (v := .slice _ _ _) (Af hg) (An (v := .slice _ _ _) (Af hg) (rfl))) func83 rfl ζ) (fun hg => (IU cV c0).mono (fun e w' h => ⟨h.1, h.2⟩)) (fun iL F27 => ?_)
 have hc := F27.size
 replace C := Z0 C F27
 replace hg := cb _ C
 replace o := o.evo0 F27
 replace B1 := B1.evo0 F27
 replace U := U.evo0 F27
 replace ao := ao.evo0 F27
 replace bb := bb.evo0 F27
 replace bl := bl.evo0 F27
 replace az := az.evo0 F27
 replace aT := aT.evo0 F27
 replace bp := bp.evo0 F27
 replace bq := bq.evo0 F27
 replace b7 := b7.evo0 F27
 replace b8 := b8.evo0 F27
 replace cV := cV.evo0 F27
 replace c0 := c0.evo0 F27
 refine Ab rfl Ay rfl (fun hg => ER rfl (Af hg)) ?_
 refine Zo (D7 rfl η rfl (fun hq => IK η (fun h => h) hq)) ?_
 refine Zo Br ?_
 refine Ab rfl Ay rfl (fun hg => AP (v := vq22) rfl η) ?_
 refine Ab rfl Ay rfl (fun hg => AP (v := vq23) rfl η) ?_
 obtain ⟨fF, hL, fZ, eP, db, gB⟩ := bq.rowOf
 subst eP
 obtain ⟨fG, hM, f_, eQ, dc, gC⟩ := b8.rowOf
 subst eQ
 refine Bb rfl Ay rfl (fun hg => Am rfl (An (v := .slice _ _ _) (Af hg) (An (v := .slice _ _ _) (Af hg) (rfl))) func83 rfl ζ) (fun hg => (IU db dc).mono (fun e w' h => ⟨h.1, h.2⟩)) (fun fz F31 => ?_)
 have hd := F31.size
 replace C := Z0 C F31
 replace cg := cH.now C
 replace cI := cR.now C
 replace hf := cK _ C
 replace hg := cb _ C
 replace o := o.evo0 F31
 replace B1 := B1.evo0 F31
 replace U := U.evo0 F31
 replace ao := ao.evo0 F31
 replace bb := bb.evo0 F31
 replace bl := bl.evo0 F31
 replace az := az.evo0 F31
 replace aT := aT.evo0 F31
 replace bp := bp.evo0 F31
 replace bq := bq.evo0 F31
 replace b7 := b7.evo0 F31
 replace b8 := b8.evo0 F31
 replace cV := cV.evo0 F31
 replace c0 := c0.evo0 F31
 replace db := db.evo0 F31
 replace dc := dc.evo0 F31
 refine Ab rfl Ay rfl (fun hg => ER rfl (Af hg)) ?_
 refine Zn (D7 rfl η rfl (fun hq => IK η (fun h => h) hq)) ?_
 refine C1 [7, 77, 78, 79] (fun g w => ∃ bn : Option Addr, ∃ bL : Nat, ∃ bm : Nat, ∃ a1 : Nat, g 7 = .slice bn (AS (AS (AS (AS ([]) (Bk f j)) (Cb f j)) (Es f j)) (Bh f j)).length a1 ∧ RowE w bn bL bm a1 (AS (AS (AS (AS ([]) (Bk f j)) (Cb f j)) (Es f j)) (Bh f j)) ∧ Blk w b1 28 [.int .i64 l0, .int .i64 l1, .int .i64 l2, .int .i64 l3, .int .i64 l4, .int .i64 l5, .int .i64 l6, .int .i64 l7, .int .i64 l8, .int .i64 l9, .int .i64 l10, .int .i64 J, .int .i64 R, .int .i64 sh, .int .i64 lo, .slice da ts.length cr, .slice c_ cl.length cn] ∧ fz.heap.size ≤ w.heap.size ∧ Evo w0 w []) ?_ ?_
 refine AE η (fun ca => ?_) (fun ca => ?_)
 refine AA (Zo Ar (Zo (Aj (pv := [(0, .int _ _)]) (zs := [_, _, _]) (cells := [_, _, _]) rfl Az η Cz η η) (Zr [.slice _ _ _, .agg _] rfl η func78 (C8 aT ω (x := (⟨5, [], 0⟩ : Vc.Item))) ?_)))
 rintro e iM ⟨gT, rfl, F34, hop34⟩
 refine ⟨_, rfl, ?_⟩
 have hh := F34.size
 replace C := Z0 C F34
 replace o := o.evo0 F34
 replace B1 := B1.evo0 F34
 replace U := U.evo0 F34
 replace ao := ao.evo0 F34
 replace bb := bb.evo0 F34
 replace bl := bl.evo0 F34
 replace az := az.evo0 F34
 replace aT := aT.evo0 F34
 replace bp := bp.evo0 F34
 replace bq := bq.evo0 F34
 replace b7 := b7.evo0 F34
 replace b8 := b8.evo0 F34
 replace cV := cV.evo0 F34
 replace c0 := c0.evo0 F34
 replace db := db.evo0 F34
 replace dc := dc.evo0 F34
 obtain ⟨fH, hN, ga, eR, dS, gD⟩ := hop34.rowOf
 subst eR
 refine Zn Bs (Ae ?_ ?_)
 refine ⟨_, _, _, _, (by first | (rw [show Bh f j = _ from if_pos (Gq.1 ca)]; exact rfl) | (rw [show Bh f j = [] from if_neg (fun q9 => ca (Gq.2 q9))]; exact rfl)), (by first | (rw [show Bh f j = _ from if_pos (Gq.1 ca)]; exact dS) | (rw [show Bh f j = [] from if_neg (fun q9 => ca (Gq.2 q9))]; exact dS)), B1, δ, C⟩
 exact ψ
 refine AF (Ae ?_ ?_)
 refine ⟨_, _, _, _, (by first | (rw [show Bh f j = _ from if_pos (Gq.1 ca)]; exact rfl) | (rw [show Bh f j = [] from if_neg (fun q9 => ca (Gq.2 q9))]; exact rfl)), (by first | (rw [show Bh f j = _ from if_pos (Gq.1 ca)]; exact aT) | (rw [show Bh f j = [] from if_neg (fun q9 => ca (Gq.2 q9))]; exact aT)), B1, δ, C⟩
 exact ψ
 rintro g iN ⟨bn, bL, bm, a1, hj37, o, B1, hzl32, C⟩
 have en := C.size
 have fq := B1.lt
 replace hf := cK _ C
 refine Zk 7 hj37 (Zs (Zo Ar (Zo Ar (Zr [.slice _ _ _] rfl η func84 (Ic hf cc) ?_))))
 rintro e iO ⟨gQ, rfl, F39, a6⟩
 refine ⟨_, rfl, ?_⟩
 have hi := F39.size
 replace C := Z0 C F39
 replace hg := cb _ C
 replace o := o.evo0 F39
 replace B1 := B1.evo0 F39
 refine Zo Ar (Zr [.slice _ _ _] rfl η func84 (Ic hg cQ) ?_)
 rintro e iP ⟨gR, rfl, F40, ba⟩
 refine ⟨_, rfl, ?_⟩
 have hj := F40.size
 replace C := Z0 C F40
 replace o := o.evo0 F40
 replace B1 := B1.evo0 F40
 replace a6 := a6.evo0 F40
 obtain ⟨fI, hP, gb, eS, b5, gE⟩ := a6.rowOf
 subst eS
 obtain ⟨fJ, hQ, gd, eT, b6, gF⟩ := ba.rowOf
 subst eT
 refine Zr [.slice _ _ _, .int _ _, .slice _ _ _, .slice _ _ _] rfl η func79 (Mk o b5 b6 ω ω ω) ?_
 rintro e e4 ⟨dy, b43, off43, cap43, rfl, F43, a8⟩
 refine ⟨_, rfl, ?_⟩
 have hl := F43.size
 replace C := Z0 C F43
 replace o := o.evo0 F43
 replace B1 := B1.evo0 F43
 replace a6 := a6.evo0 F43
 replace ba := ba.evo0 F43
 replace b5 := b5.evo0 F43
 replace b6 := b6.evo0 F43
 replace a8 : RowE e4 dy b43 off43 cap43 (AS (AS (AS (AS (AS ([]) (Bk f j)) (Cb f j)) (Es f j)) (Bh f j)) (HC f j)) := a8
 refine BO (i := 85) (v := .slice dy (AS (AS (AS (AS (AS ([]) (Bk f j)) (Cb f j)) (Es f j)) (Bh f j)) (HC f j)).length cap43) η (Zn Bs (AB (C1 [7, 86, 87, 88, 89, 90, 91, 92] (fun g w => ∃ bn : Option Addr, ∃ bL : Nat, ∃ bm : Nat, ∃ a1 : Nat, g 7 = .slice bn (AS (AS (AS (AS (AS (AS ([]) (Bk f j)) (Cb f j)) (Es f j)) (Bh f j)) (HC f j)) (CW (⟨[l0, l1, l2, l3, l4, l5, l6, l7, l8, l9, l10, J, R], sh, lo, ts, cl⟩ : Chk) (A9 f) (A9 j))).length a1 ∧ RowE w bn bL bm a1 (AS (AS (AS (AS (AS (AS ([]) (Bk f j)) (Cb f j)) (Es f j)) (Bh f j)) (HC f j)) (CW (⟨[l0, l1, l2, l3, l4, l5, l6, l7, l8, l9, l10, J, R], sh, lo, ts, cl⟩ : Chk) (A9 f) (A9 j))) ∧ Blk w b1 28 [.int .i64 l0, .int .i64 l1, .int .i64 l2, .int .i64 l3, .int .i64 l4, .int .i64 l5, .int .i64 l6, .int .i64 l7, .int .i64 l8, .int .i64 l9, .int .i64 l10, .int .i64 J, .int .i64 R, .int .i64 sh, .int .i64 lo, .slice da ts.length cr, .slice c_ cl.length cn] ∧ e4.heap.size ≤ w.heap.size ∧ Evo w0 w []) ?_ ?_)))
 have e_ := B1
 have dt := B1.at
 have eJ := a8
 have gu := C
 refine CJ ([]) ζ ?_
 intro w45 F46 I
 have ho := F46.size
 replace C := Z0 C F46
 replace hf := cK _ C
 replace o := o.evo0 F46
 replace B1 := B1.evo0 F46
 replace a6 := a6.evo0 F46
 replace ba := ba.evo0 F46
 replace b5 := b5.evo0 F46
 replace b6 := b6.evo0 F46
 replace a8 := a8.evo0 F46
 refine Zt (i := 0) η (fun w' hC => Ar) I (Zt (i := 1) η (fun w' hC => AY rfl FE Db η rfl (dt.evo0 hC)) I (Zt (i := 2) η (fun w' hC => Ar) I (Zt (i := 4) η (fun w' hC => Ar) I ?_)))
 refine Zh (i := 3) ?_
 refine Zr [.slice _ _ _] rfl η func86 (JR hf cc.small) ?_
 rintro e iQ ⟨rfl, F47⟩
 refine ⟨_, rfl, ?_⟩
 have hp := F47.size
 replace C := Z0 C F47
 replace I := Z0 I F47
 replace hg := cb _ C
 replace o := o.evo0 F47
 replace B1 := B1.evo0 F47
 replace a6 := a6.evo0 F47
 replace ba := ba.evo0 F47
 replace b5 := b5.evo0 F47
 replace b6 := b6.evo0 F47
 replace a8 := a8.evo0 F47
 refine Ap I ?_
 refine Zh (i := 5) ?_
 refine Zr [.slice _ _ _] rfl η func86 (JR hg cQ.small) ?_
 rintro e iR ⟨rfl, F48⟩
 refine ⟨_, rfl, ?_⟩
 have hr := F48.size
 replace C := Z0 C F48
 replace I := Z0 I F48
 replace cg := cH.now C
 replace cI := cR.now C
 replace o := o.evo0 F48
 replace B1 := B1.evo0 F48
 replace a6 := a6.evo0 F48
 replace ba := ba.evo0 F48
 replace b5 := b5.evo0 F48
 replace b6 := b6.evo0 F48
 replace a8 := a8.evo0 F48
 refine Ap I ?_
 refine Zh (i := 6) ?_
 refine Zr [.slice _ _ _, .agg _, S _, S _] rfl η func85 (Qr a8 cg cI hn ω ω ω) ?_
 rintro e iS ⟨fK, b49, off49, cap49, rfl, F49, hrd49⟩
 refine ⟨_, rfl, ?_⟩
 have hs := F49.size
 replace C := Z0 C F49
 replace I := Z0 I F49
 replace o := o.evo0 F49
 replace B1 := B1.evo0 F49
 replace a6 := a6.evo0 F49
 replace ba := ba.evo0 F49
 replace b5 := b5.evo0 F49
 replace b6 := b6.evo0 F49
 replace a8 := a8.evo0 F49
 refine Ap I ?_
 refine Zt (i := 7) η (fun w' hC => Bs) I ?_
 refine CH ζ ?_
 refine Ae ?_ ?_
 refine ⟨_, _, _, _, rfl, hrd49, B1, δ, C⟩
 exact ψ
 rintro g iT ⟨bn, bL, bm, a1, hj51, o, B1, hzl44, C⟩
 have eo := C.size
 have fr := B1.lt
 replace hf := cK _ C
 refine Zk 7 hj51 (Zs (Zo Ar (Zr [.slice _ _ _] rfl η func87 (FT hf cc.tk) ?_)))
 rintro e iU ⟨e2, rfl, F53, de⟩
 refine ⟨_, rfl, ?_⟩
 have ht := F53.size
 replace C := Z0 C F53
 replace hg := cb _ C
 replace o := o.evo0 F53
 replace B1 := B1.evo0 F53
 refine Zo Ar (Zr [.slice _ _ _] rfl η func87 (FT hg cQ.tk) ?_)
 rintro e dv ⟨e3, rfl, F54, hok54⟩
 refine ⟨_, rfl, ?_⟩
 have hv := F54.size
 replace C := Z0 C F54
 replace cg := cH.now C
 replace cI := cR.now C
 replace o := o.evo0 F54
 replace B1 := B1.evo0 F54
 replace de := de.evo0 F54
 refine Zo (AM (v := e2) rfl η) (Zn (AM (v := e3) rfl η) (AB (AB ?_)))
 have ag : Evo dv dv [] := Evo.refl _ _
 obtain ⟨fL, hR, gf, eV, c4, gG⟩ := de.rowOf
 subst eV
 have df := Ak c4
 obtain ⟨fM, hS, gh, eW, dk, gH⟩ := hok54.rowOf
 subst eW
 have dh := Ak dk
 refine AA (Zo (AJ rfl η Fa) (Zo (AH rfl K1 η (B1.at.cell 15 η)) (Zo (AJ rfl η GB) (Zo (AH rfl MG η (B1.at.cell 16 η)) (Zo Ar (Zo Ar (Zr [.slice da ts.length cr, .slice c_ cl.length cn, .slice _ _ _, .slice _ _ _] rfl η func88 (ND cg cI c4 (fun x hx => Nat.le_trans (cc.ttx x hx) υ) ω ω dk (fun x hx => Nat.le_trans (cQ.ttx x hx) υ) ω ee) ?_)))))))
 rintro e dn ⟨gM, rfl, F58, hoM58⟩
 refine ⟨_, rfl, ?_⟩
 have hy := F58.size
 replace C := Z0 C F58
 replace ag := Z0 ag F58
 replace cg := cH.now C
 replace cI := cR.now C
 replace hf := cK _ C
 replace hg := cb _ C
 replace o := o.evo0 F58
 replace B1 := B1.evo0 F58
 replace c4 := df _ ag
 replace dk := dh _ ag
 refine Zo (Bn rfl η underlying22 hoM58) (Zn AN (AD ?_))
 have a7 : Evo dn dn [] := Evo.refl _ _
 obtain ⟨fN, hT, gi, eX, dT, gI⟩ := hoM58.rowOf
 subst eX
 have di := Ak dT
 have iv := HK (Ax j) ts (Aa ts.length (AR (Ax f) (BG cl ts) 0)); have ir := DX ts.length (AR (Ax f) (BG cl ts) 0); have iy := Gd (BR (Ax j) ts (Aa ts.length (AR (Ax f) (BG cl ts) 0)))
 refine AZ (α := Nat) [7, 17, 105, 106, 107, 108, 109, 110, 111, 112, 113, 114, 115, 116, 117, 118, 119, 120] (fun k g w => ∃ bn : Option Addr, ∃ bL : Nat, ∃ bm : Nat, ∃ a1 : Nat, g 105 = .int .i64 (k : Nat) ∧ g 7 = .slice bn (AS (AS (AS (AS (AS (AS (AS ([]) (Bk f j)) (Cb f j)) (Es f j)) (Bh f j)) (HC f j)) (CW (⟨[l0, l1, l2, l3, l4, l5, l6, l7, l8, l9, l10, J, R], sh, lo, ts, cl⟩ : Chk) (A9 f) (A9 j))) (((BR (Ax j) ts (Aa ts.length (AR (Ax f) (BG cl ts) 0))).take k).map (Gf (⟨[l0, l1, l2, l3, l4, l5, l6, l7, l8, l9, l10, J, R], sh, lo, ts, cl⟩ : Chk)))).length a1 ∧ k ≤ (Fp (BR (Ax j) ts (Aa ts.length (AR (Ax f) (BG cl ts) 0)))).length ∧ RowE w bn bL bm a1 (AS (AS (AS (AS (AS (AS (AS ([]) (Bk f j)) (Cb f j)) (Es f j)) (Bh f j)) (HC f j)) (CW (⟨[l0, l1, l2, l3, l4, l5, l6, l7, l8, l9, l10, J, R], sh, lo, ts, cl⟩ : Chk) (A9 f) (A9 j))) (((BR (Ax j) ts (Aa ts.length (AR (Ax f) (BG cl ts) 0))).take k).map (Gf (⟨[l0, l1, l2, l3, l4, l5, l6, l7, l8, l9, l10, J, R], sh, lo, ts, cl⟩ : Chk)))) ∧ Blk w b1 28 [.int .i64 l0, .int .i64 l1, .int .i64 l2, .int .i64 l3, .int .i64 l4, .int .i64 l5, .int .i64 l6, .int .i64 l7, .int .i64 l8, .int .i64 l9, .int .i64 l10, .int .i64 J, .int .i64 R, .int .i64 sh, .int .i64 lo, .slice da ts.length cr, .slice c_ cl.length cn] ∧ dn.heap.size ≤ w.heap.size ∧ Evo w0 w [] ∧ Evo dv w [] ∧ Evo dn w []) (fun k => (Fp (BR (Ax j) ts (Aa ts.length (AR (Ax f) (BG cl ts) 0)))).length - k) 0 ?_ ?_
 refine ⟨_, _, _, _, σ, rfl, δ, o, B1, δ, C, ag, a7⟩
 rintro k g iV ⟨bn, bL, bm, a1, hj63, hj64, hk_k, o, B1, hzl61, C, ag, a7⟩
 have ep := C.size
 have dU := ag.size
 have dV := a7.size
 have fs := B1.lt
 replace cg := cH.now C
 replace cI := cR.now C
 replace c4 := df _ ag
 refine Zk 105 hj63 (Zk 7 hj64 ?_)
 have fv := CL (AS (AS (AS (AS (AS (AS ([]) (Bk f j)) (Cb f j)) (Es f j)) (Bh f j)) (HC f j)) (CW (⟨[l0, l1, l2, l3, l4, l5, l6, l7, l8, l9, l10, J, R], sh, lo, ts, cl⟩ : Chk) (A9 f) (A9 j))) (((BR (Ax j) ts (Aa ts.length (AR (Ax f) (BG cl ts) 0))).take k).map (Gf (⟨[l0, l1, l2, l3, l4, l5, l6, l7, l8, l9, l10, J, R], sh, lo, ts, cl⟩ : Chk))); have fu := List.length_take_le k (BR (Ax j) ts (Aa ts.length (AR (Ax f) (BG cl ts) 0))); have ft : (((BR (Ax j) ts (Aa ts.length (AR (Ax f) (BG cl ts) 0))).take k).map (Gf (⟨[l0, l1, l2, l3, l4, l5, l6, l7, l8, l9, l10, J, R], sh, lo, ts, cl⟩ : Chk))).length = ((BR (Ax j) ts (Aa ts.length (AR (Ax f) (BG cl ts) 0))).take k).length := List.length_map _
 refine Zs (Zn Bu (AB (AE η (fun eC => ?_) (fun eC => ?_))))
 refine AF (AB (AD (Zs (Zo (AV (k) rfl underlying22 Cf η η χ ω ((di _ a7).addr (i := k) ω)) ?_))))
 have dZ := fun (w' : World) (h : Evo dn w' []) => (di w' h).atD (k) ω
 refine Zo (AH rfl A0 η ((dZ _ a7).cell 0 η)) (Zn Ah ?_)
 have fo := HW (l := (BR (Ax j) ts (Aa ts.length (AR (Ax f) (BG cl ts) 0)))) (k := k) ω
 obtain ⟨ef, iu⟩ := Sl (tg := Ax j) (ts := ts) (n := ts.length) (sp := (AR (Ax f) (BG cl ts) 0)) (k := k) ω
 refine AA (Zo Ar (Zo (AJ rfl η Fa) (Zo (AH rfl K1 η (B1.at.cell 15 η)) (Zo AN (Zo (AV (((BR (Ax j) ts (Aa ts.length (AR (Ax f) (BG cl ts) 0))).getD k default)) rfl underlying25 Ci η η fo ef (cg.addr (i := ((BR (Ax j) ts (Aa ts.length (AR (Ax f) (BG cl ts) 0))).getD k default)) ef)) ?_)))))
 obtain ⟨fi, fT, ff, e9, fh, fS, fe, e6, fg, fR, fc, e5, hX⟩ := EP cH (((BR (Ax j) ts (Aa ts.length (AR (Ax f) (BG cl ts) 0))).getD k default)) ef
 have d_ := fun (w' : World) (h : Evo w0 w' []) => (hX w' h).1
 have ed := fun (w' : World) (h : Evo w0 w' []) => (hX w' h).2.1
 have dd := fun (w' : World) (h : Evo w0 w' []) => (hX w' h).2.2.1
 have ec := fun (w' : World) (h : Evo w0 w' []) => (hX w' h).2.2.2
 clear hX
 have ej := (ed _ C).bd
 have ei := (dd _ C).bd
 have eh := (ec _ C).bd
 refine Zo (AJ rfl η Ea) (Zo (AH rfl EU η ((d_ _ C).cell 1 η)) (Zo (AV (0) rfl underlying77 BW η η rfl ω ((dd _ C).addr (i := 0) ω)) ?_))
 have ea := fun (w' : World) (h : Evo w0 w' []) => (dd w' h).atD (0) ω
 refine Zo (AH rfl BF η ((ea _ C).cell 0 η)) (Zo (Aj (pv := [(0, .int _ _), (1, S _), (2, .int _ _)]) (zs := [_, _, _]) (cells := [_, _, _]) rfl Az η Cz η η) (Zr [.slice _ _ _, .agg _] rfl η func78 (C8 o ω (x := (Gf (⟨[l0, l1, l2, l3, l4, l5, l6, l7, l8, l9, l10, J, R], sh, lo, ts, cl⟩ : Chk) ((BR (Ax j) ts (Aa ts.length (AR (Ax f) (BG cl ts) 0))).getD k default)))) ?_))
 rintro e iX ⟨gU, rfl, F70, hop70⟩
 refine ⟨_, rfl, ?_⟩
 have hA := F70.size
 replace C := Z0 C F70
 replace ag := Z0 ag F70
 replace a7 := Z0 a7 F70
 replace o := o.evo0 F70
 replace B1 := B1.evo0 F70
 obtain ⟨fO, hU, gj, eY, eF, gJ⟩ := hop70.rowOf
 subst eY
 refine Zn Bs (AO (AA (Zo A8 (Zn AN (Zg (k + 1) ?_)))))
 refine ⟨_, _, _, _, σ, (by rw [Ha ω, DT]; exact rfl), δ, (by rw [Ha ω, DT]; exact eF), B1, δ, C, ag, a7⟩
 refine AW rfl (AB (AB ?_))
 have e7 : ((BR (Ax j) ts (Aa ts.length (AR (Ax f) (BG cl ts) 0))).take k).map (Gf (⟨[l0, l1, l2, l3, l4, l5, l6, l7, l8, l9, l10, J, R], sh, lo, ts, cl⟩ : Chk)) = (BR (Ax j) ts (Aa ts.length (AR (Ax f) (BG cl ts) 0))).map (Gf (⟨[l0, l1, l2, l3, l4, l5, l6, l7, l8, l9, l10, J, R], sh, lo, ts, cl⟩ : Chk)) := by rw [List.take_of_length_le ω]
 rw [e7] at o
 refine Zk 7 (v := .slice bn (AS (AS (AS (AS (AS (AS (AS ([]) (Bk f j)) (Cb f j)) (Es f j)) (Bh f j)) (HC f j)) (CW (⟨[l0, l1, l2, l3, l4, l5, l6, l7, l8, l9, l10, J, R], sh, lo, ts, cl⟩ : Chk) (A9 f) (A9 j))) ((BR (Ax j) ts (Aa ts.length (AR (Ax f) (BG cl ts) 0))).map (Gf (⟨[l0, l1, l2, l3, l4, l5, l6, l7, l8, l9, l10, J, R], sh, lo, ts, cl⟩ : Chk)))).length a1) (by rw [← e7]; exact rfl) (AA (Zo (AJ rfl η Fa) (Zo (AH rfl K1 η (B1.at.cell 15 η)) (Zo (AJ rfl η GB) (Zo (AH rfl MG η (B1.at.cell 16 η)) (Zo Ar (Zo Ar (Zr [.slice da ts.length cr, .slice c_ cl.length cn, .slice _ _ _, .slice _ _ _] rfl η func89 (Qd cg cI c4 (fun x hx => Nat.le_trans (cc.ttx x hx) υ) ω ω (dh _ ag) (fun x hx => Nat.le_trans (cQ.ttx x hx) υ) ω ee) ?_))))))))
 rintro e ds ⟨gN, rfl, F72, hoM72⟩
 refine ⟨_, rfl, ?_⟩
 have hB := F72.size
 replace C := Z0 C F72
 replace ag := Z0 ag F72
 replace a7 := Z0 a7 F72
 replace cg := cH.now C
 replace cI := cR.now C
 replace hf := cK _ C
 replace hg := cb _ C
 replace c4 := df _ ag
 replace dk := dh _ ag
 replace dT := di _ a7
 replace o := o.evo0 F72
 refine Zo (Bn rfl η underlying77 hoM72) (Zn AN (AD ?_))
 have ct : Evo ds ds [] := Evo.refl _ _
 obtain ⟨fP, hW, gk, eZ, eG, gK⟩ := hoM72.rowOf
 subst eZ
 have dp := Ak eG
 have iA := Lo (tg := Ax j) (ts := ts) (sp := (AR (Ax f) (BG cl ts) 0)) (fun x hx => (ee x hx).2.1) hz
 refine AZ (α := Nat) [7, 19, 129, 130, 131, 132, 133, 134, 135, 136, 137] (fun k g w => ∃ bn : Option Addr, ∃ bL : Nat, ∃ bm : Nat, ∃ a1 : Nat, g 129 = .int .i64 (k : Nat) ∧ g 7 = .slice bn (AS (AS (AS (AS (AS (AS (AS (AS ([]) (Bk f j)) (Cb f j)) (Es f j)) (Bh f j)) (HC f j)) (CW (⟨[l0, l1, l2, l3, l4, l5, l6, l7, l8, l9, l10, J, R], sh, lo, ts, cl⟩ : Chk) (A9 f) (A9 j))) ((BR (Ax j) ts (Aa ts.length (AR (Ax f) (BG cl ts) 0))).map (Gf (⟨[l0, l1, l2, l3, l4, l5, l6, l7, l8, l9, l10, J, R], sh, lo, ts, cl⟩ : Chk)))) (((BZ (Ax j) ts [] (Aa ts.length (AR (Ax f) (BG cl ts) 0))).take k).map Jb)).length a1 ∧ k ≤ (BZ (Ax j) ts [] (Aa ts.length (AR (Ax f) (BG cl ts) 0))).length ∧ RowE w bn bL bm a1 (AS (AS (AS (AS (AS (AS (AS (AS ([]) (Bk f j)) (Cb f j)) (Es f j)) (Bh f j)) (HC f j)) (CW (⟨[l0, l1, l2, l3, l4, l5, l6, l7, l8, l9, l10, J, R], sh, lo, ts, cl⟩ : Chk) (A9 f) (A9 j))) ((BR (Ax j) ts (Aa ts.length (AR (Ax f) (BG cl ts) 0))).map (Gf (⟨[l0, l1, l2, l3, l4, l5, l6, l7, l8, l9, l10, J, R], sh, lo, ts, cl⟩ : Chk)))) (((BZ (Ax j) ts [] (Aa ts.length (AR (Ax f) (BG cl ts) 0))).take k).map Jb)) ∧ ds.heap.size ≤ w.heap.size ∧ Evo w0 w [] ∧ Evo dv w [] ∧ Evo dn w [] ∧ Evo ds w []) (fun k => (BZ (Ax j) ts [] (Aa ts.length (AR (Ax f) (BG cl ts) 0))).length - k) 0 ?_ ?_
 refine ⟨_, _, _, _, σ, rfl, δ, o, δ, C, ag, a7, ct⟩
 rintro k g iY ⟨bn, bL, bm, a1, hj77, hj78, hk_k, o, hzl75, C, ag, a7, ct⟩
 have er := C.size
 have dW := ag.size
 have dX := a7.size
 have dY := ct.size
 refine Zk 129 hj77 (Zk 7 hj78 ?_)
 have fv := CL (AS (AS (AS (AS (AS (AS (AS ([]) (Bk f j)) (Cb f j)) (Es f j)) (Bh f j)) (HC f j)) (CW (⟨[l0, l1, l2, l3, l4, l5, l6, l7, l8, l9, l10, J, R], sh, lo, ts, cl⟩ : Chk) (A9 f) (A9 j))) ((BR (Ax j) ts (Aa ts.length (AR (Ax f) (BG cl ts) 0))).map (Gf (⟨[l0, l1, l2, l3, l4, l5, l6, l7, l8, l9, l10, J, R], sh, lo, ts, cl⟩ : Chk)))) (((BZ (Ax j) ts [] (Aa ts.length (AR (Ax f) (BG cl ts) 0))).take k).map Jb); have fu := List.length_take_le k (BZ (Ax j) ts [] (Aa ts.length (AR (Ax f) (BG cl ts) 0))); have ft : (((BZ (Ax j) ts [] (Aa ts.length (AR (Ax f) (BG cl ts) 0))).take k).map Jb).length = ((BZ (Ax j) ts [] (Aa ts.length (AR (Ax f) (BG cl ts) 0))).take k).length := List.length_map _; have iz := CL (AS (AS (AS (AS (AS (AS ([]) (Bk f j)) (Cb f j)) (Es f j)) (Bh f j)) (HC f j)) (CW (⟨[l0, l1, l2, l3, l4, l5, l6, l7, l8, l9, l10, J, R], sh, lo, ts, cl⟩ : Chk) (A9 f) (A9 j))) ((BR (Ax j) ts (Aa ts.length (AR (Ax f) (BG cl ts) 0))).map (Gf (⟨[l0, l1, l2, l3, l4, l5, l6, l7, l8, l9, l10, J, R], sh, lo, ts, cl⟩ : Chk))); have iw : ((BR (Ax j) ts (Aa ts.length (AR (Ax f) (BG cl ts) 0))).map (Gf (⟨[l0, l1, l2, l3, l4, l5, l6, l7, l8, l9, l10, J, R], sh, lo, ts, cl⟩ : Chk))).length = (BR (Ax j) ts (Aa ts.length (AR (Ax f) (BG cl ts) 0))).length := List.length_map _
 refine Zs (Zn Bu (AB (AE η (fun eD => ?_) (fun eD => ?_))))
 refine AF (AB (AD (Zs (Zo (AV (k) rfl underlying77 BW η η χ ω ((dp _ ct).addr (i := k) ω)) ?_))))
 have eb := fun (w' : World) (h : Evo ds w' []) => (dp w' h).atD (k) ω
 refine Zo (AH rfl BF η ((eb _ ct).cell 0 η)) (Zn CD (AA (Zo Ar (Zo Au (Zo (Aj (pv := [(0, .int _ _), (1, S _), (2, .int _ _)]) (zs := [_, _, _]) (cells := [_, _, _]) rfl Az η Cz η η) (Zr [.slice _ _ _, .agg _] rfl η func78 (C8 o ω (x := Jb ((BZ (Ax j) ts [] (Aa ts.length (AR (Ax f) (BG cl ts) 0))).getD k default))) ?_))))))
 rintro e iZ ⟨gV, rfl, F81, hop81⟩
 refine ⟨_, rfl, ?_⟩
 have hD := F81.size
 replace C := Z0 C F81
 replace ag := Z0 ag F81
 replace a7 := Z0 a7 F81
 replace ct := Z0 ct F81
 replace o := o.evo0 F81
 obtain ⟨fQ, hY, gl, e0, eH, gL⟩ := hop81.rowOf
 subst e0
 refine Zn Bs (AO (AA (Zo A8 (Zn AN (Zg (k + 1) ?_)))))
 refine ⟨_, _, _, _, σ, (by rw [Ha ω, DT]; exact rfl), δ, (by rw [Ha ω, DT]; exact eH), δ, C, ag, a7, ct⟩
 refine AW rfl (Zs (Zo Ar (Zn Bs (AK (BN (v := .slice _ _ _) rfl η) ?_))))
 have fk : DP (Cv (⟨[l0, l1, l2, l3, l4, l5, l6, l7, l8, l9, l10, J, R], sh, lo, ts, cl⟩ : Chk) f j) = AS (AS (AS (AS (AS (AS (AS (AS ([]) (Bk f j)) (Cb f j)) (Es f j)) (Bh f j)) (HC f j)) (CW (⟨[l0, l1, l2, l3, l4, l5, l6, l7, l8, l9, l10, J, R], sh, lo, ts, cl⟩ : Chk) (A9 f) (A9 j))) ((BR (Ax j) ts (Aa ts.length (AR (Ax f) (BG cl ts) 0))).map (Gf (⟨[l0, l1, l2, l3, l4, l5, l6, l7, l8, l9, l10, J, R], sh, lo, ts, cl⟩ : Chk)))) ((BZ (Ax j) ts [] (Aa ts.length (AR (Ax f) (BG cl ts) 0))).map Jb) := by unfold Cv; rw [if_neg (show ¬ Tc f j from fun q => eB ⟨by have := q.1; omega, by have := q.2; omega⟩), T6]; rfl
 have e8 : ((BZ (Ax j) ts [] (Aa ts.length (AR (Ax f) (BG cl ts) 0))).take k).map Jb = (BZ (Ax j) ts [] (Aa ts.length (AR (Ax f) (BG cl ts) 0))).map Jb := by rw [List.take_of_length_le ω]
 rw [e8] at o
 rw [fk]
 exact ⟨_, _, _, _, by rw [← e8], C, o⟩
set_option maxHeartbeats 2000000 in
theorem Jg {l0 l1 l2 l3 l4 l5 l6 l7 l8 l9 l10 o C sh U : Int} {bY : Option Addr} {bt ot bx : Nat} {ts : List TermL} {bW : Option Addr} {bc oc bw : Nat} {cl : List Clas} {cb : Option Addr} {bf da b2 : Nat} {f : List Vc.Item} {cc : Option Addr} {bg og b3 : Nat} {gg : List Vc.Item} {w0 : World} (bs : RowR w0 bY bt ot bx ts) (bp : RowR w0 bW bc oc bw cl) (hf : RowE w0 cb bf da b2 f) (hg : RowE w0 cc bg og b3 gg) (cK : Tiny f) (cQ : Tiny gg) (c0 : ∀ x ∈ Ac f, JM x) (c3 : ∀ x ∈ Ac gg, JM x) (hz : ts.length ≤ 40) (b8 : ∀ x ∈ ts, IH x) :
    Calls Tryz.prog 22 #[.agg #[.int .i64 l0, .int .i64 l1, .int .i64 l2, .int .i64 l3, .int .i64 l4, .int .i64 l5, .int .i64 l6, .int .i64 l7, .int .i64 l8, .int .i64 l9, .int .i64 l10, .int .i64 o, .int .i64 C, .int .i64 sh, .int .i64 U, .slice bY ts.length bx, .slice bW cl.length bw], .slice cb f.length b2, .slice cc gg.length b3] w0 fun e w' => ∃ v, e = .returned v ∧ Evo w0 w' [] ∧ OwnE w' w0.heap.size 39 v (Sm (⟨[l0, l1, l2, l3, l4, l5, l6, l7, l8, l9, l10, o, C], sh, U, ts, cl⟩ : Chk) f gg) := by
 refine AG (n := 34) func22 rfl ntmps22 rfl ?_
 have J : Evo w0 w0 [] := Evo.refl _ _
 have bM := bs.keep
 have cn := bs.bd
 have bz := bp.keep
 have cg := bp.bd
 have cH := Ak hf
 have cR := hf.bd
 have b0 := Ak hg
 have cV := hg.bd
 refine Zs (Ch (vs := [_, _, _, _, _, _, _, _, _, _, _, _, _, _, _, _, _]) η η rfl ?_)
 intro b1 w2 J1 E2 B1 Y1
 have Q2 := E2.size
 replace J := Z0 J E2
 replace bs := bM.now J
 replace bp := bz.now J
 have I := B1.at
 refine Zn Bs (AB (Zs (Zo (AY rfl FE Db η rfl I) (Zr [.agg _] rfl η func13 (L0 bs bp b8) ?_))))
 rintro e w3 ⟨rfl, F3⟩
 refine ⟨_, rfl, ?_⟩
 have Q3 := F3.size
 replace J := Z0 J F3
 replace bs := bM.now J
 replace bp := bz.now J
 replace hf := cH _ J
 replace hg := b0 _ J
 replace B1 := B1.evo0 F3
 replace I := I.evo0 F3
 refine Zn (BD rfl η η) (AE η (fun b7 => ?_) (fun b7 => ?_))
 refine Zs (Zn Bs (AK (BN (v := .slice _ _ _) rfl η) ?_))
 rw [SJ b7]
 exact ⟨_, rfl, J, OwnE.nil _ _ _⟩
 refine AF (Zs (Zn Bs (AB (AB ?_))))
 have b4 : EG (⟨[l0, l1, l2, l3, l4, l5, l6, l7, l8, l9, l10, o, C], sh, U, ts, cl⟩ : Chk) = 0 := Classical.not_not.1 b7; have c9 : (0 ≤ sh ∧ sh ≤ 100) ∧ (U = 0 ∨ (100 ≤ U ∧ U ≤ 10000)) := NR b4; have dm := Ph (c := (⟨[l0, l1, l2, l3, l4, l5, l6, l7, l8, l9, l10, o, C], sh, U, ts, cl⟩ : Chk)) cK cQ hz (fun x hx => (b8 x hx).2.1); have dq := VQ (Cv (⟨[l0, l1, l2, l3, l4, l5, l6, l7, l8, l9, l10, o, C], sh, U, ts, cl⟩ : Chk) f gg)
 refine AA (Zo (AY rfl FE Db η rfl I) (Zo Ar (Zo Ar (Zr [.agg _, .slice _ _ _, .slice _ _ _] rfl η func44 (Th bs bp hf hg cK cQ c0 c3 hz b8 c9) ?_))))
 rintro e w5 ⟨de, b5, off5, cap5, rfl, F5, hrd5⟩
 refine ⟨_, rfl, ?_⟩
 have Q5 := F5.size
 replace J := Z0 J F5
 replace bs := bM.now J
 replace bp := bz.now J
 replace hf := cH _ J
 replace hg := b0 _ J
 replace B1 := B1.evo0 F5
 replace I := I.evo0 F5
 refine Zo (AL rfl η underlying34) (Zn AN (AD ?_))
 have ao : Evo w5 w5 [] := Evo.refl _ _
 have bL := Ak hrd5
 refine AZ (α := Nat) [7, 9, 18, 19, 20, 21, 22, 23, 24, 25, 26, 27, 28, 29, 30, 31, 32] (fun k g w => ∃ vo : Value, g 18 = .int .i64 (k : Nat) ∧ g 7 = vo ∧ k ≤ (DP (Cv (⟨[l0, l1, l2, l3, l4, l5, l6, l7, l8, l9, l10, o, C], sh, U, ts, cl⟩ : Chk) f gg)).length ∧ Blk w b1 28 [.int .i64 l0, .int .i64 l1, .int .i64 l2, .int .i64 l3, .int .i64 l4, .int .i64 l5, .int .i64 l6, .int .i64 l7, .int .i64 l8, .int .i64 l9, .int .i64 l10, .int .i64 o, .int .i64 C, .int .i64 sh, .int .i64 U, .slice bY ts.length bx, .slice bW cl.length bw] ∧ OwnE w w5.heap.size 39 vo (((DP (Cv (⟨[l0, l1, l2, l3, l4, l5, l6, l7, l8, l9, l10, o, C], sh, U, ts, cl⟩ : Chk) f gg)).take k).filter (RU (⟨[l0, l1, l2, l3, l4, l5, l6, l7, l8, l9, l10, o, C], sh, U, ts, cl⟩ : Chk))) ∧ w5.heap.size ≤ w.heap.size ∧ Evo w0 w [] ∧ Evo w5 w []) (fun k => (DP (Cv (⟨[l0, l1, l2, l3, l4, l5, l6, l7, l8, l9, l10, o, C], sh, U, ts, cl⟩ : Chk) f gg)).length - k) 0 ?_ ?_
 refine ⟨_, σ, rfl, δ, B1, (OwnE.nil _ _ _), δ, J, ao⟩
 rintro k g w8 ⟨vo, hj9, hj10, hk_k, B1, R, hzl7, J, ao⟩
 have cI := J.size
 have b_ := ao.size
 have c4 := B1.lt
 replace hg := b0 _ J
 have I := B1.at
 refine Zk 18 hj9 (Zk 7 hj10 ?_)
 have dk := List.length_filter_le (RU (⟨[l0, l1, l2, l3, l4, l5, l6, l7, l8, l9, l10, o, C], sh, U, ts, cl⟩ : Chk)) ((DP (Cv (⟨[l0, l1, l2, l3, l4, l5, l6, l7, l8, l9, l10, o, C], sh, U, ts, cl⟩ : Chk) f gg)).take k); have dn := List.length_take_le k (DP (Cv (⟨[l0, l1, l2, l3, l4, l5, l6, l7, l8, l9, l10, o, C], sh, U, ts, cl⟩ : Chk) f gg))
 refine Zs (Zn Bu (AB (AE η (fun cr => ?_) (fun cr => ?_))))
 refine AF (AB (AD (Zs (Zo (AV (k) rfl underlying34 Az η η χ ω ((bL _ ao).addr (i := k) ω)) ?_))))
 have b6 := fun (w' : World) (h : Evo w5 w' []) => (bL w' h).atD (k) ω
 refine Zo (AY rfl JP Az η rfl (b6 _ ao)) ?_
 have c_ := fun g hg => (R.block (g := g) hg).2
 refine CO (zs := [_, _, _]) (vs := [_, _, _]) Az η rfl η (fun _ => rfl) η rfl rfl η ?_
 intro b15 w16 J15 E16 B15 Y15
 have dc := E16.size
 replace J := Z0 J E16
 replace ao := Z0 ao E16
 replace hg := b0 _ J
 replace B1 := B1.evo0 E16
 replace R := R.evo0 E16
 replace I := I.evo0 E16
 refine As (AB ?_)
 have dp := Z4 (c := (⟨[l0, l1, l2, l3, l4, l5, l6, l7, l8, l9, l10, o, C], sh, U, ts, cl⟩ : Chk)) (f := f) (g := gg) (k := k) ω
 refine AA (Zo (AJ rfl η Ex) (Zo (AH rfl A0 η (B15.at.cell 0 η)) (Zo (AJ rfl η FY) (Zo (G0 (((DP (Cv (⟨[l0, l1, l2, l3, l4, l5, l6, l7, l8, l9, l10, o, C], sh, U, ts, cl⟩ : Chk) f gg)).getD k default).kind.toNat) rfl underlying24 Cf η η ω ω) (Zo (AH rfl A0 η (Qs (j := ((DP (Cv (⟨[l0, l1, l2, l3, l4, l5, l6, l7, l8, l9, l10, o, C], sh, U, ts, cl⟩ : Chk) f gg)).getD k default).kind.toNat) I (by exact Oa (l := ([l0, l1, l2, l3, l4, l5, l6, l7, l8, l9, l10, o, C] : List Int)) (rest := [.int .i64 sh, .int .i64 U, .slice bY ts.length bx, .slice bW cl.length bw]) (show ((DP (Cv (⟨[l0, l1, l2, l3, l4, l5, l6, l7, l8, l9, l10, o, C], sh, U, ts, cl⟩ : Chk) f gg)).getD k default).kind.toNat < 13 by omega)) ω)) (Zn (BD rfl η η) (AE η (fun bm => ?_) (fun bm => ?_))))))))
 refine AA (Zo (AP (v := vo) rfl η) (Zo (AY rfl JP Az η rfl B15.at) (Ad (u := .agg _) (y := ⟨_, _, _⟩) rfl rfl underlying34 Az η R (fun _ => η) η ξ (ω) (ω) ω ?_)))
 intro q_v18 v18 w19 E19 hov18 hlv18
 have dd := E19.size
 replace J := AI J E19 (fun g hg => .inl (by first | exact (R.block hg).1 | (have := R.block hg; omega)))
 replace ao := AI ao E19 (fun g hg => .inl (by first | exact (R.block hg).1 | (have := R.block hg; omega)))
 replace B1 := B1.evo E19 (by intro hm; have bF := Option.mem_toList.1 hm; first | (have := R.block bF; omega) | (simp [Value.ownBlock] at bF; omega))
 replace I := I.evo E19 (by intro hm; have bF := Option.mem_toList.1 hm; first | (have := R.block bF; omega) | (simp [Value.ownBlock] at bF; omega))
 refine Zn (AM (v := v18) rfl η) (AO (AA (Zo A8 (Zn AN (Zg (k + 1) ?_)))))
 refine ⟨_, σ, rfl, δ, B1, (by first | (rw [Kh ω (KH (c := (⟨[l0, l1, l2, l3, l4, l5, l6, l7, l8, l9, l10, o, C], sh, U, ts, cl⟩ : Chk)) bm)]; exact hov18) | (rw [Mr ω (Mx (c := (⟨[l0, l1, l2, l3, l4, l5, l6, l7, l8, l9, l10, o, C], sh, U, ts, cl⟩ : Chk)) bm)]; exact hov18)), δ, J, ao⟩
 refine AF (AO (AA (Zo A8 (Zn AN (Zg (k + 1) ?_)))))
 refine ⟨_, σ, rfl, δ, B1, (by first | (rw [Kh ω (KH (c := (⟨[l0, l1, l2, l3, l4, l5, l6, l7, l8, l9, l10, o, C], sh, U, ts, cl⟩ : Chk)) bm)]; exact R) | (rw [Mr ω (Mx (c := (⟨[l0, l1, l2, l3, l4, l5, l6, l7, l8, l9, l10, o, C], sh, U, ts, cl⟩ : Chk)) bm)]; exact R)), δ, J, ao⟩
 refine AW rfl (Zs (Zo (AP (v := vo) rfl η) (Zn (AM (v := vo) rfl η) (AK (BN (v := vo) rfl η) ?_))))
 rw [Ut (c := (⟨[l0, l1, l2, l3, l4, l5, l6, l7, l8, l9, l10, o, C], sh, U, ts, cl⟩ : Chk)) (fun q => q b4)]
 exact ⟨_, rfl, J, by rw [List.take_of_length_le ω] at R; exact R.base_le ω⟩
end Go.Proofs.YtlfjocbnbceceaaGreatDoor
namespace Go.Vc
open Go Go.RowKit Go.IntWalk
theorem aV {α : Type} [DecidableEq α] {m : List (α × Int)} {a : α} {v d : Int} (j : v = (Bz m a).getD 0 + d) : SK m (Dj m a v) a d := fun x => by
  rw [ED, j]
  by_cases h : x = a
  · rw [if_pos h, if_pos h.symm]
  · rw [if_neg h, if_neg (Ne.symm h)]
theorem ZG {α β : Type} {C j o m : List (α × β)} {p : α × β} (h : (C ++ (j ++ p :: o)).Perm m) : ((C ++ [p]) ++ (j ++ o)).Perm m := by
  refine List.Perm.trans ?_ h
  rw [List.append_assoc]
  refine List.Perm.append_left _ ?_
  show (p :: (j ++ o)).Perm _
  exact (List.perm_middle (a := p) (l₁ := j) (l₂ := o)).symm
theorem C9 {v v2 : Value} {n s : Nat} {X : List Nat} (h : v2.ownBlock = v.ownBlock ∨ ∃ g, v2.ownBlock = some g ∧ s ≤ g) (o : ∀ g, v.ownBlock = some g → n ≤ g ∨ g ∈ X) (I : n ≤ s) : ∀ g, v2.ownBlock = some g → n ≤ g ∨ g ∈ X := fun g j =>
  h.elim (fun h => o g (h ▸ j)) (fun ⟨q, h, C⟩ => .inl (by rw [h] at j; injection j with j; omega))
theorem Jf {v v2 : Value} {s b : Nat} (h : v2.ownBlock = v.ownBlock ∨ ∃ g, v2.ownBlock = some g ∧ s ≤ g) (o : ∀ g, v.ownBlock = some g → g ≠ b) (I : b < s) : ∀ g, v2.ownBlock = some g → g ≠ b := fun g j =>
  h.elim (fun h => o g (h ▸ j)) (fun ⟨q, h, C⟩ => by rw [h] at j; injection j with j; omega)
theorem Le {v v2 : Value} {s r b : Nat} (h : v2.ownBlock = v.ownBlock ∨ ∃ g, v2.ownBlock = some g ∧ s ≤ g) (o : ∀ g, v.ownBlock = some g → g ≠ r ∧ g ≠ b) (J : r < s) (I : b < s) : ∀ g, v2.ownBlock = some g → g ≠ r ∧ g ≠ b := fun g j =>
  h.elim (fun h => o g (h ▸ j)) (fun ⟨q, h, C⟩ => by rw [h] at j; injection j with j; omega)
end Go.Vc
namespace Go.Proofs.YtlfjocbnbceceaaGreatDoor
open Go Go.RowKit Go.Vc
def YL (k : Int) (p : AQ × Int) : Vc.Item := Wu k p.1 p.2
def au (p : Vc.Item × Int) : Vc.Item := Uy p.1 p.2
theorem QB {α : Type} (l : List Vc.Item) (j : List α) (f : α → Vc.Item) (p : α) : l ++ (j ++ [p]).map f = l ++ j.map f ++ [f p] := by rw [List.map_append, List.append_assoc]; rfl
theorem Pj {k : Int} {a b : List AQ} {m j : List (AQ × Int)} (h : DifM a b m) (o : (j ++ []).Perm m) : (j.map (YL k)).Perm (Z8 k a b) := by
  rw [List.append_nil] at o
  exact (o.map _).trans (Pk h (Tz a b) (fun x C => ZN.2 C.symm) (Wu k))
theorem Vb {a b : List Vc.Item} {m j : List (Vc.Item × Int)} (h : DifM a b m) (o : (j ++ []).Perm m) : (j.map au).Perm (Wh a b) := by
  rw [List.append_nil] at o
  exact (o.map _).trans (Pk h (US _) (fun x C => (M8 _ _).2 (List.mem_append.2 C.symm)) Uy)
theorem SG {α : Type} [DecidableEq α] {a b : List α} {m : List (α × Int)} (h : DifM a b m) {p : α × Int} (j : p ∈ m) : p.1 ∈ a ∨ p.1 ∈ b := Classical.not_not.1 (fun q => ((h.2 p).1 j).2 (K7 (fun o => q o.symm)))
end Go.Proofs.YtlfjocbnbceceaaGreatDoor
namespace Go.Vc
open Go Go.RowKit Go.IntWalk
open Go.ChangeMaps (setBlock)
theorem H3 {α β : Type} (f : α → β) : ∀ (l : List α) (i : Nat), (l.eraseIdx i).map f = (l.map f).eraseIdx i
  | [], _ => by simp
  | a :: l, 0 => by simp
  | a :: l, i + 1 => by simp [H3 f l i]
theorem IC {α : Type} (p : α → Bool) : ∀ (l : List α) (i : Nat) (e : α), l[i]? = some e → p e = false → (l.eraseIdx i).filter p = l.filter p
  | [], i, e, h, _ => by simp at h
  | a :: l, 0, e, h, hp => by
    simp at h; subst h
    simp [List.filter_cons, hp]
  | a :: l, i + 1, e, h, hp => by
    have := IC p l i e (by simpa using h) hp
    simp [List.filter_cons, this]
theorem Vv {α β : Type} {m : List (α × β)} (I : (m.map (·.1)).Nodup) {i j : Nat} {a : α} {u v : β} (h1 : m[i]? = some (a, u)) (o : m[j]? = some (a, v)) : i = j := by
  have C : i < (m.map (·.1)).length := by
    rcases Nat.lt_or_ge i (m.map (·.1)).length with h | h
    · exact h
    · rw [List.getElem?_eq_none (by simpa using h)] at h1; cases h1
  exact (List.getElem?_inj C I (j := j)).1 (by simp [h1, o])
theorem WD {α β : Type} [DecidableEq α] {m : List (α × β)} {a : α} (h : Bz m a = none) : O9 m a = m := by
  unfold O9
  refine List.filter_eq_self.2 (fun p j => ?_)
  unfold Bz at h
  simp only [Option.map_eq_none_iff, List.find?_eq_none, decide_eq_true_eq] at h
  simp [h p j]
theorem Sw {α β : Type} [DecidableEq α] : ∀ {m : List (α × β)} {a : α} {v : β} {i : Nat}, (m.map (·.1)).Nodup → m[i]? = some (a, v) → O9 m a = m.eraseIdx i
  | [], _, _, _, _, h => by simp at h
  | p :: m, a, v, 0, hn, h => by
    simp at h; subst h
    simp only [List.map_cons, List.nodup_cons] at hn
    show ((a, v) :: m).filter _ = m
    rw [List.filter_cons, if_neg (by simp)]
    refine List.filter_eq_self.2 (fun q C => ?_)
    have : q.1 ≠ a := fun e => hn.1 (List.mem_map.2 ⟨q, C, e⟩)
    simp [this]
  | p :: m, a, v, i + 1, hn, h => by
    simp only [List.map_cons, List.nodup_cons] at hn
    have j : m[i]? = some (a, v) := by simpa using h
    have o : p.1 ≠ a := fun e => hn.1 (by rw [e]; exact List.mem_map.2 ⟨(a, v), List.mem_of_getElem? j, rfl⟩)
    have I := Sw hn.2 j
    show (p :: m).filter _ = p :: m.eraseIdx i
    rw [List.filter_cons, if_pos (by simp [o])]
    exact congrArg _ I
theorem Ve {α β : Type} [DecidableEq α] (m : List (α × β)) (a : α) (j : (m.map (·.1)).Nodup) : ((O9 m a).map (·.1)).Nodup := j.sublist (List.Sublist.map _ List.filter_sublist)
section
variable {P : Program} {B : Exit → Act → World → Prop} {n : Nat} {k : List Kont} {f : Fr} {w : World} {ops : Array Oper} {rest : List Oper} {o : Oper}
variable {α β : Type} {ek : α → Value} {ev : β → Value} {b : Nat} {m : List (α × β)} {K E : TypeId}
theorem UL (es : Array MapEntry) (i : Nat) : (es.eraseIdxIfInBounds i).toList = es.toList.eraseIdx i := by
  unfold Array.eraseIdxIfInBounds
  split
  · simp
  · rw [List.eraseIdx_of_length_le (by simpa using Nat.le_of_not_lt ‹_›)]
theorem Yb [DecidableEq α] (L : KeyLaw P K ek) {T ty : TypeId} (hu : P.underlying T = some (.map K E)) (a : α) {es : Array MapEntry} {c : Nat} (I : w.heap[b]? = some (.map es c)) (h : MapIs w b ek ev m) :
    ∃ C, (Builtin.delete_ #[T, K] ty #[.map (some b), ek a]).run P w = .ok (.tuple #[]) (setBlock w b (.map C c)) ∧ (C.toList = es.toList ∧ O9 m a = m ∨ ∃ i v, m[i]? = some (a, v) ∧ C.toList = es.toList.eraseIdx i ∧ O9 m a = m.eraseIdx i) := by
  obtain ⟨U, c2, j, J⟩ := h.find L a
  rw [I] at j
  injection j with j
  injection j with e1 e2
  subst e1; subst e2
  have R := h.nodup
  rcases J with ⟨hg, J⟩ | ⟨i, u, hg, hi, hne, J⟩
  · refine ⟨es, ?_, .inl ⟨rfl, WD hg⟩⟩
    simp [Builtin.delete_, run_underlying hu, MapKept.run_getObj_map I, L.check, J, MapKept.run_setObj_map _ I, Result.andThen, setBlock]
  · refine ⟨es.eraseIdxIfInBounds i, ?_, .inr ⟨i, u, hi, UL es i, Sw R hi⟩⟩
    simp [Builtin.delete_, run_underlying hu, MapKept.run_getObj_map I, L.check, J, MapKept.run_setObj_map _ I, Result.andThen, setBlock]
theorem WB {j : Type} {l : List j} {i : Nat} {x : j} (h : x ∈ l.eraseIdx i) : x ∈ l := (List.eraseIdx_sublist l i).subset h
theorem Yq [DecidableEq α] (L : KeyLaw P K ek) {T : TypeId} {t : TypeId} {pos : String} {a1 : Array Edge} {x y : Operand} {r : Nat} {p : α × β} {left : List (α × β)} (hu : P.underlying T = some (.map K E)) (hx : opv f x = .map (some b)) (hy : opv f y = ek p.1)
    (h : IterIs w r b ek ev m left (some p)) (h2 : ∀ w', Evo w w' [b] → w'.heap.size = w.heap.size → IterIs w' r b ek ev (O9 m p.1) left none → KL P B n ops k rest f w') :
    KL P B n ops k (⟨none, .call ⟨.builtin .delete, #[x, y], #[T, K]⟩, t, pos, a1, none⟩ :: rest) f w := by
  have hM := h.map
  have a8 := h.ne
  obtain ⟨es, c, seen, hb, he, U, ag, ao, hr, I, J⟩ := h.ex
  obtain ⟨R, az, hc⟩ := Yb (ty := t) L hu p.1 hb hM
  obtain ⟨e, a6, ⟨s, hs⟩, hk, hv⟩ := J p rfl
  refine bX (v := .tuple #[]) (w' := setBlock w b (.map R c)) rfl rfl (Dw (s := Builtin.delete_ #[T, K] t #[.map (some b), ek p.1]) rfl (by simp [hx, hy]) (fun cs => rfl) az) (h2 _ (Evo.setB _ _ _) (by simp [setBlock]) ⟨R, c, seen, D1 hM.lt _, ?_, ?_, ?_, Ve m p.1 ao, ?_, ?_, fun q hq => by cases hq⟩)
  · rcases hc with ⟨h1, h3⟩ | ⟨i, v, _, h1, h3⟩
    · rw [h1, h3]; exact he
    · rw [h1, h3, H3, he, ← H3]
  · rcases hc with ⟨h1, _⟩ | ⟨i, v, _, h1, _⟩
    · rw [h1]; exact U
    · rw [h1]; exact U.sublist ((List.eraseIdx_sublist _ _).map _)
  · intro e hm
    rcases hc with ⟨h1, _⟩ | ⟨i, v, _, h1, _⟩
    · rw [h1] at hm; exact ag e hm
    · rw [h1] at hm; exact ag e (WB hm)
  · rw [GD _ a8]; exact hr
  · rcases hc with ⟨h1, _⟩ | ⟨i, v, hi, h1, _⟩
    · rw [h1]; exact I
    · obtain ⟨j, hj⟩ := List.getElem?_of_mem a6
      have C := FC he j
      rw [hj] at C
      cases hmj2 : m[j]? with
      | none => rw [hmj2] at C; simp at C
      | some q =>
        rw [hmj2] at C
        simp only [Option.map_some, Option.some.injEq, Prod.mk.injEq] at C
        have hq : q.1 = p.1 := L.inj _ _ (C.1.symm.trans hk)
        have a7 : i = j := Vv ao hi (by rw [hmj2, ← hq])
        subst a7
        rw [h1, IC _ _ _ _ hj (by rw [hs]; simp)]
        exact I
end
end Go.Vc
