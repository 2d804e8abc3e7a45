/-
  Library, plain laws and walks that the statements reach (joined by a program out of smaller texts).
-/
import Derived.Test.YtlfjocbnbceceaaGreatDoorBb
import Derived.Test.YtlfjocbnbceceaaGreatDoorBa
set_option linter.unusedVariables false
set_option linter.unusedSimpArgs false
namespace Go.Proofs.YtlfjocbnbceceaaGreatDoor
open Go.RowKit Go.Vc Go.Proofs.Tryz
theorem Og {ao : Option Addr} {b off cap : Nat} {c : List Clas} {w0 : World} (hc : RowR w0 ao b off cap c) :
    Calls Tryz.prog 53 #[.slice ao c.length cap] w0 fun e w' => e = .returned (.int .i64 (Dt c)) ∧ Evo w0 w' [] := by
 have bQ := LI hc
 refine AG (n := 51) func53 rfl ntmps53 rfl ?_
 have C : Evo w0 w0 [] := Evo.refl _ _
 have U := hc.keep
 have bq := hc.bd
 refine Zs (Zn Ah (AB (Zs (Zo Ar (Zo (AL rfl η underlying26) (Zn IG (AE η (fun bL => ?_) (fun bL => ?_))))))))
 refine Zs (Zn Ah (AK CZ ?_))
 exact ⟨AU (by unfold Dt; rw [if_pos ω]), C⟩
 refine AF (AB (Zs (Zo Ar (Zo (AL rfl η underlying26) (Zn AN (AD (AZ (α := Nat) [2, 3, 4, 5, 6, 7, 8, 14, 15, 16, 17, 18, 19, 20, 21, 22, 23, 24, 25, 26, 27, 28, 29, 30, 31, 32, 33, 34, 35, 36, 37, 38, 39, 40, 41, 42, 43, 44, 45, 46, 47, 48, 49, 50] (fun i g w => g 14 = .int .i64 (i : Nat) ∧ i ≤ c.length ∧ (∀ j, j < i → Df c j = 0) ∧ w0.heap.size ≤ w.heap.size ∧ Evo w0 w []) (fun i => c.length - i) 0 ?_ ?_)))))))
 refine ⟨σ, δ, (fun j h => by omega), δ, C⟩
 rintro i g w3 ⟨bW, hk_i, hno, hzl2, C⟩
 have bp := C.size
 refine Zk 14 bW (Zs (Zn Bu (AB (AE η (fun bM => ?_) (fun bM => ?_)))))
 refine AF (AB (AD (Zs (Zo AN (Zo (AV (i) rfl underlying26 Cw η η χ ω ((U.now C).addr (i := i) ω)) ?_)))))
 obtain ⟨bt, b6, b2, bc, hX⟩ := Gi U (i) ω
 have a1 := fun (w' : World) (h : Evo w0 w' []) => (hX w' h).1
 have J := fun (w' : World) (h : Evo w0 w' []) => (hX w' h).2
 clear hX
 have bf := (J _ C).bd
 refine Zo (AY rfl Nb Cw η rfl (a1 _ C)) (DI (zs := [_, _]) Cw η rfl ?_)
 intro b7 w8 J7 E8 B7 Y7
 have Q8 := E8.size
 replace C := Z0 C E8
 replace b9 := a1 _ C
 have o := B7.at
 refine Zo Ah (BB (v := .agg _) (vs := [_, _]) (cs' := [_, _]) η η B7 Cw η rfl η rfl η ?_)
 intro w9 E9 V9 hb_new
 have Q9 := E9.size
 replace C := Z1 C E9 ε
 replace B7 := hb_new
 have o := B7.at
 clear hb_new
 refine As (AB (AB (Ba ζ ζ (Zq (fun w' I => Ar) (Zq (fun w' I => AN) (Zq (fun w' I => U1 (0) (i) rfl underlying26 Cw η ((U.now C).evo0 I) LU (at1 η ω) τ τ List.drop_zero) ?_))))))
 have bw := (by have h9 := (U.take (i)).drop (0); rw [List.drop_zero] at h9; exact h9)
 have a6 := (by have h9 := ((U.now C).take (i)).drop (0); rw [List.drop_zero] at h9; exact h9)
 have a_ := a6.bd
 refine Zq (fun w' I => AJ rfl η Ih) (Zq (fun w' I => AH rfl BF η ((o.evo0 I).cell 0 η)) (KC rfl rfl rfl (fun w' I => Am rfl (An (v := .slice _ _ _) η (An (v := S _) η (rfl))) func94 rfl ζ) (fun w' I => (SN (a6.evo0 I)).mono (fun e bY h => ⟨h.1, CY I h.2⟩)) (Zq (fun w' I => Ah) (EE (fun b0 F12 => ?_)))))
 have b3 := F12.size
 replace C := Z0 C F12
 replace hc := U.now C
 replace b_ := J _ C
 replace B7 := B7.evo0 F12
 replace o := o.evo0 F12
 refine Zs (Zo AN (Zn (BD rfl η η) (AE η (fun aT => ?_) (fun aT => ?_))))
 refine Zs (Zo AN (Zn Ah (AK CZ ?_)))
 exact ⟨AU (by rw [HR ω hno (PS aT) aT ω]), C⟩
 refine AF (AB (Zs (Zo (AJ rfl η Dv) (Zo (AH rfl HF η (o.cell 1 η)) (Zo (AL rfl η underlying108) (Zn IG (AE η (fun bl => ?_) (fun bl => ?_))))))))
 refine Zs (Zn Ah (AK CZ ?_))
 exact ⟨AU (by rw [HR ω hno (TK (Classical.not_not.1 κ) ω) υ ω]), C⟩
 refine AF (Zs (Zo (AJ rfl η Dv) (Zo (AH rfl HF η (o.cell 1 η)) (Zo (AL rfl η underlying108) (Zn AN (AD (AZ (α := Nat) [2, 6, 7, 8, 35, 36, 37, 38, 39, 40, 41, 42, 43, 44, 45, 46, 47, 48, 49] (fun k g w => g 35 = .int .i64 (k : Nat) ∧ k ≤ (c.getD i default).ends.length ∧ At w b7 0 [S (c.getD i default).name, .slice bt (c.getD i default).ends.length bc] ∧ (∀ j, j < k → EK ((c.getD i default).ends.take j) ((c.getD i default).ends.getD j default) = 0) ∧ b0.heap.size ≤ w.heap.size ∧ Evo w0 w []) (fun k => (c.getD i default).ends.length - k) 0 ?_ ?_)))))))
 refine ⟨σ, δ, o, (fun j h => by omega), δ, C⟩
 rintro k g ca ⟨bn, hk_k, o, hnk, hzl15, C⟩
 have bb := C.size
 refine Zk 35 bn ?_
 have bF := bQ _ (A5 (show i < c.length by omega))
 refine Zs (Zn Bu (AB (AE η (fun bm => ?_) (fun bm => ?_))))
 refine AF (AB (AD (Zs (Zo AN (Zo (AV (k) rfl underlying108 Be η η χ ω ((J _ C).addr (i := k) ω)) ?_)))))
 have a8 := fun (w' : World) (h : Evo w0 w' []) => (J w' h).atD (k) ω
 refine Zo (AY rfl Dr Be η rfl (a8 _ C)) (DI (zs := [_, _]) Be η rfl ?_)
 intro b20 w21 J20 E21 B20 Y20
 have b4 := E21.size
 replace C := Z0 C E21
 replace o := o.evo0 E21
 refine Zo Ah (BB (v := .agg _) (vs := [_, _]) (cs' := [_, _]) η η B20 Be η rfl η rfl η ?_)
 intro w22 E22 V22 hb_new
 have b5 := E22.size
 replace C := Z1 C E22 ε
 replace o := o.evo E22 θ
 replace B20 := hb_new
 clear hb_new
 refine As (AB ?_)
 have bg := bF.2.1 _ (A5 (show k < (c.getD i default).ends.length by omega))
 refine Ba ζ ζ (Zq (fun w' I => AJ rfl η Dv) (Zq (fun w' I => AH rfl HF η ((o.evo0 I).cell 1 η)) (Zq (fun w' I => AN) (Zq (fun w' I => Hu (0) (k) rfl underlying108 Be η ((J _ C).evo0 I) LU (at1 η ω) τ τ List.drop_zero) ?_))))
 have bx := fun (w' : World) (h : Evo w0 w' []) => (by have h9 := ((J w' h).take (k)).drop (0); rw [List.drop_zero] at h9; exact h9)
 have a7 := (by have h9 := ((J _ C).take (k)).drop (0); rw [List.drop_zero] at h9; exact h9)
 have ba := a7.bd
 refine Zq (fun w' I => AY rfl Dr Be η rfl (B20.at.evo0 I)) (KC rfl rfl rfl (fun w' I => Am rfl (An (v := .slice _ _ _) η (An (v := .agg _) η (rfl))) func95 rfl ζ) (fun w' I => (Qa (a7.evo0 I) (Nat.le_trans bg.1 υ) (Nat.le_trans bg.2 υ)).mono (fun e bY h => ⟨h.1, CY I h.2⟩)) (Zq (fun w' I => Ah) (EE (fun cb F25 => ?_))))
 have b8 := F25.size
 replace C := Z0 C F25
 replace o := o.evo0 F25
 refine Zs (Zo AN (Zn (BD rfl η η) (AE η (fun R => ?_) (fun R => ?_))))
 refine Zs (Zo AN (Zn Ah (AK CZ ?_)))
 exact ⟨AU (by rw [HR ω hno ((IQ (Classical.not_not.1 κ) ω).trans (Sj hnk R ω)) R ω]), C⟩
 refine AF (AO (AA (Zo A8 (Zn AN (Zg (k + 1) ?_)))))
 refine ⟨σ, δ, o, (CS hnk (Classical.not_not.1 R)), δ, C⟩
 refine AW rfl (AO (AA (Zo A8 (Zn AN (Zg (i + 1) ?_)))))
 refine ⟨σ, δ, (CS hno ((IQ (Classical.not_not.1 κ) ω).trans (P9 hnk ω))), δ, C⟩
 refine AW rfl (Zs (Zn Ah (AK CZ ?_)))
 exact ⟨AU (by rw [NC ω hno ω]), C⟩
theorem Mm {ao : Option Addr} {b off cap : Nat} {c : List Clas} {w0 : World} (hc : RowR w0 ao b off cap c) :
    Calls Tryz.prog 55 #[.slice ao c.length cap] w0 fun e w' => e = .returned (.int .i64 (Dt c)) ∧ Evo w0 w' [] := by
 have bQ := LI hc
 refine AG (n := 51) func55 rfl ntmps55 rfl ?_
 have C : Evo w0 w0 [] := Evo.refl _ _
 have U := hc.keep
 have bq := hc.bd
 refine Zs (Zn Ah (AB (Zs (Zo Ar (Zo (AL rfl η underlying26) (Zn IG (AE η (fun bL => ?_) (fun bL => ?_))))))))
 refine Zs (Zn Ah (AK CZ ?_))
 exact ⟨AU (by unfold Dt; rw [if_pos ω]), C⟩
 refine AF (AB (Zs (Zo Ar (Zo (AL rfl η underlying26) (Zn AN (AD (AZ (α := Nat) [2, 3, 4, 5, 6, 7, 8, 14, 15, 16, 17, 18, 19, 20, 21, 22, 23, 24, 25, 26, 27, 28, 29, 30, 31, 32, 33, 34, 35, 36, 37, 38, 39, 40, 41, 42, 43, 44, 45, 46, 47, 48, 49, 50] (fun i g w => g 14 = .int .i64 (i : Nat) ∧ i ≤ c.length ∧ (∀ j, j < i → Df c j = 0) ∧ w0.heap.size ≤ w.heap.size ∧ Evo w0 w []) (fun i => c.length - i) 0 ?_ ?_)))))))
 refine ⟨σ, δ, (fun j h => by omega), δ, C⟩
 rintro i g w3 ⟨bW, hk_i, hno, hzl2, C⟩
 have bp := C.size
 refine Zk 14 bW (Zs (Zn Bu (AB (AE η (fun bM => ?_) (fun bM => ?_)))))
 refine AF (AB (AD (Zs (Zo AN (Zo (AV (i) rfl underlying26 Cw η η χ ω ((U.now C).addr (i := i) ω)) ?_)))))
 obtain ⟨bt, b6, b2, bc, hX⟩ := Gi U (i) ω
 have a1 := fun (w' : World) (h : Evo w0 w' []) => (hX w' h).1
 have J := fun (w' : World) (h : Evo w0 w' []) => (hX w' h).2
 clear hX
 have bf := (J _ C).bd
 refine Zo (AY rfl Nb Cw η rfl (a1 _ C)) (DI (zs := [_, _]) Cw η rfl ?_)
 intro b7 w8 J7 E8 B7 Y7
 have Q8 := E8.size
 replace C := Z0 C E8
 replace b9 := a1 _ C
 have o := B7.at
 refine Zo Ah (BB (v := .agg _) (vs := [_, _]) (cs' := [_, _]) η η B7 Cw η rfl η rfl η ?_)
 intro w9 E9 V9 hb_new
 have Q9 := E9.size
 replace C := Z1 C E9 ε
 replace B7 := hb_new
 have o := B7.at
 clear hb_new
 refine As (AB (AB (Ba ζ ζ (Zq (fun w' I => Ar) (Zq (fun w' I => AN) (Zq (fun w' I => U1 (0) (i) rfl underlying26 Cw η ((U.now C).evo0 I) LU (at1 η ω) τ τ List.drop_zero) ?_))))))
 have bw := (by have h9 := (U.take (i)).drop (0); rw [List.drop_zero] at h9; exact h9)
 have a6 := (by have h9 := ((U.now C).take (i)).drop (0); rw [List.drop_zero] at h9; exact h9)
 have a_ := a6.bd
 refine Zq (fun w' I => AJ rfl η Ih) (Zq (fun w' I => AH rfl BF η ((o.evo0 I).cell 0 η)) (KC rfl rfl rfl (fun w' I => Am rfl (An (v := .slice _ _ _) η (An (v := S _) η (rfl))) func99 rfl ζ) (fun w' I => (Qh (a6.evo0 I)).mono (fun e bY h => ⟨h.1, CY I h.2⟩)) (Zq (fun w' I => Ah) (EE (fun b0 F12 => ?_)))))
 have b3 := F12.size
 replace C := Z0 C F12
 replace hc := U.now C
 replace b_ := J _ C
 replace B7 := B7.evo0 F12
 replace o := o.evo0 F12
 refine Zs (Zo AN (Zn (BD rfl η η) (AE η (fun aT => ?_) (fun aT => ?_))))
 refine Zs (Zo AN (Zn Ah (AK CZ ?_)))
 exact ⟨AU (by rw [HR ω hno (PS aT) aT ω]), C⟩
 refine AF (AB (Zs (Zo (AJ rfl η Dv) (Zo (AH rfl HF η (o.cell 1 η)) (Zo (AL rfl η underlying108) (Zn IG (AE η (fun bl => ?_) (fun bl => ?_))))))))
 refine Zs (Zn Ah (AK CZ ?_))
 exact ⟨AU (by rw [HR ω hno (TK (Classical.not_not.1 κ) ω) υ ω]), C⟩
 refine AF (Zs (Zo (AJ rfl η Dv) (Zo (AH rfl HF η (o.cell 1 η)) (Zo (AL rfl η underlying108) (Zn AN (AD (AZ (α := Nat) [2, 6, 7, 8, 35, 36, 37, 38, 39, 40, 41, 42, 43, 44, 45, 46, 47, 48, 49] (fun k g w => g 35 = .int .i64 (k : Nat) ∧ k ≤ (c.getD i default).ends.length ∧ At w b7 0 [S (c.getD i default).name, .slice bt (c.getD i default).ends.length bc] ∧ (∀ j, j < k → EK ((c.getD i default).ends.take j) ((c.getD i default).ends.getD j default) = 0) ∧ b0.heap.size ≤ w.heap.size ∧ Evo w0 w []) (fun k => (c.getD i default).ends.length - k) 0 ?_ ?_)))))))
 refine ⟨σ, δ, o, (fun j h => by omega), δ, C⟩
 rintro k g ca ⟨bn, hk_k, o, hnk, hzl15, C⟩
 have bb := C.size
 refine Zk 35 bn ?_
 have bF := bQ _ (A5 (show i < c.length by omega))
 refine Zs (Zn Bu (AB (AE η (fun bm => ?_) (fun bm => ?_))))
 refine AF (AB (AD (Zs (Zo AN (Zo (AV (k) rfl underlying108 Be η η χ ω ((J _ C).addr (i := k) ω)) ?_)))))
 have a8 := fun (w' : World) (h : Evo w0 w' []) => (J w' h).atD (k) ω
 refine Zo (AY rfl Dr Be η rfl (a8 _ C)) (DI (zs := [_, _]) Be η rfl ?_)
 intro b20 w21 J20 E21 B20 Y20
 have b4 := E21.size
 replace C := Z0 C E21
 replace o := o.evo0 E21
 refine Zo Ah (BB (v := .agg _) (vs := [_, _]) (cs' := [_, _]) η η B20 Be η rfl η rfl η ?_)
 intro w22 E22 V22 hb_new
 have b5 := E22.size
 replace C := Z1 C E22 ε
 replace o := o.evo E22 θ
 replace B20 := hb_new
 clear hb_new
 refine As (AB ?_)
 have bg := bF.2.1 _ (A5 (show k < (c.getD i default).ends.length by omega))
 refine Ba ζ ζ (Zq (fun w' I => AJ rfl η Dv) (Zq (fun w' I => AH rfl HF η ((o.evo0 I).cell 1 η)) (Zq (fun w' I => AN) (Zq (fun w' I => Hu (0) (k) rfl underlying108 Be η ((J _ C).evo0 I) LU (at1 η ω) τ τ List.drop_zero) ?_))))
 have bx := fun (w' : World) (h : Evo w0 w' []) => (by have h9 := ((J w' h).take (k)).drop (0); rw [List.drop_zero] at h9; exact h9)
 have a7 := (by have h9 := ((J _ C).take (k)).drop (0); rw [List.drop_zero] at h9; exact h9)
 have ba := a7.bd
 refine Zq (fun w' I => AY rfl Dr Be η rfl (B20.at.evo0 I)) (KC rfl rfl rfl (fun w' I => Am rfl (An (v := .slice _ _ _) η (An (v := .agg _) η (rfl))) func100 rfl ζ) (fun w' I => (P3 (a7.evo0 I) (Nat.le_trans bg.1 υ) (Nat.le_trans bg.2 υ)).mono (fun e bY h => ⟨h.1, CY I h.2⟩)) (Zq (fun w' I => Ah) (EE (fun cb F25 => ?_))))
 have b8 := F25.size
 replace C := Z0 C F25
 replace o := o.evo0 F25
 refine Zs (Zo AN (Zn (BD rfl η η) (AE η (fun R => ?_) (fun R => ?_))))
 refine Zs (Zo AN (Zn Ah (AK CZ ?_)))
 exact ⟨AU (by rw [HR ω hno ((IQ (Classical.not_not.1 κ) ω).trans (Sj hnk R ω)) R ω]), C⟩
 refine AF (AO (AA (Zo A8 (Zn AN (Zg (k + 1) ?_)))))
 refine ⟨σ, δ, o, (CS hnk (Classical.not_not.1 R)), δ, C⟩
 refine AW rfl (AO (AA (Zo A8 (Zn AN (Zg (i + 1) ?_)))))
 refine ⟨σ, δ, (CS hno ((IQ (Classical.not_not.1 κ) ω).trans (P9 hnk ω))), δ, C⟩
 refine AW rfl (Zs (Zn Ah (AK CZ ?_)))
 exact ⟨AU (by rw [NC ω hno ω]), C⟩
end Go.Proofs.YtlfjocbnbceceaaGreatDoor
namespace Go.Vc
open Go Go.RowKit Go.IntWalk
section
variable {α : Type} [Rep α] {w w' : World} {base : Nat} {E : TypeId} {Y : List Nat} {v : Value} {l : List α}
theorem Wy {m b base : Nat} {E : TypeId} {w : World} (h : Blk w b E []) (j : base ≤ b) : Own w base E m (.slice (some ⟨b, 0, none⟩) 0 0) [] :=
  ⟨⟨by simp, .inr ⟨b, 0, #[], rfl, j, by simpa [Blk] using h, by simp, by simp [maxLen], by simp, by simp⟩⟩, by simp, by simp⟩
theorem I1 {β : Type} [Enc β] {b base : Nat} {E : TypeId} {w : World} (h : Blk w b E []) (j : base ≤ b) : OwnE (α := β) w base E (.slice (some ⟨b, 0, none⟩) 0 0) [] := Wy h j
theorem YA {X : List Nat} {C : Value} (I : Evo w w' v.ownBlock.toList) (j : C.ownBlock = v.ownBlock ∨ ∃ g, C.ownBlock = some g ∧ w.heap.size ≤ g) (o : World) (J : Evo w' o (X ++ C.ownBlock.toList)) : Evo w o (X ++ v.ownBlock.toList) :=
  Evo.trans (I.weaken (fun x R => .inl (List.mem_append_right _ R))) J (fun x R ag => by
    rcases List.mem_append.1 R with h4 | h4
    · exact List.mem_append_left _ h4
    · have U : C.ownBlock = some x := by simpa using h4
      rcases j with h6 | ⟨g, h6, h7⟩
      · exact List.mem_append_right _ (by rw [← h6]; exact h4)
      · rw [U] at h6; injection h6 with h6; omega)
end
section
variable {P : Program} {B : Exit → Act → World → Prop} {n : Nat} {k : List Kont} {f : Fr} {w : World} {ops : Array Oper} {rest : List Oper}
theorem Wl {α : Type} [Rep α] {base : Nat} {E : TypeId} {Y : List Nat} {v : Value} {l : List α} {T d bb m : Nat} {t : TypeId} {pos : String} {a1 : Array Edge} {x y : Operand} {z : Value} {ao : Option Addr} {b off cap len : Nat} {l' : List α} {E' : List Nat} {w1 : World}
    (hd : Nat.blt d n = true) (hu : P.underlying T = some (.slice E)) (ht : Dl P E = some (m, bb, some z)) (hm : (m == Rep.n α && z.cells.size == Rep.n α) = true) (R : ∀ (w : World) cs (x : α), Rep.rep w cs x → DL cs = true)
    (U : OwnR w base E Y v l) (hx : opv f x = v) (hy : opv f y = .slice ao len cap) (hr : RowRK w1 E' ao b off cap l') (az : ∀ j, Evo w j (Y ++ v.ownBlock.toList) → Evo w1 j E') (hl : len = l'.length)
    (o : (l.length + l'.length) * bb ≤ 140737488355328) (hlen : l.length + l'.length ≤ 140737488355328) (C : base ≤ w.heap.size)
    (h : ∀ I w', Evo w w' v.ownBlock.toList → OwnR w' base E Y I (l ++ l') → (I.ownBlock = v.ownBlock ∨ I.ownBlock = some w.heap.size) → KL P B n ops k rest (upd f d I) w') :
    KL P B n ops k (⟨some d, .call ⟨.builtin .append, #[x, y], #[T, T]⟩, t, pos, a1, none⟩ :: rest) f w := by
  simp only [Bool.and_eq_true, beq_iff_eq] at hm
  obtain ⟨rfl, h2⟩ := hm
  obtain ⟨bm, ho, hL⟩ := U
  obtain ⟨J, ag⟩ := hr
  have h0 := ag w (az w (Evo.refl _ _))
  have e1 := (hL w (Evo.refl _ _)).1
  have e2 := h0.2.1
  refine Oe (news := J) hd hu ht h2 Rep.pos ho hx hy h0.1 (by rw [e2]; exact hl) (fun cs a7 => ?_) (by rw [e1, e2]; exact o) (by rw [e1, e2]; exact hlen) C ?_
  · obtain ⟨i, hi⟩ := List.getElem?_of_mem a7
    have a_ : i < l'.length := by rw [← e2]; exact (List.getElem?_eq_some_iff.1 hi).1
    exact R w cs l'[i] (h0.2.2 i cs _ hi (by simp [a_]))
  intro I w' he ho' hloc
  refine h I w' he ⟨_, ho', fun j a8 => ?_⟩ hloc
  have h5 := YA (X := Y) he (hloc.imp_right fun h => ⟨_, h, Nat.le_refl _⟩) j a8
  exact (hL j h5).append (ag j (az j h5)).2
end
def HE (inner : UInt8 → Bool) (a b : UInt8) : AQ → Nat
  | [] => 0
  | c :: t => if inner c = true then 1 + HE inner a b t else if c = a ∨ c = b then (match t with
      | [] => 0
      | d :: t' => if inner d = true then 2 + HE inner a b t' else 0) else 0
theorem M5 (inner : UInt8 → Bool) (a b : UInt8) : ∀ s : AQ, HE inner a b s ≤ s.length
  | [] => Nat.le_refl _
  | [c] => by
    unfold HE
    split
    · simp [HE]
    · split <;> simp
  | c :: d :: t => by
    have h1 := M5 inner a b (d :: t)
    have h2 := M5 inner a b t
    unfold HE
    simp only [List.length_cons] at *
    split
    · omega
    · split
      · split <;> omega
      · omega
theorem Rr {s : AQ} {n : Nat} (h : n + 1 < s.length) : s.drop n = s.getD n default :: s.getD (n + 1) default :: s.drop (n + 2) := by
  rw [List.drop_eq_getElem_cons ω, List.drop_eq_getElem_cons h]
  simp [List.getD, h, Nat.lt_of_succ_lt h]
theorem Kw {s : AQ} {n : Nat} (h : n < s.length) : s.drop n = s.getD n default :: s.drop (n + 1) := by
  rw [List.drop_eq_getElem_cons h]; simp [List.getD, h]
section
variable {inner : UInt8 → Bool} {a b : UInt8} {s : AQ} {n : Nat}
theorem QJ (h : s.length ≤ n) : HE inner a b (s.drop n) = 0 := by rw [List.drop_eq_nil_of_le h]; rfl
theorem MZ (h : n < s.length) (j : inner (s.getD n default) = true) : HE inner a b (s.drop n) = 1 + HE inner a b (s.drop (n + 1)) := by
  rw [Kw h]; conv => lhs; unfold HE
  rw [if_pos j]
theorem bK (h : n + 1 < s.length) (o : ¬ inner (s.getD n default) = true) (C : s.getD n default = a ∨ s.getD n default = b) (j : inner (s.getD (n + 1) default) = true) : HE inner a b (s.drop n) = 2 + HE inner a b (s.drop (n + 2)) := by
  rw [Rr h]; conv => lhs; unfold HE
  rw [if_neg o, if_pos C]
  dsimp only
  rw [if_pos j]
theorem c6 (h : n < s.length) (hi : ¬ inner (s.getD n default) = true) (hj : ¬ (s.getD n default = a ∨ s.getD n default = b) ∨ ¬ n + 1 < s.length ∨ ¬ inner (s.getD (n + 1) default) = true) : HE inner a b (s.drop n) = 0 := by
  by_cases h1 : n + 1 < s.length
  · rw [Rr h1]; unfold HE
    rw [if_neg hi]
    split
    · rename_i h3
      dsimp only
      rw [if_neg (by rcases hj with h | h | h
                     · exact absurd h3 h
                     · exact absurd h1 h
                     · exact h)]
    · rfl
  · rw [Kw h, List.drop_eq_nil_of_le ω]; unfold HE
    rw [if_neg hi]
    split <;> rfl
end
def Lu : AQ → Nat
  | [] => 0
  | c :: t => if BM c = 2 then 1 + Lu t else 0
theorem UZ : ∀ s : AQ, Lu s ≤ s.length
  | [] => Nat.le_refl _
  | c :: t => by
    have h1 := UZ t
    unfold Lu
    simp only [List.length_cons]
    split <;> omega
theorem bU {s : AQ} {n : Nat} (h : s.length ≤ n) : Lu (s.drop n) = 0 := by rw [List.drop_eq_nil_of_le h]; rfl
theorem QF {s : AQ} {n : Nat} (h : n < s.length) (j : BM (s.getD n default) = 2) : Lu (s.drop n) = 1 + Lu (s.drop (n + 1)) := by
  rw [Kw h]; conv => lhs; unfold Lu
  rw [if_pos j]
theorem aU {s : AQ} {n : Nat} (h : n < s.length) (j : ¬ BM (s.getD n default) = 2) : Lu (s.drop n) = 0 := by
  rw [Kw h]; unfold Lu; rw [if_neg j]
def Mq (c : UInt8) : Bool := decide (BM c = 4) || decide (BM c = 3)
def F0 (c : UInt8) : Bool := decide (BM c = 3)
def A4 (s : AQ) : Int × Nat :=
  if BM (s.getD 0 default) = 4 then (6, 1 + HE Mq 39 45 (s.drop 1))
  else if BM (s.getD 0 default) = 3 then (7, 1 + HE F0 46 44 (s.drop 1))
  else if BM (s.getD 0 default) = 2 then (8, 1 + Lu (s.drop 1))
  else (9, 1)
theorem Ib (s : AQ) : 1 ≤ (A4 s).2 := by
  unfold A4
  repeat' split
  all_goals (dsimp only; omega)
theorem TD {s : AQ} (h : s ≠ []) : (A4 s).2 ≤ s.length := by
  have C : 0 < s.length := List.length_pos_iff.2 h
  have h1 := M5 Mq 39 45 (s.drop 1)
  have j := M5 F0 46 44 (s.drop 1)
  have o := UZ (s.drop 1)
  rw [List.length_drop] at h1 j o
  unfold A4
  repeat' split
  all_goals (dsimp only; omega)
def HU (s : AQ) : Nat := if s ≠ [] ∧ BM (s.getD 0 default) = 4 then 1 + HE Mq 39 45 (s.drop 1) else 0
def Jj (s : AQ) : Nat := if s ≠ [] ∧ BM (s.getD 0 default) = 3 then 1 + HE F0 46 44 (s.drop 1) else 0
theorem ZO {s : AQ} (h : s ≠ []) (o : ¬ Lu s > 0) (h1 : ¬ Jj s > 0) (j : HU s > 0) : A4 s = (6, HU s) := by
  unfold HU at j ⊢
  split at j
  · rename_i h4
    rw [if_pos h4]; unfold A4; rw [if_pos h4.2]
  · omega
theorem ZW {s : AQ} (h : s ≠ []) (j : ¬ Lu s > 0) (h1 : Jj s > 0) : A4 s = (7, Jj s) := by
  unfold Jj at h1 ⊢
  split at h1
  · rename_i h4
    rw [if_pos h4]; unfold A4; rw [if_neg ω, if_pos h4.2]
  · omega
theorem WL {s : AQ} (h : s ≠ []) (C : Lu s > 0) : A4 s = (8, Lu s) := by
  have o : 0 < s.length := List.length_pos_iff.2 h
  by_cases j : BM (s.getD 0 default) = 2
  · have := QF o j
    rw [List.drop_zero] at this
    unfold A4; rw [if_neg ω, if_neg ω, if_pos j, this]
  · have := aU o j
    rw [List.drop_zero] at this
    omega
theorem XT {s : AQ} (h : s ≠ []) (C : ¬ Lu s > 0) (h1 : ¬ Jj s > 0) (j : ¬ HU s > 0) : A4 s = (9, 1) := by
  have o : 0 < s.length := List.length_pos_iff.2 h
  unfold A4
  rw [if_neg, if_neg, if_neg]
  · intro hc
    have := QF o hc
    rw [List.drop_zero] at this
    omega
  · intro hc
    unfold Jj at h1; rw [if_pos ⟨h, hc⟩] at h1; omega
  · intro hc
    unfold HU at j; rw [if_pos ⟨h, hc⟩] at j; omega
def IE (s : AQ) : List Item :=
  if h : s = [] then [] else ⟨(A4 s).1, s.take (A4 s).2, 0⟩ :: IE (s.drop (A4 s).2)
termination_by s.length
decreasing_by
  have h1 := Ib s
  have h2 : 0 < s.length := List.length_pos_iff.2 h
  rw [List.length_drop]; omega
theorem Ev : IE [] = [] := by unfold IE; simp
theorem Ln {s : AQ} (h : s ≠ []) : IE s = ⟨(A4 s).1, s.take (A4 s).2, 0⟩ :: IE (s.drop (A4 s).2) := by
  conv => lhs; unfold IE
  rw [dif_neg h]
theorem TM : ∀ (n : Nat) (s : AQ), s.length = n → (IE s).length ≤ s.length := by
  intro n
  induction n using Nat.strongRecOn with
  | ind n ih =>
    intro s hs
    by_cases h : s = []
    · subst h; rw [Ev]; simp
    · have h1 := Ib s
      have o : 0 < s.length := List.length_pos_iff.2 h
      rw [Ln h]
      have j := ih _ (by rw [← hs]; show (s.drop (A4 s).2).length < s.length; rw [List.length_drop]; omega) (s.drop (A4 s).2) rfl
      rw [List.length_drop] at j
      rw [List.length_cons]; omega
def NL (x : Item) : List Item := if x.kind = 1 then IE x.text else if 2 ≤ x.kind ∧ x.kind ≤ 5 then [x] else []
def Ax (f : List Item) : List Item := f.flatMap NL
theorem C5 {f : List Item} {k : Nat} (h : k < f.length) : Ax (f.take (k + 1)) = Ax (f.take k) ++ NL (f.getD k default) := by
  unfold Ax; rw [Ai f k h]; simp
def HD (f : List Item) : Nat := (f.map (fun x => x.text.length)).sum
theorem KS : ∀ f : List Item, (Ax f).length ≤ HD f + f.length
  | [] => by simp [Ax]
  | x :: f => by
    have h1 := KS f
    have j : (NL x).length ≤ x.text.length + 1 := by
      unfold NL
      split
      · have := TM _ x.text rfl; omega
      · split <;> simp
    have e : Ax (x :: f) = NL x ++ Ax f := by simp [Ax]
    rw [e, List.length_append, List.length_cons]
    simp only [HD, List.map_cons, List.sum_cons] at *
    omega
end Go.Vc
namespace Go.Proofs.YtlfjocbnbceceaaGreatDoor
open Go.RowKit Go.Vc Go.Proofs.Tryz
theorem dA {c d : UInt8} : ((c.toNat : Nat) : Int) = ((d.toNat : Nat) : Int) ↔ c = d := ⟨fun h => UInt8.toNat_inj.1 ω, fun h => by rw [h]⟩
theorem LW {c : UInt8} : Mq c = true ↔ (BM c = 4 ∨ BM c = 3) := by unfold Mq; simp
theorem Ny {c : UInt8} : F0 c = true ↔ BM c = 3 := by unfold F0; simp
section
variable {inner : UInt8 → Bool} {a b : UInt8} {s : AQ} {n : Nat}
theorem JJ (o : inner (s.getD n 0) = false) (j : (((((s.getD n 0).toNat : Nat) : Int) = (((([a, b] : AQ).getD 0 0).toNat : Nat) : Int) ∨ (((s.getD n 0).toNat : Nat) : Int) = (((([a, b] : AQ).getD 1 0).toNat : Nat) : Int)) ∧ (n : Int) + 1 < (s.length : Int)) ∧ inner (s.getD (n + 1) 0) = true) :
    HE inner a b (s.drop n) = 2 + HE inner a b (s.drop (n + 2)) :=
  bK ω (by show ¬ inner (s.getD n 0) = true; rw [o]; simp) (j.1.1.imp dA.1 dA.1) j.2
theorem QZ (J : n < s.length) (I : inner (s.getD n 0) = false) (C : ¬ ((((((s.getD n 0).toNat : Nat) : Int) = (((([a, b] : AQ).getD 0 0).toNat : Nat) : Int) ∨ (((s.getD n 0).toNat : Nat) : Int) = (((([a, b] : AQ).getD 1 0).toNat : Nat) : Int)) ∧ (n : Int) + 1 < (s.length : Int)) ∧ inner (s.getD (n + 1) 0) = true)) :
    HE inner a b (s.drop n) = 0 := by
  refine c6 J (by show ¬ inner (s.getD n 0) = true; rw [I]; simp) ?_
  by_cases h1 : s.getD n 0 = a ∨ s.getD n 0 = b
  · by_cases j : n + 1 < s.length
    · exact .inr (.inr fun o => C ⟨⟨h1.imp dA.2 dA.2, by omega⟩, o⟩)
    · exact .inr (.inl j)
  · exact .inl h1
theorem UY {c : UInt8} : Mq c = false ↔ ¬ (BM c = 4 ∨ BM c = 3) := by rw [← LW]; simp
theorem Uk {c : UInt8} : F0 c = false ↔ ¬ BM c = 3 := by rw [← Ny]; simp
end
theorem LK {c : UInt8} {j : World}  :
    Calls Tryz.prog 150 #[.int .u8 ((c.toNat : Nat) : Int)] j fun e w' => e = .returned (.bool (Mq c)) ∧ Evo j w' [] := by
 refine AG (n := 12) func150 rfl ntmps150 rfl ?_
 have o : Evo j j [] := Evo.refl _ _
 refine Zs (Zn A6 (Zs (Zo AN (Zr [.int _ _] rfl η func143 EV ?_))))
 rintro e w1 ⟨rfl, F1⟩
 refine ⟨_, rfl, ?_⟩
 have I := F1.size
 replace o := Z0 o F1
 refine Zn Ah (Zs (Zo AN (Zo C3 (Zo Br ?_))))
 refine Ab rfl Ay rfl (fun C => AN) ?_
 refine Ab rfl Ay rfl (fun C => A1 rfl (Af C) η) ?_
 refine Zo Ee (Zn A6 (AK Dk ?_))
 exact ⟨Ao (by rw [Bool.eq_iff_iff, decide_eq_true_iff, LW]), o⟩
theorem MP {c : UInt8} {j : World}  :
    Calls Tryz.prog 151 #[.int .u8 ((c.toNat : Nat) : Int)] j fun e w' => e = .returned (.bool (F0 c)) ∧ Evo j w' [] := by
 refine AG (n := 6) func151 rfl ntmps151 rfl ?_
 have o : Evo j j [] := Evo.refl _ _
 refine Zs (Zn A6 (Zs (Zo AN (Zr [.int _ _] rfl η func143 EV ?_))))
 rintro e w1 ⟨rfl, F1⟩
 refine ⟨_, rfl, ?_⟩
 have C := F1.size
 replace o := Z0 o F1
 refine Zo C3 (Zn A6 (AK Dk ?_))
 exact ⟨rfl, o⟩
theorem Ot {s : AQ} {R : World} (hs : s.length ≤ 140737488355328) (a1 : 1 ≤ s.length) :
    Calls Tryz.prog 149 #[S s, S [39, 45], .func (.func 150) #[] #[]] R fun e w' => e = .returned (.int .i64 ((1 + HE Mq 39 45 (s.drop 1) : Nat) : Int)) ∧ Evo R w' [] := by
 refine AG (n := 54) func149 rfl ntmps149 rfl ?_
 have C : Evo R R [] := Evo.refl _ _
 refine Zs (Zn Ah (Zs (Zn Ah (AB (AD (AZ (α := Nat) [6, 7, 8, 9, 10, 11, 12, 13, 14, 15, 16, 17, 18, 19, 20, 21, 22, 23, 24, 25, 26, 27, 28, 29, 30, 31, 32, 33, 34, 35, 36, 37, 38, 39, 40, 41, 42, 43, 44, 45, 46, 47, 48, 49, 50, 51, 52] (fun n g w => g 7 = .int .i64 (n : Nat) ∧ (1 ≤ n ∧ n ≤ s.length) ∧ n + HE Mq 39 45 (s.drop n) = 1 + HE Mq 39 45 (s.drop 1) ∧ R.heap.size ≤ w.heap.size ∧ Evo R w []) (fun n => s.length - n) 1 ?_ ?_))))))
 refine ⟨rfl, δ, δ, δ, C⟩
 rintro n g w2 ⟨aT, hn1, hj, hzl1, C⟩
 have ao := C.size
 refine Zk 7 aT (AB (Zs (Zo AN (Zo Au (Zo (Al rfl η underlying9) (Zn Bu (AE η (fun az => ?_) (fun az => ?_))))))))
 refine AF (AD (AD (Zs (Zo (AP (v := .func _ _ _) rfl η) (Zo Au (Zo AN (Zo (A3 (n) rfl underlying9 η η χ ω) (Dc rfl rfl rfl (Cm (vs := [.int _ _]) (cs := []) rfl η η func150 rfl ζ) LK ?_))))))))
 rintro e w5 ⟨rfl, F5⟩
 refine ⟨_, rfl, ?_⟩
 have Q5 := F5.size
 replace C := Z0 C F5
 refine Zn A6 (D8 η (fun J => ?_) (fun J => ?_))
 refine AA (Zo AN (Zo A8 (BO (i := 20) (v := .int .i64 ((n + 1 : Nat) : Int)) (congrArg (Value.int _) ω) (Zn Ah (AO (AO (Zg (n + 1) ?_)))))))
 refine ⟨rfl, δ, (by first | (have U := MZ (a := 39) (b := 45) (s := s) (n := n) ω J; omega) | (have U := JJ (a := 39) (b := 45) (inner := Mq) (s := s) (n := n) κ J; omega)), δ, C⟩
 refine AB (Ba ζ ζ (Zq (fun w' j => Au) (Zq (fun w' j => AN) (Zq (fun w' j => A3 (n) rfl underlying9 η η χ ω) (Zq (fun w' j => Au) (Zq (fun w' j => A3 (0) rfl underlying9 η η χ υ) (Zq (fun w' j => A1 rfl η η) (Zq (fun w' j => Br) ?_))))))))
 refine Dm rfl Ay rfl (fun o w' j => Au) ?_
 refine Dm rfl Ay rfl (fun o w' j => AN) ?_
 refine Dm rfl Ay rfl (fun o w' j => A3 (n) rfl underlying9 (Af o) (Af o) χ ω) ?_
 refine Dm rfl Ay rfl (fun o w' j => Au) ?_
 refine Dm rfl Ay rfl (fun o w' j => A3 (1) rfl underlying9 (Af o) η χ υ) ?_
 refine Dm rfl Ay rfl (fun o w' j => A1 rfl (Af o) (Af o)) ?_
 refine Zq (fun w' j => Cq rfl η rfl (fun hq => IK η (fun h => h) hq)) ?_
 refine Zq (fun w' j => Br) ?_
 refine Dm rfl Aq rfl (fun o w' j => AN) ?_
 refine Dm rfl Aq rfl (fun o w' j => Cp rfl (Af o) η ω ω) ?_
 refine Dm rfl Aq rfl (fun o w' j => Au) ?_
 refine Dm rfl Aq rfl (fun o w' j => Al rfl (Af o) underlying9) ?_
 refine Dm rfl Aq rfl (fun o w' j => Cx rfl (Af o) (Af o)) ?_
 refine Zq (fun w' j => Bc rfl η (fun hq => IK η (fun h => h) hq) rfl) ?_
 refine Zq (fun w' j => Br) ?_
 refine Dm rfl Aq rfl (fun o w' j => AP (v := .func _ _ _) rfl η) ?_
 refine Dm rfl Aq rfl (fun o w' j => Au) ?_
 refine Dm rfl Aq rfl (fun o w' j => AN) ?_
 refine Dm rfl Aq rfl (fun o w' j => Cp rfl (Af o) η ω ω) ?_
 refine Dm rfl Aq rfl (fun o w' j => A3 ((n + 1)) rfl underlying9 (Af o) (Af o) ω ω) ?_
 refine M7 rfl Aq rfl (fun o w' j => Cm (cs := []) rfl (Af o) (An (v := .int _ _) (Af o) (rfl)) func150 rfl ζ) (fun o w' j => (LK ).mono (fun e a6 h => ⟨h.1, CY j h.2⟩)) ?_
 refine Zq (fun w' j => Bg rfl η (fun hq => IK η (fun h => h) hq) rfl) ?_
 refine Zq (fun w' j => A6) (EE (fun w7 F8 => ?_))
 have Q7 := F8.size
 replace C := Z0 C F8
 refine AE η (fun I => ?_) (fun I => ?_)
 refine AA (Zo AN (Zo A8 (BO (i := 52) (v := .int .i64 ((n + 2 : Nat) : Int)) (congrArg (Value.int _) ω) (Zn Ah (AO (AO (Zg (n + 2) ?_)))))))
 refine ⟨rfl, δ, (by first | (have U := MZ (a := 39) (b := 45) (s := s) (n := n) ω I; omega) | (have U := JJ (a := 39) (b := 45) (inner := Mq) (s := s) (n := n) κ I; omega)), δ, C⟩
 refine Zs (Zo AN (Zn Ah (AK CZ ?_)))
 exact ⟨AU (by have U := QZ (a := 39) (b := 45) (inner := Mq) (s := s) (n := n) ω κ I; omega), C⟩
 refine AW rfl (Zs (Zo AN (Zn Ah (AK CZ ?_))))
 exact ⟨AU (by have U := QJ (a := 39) (b := 45) (inner := Mq) (s := s) (n := n) ω; omega), C⟩
theorem PD {s : AQ} {R : World} (hs : s.length ≤ 140737488355328) (a1 : 1 ≤ s.length) :
    Calls Tryz.prog 149 #[S s, S [46, 44], .func (.func 151) #[] #[]] R fun e w' => e = .returned (.int .i64 ((1 + HE F0 46 44 (s.drop 1) : Nat) : Int)) ∧ Evo R w' [] := by
 refine AG (n := 54) func149 rfl ntmps149 rfl ?_
 have C : Evo R R [] := Evo.refl _ _
 refine Zs (Zn Ah (Zs (Zn Ah (AB (AD (AZ (α := Nat) [6, 7, 8, 9, 10, 11, 12, 13, 14, 15, 16, 17, 18, 19, 20, 21, 22, 23, 24, 25, 26, 27, 28, 29, 30, 31, 32, 33, 34, 35, 36, 37, 38, 39, 40, 41, 42, 43, 44, 45, 46, 47, 48, 49, 50, 51, 52] (fun n g w => g 7 = .int .i64 (n : Nat) ∧ (1 ≤ n ∧ n ≤ s.length) ∧ n + HE F0 46 44 (s.drop n) = 1 + HE F0 46 44 (s.drop 1) ∧ R.heap.size ≤ w.heap.size ∧ Evo R w []) (fun n => s.length - n) 1 ?_ ?_))))))
 refine ⟨rfl, δ, δ, δ, C⟩
 rintro n g w2 ⟨aT, hn1, hj, hzl1, C⟩
 have ao := C.size
 refine Zk 7 aT (AB (Zs (Zo AN (Zo Au (Zo (Al rfl η underlying9) (Zn Bu (AE η (fun az => ?_) (fun az => ?_))))))))
 refine AF (AD (AD (Zs (Zo (AP (v := .func _ _ _) rfl η) (Zo Au (Zo AN (Zo (A3 (n) rfl underlying9 η η χ ω) (Dc rfl rfl rfl (Cm (vs := [.int _ _]) (cs := []) rfl η η func151 rfl ζ) MP ?_))))))))
 rintro e w5 ⟨rfl, F5⟩
 refine ⟨_, rfl, ?_⟩
 have Q5 := F5.size
 replace C := Z0 C F5
 refine Zn A6 (D8 η (fun J => ?_) (fun J => ?_))
 refine AA (Zo AN (Zo A8 (BO (i := 20) (v := .int .i64 ((n + 1 : Nat) : Int)) (congrArg (Value.int _) ω) (Zn Ah (AO (AO (Zg (n + 1) ?_)))))))
 refine ⟨rfl, δ, (by first | (have U := MZ (a := 46) (b := 44) (s := s) (n := n) ω J; omega) | (have U := JJ (a := 46) (b := 44) (inner := F0) (s := s) (n := n) κ J; omega)), δ, C⟩
 refine AB (Ba ζ ζ (Zq (fun w' j => Au) (Zq (fun w' j => AN) (Zq (fun w' j => A3 (n) rfl underlying9 η η χ ω) (Zq (fun w' j => Au) (Zq (fun w' j => A3 (0) rfl underlying9 η η χ υ) (Zq (fun w' j => A1 rfl η η) (Zq (fun w' j => Br) ?_))))))))
 refine Dm rfl Ay rfl (fun o w' j => Au) ?_
 refine Dm rfl Ay rfl (fun o w' j => AN) ?_
 refine Dm rfl Ay rfl (fun o w' j => A3 (n) rfl underlying9 (Af o) (Af o) χ ω) ?_
 refine Dm rfl Ay rfl (fun o w' j => Au) ?_
 refine Dm rfl Ay rfl (fun o w' j => A3 (1) rfl underlying9 (Af o) η χ υ) ?_
 refine Dm rfl Ay rfl (fun o w' j => A1 rfl (Af o) (Af o)) ?_
 refine Zq (fun w' j => Cq rfl η rfl (fun hq => IK η (fun h => h) hq)) ?_
 refine Zq (fun w' j => Br) ?_
 refine Dm rfl Aq rfl (fun o w' j => AN) ?_
 refine Dm rfl Aq rfl (fun o w' j => Cp rfl (Af o) η ω ω) ?_
 refine Dm rfl Aq rfl (fun o w' j => Au) ?_
 refine Dm rfl Aq rfl (fun o w' j => Al rfl (Af o) underlying9) ?_
 refine Dm rfl Aq rfl (fun o w' j => Cx rfl (Af o) (Af o)) ?_
 refine Zq (fun w' j => Bc rfl η (fun hq => IK η (fun h => h) hq) rfl) ?_
 refine Zq (fun w' j => Br) ?_
 refine Dm rfl Aq rfl (fun o w' j => AP (v := .func _ _ _) rfl η) ?_
 refine Dm rfl Aq rfl (fun o w' j => Au) ?_
 refine Dm rfl Aq rfl (fun o w' j => AN) ?_
 refine Dm rfl Aq rfl (fun o w' j => Cp rfl (Af o) η ω ω) ?_
 refine Dm rfl Aq rfl (fun o w' j => A3 ((n + 1)) rfl underlying9 (Af o) (Af o) ω ω) ?_
 refine M7 rfl Aq rfl (fun o w' j => Cm (cs := []) rfl (Af o) (An (v := .int _ _) (Af o) (rfl)) func151 rfl ζ) (fun o w' j => (MP ).mono (fun e a6 h => ⟨h.1, CY j h.2⟩)) ?_
 refine Zq (fun w' j => Bg rfl η (fun hq => IK η (fun h => h) hq) rfl) ?_
 refine Zq (fun w' j => A6) (EE (fun w7 F8 => ?_))
 have Q7 := F8.size
 replace C := Z0 C F8
 refine AE η (fun I => ?_) (fun I => ?_)
 refine AA (Zo AN (Zo A8 (BO (i := 52) (v := .int .i64 ((n + 2 : Nat) : Int)) (congrArg (Value.int _) ω) (Zn Ah (AO (AO (Zg (n + 2) ?_)))))))
 refine ⟨rfl, δ, (by first | (have U := MZ (a := 46) (b := 44) (s := s) (n := n) ω I; omega) | (have U := JJ (a := 46) (b := 44) (inner := F0) (s := s) (n := n) κ I; omega)), δ, C⟩
 refine Zs (Zo AN (Zn Ah (AK CZ ?_)))
 exact ⟨AU (by have U := QZ (a := 46) (b := 44) (inner := F0) (s := s) (n := n) ω κ I; omega), C⟩
 refine AW rfl (Zs (Zo AN (Zn Ah (AK CZ ?_))))
 exact ⟨AU (by have U := QJ (a := 46) (b := 44) (inner := F0) (s := s) (n := n) ω; omega), C⟩
theorem Vl {s : AQ} (h : BM (s.getD 0 default) = 4) : A4 s = (6, 1 + HE Mq 39 45 (s.drop 1)) := by unfold A4; rw [if_pos h]
theorem Xm {s : AQ} (h : ¬ BM (s.getD 0 default) = 4) (j : BM (s.getD 0 default) = 3) : A4 s = (7, 1 + HE F0 46 44 (s.drop 1)) := by unfold A4; rw [if_neg h, if_pos j]
theorem To {s : AQ} (h : ¬ BM (s.getD 0 default) = 4) (j : ¬ BM (s.getD 0 default) = 3) (o : BM (s.getD 0 default) = 2) : A4 s = (8, 1 + Lu (s.drop 1)) := by unfold A4; rw [if_neg h, if_neg j, if_pos o]
theorem Ws {s : AQ} (h : ¬ BM (s.getD 0 default) = 4) (j : ¬ BM (s.getD 0 default) = 3) (o : ¬ BM (s.getD 0 default) = 2) : A4 s = (9, 1) := by unfold A4; rw [if_neg h, if_neg j, if_neg o]
theorem XL {s : AQ} {k : Nat} (hk : k ≤ s.length) (h : ¬ ((k : Int) < (s.length : Int) ∧ BM (s.getD k 0) = 2)) : Lu (s.drop k) = 0 := by
  by_cases h1 : k < s.length
  · exact aU h1 (fun j => h ⟨by omega, j⟩)
  · exact bU ω
theorem Mu {p : Int × Nat} {a : Int} {b : Nat} (h : p = (a, b)) : Ending.returned (.tuple #[.int .i64 a, .int .i64 ((b : Nat) : Int)]) = .returned (.tuple #[.int .i64 p.1, .int .i64 ((p.2 : Nat) : Int)]) := by rw [h]
theorem SM {s : AQ} {U : World} (hs : s.length ≤ 140737488355328) (a1 : 1 ≤ s.length) :
    Calls Tryz.prog 102 #[S s] U fun e w' => e = .returned (.tuple #[.int .i64 (A4 s).1, .int .i64 (((A4 s).2 : Nat) : Int)]) ∧ Evo U w' [] := by
 refine AG (n := 32) func102 rfl ntmps102 rfl ?_
 have j : Evo U U [] := Evo.refl _ _
 refine Zs (Zo Ah (Zn Ah (AB (Zs (Zo Au (Zo (A3 (0) rfl underlying9 η η χ ω) (Zr [.int _ _] rfl η func143 EV ?_)))))))
 rintro e w1 ⟨rfl, F1⟩
 refine ⟨_, rfl, ?_⟩
 have Q1 := F1.size
 replace j := Z0 j F1
 refine As (AD (Zs (Zo C3 (Zn A6 (AE η (fun I => ?_) (fun I => ?_))))))
 refine Zs (Zo Au (Zr [S _, S _, .func _ _ _] rfl η func149 (id (Ot (s := s) ω ω)) ?_))
 rintro e w3 ⟨rfl, F3⟩
 refine ⟨_, rfl, ?_⟩
 have Q3 := F3.size
 replace j := Z0 j F3
 refine Zo Ah (Zn Ah (AK (He (v := .int _ _) (u := .int _ _) rfl η η) ?_))
 exact ⟨Mu (Vl I), j⟩
 refine Zs (Zo C3 (Zn A6 (AE η (fun J => ?_) (fun J => ?_))))
 refine Zs (Zo Au (Zr [S _, S _, .func _ _ _] rfl η func149 (id (PD (s := s) ω ω)) ?_))
 rintro e w5 ⟨rfl, F5⟩
 refine ⟨_, rfl, ?_⟩
 have Q5 := F5.size
 replace j := Z0 j F5
 refine Zo Ah (Zn Ah (AK (He (v := .int _ _) (u := .int _ _) rfl η η) ?_))
 exact ⟨Mu (Xm κ J), j⟩
 refine Zs (Zo C3 (Zn A6 (AE η (fun ag => ?_) (fun ag => ?_))))
 refine Zs (Zn Ah (AB (AD (AZ (α := Nat) [4, 18, 19, 20, 21, 22, 23, 24, 25, 26, 27, 28, 29, 30] (fun k g w => g 4 = .int .i64 (k : Nat) ∧ (1 ≤ k ∧ k ≤ s.length) ∧ k + Lu (s.drop k) = 1 + Lu (s.drop 1) ∧ w1.heap.size ≤ w.heap.size ∧ Evo U w []) (fun k => s.length - k) 1 ?_ ?_))))
 refine ⟨rfl, δ, δ, δ, j⟩
 rintro k g w8 ⟨ao, hk1, hb, hzl7, j⟩
 have R := j.size
 refine Zk 4 ao (AB (Zs (Zo AN (Zo Au (Zo (Al rfl η underlying9) (Zo Bu (Zo Br ?_)))))))
 refine Ab rfl Aq rfl (fun C => Au) ?_
 refine Ab rfl Aq rfl (fun C => AN) ?_
 refine Ab rfl Aq rfl (fun C => A3 (k) rfl underlying9 (Af C) (Af C) χ ω) ?_
 refine Bb rfl Aq rfl (fun C => Am rfl (An (v := .int _ _) (Af C) (rfl)) func143 rfl ζ) (fun C => (EV ).mono (fun e w' h => ⟨h.1, h.2⟩)) (fun a6 F11 => ?_)
 have az := F11.size
 replace j := Z0 j F11
 refine Ab rfl Aq rfl (fun C => A1 rfl (Af C) η) ?_
 refine Zn Fm (AE η (fun o => ?_) (fun o => ?_))
 refine AF (AD (AA (Zo AN (Zo A8 (Zn Ah (AO (Zg (k + 1) ?_)))))))
 refine ⟨σ, δ, (by have h8 := QF (s := s) (n := k) ω o.2; omega), δ, j⟩
 refine AW rfl (Zs (Zo AN (Zo Ah (Zn Ah (AK (He (v := .int _ _) (u := .int _ _) rfl η η) ?_)))))
 exact ⟨Mu (by rw [To κ κ κ]; have h8 := XL (s := s) (k := k) ω o; congr 1; omega), j⟩
 refine AF (AO (Zs (Zo Ah (Zn Ah (AK (He (v := .int _ _) (u := .int _ _) rfl η η) ?_)))))
 exact ⟨Mu (Ws κ κ κ), j⟩
theorem aJ {s : AQ} (h : s = [] ∨ ¬ BM (s.getD 0 default) = 4) : HU s = 0 := by unfold HU; rw [if_neg (by rintro ⟨h1, j⟩; exact h.elim (fun h => h1 h) (fun h => h j))]
theorem bG {s : AQ} (h : s = [] ∨ ¬ BM (s.getD 0 default) = 3) : Jj s = 0 := by unfold Jj; rw [if_neg (by rintro ⟨h1, j⟩; exact h.elim (fun h => h1 h) (fun h => h j))]
theorem QO {s : AQ} (h : ¬ (s = [] ∨ ¬ BM (s.getD 0 default) = 4)) : HU s = 1 + HE Mq 39 45 (s.drop 1) := by unfold HU; rw [if_pos ⟨fun e => h (.inl e), Classical.not_not.1 fun e => h (.inr e)⟩]
theorem YM {s : AQ} (h : ¬ (s = [] ∨ ¬ BM (s.getD 0 default) = 3)) : Jj s = 1 + HE F0 46 44 (s.drop 1) := by unfold Jj; rw [if_pos ⟨fun e => h (.inl e), Classical.not_not.1 fun e => h (.inr e)⟩]
theorem Nx {s : AQ} (h : ¬ s = []) : 1 ≤ s.length := List.length_pos_iff.2 h
theorem Yh {s : AQ} {q : Prop} (h : ¬ (s = [] ∨ q)) : 1 ≤ s.length := List.length_pos_iff.2 fun e => h (.inl e)
theorem ZH {s : AQ} {k : Nat} (h1 : ¬ (BM (s.getD k 0) = 4 ∨ BM (s.getD k 0) = 3)) (j : ((((s.getD k 0).toNat : Nat) : Int) = 39 ∨ (((s.getD k 0).toNat : Nat) : Int) = 45) ∧ (k : Int) + 1 < (s.length : Int)) (o : BM (s.getD (k + 1) 0) = 4 ∨ BM (s.getD (k + 1) 0) = 3) :
    HE Mq 39 45 (s.drop k) = 2 + HE Mq 39 45 (s.drop (k + 2)) := JJ (UY.2 h1) ⟨⟨j.1, j.2⟩, LW.2 o⟩
theorem af {s : AQ} {k : Nat} (hk : k < s.length) (h1 : ¬ (BM (s.getD k 0) = 4 ∨ BM (s.getD k 0) = 3)) (j : ¬ ((((((s.getD k 0).toNat : Nat) : Int) = 39 ∨ (((s.getD k 0).toNat : Nat) : Int) = 45) ∧ (k : Int) + 1 < (s.length : Int)) ∧ (BM (s.getD (k + 1) 0) = 4 ∨ BM (s.getD (k + 1) 0) = 3))) :
    HE Mq 39 45 (s.drop k) = 0 := QZ hk (UY.2 h1) (fun h => j ⟨⟨h.1.1, h.1.2⟩, LW.1 h.2⟩)
theorem Xl {s : AQ} {k : Nat} (h1 : ¬ BM (s.getD k 0) = 3) (j : (((((s.getD k 0).toNat : Nat) : Int) = 46 ∨ (((s.getD k 0).toNat : Nat) : Int) = 44) ∧ (k : Int) + 1 < (s.length : Int)) ∧ BM (s.getD (k + 1) 0) = 3) :
    HE F0 46 44 (s.drop k) = 2 + HE F0 46 44 (s.drop (k + 2)) := JJ (Uk.2 h1) ⟨⟨j.1.1, j.1.2⟩, Ny.2 j.2⟩
theorem cL {s : AQ} {k : Nat} (hk : k < s.length) (h1 : ¬ BM (s.getD k 0) = 3) (j : ¬ ((((((s.getD k 0).toNat : Nat) : Int) = 46 ∨ (((s.getD k 0).toNat : Nat) : Int) = 44) ∧ (k : Int) + 1 < (s.length : Int)) ∧ BM (s.getD (k + 1) 0) = 3)) :
    HE F0 46 44 (s.drop k) = 0 := QZ hk (Uk.2 h1) (fun h => j ⟨⟨h.1.1, h.1.2⟩, Ny.1 h.2⟩)
theorem Rx {s : AQ} {w0 : World} (hs : s.length ≤ 140737488355328) :
    Calls Tryz.prog 168 #[S s] w0 fun e w' => e = .returned (.int .i64 ((HU s : Nat) : Int)) ∧ Evo w0 w' [] := by
 refine AG (n := 61) func168 rfl ntmps168 rfl ?_
 have C : Evo w0 w0 [] := Evo.refl _ _
 refine Zs (Zn Ah (AB (Zs (Zo Au (Zo (Cn rfl η η) (Zo Br ?_))))))
 refine Ab rfl Ay rfl (fun j => Au) ?_
 refine Ab rfl Ay rfl (fun j => A3 (0) rfl underlying9 (Af j) η χ (by have := Nx j; omega)) ?_
 refine Bb rfl Ay rfl (fun j => Am rfl (An (v := .int _ _) (Af j) (rfl)) func101 rfl ζ) (fun j => (Bi ).mono (fun e w' h => ⟨h.1, h.2⟩)) (fun w1 F2 => ?_)
 have Q1 := F2.size
 replace C := Z0 C F2
 refine Ab rfl Ay rfl (fun j => BD rfl (Af j) η) ?_
 refine Zn Ee (AE η (fun J => ?_) (fun J => ?_))
 refine Zs (Zn Ah (AK CZ ?_))
 exact ⟨AU (by rw [aJ J]; rfl), C⟩
 refine AF (AB ?_)
 have a6 := Yh J
 refine AA (Zn Ah (AB (AD (AZ (α := Nat) [3, 4, 5, 14, 15, 16, 17, 18, 19, 20, 21, 22, 23, 24, 25, 26, 27, 28, 29, 30, 31, 32, 33, 34, 35, 36, 37, 38, 39, 40, 41, 42, 43, 44, 45, 46, 47, 48, 49, 50, 51, 52, 53, 54, 55, 56, 57, 58, 59] (fun k g w => g 3 = .int .i64 (k : Nat) ∧ (1 ≤ k ∧ k ≤ s.length) ∧ k + HE Mq 39 45 (s.drop k) = 1 + HE Mq 39 45 (s.drop 1) ∧ w1.heap.size ≤ w.heap.size ∧ Evo w0 w []) (fun k => s.length - k) 1 ?_ ?_))))
 refine ⟨rfl, δ, δ, δ, C⟩
 rintro k g w5 ⟨aT, hk1, hj, hzl4, C⟩
 have ag := C.size
 refine Zk 3 aT (AB (Zs (Zo AN (Zo Au (Zo (Al rfl η underlying9) (Zn Bu (AE η (fun az => ?_) (fun az => ?_))))))))
 refine AF (AD (Zs (Zo Au (Zo AN (Zo (A3 (k) rfl underlying9 η η χ ω) (Zr [.int _ _] rfl η func101 Bi ?_))))))
 rintro e w8 ⟨rfl, F8⟩
 refine ⟨_, rfl, ?_⟩
 have Q8 := F8.size
 replace C := Z0 C F8
 refine Zn Ah (AB (Zs (Zo AN (Zo C3 (Zo Br ?_)))))
 refine Ab rfl Ay rfl (fun j => AN) ?_
 refine Ab rfl Ay rfl (fun j => A1 rfl (Af j) η) ?_
 refine Zn Ee (AE η (fun R => ?_) (fun R => ?_))
 refine Zs (Zo AN (Zo A8 (BO (i := 29) (v := .int .i64 ((k + 1 : Nat) : Int)) (congrArg (Value.int _) ω) (Zn Ah (AW rfl (Zg (k + 1) ?_))))))
 refine ⟨rfl, δ, (by first | (have U := MZ (inner := Mq) (a := 39) (b := 45) (s := s) (n := k) ω (LW.2 R); omega) | (have U := ZH (s := s) (k := k) κ κ R; omega)), δ, C⟩
 refine AF (AB (Zs (Zo Au (Zo AN (Zo (A3 (k) rfl underlying9 η η χ ω) (Zo C3 (Zo Br ?_)))))))
 refine Ab rfl Ay rfl (fun j => Au) ?_
 refine Ab rfl Ay rfl (fun j => AN) ?_
 refine Ab rfl Ay rfl (fun j => A3 (k) rfl underlying9 (Af j) (Af j) χ ω) ?_
 refine Ab rfl Ay rfl (fun j => A1 rfl (Af j) η) ?_
 refine Zo Ee (Zo Br ?_)
 refine Ab rfl Aq rfl (fun j => AN) ?_
 refine Ab rfl Aq rfl (fun j => Cp rfl (Af j) η ω ω) ?_
 refine Ab rfl Aq rfl (fun j => Au) ?_
 refine Ab rfl Aq rfl (fun j => Al rfl (Af j) underlying9) ?_
 refine Ab rfl Aq rfl (fun j => Cx rfl (Af j) (Af j)) ?_
 refine Zn Fm (AE η (fun I => ?_) (fun I => ?_))
 refine Zs (Zo Au (Zo AN (Zo A8 (Zo (A3 ((k + 1)) rfl underlying9 η η ω ω) (Zr [.int _ _] rfl η func101 Bi ?_)))))
 rintro e a7 ⟨rfl, F11⟩
 refine ⟨_, rfl, ?_⟩
 have a1 := F11.size
 replace C := Z0 C F11
 refine Zn Ah (Zs (Zo AN (Zo C3 (Zo Br ?_))))
 refine Ab rfl Ay rfl (fun j => AN) ?_
 refine Ab rfl Ay rfl (fun j => A1 rfl (Af j) η) ?_
 refine Zn Ee (AE η (fun o => ?_) (fun o => ?_))
 refine Zs (Zo AN (Zo A8 (BO (i := 59) (v := .int .i64 ((k + 2 : Nat) : Int)) (congrArg (Value.int _) ω) (Zn Ah (AW rfl (Zg (k + 2) ?_))))))
 refine ⟨rfl, δ, (by first | (have U := MZ (inner := Mq) (a := 39) (b := 45) (s := s) (n := k) ω (LW.2 o); omega) | (have U := ZH (s := s) (k := k) κ κ o; omega)), δ, C⟩
 refine AF (AW rfl (Zs (Zo AN (Zn Ah (AK CZ ?_)))))
 exact ⟨AU (by have U := af (s := s) (k := k) ω κ (fun h => by first | exact o h.2 | exact o h.1); rw [QO κ]; omega), C⟩
 refine AF (AW rfl (Zs (Zo AN (Zn Ah (AK CZ ?_)))))
 exact ⟨AU (by have U := af (s := s) (k := k) ω κ (fun h => by first | exact I h.2 | exact I h.1); rw [QO κ]; omega), C⟩
 refine AW rfl (Zs (Zo AN (Zn Ah (AK CZ ?_))))
 exact ⟨AU (by have U := QJ (a := 39) (b := 45) (inner := Mq) (s := s) (n := k) ω; rw [QO κ]; omega), C⟩
theorem JZ {s : AQ} {w0 : World} (hs : s.length ≤ 140737488355328) :
    Calls Tryz.prog 169 #[S s] w0 fun e w' => e = .returned (.int .i64 ((Jj s : Nat) : Int)) ∧ Evo w0 w' [] := by
 refine AG (n := 51) func169 rfl ntmps169 rfl ?_
 have o : Evo w0 w0 [] := Evo.refl _ _
 refine Zs (Zn Ah (AB (Zs (Zo Au (Zo (Cn rfl η η) (Zo Br ?_))))))
 refine Ab rfl Ay rfl (fun j => Au) ?_
 refine Ab rfl Ay rfl (fun j => A3 (0) rfl underlying9 (Af j) η χ (by have := Nx j; omega)) ?_
 refine Bb rfl Ay rfl (fun j => Am rfl (An (v := .int _ _) (Af j) (rfl)) func101 rfl ζ) (fun j => (Bi ).mono (fun e w' h => ⟨h.1, h.2⟩)) (fun w1 F2 => ?_)
 have Q1 := F2.size
 replace o := Z0 o F2
 refine Ab rfl Ay rfl (fun j => BD rfl (Af j) η) ?_
 refine Zn Ee (AE η (fun I => ?_) (fun I => ?_))
 refine Zs (Zn Ah (AK CZ ?_))
 exact ⟨AU (by rw [bG I]; rfl), o⟩
 refine AF (AB ?_)
 have a1 := Yh I
 refine AA (Zn Ah (AB (AD (AZ (α := Nat) [3, 12, 13, 14, 15, 16, 17, 18, 19, 20, 21, 22, 23, 24, 25, 26, 27, 28, 29, 30, 31, 32, 33, 34, 35, 36, 37, 38, 39, 40, 41, 42, 43, 44, 45, 46, 47, 48, 49] (fun k g w => g 3 = .int .i64 (k : Nat) ∧ (1 ≤ k ∧ k ≤ s.length) ∧ k + HE F0 46 44 (s.drop k) = 1 + HE F0 46 44 (s.drop 1) ∧ w1.heap.size ≤ w.heap.size ∧ Evo w0 w []) (fun k => s.length - k) 1 ?_ ?_))))
 refine ⟨rfl, δ, δ, δ, o⟩
 rintro k g w5 ⟨az, hk1, hj, hzl4, o⟩
 have U := o.size
 refine Zk 3 az (AB (Zs (Zo AN (Zo Au (Zo (Al rfl η underlying9) (Zn Bu (AE η (fun ao => ?_) (fun ao => ?_))))))))
 refine AF (AD (AB (Zs (Zo Au (Zo AN (Zo (A3 (k) rfl underlying9 η η χ ω) (Zr [.int _ _] rfl η func101 Bi ?_)))))))
 rintro e w8 ⟨rfl, F8⟩
 refine ⟨_, rfl, ?_⟩
 have Q8 := F8.size
 replace o := Z0 o F8
 refine Zn C3 (AE η (fun J => ?_) (fun J => ?_))
 refine Zs (Zo AN (Zo A8 (BO (i := 22) (v := .int .i64 ((k + 1 : Nat) : Int)) (congrArg (Value.int _) ω) (Zn Ah (AW rfl (Zg (k + 1) ?_))))))
 refine ⟨rfl, δ, (by first | (have R := MZ (inner := F0) (a := 46) (b := 44) (s := s) (n := k) ω (Ny.2 J); omega) | (have R := Xl (s := s) (k := k) κ J; omega)), δ, o⟩
 refine AF (AB (Zs (Zo Au (Zo AN (Zo (A3 (k) rfl underlying9 η η χ ω) (Zo C3 (Zo Br ?_)))))))
 refine Ab rfl Ay rfl (fun j => Au) ?_
 refine Ab rfl Ay rfl (fun j => AN) ?_
 refine Ab rfl Ay rfl (fun j => A3 (k) rfl underlying9 (Af j) (Af j) χ ω) ?_
 refine Ab rfl Ay rfl (fun j => A1 rfl (Af j) η) ?_
 refine Zo Ee (Zo Br ?_)
 refine Ab rfl Aq rfl (fun j => AN) ?_
 refine Ab rfl Aq rfl (fun j => Cp rfl (Af j) η ω ω) ?_
 refine Ab rfl Aq rfl (fun j => Au) ?_
 refine Ab rfl Aq rfl (fun j => Al rfl (Af j) underlying9) ?_
 refine Ab rfl Aq rfl (fun j => Cx rfl (Af j) (Af j)) ?_
 refine Zo Fm (Zo Br ?_)
 refine Ab rfl Aq rfl (fun j => Au) ?_
 refine Ab rfl Aq rfl (fun j => AN) ?_
 refine Ab rfl Aq rfl (fun j => Cp rfl (Af j) η ω ω) ?_
 refine Ab rfl Aq rfl (fun j => A3 ((k + 1)) rfl underlying9 (Af j) (Af j) ω ω) ?_
 refine Bb rfl Aq rfl (fun j => Am rfl (An (v := .int _ _) (Af j) (rfl)) func101 rfl ζ) (fun j => (Bi ).mono (fun e w' h => ⟨h.1, h.2⟩)) (fun a6 F11 => ?_)
 have aT := F11.size
 replace o := Z0 o F11
 refine Ab rfl Aq rfl (fun j => A1 rfl (Af j) η) ?_
 refine Zn Fm (AE η (fun C => ?_) (fun C => ?_))
 refine Zs (Zo AN (Zo A8 (BO (i := 49) (v := .int .i64 ((k + 2 : Nat) : Int)) (congrArg (Value.int _) ω) (Zn Ah (AW rfl (Zg (k + 2) ?_))))))
 refine ⟨rfl, δ, (by first | (have R := MZ (inner := F0) (a := 46) (b := 44) (s := s) (n := k) ω (Ny.2 C); omega) | (have R := Xl (s := s) (k := k) κ C; omega)), δ, o⟩
 refine AF (AW rfl (Zs (Zo AN (Zn Ah (AK CZ ?_)))))
 exact ⟨AU (by have R := cL (s := s) (k := k) ω κ C; rw [YM κ]; omega), o⟩
 refine AW rfl (Zs (Zo AN (Zn Ah (AK CZ ?_))))
 exact ⟨AU (by have R := QJ (a := 46) (b := 44) (inner := F0) (s := s) (n := k) ω; rw [YM κ]; omega), o⟩
theorem Fx {s : AQ} {I : World} (hs : s.length ≤ 140737488355328) :
    Calls Tryz.prog 170 #[S s] I fun e w' => e = .returned (.int .i64 ((Lu s : Nat) : Int)) ∧ Evo I w' [] := by
 refine AG (n := 18) func170 rfl ntmps170 rfl ?_
 have o : Evo I I [] := Evo.refl _ _
 refine Zs (Zn Ah (Zs (Zn Ah (AB (AD (AZ (α := Nat) [3, 4, 5, 6, 7, 8, 9, 10, 11, 12, 13, 14, 15, 16] (fun k g w => g 3 = .int .i64 (k : Nat) ∧ k ≤ s.length ∧ k + Lu (s.drop k) = Lu s ∧ I.heap.size ≤ w.heap.size ∧ Evo I w []) (fun k => s.length - k) 0 ?_ ?_))))))
 refine ⟨rfl, δ, (by simp), δ, o⟩
 rintro k g w2 ⟨R, hk1, hb, hzl1, o⟩
 have J := o.size
 refine Zk 3 R (AB (Zs (Zo AN (Zo Au (Zo (Al rfl η underlying9) (Zo Bu (Zo Br ?_)))))))
 refine Ab rfl Aq rfl (fun j => Au) ?_
 refine Ab rfl Aq rfl (fun j => AN) ?_
 refine Ab rfl Aq rfl (fun j => A3 (k) rfl underlying9 (Af j) (Af j) χ ω) ?_
 refine Bb rfl Aq rfl (fun j => Am rfl (An (v := .int _ _) (Af j) (rfl)) func101 rfl ζ) (fun j => (Bi ).mono (fun e w' h => ⟨h.1, h.2⟩)) (fun w4 F5 => ?_)
 have Q4 := F5.size
 replace o := Z0 o F5
 refine Ab rfl Aq rfl (fun j => A1 rfl (Af j) η) ?_
 refine Zn Fm (AE η (fun C => ?_) (fun C => ?_))
 refine AF (AD (AA (Zo AN (Zo A8 (Zn Ah (AO (Zg (k + 1) ?_)))))))
 refine ⟨σ, δ, (by have U := QF (s := s) (n := k) ω C.2; omega), δ, o⟩
 refine AW rfl (Zs (Zo AN (Zn Ah (AK CZ ?_))))
 exact ⟨AU (by have U := XL (s := s) (k := k) ω C; omega), o⟩
theorem CT : DH Tryz.prog 32 = some true := ζ
theorem Bo : CG Tryz.prog 32 0 = some 0 := ζ
theorem CI : CG Tryz.prog 32 1 = some 1 := ζ
theorem DU : CG Tryz.prog 32 2 = some 2 := ζ
theorem HZ : D3 Tryz.prog 96 = some [(0, 1), (1, 1), (2, 1)] := ζ
theorem Ag : Dl Tryz.prog 32 = some (3, 32, some (.agg #[(.int .i64 0), (.string ⟨#[]⟩), (.int .i64 0)])) := ζ
theorem BX : Dl Tryz.prog 96 = some (3, 32, some (.agg #[(.int .i64 0), (.string ⟨#[]⟩), (.int .i64 0)])) := ζ
theorem En {r : AQ} {l L : List Vc.Item} {p : Int × Nat} (o : A4 r = p) (j : l ++ IE r = L) (C : ¬ r = []) : (l ++ [⟨p.1, r.take p.2, 0⟩]) ++ IE (r.drop p.2) = L := by
  rw [Ln C, o] at j
  rw [List.append_assoc]; exact j
theorem RC : ∀ (f : List Vc.Item) (k : Nat), (f.getD k default).text.length ≤ HD f
  | [], k => by show ([] : AQ).length ≤ _; exact Nat.zero_le _
  | x :: f, 0 => by simp [HD]
  | x :: f, k + 1 => by
    have := RC f k
    simp only [HD, List.map_cons, List.sum_cons, List.getD_cons_succ] at *
    omega
theorem JD : ∀ (f : List Vc.Item) (k : Nat), HD (f.take k) ≤ HD f
  | [], k => by simp
  | x :: f, 0 => by simp [HD]
  | x :: f, k + 1 => by
    have := JD f k
    simp only [HD, List.take_succ_cons, List.map_cons, List.sum_cons] at *
    omega
theorem PR (f : List Vc.Item) (k : Nat) (h : k < f.length) : HD (f.take k) + (f.getD k default).text.length ≤ HD f := by
  have h1 := JD f (k + 1)
  rw [Ai f k h] at h1
  simpa [HD] using h1
theorem B0 {x : Vc.Item} (h : x.kind = 1) : NL x = IE x.text := if_pos h
theorem De {x : Vc.Item} (h : x.kind = 2 ∨ x.kind = 3 ∨ x.kind = 4 ∨ x.kind = 5) : NL x = [x] := by unfold NL; rw [if_neg ω, if_pos ω]
theorem C7 {x : Vc.Item} (h : ¬ x.kind = 1) (j : ¬ x.kind = 2) (o : ¬ x.kind = 3) (C : ¬ x.kind = 4) (I : ¬ x.kind = 5) : NL x = [] := by unfold NL; rw [if_neg h, if_neg ω]
theorem UG (s : AQ) : (IE s).length ≤ s.length := TM _ s rfl
theorem EO {r : AQ} (h : ¬ r = []) (j : (0 : Int) < ((Lu r : Nat) : Int)) : A4 r = (8, Lu r) := WL h ω
theorem EI {r : AQ} (h : ¬ r = []) (j : ¬ (0 : Int) < ((Lu r : Nat) : Int)) (h1 : (0 : Int) < ((Jj r : Nat) : Int)) : A4 r = (7, Jj r) := ZW h ω ω
theorem EM {r : AQ} (h : ¬ r = []) (o : ¬ (0 : Int) < ((Lu r : Nat) : Int)) (h1 : ¬ (0 : Int) < ((Jj r : Nat) : Int)) (j : (0 : Int) < ((HU r : Nat) : Int)) : A4 r = (6, HU r) := ZO h ω ω ω
theorem EF {r : AQ} (h : ¬ r = []) (o : ¬ (0 : Int) < ((Lu r : Nat) : Int)) (h1 : ¬ (0 : Int) < ((Jj r : Nat) : Int)) (j : ¬ (0 : Int) < ((HU r : Nat) : Int)) : A4 r = (9, 1) := XT h ω ω ω
theorem Ti {s : AQ} {R : World} (hs : s.length ≤ 1000000000) :
    Calls Tryz.prog 135 #[S s] R fun e w' => ∃ v, e = .returned v ∧ Evo R w' [] ∧ OwnE w' R.heap.size 96 v (IE s) := by
 have bz := UG s
 refine AG (n := 39) func135 rfl ntmps135 rfl ?_
 have C : Evo R R [] := Evo.refl _ _
 refine Zs (Zn Bs (Zs (Zn Bs (AB (AD (AZ (α := AQ) [0, 3, 4, 5, 6, 7, 8, 9, 10, 11, 12, 13, 14, 15, 16, 17, 18, 19, 20, 21, 22, 23, 24, 25, 26, 27, 28, 29, 30, 31, 32, 33, 34, 35, 36, 37] (fun r g w => ∃ J : Value, ∃ l : List Vc.Item, g 0 = S r ∧ g 3 = J ∧ OwnE w R.heap.size 96 J l ∧ l ++ IE r = IE s ∧ r.length ≤ s.length ∧ R.heap.size ≤ w.heap.size ∧ Evo R w []) (fun r => r.length) s ?_ ?_))))))
 refine ⟨_, [], rfl, rfl, (OwnE.nil _ _ _), (List.nil_append _), (Nat.le_refl _), δ, C⟩
 rintro r g w2 ⟨J, l, hj3, hj4, o, hacc, hrl, hzl1, C⟩
 have a6 := C.size
 refine Zk 0 hj3 (Zk 3 hj4 ?_)
 have ba := congrArg List.length hacc
 rw [List.length_append] at ba
 refine AB (Zs (Zo Au (Zo (Al rfl η underlying9) (Zn IG (AE η (fun a7 => ?_) (fun a7 => ?_))))))
 refine AF (AD (AB ?_))
 have a1 : 0 < r.length := by omega
 have j : ¬ r = [] := fun e => by rw [e] at a1; simp at a1
 have bF := TD j; have bL := Ib r
 refine AA (Zo Ah (Zn Ah (AB (Zs (Zo Au (Zr [S _] rfl η func168 (Rx ω) ?_))))))
 rintro e w6 ⟨rfl, F6⟩
 refine ⟨_, rfl, ?_⟩
 have Q6 := F6.size
 replace C := Z0 C F6
 replace o := o.evo0 F6
 refine Zn Ah (Zs (Zo AN (Zn IG (AE η (fun a8 => ?_) (fun a8 => ?_)))))
 refine AA (Zo AN (Zo Ah (Zn Ah (AB (Zs (Zo Au (Zr [S _] rfl η func169 (JZ ω) ?_)))))))
 rintro e w8 ⟨rfl, F8⟩
 refine ⟨_, rfl, ?_⟩
 have Q8 := F8.size
 replace C := Z0 C F8
 replace o := o.evo0 F8
 refine Zn Ah (Zs (Zo AN (Zn IG (AE η (fun a_ => ?_) (fun a_ => ?_)))))
 refine AA (Zo AN (Zo Ah (Zn Ah (AB (Zs (Zo Au (Zr [S _] rfl η func170 (Fx ω) ?_)))))))
 rintro e bM ⟨rfl, F10⟩
 refine ⟨_, rfl, ?_⟩
 have bb := F10.size
 replace C := Z0 C F10
 replace o := o.evo0 F10
 refine Zn Ah (Zs (Zo AN (Zn IG (AE η (fun U => ?_) (fun U => ?_)))))
 refine AA (Zo AN (Zo Ah (Zn Ah (AB (Zk 4 (v := .int .i64 (A4 r).1) (by first | (rw [EO j κ]; exact rfl) | (rw [EI j κ κ]; exact rfl) | (rw [EM j κ κ κ]; exact rfl) | (rw [EF j κ κ κ]; exact rfl)) (Zk 5 (v := .int .i64 (((A4 r).2 : Nat) : Int)) (by first | (rw [EO j κ]; exact rfl) | (rw [EI j κ κ]; exact rfl) | (rw [EM j κ κ κ]; exact rfl) | (rw [EF j κ κ κ]; exact rfl)) (AA (Zo (AP (v := J) rfl η) (Zo AN ?_)))))))))
 refine Zo Au (Zo AN (Zo (by exact BP (0) ((A4 r).2) rfl underlying9 η LU (at1 η ω) τ τ) (Zo (Aj (pv := [(0, .int _ _), (1, S _)]) (zs := [_, _, _]) (cells := [_, _, _]) rfl BX η HZ η η) (Ad (u := .agg _) (y := (⟨(A4 r).1, r.take (A4 r).2, 0⟩ : Vc.Item)) rfl rfl underlying94 BX η o (fun _ => η) η ξ (τ) (τ) ω ?_))))
 intro q_v12 v12 w13 E13 hov12 hlv12
 have bc := E13.size
 replace C := AI C E13 (fun g I => .inl (by first | exact (o.block I).1 | (have := o.block I; omega)))
 refine Zn (AM (v := v12) rfl η) (AA (Zo Au (Zo AN (Zo (by exact BP ((A4 r).2) (_) rfl underlying9 η (at1 η ω) TS τ τ) (Zn CD (AO (DC (r.drop (A4 r).2) ?_ ?_ ?_)))))))
 rw [List.length_drop]; omega
 refine ⟨_, _, (congrArg S (List.take_of_length_le (by rw [List.length_drop]; exact Nat.le_refl _))), rfl, hov12, (En (p := ((A4 r).1, (A4 r).2)) rfl hacc j), (by rw [List.length_drop]; omega), δ, C⟩
 exact ψ
 refine AF (AB (Zk 4 (v := .int .i64 (A4 r).1) (by first | (rw [EO j κ]; exact rfl) | (rw [EI j κ κ]; exact rfl) | (rw [EM j κ κ κ]; exact rfl) | (rw [EF j κ κ κ]; exact rfl)) (Zk 5 (v := .int .i64 (((A4 r).2 : Nat) : Int)) (by first | (rw [EO j κ]; exact rfl) | (rw [EI j κ κ]; exact rfl) | (rw [EM j κ κ κ]; exact rfl) | (rw [EF j κ κ κ]; exact rfl)) (AA (Zo (AP (v := J) rfl η) (Zo AN (Zo Au (Zo AN (Zo (by exact BP (0) ((A4 r).2) rfl underlying9 η LU (at1 η ω) τ τ) ?_)))))))))
 refine Zo (Aj (pv := [(0, .int _ _), (1, S _)]) (zs := [_, _, _]) (cells := [_, _, _]) rfl BX η HZ η η) (Ad (u := .agg _) (y := (⟨(A4 r).1, r.take (A4 r).2, 0⟩ : Vc.Item)) rfl rfl underlying94 BX η o (fun _ => η) η ξ (τ) (τ) ω ?_)
 intro q_v14 v14 w15 E15 hov14 hlv14
 have bd := E15.size
 replace C := AI C E15 (fun g I => .inl (by first | exact (o.block I).1 | (have := o.block I; omega)))
 refine Zn (AM (v := v14) rfl η) (AA (Zo Au (Zo AN (Zo (by exact BP ((A4 r).2) (_) rfl underlying9 η (at1 η ω) TS τ τ) (Zn CD (AO (DC (r.drop (A4 r).2) ?_ ?_ ?_)))))))
 rw [List.length_drop]; omega
 refine ⟨_, _, (congrArg S (List.take_of_length_le (by rw [List.length_drop]; exact Nat.le_refl _))), rfl, hov14, (En (p := ((A4 r).1, (A4 r).2)) rfl hacc j), (by rw [List.length_drop]; omega), δ, C⟩
 exact ψ
 refine AF (AB (Zs (Zo Au (Zr [S _] rfl η func170 (Fx ω) ?_))))
 rintro e bQ ⟨rfl, F16⟩
 refine ⟨_, rfl, ?_⟩
 have bf := F16.size
 replace C := Z0 C F16
 replace o := o.evo0 F16
 refine Zn Ah (Zs (Zo AN (Zn IG (AE η (fun ag => ?_) (fun ag => ?_)))))
 refine AA (Zo AN (Zo Ah (Zn Ah (AB (Zk 4 (v := .int .i64 (A4 r).1) (by first | (rw [EO j κ]; exact rfl) | (rw [EI j κ κ]; exact rfl) | (rw [EM j κ κ κ]; exact rfl) | (rw [EF j κ κ κ]; exact rfl)) (Zk 5 (v := .int .i64 (((A4 r).2 : Nat) : Int)) (by first | (rw [EO j κ]; exact rfl) | (rw [EI j κ κ]; exact rfl) | (rw [EM j κ κ κ]; exact rfl) | (rw [EF j κ κ κ]; exact rfl)) (AA (Zo (AP (v := J) rfl η) (Zo AN ?_)))))))))
 refine Zo Au (Zo AN (Zo (by exact BP (0) ((A4 r).2) rfl underlying9 η LU (at1 η ω) τ τ) (Zo (Aj (pv := [(0, .int _ _), (1, S _)]) (zs := [_, _, _]) (cells := [_, _, _]) rfl BX η HZ η η) (Ad (u := .agg _) (y := (⟨(A4 r).1, r.take (A4 r).2, 0⟩ : Vc.Item)) rfl rfl underlying94 BX η o (fun _ => η) η ξ (τ) (τ) ω ?_))))
 intro q_v18 v18 w19 E19 hov18 hlv18
 have bg := E19.size
 replace C := AI C E19 (fun g I => .inl (by first | exact (o.block I).1 | (have := o.block I; omega)))
 refine Zn (AM (v := v18) rfl η) (AA (Zo Au (Zo AN (Zo (by exact BP ((A4 r).2) (_) rfl underlying9 η (at1 η ω) TS τ τ) (Zn CD (AO (DC (r.drop (A4 r).2) ?_ ?_ ?_)))))))
 rw [List.length_drop]; omega
 refine ⟨_, _, (congrArg S (List.take_of_length_le (by rw [List.length_drop]; exact Nat.le_refl _))), rfl, hov18, (En (p := ((A4 r).1, (A4 r).2)) rfl hacc j), (by rw [List.length_drop]; omega), δ, C⟩
 exact ψ
 refine AF (AB (Zk 4 (v := .int .i64 (A4 r).1) (by first | (rw [EO j κ]; exact rfl) | (rw [EI j κ κ]; exact rfl) | (rw [EM j κ κ κ]; exact rfl) | (rw [EF j κ κ κ]; exact rfl)) (Zk 5 (v := .int .i64 (((A4 r).2 : Nat) : Int)) (by first | (rw [EO j κ]; exact rfl) | (rw [EI j κ κ]; exact rfl) | (rw [EM j κ κ κ]; exact rfl) | (rw [EF j κ κ κ]; exact rfl)) (AA (Zo (AP (v := J) rfl η) (Zo AN (Zo Au (Zo AN (Zo (by exact BP (0) ((A4 r).2) rfl underlying9 η LU (at1 η ω) τ τ) ?_)))))))))
 refine Zo (Aj (pv := [(0, .int _ _), (1, S _)]) (zs := [_, _, _]) (cells := [_, _, _]) rfl BX η HZ η η) (Ad (u := .agg _) (y := (⟨(A4 r).1, r.take (A4 r).2, 0⟩ : Vc.Item)) rfl rfl underlying94 BX η o (fun _ => η) η ξ (τ) (τ) ω ?_)
 intro q_v20 v20 w21 E21 hov20 hlv20
 have bl := E21.size
 replace C := AI C E21 (fun g I => .inl (by first | exact (o.block I).1 | (have := o.block I; omega)))
 refine Zn (AM (v := v20) rfl η) (AA (Zo Au (Zo AN (Zo (by exact BP ((A4 r).2) (_) rfl underlying9 η (at1 η ω) TS τ τ) (Zn CD (AO (DC (r.drop (A4 r).2) ?_ ?_ ?_)))))))
 rw [List.length_drop]; omega
 refine ⟨_, _, (congrArg S (List.take_of_length_le (by rw [List.length_drop]; exact Nat.le_refl _))), rfl, hov20, (En (p := ((A4 r).1, (A4 r).2)) rfl hacc j), (by rw [List.length_drop]; omega), δ, C⟩
 exact ψ
 refine AF (AB (Zs (Zo Au (Zr [S _] rfl η func169 (JZ ω) ?_))))
 rintro e bW ⟨rfl, F22⟩
 refine ⟨_, rfl, ?_⟩
 have bm := F22.size
 replace C := Z0 C F22
 replace o := o.evo0 F22
 refine Zn Ah (Zs (Zo AN (Zn IG (AE η (fun ao => ?_) (fun ao => ?_)))))
 refine AA (Zo AN (Zo Ah (Zn Ah (AB (Zs (Zo Au (Zr [S _] rfl η func170 (Fx ω) ?_)))))))
 rintro e bY ⟨rfl, F24⟩
 refine ⟨_, rfl, ?_⟩
 have bn := F24.size
 replace C := Z0 C F24
 replace o := o.evo0 F24
 refine Zn Ah (Zs (Zo AN (Zn IG (AE η (fun az => ?_) (fun az => ?_)))))
 refine AA (Zo AN (Zo Ah (Zn Ah (AB (Zk 4 (v := .int .i64 (A4 r).1) (by first | (rw [EO j κ]; exact rfl) | (rw [EI j κ κ]; exact rfl) | (rw [EM j κ κ κ]; exact rfl) | (rw [EF j κ κ κ]; exact rfl)) (Zk 5 (v := .int .i64 (((A4 r).2 : Nat) : Int)) (by first | (rw [EO j κ]; exact rfl) | (rw [EI j κ κ]; exact rfl) | (rw [EM j κ κ κ]; exact rfl) | (rw [EF j κ κ κ]; exact rfl)) (AA (Zo (AP (v := J) rfl η) (Zo AN ?_)))))))))
 refine Zo Au (Zo AN (Zo (by exact BP (0) ((A4 r).2) rfl underlying9 η LU (at1 η ω) τ τ) (Zo (Aj (pv := [(0, .int _ _), (1, S _)]) (zs := [_, _, _]) (cells := [_, _, _]) rfl BX η HZ η η) (Ad (u := .agg _) (y := (⟨(A4 r).1, r.take (A4 r).2, 0⟩ : Vc.Item)) rfl rfl underlying94 BX η o (fun _ => η) η ξ (τ) (τ) ω ?_))))
 intro q_v26 v26 w27 E27 hov26 hlv26
 have bp := E27.size
 replace C := AI C E27 (fun g I => .inl (by first | exact (o.block I).1 | (have := o.block I; omega)))
 refine Zn (AM (v := v26) rfl η) (AA (Zo Au (Zo AN (Zo (by exact BP ((A4 r).2) (_) rfl underlying9 η (at1 η ω) TS τ τ) (Zn CD (AO (DC (r.drop (A4 r).2) ?_ ?_ ?_)))))))
 rw [List.length_drop]; omega
 refine ⟨_, _, (congrArg S (List.take_of_length_le (by rw [List.length_drop]; exact Nat.le_refl _))), rfl, hov26, (En (p := ((A4 r).1, (A4 r).2)) rfl hacc j), (by rw [List.length_drop]; omega), δ, C⟩
 exact ψ
 refine AF (AB (Zk 4 (v := .int .i64 (A4 r).1) (by first | (rw [EO j κ]; exact rfl) | (rw [EI j κ κ]; exact rfl) | (rw [EM j κ κ κ]; exact rfl) | (rw [EF j κ κ κ]; exact rfl)) (Zk 5 (v := .int .i64 (((A4 r).2 : Nat) : Int)) (by first | (rw [EO j κ]; exact rfl) | (rw [EI j κ κ]; exact rfl) | (rw [EM j κ κ κ]; exact rfl) | (rw [EF j κ κ κ]; exact rfl)) (AA (Zo (AP (v := J) rfl η) (Zo AN (Zo Au (Zo AN (Zo (by exact BP (0) ((A4 r).2) rfl underlying9 η LU (at1 η ω) τ τ) ?_)))))))))
 refine Zo (Aj (pv := [(0, .int _ _), (1, S _)]) (zs := [_, _, _]) (cells := [_, _, _]) rfl BX η HZ η η) (Ad (u := .agg _) (y := (⟨(A4 r).1, r.take (A4 r).2, 0⟩ : Vc.Item)) rfl rfl underlying94 BX η o (fun _ => η) η ξ (τ) (τ) ω ?_)
 intro q_v28 v28 w29 E29 hov28 hlv28
 have bq := E29.size
 replace C := AI C E29 (fun g I => .inl (by first | exact (o.block I).1 | (have := o.block I; omega)))
 refine Zn (AM (v := v28) rfl η) (AA (Zo Au (Zo AN (Zo (by exact BP ((A4 r).2) (_) rfl underlying9 η (at1 η ω) TS τ τ) (Zn CD (AO (DC (r.drop (A4 r).2) ?_ ?_ ?_)))))))
 rw [List.length_drop]; omega
 refine ⟨_, _, (congrArg S (List.take_of_length_le (by rw [List.length_drop]; exact Nat.le_refl _))), rfl, hov28, (En (p := ((A4 r).1, (A4 r).2)) rfl hacc j), (by rw [List.length_drop]; omega), δ, C⟩
 exact ψ
 refine AF (AB (Zs (Zo Au (Zr [S _] rfl η func170 (Fx ω) ?_))))
 rintro e b0 ⟨rfl, F30⟩
 refine ⟨_, rfl, ?_⟩
 have bs := F30.size
 replace C := Z0 C F30
 replace o := o.evo0 F30
 refine Zn Ah (Zs (Zo AN (Zn IG (AE η (fun aT => ?_) (fun aT => ?_)))))
 refine AA (Zo AN (Zo Ah (Zn Ah (AB (Zk 4 (v := .int .i64 (A4 r).1) (by first | (rw [EO j κ]; exact rfl) | (rw [EI j κ κ]; exact rfl) | (rw [EM j κ κ κ]; exact rfl) | (rw [EF j κ κ κ]; exact rfl)) (Zk 5 (v := .int .i64 (((A4 r).2 : Nat) : Int)) (by first | (rw [EO j κ]; exact rfl) | (rw [EI j κ κ]; exact rfl) | (rw [EM j κ κ κ]; exact rfl) | (rw [EF j κ κ κ]; exact rfl)) (AA (Zo (AP (v := J) rfl η) (Zo AN ?_)))))))))
 refine Zo Au (Zo AN (Zo (by exact BP (0) ((A4 r).2) rfl underlying9 η LU (at1 η ω) τ τ) (Zo (Aj (pv := [(0, .int _ _), (1, S _)]) (zs := [_, _, _]) (cells := [_, _, _]) rfl BX η HZ η η) (Ad (u := .agg _) (y := (⟨(A4 r).1, r.take (A4 r).2, 0⟩ : Vc.Item)) rfl rfl underlying94 BX η o (fun _ => η) η ξ (τ) (τ) ω ?_))))
 intro q_v32 v32 w33 E33 hov32 hlv32
 have bt := E33.size
 replace C := AI C E33 (fun g I => .inl (by first | exact (o.block I).1 | (have := o.block I; omega)))
 refine Zn (AM (v := v32) rfl η) (AA (Zo Au (Zo AN (Zo (by exact BP ((A4 r).2) (_) rfl underlying9 η (at1 η ω) TS τ τ) (Zn CD (AO (DC (r.drop (A4 r).2) ?_ ?_ ?_)))))))
 rw [List.length_drop]; omega
 refine ⟨_, _, (congrArg S (List.take_of_length_le (by rw [List.length_drop]; exact Nat.le_refl _))), rfl, hov32, (En (p := ((A4 r).1, (A4 r).2)) rfl hacc j), (by rw [List.length_drop]; omega), δ, C⟩
 exact ψ
 refine AF (AB (Zk 4 (v := .int .i64 (A4 r).1) (by first | (rw [EO j κ]; exact rfl) | (rw [EI j κ κ]; exact rfl) | (rw [EM j κ κ κ]; exact rfl) | (rw [EF j κ κ κ]; exact rfl)) (Zk 5 (v := .int .i64 (((A4 r).2 : Nat) : Int)) (by first | (rw [EO j κ]; exact rfl) | (rw [EI j κ κ]; exact rfl) | (rw [EM j κ κ κ]; exact rfl) | (rw [EF j κ κ κ]; exact rfl)) (AA (Zo (AP (v := J) rfl η) (Zo AN (Zo Au (Zo AN (Zo (by exact BP (0) ((A4 r).2) rfl underlying9 η LU (at1 η ω) τ τ) ?_)))))))))
 refine Zo (Aj (pv := [(0, .int _ _), (1, S _)]) (zs := [_, _, _]) (cells := [_, _, _]) rfl BX η HZ η η) (Ad (u := .agg _) (y := (⟨(A4 r).1, r.take (A4 r).2, 0⟩ : Vc.Item)) rfl rfl underlying94 BX η o (fun _ => η) η ξ (τ) (τ) ω ?_)
 intro q_v34 v34 w35 E35 hov34 hlv34
 have bw := E35.size
 replace C := AI C E35 (fun g I => .inl (by first | exact (o.block I).1 | (have := o.block I; omega)))
 refine Zn (AM (v := v34) rfl η) (AA (Zo Au (Zo AN (Zo (by exact BP ((A4 r).2) (_) rfl underlying9 η (at1 η ω) TS τ τ) (Zn CD (AO (DC (r.drop (A4 r).2) ?_ ?_ ?_)))))))
 rw [List.length_drop]; omega
 refine ⟨_, _, (congrArg S (List.take_of_length_le (by rw [List.length_drop]; exact Nat.le_refl _))), rfl, hov34, (En (p := ((A4 r).1, (A4 r).2)) rfl hacc j), (by rw [List.length_drop]; omega), δ, C⟩
 exact ψ
 refine AW rfl (Zs (Zo (AP (v := J) rfl η) (Zn (AM (v := J) rfl η) (AK (BN (v := J) rfl η) ?_))))
 exact ⟨_, rfl, C, by have h8 : r = [] := List.eq_nil_of_length_eq_zero ω; rw [h8, Ev, List.append_nil] at hacc; rw [← hacc]; exact o⟩
theorem FT {ao : Option Addr} {b off cap : Nat} {f : List Vc.Item} {J : World} (hf : RowE J ao b off cap f) (hz : HD f + f.length ≤ 1000000000) :
    Calls Tryz.prog 87 #[.slice ao f.length cap] J fun e w' => ∃ v, e = .returned v ∧ Evo J w' [] ∧ OwnE w' J.heap.size 96 v (Ax f) := by
 refine AG (n := 38) func87 rfl ntmps87 rfl ?_
 have o : Evo J J [] := Evo.refl _ _
 have a6 := Ak hf
 have ba := hf.bd
 refine Zs (Zn Bs (Zs (Zn Bs (AB (Zs (Zo Ar (Zo (AL rfl η underlying33) (Zn AN (AD ?_)))))))))
 refine AZ (α := Nat) [3, 5, 8, 9, 10, 11, 12, 13, 14, 15, 16, 17, 18, 19, 20, 21, 22, 23, 24, 25, 26, 27, 28, 29, 30, 31, 32, 33, 34, 35, 36] (fun k g w => ∃ I : Value, g 8 = .int .i64 (k : Nat) ∧ g 3 = I ∧ k ≤ f.length ∧ OwnE w J.heap.size 96 I (Ax (f.take k)) ∧ J.heap.size ≤ w.heap.size ∧ Evo J w []) (fun k => f.length - k) 0 ?_ ?_
 refine ⟨_, σ, rfl, δ, (OwnE.nil _ _ _), δ, o⟩
 rintro k g w2 ⟨I, hj3, hj4, hk_k, j, hzl1, o⟩
 have a8 := o.size
 refine Zk 8 hj3 (Zk 3 hj4 ?_)
 have bY := KS (f.take k); have bM := JD f k
 have bL := RC f k
 have bW : (f.take k).length ≤ k := List.length_take_le _ _
 have bF := UG (f.getD k default).text
 have bQ := fun h => PR f k h
 refine Zs (Zn Bu (AB (AE η (fun bb => ?_) (fun bb => ?_))))
 refine AF (AB (AD (Zs (Zo (AV (k) rfl underlying33 Ag η η χ ω ((a6 _ o).addr (i := k) ω)) ?_))))
 have az := fun (w' : World) (h : Evo J w' []) => (a6 w' h).atD (k) ω
 refine Zo (AY rfl CT Ag η rfl (az _ o)) ?_
 have bn := fun g C => (j.block (g := g) C).2
 refine CO (zs := [_, _, _]) (vs := [_, _, _]) Ag η rfl η (fun _ => rfl) η rfl rfl η ?_
 intro b8 w9 J8 E9 B8 Y8
 have Q9 := E9.size
 replace o := Z0 o E9
 replace j := j.evo0 E9
 refine As (Zs (Zo (AJ rfl η Bo) (Zn (AH rfl A0 η (B8.at.cell 0 η)) (AD (Zs (Zo C3 (Zn A6 (AE η (fun aT => ?_) (fun aT => ?_)))))))))
 refine AA (Zo (AP (v := I) rfl η) (Zo (AJ rfl η CI) (Zo (AH rfl BF η (B8.at.cell 1 η)) (Zr [S _] rfl η func135 (Ti ω) ?_))))
 rintro e b0 ⟨bp, rfl, F11, hok11⟩
 refine ⟨_, rfl, ?_⟩
 have bq := F11.size
 replace o := Z0 o F11
 replace j := j.evo0 F11
 obtain ⟨bf, g12, bg, a_, a7, bm⟩ := hok11.rowOf
 subst a_
 refine BS rfl underlying94 BX η j η η a7 rfl (τ) (τ) ω ?_
 intro v13 w14 E14 hov13 hlv13
 have bs := E14.size
 replace o := AI o E14 (fun g C => .inl (by first | exact (j.block C).1 | (have := j.block C; omega)))
 refine Zn (AM (v := v13) rfl η) (AO (AO (AA (Zo A8 (Zn AN (Zg (k + 1) ?_))))))
 refine ⟨_, σ, rfl, δ, (by rw [C5 ω]; first | (rw [B0 κ]; exact hov13) | (rw [De (by first | exact .inl κ | exact .inr (.inl κ) | exact .inr (.inr (.inl κ)) | exact .inr (.inr (.inr κ)))]; exact hov13) | (rw [C7 κ κ κ κ κ, List.append_nil]; exact hov13)), δ, o⟩
 refine AB (Zs (Zo C3 (Zn A6 (AE η (fun R => ?_) (fun R => ?_)))))
 refine AF (EB η R (AA (Zo (AP (v := I) rfl η) (Zo (AJ rfl η Bo) (Zo (AH rfl A0 η (B8.at.cell 0 η)) (Zo (AJ rfl η CI) (Zo (AH rfl BF η (B8.at.cell 1 η)) (Zo (AJ rfl η DU) (Zo (AH rfl A0 η (B8.at.cell 2 η)) ?_)))))))))
 refine Zo (Aj (pv := [(0, .int _ _), (1, S _), (2, .int _ _)]) (zs := [_, _, _]) (cells := [_, _, _]) rfl BX η HZ η η) (Ad (u := .agg _) (y := (f.getD k default : Vc.Item)) rfl rfl underlying94 BX η j (fun _ => η) η ξ (τ) (τ) ω ?_)
 intro q_v16 v16 w17 E17 hov16 hlv16
 have bt := E17.size
 replace o := AI o E17 (fun g C => .inl (by first | exact (j.block C).1 | (have := j.block C; omega)))
 refine Zn (AM (v := v16) rfl η) (AO (AO (AA (Zo A8 (Zn AN (Zg (k + 1) ?_))))))
 refine ⟨_, σ, rfl, δ, (by rw [C5 ω]; first | (rw [B0 κ]; exact hov16) | (rw [De (by first | exact .inl κ | exact .inr (.inl κ) | exact .inr (.inr (.inl κ)) | exact .inr (.inr (.inr κ)))]; exact hov16) | (rw [C7 κ κ κ κ κ, List.append_nil]; exact hov16)), δ, o⟩
 refine Zs (Zo C3 (Zn A6 (AE η (fun U => ?_) (fun U => ?_))))
 refine AF (EB η U (AA (Zo (AP (v := I) rfl η) (Zo (AJ rfl η Bo) (Zo (AH rfl A0 η (B8.at.cell 0 η)) (Zo (AJ rfl η CI) (Zo (AH rfl BF η (B8.at.cell 1 η)) (Zo (AJ rfl η DU) (Zo (AH rfl A0 η (B8.at.cell 2 η)) ?_)))))))))
 refine Zo (Aj (pv := [(0, .int _ _), (1, S _), (2, .int _ _)]) (zs := [_, _, _]) (cells := [_, _, _]) rfl BX η HZ η η) (Ad (u := .agg _) (y := (f.getD k default : Vc.Item)) rfl rfl underlying94 BX η j (fun _ => η) η ξ (τ) (τ) ω ?_)
 intro q_v19 v19 w20 E20 hov19 hlv19
 have bw := E20.size
 replace o := AI o E20 (fun g C => .inl (by first | exact (j.block C).1 | (have := j.block C; omega)))
 refine Zn (AM (v := v19) rfl η) (AO (AO (AA (Zo A8 (Zn AN (Zg (k + 1) ?_))))))
 refine ⟨_, σ, rfl, δ, (by rw [C5 ω]; first | (rw [B0 κ]; exact hov19) | (rw [De (by first | exact .inl κ | exact .inr (.inl κ) | exact .inr (.inr (.inl κ)) | exact .inr (.inr (.inr κ)))]; exact hov19) | (rw [C7 κ κ κ κ κ, List.append_nil]; exact hov19)), δ, o⟩
 refine Zs (Zo C3 (Zn A6 (AE η (fun ag => ?_) (fun ag => ?_))))
 refine AF (EB η ag (AA (Zo (AP (v := I) rfl η) (Zo (AJ rfl η Bo) (Zo (AH rfl A0 η (B8.at.cell 0 η)) (Zo (AJ rfl η CI) (Zo (AH rfl BF η (B8.at.cell 1 η)) (Zo (AJ rfl η DU) (Zo (AH rfl A0 η (B8.at.cell 2 η)) ?_)))))))))
 refine Zo (Aj (pv := [(0, .int _ _), (1, S _), (2, .int _ _)]) (zs := [_, _, _]) (cells := [_, _, _]) rfl BX η HZ η η) (Ad (u := .agg _) (y := (f.getD k default : Vc.Item)) rfl rfl underlying94 BX η j (fun _ => η) η ξ (τ) (τ) ω ?_)
 intro q_v22 v22 w23 E23 hov22 hlv22
 have bx := E23.size
 replace o := AI o E23 (fun g C => .inl (by first | exact (j.block C).1 | (have := j.block C; omega)))
 refine Zn (AM (v := v22) rfl η) (AO (AO (AA (Zo A8 (Zn AN (Zg (k + 1) ?_))))))
 refine ⟨_, σ, rfl, δ, (by rw [C5 ω]; first | (rw [B0 κ]; exact hov22) | (rw [De (by first | exact .inl κ | exact .inr (.inl κ) | exact .inr (.inr (.inl κ)) | exact .inr (.inr (.inr κ)))]; exact hov22) | (rw [C7 κ κ κ κ κ, List.append_nil]; exact hov22)), δ, o⟩
 refine AA (Zo C3 (Zn A6 (AE η (fun a1 => ?_) (fun a1 => ?_))))
 refine AA (Zo (AP (v := I) rfl η) (Zo (AJ rfl η Bo) (Zo (AH rfl A0 η (B8.at.cell 0 η)) (Zo (AJ rfl η CI) (Zo (AH rfl BF η (B8.at.cell 1 η)) (Zo (AJ rfl η DU) (Zo (AH rfl A0 η (B8.at.cell 2 η)) (Zo (Aj (pv := [(0, .int _ _), (1, S _), (2, .int _ _)]) (zs := [_, _, _]) (cells := [_, _, _]) rfl BX η HZ η η) (Ad (u := .agg _) (y := (f.getD k default : Vc.Item)) rfl rfl underlying94 BX η j (fun _ => η) η ξ (τ) (τ) ω ?_)))))))))
 intro q_v25 v25 w26 E26 hov25 hlv25
 have bz := E26.size
 replace o := AI o E26 (fun g C => .inl (by first | exact (j.block C).1 | (have := j.block C; omega)))
 refine Zn (AM (v := v25) rfl η) (AO (AO (AA (Zo A8 (Zn AN (Zg (k + 1) ?_))))))
 refine ⟨_, σ, rfl, δ, (by rw [C5 ω]; first | (rw [B0 κ]; exact hov25) | (rw [De (by first | exact .inl κ | exact .inr (.inl κ) | exact .inr (.inr (.inl κ)) | exact .inr (.inr (.inr κ)))]; exact hov25) | (rw [C7 κ κ κ κ κ, List.append_nil]; exact hov25)), δ, o⟩
 refine AF (AO (AO (AA (Zo A8 (Zn AN (Zg (k + 1) ?_))))))
 refine ⟨_, σ, rfl, δ, (by rw [C5 ω]; first | (rw [B0 κ]; exact j) | (rw [De (by first | exact .inl κ | exact .inr (.inl κ) | exact .inr (.inr (.inl κ)) | exact .inr (.inr (.inr κ)))]; exact j) | (rw [C7 κ κ κ κ κ, List.append_nil]; exact j)), δ, o⟩
 refine AW rfl (Zs (Zo (AP (v := I) rfl η) (Zn (AM (v := I) rfl η) (AK (BN (v := I) rfl η) ?_))))
 exact ⟨_, rfl, o, by rw [List.take_of_length_le ω] at j; exact j⟩
theorem Ud {r : AQ} (h : ¬ r = []) : 0 < r.length := List.length_pos_iff.2 h
theorem Fz {ao : Option Addr} {b off cap : Nat} {f : List Vc.Item} {J : World} (hf : RowE J ao b off cap f) (hz : HD f + f.length ≤ 1000000000) :
    Calls Tryz.prog 59 #[.slice ao f.length cap] J fun e w' => ∃ v, e = .returned v ∧ Evo J w' [] ∧ OwnE w' J.heap.size 96 v (Ax f) := by
 refine AG (n := 50) func59 rfl ntmps59 rfl ?_
 have o : Evo J J [] := Evo.refl _ _
 have a8 := Ak hf
 have bg := hf.bd
 refine Zs (Zn Bs (Zs (Zn Bs (AB (Zs (Zo Ar (Zo (AL rfl η underlying33) (Zn AN (AD ?_)))))))))
 refine AZ (α := Nat) [3, 5, 6, 7, 8, 11, 12, 13, 14, 15, 16, 17, 18, 19, 20, 21, 22, 23, 24, 25, 26, 27, 28, 29, 30, 31, 32, 33, 34, 35, 36, 37, 38, 39, 40, 41, 42, 43, 44, 45, 46, 47, 48] (fun k g w => ∃ U : Value, g 11 = .int .i64 (k : Nat) ∧ g 3 = U ∧ k ≤ f.length ∧ OwnE w J.heap.size 96 U (Ax (f.take k)) ∧ J.heap.size ≤ w.heap.size ∧ Evo J w []) (fun k => f.length - k) 0 ?_ ?_
 refine ⟨_, σ, rfl, δ, (OwnE.nil _ _ _), δ, o⟩
 rintro k g w2 ⟨U, hj3, hj4, hk_k, j, hzl1, o⟩
 have bf := o.size
 refine Zk 11 hj3 (Zk 3 hj4 ?_)
 have b3 := KS (f.take k); have bY := JD f k
 have bW := RC f k
 have b1 : (f.take k).length ≤ k := List.length_take_le _ _
 have bQ := UG (f.getD k default).text
 have b0 := fun h => PR f k h
 refine Zs (Zn Bu (AB (AE η (fun bm => ?_) (fun bm => ?_))))
 refine AF (AB (AD (Zs (Zo (AV (k) rfl underlying33 Ag η η χ ω ((a8 _ o).addr (i := k) ω)) ?_))))
 have ba := fun (w' : World) (h : Evo J w' []) => (a8 w' h).atD (k) ω
 have bl := ba _ o
 refine Zo (AY rfl CT Ag η rfl bl) ?_
 have bs := fun g I => (j.block (g := g) I).2
 refine CO (zs := [_, _, _]) (vs := [_, _, _]) Ag η rfl η (fun _ => rfl) η rfl rfl η ?_
 intro b8 w9 J8 E9 B8 Y8
 have Q9 := E9.size
 replace o := Z0 o E9
 replace hf := a8 _ o
 replace j := j.evo0 E9
 refine As (Zs (Zo (AJ rfl η Bo) (Zn (AH rfl A0 η (B8.at.cell 0 η)) (AD (AB (Zs (Zo C3 (Zn A6 (AE η (fun aT => ?_) (fun aT => ?_))))))))))
 refine AF (EB η aT (AA (Zo (AP (v := U) rfl η) (Zo (AY rfl CT Ag η rfl B8.at) (Ad (u := .agg _) (y := (f.getD k default : Vc.Item)) rfl rfl underlying94 BX η j (fun _ => η) η ξ (τ) (τ) ω ?_)))))
 intro q_v11 v11 w12 E12 hov11 hlv11
 have bw := E12.size
 replace o := AI o E12 (fun g I => .inl (by first | exact (j.block I).1 | (have := j.block I; omega)))
 refine Zn (AM (v := v11) rfl η) (AO (AO (AA (Zo A8 (Zn AN (Zg (k + 1) ?_))))))
 refine ⟨_, σ, rfl, δ, (by rw [C5 ω]; first | (rw [B0 κ]; have R : r = [] := Classical.not_not.1 κ; rw [R, Ev, List.append_nil] at hacc; rw [← hacc]; exact C) | (rw [B0 κ]; exact hov11) | (rw [De (by first | exact .inl κ | exact .inr (.inl κ) | exact .inr (.inr (.inl κ)) | exact .inr (.inr (.inr κ)))]; exact hov11) | (rw [C7 κ κ κ κ κ, List.append_nil]; exact hov11)), δ, o⟩
 refine Zs (Zo C3 (Zn A6 (AE η (fun a1 => ?_) (fun a1 => ?_))))
 refine AF (EB η a1 (AA (Zo (AP (v := U) rfl η) (Zo (AY rfl CT Ag η rfl B8.at) (Ad (u := .agg _) (y := (f.getD k default : Vc.Item)) rfl rfl underlying94 BX η j (fun _ => η) η ξ (τ) (τ) ω ?_)))))
 intro q_v14 v14 w15 E15 hov14 hlv14
 have bx := E15.size
 replace o := AI o E15 (fun g I => .inl (by first | exact (j.block I).1 | (have := j.block I; omega)))
 refine Zn (AM (v := v14) rfl η) (AO (AO (AA (Zo A8 (Zn AN (Zg (k + 1) ?_))))))
 refine ⟨_, σ, rfl, δ, (by rw [C5 ω]; first | (rw [B0 κ]; have R : r = [] := Classical.not_not.1 κ; rw [R, Ev, List.append_nil] at hacc; rw [← hacc]; exact C) | (rw [B0 κ]; exact hov14) | (rw [De (by first | exact .inl κ | exact .inr (.inl κ) | exact .inr (.inr (.inl κ)) | exact .inr (.inr (.inr κ)))]; exact hov14) | (rw [C7 κ κ κ κ κ, List.append_nil]; exact hov14)), δ, o⟩
 refine Zs (Zo C3 (Zn A6 (AE η (fun a6 => ?_) (fun a6 => ?_))))
 refine AF (EB η a6 (AA (Zo (AP (v := U) rfl η) (Zo (AY rfl CT Ag η rfl B8.at) (Ad (u := .agg _) (y := (f.getD k default : Vc.Item)) rfl rfl underlying94 BX η j (fun _ => η) η ξ (τ) (τ) ω ?_)))))
 intro q_v17 v17 w18 E18 hov17 hlv17
 have bz := E18.size
 replace o := AI o E18 (fun g I => .inl (by first | exact (j.block I).1 | (have := j.block I; omega)))
 refine Zn (AM (v := v17) rfl η) (AO (AO (AA (Zo A8 (Zn AN (Zg (k + 1) ?_))))))
 refine ⟨_, σ, rfl, δ, (by rw [C5 ω]; first | (rw [B0 κ]; have R : r = [] := Classical.not_not.1 κ; rw [R, Ev, List.append_nil] at hacc; rw [← hacc]; exact C) | (rw [B0 κ]; exact hov17) | (rw [De (by first | exact .inl κ | exact .inr (.inl κ) | exact .inr (.inr (.inl κ)) | exact .inr (.inr (.inr κ)))]; exact hov17) | (rw [C7 κ κ κ κ κ, List.append_nil]; exact hov17)), δ, o⟩
 refine AA (Zo C3 (Zn A6 (AE η (fun bb => ?_) (fun bb => ?_))))
 refine AA (Zo (AP (v := U) rfl η) (Zo (AY rfl CT Ag η rfl B8.at) (Ad (u := .agg _) (y := (f.getD k default : Vc.Item)) rfl rfl underlying94 BX η j (fun _ => η) η ξ (τ) (τ) ω ?_)))
 intro q_v20 v20 w21 E21 hov20 hlv20
 have bF := E21.size
 replace o := AI o E21 (fun g I => .inl (by first | exact (j.block I).1 | (have := j.block I; omega)))
 refine Zn (AM (v := v20) rfl η) (AO (AO (AA (Zo A8 (Zn AN (Zg (k + 1) ?_))))))
 refine ⟨_, σ, rfl, δ, (by rw [C5 ω]; first | (rw [B0 κ]; have R : r = [] := Classical.not_not.1 κ; rw [R, Ev, List.append_nil] at hacc; rw [← hacc]; exact C) | (rw [B0 κ]; exact hov20) | (rw [De (by first | exact .inl κ | exact .inr (.inl κ) | exact .inr (.inr (.inl κ)) | exact .inr (.inr (.inr κ)))]; exact hov20) | (rw [C7 κ κ κ κ κ, List.append_nil]; exact hov20)), δ, o⟩
 refine Zs (Zo C3 (Zn A6 (AE η (fun bc => ?_) (fun bc => ?_))))
 refine Zs (Zo (AJ rfl η CI) (Zo (AH rfl BF η (B8.at.cell 1 η)) (Zn CD (AD (AZ (α := AQ) [3, 6, 7, 8, 30, 31, 32, 33, 34, 35, 36, 37, 38, 39, 40, 41, 42, 43, 44, 45, 46, 47] (fun r g w => ∃ az : Value, ∃ l : List Vc.Item, g 6 = S r ∧ g 3 = az ∧ OwnE w J.heap.size 96 az l ∧ l ++ IE r = Ax (f.take k) ++ IE (f.getD k default).text ∧ r.length ≤ (f.getD k default).text.length ∧ w9.heap.size ≤ w.heap.size ∧ Evo J w []) (fun r => r.length) (f.getD k default).text ?_ ?_)))))
 refine ⟨_, _, rfl, rfl, j, rfl, (Nat.le_refl _), δ, o⟩
 rintro r g b5 ⟨az, l, hj25, hj26, C, hacc, hrl, hzl23, o⟩
 have a_ := o.size
 refine Zk 6 hj25 (Zk 3 hj26 ?_)
 have bp := congrArg List.length hacc
 rw [List.length_append, List.length_append] at bp
 refine AB (Zs (Zo Au (Zn (CR rfl η η) (AE η (fun a7 => ?_) (fun a7 => ?_)))))
 refine AF (AD (AB ?_))
 have ag : ¬ r = [] := a7; have bt := TD ag; have b4 := Ib r; have b2 := Ud ag
 refine AA (Zo Au (Zr [S _] rfl η func102 (SM ω ω) ?_))
 rintro e b6 ⟨rfl, F28⟩
 refine ⟨_, rfl, ?_⟩
 have bL := F28.size
 replace o := Z0 o F28
 replace C := C.evo0 F28
 refine Zo S4 (Zo (AX (v := .int _ _) rfl η η) (Zo (AX (v := .int _ _) rfl η η) (Zo Ah (Zn Ah (Zs (Zo (AP (v := az) rfl η) (Zo AN (Zo Au (Zo AN ?_)))))))))
 refine Zo (by exact BP (0) ((A4 r).2) rfl underlying9 η LU (at1 η ω) τ τ) (Zo (Aj (pv := [(0, .int _ _), (1, S _)]) (zs := [_, _, _]) (cells := [_, _, _]) rfl BX η HZ η η) (Ad (u := .agg _) (y := (⟨(A4 r).1, r.take (A4 r).2, 0⟩ : Vc.Item)) rfl rfl underlying94 BX η C (fun _ => η) η ξ (τ) (τ) ω ?_))
 intro q_v29 v29 w30 E30 hov29 hlv29
 have bM := E30.size
 replace o := AI o E30 (fun g I => .inl (by first | exact (C.block I).1 | (have := C.block I; omega)))
 refine Zn (AM (v := v29) rfl η) (AA (Zo Au (Zo AN (Zo (by exact BP ((A4 r).2) (_) rfl underlying9 η (at1 η ω) TS τ τ) (Zn CD (AO (DC (r.drop (A4 r).2) ?_ ?_ ?_)))))))
 rw [List.length_drop]; have := Ud ag; omega
 refine ⟨_, _, (congrArg S (List.take_of_length_le (by rw [List.length_drop]; exact Nat.le_refl _))), rfl, hov29, (En (p := ((A4 r).1, (A4 r).2)) rfl hacc ag), (by rw [List.length_drop]; omega), δ, o⟩
 exact ψ
 refine AW rfl (AO (AO (AA (Zo A8 (Zn AN (Zg (k + 1) ?_))))))
 refine ⟨_, σ, rfl, δ, (by rw [C5 ω]; first | (rw [B0 κ]; have R : r = [] := Classical.not_not.1 κ; rw [R, Ev, List.append_nil] at hacc; rw [← hacc]; exact C) | (rw [B0 κ]; exact C) | (rw [De (by first | exact .inl κ | exact .inr (.inl κ) | exact .inr (.inr (.inl κ)) | exact .inr (.inr (.inr κ)))]; exact C) | (rw [C7 κ κ κ κ κ, List.append_nil]; exact C)), δ, o⟩
 refine AF (AO (AO (AA (Zo A8 (Zn AN (Zg (k + 1) ?_))))))
 refine ⟨_, σ, rfl, δ, (by rw [C5 ω]; first | (rw [B0 κ]; have R : r = [] := Classical.not_not.1 κ; rw [R, Ev, List.append_nil] at hacc; rw [← hacc]; exact C) | (rw [B0 κ]; exact j) | (rw [De (by first | exact .inl κ | exact .inr (.inl κ) | exact .inr (.inr (.inl κ)) | exact .inr (.inr (.inr κ)))]; exact j) | (rw [C7 κ κ κ κ κ, List.append_nil]; exact j)), δ, o⟩
 refine AW rfl (Zs (Zo (AP (v := U) rfl η) (Zn (AM (v := U) rfl η) (AK (BN (v := U) rfl η) ?_))))
 exact ⟨_, rfl, o, by rw [List.take_of_length_le ω] at j; exact j⟩
theorem SI {x : Vc.Item} {o : World}  :
    Calls Tryz.prog 90 #[.agg (Enc.enc x).toArray] o fun e w' => e = .returned (.bool (DE x)) ∧ Evo o w' [] := by
 refine AG (n := 16) func90 rfl ntmps90 rfl ?_
 have C : Evo o o [] := Evo.refl _ _
 refine Zs (Ch (vs := [_, _, _]) η η rfl ?_)
 intro b1 w2 J1 E2 B1 Y1
 have I := E2.size
 replace C := Z0 C E2
 refine Zn A6 (Zs (Zo (AJ rfl η Bo) (Zo (AH rfl A0 η (B1.at.cell 0 η)) (Zo C3 (Zo Br ?_)))))
 refine Ab rfl Ay rfl (fun j => AJ rfl η Bo) ?_
 refine Ab rfl Ay rfl (fun j => AH rfl A0 (Af j) (B1.at.cell 0 η)) ?_
 refine Ab rfl Ay rfl (fun j => A1 rfl (Af j) η) ?_
 refine Zo Ee (Zo Br ?_)
 refine Ab rfl Ay rfl (fun j => AJ rfl η Bo) ?_
 refine Ab rfl Ay rfl (fun j => AH rfl A0 (Af j) (B1.at.cell 0 η)) ?_
 refine Ab rfl Ay rfl (fun j => A1 rfl (Af j) η) ?_
 refine Zo Ee (Zn A6 (AK Dk ?_))
 exact ⟨Ao (by rw [Bool.eq_iff_iff, decide_eq_true_iff, HS]), C⟩
theorem RY {x : Vc.Item} {o : World}  :
    Calls Tryz.prog 166 #[.agg (Enc.enc x).toArray] o fun e w' => e = .returned (.bool (DE x)) ∧ Evo o w' [] := by
 refine AG (n := 16) func166 rfl ntmps166 rfl ?_
 have C : Evo o o [] := Evo.refl _ _
 refine Zs (Ch (vs := [_, _, _]) η η rfl ?_)
 intro b1 w2 J1 E2 B1 Y1
 have I := E2.size
 replace C := Z0 C E2
 refine Zn A6 (Zs (Zo (AJ rfl η Bo) (Zo (AH rfl A0 η (B1.at.cell 0 η)) (Zo C3 (Zo Br ?_)))))
 refine Ab rfl Ay rfl (fun j => AJ rfl η Bo) ?_
 refine Ab rfl Ay rfl (fun j => AH rfl A0 (Af j) (B1.at.cell 0 η)) ?_
 refine Ab rfl Ay rfl (fun j => A1 rfl (Af j) η) ?_
 refine Zo Ee (Zo Br ?_)
 refine Ab rfl Ay rfl (fun j => AJ rfl η Bo) ?_
 refine Ab rfl Ay rfl (fun j => AH rfl A0 (Af j) (B1.at.cell 0 η)) ?_
 refine Ab rfl Ay rfl (fun j => A1 rfl (Af j) η) ?_
 refine Zo Ee (Zn A6 (AK Dk ?_))
 exact ⟨Ao (by rw [Bool.eq_iff_iff, decide_eq_true_iff, HS]), C⟩
theorem Ur : ∀ (w : World) (x y : Vc.Item), (Op.equalIn 10000 32 (.agg (Enc.enc x).toArray) (.agg (Enc.enc y).toArray)).run Tryz.prog w = .ok (decide (x = y)) w := fun w x y => K4 9998 underlying32 Tryz.stoodInHeld32 υ υ υ rfl rfl rfl underlying3 underlying9 underlying3 A0 BF A0 x y
theorem It {α : Type} [Inhabited α] {a b : List α} {k : Nat} (C : a.take k = b.take k) (j : k < a.length) (o : k < b.length) (h : a.getD k default = b.getD k default) : a.take (k + 1) = b.take (k + 1) := by
  rw [Ai a k j, Ai b k o, C, h]
theorem Te {U ag : Option Addr} {ba a7 J bb a8 R : Nat} {a b : List Vc.Item} {I : World} (ha : RowE I U ba a7 J a) (hb : RowE I ag bb a8 R b) :
    Calls Tryz.prog 27 #[.slice U a.length J, .slice ag b.length R] I fun e w' => e = .returned (.bool (decide (a = b))) ∧ Evo I w' [] := by
 refine AG (n := 26) func27 rfl ntmps27 rfl ?_
 have j : Evo I I [] := Evo.refl _ _
 have aT := Ak ha
 have a_ := ha.bd
 have a1 := Ak hb
 have bc := hb.bd
 refine Zs (Zn A6 (AB (Zs (Zo Ar (Zo (AL rfl η underlying33) (Zo Ar (Zo (AL rfl η underlying33) (Zn (BD rfl η η) (AE η (fun bf => ?_) (fun bf => ?_))))))))))
 refine Zs (Zn A6 (AK Dk ?_))
 exact ⟨by rw [decide_eq_false (fun h => by subst h; omega)], j⟩
 refine AF (AB (Zs (Zo Ar (Zo (AL rfl η underlying33) (Zn AN (AD (AZ (α := Nat) [4, 5, 13, 14, 15, 16, 17, 18, 19, 20, 21, 22, 23, 24, 25] (fun k g w => g 13 = .int .i64 (k : Nat) ∧ k ≤ a.length ∧ a.take k = b.take k ∧ I.heap.size ≤ w.heap.size ∧ Evo I w []) (fun k => a.length - k) 0 ?_ ?_)))))))
 refine ⟨σ, δ, (by simp), δ, j⟩
 rintro k g w3 ⟨bl, hk_k, hpre, hzl2, j⟩
 have a6 := j.size
 refine Zk 13 bl (Zs (Zn Bu (AB (AE η (fun bg => ?_) (fun bg => ?_)))))
 refine AF (AB (AD (Zs (Zo AN (Zn Ah (AB (Ba ζ ζ (Zq (fun w' C => Ar) (Zq (fun w' C => AN) ?_)))))))))
 refine Zq (fun w' C => AV (k) rfl underlying33 Ag η η χ ω ((aT _ j).addr (i := k) ω)) ?_
 have ao := fun (w' : World) (h : Evo I w' []) => (aT w' h).atD (k) ω
 refine Zq (fun w' C => AY rfl CT Ag η rfl ((ao _ j).evo0 C)) (Zq (fun w' C => Ar) (Zq (fun w' C => AN) (Zq (fun w' C => AV (k) rfl underlying33 Ag η η χ ω ((a1 _ j).addr (i := k) ω)) ?_)))
 have az := fun (w' : World) (h : Evo I w' []) => (a1 w' h).atD (k) ω
 refine Zq (fun w' C => AY rfl CT Ag η rfl ((az _ j).evo0 C)) (Zq (fun w' C => OY _ _ rfl Tryz.eqGuardType32 Ur η η) (EE (fun w8 F9 => ?_)))
 have Q8 := F9.size
 replace j := Z0 j F9
 refine AE η (fun o => ?_) (fun o => ?_)
 refine Zs (Zn A6 (AK Dk ?_))
 exact ⟨by rw [decide_eq_false (fun h => by subst h; exact o rfl)], j⟩
 refine AF (AO (AA (Zo A8 (Zn AN (Zg (k + 1) ?_)))))
 refine ⟨σ, δ, (It hpre ω ω (Classical.not_not.1 o)), δ, j⟩
 refine AW rfl (Zs (Zn A6 (AK Dk ?_)))
 exact ⟨by rw [decide_eq_true (by rw [List.take_of_length_le ω, List.take_of_length_le ω] at hpre; exact hpre)], j⟩
def KF : List Vc.Item := [⟨2, [98], 1⟩, ⟨1, [97, 98], 0⟩, ⟨3, [98], 1⟩]
theorem Gr : D3 Tryz.prog 32 = some [(0, 1), (1, 1), (2, 1)] := ζ
theorem MS {ao : Option Addr} {b off cap : Nat} {f : List Vc.Item} {I : World} (hf : RowE I ao b off cap f) (a7 : Fh f) :
    Calls Tryz.prog 66 #[.slice ao f.length cap] I fun e w' => e = .returned (S (A9 f)) ∧ Evo I w' [] := by
 have bz := a7.1; have bF := a7.2
 refine AG (n := 28) func66 rfl ntmps66 rfl ?_
 have o : Evo I I [] := Evo.refl _ _
 have az := Ak hf
 have a_ := hf.bd
 refine Zs (Zn CD (Zs (Zn Bs (AB (Zs (Zo Ar (Zo (AL rfl η underlying33) (Zn AN (AD ?_)))))))))
 refine AZ (α := Nat) [3, 5, 8, 9, 10, 11, 12, 13, 14, 15, 16, 17, 18, 19, 20, 21, 22, 23, 24, 25] (fun k g w => ∃ J : Value, g 8 = .int .i64 (k : Nat) ∧ g 3 = J ∧ k ≤ f.length ∧ OwnE w I.heap.size 5 J (A9 (f.take k)) ∧ I.heap.size ≤ w.heap.size ∧ Evo I w []) (fun k => f.length - k) 0 ?_ ?_
 refine ⟨_, σ, rfl, δ, (OwnE.nil _ _ _), δ, o⟩
 rintro k g w2 ⟨J, hj3, hj4, hk_k, j, hzl1, o⟩
 have a6 := o.size
 refine Zk 8 hj3 (Zk 3 hj4 (Zs (Zn Bu (AB (AE η (fun ba => ?_) (fun ba => ?_))))))
 refine AF (AB (AD (AB ?_)))
 have aT := fun g C => (j.block (g := g) C).2
 refine AA (Zo (AV (k) rfl underlying33 Ag η η χ ω ((az _ o).addr (i := k) ω)) ?_)
 have R := fun (w' : World) (h : Evo I w' []) => (az w' h).atD (k) ω
 refine Zo (AY rfl CT Ag η rfl (R _ o)) ?_
 have bn := fun g C => (j.block (g := g) C).2
 refine CO (zs := [_, _, _]) (vs := [_, _, _]) Ag η rfl η (fun _ => rfl) η rfl rfl η ?_
 intro b8 w9 J8 E9 B8 Y8
 have Q9 := E9.size
 replace o := Z0 o E9
 replace j := j.evo0 E9
 refine As (AB ?_)
 have bm : ∀ g, J.ownBlock = some g → g ≠ b8 := fun g C h => by have := aT g C; omega
 have bs := Jd (f.take k); have bt := Hl f k; have bw := Iv f k; have bx : (f.take k).length ≤ k := List.length_take_le _ _
 refine AA (Zo (AJ rfl η Bo) (Zn (AH rfl A0 η (B8.at.cell 0 η)) (AD (Zs (Zo C3 (Zn A6 (AE η (fun U => ?_) (fun U => ?_))))))))
 refine AA (Zo (AP (v := J) rfl η) (Zo (AJ rfl η CI) (Zo (AH rfl BF η (B8.at.cell 1 η)) (Wn rfl underlying123 underlying9 LR rfl j η η τ ω ?_))))
 intro v11 w12 E12 hov11
 have bp := E12.size
 replace o := AI o E12 (fun g C => .inl (by first | exact (j.block C).1 | (have := j.block C; omega)))
 refine Zn (AM (v := v11) rfl η) (AO (AO (AA (Zo A8 (Zn AN (Zg (k + 1) ?_))))))
 refine ⟨_, σ, rfl, δ, (by first | (rw [BL f k ω, DQ κ]; exact hov11) | (rw [BL f k ω, DR κ]; exact hov11) | (rw [BL f k ω, DD κ κ, List.append_nil]; exact hov11)), δ, o⟩
 refine Zs (Zo C3 (Zn A6 (AE η (fun ag => ?_) (fun ag => ?_))))
 refine AA (Zo (AP (v := J) rfl η) (Ad (u := .int _ _) (y := (255 : UInt8)) rfl rfl underlying123 LR η j (fun _ => η) η ξ₁ (τ) (τ) ω ?_))
 intro q_v14 v14 w15 E15 hov14 hlv14
 have bq := E15.size
 replace o := AI o E15 (fun g C => .inl (by first | exact (j.block C).1 | (have := j.block C; omega)))
 refine Zn (AM (v := v14) rfl η) (AO (AO (AA (Zo A8 (Zn AN (Zg (k + 1) ?_))))))
 refine ⟨_, σ, rfl, δ, (by first | (rw [BL f k ω, DQ κ]; exact hov14) | (rw [BL f k ω, DR κ]; exact hov14) | (rw [BL f k ω, DD κ κ, List.append_nil]; exact hov14)), δ, o⟩
 refine AF (AO (AO (AA (Zo A8 (Zn AN (Zg (k + 1) ?_))))))
 refine ⟨_, σ, rfl, δ, (by first | (rw [BL f k ω, DQ κ]; exact j) | (rw [BL f k ω, DR κ]; exact j) | (rw [BL f k ω, DD κ κ, List.append_nil]; exact j)), δ, o⟩
 refine AW rfl (AB ?_)
 obtain ⟨bc, g16, bf, a8, a1, bl⟩ := j.rowOf
 subst a8
 refine AA (Zo Ar (Zo (HX rfl underlying123 underlying5 underlying9 η (by first | rfl | simp) a1) (Zn CD (AK (BN (v := S _) rfl η) ?_))))
 exact ⟨by rw [List.take_of_length_le ω], o⟩
theorem Rk {f : List Vc.Item} (h : ∀ x ∈ f, x.text.length ≤ reachBytes) (k : Nat) : (f.getD k default).text.length ≤ 140737488355328 := by
  rcases Nat.lt_or_ge k f.length with h1 | h1
  · have e : f.getD k default = f[k] := by simp [List.getD, h1]
    rw [e]
    have := h _ (List.getElem_mem h1)
    have j := reachBytes_lt
    omega
  · have e : f.getD k default = default := by simp [List.getD, List.getElem?_eq_none h1]
    rw [e]; exact Nat.zero_le _
theorem LP {ao : Option Addr} {b off cap : Nat} {f : List Vc.Item} {w0 : World} (hf : RowE w0 ao b off cap f) (bl : Fh f) :
    Calls Tryz.prog 126 #[.slice ao f.length cap] w0 fun e w' => ∃ v, e = .returned v ∧ Evo w0 w' [] ∧ OwnE w' w0.heap.size 32 v (CE f) := by
 have b7 := bl.1; have b9 := bl.2
 refine AG (n := 61) func126 rfl ntmps126 rfl ?_
 have J : Evo w0 w0 [] := Evo.refl _ _
 have bc := Ak hf
 have bq := hf.bd
 refine Zs (Zn Bs (Zs (Zn Bs (AB (Zs (Zo Ar (Zo (AL rfl η underlying33) (Zn AN (AD ?_)))))))))
 refine AZ (α := Nat) [3, 4, 5, 6, 9, 10, 11, 12, 13, 14, 15, 16, 17, 18, 19, 20, 21, 22, 23, 24, 25, 26, 27, 28, 29, 30, 31, 32, 33, 34, 35, 36, 37, 38, 39, 40, 41, 42, 43, 44, 45, 46, 47, 48, 49, 50, 51, 52, 53, 54, 55, 56, 57, 58, 59] (fun k g w => ∃ vo : Value, g 9 = .int .i64 (k : Nat) ∧ g 3 = vo ∧ k ≤ f.length ∧ OwnE w w0.heap.size 32 vo (CE (f.take k)) ∧ w0.heap.size ≤ w.heap.size ∧ Evo w0 w []) (fun k => f.length - k) 0 ?_ ?_
 refine ⟨_, σ, rfl, δ, (OwnE.nil _ _ _), δ, J⟩
 rintro k g w2 ⟨vo, hj3, hj4, hk_k, j, hzl1, J⟩
 have bg := J.size
 refine Zk 9 hj3 (Zk 3 hj4 (Zs (Zn Bu (AB (AE η (fun bs => ?_) (fun bs => ?_))))))
 refine AF (AB (AD (Zs (Zo AN (Zn Ah (AB ?_))))))
 have bf := fun g I => (j.block (g := g) I).2
 refine AA (Zo Ar (Zo AN (Zo (AV (k) rfl underlying33 Ag η η χ ω ((bc _ J).addr (i := k) ω)) ?_)))
 have a8 := fun (w' : World) (h : Evo w0 w' []) => (bc w' h).atD (k) ω
 refine Zo (AY rfl CT Ag η rfl (a8 _ J)) ?_
 have a6 := fun g I => (j.block (g := g) I).2
 refine CO (zs := [_, _, _]) (vs := [_, _, _]) Ag η rfl η (fun _ => rfl) η rfl rfl η ?_
 intro b8 w9 J8 E9 B8 Y8
 have Q9 := E9.size
 replace J := Z0 J E9
 replace j := j.evo0 E9
 have C := B8.at
 refine As (AB (AB ?_))
 have bW : ∀ g, vo.ownBlock = some g → g ≠ b8 := fun g I h => by have := bf g I; omega
 have b3 := I4 (f.take k); have b4 : (f.take k).length ≤ k := List.length_take_le _ _; have b5 := Hl f k; have b6 := Iv f k; have b_ := Iv (CE (f.take k)) ((CE (f.take k)).length - 1); have ca := H2 (f.take k)
 refine AA (Zo (AJ rfl η Bo) (Zo (AH rfl A0 η (C.cell 0 η)) (Zn (BD rfl η η) (AE η (fun a_ => ?_) (fun a_ => ?_)))))
 refine Zs (Zo (AP (v := vo) rfl η) (Zo (AY rfl CT Ag η rfl C) (Ad (u := .agg _) (y := ⟨_, _, _⟩) rfl rfl underlying33 Ag η j (fun _ => η) η ξ (τ) (τ) ω ?_)))
 intro q_v11 v11 w12 E12 hov11 hlv11
 have bY := E12.size
 replace J := AI J E12 (fun g I => .inl (by first | exact (j.block I).1 | (have := j.block I; omega)))
 replace B8 := B8.evo E12 (by intro hm; have a7 := Option.mem_toList.1 hm; have := a6 _ a7; omega)
 replace C := C.evo E12 (by intro hm; have a7 := Option.mem_toList.1 hm; have := a6 _ a7; omega)
 refine Zn (AM (v := v11) rfl η) (AW rfl (AA (Zo A8 (Zn AN (Zg (k + 1) ?_)))))
 refine ⟨_, σ, rfl, δ, (by first | (rw [Bw f k ω, Ck κ]; exact hov11) | (rw [Bw f k ω, FL ω κ]; exact hov11) | (rw [Bw f k ω, Hd ω κ κ]; exact hov11) | (rw [Bw f k ω, Gh ω κ κ]; exact hov11)), δ, J⟩
 refine AF (AB (Zs (Zo (AJ rfl η CI) (Zo (AH rfl BF η (C.cell 1 η)) (Zn (Cn rfl η η) (AE η (fun ba => ?_) (fun ba => ?_)))))))
 refine AW rfl (AA (Zo A8 (Zn AN (Zg (k + 1) ?_))))
 refine ⟨_, σ, rfl, δ, (by first | (rw [Bw f k ω, Ck κ]; exact j) | (rw [Bw f k ω, FL ω κ]; exact j) | (rw [Bw f k ω, Hd ω κ κ]; exact j) | (rw [Bw f k ω, Gh ω κ κ]; exact j)), δ, J⟩
 refine AF (Zs (Zo (AP (v := vo) rfl η) (Zo (Bn rfl η underlying33 j) (Zn Ah (AB ?_)))))
 obtain ⟨bw, g14, bx, bm, o, bQ⟩ := j.rowOf
 subst bm
 refine AA (Zo AN (Zo IG (Zo Br ?_)))
 refine Ab rfl Aq rfl (fun I => Ar) ?_
 refine Ab rfl Aq rfl (fun I => AN) ?_
 refine Ab rfl Aq rfl (fun I => DZ rfl (Af I) η ω ω) ?_
 refine Ab rfl Aq rfl (fun I => AV (((CE (f.take k)).length - 1)) rfl underlying33 Ag (Af I) (Af I) ω ω (o.addr (i := ((CE (f.take k)).length - 1)) ω)) ?_
 refine Ab rfl Aq rfl (fun I => AJ rfl (Af I) Bo) ?_
 refine Ab rfl Aq rfl (fun I => AH rfl A0 (Af I) ((o.atD (((CE (f.take k)).length - 1)) ω).cell 0 η)) ?_
 refine Ab rfl Aq rfl (fun I => A1 rfl (Af I) η) ?_
 refine Zn Fm (AE η (fun bb => ?_) (fun bb => ?_))
 have bp := B8
 have aT := C
 have U := o
 have bL := J
 refine CJ ([]) ζ ?_
 intro w16 F17 hC18
 have b0 := F17.size
 replace J := Z0 J F17
 replace j := j.evo0 F17
 replace B8 := B8.evo0 F17
 replace C := C.evo0 F17
 replace o := o.evo0 F17
 refine Zt (i := 0) η (fun w' R => Ar) hC18 (Zt (i := 1) η (fun w' R => AN) hC18 (Zt (i := 2) η (fun w' R => DZ rfl η η ω ω) hC18 (Zt (i := 3) η (fun w' R => Ar) hC18 (Zt (i := 4) η (fun w' R => AN) hC18 (Zt (i := 5) η (fun w' R => DZ rfl η η ω ω) hC18 (Zt (i := 6) η (fun w' R => AV (((CE (f.take k)).length - 1)) rfl underlying33 Ag η η ω ω (o.addr (i := ((CE (f.take k)).length - 1)) ω)) hC18 ?_))))))
 have bz := o.atD (((CE (f.take k)).length - 1)) ω
 have az := U.atD (((CE (f.take k)).length - 1)) ω
 refine Zt (i := 7) η (fun w' R => AJ rfl η CI) hC18 (Zt (i := 8) η (fun w' R => AH rfl BF η ((az.evo0 R).cell 1 η)) hC18 (Zt (i := 9) η (fun w' R => AJ rfl η CI) hC18 (Zt (i := 10) η (fun w' R => AH rfl BF η ((aT.evo0 R).cell 1 η)) hC18 (Zt (i := 11) η (fun w' R => A7 rfl η η ω) hC18 (Zt (i := 12) η (fun w' R => Aj (pv := [(0, .int _ _), (1, S _)]) (zs := [_, _, _]) (cells := [_, _, _]) rfl Ag η Gr η η) hC18 (Zt (i := 13) η (fun w' R => AV (((CE (f.take k)).length - 1)) rfl underlying33 Ag η η ω ω (o.addr (i := ((CE (f.take k)).length - 1)) ω)) hC18 ?_))))))
 have bF := o.atD (((CE (f.take k)).length - 1)) ω
 have bn := U.atD (((CE (f.take k)).length - 1)) ω
 refine Zh (i := 14) ?_
 refine YH (u := .agg _) (vs := [_, _, _]) (((CE (f.take k)).length - 1)) 0 ⟨_, _, _⟩ η rfl (by first | rfl | omega) η j o ω Ag η rfl η rfl (by show [_, _, _] = [_, _, _]; first | (dsimp only; done) | exact rfl | (dsimp only; exact rfl)) ?_
 intro w21 E21 V21 ho_new
 have b1 := E21.size
 replace J := AI J E21 (fun g I => .inl (by first | exact (j.block I).1 | (have := j.block I; omega)))
 replace j := ho_new
 clear ho_new
 refine CV ζ ?_
 refine CH ζ ?_
 refine AO (AA (Zo A8 (Zn AN (Zg (k + 1) ?_))))
 refine ⟨_, σ, rfl, δ, (by first | (rw [Bw f k ω, Ck κ]; exact j) | (rw [Bw f k ω, FL ω κ]; exact j) | (rw [Bw f k ω, Hd ω κ κ]; exact j) | (rw [Bw f k ω, Gh ω κ κ]; exact j)), δ, J⟩
 refine AA (Zo Ar (Zo (AJ rfl η CI) (Zo (AH rfl BF η (C.cell 1 η)) (Zo (Aj (pv := [(0, .int _ _), (1, S _)]) (zs := [_, _, _]) (cells := [_, _, _]) rfl Ag η Gr η η) (Ad (u := .agg _) (y := ⟨_, _, _⟩) rfl rfl underlying33 Ag η j (fun _ => η) η ξ (τ) (τ) ω ?_)))))
 intro q_v22 v22 w23 E23 hov22 hlv22
 have b2 := E23.size
 replace J := AI J E23 (fun g I => .inl (by first | exact (j.block I).1 | (have := j.block I; omega)))
 refine Zn (AM (v := v22) rfl η) (AO (AA (Zo A8 (Zn AN (Zg (k + 1) ?_)))))
 refine ⟨_, σ, rfl, δ, (by first | (rw [Bw f k ω, Ck κ]; exact hov22) | (rw [Bw f k ω, FL ω κ]; exact hov22) | (rw [Bw f k ω, Hd ω κ κ]; exact hov22) | (rw [Bw f k ω, Gh ω κ κ]; exact hov22)), δ, J⟩
 refine AW rfl (Zs (Zo (AP (v := vo) rfl η) (Zn (AM (v := vo) rfl η) (AK (BN (v := vo) rfl η) ?_))))
 exact ⟨_, rfl, J, by rw [List.take_of_length_le ω] at j; exact j⟩
theorem Kt (x n : Int) {j : World} (J : 1 ≤ n) (C : n ≤ 1000000000) :
    Calls Tryz.prog 11 #[.int .i64 x, .int .i64 n] j fun e w' => e = .returned (.int .i64 (x % n)) ∧ j = w' := by
 refine AG (n := 14) func11 rfl ntmps11 rfl ?_
 have I : Evo j j [] := Evo.refl _ _
 refine Zs (Zn Ah (Zs (Zo AN (Zo AN (Zo (LJ rfl η η ω) (Zn Ah (AB (Zs (Zo AN ?_)))))))))
 refine Zn Bu (AE η (fun o => ?_) (fun o => ?_))
 refine AA (Zo AN (Zo AN (Zo (Cp rfl η η (by have := GA x n ω; omega) (by have := GA x n ω; omega)) (Zn Ah (Zs (Zo AN (Zn Ah (AK CZ ?_))))))))
 exact ⟨AU (by rw [← Pb x n ω ω]), rfl⟩
 refine AF (Zs (Zo AN (Zn Ah (AK CZ ?_))))
 exact ⟨AU (by rw [← PO x n ω ω]), rfl⟩
theorem Sn {T R : Nat} {ao : Option Addr} {b off cap : Nat} {l : List Int} {N : Nat} {n : Int} {J : World} (C : Blk J R T [.slice ao l.length cap, .int .i64 (N : Nat)]) (U : RowE J ao b off cap l) (hN : N ≤ 1000000) (hn : 1 ≤ n) (a6 : n ≤ 1000000000) :
    Calls Tryz.prog 38 #[.pointer (some ⟨R, 0, none⟩), .int .i64 n] J fun e w' => e = .returned (.int .i64 (L5 l N n)) ∧ Evo J w' [R] ∧ Blk w' R T [.slice ao l.length cap, .int .i64 (N + 1 : Nat)] := by
 have o := C.at
 refine AG (n := 36) func38 rfl ntmps38 rfl ?_
 have I : Evo J J [R] := Evo.refl _ _
 have ag := U.bd
 refine Zs (Zn Ah (Zs (Zn Ah (AB (AB (Ba ζ ζ (Zq (fun w' j => Ey) (Zq (fun w' j => EH rfl η) (Zq (fun w' j => AJ rfl η Eb) ?_)))))))))
 refine Zq (fun w' j => AH rfl A0 η ((o.evo0 j).cell 1 η)) (Zq (fun w' j => Ey) (Zq (fun w' j => EH rfl η) (Zq (fun w' j => AJ rfl η M6) (Zq (fun w' j => AH rfl S9 η ((o.evo0 j).cell 0 η)) (Zq (fun w' j => AL rfl η underlying22) (Zq (fun w' j => Cx rfl η η) (EE (fun w1 F2 => ?_))))))))
 have Q1 := F2.size
 replace I := Z0 I F2
 replace C := C.evo0 F2
 replace o := o.evo0 F2
 replace U := U.evo0 F2
 refine AE η (fun a1 => ?_) (fun a1 => ?_)
 refine Ba ζ ζ (Zq (fun w' j => Ey) (Zq (fun w' j => EH rfl η) (Zq (fun w' j => AJ rfl η M6) (Zq (fun w' j => AH rfl S9 η ((o.evo0 j).cell 0 η)) (Zq (fun w' j => Ey) (Zq (fun w' j => EH rfl η) (Zq (fun w' j => AJ rfl η Eb) (Zq (fun w' j => AH rfl A0 η ((o.evo0 j).cell 1 η)) (Zq (fun w' j => AV (N) rfl underlying22 Cf η η χ ω (U.addr (i := N) ω)) ?_)))))))))
 have aT := U.atD (N) ω
 refine Zq (fun w' j => AH rfl A0 η ((aT.evo0 j).cell 0 η)) (Zq (fun w' j => Ah) (EE (fun w5 F6 => ?_)))
 have Q5 := F6.size
 replace I := Z0 I F6
 replace C := C.evo0 F6
 replace o := o.evo0 F6
 refine Zs (Zo Ey (Zo (EH rfl η) (Zo (AJ rfl η Eb) (Zo (AH rfl A0 η (o.cell 1 η)) (Zo A8 (Zo (EH rfl η) (Zo (AJ rfl η Eb) (BB (v := .int _ _) (vs := [_]) (cs' := [_, _]) η η C Cf η rfl η rfl η ?_))))))))
 intro w7 E7 V7 hb_new
 have Q7 := E7.size
 replace I := Z1 I E7 (.inr (by simp))
 replace C := hb_new
 clear hb_new
 refine As (Zs (Zo AN (Zo AN (Zr [.int _ _, .int _ _] rfl η func11 (Kt _ _ ω ω) ?_))))
 rintro e w8 ⟨rfl, rfl⟩
 refine ⟨_, rfl, ?_⟩
 refine Zn Ah (AK CZ ?_)
 exact ⟨AU (by first | rfl | (unfold L5; simp [List.getD, List.getElem?_eq_none (by omega : l.length ≤ N)]; done)), I, C⟩
 refine AF (Zs (Zo Ey (Zo (EH rfl η) (Zo (AJ rfl η Eb) (Zo (AH rfl A0 η (o.cell 1 η)) (Zo A8 (Zo (EH rfl η) (Zo (AJ rfl η Eb) (BB (v := .int _ _) (vs := [_]) (cs' := [_, _]) η η C Cf η rfl η rfl η ?_)))))))))
 intro w9 E9 V9 hb_new
 have Q9 := E9.size
 replace I := Z1 I E9 (.inr (by simp))
 replace C := hb_new
 clear hb_new
 refine As (Zs (Zo AN (Zo AN (Zr [.int _ _, .int _ _] rfl η func11 (Kt _ _ ω ω) ?_))))
 rintro e a7 ⟨rfl, rfl⟩
 refine ⟨_, rfl, ?_⟩
 refine Zn Ah (AK CZ ?_)
 exact ⟨AU (by first | rfl | (unfold L5; simp [List.getD, List.getElem?_eq_none (by omega : l.length ≤ N)]; done)), I, C⟩
theorem C4 {o : World} {T j : Nat} {C : Option Addr} {b off cap : Nat} {l : List Int} {N : Nat} {n : Int} (hb : Blk o j T [.slice C l.length cap, .int .i64 (N : Nat)]) (hl : RowE o C b off cap l) (hN : N ≤ 1000000) (J : 1 ≤ n) (I : n ≤ 1000000000) :
    Calls Tryz.prog 38 #[.pointer (some ⟨j, 0, none⟩), .int .i64 n] o fun e w' => ∃ r, e = .returned (.int .i64 r) ∧ (0 ≤ r ∧ r < n) ∧ Evo o w' [j] ∧ Blk w' j T [.slice C l.length cap, .int .i64 (N + 1 : Nat)] :=
  (Sn hb hl hN J I).mono fun e w' ⟨h1, R, U⟩ => ⟨_, h1, TE l N n J, R, U⟩
def wordsL : List AQ := [[114, 101, 100], [99, 97, 114], [82, 101, 100], [97], [99, 97, 114, 115], [49, 44, 53], [50, 50], [100, 111, 110, 39, 116], [46], [33], [32], [32, 32], [60], [38], [123], [34], [92], [120, 45, 121], [10], [61], [125], [62], [9], [98]]
theorem V4 (j : Nat) : (wordsL.getD j default).length ≤ 5 := by
  rcases Nat.lt_or_ge j 24 with h | h
  · have : ∀ j, j < 24 → (wordsL.getD j default).length ≤ 5 := by decide
    exact this j h
  · have e : wordsL.getD j default = [] := by simp [List.getD, List.getElem?_eq_none (show wordsL.length ≤ j from h)]; rfl
    rw [e]; simp
theorem T7 {T J : Nat} {ao : Option Addr} {b off cap : Nat} {l : List Int} {N : Nat} {R : World} (C : Blk R J T [.slice ao l.length cap, .int .i64 (N : Nat)]) (hl : ∀ w', Evo R w' [J] → RowE w' ao b off cap l) (hN : N ≤ 900000) :
    Calls Tryz.prog 125 #[.pointer (some ⟨J, 0, none⟩)] R fun e w' => ∃ t : AQ, ∃ N', e = .returned (S t) ∧ t.length ≤ 5 ∧ (N ≤ N' ∧ N' ≤ N + 1) ∧ Evo R w' [J] ∧ Blk w' J T [.slice ao l.length cap, .int .i64 (N' : Nat)] := by
 have a8 := C.at; have a6 := C.lt
 refine AG (n := 8) func125 rfl ntmps125 rfl ?_
 have o : Evo R R [J] := Evo.refl _ _
 have U := hl
 have ag := (U _ o).bd
 refine Zs (Zn CD (Zs (Av (pv := [(0, S _), (1, S _), (2, S _), (3, S _), (4, S _), (5, S _), (6, S _), (7, S _), (8, S _), (9, S _), (10, S _), (11, S _), (12, S _), (13, S _), (14, S _), (15, S _), (16, S _), (17, S _), (18, S _), (19, S _), (20, S _), (21, S _), (22, S _), (23, S _)]) (zs := [_]) (cs := [_, _, _, _, _, _, _, _, _, _, _, _, _, _, _, _, _, _, _, _, _, _, _, _]) underlying77 BW η rfl η rfl η ?_)))
 intro b1 w2 J1 E2 B1 Y1
 have Q2 := E2.size
 replace o := Z0 o E2
 replace C := C.evo0 E2
 replace hl := U _ o
 have j : RowE w2 (some ⟨b1, 0, none⟩) b1 0 24 wordsL := Bl wordsL B1 rfl rfl
 refine Zo Ey (Zr [.pointer _, .int _ _] rfl η func38 (C4 C hl ω ω ω) ?_)
 rintro e w3 ⟨I, rfl, hx3, F3, hn3⟩
 refine ⟨_, rfl, ?_⟩
 have Q3 := F3.size
 replace o := Z1 o F3 (.inr (by simp))
 replace j := j.evo F3 θ
 replace C := hn3
 clear hn3
 refine Zo (AV (I.toNat) rfl underlying77 BW η η ω (by show _ < 24; omega) (j.addr (i := I.toNat) (by show _ < 24; omega))) ?_
 have a1 := j.atD (I.toNat) (by show _ < 24; omega)
 refine Zo (AH rfl BF η (a1.cell 0 η)) (Zn CD (AK (BN (v := S _) rfl η) ?_))
 exact ⟨_, N + 1, rfl, V4 _, by omega, o, C⟩
theorem N7 {T C : Nat} {ao : Option Addr} {b off cap : Nat} {l : List Int} {N : Nat} {n : Int} {R : World} (j : Blk R C T [.slice ao l.length cap, .int .i64 (N : Nat)]) (hl : ∀ w', Evo R w' [C] → RowE w' ao b off cap l) (hN : N ≤ 800000) (bl : 0 ≤ n) (bm : n ≤ 3) (bg : C < R.heap.size) :
    Calls Tryz.prog 74 #[.pointer (some ⟨C, 0, none⟩), .int .i64 n] R fun e w' => ∃ t : AQ, ∃ N', e = .returned (S t) ∧ t.length ≤ 18 ∧ (N ≤ N' ∧ N' ≤ N + 7) ∧ Evo R w' [C] ∧ Blk w' C T [.slice ao l.length cap, .int .i64 (N' : Nat)] := by
 have I := j.at; have a_ := j.lt
 refine AG (n := 31) func74 rfl ntmps74 rfl ?_
 have o : Evo R R [C] := Evo.refl _ _
 have J := hl
 replace hl := J _ o
 have a7 := hl.bd
 refine Zs (Zn CD (Zs (Zn CD (AB (Zs (Zo Ey (Zo AN (Zo A8 (Zr [.pointer _, .int _ _] rfl η func38 (C4 j hl ω ω ω) ?_)))))))))
 rintro e w1 ⟨bb, rfl, hx1, F1, hn1⟩
 refine ⟨_, rfl, ?_⟩
 have Q1 := F1.size
 replace o := Z1 o F1 (.inr (by simp))
 replace hl := J _ o
 replace j := hn1
 clear hn1
 have I := j.at
 refine Zn Ah (AD (AZ (α := Nat) [5, 6, 7, 12, 13, 14, 15, 16, 17, 18, 19, 20, 21, 22, 23, 24, 25, 26, 27, 28, 29] (fun i g w => ∃ t : AQ, ∃ U : Nat, g 6 = .int .i64 (i : Nat) ∧ g 5 = S t ∧ Blk w C T [.slice ao l.length cap, .int .i64 (U : Nat)] ∧ (N + 1 ≤ U ∧ U + 2 * i ≤ N + 7) ∧ (t.length + 6 * i ≤ 18) ∧ w1.heap.size ≤ w.heap.size ∧ Evo R w [C]) (fun i => i) bb.toNat ?_ ?_))
 refine ⟨[], _, (congrArg (Value.int _) ω), rfl, j, δ, θ, δ, o⟩
 rintro i g w3 ⟨t, U, hj4, hj5, j, hN1, htl, hzl2, o⟩
 have a1 := o.size
 have bc := j.lt
 have I := j.at
 refine Zk 6 hj4 (Zk 5 hj5 (AB (Zs (Zo AN (Zn IG (AE η (fun ba => ?_) (fun ba => ?_)))))))
 refine AF (AB (AD (Zs (Zo Ey (Zr [.pointer _] rfl η func125 (T7 j (fun w9 h9 => J _ (Evo.trans o h9 (fun x hx _ => hx))) ω) ?_)))))
 rintro e w8 ⟨bp, Nw8, rfl, htw8, hNw8, F8, hn8⟩
 refine ⟨_, rfl, ?_⟩
 have Q8 := F8.size
 replace o := Z1 o F8 (.inr (by simp))
 replace j := hn8
 clear hn8
 have I := j.at
 refine Zn CD (AB (Zs (Zo Au (Zo (CR rfl η η) (Zo Br ?_)))))
 refine Ab rfl Aq rfl (fun hg => Ey) ?_
 refine QH rfl Aq rfl (fun hg => Am rfl (An (v := .pointer _) (Af hg) (An (v := .int _ _) η (rfl))) func38 rfl ζ) (fun hg => (C4 j (J _ o) ω ω ω)) j ?_
 intro nx10 w9 Ng10 hx10 F10 hna10 hnb10 hbn
 have Q9 := F10.size
 replace o := Z1 o F10 (.inr (by simp))
 replace j := hbn
 clear hbn
 have I := j.at
 refine Ab rfl Aq rfl (fun hg => Bf rfl (Af hg) η) ?_
 refine Zn Fm (AE η (fun ag => ?_) (fun ag => ?_))
 refine AA (Zo Au (Zo (A7 rfl η η μ) (Zn CD (AA (Zo Au (Zo Au (Zo (A7 rfl η η μ) (Zn CD (AO ?_)))))))))
 refine AA (Zo AN (Zo JV (Zn Ah (Zg (i - 1) ?_))))
 refine ⟨_, _, σ, rfl, j, δ, τ, δ, o⟩
 refine AF (AA (Zo Au (Zo Au (Zo (A7 rfl η η μ) (Zn CD (AO (AA (Zo AN (Zo JV ?_)))))))))
 refine Zn Ah (Zg (i - 1) ?_)
 refine ⟨_, _, σ, rfl, j, δ, τ, δ, o⟩
 refine AW rfl (Zs (Zo Au (Zn CD (AK (BN (v := S _) rfl η) ?_))))
 exact ⟨_, U, rfl, by omega, by omega, o, j⟩
theorem HI {J R : Option Addr} {ba ag j bb ao o : Nat} {a b : List Vc.Item} {I : World} (ha : RowE I J ba ag j a) (hb : RowE I R bb ao o b) (U : Fh (a ++ b)) :
    Calls Tryz.prog 76 #[.slice J a.length j, .slice R b.length o] I fun e w' => ∃ v, e = .returned v ∧ Evo I w' [] ∧ OwnE w' I.heap.size 32 v (CE (a ++ b)) := by
 have a_ := U.1; rw [List.length_append] at a_
 refine AG (n := 10) func76 rfl ntmps76 rfl ?_
 have C : Evo I I [] := Evo.refl _ _
 have bs := Ak ha
 have aT := ha.bd
 have a7 := Ak hb
 have a1 := hb.bd
 refine Zs (Zn Bs (Zs (Zo Ar (BS rfl underlying33 Ag η (OwnE.nil (α := Vc.Item) _ I.heap.size _) η η ha rfl (θ) (θ) ω ?_))))
 intro v1 w2 E2 hov1 hlv1
 have Q2 := E2.size
 replace C := Z0 C E2
 refine Zo Ar (BS rfl underlying33 Ag η hov1 η η (a7 _ C) rfl (θ) (θ) ω ?_)
 intro v3 w4 E4 hov3 hlv3
 have Q4 := E4.size
 replace C := AI C E4 (fun g hg => .inl (by first | exact (hov1.block hg).1 | (have := hov1.block hg; omega)))
 obtain ⟨bm, g5, bq, bc, a8, bt⟩ := hov3.rowOf
 subst bc
 refine Zr [.slice _ _ _] rfl η func126 (LP a8 (by first | assumption | exact U | exact WO κ)) ?_
 rintro e w6 ⟨az, rfl, F6, hon6⟩
 refine ⟨_, rfl, ?_⟩
 have Q6 := F6.size
 replace C := Z0 C F6
 refine Zn (AM (v := az) rfl η) (AK (BN (v := az) rfl η) ?_)
 exact ⟨_, rfl, C, by have h9 := hon6; rw [List.nil_append] at h9; exact h9.base_le ω⟩
end Go.Proofs.YtlfjocbnbceceaaGreatDoor
