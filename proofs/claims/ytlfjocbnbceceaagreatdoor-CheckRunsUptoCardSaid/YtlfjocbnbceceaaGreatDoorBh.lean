/-
  Library, plain laws and walks that the statements reach (joined by a program out of smaller texts).
-/
import Derived.Test.YtlfjocbnbceceaaGreatDoorBg
import Derived.Shelf.SlSortCmp.NoneTotal
import Derived.Test.YtlfjocbnbceceaaGreatDoorProg
import Derived.Test.YtlfjocbnbceceaaGreatDoorBe
import Derived.Test.YtlfjocbnbceceaaGreatDoorBf
import Derived.Test.YtlfjocbnbceceaaGreatDoorBa
import Derived.Test.YtlfjocbnbceceaaGreatDoorBb
import Derived.Test.YtlfjocbnbceceaaGreatDoorBc
set_option linter.unusedVariables false
set_option linter.unusedSimpArgs false
namespace Go.Proofs.YtlfjocbnbceceaaGreatDoor
open Go.RowKit Go.Vc Go.Proofs.Tryz
set_option maxHeartbeats 1000000 in
theorem JY {bn : Option Addr} {ba bz a6 : Nat} {a : List AQ} {bp : Option Addr} {bb bF a7 : Nat} {b : List AQ} {w0 : World} (ha : RowE w0 bn ba bz a6 a) (hb : RowE w0 bp bb bF a7 b) (cr : a.length ≤ 1000000) (ct : b.length ≤ 1000000) :
    Calls Tryz.prog 105 #[.slice bn a.length a6, .slice bp b.length a7] w0 fun e w' => ∃ bm m, e = .returned (.map (some bm)) ∧ Evo w0 w' [] ∧ w0.heap.size ≤ bm ∧ MapIs w' bm S (Value.int .i64) m ∧ DifM a b m := by
 refine AG (n := 47) func105 rfl ntmps105 rfl ?_
 have C : Evo w0 w0 [] := Evo.refl _ _
 have az := Ak ha
 have bL := ha.bd
 have a1 := Ak hb
 have bM := hb.bd
 refine Zs (Zn Wk (Zs (GI (α := AQ) (β := Int) S (Value.int .i64) rfl ?_)))
 intro b1 w2 J1 E2 j Y1
 have Q2 := E2.size
 replace C := Z0 C E2
 replace ha := az _ C
 replace hb := a1 _ C
 refine Zn Wk (AB (Zs (Zo Ar (Zo (AL rfl η underlying77) (Zn AN (AD (AZ (α := Nat) [7, 15, 16, 17, 18, 19, 20, 21, 22, 23] (fun k g w => ∃ m : List (AQ × Int), g 15 = .int .i64 (k : Nat) ∧ k ≤ b.length ∧ MapIs w b1 S (Value.int .i64) m ∧ CntG (b.take k) [] m ∧ w2.heap.size ≤ w.heap.size ∧ Evo w0 w []) (fun k => b.length - k) 0 ?_ ?_)))))))
 refine ⟨_, σ, δ, j, (by rw [List.take_zero]; exact CntG.nil), δ, C⟩
 rintro k g w4 ⟨m, hj5, hk_k, j, hcg, hzl3, C⟩
 have bx := C.size
 have b7 := j.lt
 replace ha := az _ C
 replace hb := a1 _ C
 refine Zk 15 hj5 (Zs (Zn Bu (AB (AE η (fun bW => ?_) (fun bW => ?_)))))
 refine AF (AB (AD (Zs (Zo (AV (k) rfl underlying77 BW η η χ ω (hb.addr (i := k) ω)) ?_))))
 have bq := fun (w' : World) (h : Evo w0 w' []) => (a1 w' h).atD (k) ω
 refine Zo (AH rfl BF η ((bq _ C).cell 0 η)) (Zn CD ?_)
 have b4 := hcg.get (b.getD k default); have b0 := Qb ([]) (b.take k) (b.getD k default); have b2 := List.length_take_le k a; have b3 := List.length_take_le k b; have bY : ([] : List AQ).length = 0 := rfl
 refine AA (Zo O6 (Zo Au (Zo (Eh (a := (b.getD k default)) (z := 0) (v := .int _ _) (FZ underlying9) rfl underlying134 Cf η η j rfl) (Zo A8 (Hb (a := _) (FZ underlying9) underlying134 η η η j ?_)))))
 intro w9 E9 V9 hm_new
 have Q9 := E9.size
 replace C := Z1 C E9 ε
 replace j := hm_new
 clear hm_new
 refine As (AO (AA (Zo A8 (Zn AN (Zg (k + 1) ?_)))))
 refine ⟨_, σ, δ, j, (by rw [Ai _ k ω]; exact hcg.inc (aV rfl)), δ, C⟩
 refine AW rfl (AB (Zs (Zo Ar (Zo (AL rfl η underlying77) (Zn AN (AD ?_))))))
 have a8 := hcg; rw [List.take_of_length_le ω] at a8
 refine AZ (α := Nat) [9, 26, 27, 28, 29, 30, 31, 32, 33, 34] (fun k g w => ∃ m : List (AQ × Int), g 26 = .int .i64 (k : Nat) ∧ k ≤ a.length ∧ MapIs w b1 S (Value.int .i64) m ∧ CntG b (a.take k) m ∧ w4.heap.size ≤ w.heap.size ∧ Evo w0 w []) (fun k => a.length - k) 0 ?_ ?_
 refine ⟨_, σ, δ, j, (by rw [List.take_zero]; exact a8), δ, C⟩
 rintro k g cH ⟨m, hj12, hk_k, j, hcg, hzl10, C⟩
 have bg := C.size
 have b5 := j.lt
 refine Zk 26 hj12 (Zs (Zn Bu (AB (AE η (fun bt => ?_) (fun bt => ?_)))))
 refine AF (AB (AD (Zs (Zo (AV (k) rfl underlying77 BW η η χ ω ((az _ C).addr (i := k) ω)) ?_))))
 have bc := fun (w' : World) (h : Evo w0 w' []) => (az w' h).atD (k) ω
 refine Zo (AH rfl BF η ((bc _ C).cell 0 η)) (Zn CD ?_)
 have b4 := hcg.get (a.getD k default); have b0 := Qb (a.take k) (b) (a.getD k default); have b2 := List.length_take_le k a; have b3 := List.length_take_le k b; have bY : ([] : List AQ).length = 0 := rfl
 refine AA (Zo O6 (Zo Au (Zo (Eh (a := (a.getD k default)) (z := 0) (v := .int _ _) (FZ underlying9) rfl underlying134 Cf η η j rfl) (Zo JV (Hb (a := _) (FZ underlying9) underlying134 η η η j ?_)))))
 intro w16 E16 V16 hm_new
 have b_ := E16.size
 replace C := Z1 C E16 ε
 replace j := hm_new
 clear hm_new
 refine As (AO (AA (Zo A8 (Zn AN (Zg (k + 1) ?_)))))
 refine ⟨_, σ, δ, j, (by rw [Ai _ k ω]; exact hcg.dec (aV rfl)), δ, C⟩
 refine AW rfl (AB (Zs (Zo O6 (Ke rfl underlying134 η j ?_))))
 intro r17 w18 her17 E18 o hzr17
 have ca := E18.size
 replace C := Z0 C E18
 replace ha := az _ C
 replace hb := a1 _ C
 replace j := j.evo0 E18
 refine As (AD ?_)
 have a_ := hcg; rw [List.take_of_length_le ω] at a_; have b6 := j.nodup
 refine AZ (α := List (AQ × Int)) [10, 11, 37, 38, 39, 40, 41, 42, 43, 44, 45] (fun left g w => ∃ m9 : List (AQ × Int), ∃ la : Option (AQ × Int), IterIs w r17 b1 S (Value.int .i64) m9 left la ∧ DelI a b m9 left ∧ w18.heap.size ≤ w.heap.size ∧ Evo w0 w []) (fun left => left.length) m ?_ ?_
 refine ⟨_, _, o, (a_.mem b6), δ, C⟩
 rintro left g cI ⟨m9, la, o, hdi, hzl19, C⟩
 have bl := C.size
 refine Zs (Nu rfl η o (fun bw => ?_) (fun J aT R cK U F21 b8 I => ?_))
 subst bw
 refine Zn (AX (v := .bool _) rfl η η) (AB (DN η (AW rfl (Zs (Zo O6 (Zn Wk (AK (BN (v := .map _) rfl η) ?_)))))))
 exact ⟨_, _, rfl, C, by omega, o.map, hdi.done⟩
 have cb := F21.size
 replace C := Z1 C F21 ε
 replace o := I
 clear I
 refine Zn (AX (v := .bool _) rfl η η) (AB (Ec η (AF (AD (Zs (Zo (GU rfl η o) (Zo (AX (v := S _) rfl η η) (Zo (AX (v := .int _ _) rfl η η) (Zo CD ?_)))))))))
 refine Zn Ah (Zs (Zo AN (Zn C3 (AE η (fun ag => ?_) (fun ag => ?_)))))
 refine AA (Zo O6 (Zo Au (Yq (p := aT) (FZ underlying9) underlying134 η η o ?_)))
 intro w23 E23 V23 I
 have cc := E23.size
 replace C := Z1 C E23 ε
 replace o := I
 clear I
 refine As (AO (DC (J ++ R) ?_ ?_ ?_))
 rw [U]; simp
 refine ⟨_, _, o, (by first | exact (show DelI a b m9 (J ++ aT :: R) from U ▸ hdi).strike ag | exact (show DelI a b m9 (J ++ aT :: R) from U ▸ hdi).keep ag), δ, C⟩
 exact ψ
 refine AF (AO (DC (J ++ R) ?_ ?_ ?_))
 rw [U]; simp
 refine ⟨_, _, o, (by first | exact (show DelI a b m9 (J ++ aT :: R) from U ▸ hdi).strike ag | exact (show DelI a b m9 (J ++ aT :: R) from U ▸ hdi).keep ag), δ, C⟩
 exact ψ
set_option maxHeartbeats 1000000 in
theorem Ox {bM : Option Addr} {ba b6 bl : Nat} {a : List Vc.Item} {bQ : Option Addr} {bb b7 bn : Nat} {b : List Vc.Item} {w0 : World} (ha : RowE w0 bM ba b6 bl a) (hb : RowE w0 bQ bb b7 bn b) (du : a.length ≤ 1000000) (dv : b.length ≤ 1000000) :
    Calls Tryz.prog 106 #[.slice bM a.length bl, .slice bQ b.length bn] w0 fun e w' => ∃ bm m, e = .returned (.map (some bm)) ∧ Evo w0 w' [] ∧ w0.heap.size ≤ bm ∧ MapIs w' bm (fun x : Vc.Item => Value.agg (Enc.enc x).toArray) (Value.int .i64) m ∧ DifM a b m := by
 refine AG (n := 51) func106 rfl ntmps106 rfl ?_
 have C : Evo w0 w0 [] := Evo.refl _ _
 have a8 := Ak ha
 have b_ := ha.bd
 have bf := Ak hb
 have ca := hb.bd
 refine Zs (Zn Wk (Zs (GI (α := Vc.Item) (β := Int) (fun x : Vc.Item => Value.agg (Enc.enc x).toArray) (Value.int .i64) rfl ?_)))
 intro b1 w2 J1 E2 o Y1
 have Q2 := E2.size
 replace C := Z0 C E2
 replace ha := a8 _ C
 replace hb := bf _ C
 refine Zn Wk (AB (Zs (Zo Ar (Zo (AL rfl η underlying33) (Zn AN (AD (AZ (α := Nat) [7, 15, 16, 17, 18, 19, 20, 21, 22, 23, 24, 25] (fun k g w => ∃ m : List (Vc.Item × Int), g 15 = .int .i64 (k : Nat) ∧ k ≤ b.length ∧ MapIs w b1 (fun x : Vc.Item => Value.agg (Enc.enc x).toArray) (Value.int .i64) m ∧ CntG (b.take k) [] m ∧ w2.heap.size ≤ w.heap.size ∧ Evo w0 w []) (fun k => b.length - k) 0 ?_ ?_)))))))
 refine ⟨_, σ, δ, o, (by rw [List.take_zero]; exact CntG.nil), δ, C⟩
 rintro k g w4 ⟨m, hj5, hk_k, o, hcg, hzl3, C⟩
 have b5 := C.size
 have c3 := o.lt
 replace ha := a8 _ C
 replace hb := bf _ C
 refine Zk 15 hj5 (Zs (Zn Bu (AB (AE η (fun cn => ?_) (fun cn => ?_)))))
 refine AF (AB (AD (Zs (Zo (AV (k) rfl underlying33 Ag η η χ ω (hb.addr (i := k) ω)) ?_))))
 have bY := fun (w' : World) (h : Evo w0 w' []) => (bf w' h).atD (k) ω
 have cc := bY _ C
 refine Zo (AY rfl CT Ag η rfl cc) (CO (zs := [_, _, _]) (vs := [_, _, _]) Ag η rfl η (fun _ => rfl) η rfl rfl η ?_)
 intro b9 w10 J9 E10 B9 Y9
 have c_ := E10.size
 replace C := Z0 C E10
 replace o := o.evo0 E10
 refine As ?_
 have cK := hcg.get (b.getD k default); have ct := Qb ([]) (b.take k) (b.getD k default); have cH := List.length_take_le k a; have cI := List.length_take_le k b; have cr : ([] : List Vc.Item).length = 0 := rfl
 have cg : (Bz (Dj m (b.getD k default) ((Bz m (b.getD k default)).getD 0)) (b.getD k default)).getD 0 = (Bz m (b.getD k default)).getD 0 := by rw [ED, if_pos rfl]; rfl
 refine C1 [19, 20, 21, 22, 23, 24] (fun g w => ∃ m2 : List (Vc.Item × Int), MapIs w b1 (fun x : Vc.Item => Value.agg (Enc.enc x).toArray) (Value.int .i64) m2 ∧ SK m m2 (b.getD k default) 1 ∧ w10.heap.size ≤ w.heap.size ∧ Evo w0 w []) ?_ ?_
 have bg := o
 have b8 := B9
 have bc := B9.at
 have b0 := C
 refine CJ ([b1]) ζ ?_
 intro w12 F13 J
 have da := F13.size
 replace C := Z0 C F13
 replace o := o.evo0 F13
 replace B9 := B9.evo0 F13
 refine Zt (i := 0) η (fun w' hC => O6) J (Zt (i := 1) η (fun w' hC => AY rfl CT Ag η rfl (bc.evo hC θ)) J ?_)
 refine Kp (i := 2) (j := 4) ζ ?_ ?_
 refine Hx η ?_
 refine Zo (Eh (a := (b.getD k default)) (z := 0) (v := .int _ _) HJ rfl underlying74 Cf η η o rfl) ?_
 refine Ap J ?_
 refine Zt (i := 3) η (fun w' hC => Cp rfl η η ω ω) J ?_
 refine Zh (i := 4) ?_
 refine Hm (a := (b.getD k default)) (z := 0) HJ rfl underlying74 Cf η η o ?_
 intro s15 w15 F15 V15 hm_new hst15
 have db := F15.size
 replace C := Z1 C F15 ε
 replace J := Z1 J F15 ε
 replace o := hm_new
 clear hm_new
 refine Ap J ?_
 refine Zt (i := 5) η (fun w' hC => AX (v := .int _ _) rfl η η) J ?_
 refine Zh (i := 6) ?_
 refine GF (a := (b.getD k default)) HJ η η η o hst15 ?_
 intro w16 F16 V16 hm_new
 have dc := F16.size
 replace C := Z1 C F16 ε
 replace o := hm_new
 clear hm_new
 refine CV ζ ?_
 refine CH ζ ?_
 refine Ae ?_ ?_
 refine ⟨_, o, (by first | exact UX 1 | exact U3 1), δ, C⟩
 exact ψ
 refine Hx η ?_
 refine Hm (a := (b.getD k default)) (z := 0) HJ rfl underlying74 Cf η η o ?_
 intro s17 w17 F17 V17 hm_new hst17
 have dd := F17.size
 replace C := Z1 C F17 ε
 replace J := Z1 J F17 ε
 replace B9 := B9.evo F17 θ
 replace o := hm_new
 clear hm_new
 refine Ap J ?_
 refine Zt (i := 5) η (fun w' hC => AX (v := .int _ _) rfl η η) J ?_
 refine Zh (i := 2) ?_
 refine Zo (Eh (a := (b.getD k default)) (z := 0) (v := .int _ _) HJ rfl underlying74 Cf η η o rfl) ?_
 refine Ap J ?_
 refine Zt (i := 3) η (fun w' hC => Cp rfl η η ω ω) J ?_
 refine Zh (i := 6) ?_
 refine GF (a := (b.getD k default)) HJ η η η o hst17 ?_
 intro w18 F18 V18 hm_new
 have de := F18.size
 replace C := Z1 C F18 ε
 replace o := hm_new
 clear hm_new
 refine CV ζ ?_
 refine CH ζ ?_
 refine Ae ?_ ?_
 refine ⟨_, o, (by first | exact UX 1 | exact U3 1), δ, C⟩
 exact ψ
 rintro g dw ⟨m2, o, hm2, hzl11, C⟩
 have bx := C.size
 have cQ := o.lt
 refine AO (AA (Zo A8 (Zn AN (Zg (k + 1) ?_))))
 refine ⟨_, σ, δ, o, (by rw [Ai _ k ω]; exact hcg.inc hm2), δ, C⟩
 refine AW rfl (AB (Zs (Zo Ar (Zo (AL rfl η underlying33) (Zn AN (AD ?_))))))
 have bp := hcg; rw [List.take_of_length_le ω] at bp
 refine AZ (α := Nat) [9, 28, 29, 30, 31, 32, 33, 34, 35, 36, 37, 38] (fun k g w => ∃ m : List (Vc.Item × Int), g 28 = .int .i64 (k : Nat) ∧ k ≤ a.length ∧ MapIs w b1 (fun x : Vc.Item => Value.agg (Enc.enc x).toArray) (Value.int .i64) m ∧ CntG b (a.take k) m ∧ w4.heap.size ≤ w.heap.size ∧ Evo w0 w []) (fun k => a.length - k) 0 ?_ ?_
 refine ⟨_, σ, δ, o, (by rw [List.take_zero]; exact bp), δ, C⟩
 rintro k g dx ⟨m, hj23, hk_k, o, hcg, hzl21, C⟩
 have bz := C.size
 have cR := o.lt
 replace ha := a8 _ C
 refine Zk 28 hj23 (Zs (Zn Bu (AB (AE η (fun b3 => ?_) (fun b3 => ?_)))))
 refine AF (AB (AD (Zs (Zo (AV (k) rfl underlying33 Ag η η χ ω (ha.addr (i := k) ω)) ?_))))
 have bs := fun (w' : World) (h : Evo w0 w' []) => (a8 w' h).atD (k) ω
 have bW := bs _ C
 refine Zo (AY rfl CT Ag η rfl bW) (CO (zs := [_, _, _]) (vs := [_, _, _]) Ag η rfl η (fun _ => rfl) η rfl rfl η ?_)
 intro b27 w28 J27 E28 B27 Y27
 have df := E28.size
 replace C := Z0 C E28
 replace o := o.evo0 E28
 refine As ?_
 have cK := hcg.get (a.getD k default); have ct := Qb (a.take k) (b) (a.getD k default); have cH := List.length_take_le k a; have cI := List.length_take_le k b; have cr : ([] : List Vc.Item).length = 0 := rfl
 have cg : (Bz (Dj m (a.getD k default) ((Bz m (a.getD k default)).getD 0)) (a.getD k default)).getD 0 = (Bz m (a.getD k default)).getD 0 := by rw [ED, if_pos rfl]; rfl
 refine C1 [32, 33, 34, 35, 36, 37] (fun g w => ∃ m2 : List (Vc.Item × Int), MapIs w b1 (fun x : Vc.Item => Value.agg (Enc.enc x).toArray) (Value.int .i64) m2 ∧ SK m m2 (a.getD k default) (-1) ∧ w28.heap.size ≤ w.heap.size ∧ Evo w0 w []) ?_ ?_
 have bg := o
 have b2 := B27
 have a7 := B27.at
 have b0 := C
 refine CJ ([b1]) ζ ?_
 intro w30 F31 R
 have dh := F31.size
 replace C := Z0 C F31
 replace o := o.evo0 F31
 replace B27 := B27.evo0 F31
 refine Zt (i := 0) η (fun w' hC => O6) R (Zt (i := 1) η (fun w' hC => AY rfl CT Ag η rfl (a7.evo hC θ)) R ?_)
 refine Kp (i := 2) (j := 4) ζ ?_ ?_
 refine Hx η ?_
 refine Zo (Eh (a := (a.getD k default)) (z := 0) (v := .int _ _) HJ rfl underlying74 Cf η η o rfl) ?_
 refine Ap R ?_
 refine Zt (i := 3) η (fun w' hC => DZ rfl η η ω ω) R ?_
 refine Zh (i := 4) ?_
 refine Hm (a := (a.getD k default)) (z := 0) HJ rfl underlying74 Cf η η o ?_
 intro s33 w33 F33 V33 hm_new hst33
 have di := F33.size
 replace C := Z1 C F33 ε
 replace R := Z1 R F33 ε
 replace o := hm_new
 clear hm_new
 refine Ap R ?_
 refine Zt (i := 5) η (fun w' hC => AX (v := .int _ _) rfl η η) R ?_
 refine Zh (i := 6) ?_
 refine GF (a := (a.getD k default)) HJ η η η o hst33 ?_
 intro w34 F34 V34 hm_new
 have dj := F34.size
 replace C := Z1 C F34 ε
 replace o := hm_new
 clear hm_new
 refine CV ζ ?_
 refine CH ζ ?_
 refine Ae ?_ ?_
 refine ⟨_, o, (by first | exact UX (-1) | exact U3 (-1)), δ, C⟩
 exact ψ
 refine Hx η ?_
 refine Hm (a := (a.getD k default)) (z := 0) HJ rfl underlying74 Cf η η o ?_
 intro s35 w35 F35 V35 hm_new hst35
 have dk := F35.size
 replace C := Z1 C F35 ε
 replace R := Z1 R F35 ε
 replace B27 := B27.evo F35 θ
 replace o := hm_new
 clear hm_new
 refine Ap R ?_
 refine Zt (i := 5) η (fun w' hC => AX (v := .int _ _) rfl η η) R ?_
 refine Zh (i := 2) ?_
 refine Zo (Eh (a := (a.getD k default)) (z := 0) (v := .int _ _) HJ rfl underlying74 Cf η η o rfl) ?_
 refine Ap R ?_
 refine Zt (i := 3) η (fun w' hC => DZ rfl η η ω ω) R ?_
 refine Zh (i := 6) ?_
 refine GF (a := (a.getD k default)) HJ η η η o hst35 ?_
 intro w36 F36 V36 hm_new
 have dm := F36.size
 replace C := Z1 C F36 ε
 replace o := hm_new
 clear hm_new
 refine CV ζ ?_
 refine CH ζ ?_
 refine Ae ?_ ?_
 refine ⟨_, o, (by first | exact UX (-1) | exact U3 (-1)), δ, C⟩
 exact ψ
 rintro g dy ⟨m2, o, hm2, hzl29, C⟩
 have bF := C.size
 have cV := o.lt
 refine AO (AA (Zo A8 (Zn AN (Zg (k + 1) ?_))))
 refine ⟨_, σ, δ, o, (by rw [Ai _ k ω]; exact hcg.dec hm2), δ, C⟩
 refine AW rfl (AB (Zs (Zo O6 (Ke rfl underlying74 η o ?_))))
 intro r39 w40 her39 E40 I hzr39
 have dn := E40.size
 replace C := Z0 C E40
 replace ha := a8 _ C
 replace hb := bf _ C
 replace o := o.evo0 E40
 refine As (AD ?_)
 have bq := hcg; rw [List.take_of_length_le ω] at bq; have c0 := o.nodup
 refine AZ (α := List (Vc.Item × Int)) [10, 11, 41, 42, 43, 44, 45, 46, 47, 48, 49] (fun left g w => ∃ m9 : List (Vc.Item × Int), ∃ la : Option (Vc.Item × Int), IterIs w r39 b1 (fun x : Vc.Item => Value.agg (Enc.enc x).toArray) (Value.int .i64) m9 left la ∧ DelI a b m9 left ∧ w40.heap.size ≤ w.heap.size ∧ Evo w0 w []) (fun left => left.length) m ?_ ?_
 refine ⟨_, _, I, (bq.mem c0), δ, C⟩
 rintro left g dO ⟨m9, la, I, hdi, hzl41, C⟩
 have bL := C.size
 refine Zs (Nu rfl η I (fun b4 => ?_) (fun ag a_ ao dQ az F43 c4 U => ?_))
 subst b4
 refine Zn (AX (v := .bool _) rfl η η) (AB (DN η (AW rfl (Zs (Zo O6 (Zn Wk (AK (BN (v := .map _) rfl η) ?_)))))))
 exact ⟨_, _, rfl, C, by omega, I.map, hdi.done⟩
 have dp := F43.size
 replace C := Z1 C F43 ε
 replace I := U
 clear U
 refine Zn (AX (v := .bool _) rfl η η) (AB (Ec η (AF (AD (Zs (Zo (GU rfl η I) (Zo (AX (v := .agg _) rfl η η) (Zo (AX (v := .int _ _) rfl η η) (CO (zs := [_, _, _]) (vs := [_, _, _]) Ag η rfl η (fun _ => rfl) η rfl rfl η ?_)))))))))
 intro b44 w45 J44 E45 B44 Y44
 have dq := E45.size
 replace C := Z0 C E45
 replace I := I.evo0 E45
 refine Zn Ah (Zs (Zo AN (Zn C3 (AE η (fun aT => ?_) (fun aT => ?_)))))
 refine AA (Zo O6 (Zo (AY rfl CT Ag η rfl B44.at) (Yq (p := a_) HJ underlying74 η η I ?_)))
 intro w47 E47 V47 U
 have dr := E47.size
 replace C := Z1 C E47 ε
 replace I := U
 clear U
 refine As (AO (DC (ag ++ ao) ?_ ?_ ?_))
 rw [az]; simp
 refine ⟨_, _, I, (by first | exact (show DelI a b m9 (ag ++ a_ :: ao) from az ▸ hdi).strike aT | exact (show DelI a b m9 (ag ++ a_ :: ao) from az ▸ hdi).keep aT), δ, C⟩
 exact ψ
 refine AF (AO (DC (ag ++ ao) ?_ ?_ ?_))
 rw [az]; simp
 refine ⟨_, _, I, (by first | exact (show DelI a b m9 (ag ++ a_ :: ao) from az ▸ hdi).strike aT | exact (show DelI a b m9 (ag ++ a_ :: ao) from az ▸ hdi).keep aT), δ, C⟩
 exact ψ
set_option maxHeartbeats 2000000 in
theorem O8 {v : Value} {base : Nat} {l : List Vc.Item} {dj : Option Addr} {bf eg cV : Nat} {f : List Vc.Item} {dk : Option Addr} {bg og c0 : Nat} {gg : List Vc.Item} {w0 : World} (bs : OwnE w0 base 39 v l) (fN : base ≤ w0.heap.size) (hf : ∀ w9, Evo w0 w9 v.ownBlock.toList → RowE w9 dj bf eg cV f) (I : ∀ w9, Evo w0 w9 v.ownBlock.toList → RowE w9 dk bg og c0 gg) (bt : ∀ w9, Evo w0 w9 v.ownBlock.toList → Tab w9) (b8 : Tiny f) (b9 : Tiny gg) (dV : ∀ x ∈ Ac f, JM x) (dW : ∀ x ∈ Ac gg, JM x) (fS : l.length ≤ 10000000) :
    Calls Tryz.prog 63 #[v, .slice dj f.length cV, .slice dk gg.length c0] w0 fun e w' => ∃ v', e = .returned v' ∧ Evo w0 w' v.ownBlock.toList ∧ (∃ p1 p2 p3, p1.Perm (Cb f gg) ∧ p2.Perm (Es f gg) ∧ p3.Perm (HC f gg) ∧ OwnE w' base 39 v' (l ++ (p1 ++ (p2 ++ p3)))) ∧ (∀ g, v'.ownBlock = some g → w0.heap.size ≤ g ∨ g ∈ v.ownBlock.toList) := by
 refine AG (n := 68) func63 rfl ntmps63 rfl ?_
 have o : Evo w0 w0 v.ownBlock.toList := Evo.refl _ _
 have b7 := hf
 replace hf := b7 _ o
 have dT := hf.bd
 have bb := I
 replace I := bb _ o
 have dU := I.bd
 have bz := bt
 refine Zs (Zn Bs (AB (AB ?_)))
 have dq := fun g I => (bs.block (g := g) I).2
 have fC := Dp f; have fD := Dp gg; have fE := Ek (Bv f); have fF := Ek (Bv gg); have fG := b8.1; have fH := b9.1; have fI := Fi (Ax f); have fJ := Fi (Ax gg); have fK := b8.tlen; have eD := b9.tlen; have fL := Ei f; have fM := Ei gg
 refine AA (Zo Ar (Zr [.slice _ _ _] rfl η func48 (Mi hf b8.small) ?_))
 rintro e w1 ⟨fU, rfl, F1, bc⟩
 refine ⟨_, rfl, ?_⟩
 have Q1 := F1.size
 replace o := Z0 o F1
 replace bs := bs.evo0 F1
 replace I := bb _ o
 refine Zo Ar (Zr [.slice _ _ _] rfl η func48 (Mi I b9.small) ?_)
 rintro e w2 ⟨fV, rfl, F2, bW⟩
 refine ⟨_, rfl, ?_⟩
 have Q2 := F2.size
 replace o := Z0 o F2
 replace bs := bs.evo0 F2
 replace bc := bc.evo0 F2
 obtain ⟨ft, g3, fx, ec, cK, fO⟩ := bc.rowOf
 subst ec
 obtain ⟨fu, g4, fy, ed, cQ, fP⟩ := bW.rowOf
 subst ed
 refine Zr [.slice _ _ _, .slice _ _ _] rfl η func105 (JY cK cQ ω ω) ?_
 rintro e w5 ⟨c_, mm5, rfl, F5, hbm5, b6, hdm5⟩
 refine ⟨_, rfl, ?_⟩
 have Q5 := F5.size
 replace o := Z0 o F5
 replace bs := bs.evo0 F5
 replace bc := bc.evo0 F5
 replace bW := bW.evo0 F5
 replace cK := cK.evo0 F5
 replace cQ := cQ.evo0 F5
 have eQ := b6.lt
 refine Ke rfl underlying134 η b6 ?_
 intro r6 w7 her6 E7 C hzr6
 have Q7 := E7.size
 replace o := Z0 o E7
 replace bs := bs.evo0 E7
 replace hf := b7 _ o
 replace I := bb _ o
 replace bt := bz _ o
 replace bc := bc.evo0 E7
 replace bW := bW.evo0 E7
 replace cK := cK.evo0 E7
 replace cQ := cQ.evo0 E7
 replace b6 := b6.evo0 E7
 refine As (AD ?_)
 have eN := hdm5.len
 have eR := C.lt; have eV := C.map.lt
 refine AZ (α := List (AQ × Int)) [0, 7, 8, 19, 20, 21, 22, 23, 24, 25, 26, 27, 28, 29] (fun left g w => ∃ la : Option (AQ × Int), ∃ ca : Value, ∃ bp : List (AQ × Int), g 0 = ca ∧ IterIs w r6 c_ S (Value.int .i64) mm5 left la ∧ OwnE w base 39 ca (l ++ bp.map (YL 3)) ∧ (∀ g, ca.ownBlock = some g → w0.heap.size ≤ g ∨ g ∈ v.ownBlock.toList) ∧ (∀ g, ca.ownBlock = some g → g ≠ r6 ∧ g ≠ c_) ∧ (bp ++ left).Perm mm5 ∧ (r6 < w.heap.size ∧ c_ < w.heap.size) ∧ w7.heap.size ≤ w.heap.size ∧ Evo w0 w v.ownBlock.toList) (fun left => left.length) mm5 ?_ ?_
 refine ⟨_, _, [], rfl, C, (by rw [List.map_nil, List.append_nil]; exact bs), (fun g I => .inr (Option.mem_toList.2 I)), (fun g I => by have h7 := dq g I; omega), (List.Perm.refl _), ⟨by omega, by omega⟩, δ, o⟩
 rintro left g w9 ⟨la, ca, bp, hj10, C, a1, bL, a8, hpmA, hzrA, hzl8, o⟩
 have dx := o.size
 replace hf := b7 _ o
 replace I := bb _ o
 refine Zk 0 hj10 ?_
 have dt := hpmA.length_eq
 rw [List.length_append] at dt
 have eE : (bp.map (YL 3)).length = bp.length := List.length_map _
 refine Zs (Nu rfl η C (fun dm => ?_) (fun da eh dd fW c3 F11 eY U => ?_))
 subst dm
 refine Zn (AX (v := .bool _) rfl η η) (AB (DN η (AW rfl (AB (AB ?_)))))
 have d_ : (bp.map (YL 3)).Perm (Cb f gg) := Pj hdm5 hpmA
 have dr := fun g I => (a1.block (g := g) I).2
 have cH := hpmA.length_eq; rw [List.length_append] at cH; have fQ : (bp.map (YL 3)).length = bp.length := List.length_map _
 refine AA (Zo Ar (Zr [.slice _ _ _] rfl η func46 (NF hf b8.small) ?_))
 rintro e fX ⟨e4, rfl, F12, a6⟩
 refine ⟨_, rfl, ?_⟩
 have fa := F12.size
 replace o := Z0 o F12
 replace I := bb _ o
 replace C := C.evo0 F12
 replace a1 := a1.evo0 F12
 refine Zo Ar (Zr [.slice _ _ _] rfl η func46 (NF I b9.small) ?_)
 rintro e fY ⟨e5, rfl, F13, bl⟩
 refine ⟨_, rfl, ?_⟩
 have fb := F13.size
 replace o := Z0 o F13
 replace C := C.evo0 F13
 replace a1 := a1.evo0 F13
 replace a6 := a6.evo0 F13
 obtain ⟨ek, g14, eu, dy, bY, eH⟩ := a6.rowOf
 subst dy
 obtain ⟨en, g15, ev, dz, b0, eI⟩ := bl.rowOf
 subst dz
 refine Zr [.slice _ _ _, .slice _ _ _] rfl η func106 (Ox bY b0 ω ω) ?_
 rintro e fZ ⟨cc, mm16, rfl, F16, hbm16, bw, hdm16⟩
 refine ⟨_, rfl, ?_⟩
 have fc := F16.size
 replace o := Z0 o F16
 replace C := C.evo0 F16
 replace a1 := a1.evo0 F16
 replace a6 := a6.evo0 F16
 replace bl := bl.evo0 F16
 replace bY := bY.evo0 F16
 replace b0 := b0.evo0 F16
 have dX := bw.lt
 refine Ke rfl underlying74 η bw ?_
 intro r17 w18 her17 E18 j hzr17
 have fe := E18.size
 replace o := Z0 o E18
 replace hf := b7 _ o
 replace I := bb _ o
 replace bt := bz _ o
 replace C := C.evo0 E18
 replace a1 := a1.evo0 E18
 replace a6 := a6.evo0 E18
 replace bl := bl.evo0 E18
 replace bY := bY.evo0 E18
 replace b0 := b0.evo0 E18
 replace bw := bw.evo0 E18
 refine As (AD ?_)
 have eO := hdm16.len
 have eS := j.lt; have eW := j.map.lt
 refine AZ (α := List (Vc.Item × Int)) [0, 9, 10, 36, 37, 38, 39, 40, 41, 42, 43, 44, 45, 46, 47] (fun left g w => ∃ la : Option (Vc.Item × Int), ∃ cb : Value, ∃ bq : List (Vc.Item × Int), g 0 = cb ∧ IterIs w r17 cc (fun x : Vc.Item => Value.agg (Enc.enc x).toArray) (Value.int .i64) mm16 left la ∧ OwnE w base 39 cb ((l ++ bp.map (YL 3)) ++ bq.map au) ∧ (∀ g, cb.ownBlock = some g → w0.heap.size ≤ g ∨ g ∈ v.ownBlock.toList) ∧ (∀ g, cb.ownBlock = some g → g ≠ r17 ∧ g ≠ cc) ∧ (bq ++ left).Perm mm16 ∧ (r17 < w.heap.size ∧ cc < w.heap.size) ∧ w18.heap.size ≤ w.heap.size ∧ Evo w0 w v.ownBlock.toList) (fun left => left.length) mm16 ?_ ?_
 refine ⟨_, _, [], rfl, j, (by rw [List.map_nil, List.append_nil]; exact a1), bL, (fun g I => by have h7 := dr g I; omega), (List.Perm.refl _), ⟨by omega, by omega⟩, δ, o⟩
 rintro left g f_ ⟨la, cb, bq, hj21, j, J, bM, a_, hpmB, hzrB, hzl19, o⟩
 have dh := o.size
 replace hf := b7 _ o
 replace I := bb _ o
 refine Zk 0 hj21 ?_
 have du := hpmB.length_eq
 rw [List.length_append] at du
 have eF : (bq.map au).length = bq.length := List.length_map _
 refine Zs (Nu rfl η j (fun dn => ?_) (fun db b_ de ga ct F22 eZ U => ?_))
 subst dn
 refine Zn (AX (v := .bool _) rfl η η) (AB (DN η (AW rfl (AB (AB ?_)))))
 have ea : (bq.map au).Perm (Es f gg) := Vb hdm16 hpmB
 have ds := fun g I => (J.block (g := g) I).2
 have cI := hpmB.length_eq; rw [List.length_append] at cI; have fR : (bq.map au).length = bq.length := List.length_map _; rw [List.length_nil] at cH cI
 refine AA (Zo Ar (Zr [.slice _ _ _] rfl η func59 (Fz hf b8.tk) ?_))
 rintro e gb ⟨e8, rfl, F23, R⟩
 refine ⟨_, rfl, ?_⟩
 have fg := F23.size
 replace o := Z0 o F23
 replace j := j.evo0 F23
 replace J := J.evo0 F23
 obtain ⟨eo, g24, ew, dO, aT, eJ⟩ := R.rowOf
 subst dO
 refine Zr [.slice _ _ _] rfl η func108 (JU aT ω) ?_
 rintro e gd ⟨e6, rfl, F25, ao⟩
 refine ⟨_, rfl, ?_⟩
 have fh := F25.size
 replace o := Z0 o F25
 replace I := bb _ o
 replace j := j.evo0 F25
 replace J := J.evo0 F25
 replace R := R.evo0 F25
 replace aT := aT.evo0 F25
 refine Zo Ar (Zr [.slice _ _ _] rfl η func59 (Fz I b9.tk) ?_)
 rintro e gf ⟨e9, rfl, F26, a7⟩
 refine ⟨_, rfl, ?_⟩
 have fi := F26.size
 replace o := Z0 o F26
 replace j := j.evo0 F26
 replace J := J.evo0 F26
 replace R := R.evo0 F26
 replace aT := aT.evo0 F26
 replace ao := ao.evo0 F26
 obtain ⟨ep, fz, ey, dQ, bn, eK⟩ := a7.rowOf
 subst dQ
 refine Zr [.slice _ _ _] rfl η func108 (JU bn ω) ?_
 rintro e gh ⟨e7, rfl, F28, bm⟩
 refine ⟨_, rfl, ?_⟩
 have fj := F28.size
 replace o := Z0 o F28
 replace j := j.evo0 F28
 replace J := J.evo0 F28
 replace R := R.evo0 F28
 replace aT := aT.evo0 F28
 replace ao := ao.evo0 F28
 replace a7 := a7.evo0 F28
 replace bn := bn.evo0 F28
 obtain ⟨er, fA, ez, dR, b1, eL⟩ := ao.rowOf
 subst dR
 obtain ⟨et, fB, eA, dS, b2, eM⟩ := bm.rowOf
 subst dS
 refine Zr [.slice _ _ _, .slice _ _ _] rfl η func105 (JY b1 b2 ω ω) ?_
 rintro e gi ⟨cg, mm31, rfl, F31, hbm31, bx, hdm31⟩
 refine ⟨_, rfl, ?_⟩
 have fk := F31.size
 replace o := Z0 o F31
 replace j := j.evo0 F31
 replace J := J.evo0 F31
 replace R := R.evo0 F31
 replace aT := aT.evo0 F31
 replace ao := ao.evo0 F31
 replace a7 := a7.evo0 F31
 replace bn := bn.evo0 F31
 replace bm := bm.evo0 F31
 replace b1 := b1.evo0 F31
 replace b2 := b2.evo0 F31
 have dY := bx.lt
 refine Ke rfl underlying134 η bx ?_
 intro r32 w33 her32 E33 ag hzr32
 have fl := E33.size
 replace o := Z0 o E33
 replace hf := b7 _ o
 replace I := bb _ o
 replace bt := bz _ o
 replace j := j.evo0 E33
 replace J := J.evo0 E33
 replace R := R.evo0 E33
 replace aT := aT.evo0 E33
 replace ao := ao.evo0 E33
 replace a7 := a7.evo0 E33
 replace bn := bn.evo0 E33
 replace bm := bm.evo0 E33
 replace b1 := b1.evo0 E33
 replace b2 := b2.evo0 E33
 replace bx := bx.evo0 E33
 refine As (AD ?_)
 have eP := hdm31.len
 have eT := ag.lt; have eX := ag.map.lt
 refine AZ (α := List (AQ × Int)) [0, 11, 12, 56, 57, 58, 59, 60, 61, 62, 63, 64, 65, 66] (fun left g w => ∃ la : Option (AQ × Int), ∃ bF : Value, ∃ cn : List (AQ × Int), g 0 = bF ∧ IterIs w r32 cg S (Value.int .i64) mm31 left la ∧ OwnE w base 39 bF ((l ++ bp.map (YL 3) ++ bq.map au) ++ cn.map (YL 6)) ∧ (∀ g, bF.ownBlock = some g → w0.heap.size ≤ g ∨ g ∈ v.ownBlock.toList) ∧ (∀ g, bF.ownBlock = some g → g ≠ r32 ∧ g ≠ cg) ∧ (cn ++ left).Perm mm31 ∧ (r32 < w.heap.size ∧ cg < w.heap.size) ∧ w33.heap.size ≤ w.heap.size ∧ Evo w0 w v.ownBlock.toList) (fun left => left.length) mm31 ?_ ?_
 refine ⟨_, _, [], rfl, ag, (by rw [List.map_nil, List.append_nil]; exact J), bM, (fun g I => by have h7 := ds g I; omega), (List.Perm.refl _), ⟨by omega, by omega⟩, δ, o⟩
 rintro left g gj ⟨la, bF, cn, hj36, ag, b4, bQ, ba, hpmC, hzrC, hzl34, o⟩
 have di := o.size
 refine Zk 0 hj36 ?_
 have dv := hpmC.length_eq
 rw [List.length_append] at dv
 have eG : (cn.map (YL 6)).length = cn.length := List.length_map _
 refine Zs (Nu rfl η ag (fun dp => ?_) (fun dc ei df gk c4 F37 e0 U => ?_))
 subst dp
 refine Zn (AX (v := .bool _) rfl η η) (AB (DN η (AW rfl (Zs (Zo (AP (v := bF) rfl η) (Zn (AM (v := bF) rfl η) (AK (BN (v := bF) rfl η) ?_)))))))
 exact ⟨_, rfl, o, ⟨_, _, _, d_, ea, Pj hdm31 hpmC, by have h9 := b4; rw [List.append_assoc, List.append_assoc] at h9; exact h9⟩, bQ⟩
 have fm := F37.size
 replace o := Z1 o F37 ε
 replace I := bb _ o
 replace b4 := b4.evo F37 (by intro g I hm; simp at hm; subst hm; first | exact (ba _ I).1 rfl | exact (ba _ I).2 rfl | (have := b4.block I; omega))
 replace ag := U
 clear U
 refine Zn (AX (v := .bool _) rfl η η) (AB (Ec η (AF (AD (Zs (Zo (GU rfl η ag) (Zo (AX (v := S _) rfl η η) (Zo (AX (v := .int _ _) rfl η η) (Zo CD ?_)))))))))
 refine Zn Ah (AA (Zo (AP (v := bF) rfl η) (Zo Au (Zo AN (Zo (Aj (pv := [(0, .int _ _), (1, S _), (2, .int _ _)]) (zs := [_, _, _]) (cells := [_, _, _]) rfl Az η Cz η η) (Ad (u := .agg _) (y := YL 6 ei) rfl rfl underlying34 Az η b4 (fun _ => η) η ξ (ν) (ν) ω ?_))))))
 intro q_v38 v38 w39 E39 hov38 hlv38
 have fo := E39.size
 replace o := AI o E39 (fun g I => bQ g I)
 replace ag := ag.evo E39 (by intro hm; have az := Option.mem_toList.1 hm; first | exact (ba _ az).1 rfl | exact (ba _ az).2 rfl) (by intro hm; have az := Option.mem_toList.1 hm; first | exact (ba _ az).1 rfl | exact (ba _ az).2 rfl)
 replace bQ := C9 hlv38 bQ ω
 replace ba := Le hlv38 ba ω ω
 have b4 := hov38
 refine Zn (AM (v := v38) rfl η) (AO (DC (dc ++ df) ?_ ?_ ?_))
 rw [c4]; simp
 refine ⟨_, _, _, rfl, ag, (by rw [QB]; exact b4), bQ, ba, (ZG (by rw [← c4]; exact hpmC)), ⟨by omega, by omega⟩, δ, o⟩
 exact ψ
 have ff := F22.size
 replace o := Z1 o F22 ε
 replace I := bb _ o
 replace J := J.evo F22 (by intro g I hm; simp at hm; subst hm; first | exact (a_ _ I).1 rfl | exact (a_ _ I).2 rfl | (have := J.block I; omega))
 replace j := U
 clear U
 refine Zn (AX (v := .bool _) rfl η η) (AB (Ec η (AF (AD (Zs (Zo (GU rfl η j) (Zo (AX (v := .agg _) rfl η η) (Zo (AX (v := .int _ _) rfl η η) ?_))))))))
 have dZ := fun g I => (J.block (g := g) I).2
 refine CO (zs := [_, _, _]) (vs := [_, _, _]) Ag η rfl η (fun _ => rfl) η rfl rfl η ?_
 intro b41 w42 J41 E42 B41 Y41
 have fp := E42.size
 replace o := Z0 o E42
 replace bt := bz _ o
 replace J := J.evo0 E42
 replace j := j.evo0 E42
 refine Zn Ah ?_
 have dw := hpmB.mem_iff.1 (List.mem_append_right bq (show b_ ∈ left by rw [ct]; simp))
 have eb : b_.1 ∈ f ∨ b_.1 ∈ gg := (SG hdm16 dw).imp (fun h => (List.mem_filter.1 h).1) (fun h => (List.mem_filter.1 h).1)
 have ee : JM b_.1 := (SG hdm16 dw).elim (dV _) (dW _)
 have ef : b_.1.text.length ≤ 100000 := eb.elim b8.txt b9.txt
 refine AA (Zo (AP (v := cb) rfl η) (Zo (AY rfl CT Ag η rfl B41.at) (Zr [.agg _] rfl η func107 (Wq bt ef ee) ?_)))
 rintro e gl ⟨rfl, F43⟩
 refine ⟨_, rfl, ?_⟩
 have fq := F43.size
 replace o := Z0 o F43
 replace I := bb _ o
 replace J := J.evo0 F43
 replace j := j.evo0 F43
 refine Zo AN (Zo (Aj (pv := [(0, .int _ _), (1, S _), (2, .int _ _)]) (zs := [_, _, _]) (cells := [_, _, _]) rfl Az η Cz η η) (Ad (u := .agg _) (y := au b_) rfl rfl underlying34 Az η J (fun _ => η) η ξ (ν) (ν) ω ?_))
 intro q_v44 v44 w45 E45 hov44 hlv44
 have fr := E45.size
 replace o := AI o E45 (fun g I => bM g I)
 replace j := j.evo E45 (by intro hm; have az := Option.mem_toList.1 hm; first | exact (a_ _ az).1 rfl | exact (a_ _ az).2 rfl) (by intro hm; have az := Option.mem_toList.1 hm; first | exact (a_ _ az).1 rfl | exact (a_ _ az).2 rfl)
 replace bM := C9 hlv44 bM ω
 replace a_ := Le hlv44 a_ ω ω
 have J := hov44
 refine Zn (AM (v := v44) rfl η) (AO (DC (db ++ de) ?_ ?_ ?_))
 rw [ct]; simp
 refine ⟨_, _, _, rfl, j, (by rw [QB]; exact J), bM, a_, (ZG (by rw [← ct]; exact hpmB)), ⟨by omega, by omega⟩, δ, o⟩
 exact ψ
 have e_ := F11.size
 replace o := Z1 o F11 ε
 replace I := bb _ o
 replace a1 := a1.evo F11 (by intro g I hm; simp at hm; subst hm; first | exact (a8 _ I).1 rfl | exact (a8 _ I).2 rfl | (have := a1.block I; omega))
 replace C := U
 clear U
 refine Zn (AX (v := .bool _) rfl η η) (AB (Ec η (AF (AD (Zs (Zo (GU rfl η C) (Zo (AX (v := S _) rfl η η) (Zo (AX (v := .int _ _) rfl η η) (Zo CD ?_)))))))))
 refine Zn Ah (AA (Zo (AP (v := ca) rfl η) (Zo Au (Zo AN (Zo (Aj (pv := [(0, .int _ _), (1, S _), (2, .int _ _)]) (zs := [_, _, _]) (cells := [_, _, _]) rfl Az η Cz η η) (Ad (u := .agg _) (y := YL 3 eh) rfl rfl underlying34 Az η a1 (fun _ => η) η ξ (ν) (ν) ω ?_))))))
 intro q_v46 v46 w47 E47 hov46 hlv46
 have fs := E47.size
 replace o := AI o E47 (fun g I => bL g I)
 replace C := C.evo E47 (by intro hm; have az := Option.mem_toList.1 hm; first | exact (a8 _ az).1 rfl | exact (a8 _ az).2 rfl) (by intro hm; have az := Option.mem_toList.1 hm; first | exact (a8 _ az).1 rfl | exact (a8 _ az).2 rfl)
 replace bL := C9 hlv46 bL ω
 replace a8 := Le hlv46 a8 ω ω
 have a1 := hov46
 refine Zn (AM (v := v46) rfl η) (AO (DC (da ++ dd) ?_ ?_ ?_))
 rw [c3]; simp
 refine ⟨_, _, _, rfl, C, (by rw [QB]; exact a1), bL, a8, (ZG (by rw [← c3]; exact hpmA)), ⟨by omega, by omega⟩, δ, o⟩
 exact ψ
theorem KU {f g : List Vc.Item} : ((¬((BE f).isSome = true ↔ (BE g).isSome = true) ∨ ¬ Wv f = Wv g) ∨ ¬ Wt f = Wt g) ↔ (((BE f).isSome ≠ (BE g).isSome ∨ ¬ sC f = sC g) ∨ ¬ sO f = sO g) := by
  have h1 : (¬((BE f).isSome = true ↔ (BE g).isSome = true)) ↔ ((BE f).isSome ≠ (BE g).isSome) := by rw [← Bool.eq_iff_iff]
  rw [h1]; exact Iff.rfl
set_option maxHeartbeats 1000000 in
theorem RR {v : Value} {base : Nat} {l : List Vc.Item} {ba : Option Addr} {bf bQ aT : Nat} {f : List Vc.Item} {bb : Option Addr} {bg og a1 : Nat} {gg : List Vc.Item} {w0 : World} (j : OwnE w0 base 39 v l) (ca : base ≤ w0.heap.size) (hf : ∀ w9, Evo w0 w9 v.ownBlock.toList → RowE w9 ba bf bQ aT f) (o : ∀ w9, Evo w0 w9 v.ownBlock.toList → RowE w9 bb bg og a1 gg) (bw : Tiny f) (bx : Tiny gg) (cr : l.length ≤ 10000000) :
    Calls Tryz.prog 64 #[v, .slice ba f.length aT, .slice bb gg.length a1] w0 fun e w' => ∃ v', e = .returned v' ∧ Evo w0 w' v.ownBlock.toList ∧ (OwnE w' base 39 v' (l ++ Bh f gg)) ∧ (∀ g, v'.ownBlock = some g → w0.heap.size ≤ g ∨ g ∈ v.ownBlock.toList) := by
 have I : (∀ g, v.ownBlock = some g → w0.heap.size ≤ g ∨ g ∈ v.ownBlock.toList) := fun g o => .inr (Option.mem_toList.2 o)
 refine AG (n := 45) func64 rfl ntmps64 rfl ?_
 have C : Evo w0 w0 v.ownBlock.toList := Evo.refl _ _
 have bn := hf
 replace hf := bn _ C
 have bc := hf.bd
 have U := o
 have bl := (U _ C).bd
 refine Zs (Zn Bs (Zs (Zo Ar (Zr [.slice _ _ _] rfl η func23 (MJ hf bw.small) ?_))))
 rintro e w1 ⟨a7, vq1, rfl, F1, ag, R⟩
 refine ⟨_, rfl, ?_⟩
 have Q1 := F1.size
 replace C := Z0 C F1
 replace j := j.evo0 F1
 replace o := U _ C
 refine Zo S4 (Zo (AX (v := a7) rfl η η) (Zo (AX (v := vq1) rfl η η) (Zo (AX (v := .bool _) rfl η η) (Zo (AM (v := a7) rfl η) (Zo (AM (v := vq1) rfl η) (Zn A6 (Zs (Zo Ar (Zr [.slice _ _ _] rfl η func23 (MJ o bx.small) ?_)))))))))
 rintro e w2 ⟨a8, vq2, rfl, F2, hop2, ao⟩
 refine ⟨_, rfl, ?_⟩
 have Q2 := F2.size
 replace C := Z0 C F2
 replace j := j.evo0 F2
 replace o := U _ C
 replace ag := ag.evo0 F2
 replace R := R.evo0 F2
 refine Zo S4 (Zo (AX (v := a8) rfl η η) (Zo (AX (v := vq2) rfl η η) (Zo (AX (v := .bool _) rfl η η) (Zo (AM (v := a8) rfl η) (Zo (AM (v := vq2) rfl η) (Zn A6 (AB (Zs (Zo (Bt rfl η) ?_)))))))))
 refine Zo (Bt rfl η) (Zo (TR rfl underlying4 η η) (Zo Br ?_))
 refine Ab rfl Ay rfl (fun o => AP (v := a7) rfl η) ?_
 refine Ab rfl Ay rfl (fun o => AP (v := a8) rfl η) ?_
 obtain ⟨b1, g3, b7, bz, bp, cb⟩ := ag.rowOf
 subst bz
 obtain ⟨b2, g4, b8, bF, bq, cc⟩ := hop2.rowOf
 subst bF
 refine Bb rfl Ay rfl (fun o => Am rfl (An (v := .slice _ _ _) (Af o) (An (v := .slice _ _ _) (Af o) (rfl))) func45 rfl ζ) (fun o => (L6 bp bq).mono (fun e w' h => ⟨h.1, h.2⟩)) (fun w5 F6 => ?_)
 have Q5 := F6.size
 replace C := Z0 C F6
 replace j := j.evo0 F6
 replace o := U _ C
 replace R := R.evo0 F6
 replace ao := ao.evo0 F6
 refine Ab rfl Ay rfl (fun o => CQ rfl (Af o)) ?_
 refine Zo Ee (Zo Br ?_)
 refine Ab rfl Ay rfl (fun o => AP (v := vq1) rfl η) ?_
 refine Ab rfl Ay rfl (fun o => AP (v := vq2) rfl η) ?_
 obtain ⟨b3, g7, b9, bL, bs, cg⟩ := R.rowOf
 subst bL
 obtain ⟨b4, g8, b_, bM, bt, cn⟩ := ao.rowOf
 subst bM
 refine Bb rfl Ay rfl (fun o => Am rfl (An (v := .slice _ _ _) (Af o) (An (v := .slice _ _ _) (Af o) (rfl))) func45 rfl ζ) (fun o => (L6 bs bt).mono (fun e w' h => ⟨h.1, h.2⟩)) (fun w9 F10 => ?_)
 have Q9 := F10.size
 replace C := Z0 C F10
 replace j := j.evo0 F10
 replace o := U _ C
 refine Ab rfl Ay rfl (fun o => CQ rfl (Af o)) ?_
 refine Zn Ee (AE η (fun J => ?_) (fun J => ?_))
 refine AA (Zo (AP (v := v) rfl η) (Zo (Aj (pv := [(0, .int _ _)]) (zs := [_, _, _]) (cells := [_, _, _]) rfl Az η Cz η η) (Ad (u := .agg _) (y := (⟨5, [], 0⟩ : Vc.Item)) rfl rfl underlying34 Az η j (fun _ => η) η ξ (ν) (ν) ω ?_)))
 intro q_v12 v12 w13 E13 hov12 hlv12
 have b0 := E13.size
 replace C := AI C E13 (fun g o => I g o)
 replace I := C9 hlv12 I ω
 have j := hov12
 refine Zn (AM (v := v12) rfl η) (Zs (Zo (AP (v := v12) rfl η) (Zn (AM (v := v12) rfl η) (AK (BN (v := v12) rfl η) ?_))))
 exact ⟨_, rfl, C, by first | (rw [show Bh f gg = _ from if_pos (KU.1 J)]; exact j) | (rw [show Bh f gg = [] from if_neg (fun q9 => J (KU.2 q9)), List.append_nil]; exact j), I⟩
 refine AF (Zs (Zo (AP (v := v) rfl η) (Zn (AM (v := v) rfl η) (AK (BN (v := v) rfl η) ?_))))
 exact ⟨_, rfl, C, by first | (rw [show Bh f gg = _ from if_pos (KU.1 J)]; exact j) | (rw [show Bh f gg = [] from if_neg (fun q9 => J (KU.2 q9)), List.append_nil]; exact j), I⟩
set_option maxHeartbeats 1000000 in
theorem Qx {v : Value} {base : Nat} {l : List Vc.Item} {l0 l1 l2 l3 l4 l5 l6 l7 l8 l9 l10 ag ao sh lo : Int} {bz : Option Addr} {bt ot a1 : Nat} {ts : List TermL} {bx : Option Addr} {bc oc aT : Nat} {cl : List Clas} {s t : AQ} {w0 : World} (j : OwnE w0 base 39 v l) (dt : base ≤ w0.heap.size) (b3 : RowRK w0 v.ownBlock.toList bz bt ot a1 ts) (b1 : RowRK w0 v.ownBlock.toList bx bc oc aT cl) (hn : (0 ≤ sh ∧ sh ≤ 100) ∧ (lo = 0 ∨ (100 ≤ lo ∧ lo ≤ 10000))) (dx : l.length ≤ 100000000) (hs : s.length ≤ 101000) (ht : t.length ≤ 101000) :
    Calls Tryz.prog 65 #[v, .agg #[.int .i64 l0, .int .i64 l1, .int .i64 l2, .int .i64 l3, .int .i64 l4, .int .i64 l5, .int .i64 l6, .int .i64 l7, .int .i64 l8, .int .i64 l9, .int .i64 l10, .int .i64 ag, .int .i64 ao, .int .i64 sh, .int .i64 lo, .slice bz ts.length a1, .slice bx cl.length aT], S s, S t] w0 fun e w' => ∃ v', e = .returned v' ∧ Evo w0 w' v.ownBlock.toList ∧ (OwnE w' base 39 v' (l ++ CW (⟨[l0, l1, l2, l3, l4, l5, l6, l7, l8, l9, l10, ag, ao], sh, lo, ts, cl⟩ : Chk) s t)) ∧ (∀ g, v'.ownBlock = some g → w0.heap.size ≤ g ∨ g ∈ v.ownBlock.toList) := by
 have o : (∀ g, v.ownBlock = some g → w0.heap.size ≤ g ∨ g ∈ v.ownBlock.toList) := fun g R => .inr (Option.mem_toList.2 R); have cr := fun g R => (j.block (g := g) R).2
 refine AG (n := 106) func65 rfl ntmps65 rfl ?_
 have J : Evo w0 w0 v.ownBlock.toList := Evo.refl _ _
 have a_ := b3
 have cc := (a_.now J).bd
 have a8 := b1
 have cb := (a8.now J).bd
 refine Zs ?_
 have de := fun g R => (j.block (g := g) R).2
 refine Ch (vs := [_, _, _, _, _, _, _, _, _, _, _, _, _, _, _, _, _]) η η rfl ?_
 intro b2 w3 J2 E3 B2 Y2
 have Q3 := E3.size
 replace J := Z0 J E3
 replace j := j.evo0 E3
 have C := B2.at
 refine Zn Bs (AB ?_)
 have I : ∀ g, v.ownBlock = some g → g ≠ b2 := fun g R => by have h7 := cr g R; omega
 have : (CB s t).length ≤ 1 := EY
 have : (CN s t).length ≤ 1 := EY
 have : (ET t).length ≤ 1 := EY
 have : (DG s t).length ≤ 1 := EY
 have : (Dh (⟨[l0, l1, l2, l3, l4, l5, l6, l7, l8, l9, l10, ag, ao], sh, lo, ts, cl⟩ : Chk) s t).length ≤ 1 := EY
 have : (DM (⟨[l0, l1, l2, l3, l4, l5, l6, l7, l8, l9, l10, ag, ao], sh, lo, ts, cl⟩ : Chk) s t).length ≤ 1 := EY
 have dv := Yn hn.2 (show s.length ≤ 101000 by omega); have dw := Tq hn.1.1 (show sh ≤ 10000 by omega) (show (0 : Int) ≤ (s.length : Nat) by omega) (show ((s.length : Nat) : Int) ≤ 101000 by omega)
 refine AA (Zo Au (Zr [S _] rfl η func109 (Mj ω) ?_))
 rintro e w4 ⟨rfl, F4⟩
 refine ⟨_, rfl, ?_⟩
 have Q4 := F4.size
 replace J := Z0 J F4
 replace j := j.evo0 F4
 replace B2 := B2.evo0 F4
 replace C := C.evo0 F4
 refine Zo S4 (Zo (AX (v := S _) rfl η η) (Zo (AX (v := S _) rfl η η) (Zo CD (Zn CD (Zs (Zo Au (Zr [S _] rfl η func109 (Mj ω) ?_)))))))
 rintro e w5 ⟨rfl, F5⟩
 refine ⟨_, rfl, ?_⟩
 have Q5 := F5.size
 replace J := Z0 J F5
 replace j := j.evo0 F5
 replace b3 := a_.now J
 replace b1 := a8.now J
 replace B2 := B2.evo0 F5
 replace C := C.evo0 F5
 refine Zo S4 (Zo (AX (v := S _) rfl η η) (Zo (AX (v := S _) rfl η η) (Zo CD (Zn CD (AB (Zs (Zo Au (Zo Au (Zn (CR rfl η η) ?_)))))))))
 refine C1 [0, 28, 29, 30, 31] (fun g w => ∃ vo : Value, g 0 = vo ∧ OwnE w base 39 vo (l ++ (CB s t)) ∧ (∀ g, vo.ownBlock = some g → w0.heap.size ≤ g ∨ g ∈ v.ownBlock.toList) ∧ (∀ g, vo.ownBlock = some g → g ≠ b2) ∧ Blk w b2 28 [.int .i64 l0, .int .i64 l1, .int .i64 l2, .int .i64 l3, .int .i64 l4, .int .i64 l5, .int .i64 l6, .int .i64 l7, .int .i64 l8, .int .i64 l9, .int .i64 l10, .int .i64 ag, .int .i64 ao, .int .i64 sh, .int .i64 lo, .slice bz ts.length a1, .slice bx cl.length aT] ∧ w5.heap.size ≤ w.heap.size ∧ Evo w0 w v.ownBlock.toList) ?_ ?_
 refine AE η (fun b4 => ?_) (fun b4 => ?_)
 refine AA (Zo (AP (v := v) rfl η) (Zo (Aj (pv := [(0, .int _ _), (1, S _)]) (zs := [_, _, _]) (cells := [_, _, _]) rfl Az η Cz η η) (Ad (u := .agg _) (y := (⟨7, aL, 0⟩ : Vc.Item)) rfl rfl underlying34 Az η j (fun _ => η) η ξ (ν) (ν) ω ?_)))
 intro q_v8 v8 w9 E9 hov8 hlv8
 have Q9 := E9.size
 replace J := AI J E9 (fun g R => o g R)
 replace B2 := B2.evo E9 (by intro hm; have U := Option.mem_toList.1 hm; exact I _ U rfl)
 replace C := C.evo E9 (by intro hm; have U := Option.mem_toList.1 hm; exact I _ U rfl)
 replace I := Jf hlv8 I ω
 replace o := C9 hlv8 o ω
 have j := hov8
 refine Zn (AM (v := v8) rfl η) (Ae ?_ ?_)
 refine ⟨_, rfl, (by first | (rw [show (CB s t) = _ from if_pos b4]; exact j) | (rw [show (CB s t) = [] from if_neg b4, List.append_nil]; exact j)), o, I, B2, δ, J⟩
 exact ψ
 refine AF (Ae ?_ ?_)
 refine ⟨_, rfl, (by first | (rw [show (CB s t) = _ from if_pos b4]; exact j) | (rw [show (CB s t) = [] from if_neg b4, List.append_nil]; exact j)), o, I, B2, δ, J⟩
 exact ψ
 rintro g c4 ⟨vo, hj11, j, o, I, B2, hzl6, J⟩
 have b5 := J.size
 have cH := B2.lt
 replace b3 := a_.now J
 replace b1 := a8.now J
 have C := B2.at
 refine Zk 0 hj11 (AB (Zs (Zo Au (Zo Au (Zn (CR rfl η η) (C1 [0, 35, 36, 37, 38] (fun g w => ∃ vo : Value, g 0 = vo ∧ OwnE w base 39 vo ((l ++ (CB s t)) ++ (CN s t)) ∧ (∀ g, vo.ownBlock = some g → w0.heap.size ≤ g ∨ g ∈ v.ownBlock.toList) ∧ (∀ g, vo.ownBlock = some g → g ≠ b2) ∧ Blk w b2 28 [.int .i64 l0, .int .i64 l1, .int .i64 l2, .int .i64 l3, .int .i64 l4, .int .i64 l5, .int .i64 l6, .int .i64 l7, .int .i64 l8, .int .i64 l9, .int .i64 l10, .int .i64 ag, .int .i64 ao, .int .i64 sh, .int .i64 lo, .slice bz ts.length a1, .slice bx cl.length aT] ∧ c4.heap.size ≤ w.heap.size ∧ Evo w0 w v.ownBlock.toList) ?_ ?_))))))
 refine AE η (fun bL => ?_) (fun bL => ?_)
 refine AA (Zo (AP (v := vo) rfl η) (Zo (Aj (pv := [(0, .int _ _), (1, S _)]) (zs := [_, _, _]) (cells := [_, _, _]) rfl Az η Cz η η) (Ad (u := .agg _) (y := (⟨7, aM, 0⟩ : Vc.Item)) rfl rfl underlying34 Az η j (fun _ => η) η ξ (ν) (ν) ω ?_)))
 intro q_v15 v15 w16 E16 hov15 hlv15
 have df := E16.size
 replace J := AI J E16 (fun g R => o g R)
 replace B2 := B2.evo E16 (by intro hm; have U := Option.mem_toList.1 hm; exact I _ U rfl)
 replace C := C.evo E16 (by intro hm; have U := Option.mem_toList.1 hm; exact I _ U rfl)
 replace I := Jf hlv15 I ω
 replace o := C9 hlv15 o ω
 have j := hov15
 refine Zn (AM (v := v15) rfl η) (Ae ?_ ?_)
 refine ⟨_, rfl, (by first | (rw [show (CN s t) = _ from if_pos bL]; exact j) | (rw [show (CN s t) = [] from if_neg bL, List.append_nil]; exact j)), o, I, B2, δ, J⟩
 exact ψ
 refine AF (Ae ?_ ?_)
 refine ⟨_, rfl, (by first | (rw [show (CN s t) = _ from if_pos bL]; exact j) | (rw [show (CN s t) = [] from if_neg bL, List.append_nil]; exact j)), o, I, B2, δ, J⟩
 exact ψ
 rintro g c9 ⟨vo, hj18, j, o, I, B2, hzl13, J⟩
 have b6 := J.size
 have cI := B2.lt
 replace b3 := a_.now J
 replace b1 := a8.now J
 have C := B2.at
 refine Zk 0 hj18 (Zs (Zn Ah (AB (Zs (Zo Au (Zo (Al rfl η underlying9) (Zn AN (AD (AZ (α := Nat) [13, 14, 41, 42, 43, 44, 45, 46, 47, 48, 49, 50] (fun k g w => g 41 = .int .i64 (k : Nat) ∧ g 13 = .int .i64 (IJ t k : Nat) ∧ k ≤ t.length ∧ Blk w b2 28 [.int .i64 l0, .int .i64 l1, .int .i64 l2, .int .i64 l3, .int .i64 l4, .int .i64 l5, .int .i64 l6, .int .i64 l7, .int .i64 l8, .int .i64 l9, .int .i64 l10, .int .i64 ag, .int .i64 ao, .int .i64 sh, .int .i64 lo, .slice bz ts.length a1, .slice bx cl.length aT] ∧ OwnE w base 39 vo ((l ++ (CB s t)) ++ (CN s t)) ∧ c9.heap.size ≤ w.heap.size ∧ Evo w0 w v.ownBlock.toList) (fun k => t.length - k) 0 ?_ ?_)))))))))
 refine ⟨σ, rfl, δ, B2, j, δ, J⟩
 rintro k g c_ ⟨cn, hj23, hk_k, B2, j, hzl20, J⟩
 have b7 := J.size
 have cK := B2.lt
 replace b3 := a_.now J
 replace b1 := a8.now J
 have C := B2.at
 refine Zk 41 cn (Zk 13 hj23 ?_)
 have du := Ue t k
 refine Zs (Zn Bu (AB (AE η (fun cg => ?_) (fun cg => ?_))))
 refine AF (AB (AD (Zs (Zo AN (Zn Ah (Zs (Zo Au (Zo AN (Zo (by exact BP (k) (_) rfl underlying9 η (at1 η ω) TS τ τ) ?_)))))))))
 refine Zr [S _, S _] rfl η func110 (UP θ υ) ?_
 rintro e dO ⟨rfl, F26⟩
 refine ⟨_, rfl, ?_⟩
 have dh := F26.size
 replace J := Z0 J F26
 replace B2 := B2.evo0 F26
 replace j := j.evo0 F26
 replace C := C.evo0 F26
 refine As (D8 η (fun bM => ?_) (fun bM => ?_))
 refine AA (Zo AN (Zo A8 (Zn Ah (AO (AA (Zo A8 (Zn AN (Zg (k + 1) ?_))))))))
 refine ⟨σ, (by first | exact congrArg (Value.int _) (by rw [SR ω (by have h9 := bM; rw [L1] at h9; simpa using h9)]; omega) | exact congrArg (Value.int _) (by rw [Uj ω (by have h9 := bM; rw [L1] at h9; simpa using h9)])), δ, B2, j, δ, J⟩
 refine AF (AO (AA (Zo A8 (Zn AN (Zg (k + 1) ?_)))))
 refine ⟨σ, (by first | exact congrArg (Value.int _) (by rw [SR ω (by have h9 := bM; rw [L1] at h9; simpa using h9)]; omega) | exact congrArg (Value.int _) (by rw [Uj ω (by have h9 := bM; rw [L1] at h9; simpa using h9)])), δ, B2, j, δ, J⟩
 refine AW rfl (AB (AB ?_))
 have ct : IJ t k = Nj t := by rw [show k = t.length by omega]; rfl
 refine Zk 13 (v := .int .i64 (Nj t : Nat)) (by rw [← ct]; exact rfl) (AA (Zo AN (Zn IG (C1 [0, 53, 54, 55, 56, 57] (fun g w => ∃ vo : Value, g 0 = vo ∧ OwnE w base 39 vo (((l ++ (CB s t)) ++ (CN s t)) ++ (ET t)) ∧ (∀ g, vo.ownBlock = some g → w0.heap.size ≤ g ∨ g ∈ v.ownBlock.toList) ∧ (∀ g, vo.ownBlock = some g → g ≠ b2) ∧ Blk w b2 28 [.int .i64 l0, .int .i64 l1, .int .i64 l2, .int .i64 l3, .int .i64 l4, .int .i64 l5, .int .i64 l6, .int .i64 l7, .int .i64 l8, .int .i64 l9, .int .i64 l10, .int .i64 ag, .int .i64 ao, .int .i64 sh, .int .i64 lo, .slice bz ts.length a1, .slice bx cl.length aT] ∧ c_.heap.size ≤ w.heap.size ∧ Evo w0 w v.ownBlock.toList) ?_ ?_))))
 refine AE η (fun bQ => ?_) (fun bQ => ?_)
 refine AA (Zo (AP (v := vo) rfl η) (Zo AN (Zo (Aj (pv := [(0, .int _ _), (2, .int _ _)]) (zs := [_, _, _]) (cells := [_, _, _]) rfl Az η Cz η η) (Ad (u := .agg _) (y := (⟨8, [], (Nj t : Nat)⟩ : Vc.Item)) rfl rfl underlying34 Az η j (fun _ => η) η ξ (ν) (ν) ω ?_))))
 intro q_v30 v30 w31 E31 hov30 hlv30
 have di := E31.size
 replace J := AI J E31 (fun g R => o g R)
 replace B2 := B2.evo E31 (by intro hm; have U := Option.mem_toList.1 hm; exact I _ U rfl)
 replace C := C.evo E31 (by intro hm; have U := Option.mem_toList.1 hm; exact I _ U rfl)
 replace I := Jf hlv30 I ω
 replace o := C9 hlv30 o ω
 have j := hov30
 refine Zn (AM (v := v30) rfl η) (Ae ?_ ?_)
 refine ⟨_, rfl, (by first | (rw [show (ET t) = _ from if_pos (by have h9 := bQ; omega)]; exact j) | (rw [show (ET t) = [] from if_neg (by have h9 := bQ; omega), List.append_nil]; exact j)), o, I, B2, δ, J⟩
 exact ψ
 refine AF (Ae ?_ ?_)
 refine ⟨_, rfl, (by first | (rw [show (ET t) = _ from if_pos (by have h9 := bQ; omega)]; exact j) | (rw [show (ET t) = [] from if_neg (by have h9 := bQ; omega), List.append_nil]; exact j)), o, I, B2, δ, J⟩
 exact ψ
 rintro g dQ ⟨vo, hj33, j, o, I, B2, hzl28, J⟩
 have b8 := J.size
 have cQ := B2.lt
 have C := B2.at
 refine Zk 0 hj33 (AB (Zs (Zo Au (Zr [S _] rfl η func111 (Ju ω) ?_))))
 rintro e dR ⟨rfl, F35⟩
 refine ⟨_, rfl, ?_⟩
 have dj := F35.size
 replace J := Z0 J F35
 replace j := j.evo0 F35
 replace B2 := B2.evo0 F35
 replace C := C.evo0 F35
 refine Zo Au (Zr [S _] rfl η func111 (Ju ω) ?_)
 rintro e da ⟨rfl, F36⟩
 refine ⟨_, rfl, ?_⟩
 have dk := F36.size
 replace J := Z0 J F36
 replace b3 := a_.now J
 replace b1 := a8.now J
 replace j := j.evo0 F36
 replace B2 := B2.evo0 F36
 replace C := C.evo0 F36
 refine Zn (CR rfl η η) (C1 [0, 63, 64, 65, 66, 67, 68] (fun g w => ∃ vo : Value, g 0 = vo ∧ OwnE w base 39 vo ((((l ++ (CB s t)) ++ (CN s t)) ++ (ET t)) ++ (DG s t)) ∧ (∀ g, vo.ownBlock = some g → w0.heap.size ≤ g ∨ g ∈ v.ownBlock.toList) ∧ (∀ g, vo.ownBlock = some g → g ≠ b2) ∧ Blk w b2 28 [.int .i64 l0, .int .i64 l1, .int .i64 l2, .int .i64 l3, .int .i64 l4, .int .i64 l5, .int .i64 l6, .int .i64 l7, .int .i64 l8, .int .i64 l9, .int .i64 l10, .int .i64 ag, .int .i64 ao, .int .i64 sh, .int .i64 lo, .slice bz ts.length a1, .slice bx cl.length aT] ∧ da.heap.size ≤ w.heap.size ∧ Evo w0 w v.ownBlock.toList) ?_ ?_)
 refine AE η (fun bW => ?_) (fun bW => ?_)
 refine AA (Zo (AP (v := vo) rfl η) (Zo Au (Zr [S _] rfl η func111 (Ju ω) ?_)))
 rintro e dS ⟨rfl, F39⟩
 refine ⟨_, rfl, ?_⟩
 have dm := F39.size
 replace J := Z0 J F39
 replace j := j.evo0 F39
 replace B2 := B2.evo0 F39
 replace C := C.evo0 F39
 refine Zo (Aj (pv := [(0, .int _ _), (1, S _)]) (zs := [_, _, _]) (cells := [_, _, _]) rfl Az η Cz η η) (Ad (u := .agg _) (y := (⟨9, Gt t, 0⟩ : Vc.Item)) rfl rfl underlying34 Az η j (fun _ => η) η ξ (ν) (ν) ω ?_)
 intro q_v40 v40 w41 E41 hov40 hlv40
 have dn := E41.size
 replace J := AI J E41 (fun g R => o g R)
 replace B2 := B2.evo E41 (by intro hm; have U := Option.mem_toList.1 hm; exact I _ U rfl)
 replace C := C.evo E41 (by intro hm; have U := Option.mem_toList.1 hm; exact I _ U rfl)
 replace I := Jf hlv40 I ω
 replace o := C9 hlv40 o ω
 have j := hov40
 refine Zn (AM (v := v40) rfl η) (Ae ?_ ?_)
 refine ⟨_, rfl, (by first | (rw [show (DG s t) = _ from if_pos bW]; exact j) | (rw [show (DG s t) = [] from if_neg bW, List.append_nil]; exact j)), o, I, B2, δ, J⟩
 exact ψ
 refine AF (Ae ?_ ?_)
 refine ⟨_, rfl, (by first | (rw [show (DG s t) = _ from if_pos bW]; exact j) | (rw [show (DG s t) = [] from if_neg bW, List.append_nil]; exact j)), o, I, B2, δ, J⟩
 exact ψ
 rintro g db ⟨vo, hj43, j, o, I, B2, hzl37, J⟩
 have b9 := J.size
 have cR := B2.lt
 replace b3 := a_.now J
 replace b1 := a8.now J
 have C := B2.at
 refine Zk 0 hj43 (AB (Zs (Zo (AJ rfl η FU) (Zo (AH rfl A0 η (C.cell 14 η)) (Zo (BD rfl η η) (Zo Br ?_))))))
 refine Ab rfl Aq rfl (fun R => Au) ?_
 refine Ab rfl Aq rfl (fun R => Al rfl (Af R) underlying9) ?_
 refine Ab rfl Aq rfl (fun R => Fw rfl η (Af R) ω ω) ?_
 refine Ab rfl Aq rfl (fun R => AJ rfl η FU) ?_
 refine Ab rfl Aq rfl (fun R => AH rfl A0 (Af R) (C.cell 14 η)) ?_
 refine Ab rfl Aq rfl (fun R => Au) ?_
 refine Ab rfl Aq rfl (fun R => Al rfl (Af R) underlying9) ?_
 refine Ab rfl Aq rfl (fun R => Fw rfl (Af R) (Af R) ω ω) ?_
 refine Ab rfl Aq rfl (fun R => Bf rfl (Af R) (Af R)) ?_
 refine Zn Fm (C1 [0, 83, 84, 85, 86] (fun g w => ∃ vo : Value, g 0 = vo ∧ OwnE w base 39 vo (((((l ++ (CB s t)) ++ (CN s t)) ++ (ET t)) ++ (DG s t)) ++ (Dh (⟨[l0, l1, l2, l3, l4, l5, l6, l7, l8, l9, l10, ag, ao], sh, lo, ts, cl⟩ : Chk) s t)) ∧ (∀ g, vo.ownBlock = some g → w0.heap.size ≤ g ∨ g ∈ v.ownBlock.toList) ∧ (∀ g, vo.ownBlock = some g → g ≠ b2) ∧ Blk w b2 28 [.int .i64 l0, .int .i64 l1, .int .i64 l2, .int .i64 l3, .int .i64 l4, .int .i64 l5, .int .i64 l6, .int .i64 l7, .int .i64 l8, .int .i64 l9, .int .i64 l10, .int .i64 ag, .int .i64 ao, .int .i64 sh, .int .i64 lo, .slice bz ts.length a1, .slice bx cl.length aT] ∧ db.heap.size ≤ w.heap.size ∧ Evo w0 w v.ownBlock.toList) ?_ ?_)
 refine AE η (fun bY => ?_) (fun bY => ?_)
 refine AA (Zo (AP (v := vo) rfl η) (Zo (Aj (pv := [(0, .int _ _), (1, S _)]) (zs := [_, _, _]) (cells := [_, _, _]) rfl Az η Cz η η) (Ad (u := .agg _) (y := (⟨12, U4, 0⟩ : Vc.Item)) rfl rfl underlying34 Az η j (fun _ => η) η ξ (ν) (ν) ω ?_)))
 intro q_v47 v47 w48 E48 hov47 hlv47
 have dp := E48.size
 replace J := AI J E48 (fun g R => o g R)
 replace B2 := B2.evo E48 (by intro hm; have U := Option.mem_toList.1 hm; exact I _ U rfl)
 replace C := C.evo E48 (by intro hm; have U := Option.mem_toList.1 hm; exact I _ U rfl)
 replace I := Jf hlv47 I ω
 replace o := C9 hlv47 o ω
 have j := hov47
 refine Zn (AM (v := v47) rfl η) (Ae ?_ ?_)
 refine ⟨_, rfl, (by first | (rw [show (Dh (⟨[l0, l1, l2, l3, l4, l5, l6, l7, l8, l9, l10, ag, ao], sh, lo, ts, cl⟩ : Chk) s t) = _ from if_pos bY]; exact j) | (rw [show (Dh (⟨[l0, l1, l2, l3, l4, l5, l6, l7, l8, l9, l10, ag, ao], sh, lo, ts, cl⟩ : Chk) s t) = [] from if_neg bY, List.append_nil]; exact j)), o, I, B2, δ, J⟩
 exact ψ
 refine AF (Ae ?_ ?_)
 refine ⟨_, rfl, (by first | (rw [show (Dh (⟨[l0, l1, l2, l3, l4, l5, l6, l7, l8, l9, l10, ag, ao], sh, lo, ts, cl⟩ : Chk) s t) = _ from if_pos bY]; exact j) | (rw [show (Dh (⟨[l0, l1, l2, l3, l4, l5, l6, l7, l8, l9, l10, ag, ao], sh, lo, ts, cl⟩ : Chk) s t) = [] from if_neg bY, List.append_nil]; exact j)), o, I, B2, δ, J⟩
 exact ψ
 rintro g dc ⟨vo, hj50, j, o, I, B2, hzl45, J⟩
 have b_ := J.size
 have cV := B2.lt
 have C := B2.at
 refine Zk 0 hj50 (AB (Zs (Zo (AJ rfl η Gv) (Zo (AH rfl A0 η (C.cell 13 η)) (Zo (BD rfl η η) (Zo Br ?_))))))
 refine Ab rfl Aq rfl (fun R => Au) ?_
 refine Ab rfl Aq rfl (fun R => Al rfl (Af R) underlying9) ?_
 refine Ab rfl Aq rfl (fun R => Fw rfl η (Af R) ω ω) ?_
 refine Ab rfl Aq rfl (fun R => AJ rfl η Gv) ?_
 refine Ab rfl Aq rfl (fun R => AH rfl A0 (Af R) (C.cell 13 η)) ?_
 refine Ab rfl Aq rfl (fun R => Au) ?_
 refine Ab rfl Aq rfl (fun R => Al rfl (Af R) underlying9) ?_
 refine Ab rfl Aq rfl (fun R => Fw rfl (Af R) (Af R) ω ω) ?_
 refine Ab rfl Aq rfl (fun R => Cx rfl (Af R) (Af R)) ?_
 refine Zn Fm (C1 [0, 101, 102, 103, 104] (fun g w => ∃ vo : Value, g 0 = vo ∧ OwnE w base 39 vo ((((((l ++ (CB s t)) ++ (CN s t)) ++ (ET t)) ++ (DG s t)) ++ (Dh (⟨[l0, l1, l2, l3, l4, l5, l6, l7, l8, l9, l10, ag, ao], sh, lo, ts, cl⟩ : Chk) s t)) ++ (DM (⟨[l0, l1, l2, l3, l4, l5, l6, l7, l8, l9, l10, ag, ao], sh, lo, ts, cl⟩ : Chk) s t)) ∧ (∀ g, vo.ownBlock = some g → w0.heap.size ≤ g ∨ g ∈ v.ownBlock.toList) ∧ (∀ g, vo.ownBlock = some g → g ≠ b2) ∧ Blk w b2 28 [.int .i64 l0, .int .i64 l1, .int .i64 l2, .int .i64 l3, .int .i64 l4, .int .i64 l5, .int .i64 l6, .int .i64 l7, .int .i64 l8, .int .i64 l9, .int .i64 l10, .int .i64 ag, .int .i64 ao, .int .i64 sh, .int .i64 lo, .slice bz ts.length a1, .slice bx cl.length aT] ∧ dc.heap.size ≤ w.heap.size ∧ Evo w0 w v.ownBlock.toList) ?_ ?_)
 refine AE η (fun b0 => ?_) (fun b0 => ?_)
 refine AA (Zo (AP (v := vo) rfl η) (Zo (Aj (pv := [(0, .int _ _), (1, S _)]) (zs := [_, _, _]) (cells := [_, _, _]) rfl Az η Cz η η) (Ad (u := .agg _) (y := (⟨12, RW, 0⟩ : Vc.Item)) rfl rfl underlying34 Az η j (fun _ => η) η ξ (ν) (ν) ω ?_)))
 intro q_v54 v54 w55 E55 hov54 hlv54
 have dq := E55.size
 replace J := AI J E55 (fun g R => o g R)
 replace B2 := B2.evo E55 (by intro hm; have U := Option.mem_toList.1 hm; exact I _ U rfl)
 replace C := C.evo E55 (by intro hm; have U := Option.mem_toList.1 hm; exact I _ U rfl)
 replace I := Jf hlv54 I ω
 replace o := C9 hlv54 o ω
 have j := hov54
 refine Zn (AM (v := v54) rfl η) (Ae ?_ ?_)
 refine ⟨_, rfl, (by first | (rw [show (DM (⟨[l0, l1, l2, l3, l4, l5, l6, l7, l8, l9, l10, ag, ao], sh, lo, ts, cl⟩ : Chk) s t) = _ from if_pos b0]; exact j) | (rw [show (DM (⟨[l0, l1, l2, l3, l4, l5, l6, l7, l8, l9, l10, ag, ao], sh, lo, ts, cl⟩ : Chk) s t) = [] from if_neg b0, List.append_nil]; exact j)), o, I, B2, δ, J⟩
 exact ψ
 refine AF (Ae ?_ ?_)
 refine ⟨_, rfl, (by first | (rw [show (DM (⟨[l0, l1, l2, l3, l4, l5, l6, l7, l8, l9, l10, ag, ao], sh, lo, ts, cl⟩ : Chk) s t) = _ from if_pos b0]; exact j) | (rw [show (DM (⟨[l0, l1, l2, l3, l4, l5, l6, l7, l8, l9, l10, ag, ao], sh, lo, ts, cl⟩ : Chk) s t) = [] from if_neg b0, List.append_nil]; exact j)), o, I, B2, δ, J⟩
 exact ψ
 rintro g dU ⟨vo, hj57, j, o, I, B2, hzl52, J⟩
 have ca := J.size
 have c0 := B2.lt
 refine Zk 0 hj57 (Zs (Zo (AP (v := vo) rfl η) (Zn (AM (v := vo) rfl η) (AK (BN (v := vo) rfl η) ?_))))
 exact ⟨_, rfl, J, by unfold CW; have h9 := j; simp only [List.append_assoc] at h9 ⊢; exact h9, o⟩
set_option maxHeartbeats 2000000 in
theorem Sd {v : Value} {base : Nat} {l : List Vc.Item} {l0 l1 l2 l3 l4 l5 l6 l7 l8 l9 l10 ag ao sh lo : Int} {bx : Option Addr} {bt ot a8 : Nat} {ts : List TermL} {bw : Option Addr} {bc oc a7 : Nat} {cl : List Clas} {dd : Option Addr} {bp op ca : Nat} {I : List Vc.Item} {de : Option Addr} {bq oq cb : Nat} {J : List Vc.Item} {w0 : World} (j : OwnE w0 base 39 v l) (eE : base ≤ w0.heap.size) (bf : RowRK w0 v.ownBlock.toList bx bt ot a8 ts) (bm : RowRK w0 v.ownBlock.toList bw bc oc a7 cl) (hp : ∀ w9, Evo w0 w9 v.ownBlock.toList → RowE w9 dd bp op ca I) (hq : ∀ w9, Evo w0 w9 v.ownBlock.toList → RowE w9 de bq oq cb J) (dv : ∀ x ∈ I, x.text.length ≤ 140737488355328) (dw : ∀ x ∈ J, x.text.length ≤ 140737488355328) (eL : I.length ≤ 1000000) (eM : J.length ≤ 1000000) (eK : l.length ≤ 100000000) (hz : ts.length ≤ 40) (dn : ∀ x ∈ ts, IH x) :
    Calls Tryz.prog 67 #[v, .agg #[.int .i64 l0, .int .i64 l1, .int .i64 l2, .int .i64 l3, .int .i64 l4, .int .i64 l5, .int .i64 l6, .int .i64 l7, .int .i64 l8, .int .i64 l9, .int .i64 l10, .int .i64 ag, .int .i64 ao, .int .i64 sh, .int .i64 lo, .slice bx ts.length a8, .slice bw cl.length a7], .slice dd I.length ca, .slice de J.length cb] w0 fun e w' => ∃ v', e = .returned v' ∧ Evo w0 w' v.ownBlock.toList ∧ (OwnE w' base 39 v' (l ++ (BR J ts (Aa ts.length (AR I (BG cl ts) 0))).map (Gf (⟨[l0, l1, l2, l3, l4, l5, l6, l7, l8, l9, l10, ag, ao], sh, lo, ts, cl⟩ : Chk)) ++ (BZ J ts [] (Aa ts.length (AR I (BG cl ts) 0))).map Jb)) ∧ (∀ g, v'.ownBlock = some g → w0.heap.size ≤ g ∨ g ∈ v.ownBlock.toList) := by
 have C : (∀ g, v.ownBlock = some g → w0.heap.size ≤ g ∨ g ∈ v.ownBlock.toList) := fun g U => .inr (Option.mem_toList.2 U); have dp := fun g U => (j.block (g := g) U).2
 refine AG (n := 57) func67 rfl ntmps67 rfl ?_
 have o : Evo w0 w0 v.ownBlock.toList := Evo.refl _ _
 have a6 := bf
 have di := (a6.now o).bd
 have bb := bm
 have dh := (bb.now o).bd
 have bz := hp
 have dO := (bz _ o).bd
 have bF := hq
 have dQ := (bF _ o).bd
 refine Zs ?_
 have en := fun g U => (j.block (g := g) U).2
 refine Ch (vs := [_, _, _, _, _, _, _, _, _, _, _, _, _, _, _, _, _]) η η rfl ?_
 intro b2 w3 J2 E3 B2 Y2
 have Q3 := E3.size
 replace o := Z0 o E3
 replace j := j.evo0 E3
 replace bf := a6.now o
 replace bm := bb.now o
 replace hp := bz _ o
 replace hq := bF _ o
 have R := B2.at
 refine Zn Bs (AB (AB ?_))
 have bn : ∀ g, v.ownBlock = some g → g ≠ b2 := fun g U => by have h7 := dp g U; omega
 have dq := fun g U => (j.block (g := g) U).2
 refine AA (Zo (AJ rfl η Fa) (Zo (AH rfl K1 η (R.cell 15 η)) (Zo (AJ rfl η GB) (Zo (AH rfl MG η (R.cell 16 η)) (Zo Ar (Zo Ar (Zr [.slice bx ts.length a8, .slice bw cl.length a7, .slice _ _ _, .slice _ _ _] rfl η func112 (O2 bf bm hp dv ω ω hq dw ω) ?_)))))))
 rintro e w4 ⟨eT, rfl, F4, hoM4⟩
 refine ⟨_, rfl, ?_⟩
 have Q4 := F4.size
 replace o := Z0 o F4
 replace j := j.evo0 F4
 replace bf := a6.now o
 replace bm := bb.now o
 replace hp := bz _ o
 replace hq := bF _ o
 replace B2 := B2.evo0 F4
 replace R := R.evo0 F4
 refine Zo (Bn rfl η underlying22 hoM4) (Zn AN (AD ?_))
 have eI := HK J ts (Aa ts.length (AR I (BG cl ts) 0)); have eF := DX ts.length (AR I (BG cl ts) 0); have eJ := Gd (BR J ts (Aa ts.length (AR I (BG cl ts) 0)))
 obtain ⟨eu, g5, eA, ed, ec, dY⟩ := hoM4.rowOf
 subst ed
 have a_ : Evo w4 w4 v.ownBlock.toList := Evo.refl _ _
 have cc := fun w9 (h9 : Evo w4 w9 v.ownBlock.toList) => Cg ec h9 (fun cV hm => by have h2 := (dY cV).2; have h7 := dq _ (Option.mem_toList.1 hm); omega)
 have aT : ∀ g, v.ownBlock = some g → w4.heap.size ≤ g ∨ g ∈ v.ownBlock.toList := fun g U => .inr (Option.mem_toList.2 U)
 refine AZ (α := Nat) [0, 10, 21, 22, 23, 24, 25, 26, 27, 28, 29, 30, 31, 32, 33, 34, 35, 36, 37] (fun k g w => ∃ vo : Value, g 21 = .int .i64 (k : Nat) ∧ g 0 = vo ∧ k ≤ (Fp (BR J ts (Aa ts.length (AR I (BG cl ts) 0)))).length ∧ OwnE w base 39 vo (l ++ ((BR J ts (Aa ts.length (AR I (BG cl ts) 0))).take k).map (Gf (⟨[l0, l1, l2, l3, l4, l5, l6, l7, l8, l9, l10, ag, ao], sh, lo, ts, cl⟩ : Chk))) ∧ (∀ g, vo.ownBlock = some g → w0.heap.size ≤ g ∨ g ∈ v.ownBlock.toList) ∧ (∀ g, vo.ownBlock = some g → w4.heap.size ≤ g ∨ g ∈ v.ownBlock.toList) ∧ (∀ g, vo.ownBlock = some g → g ≠ b2) ∧ Blk w b2 28 [.int .i64 l0, .int .i64 l1, .int .i64 l2, .int .i64 l3, .int .i64 l4, .int .i64 l5, .int .i64 l6, .int .i64 l7, .int .i64 l8, .int .i64 l9, .int .i64 l10, .int .i64 ag, .int .i64 ao, .int .i64 sh, .int .i64 lo, .slice bx ts.length a8, .slice bw cl.length a7] ∧ w4.heap.size ≤ w.heap.size ∧ Evo w0 w v.ownBlock.toList ∧ Evo w4 w v.ownBlock.toList) (fun k => (Fp (BR J ts (Aa ts.length (AR I (BG cl ts) 0)))).length - k) 0 ?_ ?_
 refine ⟨_, σ, rfl, δ, (by rw [List.take_zero, List.map_nil, List.append_nil]; exact j), C, aT, bn, B2, δ, o, a_⟩
 rintro k g w7 ⟨vo, hj8, hj9, hk_k, j, C, aT, bn, B2, hzl6, o, a_⟩
 have dt := o.size
 have dc := a_.size
 have d_ := B2.lt
 replace bf := a6.now o
 replace bm := bb.now o
 replace hp := bz _ o
 replace hq := bF _ o
 have R := B2.at
 refine Zk 21 hj8 (Zk 0 hj9 ?_)
 have eb := List.length_take_le k (BR J ts (Aa ts.length (AR I (BG cl ts) 0))); have ea : (((BR J ts (Aa ts.length (AR I (BG cl ts) 0))).take k).map (Gf (⟨[l0, l1, l2, l3, l4, l5, l6, l7, l8, l9, l10, ag, ao], sh, lo, ts, cl⟩ : Chk))).length = ((BR J ts (Aa ts.length (AR I (BG cl ts) 0))).take k).length := List.length_map _
 refine Zs (Zn Bu (AB (AE η (fun dj => ?_) (fun dj => ?_))))
 refine AF (AB (AD (Zs (Zo (AV (k) rfl underlying22 Cf η η χ ω ((cc _ a_).addr (i := k) ω)) ?_))))
 have cn := fun (w' : World) (h : Evo w4 w' v.ownBlock.toList) => (cc w' h).atD (k) ω
 refine Zo (AH rfl A0 η ((cn _ a_).cell 0 η)) (Zn Ah ?_)
 have dZ := HW (l := (BR J ts (Aa ts.length (AR I (BG cl ts) 0)))) (k := k) ω
 obtain ⟨cQ, eG⟩ := Sl (tg := J) (ts := ts) (n := ts.length) (sp := (AR I (BG cl ts) 0)) (k := k) ω
 refine AA (Zo (AP (v := vo) rfl η) (Zo (AJ rfl η Fa) (Zo (AH rfl K1 η (R.cell 15 η)) (Zo AN (Zo (AV (((BR J ts (Aa ts.length (AR I (BG cl ts) 0))).getD k default)) rfl underlying25 Ci η η dZ cQ (bf.addr (i := ((BR J ts (Aa ts.length (AR I (BG cl ts) 0))).getD k default)) cQ)) ?_)))))
 obtain ⟨dW, ei, dT, dz, dV, eh, dS, dy, dU, eg, dR, dx, hX⟩ := EP a6 (((BR J ts (Aa ts.length (AR I (BG cl ts) 0))).getD k default)) cQ
 have cr := fun (w' : World) (h : Evo w0 w' v.ownBlock.toList) => (hX w' h).1
 have cK := fun (w' : World) (h : Evo w0 w' v.ownBlock.toList) => (hX w' h).2.1
 have bl := fun (w' : World) (h : Evo w0 w' v.ownBlock.toList) => (hX w' h).2.2.1
 have cI := fun (w' : World) (h : Evo w0 w' v.ownBlock.toList) => (hX w' h).2.2.2
 clear hX
 have da := (cK _ o).bd
 have c_ := (bl _ o).bd
 have c9 := (cI _ o).bd
 refine Zo (AJ rfl η Ea) (Zo (AH rfl EU η ((cr _ o).cell 1 η)) (Zo (AV (0) rfl underlying77 BW η η rfl ω ((bl _ o).addr (i := 0) ω)) ?_))
 have ct := fun (w' : World) (h : Evo w0 w' v.ownBlock.toList) => (bl w' h).atD (0) ω
 refine Zo (AH rfl BF η ((ct _ o).cell 0 η)) (Zo (Aj (pv := [(0, .int _ _), (1, S _), (2, .int _ _)]) (zs := [_, _, _]) (cells := [_, _, _]) rfl Az η Cz η η) (Ad (u := .agg _) (y := (Gf (⟨[l0, l1, l2, l3, l4, l5, l6, l7, l8, l9, l10, ag, ao], sh, lo, ts, cl⟩ : Chk) ((BR J ts (Aa ts.length (AR I (BG cl ts) 0))).getD k default))) rfl rfl underlying34 Az η j (fun _ => η) η ξ (ν) (ν) ω ?_))
 intro q_v15 v15 w16 E16 hov15 hlv15
 have ep := E16.size
 replace o := AI o E16 (fun g U => C g U)
 replace a_ := AI a_ E16 (fun g U => aT g U)
 replace B2 := B2.evo E16 (by intro hm; have cR := Option.mem_toList.1 hm; exact bn _ cR rfl)
 replace R := R.evo E16 (by intro hm; have cR := Option.mem_toList.1 hm; exact bn _ cR rfl)
 replace aT := C9 hlv15 aT ω
 replace bn := Jf hlv15 bn ω
 replace C := C9 hlv15 C ω
 have j := hov15
 refine Zn (AM (v := v15) rfl η) (AO (AA (Zo A8 (Zn AN (Zg (k + 1) ?_)))))
 refine ⟨_, σ, rfl, δ, (by rw [Ha ω, ← List.append_assoc]; exact j), C, aT, bn, B2, δ, o, a_⟩
 refine AW rfl (AB (AB ?_))
 have e7 : ((BR J ts (Aa ts.length (AR I (BG cl ts) 0))).take k).map (Gf (⟨[l0, l1, l2, l3, l4, l5, l6, l7, l8, l9, l10, ag, ao], sh, lo, ts, cl⟩ : Chk)) = (BR J ts (Aa ts.length (AR I (BG cl ts) 0))).map (Gf (⟨[l0, l1, l2, l3, l4, l5, l6, l7, l8, l9, l10, ag, ao], sh, lo, ts, cl⟩ : Chk)) := by rw [List.take_of_length_le ω]
 rw [e7] at j
 have eH : ((BR J ts (Aa ts.length (AR I (BG cl ts) 0))).map (Gf (⟨[l0, l1, l2, l3, l4, l5, l6, l7, l8, l9, l10, ag, ao], sh, lo, ts, cl⟩ : Chk))).length = (BR J ts (Aa ts.length (AR I (BG cl ts) 0))).length := List.length_map _
 have dr := fun g U => (j.block (g := g) U).2
 refine AA (Zo (AJ rfl η Fa) (Zo (AH rfl K1 η (R.cell 15 η)) (Zo (AJ rfl η GB) (Zo (AH rfl MG η (R.cell 16 η)) (Zo Ar (Zo Ar (Zr [.slice bx ts.length a8, .slice bw cl.length a7, .slice _ _ _, .slice _ _ _] rfl η func113 (TO bf bm hp dv ω ω hq dw ω dn) ?_)))))))
 rintro e bg ⟨eo, rfl, F17, hoM17⟩
 refine ⟨_, rfl, ?_⟩
 have er := F17.size
 replace o := Z0 o F17
 replace bf := a6.now o
 replace bm := bb.now o
 replace hp := bz _ o
 replace hq := bF _ o
 replace j := j.evo0 F17
 refine Zo (Bn rfl η underlying77 hoM17) (Zn AN (AD ?_))
 have eN := Lo (tg := J) (ts := ts) (sp := (AR I (BG cl ts) 0)) (fun x hx => (dn x hx).2.1) hz
 obtain ⟨ef, g18, ej, du, ds, dm⟩ := hoM17.rowOf
 subst du
 have ba : Evo bg bg vo.ownBlock.toList := Evo.refl _ _
 have bL := fun w9 (h9 : Evo bg w9 vo.ownBlock.toList) => Cg ds h9 (fun cV hm => by have h2 := (dm cV).2; have h7 := dr _ (Option.mem_toList.1 hm); omega)
 have a1 : ∀ g, vo.ownBlock = some g → bg.heap.size ≤ g ∨ g ∈ vo.ownBlock.toList := fun g U => .inr (Option.mem_toList.2 U)
 refine AZ (α := Nat) [0, 12, 46, 47, 48, 49, 50, 51, 52, 53, 54, 55] (fun k g w => ∃ vq : Value, g 46 = .int .i64 (k : Nat) ∧ g 0 = vq ∧ k ≤ (BZ J ts [] (Aa ts.length (AR I (BG cl ts) 0))).length ∧ OwnE w base 39 vq ((l ++ (BR J ts (Aa ts.length (AR I (BG cl ts) 0))).map (Gf (⟨[l0, l1, l2, l3, l4, l5, l6, l7, l8, l9, l10, ag, ao], sh, lo, ts, cl⟩ : Chk))) ++ ((BZ J ts [] (Aa ts.length (AR I (BG cl ts) 0))).take k).map Jb) ∧ (∀ g, vq.ownBlock = some g → w0.heap.size ≤ g ∨ g ∈ v.ownBlock.toList) ∧ (∀ g, vq.ownBlock = some g → bg.heap.size ≤ g ∨ g ∈ vo.ownBlock.toList) ∧ bg.heap.size ≤ w.heap.size ∧ Evo w0 w v.ownBlock.toList ∧ Evo bg w vo.ownBlock.toList) (fun k => (BZ J ts [] (Aa ts.length (AR I (BG cl ts) 0))).length - k) 0 ?_ ?_
 refine ⟨_, σ, rfl, δ, (by rw [List.take_zero, List.map_nil, List.append_nil]; exact j), C, a1, δ, o, ba⟩
 rintro k g eV ⟨vq, hj21, hj22, hk_k, j, C, a1, hzl19, o, ba⟩
 have db := o.size
 have c4 := ba.size
 refine Zk 46 hj21 (Zk 0 hj22 ?_)
 have eb := List.length_take_le k (BZ J ts [] (Aa ts.length (AR I (BG cl ts) 0))); have ea : (((BZ J ts [] (Aa ts.length (AR I (BG cl ts) 0))).take k).map Jb).length = ((BZ J ts [] (Aa ts.length (AR I (BG cl ts) 0))).take k).length := List.length_map _
 refine Zs (Zn Bu (AB (AE η (fun dk => ?_) (fun dk => ?_))))
 refine AF (AB (AD (Zs (Zo (AV (k) rfl underlying77 BW η η χ ω ((bL _ ba).addr (i := k) ω)) ?_))))
 have cH := fun (w' : World) (h : Evo bg w' vo.ownBlock.toList) => (bL w' h).atD (k) ω
 refine Zo (AH rfl BF η ((cH _ ba).cell 0 η)) (Zn CD (AA (Zo (AP (v := vq) rfl η) (Zo Au (Zo (Aj (pv := [(0, .int _ _), (1, S _), (2, .int _ _)]) (zs := [_, _, _]) (cells := [_, _, _]) rfl Az η Cz η η) (Ad (u := .agg _) (y := (Jb ((BZ J ts [] (Aa ts.length (AR I (BG cl ts) 0))).getD k default))) rfl rfl underlying34 Az η j (fun _ => η) η ξ (ν) (ν) ω ?_))))))
 intro q_v25 v25 w26 E26 hov25 hlv25
 have et := E26.size
 replace o := AI o E26 (fun g U => C g U)
 replace ba := AI ba E26 (fun g U => a1 g U)
 replace a1 := C9 hlv25 a1 ω
 replace C := C9 hlv25 C ω
 have j := hov25
 refine Zn (AM (v := v25) rfl η) (AO (AA (Zo A8 (Zn AN (Zg (k + 1) ?_)))))
 refine ⟨_, σ, rfl, δ, (by rw [Ha ω, ← List.append_assoc]; exact j), C, a1, δ, o, ba⟩
 refine AW rfl (Zs (Zo (AP (v := vq) rfl η) (Zn (AM (v := vq) rfl η) (AK (BN (v := vq) rfl η) ?_))))
 have e8 : ((BZ J ts [] (Aa ts.length (AR I (BG cl ts) 0))).take k).map Jb = (BZ J ts [] (Aa ts.length (AR I (BG cl ts) 0))).map Jb := by rw [List.take_of_length_le ω]
 rw [e8] at j
 exact ⟨_, rfl, o, j, C⟩
set_option maxHeartbeats 4000000 in
theorem WQ {l0 l1 l2 l3 l4 l5 l6 l7 l8 l9 l10 ao az sh lo : Int} {cc : Option Addr} {bt ot ba : Nat} {ts : List TermL} {cb : Option Addr} {bc oc a_ : Nat} {cl : List Clas} {c_ : Option Addr} {bf dz cr : Nat} {f : List Vc.Item} {da : Option Addr} {bg og ct : Nat} {gg : List Vc.Item} {w0 : World} (c3 : RowR w0 cc bt ot ba ts) (cR : RowR w0 cb bc oc a_ cl) (hf : RowE w0 c_ bf dz cr f) (C : RowE w0 da bg og ct gg) (a7 : Tiny f) (a8 : Tiny gg) (ds : ∀ x ∈ Ac f, JM x) (dt : ∀ x ∈ Ac gg, JM x) (hz : ts.length ≤ 40) (du : ∀ x ∈ ts, IH x) (bb : Tab w0) (hn : (0 ≤ sh ∧ sh ≤ 100) ∧ (lo = 0 ∨ (100 ≤ lo ∧ lo ≤ 10000))) :
    Calls Tryz.prog 31 #[.agg #[.int .i64 l0, .int .i64 l1, .int .i64 l2, .int .i64 l3, .int .i64 l4, .int .i64 l5, .int .i64 l6, .int .i64 l7, .int .i64 l8, .int .i64 l9, .int .i64 l10, .int .i64 ao, .int .i64 az, .int .i64 sh, .int .i64 lo, .slice cc ts.length ba, .slice cb cl.length a_], .slice c_ f.length cr, .slice da gg.length ct] w0 fun e w' => ∃ v q, e = .returned v ∧ Evo w0 w' [] ∧ OwnE w' w0.heap.size 39 v q ∧ q.Perm (Cv (⟨[l0, l1, l2, l3, l4, l5, l6, l7, l8, l9, l10, ao, az], sh, lo, ts, cl⟩ : Chk) f gg) := by
 have bb := fun w9 (h9 : Evo w0 w9 []) => bb.evo0 h9
 refine AG (n := 57) func31 rfl ntmps31 rfl ?_
 have R : Evo w0 w0 [] := Evo.refl _ _
 have bM := c3.keep
 have dd := c3.bd
 have bw := cR.keep
 have dc := cR.bd
 have bp := Ak hf
 have dm := hf.bd
 have ag := Ak C
 have dn := C.bd
 have bL := bb
 refine Zs (Ch (vs := [_, _, _, _, _, _, _, _, _, _, _, _, _, _, _, _, _]) η η rfl ?_)
 intro b1 w2 J1 E2 B1 Y1
 have Q2 := E2.size
 replace R := Z0 R E2
 replace hf := bp _ R
 replace C := ag _ R
 have o := B1.at
 refine Zn Bs (AB (Zs (Zo Ar (Zo (AL rfl η underlying33) (Zo C3 (Zo Br ?_))))))
 refine Ab rfl Aq rfl (fun C => Ar) ?_
 refine Ab rfl Aq rfl (fun C => AL rfl (Af C) underlying33) ?_
 refine Ab rfl Aq rfl (fun C => Bf rfl (Af C) η) ?_
 refine Zn Fm (AE η (fun de => ?_) (fun de => ?_))
 refine Zs (Zo (Aj (pv := [(0, .int _ _)]) (zs := [_, _, _]) (cells := [_, _, _]) rfl Az η Cz η η) (Av (pv := [(0, .agg _)]) (zs := [_, _, _]) (cs := [_, _, _]) underlying34 Az η rfl η rfl η ?_))
 intro b4 w5 J4 E5 B4 Y4
 have Q5 := E5.size
 replace R := Z0 R E5
 have df : OwnE w5 w0.heap.size 39 (.slice (some ⟨b4, 0, none⟩) 1 1) ([⟨1, [], 0⟩] : List Vc.Item) := Sg ([⟨1, [], 0⟩] : List Vc.Item) B4 rfl ω (by simp)
 refine Zn (AM (v := (.slice (some ⟨b4, 0, none⟩) 1 1)) rfl η) (AK (BN (v := (.slice (some ⟨b4, 0, none⟩) 1 1)) rfl η) ?_)
 have dq : Cv (⟨[l0, l1, l2, l3, l4, l5, l6, l7, l8, l9, l10, ao, az], sh, lo, ts, cl⟩ : Chk) f gg = [⟨1, [], 0⟩] := by unfold Cv; rw [if_pos (show Tc f gg from ⟨by omega, by omega⟩)]
 exact ⟨_, _, rfl, R, df, by rw [dq]⟩
 refine AF (Zs (Zn Bs (Zs (Zo Ar (Zr [.slice _ _ _] rfl η func59 (Fz hf a7.tk) ?_)))))
 rintro e w6 ⟨dO, rfl, F6, bz⟩
 refine ⟨_, rfl, ?_⟩
 have Q6 := F6.size
 replace R := Z0 R F6
 replace C := ag _ R
 replace B1 := B1.evo0 F6
 replace o := o.evo0 F6
 refine Zo Ar (Zr [.slice _ _ _] rfl η func59 (Fz C a8.tk) ?_)
 rintro e w7 ⟨dQ, rfl, F7, hot7⟩
 refine ⟨_, rfl, ?_⟩
 have Q7 := F7.size
 replace R := Z0 R F7
 replace hf := bp _ R
 replace C := ag _ R
 replace B1 := B1.evo0 F7
 replace o := o.evo0 F7
 replace bz := bz.evo0 F7
 refine Zo (AM (v := dO) rfl η) (Zn (AM (v := dQ) rfl η) (AB ?_))
 have J : Evo w7 w7 [] := Evo.refl _ _
 obtain ⟨eg, g8, eo, dx, dh, eA⟩ := bz.rowOf
 subst dx
 have bF := Ak dh
 obtain ⟨eh, g9, ep, dy, di, eB⟩ := hot7.rowOf
 subst dy
 have cH := Ak di
 have j : OwnE w7 w7.heap.size 39 (.slice none 0 0) ([] : List Vc.Item) := OwnE.nil _ _ _
 have bn := W8 (c := (⟨[l0, l1, l2, l3, l4, l5, l6, l7, l8, l9, l10, ao, az], sh, lo, ts, cl⟩ : Chk)) a7 a8; have er := bn.same; have et := bn.slot; have eu := bn.tag; have ev := bn.shape; have ew := bn.num; have ey := bn.plain; have ez := a7.tlen; have dT := a8.tlen; have dU := a7.plen; have dV := a8.plen
 refine AA (Zn (AM (v := .func _ _ _) rfl η) (AB (Zs (Zo Ar (Zo Ar (Zr [.slice _ _ _, .slice _ _ _] rfl η func61 (SV hf C) ?_))))))
 rintro e eL ⟨rfl, F10⟩
 refine ⟨_, rfl, ?_⟩
 have dX := F10.size
 replace R := Z0 R F10
 replace J := Z0 J F10
 replace C := ag _ R
 replace B1 := B1.evo0 F10
 replace o := o.evo0 F10
 replace j := j.evo0 F10
 refine Zo Br ?_
 refine Ab rfl Aq rfl (fun C => Ar) ?_
 refine Ab rfl Aq rfl (fun C => AP (v := .func _ _ _) rfl η) ?_
 refine Bb rfl Aq rfl (fun C => Am rfl (An (v := .slice _ _ _) (Af C) (An (v := .func _ _ _) (Af C) (rfl))) func62 rfl ζ) (fun C => (WR (bF _ J)).mono (fun e w' h => ⟨h.1, h.2⟩)) (fun dR F12 => ?_)
 have dY := F12.size
 replace R := Z0 R F12
 replace J := Z0 J F12
 replace c3 := bM.now R
 replace cR := bw.now R
 replace hf := bp _ R
 replace C := ag _ R
 replace bb := bL _ R
 replace B1 := B1.evo0 F12
 replace o := o.evo0 F12
 replace dh := bF _ J
 replace di := cH _ J
 replace j := j.evo0 F12
 refine Zn (Bg rfl η (fun hq => IK η (fun h => h) hq) rfl) ?_
 refine C1 [7, 33, 34, 35, 36] (fun g w => ∃ vo : Value, g 7 = vo ∧ OwnE w w7.heap.size 39 vo ([] ++ Bk f gg) ∧ Blk w b1 28 [.int .i64 l0, .int .i64 l1, .int .i64 l2, .int .i64 l3, .int .i64 l4, .int .i64 l5, .int .i64 l6, .int .i64 l7, .int .i64 l8, .int .i64 l9, .int .i64 l10, .int .i64 ao, .int .i64 az, .int .i64 sh, .int .i64 lo, .slice cc ts.length ba, .slice cb cl.length a_] ∧ dR.heap.size ≤ w.heap.size ∧ Evo w0 w [] ∧ Evo w7 w []) ?_ ?_
 refine AE η (fun a6 => ?_) (fun a6 => ?_)
 refine AA (Zo (AP (v := (.slice none 0 0)) rfl η) (Zo (Aj (pv := [(0, .int _ _)]) (zs := [_, _, _]) (cells := [_, _, _]) rfl Az η Cz η η) (Ad (u := .agg _) (y := (⟨2, [], 0⟩ : Vc.Item)) rfl rfl underlying34 Az η j (fun _ => η) η ξ ((by simp only [List.length_append, List.length_nil]; omega)) ((by simp only [List.length_append, List.length_nil]; omega)) ω ?_)))
 intro q_v15 v15 w16 E16 hov15 hlv15
 have dZ := E16.size
 replace R := AI R E16 (fun g C => .inl (by first | exact (j.block C).1 | (have := j.block C; omega)))
 replace J := AI J E16 (fun g C => .inl (by first | exact (j.block C).1 | (have := j.block C; omega)))
 replace B1 := B1.evo E16 (by intro hm; have U := Option.mem_toList.1 hm; first | (have := j.block U; omega) | (simp [Value.ownBlock] at U; omega))
 replace o := o.evo E16 (by intro hm; have U := Option.mem_toList.1 hm; first | (have := j.block U; omega) | (simp [Value.ownBlock] at U; omega))
 refine Zn (AM (v := v15) rfl η) (Ae ?_ ?_)
 refine ⟨_, rfl, (by first | (rw [show Bk f gg = _ from if_pos a6]; exact hov15) | (rw [show Bk f gg = [] from if_neg a6]; exact hov15)), B1, δ, R, J⟩
 exact ψ
 refine AF (Ae ?_ ?_)
 refine ⟨_, rfl, (by first | (rw [show Bk f gg = _ from if_pos a6]; exact j) | (rw [show Bk f gg = [] from if_neg a6]; exact j)), B1, δ, R, J⟩
 exact ψ
 rintro g eM ⟨vo, hj18, j, B1, hzl13, R, J⟩
 have c4 := R.size
 have cV := J.size
 have dv := B1.lt
 replace C := ag _ R
 have o := B1.at
 refine Zk 7 hj18 (Zs (Zo (AP (v := vo) rfl η) (Zo Ar (Zo Ar (Zr [vo, .slice _ _ _, .slice _ _ _] rfl η func63 (O8 j ω (fun w9 h9 => bp _ (AI R h9 (fun g C => .inl (by have := (j.block C).1; omega)))) (fun w9 h9 => ag _ (AI R h9 (fun g C => .inl (by have := (j.block C).1; omega)))) (fun w9 h9 => bL _ (AI R h9 (fun g C => .inl (by have := (j.block C).1; omega)))) a7 a8 ds dt (by simp only [List.length_append, List.length_nil]; omega)) ?_)))))
 rintro e eN ⟨bW, rfl, F20, ⟨q1_20, q2_20, q3_20, hq1_20, hq2_20, hq3_20, hoc20⟩, hac20⟩
 refine ⟨_, rfl, ?_⟩
 have d_ := F20.size
 replace R := AI R F20 (fun g C => .inl (by first | exact (j.block C).1 | (have := j.block C; omega)))
 replace J := AI J F20 (fun g C => .inl (by first | exact (j.block C).1 | (have := j.block C; omega)))
 replace C := ag _ R
 replace B1 := B1.evo F20 (by intro hm; have U := Option.mem_toList.1 hm; first | (have := j.block U; omega) | (simp [Value.ownBlock] at U; omega))
 replace o := o.evo F20 (by intro hm; have U := Option.mem_toList.1 hm; first | (have := j.block U; omega) | (simp [Value.ownBlock] at U; omega))
 have j := hoc20
 have eC := hq1_20.length_eq; have eD := hq2_20.length_eq; have eE := hq3_20.length_eq
 refine Zn (AM (v := bW) rfl η) (Zs (Zo (AP (v := bW) rfl η) (Zo Ar (Zo Ar (Zr [bW, .slice _ _ _, .slice _ _ _] rfl η func64 (RR j ω (fun w9 h9 => bp _ (AI R h9 (fun g C => .inl (by have := (j.block C).1; omega)))) (fun w9 h9 => ag _ (AI R h9 (fun g C => .inl (by have := (j.block C).1; omega)))) a7 a8 (by simp only [List.length_append, List.length_nil]; omega)) ?_)))))
 rintro e dS ⟨bl, rfl, F21, hoc21, hac21⟩
 refine ⟨_, rfl, ?_⟩
 have ea := F21.size
 replace R := AI R F21 (fun g C => .inl (by first | exact (j.block C).1 | (have := j.block C; omega)))
 replace J := AI J F21 (fun g C => .inl (by first | exact (j.block C).1 | (have := j.block C; omega)))
 replace C := ag _ R
 replace B1 := B1.evo F21 (by intro hm; have U := Option.mem_toList.1 hm; first | (have := j.block U; omega) | (simp [Value.ownBlock] at U; omega))
 replace o := o.evo F21 (by intro hm; have U := Option.mem_toList.1 hm; first | (have := j.block U; omega) | (simp [Value.ownBlock] at U; omega))
 have j := hoc21
 refine Zn (AM (v := bl) rfl η) (AB (C1 [7, 45, 46, 47, 48, 49, 50, 51] (fun g w => ∃ vo : Value, g 7 = vo ∧ OwnE w w7.heap.size 39 vo ([] ++ Bk f gg ++ (q1_20 ++ (q2_20 ++ q3_20)) ++ Bh f gg ++ CW (⟨[l0, l1, l2, l3, l4, l5, l6, l7, l8, l9, l10, ao, az], sh, lo, ts, cl⟩ : Chk) (A9 f) (A9 gg)) ∧ Blk w b1 28 [.int .i64 l0, .int .i64 l1, .int .i64 l2, .int .i64 l3, .int .i64 l4, .int .i64 l5, .int .i64 l6, .int .i64 l7, .int .i64 l8, .int .i64 l9, .int .i64 l10, .int .i64 ao, .int .i64 az, .int .i64 sh, .int .i64 lo, .slice cc ts.length ba, .slice cb cl.length a_] ∧ dS.heap.size ≤ w.heap.size ∧ Evo w0 w [] ∧ Evo w7 w []) ?_ ?_))
 have dk := B1
 have cg := o
 have dW := R
 have dp := J
 have bx := fun {g : Nat} (C : _ = some g) => j.block (g := g) C
 refine CJ (bl.ownBlock.toList) ζ ?_
 intro w23 F24 I
 have eb := F24.size
 replace R := Z0 R F24
 replace J := Z0 J F24
 replace hf := bp _ R
 replace C := ag _ R
 replace B1 := B1.evo0 F24
 replace o := o.evo0 F24
 replace j := j.evo0 F24
 refine Zt (i := 0) η (fun w' hC => AP (v := bl) rfl η) I (Zt (i := 1) η (fun w' hC => AY rfl FE Db η rfl (cg.evo hC (fun C => by have h8 := bx (Option.mem_toList.1 C); omega))) I (Zt (i := 2) η (fun w' hC => Ar) I (Zt (i := 4) η (fun w' hC => Ar) I ?_)))
 refine Zh (i := 3) ?_
 refine Zr [.slice _ _ _] rfl η func66 (MS hf a7.small) ?_
 rintro e eO ⟨rfl, F25⟩
 refine ⟨_, rfl, ?_⟩
 have ec := F25.size
 replace R := Z0 R F25
 replace J := Z0 J F25
 replace I := Z0 I F25
 replace C := ag _ R
 replace B1 := B1.evo0 F25
 replace o := o.evo0 F25
 replace j := j.evo0 F25
 refine Ap I ?_
 refine Zh (i := 5) ?_
 refine Zr [.slice _ _ _] rfl η func66 (MS C a8.small) ?_
 rintro e eP ⟨rfl, F26⟩
 refine ⟨_, rfl, ?_⟩
 have ed := F26.size
 replace R := Z0 R F26
 replace J := Z0 J F26
 replace I := Z0 I F26
 replace C := ag _ R
 replace B1 := B1.evo0 F26
 replace o := o.evo0 F26
 replace j := j.evo0 F26
 refine Ap I ?_
 refine Zh (i := 6) ?_
 refine Zr [bl, .agg _, S _, S _] rfl η func65 (Qx j ω (bM.pass R (fun x hx => .inl (by have := (j.block (Option.mem_toList.1 hx)).1; omega))) (bw.pass R (fun x hx => .inl (by have := (j.block (Option.mem_toList.1 hx)).1; omega))) hn (by simp only [List.length_append, List.length_nil]; omega) ω ω) ?_
 rintro e eQ ⟨dj, rfl, F27, hoc27, hac27⟩
 refine ⟨_, rfl, ?_⟩
 have ee := F27.size
 replace R := AI R F27 (fun g C => .inl (by first | exact (j.block C).1 | (have := j.block C; omega)))
 replace J := AI J F27 (fun g C => .inl (by first | exact (j.block C).1 | (have := j.block C; omega)))
 replace I := AI I F27 (fun g C => .inr (Option.mem_toList.2 C))
 replace B1 := B1.evo F27 (by intro hm; have U := Option.mem_toList.1 hm; first | (have := j.block U; omega) | (simp [Value.ownBlock] at U; omega))
 replace o := o.evo F27 (by intro hm; have U := Option.mem_toList.1 hm; first | (have := j.block U; omega) | (simp [Value.ownBlock] at U; omega))
 refine Ap I ?_
 refine Zt (i := 7) η (fun w' hC => AM (v := dj) rfl η) I ?_
 refine CH ζ ?_
 refine Ae ?_ ?_
 refine ⟨_, rfl, hoc27, B1, δ, R, J⟩
 exact ψ
 rintro g eR ⟨vo, hj29, j, B1, hzl22, R, J⟩
 have c9 := R.size
 have c0 := J.size
 have dw := B1.lt
 replace C := ag _ R
 have o := B1.at
 refine Zk 7 hj29 (Zs (Zo (AP (v := vo) rfl η) (Zo (AY rfl FE Db η rfl o) (Zo Ar (Zo Ar (Zr [vo, .agg _, .slice _ _ _, .slice _ _ _] rfl η func67 (Sd j ω (bM.pass R (fun x hx => .inl (by have := (j.block (Option.mem_toList.1 hx)).1; omega))) (bw.pass R (fun x hx => .inl (by have := (j.block (Option.mem_toList.1 hx)).1; omega))) (fun w9 h9 => bF _ (AI J h9 (fun g C => .inl (by have := (j.block C).1; omega)))) (fun w9 h9 => cH _ (AI J h9 (fun g C => .inl (by have := (j.block C).1; omega)))) (fun x hx => Nat.le_trans (a7.ttx x hx) υ) (fun x hx => Nat.le_trans (a8.ttx x hx) υ) ω ω (by simp only [List.length_append, List.length_nil]; omega) hz du) ?_))))))
 rintro e eS ⟨cI, rfl, F31, hoc31, hac31⟩
 refine ⟨_, rfl, ?_⟩
 have ef := F31.size
 replace R := AI R F31 (fun g C => .inl (by first | exact (j.block C).1 | (have := j.block C; omega)))
 replace J := AI J F31 (fun g C => .inl (by first | exact (j.block C).1 | (have := j.block C; omega)))
 refine Zn (AM (v := cI) rfl η) (AK (BN (v := cI) rfl η) ?_)
 have dr : Cv (⟨[l0, l1, l2, l3, l4, l5, l6, l7, l8, l9, l10, ao, az], sh, lo, ts, cl⟩ : Chk) f gg = Hg (⟨[l0, l1, l2, l3, l4, l5, l6, l7, l8, l9, l10, ao, az], sh, lo, ts, cl⟩ : Chk) f gg := by unfold Cv; rw [if_neg (show ¬ Tc f gg from fun q => de ⟨by have := q.1; omega, by have := q.2; omega⟩)]
 have h9 := XB (c := (⟨[l0, l1, l2, l3, l4, l5, l6, l7, l8, l9, l10, ao, az], sh, lo, ts, cl⟩ : Chk)) hq1_20 hq2_20 hq3_20
 unfold Od at h9
 rw [← List.append_assoc] at h9
 exact ⟨_, _, rfl, R, hoc31.base_le ω, by rw [dr]; exact h9⟩
end Go.Proofs.YtlfjocbnbceceaaGreatDoor
namespace Go.Proofs
open Go.Shelf Go.Proofs.Tryz
def Tryz.sortFind_ren : Go.Shelf.Ren := ⟨fun | 6 => 32 | 15 => 69 | 14 => 68 | 28 => 122 | 29 => 123 | 20 => 114 | 21 => 115 | 22 => 116 | 23 => 117 | 24 => 118 | 25 => 119 | 26 => 120 | 27 => 121 | 46 => 161 | 47 => 162 | 48 => 163 | 49 => 164 | 50 => 165 | 57 => 196 | n => n, fun | 22 => 34 | 24 => 39 | 25 => 63 | 3 => 3 | 39 => 105 | 0 => 0 | 53 => 151 | 55 => 153 | 4 => 4 | 46 => 144 | 45 => 143 | 50 => 148 | 5 => 5 | 9 => 9 | 66 => 177 | 70 => 181 | 76 => 204 | 77 => 131 | n => n, fun | n => n⟩
theorem Tryz.sortFind : Go.Proofs.SlLaysF0.n6 Tryz.prog Tryz.sortFind_ren := {
  mixed := by kernel_rfl
  f6 := ⟨Tryz.f32.name, by decide, Tryz.func32.trans (congrArg some (by kernel_rfl))⟩
  f14 := ⟨Tryz.f68.name, by decide, Tryz.func68.trans (congrArg some (by kernel_rfl))⟩
  f15 := Tryz.func69.trans (congrArg some (by kernel_rfl))
  f20 := ⟨Tryz.f114.name, by decide, Tryz.func114.trans (congrArg some (by kernel_rfl))⟩
  f21 := ⟨Tryz.f115.name, by decide, Tryz.func115.trans (congrArg some (by kernel_rfl))⟩
  f22 := ⟨Tryz.f116.name, by decide, Tryz.func116.trans (congrArg some (by kernel_rfl))⟩
  f23 := ⟨Tryz.f117.name, by decide, Tryz.func117.trans (congrArg some (by kernel_rfl))⟩
  f24 := ⟨Tryz.f118.name, by decide, Tryz.func118.trans (congrArg some (by kernel_rfl))⟩
  f25 := ⟨Tryz.f119.name, by decide, Tryz.func119.trans (congrArg some (by kernel_rfl))⟩
  f26 := ⟨Tryz.f120.name, by decide, Tryz.func120.trans (congrArg some (by kernel_rfl))⟩
  f27 := ⟨Tryz.f121.name, by decide, Tryz.func121.trans (congrArg some (by kernel_rfl))⟩
  f28 := Tryz.func122.trans (congrArg some (by kernel_rfl))
  f29 := Tryz.func123.trans (congrArg some (by kernel_rfl))
  f46 := ⟨Tryz.f161.name, by decide, Tryz.func161.trans (congrArg some (by kernel_rfl))⟩
  f47 := Tryz.func162.trans (congrArg some (by kernel_rfl))
  f48 := Tryz.func163.trans (congrArg some (by kernel_rfl))
  f49 := ⟨Tryz.f164.name, by decide, Tryz.func164.trans (congrArg some (by kernel_rfl))⟩
  f50 := ⟨Tryz.f165.name, by decide, Tryz.func165.trans (congrArg some (by kernel_rfl))⟩
  f57 := ⟨Tryz.f196.name, by decide, Tryz.func196.trans (congrArg some (by kernel_rfl))⟩
  t0 := underlying0
  a0 := isAgg0
  z0 := sizeOf0
  v0 := zeroValue0
  t3 := underlying3
  a3 := isAgg3
  z3 := sizeOf3
  v3 := zeroValue3
  t4 := underlying4
  a4 := isAgg4
  z4 := sizeOf4
  v4 := zeroValue4
  t5 := underlying5
  a5 := isAgg5
  z5 := sizeOf5
  v5 := zeroValue5
  t9 := underlying9
  a9 := isAgg9
  z9 := sizeOf9
  v9 := zeroValue9
  t22 := underlying34
  a22 := isAgg34
  z22 := sizeOf34
  v22 := zeroValue34
  t25 := underlying63
  a25 := isAgg63
  z25 := sizeOf63
  v25 := zeroValue63
  t39 := underlying105
  a39 := isAgg105
  z39 := sizeOf105
  v39 := zeroValue105
  t45 := underlying143
  a45 := isAgg143
  z45 := sizeOf143
  v45 := zeroValue143
  t46 := underlying144
  a46 := isAgg144
  z46 := sizeOf144
  v46 := zeroValue144
  t50 := underlying148
  a50 := isAgg148
  z50 := sizeOf148
  v50 := zeroValue148
  t53 := underlying151
  a53 := isAgg151
  z53 := sizeOf151
  v53 := zeroValue151
  t55 := underlying153
  a55 := isAgg153
  z55 := sizeOf153
  v55 := zeroValue153
  t66 := underlying177
  a66 := isAgg177
  z66 := sizeOf177
  v66 := zeroValue177
  t70 := underlying181
  a70 := isAgg181
  z70 := sizeOf181
  v70 := zeroValue181
  t76 := underlying204
  a76 := isAgg204
  z76 := sizeOf204
  v76 := zeroValue204
  t77 := underlying131
  a77 := isAgg131
  z77 := sizeOf131
  v77 := zeroValue131 }
end Go.Proofs
namespace Go.Proofs.YtlfjocbnbceceaaGreatDoor
open Go.RowKit Go.Vc Go.Proofs.Tryz
theorem Yv {l : List Vc.Item} {p : Vc.Item → Bool} {k : Nat} (hk : k < l.length) (h : p (l.getD k default) = true) : l.any p = true := List.any_eq_true.2 ⟨_, A5 hk, h⟩
theorem ZT {l : List Vc.Item} {p : Vc.Item → Bool} (h : ∀ j, j < l.length → ¬ p (l.getD j default) = true) : ¬ l.any p = true := fun q => by
  obtain ⟨x, I, C⟩ := List.any_eq_true.1 q
  obtain ⟨i, o, rfl⟩ := List.mem_iff_getElem.1 I
  exact h i o (by rw [List.getD_eq_getElem?_getD, List.getElem?_eq_getElem o]; exact C)
theorem WY {l xs l' : List Vc.Item} {p : Vc.Item → Bool} (h : l.Perm xs) (j : Rb (Go.Proofs.ltOf O5) (l.filter p) l') : l' = (DP xs).filter p := by
  rw [Qz]; exact XX j (h.filter p)
theorem Zl {s t : AQ} (h : ¬ blt s t = true) (o : ¬ (blt s t || s == t) = true) : LM s t = 1 := by
  have h1 : ¬ s < t := fun q => h ((JC _ _).2 q)
  have C : ¬ s = t := fun q => o (by simp [q])
  unfold LM
  rw [if_neg h1]
  by_cases j : t < s
  · rw [if_pos j]
  · exact absurd (QS h1 j) C
theorem cy {p q r : Int} {k : Nat} (hk : k < 3) (o : ∀ j, j < k → ([p, q, r] : List Int).getD j default = 0) (I : ¬ ([p, q, r] : List Int).getD k default = 0) : ([p, q, r] : List Int).getD k default = Yi p (Yi q r) := by
  unfold Yi
  match k, hk with
  | 0, _ => exact (if_pos I).symm
  | 1, _ => have C : p = 0 := o 0 ω
            have h1 : ¬ q = 0 := I
            rw [if_neg (by simpa using C), if_pos h1]; rfl
  | 2, _ => have C : p = 0 := o 0 ω
            have h1 : q = 0 := o 1 ω
            rw [if_neg (by simpa using C), if_neg (by simpa using h1)]; rfl
theorem ZY {p q r : Int} (o : ∀ j, j < 3 → ([p, q, r] : List Int).getD j default = 0) : (0 : Int) = Yi p (Yi q r) := by
  have C : p = 0 := o 0 ω
  have h1 : q = 0 := o 1 ω
  have I : r = 0 := o 2 ω
  unfold Yi; rw [if_neg (by simpa using C), if_neg (by simpa using h1), I]
theorem aO {s t : AQ} (h : ¬ blt s t = true) (j : ¬ ¬ (blt s t || s == t) = true) : LM s t = 0 := by
  have o : s = t := by
    simpa [h] using j
  exact Ll.2 o
theorem L4 {s : AQ} {j : World}  :
    Calls Tryz.prog 71 #[S s] j fun e w' => e = .returned (.bool false) ∧ j = w' := by
 refine AG (n := 6) func71 rfl ntmps71 rfl ?_
 have o : Evo j j [] := Evo.refl _ _
 refine Zs (Zn A6 (Zs (Zo Au (Zo Au (Zo (CR rfl η η) (Zn A6 (AK Dk ?_)))))))
 exact ⟨Ao (by simp), rfl⟩
theorem cmps_calls {s t : AQ} {I : World}  :
    Calls Tryz.prog 36 #[S s, S t] I fun e w' => e = .returned (.int .i64 (LM s t)) ∧ I = w' := by
 refine AG (n := 20) func36 rfl ntmps36 rfl ?_
 have J : Evo I I [] := Evo.refl _ _
 refine Zs (Zn Ah (Zs (Zo Au (Zr [S _] rfl η func71 L4 ?_))))
 rintro e w1 ⟨rfl, rfl⟩
 refine ⟨_, rfl, ?_⟩
 refine Zn A6 (Zs (Zo Au (Zr [S _] rfl η func71 L4 ?_)))
 rintro e R ⟨rfl, rfl⟩
 refine ⟨_, rfl, ?_⟩
 refine Zn A6 (AB (Zs (Zn Br (DN η (AF (AB (Zs (Zn Br (DN η ?_)))))))))
 refine AF (AB (Zs (Zo Au (Zo Au (Zn (LY rfl η η) (AE η (fun j => ?_) (fun j => ?_)))))))
 refine Zs (Zn Ah (AK CZ ?_))
 exact ⟨AU (by unfold LM; rw [if_pos ((JC _ _).1 j)]), rfl⟩
 refine AF (AB (AB ?_))
 have C := j
 refine AA (Zo Au (Zo Au (Zn (Wa rfl η η) (AE η (fun o => ?_) (fun o => ?_)))))
 refine Zs (Zn Ah (AK CZ ?_))
 exact ⟨AU (Zl C o).symm, rfl⟩
 refine AF (Zs (Zn Ah (AK CZ ?_)))
 exact ⟨AU (aO C o).symm, rfl⟩
theorem KJ {n : Int} {j : World}  :
    Calls Tryz.prog 70 #[.int .i64 n] j fun e w' => e = .returned (.bool false) ∧ j = w' := by
 refine AG (n := 6) func70 rfl ntmps70 rfl ?_
 have o : Evo j j [] := Evo.refl _ _
 refine Zs (Zn A6 (Zs (Zo AN (Zo AN (Zo (BD rfl η η) (Zn A6 (AK Dk ?_)))))))
 exact ⟨Ao (by simp), rfl⟩
theorem cmpi_calls {a b : Int} {C : World}  :
    Calls Tryz.prog 35 #[.int .i64 a, .int .i64 b] C fun e w' => e = .returned (.int .i64 (Jk a b)) ∧ C = w' := by
 refine AG (n := 20) func35 rfl ntmps35 rfl ?_
 have I : Evo C C [] := Evo.refl _ _
 refine Zs (Zn Ah (Zs (Zo AN (Zr [.int _ _] rfl η func70 KJ ?_))))
 rintro e w1 ⟨rfl, rfl⟩
 refine ⟨_, rfl, ?_⟩
 refine Zn A6 (Zs (Zo AN (Zr [.int _ _] rfl η func70 KJ ?_)))
 rintro e J ⟨rfl, rfl⟩
 refine ⟨_, rfl, ?_⟩
 refine Zn A6 (AB (Zs (Zn Br (DN η (AF (AB (Zs (Zn Br (DN η ?_)))))))))
 refine AF (AB (Zs (Zo AN (Zo AN (Zn Bu (AE η (fun j => ?_) (fun j => ?_)))))))
 refine Zs (Zn Ah (AK CZ ?_))
 exact ⟨AU (by unfold Jk; rw [if_pos j]), rfl⟩
 refine AF (AB (Zs (Zo AN (Zo AN (Zn IG (AE η (fun o => ?_) (fun o => ?_)))))))
 refine Zs (Zn Ah (AK CZ ?_))
 exact ⟨AU (by unfold Jk; rw [if_neg ω, if_pos o]), rfl⟩
 refine AF (Zs (Zn Ah (AK CZ ?_)))
 exact ⟨AU (by unfold Jk; rw [if_neg ω, if_neg ω]), rfl⟩
theorem W1 {ao : Option Addr} {b off cap : Nat} {p q r : Int} {o : World} (hl : RowE o ao b off cap ([p, q, r] : List Int)) :
    Calls Tryz.prog 34 #[.slice ao ([p, q, r] : List Int).length cap] o fun e w' => e = .returned (.int .i64 (Yi p (Yi q r))) ∧ o = w' := by
 refine AG (n := 18) func34 rfl ntmps34 rfl ?_
 have R : Evo o o [] := Evo.refl _ _
 have U := hl.bd
 refine Zs (Zn Ah (Zs (Zn Ah (AB (Zs (Zo Ar (Zo (AL rfl η underlying22) (Zn AN (AD ?_)))))))))
 refine AZ (α := Nat) [2, 5, 8, 9, 10, 11, 12, 13, 14, 15, 16] (fun k g w => g 8 = .int .i64 (k : Nat) ∧ k ≤ ([p, q, r] : List Int).length ∧ w = o ∧ (∀ j, j < k → ([p, q, r] : List Int).getD j default = 0) ∧ o.heap.size ≤ w.heap.size ∧ Evo o w []) (fun k => ([p, q, r] : List Int).length - k) 0 ?_ ?_
 refine ⟨σ, δ, rfl, (fun j h => by omega), δ, R⟩
 rintro k g w2 ⟨az, hk_k, hw, hno, hzl1, R⟩
 have J := R.size
 refine Zk 8 az ?_
 replace hw := hw.symm; subst hw
 refine Zs (Zn Bu (AB (AE η (fun C => ?_) (fun C => ?_))))
 refine AF (AB (AD (Zs (Zo (AV (k) rfl underlying22 Cf η η χ ω (hl.addr (i := k) ω)) ?_))))
 have ag := hl.atD (k) ω
 refine Zo (AH rfl A0 η (ag.cell 0 η)) (Zn Ah (Zs (Zo AN (Zo AN (Zn (BD rfl η η) (AE η (fun I => ?_) (fun I => ?_)))))))
 refine Zs (Zo AN (Zn Ah (AK CZ ?_)))
 exact ⟨AU (cy (by simp at C; omega) hno (by simpa using I)), rfl⟩
 refine AF (AO (AA (Zo A8 (Zn AN (Zg (k + 1) ?_)))))
 refine ⟨σ, δ, rfl, (CS hno (by simpa using I)), δ, R⟩
 refine AW rfl (Zs (Zo AN (Zn Ah (AK CZ ?_))))
 exact ⟨AU (ZY (fun j hj => hno j (by simp at C; omega))), rfl⟩
theorem cmpf_calls {x y : Vc.Item} {w0 : World}  :
    Calls Tryz.prog 33 #[(.agg (Enc.enc x).toArray), (.agg (Enc.enc y).toArray)] w0 fun e w' => e = .returned (.int .i64 (O5 x y)) ∧ Evo w0 w' [] ∧ w0.drawn ≤ w'.drawn := by
 refine AG (n := 22) func33 rfl ntmps33 rfl ?_
 have J : Evo w0 w0 [] := Evo.refl _ _
 refine Zs (Yu (vs := [_, _, _]) η η rfl ?_)
 intro b1 w2 J1 E2 B1 Y1 hdr_0
 have Q2 := E2.size
 replace J := Z0 J E2
 refine Yu (vs := [_, _, _]) η η rfl ?_
 intro b3 w4 J3 E4 B3 Y3 hdr_1
 have Q4 := E4.size
 replace J := Z0 J E4
 replace B1 := B1.evo0 E4
 refine Zn Ah (AB ?_)
 have ao := B1
 have C := B1.at
 have az := B3
 have I := B3.at
 have aT := J
 refine WW ([]) ζ ?_
 intro w5 F6 j hdr_2
 have Q5 := F6.size
 replace J := Z0 J F6
 refine Zt (i := 0) η (fun w' o => AJ rfl η Ex) j (Zt (i := 1) η (fun w' o => AH rfl A0 η ((C.evo0 o).cell 0 η)) j (Zt (i := 2) η (fun w' o => AJ rfl η Ex) j (Zt (i := 3) η (fun w' o => AH rfl A0 η ((I.evo0 o).cell 0 η)) j ?_)))
 refine P6 (i := 4) η rfl rfl rfl ζ (fun w' o => ⟨_, _, Am (vs := [.int _ _, .int _ _]) rfl η func35 rfl ζ, cmpi_calls.mono (fun e U h => ⟨h.1, h.2.symm⟩)⟩) j ?_
 refine Zt (i := 5) η (fun w' o => AJ rfl η JH) j (Zt (i := 6) η (fun w' o => AH rfl BF η ((C.evo0 o).cell 1 η)) j (Zt (i := 7) η (fun w' o => AJ rfl η JH) j (Zt (i := 8) η (fun w' o => AH rfl BF η ((I.evo0 o).cell 1 η)) j ?_)))
 refine P6 (i := 9) η rfl rfl rfl ζ (fun w' o => ⟨_, _, Am (vs := [S _, S _]) rfl η func36 rfl ζ, cmps_calls.mono (fun e U h => ⟨h.1, h.2.symm⟩)⟩) j ?_
 refine Zt (i := 10) η (fun w' o => AJ rfl η Mz) j (Zt (i := 11) η (fun w' o => AH rfl A0 η ((C.evo0 o).cell 2 η)) j (Zt (i := 12) η (fun w' o => AJ rfl η Mz) j (Zt (i := 13) η (fun w' o => AH rfl A0 η ((I.evo0 o).cell 2 η)) j ?_)))
 refine P6 (i := 14) η rfl rfl rfl ζ (fun w' o => ⟨_, _, Am (vs := [.int _ _, .int _ _]) rfl η func35 rfl ζ, cmpi_calls.mono (fun e U h => ⟨h.1, h.2.symm⟩)⟩) j ?_
 refine Zh (i := 15) ?_
 refine VV (pv := [(0, .int _ _), (1, .int _ _), (2, .int _ _)]) (zs := [_]) (cs := [_, _, _]) underlying22 Cf η rfl η rfl η ?_
 intro b7 w8 J7 E8 B7 Y7 hdr_3
 have Q8 := E8.size
 replace J := Z0 J E8
 replace j := Z0 j E8
 have R : RowE w8 (some ⟨b7, 0, none⟩) b7 0 3 ([Jk x.kind y.kind, LM x.text y.text, Jk x.id y.id] : List Int) := Bl ([Jk x.kind y.kind, LM x.text y.text, Jk x.id y.id] : List Int) B7 rfl rfl
 refine Ap j ?_
 refine Zh (i := 16) ?_
 refine Zr [.slice (some ⟨b7, 0, none⟩) _ _] rfl η func34 (W1 R) ?_
 rintro e w9 ⟨rfl, rfl⟩
 refine ⟨_, rfl, ?_⟩
 refine Ap j ?_
 refine Zt (i := 17) η (fun w' o => Ah) j ?_
 refine CH ζ ?_
 refine AK CZ ?_
 exact ⟨rfl, J, by omega⟩
theorem R6 {w : World} {base E : Nat} {v : Value} {l : List Vc.Item} (h : OwnE w base E v l) : Calls Tryz.prog 32 #[v, .func (.func 33) #[] #[]] w fun e w' => e = .returned (.tuple #[]) ∧ Evo w w' v.ownBlock.toList ∧ ∃ l', Rb (Go.Proofs.ltOf O5) l l' ∧ OwnE w' base E v l' :=
  Ym (R := Rb (Go.Proofs.ltOf O5)) (fun l l' h => h.1.length_eq) ⟨List.Perm.refl _, List.Pairwise.nil⟩
    (fun j off cap d w hH hb o => (AnyQ.slices_SortFunc Tryz.sortFind 3 isAgg39 sizeOf39 Enc.enc (fun x => Enc.len x) (fun x v hv => List.all_eq_true.1 (Enc.one x) v hv) O5 cZ 33 #[] j off cap d w (enters_of func33 ζ rfl)
      (fun m os dk C x y => (show Calls Tryz.prog 33 #[.agg (Enc.enc x).toArray, .agg (Enc.enc y).toArray] _ _ from cmpf_calls.mono fun e w' ⟨h1, J, U⟩ => ⟨h1, XV J U⟩)) hH hb o).mono fun e w' ⟨he, I, n, os, hp, C, hw⟩ => ⟨he, I, n, os, YS hp C, hw⟩)
    (fun w => AnyF.slices_SortFunc_none { Tryz.sortFind with } none 0 (.func (.func 33) #[] #[]) w) h
set_option maxHeartbeats 2000000 in
theorem FP {l0 l1 l2 l3 l4 l5 l6 l7 l8 l9 l10 J R sh lo : Int} {bQ : Option Addr} {bt ot a8 : Nat} {ts : List TermL} {bM : Option Addr} {bc oc a7 : Nat} {cl : List Clas} {b9 : Option Addr} {bf dc b0 : Nat} {f : List Vc.Item} {b_ : Option Addr} {bg og b2 : Nat} {gg : List Vc.Item} {w0 : World} (a6 : RowR w0 bQ bt ot a8 ts) (a1 : RowR w0 bM bc oc a7 cl) (hf : RowE w0 b9 bf dc b0 f) (hg : RowE w0 b_ bg og b2 gg) (cK : Tiny f) (cQ : Tiny gg) (c0 : ∀ x ∈ Ac f, JM x) (c3 : ∀ x ∈ Ac gg, JM x) (hz : ts.length ≤ 40) (ct : ∀ x ∈ ts, IH x) (cI : Tab w0) :
    Calls Tryz.prog 14 #[.agg #[.int .i64 l0, .int .i64 l1, .int .i64 l2, .int .i64 l3, .int .i64 l4, .int .i64 l5, .int .i64 l6, .int .i64 l7, .int .i64 l8, .int .i64 l9, .int .i64 l10, .int .i64 J, .int .i64 R, .int .i64 sh, .int .i64 lo, .slice bQ ts.length a8, .slice bM cl.length a7], .slice b9 f.length b0, .slice b_ gg.length b2] w0 fun e w' => ∃ v, e = .returned v ∧ Evo w0 w' [] ∧ OwnE w' w0.heap.size 39 v (Sm (⟨[l0, l1, l2, l3, l4, l5, l6, l7, l8, l9, l10, J, R], sh, lo, ts, cl⟩ : Chk) f gg) := by
 refine AG (n := 36) func14 rfl ntmps14 rfl ?_
 have I : Evo w0 w0 [] := Evo.refl _ _
 have bF := a6.keep
 have cc := a6.bd
 have bx := a1.keep
 have cb := a1.bd
 have cr := Ak hf
 have cR := hf.bd
 have bW := Ak hg
 have cV := hg.bd
 refine Zs (Ch (vs := [_, _, _, _, _, _, _, _, _, _, _, _, _, _, _, _, _]) η η rfl ?_)
 intro b1 w2 J1 E2 B1 Y1
 have Q2 := E2.size
 replace I := Z0 I E2
 replace a6 := bF.now I
 replace a1 := bx.now I
 have C := B1.at
 refine Zn Bs (AB (Zs (Zo (AY rfl FE Db η rfl C) (Zr [.agg _] rfl η func12 (Mp a6 a1) ?_))))
 rintro e w3 ⟨rfl, F3⟩
 refine ⟨_, rfl, ?_⟩
 have Q3 := F3.size
 replace I := Z0 I F3
 replace a6 := bF.now I
 replace a1 := bx.now I
 replace hf := cr _ I
 replace hg := bW _ I
 replace B1 := B1.evo0 F3
 replace C := C.evo0 F3
 refine Zn (BD rfl η η) (AE η (fun b6 => ?_) (fun b6 => ?_))
 refine Zs (Zn Bs (AK (BN (v := .slice _ _ _) rfl η) ?_))
 rw [SJ b6]
 exact ⟨_, rfl, I, OwnE.nil _ _ _⟩
 refine AF (Zs (Zn Bs (AB (AB ?_))))
 have b4 : EG (⟨[l0, l1, l2, l3, l4, l5, l6, l7, l8, l9, l10, J, R], sh, lo, ts, cl⟩ : Chk) = 0 := Classical.not_not.1 b6; have c9 : (0 ≤ sh ∧ sh ≤ 100) ∧ (lo = 0 ∨ (100 ≤ lo ∧ lo ≤ 10000)) := NR b4; have ds := Ph (c := (⟨[l0, l1, l2, l3, l4, l5, l6, l7, l8, l9, l10, J, R], sh, lo, ts, cl⟩ : Chk)) cK cQ hz (fun x hx => (ct x hx).2.1)
 refine AA (Zo (AY rfl FE Db η rfl C) (Zo Ar (Zo Ar (Zr [.agg _, .slice _ _ _, .slice _ _ _] rfl η func31 (WQ a6 a1 hf hg cK cQ c0 c3 hz ct (cI.evo0 I) c9) ?_))))
 rintro e w5 ⟨dQ, qa5, rfl, F5, hoa5, hpa5⟩
 refine ⟨_, rfl, ?_⟩
 have Q5 := F5.size
 replace I := Z0 I F5
 replace a6 := bF.now I
 replace a1 := bx.now I
 replace hf := cr _ I
 replace hg := bW _ I
 replace B1 := B1.evo0 F5
 replace C := C.evo0 F5
 have dw := hpa5.length_eq
 refine Zo (Bn rfl η underlying34 hoa5) (Zn AN (AD ?_))
 have U : Evo w5 w5 [] := Evo.refl _ _
 obtain ⟨dj, g7, dq, db, da, du⟩ := hoa5.rowOf
 subst db
 have b3 := Ak da
 refine AZ (α := Nat) [7, 9, 18, 19, 20, 21, 22, 23, 24, 25, 26, 27, 28, 29, 30, 31, 32] (fun k g w => ∃ vo : Value, g 18 = .int .i64 (k : Nat) ∧ g 7 = vo ∧ k ≤ qa5.length ∧ Blk w b1 28 [.int .i64 l0, .int .i64 l1, .int .i64 l2, .int .i64 l3, .int .i64 l4, .int .i64 l5, .int .i64 l6, .int .i64 l7, .int .i64 l8, .int .i64 l9, .int .i64 l10, .int .i64 J, .int .i64 R, .int .i64 sh, .int .i64 lo, .slice bQ ts.length a8, .slice bM cl.length a7] ∧ OwnE w w5.heap.size 39 vo ((qa5.take k).filter (RU (⟨[l0, l1, l2, l3, l4, l5, l6, l7, l8, l9, l10, J, R], sh, lo, ts, cl⟩ : Chk))) ∧ w5.heap.size ≤ w.heap.size ∧ Evo w0 w [] ∧ Evo w5 w []) (fun k => qa5.length - k) 0 ?_ ?_
 refine ⟨_, σ, rfl, δ, B1, (OwnE.nil _ _ _), δ, I, U⟩
 rintro k g w9 ⟨vo, hj10, hj11, hk_k, B1, o, hzl8, I, U⟩
 have cH := I.size
 have b7 := U.size
 have c4 := B1.lt
 replace hg := bW _ I
 have C := B1.at
 refine Zk 18 hj10 (Zk 7 hj11 ?_)
 have dr := List.length_filter_le (RU (⟨[l0, l1, l2, l3, l4, l5, l6, l7, l8, l9, l10, J, R], sh, lo, ts, cl⟩ : Chk)) (qa5.take k); have dt := List.length_take_le k qa5
 refine Zs (Zn Bu (AB (AE η (fun cg => ?_) (fun cg => ?_))))
 refine AF (AB (AD (Zs (Zo (AV (k) rfl underlying34 Az η η χ ω ((b3 _ U).addr (i := k) ω)) ?_))))
 have b5 := fun (w' : World) (h : Evo w5 w' []) => (b3 w' h).atD (k) ω
 refine Zo (AY rfl JP Az η rfl (b5 _ U)) ?_
 have c_ := fun g hg => (o.block (g := g) hg).2
 refine CO (zs := [_, _, _]) (vs := [_, _, _]) Az η rfl η (fun _ => rfl) η rfl rfl η ?_
 intro b16 w17 J16 E17 B16 Y16
 have df := E17.size
 replace I := Z0 I E17
 replace U := Z0 U E17
 replace hg := bW _ I
 replace B1 := B1.evo0 E17
 replace o := o.evo0 E17
 replace C := C.evo0 E17
 refine As (AB ?_)
 have dv := NP (hpa5.mem_iff.1 (A5 (show k < qa5.length by omega)))
 refine AA (Zo (AJ rfl η Ex) (Zo (AH rfl A0 η (B16.at.cell 0 η)) (Zo (AJ rfl η FY) (Zo (G0 ((qa5.getD k default).kind.toNat) rfl underlying24 Cf η η ω ω) (Zo (AH rfl A0 η (Qs (j := (qa5.getD k default).kind.toNat) C (by exact Oa (l := ([l0, l1, l2, l3, l4, l5, l6, l7, l8, l9, l10, J, R] : List Int)) (rest := [.int .i64 sh, .int .i64 lo, .slice bQ ts.length a8, .slice bM cl.length a7]) (show (qa5.getD k default).kind.toNat < 13 by omega)) ω)) (Zn (BD rfl η η) (AE η (fun ao => ?_) (fun ao => ?_))))))))
 refine AA (Zo (AP (v := vo) rfl η) (Zo (AY rfl JP Az η rfl B16.at) (Ad (u := .agg _) (y := ⟨_, _, _⟩) rfl rfl underlying34 Az η o (fun _ => η) η ξ (ω) (ω) ω ?_)))
 intro q_v19 v19 w20 E20 hov19 hlv19
 have dh := E20.size
 replace I := AI I E20 (fun g hg => .inl (by first | exact (o.block hg).1 | (have := o.block hg; omega)))
 replace U := AI U E20 (fun g hg => .inl (by first | exact (o.block hg).1 | (have := o.block hg; omega)))
 replace B1 := B1.evo E20 (by intro hm; have bz := Option.mem_toList.1 hm; first | (have := o.block bz; omega) | (simp [Value.ownBlock] at bz; omega))
 replace C := C.evo E20 (by intro hm; have bz := Option.mem_toList.1 hm; first | (have := o.block bz; omega) | (simp [Value.ownBlock] at bz; omega))
 refine Zn (AM (v := v19) rfl η) (AO (AA (Zo A8 (Zn AN (Zg (k + 1) ?_)))))
 refine ⟨_, σ, rfl, δ, B1, (by first | (rw [Kh ω (KH (c := (⟨[l0, l1, l2, l3, l4, l5, l6, l7, l8, l9, l10, J, R], sh, lo, ts, cl⟩ : Chk)) ao)]; exact hov19) | (rw [Mr ω (Mx (c := (⟨[l0, l1, l2, l3, l4, l5, l6, l7, l8, l9, l10, J, R], sh, lo, ts, cl⟩ : Chk)) ao)]; exact hov19)), δ, I, U⟩
 refine AF (AO (AA (Zo A8 (Zn AN (Zg (k + 1) ?_)))))
 refine ⟨_, σ, rfl, δ, B1, (by first | (rw [Kh ω (KH (c := (⟨[l0, l1, l2, l3, l4, l5, l6, l7, l8, l9, l10, J, R], sh, lo, ts, cl⟩ : Chk)) ao)]; exact o) | (rw [Mr ω (Mx (c := (⟨[l0, l1, l2, l3, l4, l5, l6, l7, l8, l9, l10, J, R], sh, lo, ts, cl⟩ : Chk)) ao)]; exact o)), δ, I, U⟩
 refine AW rfl (Zs (Zo (AP (v := vo) rfl η) (Zr [vo, .func _ _ _] rfl η func32 (R6 o) ?_)))
 rintro e dR ⟨rfl, F21, gs21, hsr21, hs21⟩
 refine ⟨_, rfl, ?_⟩
 have di := F21.size
 replace I := AI I F21 (fun g hg => .inl (by first | exact (o.block hg).1 | (have := o.block hg; omega)))
 replace U := AI U F21 (fun g hg => .inl (by first | exact (o.block hg).1 | (have := o.block hg; omega)))
 replace o := hs21
 refine As (Zs (Zo (AP (v := vo) rfl η) (Zn (AM (v := vo) rfl η) (AK (BN (v := vo) rfl η) ?_))))
 rw [Ut (c := (⟨[l0, l1, l2, l3, l4, l5, l6, l7, l8, l9, l10, J, R], sh, lo, ts, cl⟩ : Chk)) (fun q => q b4), ← WY (p := (RU (⟨[l0, l1, l2, l3, l4, l5, l6, l7, l8, l9, l10, J, R], sh, lo, ts, cl⟩ : Chk))) hpa5 (by have h9 := hsr21; rw [List.take_of_length_le ω] at h9; exact h9)]
 exact ⟨_, rfl, I, o.base_le ω⟩
theorem UD {l0 l1 l2 l3 l4 l5 l6 l7 l8 l9 l10 R U sh lo : Int} {ao : Option Addr} {I : Nat} {ts : List TermL} {ag : Option Addr} {C : Nat} {cl : List Clas} {bn : Nat} {x : Vc.Item} {w0 : World} (hn : Blk w0 bn 28 [.int .i64 l0, .int .i64 l1, .int .i64 l2, .int .i64 l3, .int .i64 l4, .int .i64 l5, .int .i64 l6, .int .i64 l7, .int .i64 l8, .int .i64 l9, .int .i64 l10, .int .i64 R, .int .i64 U, .int .i64 sh, .int .i64 lo, .slice ao ts.length I, .slice ag cl.length C]) :
    Calls Tryz.prog 50 #[(.agg (Enc.enc x).toArray), .pointer (some ⟨bn, 0, none⟩)] w0 fun e w' => e = .returned (.bool (cA (⟨[l0, l1, l2, l3, l4, l5, l6, l7, l8, l9, l10, R, U], sh, lo, ts, cl⟩ : Chk) x)) ∧ Evo w0 w' [] := by
 have J := hn.at; have bq := hn.lt
 refine AG (n := 20) func50 rfl ntmps50 rfl ?_
 have hV : Evo w0 w0 [] := Evo.refl _ _
 refine Zs (Ch (vs := [_, _, _]) η η rfl ?_)
 intro b1 w2 J1 E2 B1 Y1
 have Q2 := E2.size
 replace hV := Z0 hV E2
 replace J := J.evo0 E2
 refine Zn A6 (Zs (Zo (AJ rfl η Ex) (Zo (AH rfl A0 η (B1.at.cell 0 η)) (Zo (BQ rfl η η) (Zo Br ?_)))))
 refine Ab rfl Aq rfl (fun o => AJ rfl η Ex) ?_
 refine Ab rfl Aq rfl (fun o => AH rfl A0 (Af o) (B1.at.cell 0 η)) ?_
 refine Ab rfl Aq rfl (fun o => Cy rfl (Af o) η) ?_
 refine Zo Fm (Zo Br ?_)
 refine Ab rfl Aq rfl (fun o => AJ rfl η Ex) ?_
 refine Ab rfl Aq rfl (fun o => AH rfl A0 (Af o) (B1.at.cell 0 η)) ?_
 refine Ab rfl Aq rfl (fun o => AJ rfl η FY) ?_
 refine Ab rfl Aq rfl (fun o => G0 (x.kind.toNat) rfl underlying24 Cf (Af o) (Af o) ω ω) ?_
 refine Ab rfl Aq rfl (fun o => AH rfl A0 (Af o) (Qs (j := x.kind.toNat) J (by exact Oa (l := ([l0, l1, l2, l3, l4, l5, l6, l7, l8, l9, l10, R, U] : List Int)) (rest := [.int .i64 sh, .int .i64 lo, .slice ao ts.length I, .slice ag cl.length C]) (show x.kind.toNat < 13 by omega)) ω)) ?_
 refine Ab rfl Aq rfl (fun o => A1 rfl (Af o) η) ?_
 refine Zo Fm (Zn A6 (AK Dk ?_))
 exact ⟨Ao rfl, hV⟩
theorem V3 {l0 l1 l2 l3 l4 l5 l6 l7 l8 l9 l10 I J sh lo : Int} {a1 : Option Addr} {ag : Nat} {ts : List TermL} {aT : Option Addr} {U : Nat} {cl : List Clas} {bn : Nat} {ao : Option Addr} {b off cap : Nat} {l : List Vc.Item} {R : World} (hl : RowE R ao b off cap l) (C : Blk R bn 28 [.int .i64 l0, .int .i64 l1, .int .i64 l2, .int .i64 l3, .int .i64 l4, .int .i64 l5, .int .i64 l6, .int .i64 l7, .int .i64 l8, .int .i64 l9, .int .i64 l10, .int .i64 I, .int .i64 J, .int .i64 sh, .int .i64 lo, .slice a1 ts.length ag, .slice aT cl.length U]) :
    Calls Tryz.prog 92 #[.slice ao l.length cap, .func (.func 50) #[] #[.pointer (some ⟨bn, 0, none⟩)]] R fun e w' => ∃ r : Int, e = .returned (.int .i64 r) ∧ Evo R w' [] ∧ (0 ≤ r ↔ Xf (⟨[l0, l1, l2, l3, l4, l5, l6, l7, l8, l9, l10, I, J], sh, lo, ts, cl⟩ : Chk) l = true) := by
 have b0 := C.at; have bY := C.lt
 refine AG (n := 19) func92 rfl ntmps92 rfl ?_
 have o : Evo R R [] := Evo.refl _ _
 have a7 := Ak hl
 have ba := hl.bd
 refine Zs (Zn Ah (AB (Zs (Zo Ar (Zo (AL rfl η underlying34) (Zn AN (AD (AZ (α := Nat) [4, 5, 8, 9, 10, 11, 12, 13, 14, 15, 16, 17, 18] (fun k g w => g 8 = .int .i64 (k : Nat) ∧ k ≤ l.length ∧ Blk w bn 28 [.int .i64 l0, .int .i64 l1, .int .i64 l2, .int .i64 l3, .int .i64 l4, .int .i64 l5, .int .i64 l6, .int .i64 l7, .int .i64 l8, .int .i64 l9, .int .i64 l10, .int .i64 I, .int .i64 J, .int .i64 sh, .int .i64 lo, .slice a1 ts.length ag, .slice aT cl.length U] ∧ (∀ j, j < k → ¬ cA (⟨[l0, l1, l2, l3, l4, l5, l6, l7, l8, l9, l10, I, J], sh, lo, ts, cl⟩ : Chk) (l.getD j default) = true) ∧ R.heap.size ≤ w.heap.size ∧ Evo R w []) (fun k => l.length - k) 0 ?_ ?_))))))))
 refine ⟨σ, δ, C, (fun j h => by omega), δ, o⟩
 rintro k g w2 ⟨bL, hk_k, C, hno, hzl1, o⟩
 have a8 := o.size
 have bW := C.lt
 refine Zk 8 bL (Zs (Zn Bu (AB (AE η (fun bF => ?_) (fun bF => ?_)))))
 refine AF (AB (AD (Zs (Zo AN (Zn Ah (Zs (Zo (AP (v := .func _ _ _) rfl η) (Zo Ar (Zo AN ?_)))))))))
 refine Zo (AV (k) rfl underlying34 Az η η χ ω ((a7 _ o).addr (i := k) ω)) ?_
 have a6 := fun (w' : World) (h : Evo R w' []) => (a7 w' h).atD (k) ω
 refine Zo (AY rfl JP Az η rfl (a6 _ o)) (Dc rfl rfl rfl (Cm (vs := [.agg _]) (cs := [.pointer (some ⟨bn, 0, none⟩)]) rfl η η func50 rfl ζ) (UD C) ?_)
 rintro e w7 ⟨rfl, F7⟩
 refine ⟨_, rfl, ?_⟩
 have Q7 := F7.size
 replace o := Z0 o F7
 replace C := C.evo0 F7
 refine As (D8 η (fun az => ?_) (fun az => ?_))
 refine Zs (Zo AN (Zn Ah (AK CZ ?_)))
 exact ⟨_, rfl, o, ⟨fun _ => Yv ω az, fun _ => by omega⟩⟩
 refine AF (AO (AA (Zo A8 (Zn AN (Zg (k + 1) ?_)))))
 refine ⟨σ, δ, C, (CS hno (by rw [az]; decide)), δ, o⟩
 refine AW rfl (Zs (Zn Ah (AK CZ ?_)))
 exact ⟨_, rfl, o, ⟨fun h9 => absurd h9 ω, fun h9 => absurd h9 (ZT (fun j hj => hno j ω))⟩⟩
theorem Vs {l0 l1 l2 l3 l4 l5 l6 l7 l8 l9 l10 j o sh lo : Int} {az : Option Addr} {J : Nat} {ts : List TermL} {ag : Option Addr} {I : Nat} {cl : List Clas} {bn : Nat} {ao : Option Addr} {b off cap : Nat} {l : List Vc.Item} {C : World} (hl : RowE C ao b off cap l) (U : Blk C bn 28 [.int .i64 l0, .int .i64 l1, .int .i64 l2, .int .i64 l3, .int .i64 l4, .int .i64 l5, .int .i64 l6, .int .i64 l7, .int .i64 l8, .int .i64 l9, .int .i64 l10, .int .i64 j, .int .i64 o, .int .i64 sh, .int .i64 lo, .slice az ts.length J, .slice ag cl.length I]) :
    Calls Tryz.prog 49 #[.slice ao l.length cap, .func (.func 50) #[] #[.pointer (some ⟨bn, 0, none⟩)]] C fun e w' => e = .returned (.bool (Xf (⟨[l0, l1, l2, l3, l4, l5, l6, l7, l8, l9, l10, j, o], sh, lo, ts, cl⟩ : Chk) l)) ∧ Evo C w' [] := by
 have bt := U.lt
 refine AG (n := 9) func49 rfl ntmps49 rfl ?_
 have hV : Evo C C [] := Evo.refl _ _
 have bw := Ak hl
 have R := hl.bd
 refine Zs (Zn A6 (Zs (Zo Ar (Zo (AP (v := .func _ _ _) rfl η) (Zr [.slice _ _ _, .func _ _ _] rfl η func92 (V3 hl U) ?_)))))
 rintro e w1 ⟨r1, rfl, F1, hri1⟩
 refine ⟨_, rfl, ?_⟩
 have Q1 := F1.size
 replace hV := Z0 hV F1
 replace U := U.evo0 F1
 refine Zo (BQ rfl η η) (Zn A6 (AK Dk ?_))
 exact ⟨Ao (by have h9 := hri1; cases h8 : Xf (⟨[l0, l1, l2, l3, l4, l5, l6, l7, l8, l9, l10, j, o], sh, lo, ts, cl⟩ : Chk) l <;> simp_all), hV⟩
theorem Oy {l0 l1 l2 l3 l4 l5 l6 l7 l8 l9 l10 a1 a6 sh lo : Int} {R : Option Addr} {bt ot o : Nat} {ts : List TermL} {J : Option Addr} {bc oc j : Nat} {cl : List Clas} {ao : Option Addr} {b off cap : Nat} {l : List Vc.Item} {C : World} (hl : RowE C ao b off cap l) (aT : RowR C R bt ot o ts) (az : RowR C J bc oc j cl) :
    Calls Tryz.prog 25 #[.agg #[.int .i64 l0, .int .i64 l1, .int .i64 l2, .int .i64 l3, .int .i64 l4, .int .i64 l5, .int .i64 l6, .int .i64 l7, .int .i64 l8, .int .i64 l9, .int .i64 l10, .int .i64 a1, .int .i64 a6, .int .i64 sh, .int .i64 lo, .slice R ts.length o, .slice J cl.length j], .slice ao l.length cap] C fun e w' => e = .returned (.bool (Xf (⟨[l0, l1, l2, l3, l4, l5, l6, l7, l8, l9, l10, a1, a6], sh, lo, ts, cl⟩ : Chk) l)) ∧ Evo C w' [] := by
 refine AG (n := 8) func25 rfl ntmps25 rfl ?_
 have I : Evo C C [] := Evo.refl _ _
 have a_ := Ak hl
 have a7 := hl.bd
 have bf := aT.keep
 have ag := aT.bd
 have bb := az.keep
 have U := az.bd
 refine Zs (Ch (vs := [_, _, _, _, _, _, _, _, _, _, _, _, _, _, _, _, _]) η η rfl ?_)
 intro b1 w2 J1 E2 B1 Y1
 have Q2 := E2.size
 replace I := Z0 I E2
 replace hl := a_ _ I
 refine Zn A6 (Zs (Zo Ar (Zo (Qj (vs := [.pointer _]) rfl η) (Zr [.slice _ _ _, .func _ _ _] rfl η func49 (Vs hl B1) ?_))))
 rintro e w3 ⟨rfl, F3⟩
 refine ⟨_, rfl, ?_⟩
 have Q3 := F3.size
 replace I := Z0 I F3
 refine Zn A6 (AK Dk ?_)
 exact ⟨rfl, I⟩
def Zp : List AQ := [[], [98], [97, 98, 32, 99], [97, 32, 104, 61, 49], [66], [110, 47], [105], [32, 120]]
end Go.Proofs.YtlfjocbnbceceaaGreatDoor
namespace Go.Vc
open Go Go.RowKit Go.IntWalk
def MR : List Nat := [7, 16, 17, 18, 19, 20, 21, 22, 23, 24, 25, 26]
def cG (j : Nat) : Nat := [16, 17, 18, 19, 20, 21, 22, 23, 24, 25, 26, 7].getD j 0
def Ww (l : Array Bool) : Nat := (l.getD 1 false).toNat + (l.getD 5 false).toNat + (l.getD 9 false).toNat
def PhR (L : List AQ) (z bs EN : Nat) : Nat → Fr → World → Prop
  | 0, g, _ => g 16 = .pointer (some ⟨bs, 0, none⟩)
  | 1, g, _ => ∃ r, g 17 = .int .i64 r ∧ 0 ≤ r ∧ r < 8
  | 2, g, _ => ∃ r, g 18 = .int .i64 r
  | 3, g, w => ∃ b, (z ≤ b ∧ b < w.heap.size) ∧ g 19 = .slice (some ⟨b, 0, none⟩) 8 8 ∧ RowE w (some ⟨b, 0, none⟩) b 0 8 L
  | 4, g, _ => g 20 = .pointer (some ⟨bs, 0, none⟩)
  | 5, g, _ => ∃ r, g 21 = .int .i64 r ∧ 0 ≤ r ∧ r < 8
  | 6, g, w => ∃ b j s, (z ≤ b ∧ b < w.heap.size) ∧ g 22 = .pointer (some ⟨b, j, none⟩) ∧ At w b j [S s] ∧ s ∈ L
  | 7, g, _ => ∃ s, g 23 = S s ∧ s ∈ L
  | 8, g, _ => g 24 = .pointer (some ⟨bs, 0, none⟩)
  | 9, g, _ => ∃ r, g 25 = .int .i64 r ∧ 0 ≤ r ∧ r < 4
  | 10, g, _ => ∃ k s i, g 26 = .agg #[.int .i64 k, S s, .int .i64 i] ∧ s ∈ L ∧ 0 ≤ i ∧ i ≤ 3
  | 11, g, w => ∃ b, (z ≤ b ∧ b < w.heap.size) ∧ g 7 = .pointer (some ⟨b, 0, none⟩) ∧ ∃ k s i, Blk w b EN [.int .i64 k, S s, .int .i64 i]
  | _, _, _ => True
def dD (L : List AQ) (z EN : Nat) (g : Fr) (w : World) : Prop := ∃ b k s i, (z ≤ b ∧ b < w.heap.size) ∧ g 7 = .pointer (some ⟨b, 0, none⟩) ∧ Blk w b EN [.int .i64 k, S s, .int .i64 i] ∧ s ∈ L ∧ 0 ≤ i ∧ i ≤ 3
def IR (L : List AQ) (wR : World) (bs EN T N2 : Nat) (c : Value) (l : Array Bool) (g : Fr) (w : World) : Prop :=
  Evo wR w [bs] ∧ Blk w bs T [c, .int .i64 (N2 + Ww l : Nat)] ∧ ((l.getD 12 false = false ∧ ∀ j, l.getD j false = true → PhR L wR.heap.size bs EN j g w) ∨ (l.getD 12 false = true ∧ dD L wR.heap.size EN g w ∧ ∀ j, j < 12 → l.getD j false = true))
theorem dL {L : List AQ} {z R U d : Nat} (ao : R < z) {g C : Fr} {w w' : World} (he : Evo w w' [R]) (o : ∀ q, elemN q MR = true → q ≠ d → C q = g q) : ∀ j, cG j ≠ d → PhR L z R U j g w → PhR L z R U j C w' := by
  have az := he.size
  intro j hj h
  match j with
  | 0 => show C 16 = _; rw [o 16 rfl hj]; exact h
  | 1 => show ∃ r, C 17 = _ ∧ _; rw [o 17 rfl hj]; exact h
  | 2 => show ∃ r, C 18 = _; rw [o 18 rfl hj]; exact h
  | 3 => obtain ⟨b, h1, I, J⟩ := h; exact ⟨b, by omega, by rw [o 19 rfl hj]; exact I, J.evo he θ⟩
  | 4 => show C 20 = _; rw [o 20 rfl hj]; exact h
  | 5 => show ∃ r, C 21 = _ ∧ _; rw [o 21 rfl hj]; exact h
  | 6 => obtain ⟨b, q, s, h1, I, J, h4⟩ := h; exact ⟨b, q, s, by omega, by rw [o 22 rfl hj]; exact I, J.evo he θ, h4⟩
  | 7 => show ∃ s, C 23 = _ ∧ _; rw [o 23 rfl hj]; exact h
  | 8 => show C 24 = _; rw [o 24 rfl hj]; exact h
  | 9 => show ∃ r, C 25 = _ ∧ _; rw [o 25 rfl hj]; exact h
  | 10 => show ∃ k s i, C 26 = _ ∧ _; rw [o 26 rfl hj]; exact h
  | 11 => obtain ⟨b, h1, I, k, s, i, J⟩ := h; exact ⟨b, by omega, by rw [o 7 rfl hj]; exact I, k, s, i, J.evo he θ⟩
  | _ + 12 => trivial
theorem bu {i j : Nat} (o : i < 12) (C : j < 12) (h : j ≠ i) : cG j ≠ cG i := by
  have : ∀ i, i < 12 → ∀ j, j < 12 → j ≠ i → cG j ≠ cG i := by decide
  exact this i o j C h
theorem FX {l : Array Bool} {i : Nat} (h1 : i ≠ 1) (j : i ≠ 5) (o : i ≠ 9) : Ww (l.setIfInBounds i true) = Ww l := by
  unfold Ww; rw [DW (Ne.symm h1), DW (Ne.symm j), DW (Ne.symm o)]
theorem UK {l : Array Bool} {i : Nat} (j : i = 1 ∨ i = 5 ∨ i = 9) (h : l.getD i true = false) : Ww (l.setIfInBounds i true) = Ww l + 1 := by
  have h1 := Eo h
  unfold Ww
  rcases j with rfl | rfl | rfl
  · rw [KD h1.2, DW υ, DW υ, h1.1]; simp; omega
  · rw [KD h1.2, DW υ, DW υ, h1.1]; simp; omega
  · rw [KD h1.2, DW υ, DW υ, h1.1]; simp
theorem FM (l : Array Bool) : Ww l ≤ 3 := by
  unfold Ww
  have := Bool.toNat_le (l.getD 1 false); have := Bool.toNat_le (l.getD 5 false); have := Bool.toNat_le (l.getD 9 false)
  omega
variable {L : List AQ} {wR w w' : World} {bs EN T N2 i : Nat} {c : Value} {l : Array Bool} {g g' : Fr}
theorem IR.deps (J : i < 13) (hu : l.getD i true = false) (h : IR L wR bs EN T N2 c l g w) :
    Evo wR w [bs] ∧ Blk w bs T [c, .int .i64 (N2 + Ww l : Nat)] ∧ l.getD 12 false = false ∧ ∀ j, l.getD j false = true → PhR L wR.heap.size bs EN j g w := by
  obtain ⟨h1, I, o | o⟩ := h
  · exact ⟨h1, I, o.1, o.2⟩
  · by_cases C : i = 12
    · subst C
      rw [(Eo hu).1] at o; exact absurd o.1 (by simp)
    · have := o.2.2 i ω; rw [(Eo hu).1] at this; cases this
theorem IR.step (hi : i < 12) (hu : l.getD i true = false) (J : bs < wR.heap.size) (I : l.getD 12 false = false) (hP : ∀ j, l.getD j false = true → PhR L wR.heap.size bs EN j g w)
    (R : Evo w w' [bs]) (he : Evo wR w' [bs]) (hb : Blk w' bs T [c, .int .i64 (N2 + Ww (l.setIfInBounds i true) : Nat)]) (U : ∀ q, elemN q MR = true → q ≠ cG i → g' q = g q) (hn : PhR L wR.heap.size bs EN i g' w') :
    IR L wR bs EN T N2 c (l.setIfInBounds i true) g' w' := by
  refine ⟨he, hb, .inl ⟨by rw [DW ω]; exact I, fun j hj => ?_⟩⟩
  by_cases o : j = i
  · subst o; exact hn
  · rw [DW o] at hj
    by_cases C : j < 12
    · exact dL J R U j (bu hi C o) (hP j hj)
    · obtain ⟨k, rfl⟩ := Nat.exists_eq_add_of_le (show 12 ≤ j by omega)
      rw [Nat.add_comm]; trivial
theorem IR.last (hu : l.getD 12 true = false) (o : ∀ j, j < 12 → l.getD j false = true)
    (he : Evo wR w' [bs]) (C : Blk w' bs T [c, .int .i64 (N2 + Ww (l.setIfInBounds 12 true) : Nat)]) (J : dD L wR.heap.size EN g' w') : IR L wR bs EN T N2 c (l.setIfInBounds 12 true) g' w' :=
  ⟨he, C, .inr ⟨KD (Eo hu).2, J, fun j I => by rw [DW ω]; exact o j I⟩⟩
theorem IR.init (he : Evo wR w [bs]) (C : Blk w bs T [c, .int .i64 (N2 : Nat)]) : IR L wR bs EN T N2 c (Array.replicate 13 false) g w :=
  ⟨he, C, .inl ⟨rfl, fun j o => by
    rcases Nat.lt_or_ge j 13 with h | h
    · simp [h] at o
    · simp [Array.getElem?_eq_none (show (Array.replicate 13 false).size ≤ j by simpa using h)] at o⟩⟩
theorem IR.done (h : IR L wR bs EN T N2 c (Array.replicate 13 true) g w) : Evo wR w [bs] ∧ Blk w bs T [c, .int .i64 (N2 + 3 : Nat)] ∧ dD L wR.heap.size EN g w := by
  obtain ⟨h1, o, j | j⟩ := h
  · exact absurd j.1 υ
  · exact ⟨h1, o, j.2.1⟩
end Go.Vc
namespace Go.Proofs.YtlfjocbnbceceaaGreatDoor
open Go.RowKit Go.Vc Go.Proofs.Tryz
set_option maxHeartbeats 4000000 in
theorem TU {T bs : Nat} {ao : Option Addr} {b off cap : Nat} {l : List Int} {N : Nat} {n : Int} {w0 : World} (j : Blk w0 bs T [.slice ao l.length cap, .int .i64 (N : Nat)]) (hl : ∀ w', Evo w0 w' [bs] → RowE w' ao b off cap l) (hN : N ≤ 100000) (dy : 0 ≤ n) (dz : n ≤ 100) :
    Calls Tryz.prog 42 #[.pointer (some ⟨bs, 0, none⟩), .int .i64 n] w0 fun e w' => ∃ v, ∃ f : List Vc.Item, e = .returned v ∧ ((f.length : Int) ≤ n ∧ (BK f : Int) ≤ 5 * n ∧ (∀ y ∈ f, 0 ≤ y.id ∧ y.id ≤ 3)) ∧ Evo w0 w' [bs] ∧ OwnE w' w0.heap.size 32 v f := by
 have a_ := j.at; have cH := j.lt
 refine AG (n := 36) func42 rfl ntmps42 rfl ?_
 have hV : Evo w0 w0 [bs] := Evo.refl _ _
 have ba := hl
 replace hl := ba _ hV
 have cc := hl.bd
 refine Zs (Zn Bs (Zs (Zn Bs (AB (Zs (Zo Ey (Zo AN (Zo A8 (Zr [.pointer _, .int _ _] rfl η func38 (Bd j hl ω ω ω) ?_)))))))))
 rintro e w1 ⟨bq, rfl, hx1, F1, hn1⟩
 refine ⟨_, rfl, ?_⟩
 have Q1 := F1.size
 replace hV := Z1 hV F1 (.inr (by simp))
 replace hl := ba _ hV
 replace j := hn1
 clear hn1
 have a_ := j.at
 refine Zn Ah (AD (AZ (α := Nat) [5, 6, 7, 12, 13, 14, 15, 16, 17, 18, 19, 20, 21, 22, 23, 24, 25, 26, 27, 28, 29, 30, 31, 32, 33, 34] (fun i g w => ∃ vf : Value, ∃ f : List Vc.Item, ∃ N1 : Nat, g 6 = .int .i64 (i : Nat) ∧ g 5 = vf ∧ OwnE w w0.heap.size 32 vf f ∧ Blk w bs T [.slice ao l.length cap, .int .i64 (N1 : Nat)] ∧ (f.length + i ≤ bq.toNat ∧ BK f + 5 * i ≤ 5 * bq.toNat ∧ N + 1 ≤ N1 ∧ N1 + 4 * i ≤ N + 1 + 4 * bq.toNat) ∧ (∀ y ∈ f, 0 ≤ y.id ∧ y.id ≤ 3) ∧ w1.heap.size ≤ w.heap.size ∧ Evo w0 w [bs]) (fun i => i) bq.toNat ?_ ?_))
 refine ⟨_, [], _, (congrArg (Value.int _) ω), rfl, (OwnE.nil _ _ _), j, (by first | (simp [BK]; done) | (simp [BK]; omega)), (fun y hy => absurd hy List.not_mem_nil), δ, hV⟩
 rintro i g w3 ⟨vf, f, N1, hj4, hj5, ag, j, bm, hid, hzl2, hV⟩
 have b7 := hV.size
 have dh := j.lt
 replace hl := ba _ hV
 have a_ := j.at
 refine Zk 6 hj4 (Zk 5 hj5 (AB (Zs (Zo AN (Zn IG (AE η (fun cK => ?_) (fun cK => ?_)))))))
 refine AF (AB (AD (AB (C1 [7, 16, 17, 18, 19, 20, 21, 22, 23, 24, 25, 26] (fun g w => ∃ bx : Nat, ∃ kx : Int, ∃ tx : AQ, ∃ ix : Int, g 7 = .pointer (some ⟨bx, 0, none⟩) ∧ OwnE w w0.heap.size 32 vf f ∧ Blk w bx 32 [.int .i64 kx, S tx, .int .i64 ix] ∧ Blk w bs T [.slice ao l.length cap, .int .i64 ((N1 + 3) : Nat)] ∧ tx.length ≤ 5 ∧ w0.heap.size ≤ bx ∧ (∀ g, vf.ownBlock = some g → g ≠ bx) ∧ (0 ≤ ix ∧ ix ≤ 3) ∧ w3.heap.size ≤ w.heap.size ∧ Evo w0 w [bs]) ?_ ?_))))
 have bw := fun g hg => (ag.block (g := g) hg).2
 have az : bs < w3.heap.size := by omega
 refine ae MR (IR Zp w3 bs 32 T N1 (.slice ao l.length cap)) ζ ζ (fun w1 he => IR.init (he.mono (by simp)) (j.evo0 he)) ?_ ?_
 intro g w10 o
 obtain ⟨F9, cI, bx, kx, tx, ix, df, cQ, U, b8, b4⟩ := o.done
 refine Zk 7 cQ ?_
 have dn := F9.size
 replace hV := Z1 hV F9 (.inr (by simp))
 replace ag := ag.evo F9 (by intro g hg hm; simp at hm; subst hm; have h7 := bw g hg; have h8 := ag.block hg; omega)
 have j := cI; have a_ := j.at; have bg := U.at
 refine Ae ?_ ?_
 refine ⟨_, _, _, _, rfl, ag, U, j, (by have : ∀ x ∈ Zp, x.length ≤ 5 := υ; exact this _ b8), ω, (fun g hg => by have := bw g hg; omega), b4, δ, hV⟩
 exact ψ
 refine ⟨fun l9 g w hu hd ⟨o, I⟩ => ?_, ?_⟩
 obtain ⟨C, j, J, hP⟩ := o.deps ω hu
 refine Bx I ?_
 have F1 : Evo w w [bs] := Evo.refl _ _
 have a7 := FM l9
 have aT := C.size
 refine Zo Ey (Cd (And.intro ?_ ?_))
 exact IR.step (i := 0) ω hu az J hP F1 C (by rw [FX υ υ υ]; exact j) (Bj (BJ (M := MR))) rfl
 exact ψ
 refine ⟨fun l9 g w hu hd ⟨o, I⟩ => ?_, ?_⟩
 obtain ⟨C, j, J, hP⟩ := o.deps ω hu
 refine Bx I ?_
 have F1 : Evo w w [bs] := Evo.refl _ _
 have a7 := FM l9
 have aT := C.size
 have R := hP 0 (Cl hd 0 ζ)
 have hl := ba _ (Evo.trans hV C (fun x hx _ => hx))
 refine BO (i := 16) (v := .pointer (some ⟨bs, 0, none⟩)) R (Zr [.pointer _, .int _ _] rfl η func38 (Bd j hl ω ω ω) ?_)
 rintro e dS ⟨di, rfl, hx11, F11, hn11⟩
 refine ⟨_, rfl, ?_⟩
 have dp := F11.size
 replace C := Z1 C F11 ε
 replace F1 := Z1 F1 F11 ε
 replace j := hn11
 clear hn11
 refine Cd (And.intro ?_ ?_)
 exact IR.step (i := 1) ω hu az J hP F1 C (by rw [UK υ hu]; exact j) (Bj (Bm (BJ (M := MR)) R)) ⟨_, rfl, hx11⟩
 exact ψ
 refine ⟨fun l9 g w hu hd ⟨o, I⟩ => ?_, ?_⟩
 obtain ⟨C, j, J, hP⟩ := o.deps ω hu
 refine Bx I ?_
 have F1 : Evo w w [bs] := Evo.refl _ _
 have a7 := FM l9
 have aT := C.size
 obtain ⟨rz, R, da, db⟩ := hP 1 (Cl hd 1 ζ)
 refine BO (i := 17) (v := .int .i64 rz) R (Zo JV (Cd (And.intro ?_ ?_)))
 exact IR.step (i := 2) ω hu az J hP F1 C (by rw [FX υ υ υ]; exact j) (Bj (Bm (BJ (M := MR)) R)) ⟨_, rfl⟩
 exact ψ
 refine ⟨fun l9 g w hu hd ⟨o, I⟩ => ?_, ?_⟩
 obtain ⟨C, j, J, hP⟩ := o.deps ω hu
 refine Bx I ?_
 have F1 : Evo w w [bs] := Evo.refl _ _
 have a7 := FM l9
 have aT := C.size
 refine Av (pv := [(0, S _), (1, S _), (2, S _), (3, S _), (4, S _), (5, S _), (6, S _), (7, S _)]) (zs := [_]) (cs := [_, _, _, _, _, _, _, _]) underlying77 BW η rfl η rfl η ?_
 intro b12 w13 J12 E13 B12 Y12
 have dq := E13.size
 replace C := Z0 C E13
 replace F1 := Z0 F1 E13
 replace j := j.evo0 E13
 have bM : RowE w13 (some ⟨b12, 0, none⟩) b12 0 8 Zp := Bl Zp B12 rfl rfl
 refine Cd (And.intro ?_ ?_)
 exact IR.step (i := 3) ω hu az J hP F1 C (by rw [FX υ υ υ]; exact j) (Bj (BJ (M := MR))) ⟨_, by omega, rfl, bM⟩
 exact ψ
 refine ⟨fun l9 g w hu hd ⟨o, I⟩ => ?_, ?_⟩
 obtain ⟨C, j, J, hP⟩ := o.deps ω hu
 refine Bx I ?_
 have F1 : Evo w w [bs] := Evo.refl _ _
 have a7 := FM l9
 have aT := C.size
 refine Zo Ey (Cd (And.intro ?_ ?_))
 exact IR.step (i := 4) ω hu az J hP F1 C (by rw [FX υ υ υ]; exact j) (Bj (BJ (M := MR))) rfl
 exact ψ
 refine ⟨fun l9 g w hu hd ⟨o, I⟩ => ?_, ?_⟩
 obtain ⟨C, j, J, hP⟩ := o.deps ω hu
 refine Bx I ?_
 have F1 : Evo w w [bs] := Evo.refl _ _
 have a7 := FM l9
 have aT := C.size
 have R := hP 4 (Cl hd 4 ζ)
 have hl := ba _ (Evo.trans hV C (fun x hx _ => hx))
 refine BO (i := 20) (v := .pointer (some ⟨bs, 0, none⟩)) R (Zr [.pointer _, .int _ _] rfl η func38 (Bd j hl ω ω ω) ?_)
 rintro e dT ⟨dj, rfl, hx14, F14, hn14⟩
 refine ⟨_, rfl, ?_⟩
 have dr := F14.size
 replace C := Z1 C F14 ε
 replace F1 := Z1 F1 F14 ε
 replace j := hn14
 clear hn14
 refine Cd (And.intro ?_ ?_)
 exact IR.step (i := 5) ω hu az J hP F1 C (by rw [UK υ hu]; exact j) (Bj (Bm (BJ (M := MR)) R)) ⟨_, rfl, hx14⟩
 exact ψ
 refine ⟨fun l9 g w hu hd ⟨o, I⟩ => ?_, ?_⟩
 obtain ⟨C, j, J, hP⟩ := o.deps ω hu
 refine Bx I ?_
 have F1 : Evo w w [bs] := Evo.refl _ _
 have a7 := FM l9
 have aT := C.size
 obtain ⟨bz, bt, R, bQ⟩ := hP 3 (Cl hd 3 ζ)
 obtain ⟨rz, bb, da, db⟩ := hP 5 (Cl hd 5 ζ)
 refine BO (i := 19) (v := .slice (some ⟨bz, 0, none⟩) 8 8) R (BO (i := 21) (v := .int .i64 rz) bb (Zo (AV (rz.toNat) rfl underlying77 BW η η ω (by show _ < 8; omega) (bQ.addr (i := rz.toNat) (by show _ < 8; omega))) ?_))
 have de := bQ.atD (rz.toNat) (by show _ < 8; omega)
 refine Cd (And.intro ?_ ?_)
 exact IR.step (i := 6) ω hu az J hP F1 C (by rw [FX υ υ υ]; exact j) (Bj (Bm (Bm (BJ (M := MR)) R) bb)) (by obtain ⟨sq, c9, c_⟩ := RI bQ (show rz.toNat < _ by show _ < 8; omega) rfl; exact ⟨_, _, sq, by omega, rfl, c9, c_⟩)
 exact ψ
 refine ⟨fun l9 g w hu hd ⟨o, I⟩ => ?_, ?_⟩
 obtain ⟨C, j, J, hP⟩ := o.deps ω hu
 refine Bx I ?_
 have F1 : Evo w w [bs] := Evo.refl _ _
 have a7 := FM l9
 have aT := C.size
 obtain ⟨bz, jz, sz, bt, R, ct, bm⟩ := hP 6 (Cl hd 6 ζ)
 refine BO (i := 22) (v := .pointer (some ⟨bz, jz, none⟩)) R (Zo (AH rfl BF η (ct.cell 0 η)) (Cd (And.intro ?_ ?_)))
 exact IR.step (i := 7) ω hu az J hP F1 C (by rw [FX υ υ υ]; exact j) (Bj (Bm (BJ (M := MR)) R)) ⟨_, rfl, bm⟩
 exact ψ
 refine ⟨fun l9 g w hu hd ⟨o, I⟩ => ?_, ?_⟩
 obtain ⟨C, j, J, hP⟩ := o.deps ω hu
 refine Bx I ?_
 have F1 : Evo w w [bs] := Evo.refl _ _
 have a7 := FM l9
 have aT := C.size
 refine Zo Ey (Cd (And.intro ?_ ?_))
 exact IR.step (i := 8) ω hu az J hP F1 C (by rw [FX υ υ υ]; exact j) (Bj (BJ (M := MR))) rfl
 exact ψ
 refine ⟨fun l9 g w hu hd ⟨o, I⟩ => ?_, ?_⟩
 obtain ⟨C, j, J, hP⟩ := o.deps ω hu
 refine Bx I ?_
 have F1 : Evo w w [bs] := Evo.refl _ _
 have a7 := FM l9
 have aT := C.size
 have R := hP 8 (Cl hd 8 ζ)
 have hl := ba _ (Evo.trans hV C (fun x hx _ => hx))
 refine BO (i := 24) (v := .pointer (some ⟨bs, 0, none⟩)) R (Zr [.pointer _, .int _ _] rfl η func38 (Bd j hl ω ω ω) ?_)
 rintro e dU ⟨dk, rfl, hx16, F16, hn16⟩
 refine ⟨_, rfl, ?_⟩
 have ds := F16.size
 replace C := Z1 C F16 ε
 replace F1 := Z1 F1 F16 ε
 replace j := hn16
 clear hn16
 refine Cd (And.intro ?_ ?_)
 exact IR.step (i := 9) ω hu az J hP F1 C (by rw [UK υ hu]; exact j) (Bj (Bm (BJ (M := MR)) R)) ⟨_, rfl, hx16⟩
 exact ψ
 refine ⟨fun l9 g w hu hd ⟨o, I⟩ => ?_, ?_⟩
 obtain ⟨C, j, J, hP⟩ := o.deps ω hu
 refine Bx I ?_
 have F1 : Evo w w [bs] := Evo.refl _ _
 have a7 := FM l9
 have aT := C.size
 obtain ⟨kz, R⟩ := hP 2 (Cl hd 2 ζ)
 obtain ⟨sz, bb, bm⟩ := hP 7 (Cl hd 7 ζ)
 obtain ⟨iz, b6, b5⟩ := hP 9 (Cl hd 9 ζ)
 refine BO (i := 18) (v := .int .i64 kz) R (BO (i := 23) (v := S sz) bb (BO (i := 25) (v := .int .i64 iz) b6 (Zo (Aj (pv := [(0, .int _ _), (1, S _), (2, .int _ _)]) (zs := [_, _, _]) (cells := [_, _, _]) rfl Ag η Gr η η) (Cd (And.intro ?_ ?_)))))
 exact IR.step (i := 10) ω hu az J hP F1 C (by rw [FX υ υ υ]; exact j) (Bj (Bm (Bm (Bm (BJ (M := MR)) R) bb) b6)) ⟨_, _, _, rfl, bm, by omega, by omega⟩
 exact ψ
 refine ⟨fun l9 g w hu hd ⟨o, I⟩ => ?_, ?_⟩
 obtain ⟨C, j, J, hP⟩ := o.deps ω hu
 refine Bx I ?_
 have F1 : Evo w w [bs] := Evo.refl _ _
 have a7 := FM l9
 have aT := C.size
 refine DI (zs := [_, _, _]) Ag η rfl ?_
 intro b17 w18 J17 E18 B17 Y17
 have dt := E18.size
 replace C := Z0 C E18
 replace F1 := Z0 F1 E18
 replace j := j.evo0 E18
 refine Cd (And.intro ?_ ?_)
 exact IR.step (i := 11) ω hu az J hP F1 C (by rw [FX υ υ υ]; exact j) (Bj (BJ (M := MR))) ⟨_, by omega, rfl, 0, [], 0, B17⟩
 exact ψ
 refine ⟨fun l9 g w hu hd ⟨o, I⟩ => ?_, ?_⟩
 obtain ⟨C, j, J, hP⟩ := o.deps ω hu
 refine Bx I ?_
 have F1 : Evo w w [bs] := Evo.refl _ _
 have a7 := FM l9
 have aT := C.size
 have a_ := j.at
 obtain ⟨bz, bt, R, ky, sy, iy, U⟩ := hP 11 (Cl hd 11 ζ)
 obtain ⟨kz, sz, iz, bb, bm, b5⟩ := hP 10 (Cl hd 10 ζ)
 refine BO (i := 7) (v := .pointer (some ⟨bz, 0, none⟩)) R (BO (i := 26) (v := .agg #[.int .i64 kz, S sz, .int .i64 iz]) bb (BB (v := .agg _) (vs := [_, _, _]) (cs' := [_, _, _]) η η U Ag η rfl η rfl η ?_))
 intro w19 E19 V19 hb_new
 have du := E19.size
 replace C := Z1 C E19 ε
 replace j := j.evo E19 θ
 replace a_ := a_.evo E19 θ
 replace U := hb_new
 clear hb_new
 refine Cd (And.intro ?_ ?_)
 exact IR.last hu (TJ hd ζ) C (by rw [FX υ υ υ]; exact j) ⟨bz, kz, sz, iz, by omega, rfl, U, bm, b5⟩
 exact ψ
 exact trivial
 rintro g dV ⟨bx, kx, tx, ix, hj21, ag, U, j, htx, hbx0, hnx2, hix, hzl8, hV⟩
 have b1 := hV.size
 have cR := U.lt
 have cV := j.lt
 replace hl := ba _ hV
 have bg := U.at
 have a_ := j.at
 refine Zk 7 hj21 (AB (Zs (Zo Ey (Zr [.pointer _, .int _ _] rfl η func38 (Bd j hl ω ω ω) ?_))))
 rintro e dc ⟨dm, rfl, hx24, F24, hn24⟩
 refine ⟨_, rfl, ?_⟩
 have dv := F24.size
 replace hV := Z1 hV F24 (.inr (by simp))
 replace hl := ba _ hV
 replace ag := ag.evo F24 (by intro g hg hm; simp at hm; subst hm; have := ag.block hg; omega)
 replace U := U.evo F24 θ
 replace bg := bg.evo F24 θ
 replace j := hn24
 clear hn24
 have a_ := j.at
 refine Zn IG (C1 [30] (fun g w => ∃ bp : Int, OwnE w w0.heap.size 32 vf f ∧ Blk w bx 32 [.int .i64 kx, S tx, .int .i64 bp] ∧ Blk w bs T [.slice ao l.length cap, .int .i64 ((N1 + 3 + 1) : Nat)] ∧ (0 ≤ bp ∧ bp ≤ 3) ∧ dc.heap.size ≤ w.heap.size ∧ Evo w0 w [bs]) ?_ ?_)
 refine AE η (fun b3 => ?_) (fun b3 => ?_)
 refine AA (Zo (AJ rfl η DU) (BB (v := .int _ _) (vs := [_]) (cs' := [_, _, _]) η η U Cf η rfl η rfl η ?_))
 intro w27 E27 V27 hb_new
 have dw := E27.size
 replace hV := Z1 hV E27 ε
 replace ag := ag.evo E27 (by intro g hg hm; simp at hm; subst hm; exact hnx2 _ hg rfl)
 replace j := j.evo E27 θ
 replace U := hb_new
 have bg := U.at
 clear hb_new
 refine As (Ae ?_ ?_)
 refine ⟨_, ag, U, j, (by first | exact hix | exact ⟨by decide, by decide⟩), δ, hV⟩
 exact ψ
 refine AF (Ae ?_ ?_)
 refine ⟨_, ag, U, j, (by first | exact hix | exact ⟨by decide, by decide⟩), δ, hV⟩
 exact ψ
 rintro g dW ⟨bp, ag, U, j, hix2, hzl25, hV⟩
 have b2 := hV.size
 have c0 := U.lt
 have c3 := j.lt
 have bg := U.at
 have a_ := j.at
 refine AA (Zo (AP (v := vf) rfl η) (Zo (AY rfl CT Ag η rfl bg) (Ad (u := .agg _) (y := ⟨_, _, _⟩) rfl rfl underlying33 Ag η ag (fun _ => η) η ξ (τ) (τ) ω ?_)))
 intro q_v31 v31 w32 E32 hov31 hlv31
 have dx := E32.size
 replace hV := AI hV E32 (fun g hg => .inl (by first | exact (ag.block hg).1 | (have := ag.block hg; omega)))
 replace j := j.evo E32 (by intro hm; have c4 := Option.mem_toList.1 hm; have := ag.block c4; omega)
 refine Zn (AM (v := v31) rfl η) (AO (AA (Zo AN (Zo JV (Zn Ah (Zg (i - 1) ?_))))))
 refine ⟨_, _, _, σ, rfl, (hov31.base_le ω), j, (by rw [List.length_append, BT, CX]; simp only [List.length_cons, List.length_nil]; omega), (IY hid hix2), δ, hV⟩
 refine AW rfl (Zs (Zo (AP (v := vf) rfl η) (Zn (AM (v := vf) rfl η) (AK (BN (v := vf) rfl η) ?_))))
 exact ⟨_, _, rfl, ⟨by omega, by omega, hid⟩, hV, ag⟩
end Go.Proofs.YtlfjocbnbceceaaGreatDoor
namespace Go.Proofs.YtlfjocbnbceceaaGreatDoor
open Go Go.RowKit Go.Vc
theorem WS {b : List Vc.Item} {x : Vc.Item} (h : EJ b x = true) (j : DE x = true) : JM x := by
  rcases (HS x).1 j with (h2 | h2) | h2 <;> (unfold EJ at h; simp [h2] at h; unfold JM; omega)
theorem P7 : ∀ (f b : List Vc.Item), ES b f = 0 → ∀ x ∈ Ac f, JM x
  | [], _, _, x, hx => by cases hx
  | y :: f, b, h, x, hx => by
    unfold ES at h
    split at h
    · rename_i hc
      unfold Ac at hx
      rw [List.filter_cons] at hx
      split at hx
      · rename_i hy
        rcases List.mem_cons.1 hx with rfl | hx
        · unfold Ef at hc
          split at hc
          · rename_i hf; exact WS hf hy
          · exact absurd hc υ
        · exact P7 f _ h x hx
      · exact P7 f _ h x hx
    · exact absurd h κ
structure PairR (f g : List Vc.Item) : Prop where
  tf : Tiny f
  tg : Tiny g
  nf : ∀ x ∈ Ac f, JM x
  ng : ∀ x ∈ Ac g, JM x
  vf : ES [] f = 0
theorem OE {f : List Vc.Item} {n : Int} (o : n ≤ 20) (h1 : (f.length : Int) ≤ 2 * n) (j : (BK f : Int) ≤ 30 * n) : Tiny f := ⟨by omega, by omega⟩
theorem an {f : List Vc.Item} (h : ∀ y ∈ f, 0 ≤ y.id ∧ y.id ≤ 3) : ∀ x ∈ Ac f, JM x := fun x j => by
  have := h x (List.mem_filter.1 j).1
  unfold JM; omega
theorem ZX {f g : List Vc.Item} (h : Em g = Em f) (j : ∀ x ∈ Ac f, JM x) : ∀ x ∈ Ac g, JM x := by
  rw [← Pu g, h, Pu]; exact j
structure MadeC (c : Chk) : Prop where
  len : c.lev.length = 13
  lev : ∀ x ∈ c.lev, 0 ≤ x ∧ x ≤ 2
  lev0 : c.lev.getD 0 default = 0
  sh : 0 ≤ c.short ∧ c.short ≤ 100
  lo : c.long = 0 ∨ (100 ≤ c.long ∧ c.long ≤ 10000)
  ts : ∀ x ∈ c.ts, MadeTm x
  tl : c.ts.length ≤ 3
  cl : c.cls.length ≤ 2
  vt : E0 c.ts c.cls = 0
theorem MadeC.jud {c : Chk} (h : MadeC c) : ∀ x ∈ c.ts, IH x := fun x j => (h.ts x j).jud
theorem MadeC.tl40 {c : Chk} (h : MadeC c) : c.ts.length ≤ 40 := Nat.le_trans h.tl υ
theorem MadeC.ok {c : Chk} (h : MadeC c) : ¬ LO c := by
  have h1 := h.sh; have j := h.lo; have o := h.lev0
  rintro (⟨x, hx, h4⟩ | h4)
  · have := h.lev x hx; omega
  · omega
theorem Qn {l : List Int} {rest : List Value} {k : Nat} {x : Int} (hk : k < l.length) : (l.map (Value.int .i64) ++ rest).take k ++ [.int .i64 x] ++ (l.map (Value.int .i64) ++ rest).drop (k + 1) = (l.set k x).map (Value.int .i64) ++ rest := by
  rw [List.take_append_of_le_length θ, List.drop_append_of_le_length θ, ← List.append_assoc]
  congr 1
  rw [← List.map_take, ← List.map_drop, List.set_eq_take_append_cons_drop, if_pos hk, List.map_append, List.map_cons, List.append_assoc]; rfl
theorem Qq {l : List Int} {rest : List Value} {k n : Nat} (j : n = 1) (hk : k < l.length) : Nat.ble (k + n) (l.map (Value.int .i64) ++ rest).length = true := by
  rw [Nat.ble_eq, List.length_append, List.length_map]; omega
theorem Xw {l : List Int} (h : l.length = 13) : ∃ a0 C a2 a3 a4 a5 I J R a9 j o a12, l = [a0, C, a2, a3, a4, a5, I, J, R, a9, j, o, a12] := by
  match l, h with
  | [a0, C, a2, a3, a4, a5, I, J, R, a9, j, o, a12], _ => exact ⟨_, _, _, _, _, _, _, _, _, _, _, _, _, rfl⟩
def LevR (l : List Int) : Prop := l.length = 13 ∧ (∀ x ∈ l, 0 ≤ x ∧ x ≤ 2) ∧ l.getD 0 default = 0
theorem LevR.init : LevR (List.replicate 13 0) := ⟨rfl, fun x j => by rw [List.eq_of_mem_replicate j]; decide, rfl⟩
theorem LevR.set {l : List Int} {k : Nat} {x : Int} (h : LevR l) (hk : 1 ≤ k) (j : 0 ≤ x ∧ x ≤ 2) : LevR (l.set k x) := by
  refine ⟨by rw [List.length_set]; exact h.1, fun y o => ?_, ?_⟩
  · rcases List.mem_or_eq_of_mem_set o with q | q
    · exact h.2.1 y q
    · rw [q]; exact j
  · rw [List.getD_eq_getElem?_getD, List.getElem?_set_ne ω, ← List.getD_eq_getElem?_getD]; exact h.2.2
theorem Yl {k : Nat} (hk : k < 4) : ([0, 100, 150, 400] : List Int).getD k default = 0 ∨ (100 ≤ ([0, 100, 150, 400] : List Int).getD k default ∧ ([0, 100, 150, 400] : List Int).getD k default ≤ 10000) := by
  rcases (show k = 0 ∨ k = 1 ∨ k = 2 ∨ k = 3 by omega) with rfl | rfl | rfl | rfl <;> decide
theorem bh {n : Nat} (h : n ≤ 9) : EC n [] = [UInt8.ofNat (48 + n % 10)] := Ej [] ω
theorem Wc {n : Nat} (h : n ≤ 9) : Cs (99 :: EC n []) = true := by
  rw [bh h]
  have : ∀ n, n ≤ 9 → Cs [99, UInt8.ofNat (48 + n % 10)] = true := by decide
  exact this n h
theorem Z7 {a b : Nat} (j : a ≤ 9) (o : b ≤ 9) (h : ¬ a = b) : ¬ (99 :: EC a [] : AQ) = 99 :: EC b [] := by
  rw [bh j, bh o]
  have : ∀ a, a ≤ 9 → ∀ b, b ≤ 9 → ¬ a = b → ¬ ([99, UInt8.ofNat (48 + a % 10)] : AQ) = [99, UInt8.ofNat (48 + b % 10)] := by decide
  exact this a j b o h
theorem TG {s : AQ} (h : s ∈ Di) : BV s = true ∧ s.length ≤ 8 := by
  have : ∀ s ∈ Di, BV s = true ∧ s.length ≤ 8 := by decide
  exact this s h
theorem V0 {s : AQ} (h : s ∈ G7) : BV s = true ∧ s.length ≤ 8 := by
  have : ∀ s ∈ G7, BV s = true ∧ s.length ≤ 8 := by decide
  exact this s h
theorem Tv {es : List Ende} (h : MadeE es) {k : Nat} (hk : k < es.length) : EK (es.take k) (es.getD k default) = 0 := by
  have e : es.getD k default = es[k] := by simp [List.getD, hk]
  have h1 := h.2 _ (List.getElem_mem hk)
  rw [e]
  unfold EK
  rw [if_pos ⟨TG h1.1, V0 h1.2⟩, if_neg]
  intro hm
  obtain ⟨j, C, o⟩ := List.mem_iff_getElem.1 hm
  rw [List.length_take] at C
  rw [List.getElem_take] at o
  exact (List.pairwise_iff_getElem.1 h.1) j k ω hk ω o
theorem T8 {cl : List Clas} {N : Nat} (h : MadeP cl N 0) (U : N ≤ 9) : Dt cl = 0 := by
  have hl : cl.length = N := h.1
  refine NC (i := cl.length) ω (fun j R => ?_) (Nat.le_refl _)
  have C : ∀ q, (I : q < cl.length) → (cl.getD q default).name = 99 :: EC (N - q) [] := fun q I => by
    have e : cl.getD q default = cl[q] := by simp [List.getD, I]
    rw [e]; exact h.2.1 q I
  have o := h.mem (A5 R)
  have J : FA (cl.take j) (cl.getD j default).name = 0 := by
    rw [C j R]
    refine OP (Wc ω) ?_
    rw [Jp (fun q I => ?_)]
    · decide
    · rw [List.length_take] at I
      have e : (cl.take j).getD q default = cl.getD q default := by simp [List.getD, List.getElem?_take, show q < j by omega]
      rw [e, C q ω]
      exact Z7 ω ω ω
  rw [IQ J (by have := o.2; omega)]
  exact P9 (k := (cl.getD j default).ends.length) (fun k hk => Tv o.1 hk) (Nat.le_refl _)
def Zw (c : List Clas) (n : AQ) : Prop := n = [] ∨ ∃ z ∈ c, z.name = n
theorem VU {c : List Clas} {n : AQ} (h : Zw c n) : ¬ (n ≠ [] ∧ Ca c n < 0) := by
  rintro ⟨h1, h2⟩
  rcases h with h | ⟨z, hz, h3⟩
  · exact h1 h
  · have j : c.findIdx (fun x => decide (x.name = n)) < c.length := List.findIdx_lt_length_of_exists ⟨z, hz, by simpa using h3⟩
    unfold Ca at h2; rw [if_pos j] at h2; exact absurd h2 ω
theorem TT {s : AQ} (h : s ∈ stemW) : C2 s := by
  have : ∀ s ∈ stemW, C2 s := by decide +kernel
  exact this s h
theorem dG : ∀ a ∈ phrW, CC (Hj [a] []) := by decide +kernel
theorem dC : ∀ a ∈ phrW, ∀ b ∈ phrW, CC (Hj [a, b] []) := by decide +kernel
theorem dK : ∀ a ∈ phrW, ∀ b ∈ phrW, ∀ c ∈ phrW, CC (Hj [a, b, c] []) := by decide +kernel
theorem Rz {s : AQ} (h : MadePh s) : CC s := by
  obtain ⟨ws, ⟨h1, o, j⟩, rfl⟩ := h
  match ws, h1, o with
  | [a], _, _ => exact dG a (j a (by simp))
  | [a, b], _, _ => exact dC a (j a (by simp)) b (j b (by simp))
  | [a, b, c], _, _ => exact dK a (j a (by simp)) b (j b (by simp)) c (j c (by simp))
  | a :: b :: c :: d :: r, _, o => simp at o
def Qc (c : List Clas) (x : TermL) : Prop := MadeTm x ∧ ∀ y ∈ x.words, Zw c y.add
theorem Wd {c : List Clas} {x : TermL} (h : Qc c x) : GZ c x = 0 := by
  obtain ⟨⟨⟨h1, R, I⟩, ⟨U, J⟩, h6, h7⟩, h8⟩ := h
  refine OT (fun q => by unfold LB at q; omega) (fun j C => ?_) (fun j C => ?_)
  · have hm := A5 C
    exact QR (TT (I _ hm).1) (VU (h8 _ hm))
  · rcases (show j = 0 ∨ j = 1 by omega) with rfl | rfl
    · exact D6 (fun i o => Qt (Rz (J _ (A5 o))))
    · exact D6 (fun i o => Qt (Rz (h7 _ (A5 o))))
theorem TV {c : List Clas} {ts : List TermL} (o : Dt c = 0) (h : ∀ x ∈ ts, Qc c x) (I : ts.length ≤ 128) : E0 ts c = 0 := LX o ω (fun j C => Wd (h _ (A5 C)))
end Go.Proofs.YtlfjocbnbceceaaGreatDoor
