/-
  Library, plain laws and walks that the statements reach (joined by a program out of smaller texts).
-/
import Derived.Test.YtlfjocbnbceceaaGreatDoorBh
import Derived.Test.YtlfjocbnbceceaaGreatDoorBf
import Derived.Test.YtlfjocbnbceceaaGreatDoorBe
import Derived.Test.YtlfjocbnbceceaaGreatDoorBb
import Derived.Test.YtlfjocbnbceceaaGreatDoorBa
import Derived.Deep.Strs
import Derived.OpenShut
import Derived.Test.YtlfjocbnbceceaaGreatDoorBd
import Derived.Test.YtlfjocbnbceceaaGreatDoorRows
set_option linter.unusedVariables false
set_option linter.unusedSimpArgs false
namespace Go.Proofs.YtlfjocbnbceceaaGreatDoor
open Go.RowKit Go.Vc Go.Proofs.Tryz
set_option maxHeartbeats 1000000 in
theorem Qi {T bs : Nat} {ao : Option Addr} {b off cap : Nat} {l : List Int} {N : Nat} {b1 : Option Addr} {cV cr bz : Nat} {src : List Vc.Item} {w0 : World} (I : Blk w0 bs T [.slice ao l.length cap, .int .i64 (N : Nat)]) (hl : ∀ w', Evo w0 w' [bs] → RowE w' ao b off cap l) (hN : N ≤ 100000) (bl : ∀ w', Evo w0 w' [bs] → RowE w' b1 cV cr bz src) (dX : src.length ≤ 100) (dq : BK src ≤ 10000) :
    Calls Tryz.prog 43 #[.pointer (some ⟨bs, 0, none⟩), .slice b1 src.length bz] w0 fun e w' => ∃ v, ∃ f : List Vc.Item, ∃ N', e = .returned v ∧ (Em f = Em src ∧ f.length ≤ 2 * src.length ∧ BK f ≤ BK src + 26 * src.length) ∧ (N ≤ N' ∧ N' ≤ N + 10 * src.length) ∧ Evo w0 w' [bs] ∧ Blk w' bs T [.slice ao l.length cap, .int .i64 (N' : Nat)] ∧ OwnE w' w0.heap.size 32 v f := by
 have R := I.at; have c4 := I.lt
 refine AG (n := 46) func43 rfl ntmps43 rfl ?_
 have J : Evo w0 w0 [bs] := Evo.refl _ _
 have bb := hl
 replace hl := bb _ J
 have cQ := hl.bd
 have bm := bl
 replace bl := bm _ J
 have b8 := bl.bd
 refine Zs (Zn Bs (Zs (Zn Bs (AB (Zs (Zo Ar (Zo (AL rfl η underlying33) (Zn AN (AD ?_)))))))))
 refine AZ (α := Nat) [5, 6, 7, 10, 11, 12, 13, 14, 15, 16, 17, 18, 19, 20, 21, 22, 23, 24, 25, 26, 27, 28, 29, 30, 31, 32, 33, 34, 35, 36, 37, 38, 39, 40, 41, 42, 43, 44] (fun k g w => ∃ vf : Value, ∃ f : List Vc.Item, ∃ N1 : Nat, g 10 = .int .i64 (k : Nat) ∧ g 5 = vf ∧ k ≤ src.length ∧ OwnE w w0.heap.size 32 vf f ∧ Blk w bs T [.slice ao l.length cap, .int .i64 (N1 : Nat)] ∧ Em f = Em (src.take k) ∧ (f.length ≤ 2 * k ∧ BK f ≤ BK (src.take k) + 26 * k ∧ N ≤ N1 ∧ N1 ≤ N + 10 * k) ∧ w0.heap.size ≤ w.heap.size ∧ Evo w0 w [bs]) (fun k => src.length - k) 0 ?_ ?_
 refine ⟨_, [], _, σ, rfl, δ, (OwnE.nil _ _ _), I, rfl, (by simp [BK]), δ, J⟩
 rintro k g w2 ⟨vf, f, N1, hj3, hj4, hk_k, o, I, hsk, hsz, hzl1, J⟩
 have cb := J.size
 have dn := I.lt
 replace bl := bm _ J
 have R := I.at
 refine Zk 10 hj3 (Zk 5 hj4 (Zs (Zn Bu (AB (AE η (fun c9 => ?_) (fun c9 => ?_))))))
 refine AF (AB (AD (Zs (Zo AN (Zn Ah (AB ?_))))))
 have ag := fun g U => (o.block (g := g) U).2
 refine AA (Zo Ar (Zo AN (Zo (AV (k) rfl underlying33 Ag η η χ ω (bl.addr (i := k) ω)) ?_)))
 have b7 := fun (w' : World) (h : Evo w0 w' [bs]) => (bm w' h).atD (k) ω
 have c0 := b7 _ J
 refine Zo (AY rfl CT Ag η rfl c0) ?_
 have dp := fun g U => (o.block (g := g) U).2
 refine CO (zs := [_, _, _]) (vs := [_, _, _]) Ag η rfl η (fun _ => rfl) η rfl rfl η ?_
 intro b9 w10 J9 E10 B9 Y9
 have ds := E10.size
 replace J := Z0 J E10
 replace hl := bb _ J
 replace o := o.evo0 E10
 replace I := I.evo0 E10
 replace R := R.evo0 E10
 refine As (AB (AB ?_))
 have dZ := Iv src k; have d_ := Jm src k ω; have ea := Hl src (k + 1)
 refine AA (Zo (AJ rfl η Bo) (Zo (AH rfl A0 η (B9.at.cell 0 η)) (Zn C3 (C1 [5, 20, 21, 22, 23, 24, 25, 26, 27, 28, 29, 30, 31, 32, 33, 34, 35, 36, 37, 38, 39] (fun g w => ∃ bw : Value, ∃ f2 : List Vc.Item, ∃ tx : AQ, ∃ N2 : Nat, g 5 = bw ∧ OwnE w w0.heap.size 32 bw f2 ∧ Blk w b9 32 [.int .i64 (src.getD k default).kind, S tx, .int .i64 (src.getD k default).id] ∧ Blk w bs T [.slice ao l.length cap, .int .i64 (N2 : Nat)] ∧ Em f2 = Em f ∧ (¬ (src.getD k default).kind = 1 → tx = (src.getD k default).text) ∧ (f2.length ≤ f.length + 1 ∧ BK f2 + tx.length ≤ BK f + (src.getD k default).text.length + 18 ∧ N1 ≤ N2 ∧ N2 ≤ N1 + 10) ∧ w10.heap.size ≤ w.heap.size ∧ Evo w0 w [bs]) ?_ ?_))))
 refine AE η (fun b_ => ?_) (fun b_ => ?_)
 refine C1 [20, 21, 22, 23, 24, 25, 26, 27, 28, 29, 30] (fun g w => ∃ tx : AQ, OwnE w w0.heap.size 32 vf f ∧ Blk w b9 32 [.int .i64 (src.getD k default).kind, S tx, .int .i64 (src.getD k default).id] ∧ Blk w bs T [.slice ao l.length cap, .int .i64 ((N1 + 1) : Nat)] ∧ tx.length ≤ (src.getD k default).text.length + 8 ∧ w10.heap.size ≤ w.heap.size ∧ Evo w0 w [bs]) ?_ ?_
 have dj := I
 have c3 := R
 have cK := B9
 have a_ := B9.at
 have di := J
 refine CJ ([bs]) ζ ?_
 intro w14 F15 C
 have dt := F15.size
 replace J := Z0 J F15
 replace hl := bb _ J
 replace o := o.evo0 F15
 replace I := I.evo0 F15
 replace R := R.evo0 F15
 replace B9 := B9.evo0 F15
 refine Zt (i := 0) η (fun w' hC => AJ rfl η CI) C (Zt (i := 1) η (fun w' hC => AH rfl BF η ((a_.evo hC θ).cell 1 η)) C (Zt (i := 2) η (fun w' hC => A7 rfl η η (by simp only [List.length_cons, List.length_nil]; omega)) C (Zt (i := 3) η (fun w' hC => AJ rfl η CI) C (Zt (i := 4) η (fun w' hC => AH rfl BF η ((a_.evo hC θ).cell 1 η)) C (Zt (i := 6) η (fun w' hC => Ey) C ?_)))))
 refine Kp (i := 5) (j := 7) ζ ?_ ?_
 refine Hx η ?_
 refine Av (pv := [(0, S _), (1, S _), (2, S _), (3, S _), (4, S _)]) (zs := [_]) (cs := [_, _, _, _, _]) underlying77 BW η rfl η rfl η ?_
 intro b17 w18 J17 E18 B17 Y17
 have du := E18.size
 replace J := Z0 J E18
 replace C := Z0 C E18
 replace hl := bb _ J
 replace o := o.evo0 E18
 replace I := I.evo0 E18
 replace R := R.evo0 E18
 replace B9 := B9.evo0 E18
 have aT : RowE w18 (some ⟨b17, 0, none⟩) b17 0 5 (ZK (src.getD k default).text) := Bl (ZK (src.getD k default).text) B17 rfl rfl
 refine Ap C ?_
 refine Zh (i := 7) ?_
 refine Zr [.pointer _, .int _ _] rfl η func38 (C4 I hl ω ω ω) ?_
 rintro e eb ⟨bn, rfl, hx19, F19, hn19⟩
 refine ⟨_, rfl, ?_⟩
 have dv := F19.size
 replace J := Z1 J F19 (.inr (by simp))
 replace C := Z1 C F19 ε
 replace o := o.evo F19 (by intro g U hm; simp at hm; subst hm; have h7 := ag g U; have h8 := o.block U; omega)
 replace B9 := B9.evo F19 θ
 replace aT := aT.evo F19 θ
 replace I := hn19
 clear hn19
 have R := I.at
 refine Ap C ?_
 refine Zt (i := 8) η (fun w' hC => AV (bn.toNat) rfl underlying77 BW η η ω (by show _ < 5; omega) (aT.addr (i := bn.toNat) (by show _ < 5; omega))) C ?_
 have b5 := aT.atD (bn.toNat) (by show _ < 5; omega)
 refine Zh (i := 9) ?_
 refine Zo (AH rfl BF η (b5.cell 0 η)) ?_
 refine CV ζ ?_
 refine Zh (i := 10) ?_
 refine Zo (AJ rfl η CI) ?_
 refine CV ζ ?_
 refine Zh (i := 11) ?_
 refine BB (v := S _) (vs := [_]) (cs' := [_, _, _]) η η B9 BW η rfl η rfl η ?_
 intro w21 E21 V21 hb_new
 have dw := E21.size
 replace J := Z1 J E21 ε
 replace o := o.evo E21 (by intro g U hm; simp at hm; subst hm; have h7 := ag g U; have h8 := o.block U; omega)
 replace I := I.evo E21 θ
 replace B9 := hb_new
 clear hb_new
 refine CV ζ ?_
 refine CH ζ ?_
 refine Ae ?_ ?_
 refine ⟨_, o, B9, I, (Ux _ _), δ, J⟩
 exact ψ
 refine Hx η ?_
 refine Zr [.pointer _, .int _ _] rfl η func38 (C4 I hl ω ω ω) ?_
 rintro e ec ⟨bp, rfl, hx22, F22, hn22⟩
 refine ⟨_, rfl, ?_⟩
 have dx := F22.size
 replace J := Z1 J F22 (.inr (by simp))
 replace C := Z1 C F22 ε
 replace o := o.evo F22 (by intro g U hm; simp at hm; subst hm; have h7 := ag g U; have h8 := o.block U; omega)
 replace B9 := B9.evo F22 θ
 replace I := hn22
 clear hn22
 have R := I.at
 refine Ap C ?_
 refine Zh (i := 5) ?_
 refine Av (pv := [(0, S _), (1, S _), (2, S _), (3, S _), (4, S _)]) (zs := [_]) (cs := [_, _, _, _, _]) underlying77 BW η rfl η rfl η ?_
 intro b23 w24 J23 E24 B23 Y23
 have dy := E24.size
 replace J := Z0 J E24
 replace C := Z0 C E24
 replace o := o.evo0 E24
 replace B9 := B9.evo0 E24
 replace I := I.evo0 E24
 have bg : RowE w24 (some ⟨b23, 0, none⟩) b23 0 5 (ZK (src.getD k default).text) := Bl (ZK (src.getD k default).text) B23 rfl rfl
 refine Ap C ?_
 refine Zt (i := 8) η (fun w' hC => AV (bp.toNat) rfl underlying77 BW η η ω (by show _ < 5; omega) (bg.addr (i := bp.toNat) (by show _ < 5; omega))) C ?_
 have b6 := bg.atD (bp.toNat) (by show _ < 5; omega)
 refine Zh (i := 9) ?_
 refine Zo (AH rfl BF η (b6.cell 0 η)) ?_
 refine CV ζ ?_
 refine Zh (i := 10) ?_
 refine Zo (AJ rfl η CI) ?_
 refine CV ζ ?_
 refine Zh (i := 11) ?_
 refine BB (v := S _) (vs := [_]) (cs' := [_, _, _]) η η B9 BW η rfl η rfl η ?_
 intro w26 E26 V26 hb_new
 have dz := E26.size
 replace J := Z1 J E26 ε
 replace o := o.evo E26 (by intro g U hm; simp at hm; subst hm; have h7 := ag g U; have h8 := o.block U; omega)
 replace I := I.evo E26 θ
 replace B9 := hb_new
 clear hb_new
 refine CV ζ ?_
 refine CH ζ ?_
 refine Ae ?_ ?_
 refine ⟨_, o, B9, I, (Ux _ _), δ, J⟩
 exact ψ
 rintro g ed ⟨tx, o, B9, I, htl, hzl13, J⟩
 have bY := J.size
 have c_ := B9.lt
 have da := I.lt
 have R := I.at
 refine Ae ?_ ?_
 refine ⟨_, _, _, _, rfl, (o.base_le ω), B9, I, (by first | rfl | exact NO _ _), (by first | exact (fun h9 => absurd ω h9) | exact (fun _ => rfl)), (by first | omega | exact ⟨(az _).1, Nat.le_trans (Nat.add_le_add_right (az _).2 _) ω, by omega, by omega⟩), δ, J⟩
 exact ψ
 refine Zs (Zo Ey (Zr [.pointer _, .int _ _] rfl η func38 (C4 I hl ω ω ω) ?_))
 rintro e ee ⟨dr, rfl, hx30, F30, hn30⟩
 refine ⟨_, rfl, ?_⟩
 have dO := F30.size
 replace J := Z1 J F30 (.inr (by simp))
 replace o := o.evo F30 (by intro g U hm; simp at hm; subst hm; have h7 := ag g U; have h8 := o.block U; omega)
 replace B9 := B9.evo F30 θ
 replace I := hn30
 clear hn30
 have R := I.at
 refine Zn C3 (AE η (fun ca => ?_) (fun ca => ?_))
 have az : ∀ t : AQ, (CE (f ++ [⟨1, t, 0⟩])).length ≤ f.length + 1 ∧ BK (CE (f ++ [⟨1, t, 0⟩])) ≤ BK f + t.length := fun t => by have h1 := I4 (f ++ [⟨1, t, 0⟩]); have h2 := H2 (f ++ [⟨1, t, 0⟩]); rw [List.length_append] at h1; rw [BT, CX] at h2; exact ⟨h1, h2⟩
 have cc : ∀ t : AQ, t.length ≤ 18 → Fh (f ++ [⟨1, t, 0⟩]) := fun t ht => ⟨by rw [List.length_append]; simp; omega, by rw [BT, CX]; simp; omega⟩
 refine AA (Zo (AP (v := vf) rfl η) (Zo Ey (Zr [.pointer _, .int _ _] rfl η func74 (N7 I (fun w9 h9 => bb _ (Evo.trans J h9 (fun x hx _ => hx))) ω ω ω ω) ?_)))
 rintro e ef ⟨bF, Nl32, rfl, htl32, hNl32, F32, hn32⟩
 refine ⟨_, rfl, ?_⟩
 have dQ := F32.size
 replace J := Z1 J F32 (.inr (by simp))
 replace o := o.evo F32 (by intro g U hm; simp at hm; subst hm; have h7 := ag g U; have h8 := o.block U; omega)
 replace B9 := B9.evo F32 θ
 replace I := hn32
 clear hn32
 have R := I.at
 refine Zo (Aj (pv := [(0, .int _ _), (1, S _)]) (zs := [_, _, _]) (cells := [_, _, _]) rfl Ag η Gr η η) (Av (pv := [(0, .agg _)]) (zs := [_, _, _]) (cs := [_, _, _]) underlying33 Ag η rfl η rfl η ?_)
 intro b33 w34 J33 E34 B33 Y33
 have dR := E34.size
 replace J := Z0 J E34
 replace o := o.evo0 E34
 replace B9 := B9.evo0 E34
 replace I := I.evo0 E34
 have a7 : RowE w34 (some ⟨b33, 0, none⟩) b33 0 1 ([⟨1, bF, 0⟩] : List Vc.Item) := Bl ([⟨1, bF, 0⟩] : List Vc.Item) B33 rfl rfl
 obtain ⟨dd, dV, df, cg, bc, dk⟩ := o.rowOf
 subst cg
 refine Zr [.slice _ _ _, .slice (some ⟨b33, 0, none⟩) _ _] rfl η func76 (HI bc a7 (cc _ ω)) ?_
 rintro e eg ⟨ct, rfl, F36, hon36⟩
 refine ⟨_, rfl, ?_⟩
 have dS := F36.size
 replace J := Z0 J F36
 replace o := o.evo0 F36
 replace B9 := B9.evo0 F36
 replace I := I.evo0 F36
 replace a7 := a7.evo0 F36
 replace bc := bc.evo0 F36
 refine Zn (AM (v := ct) rfl η) (Ae ?_ ?_)
 refine ⟨_, _, _, _, rfl, (hon36.base_le ω), B9, I, (by first | rfl | exact NO _ _), (by first | exact (fun h9 => absurd ω h9) | exact (fun _ => rfl)), (by first | omega | exact ⟨(az _).1, Nat.le_trans (Nat.add_le_add_right (az _).2 _) ω, by omega, by omega⟩), δ, J⟩
 exact ψ
 refine AF (Ae ?_ ?_)
 refine ⟨_, _, _, _, rfl, (o.base_le ω), B9, I, (by first | rfl | exact NO _ _), (by first | exact (fun h9 => absurd ω h9) | exact (fun _ => rfl)), (by first | omega | exact ⟨(az _).1, Nat.le_trans (Nat.add_le_add_right (az _).2 _) ω, by omega, by omega⟩), δ, J⟩
 exact ψ
 rintro g eh ⟨bw, f2, tx, N2, hj38, o, B9, I, hsk2, htx, hsz2, hzl11, J⟩
 have b0 := J.size
 have db := B9.lt
 have dc := I.lt
 have R := I.at
 refine Zk 5 hj38 ?_
 have bQ : Fh (f2 ++ [⟨(src.getD k default).kind, tx, (src.getD k default).id⟩]) := ⟨by rw [List.length_append]; simp; omega, by rw [BT, CX]; simp; omega⟩
 have ag := fun g U => (o.block (g := g) U).2
 refine AA (Zo (AP (v := bw) rfl η) (Zo (AY rfl CT Ag η rfl B9.at) (Av (pv := [(0, .agg _)]) (zs := [_, _, _]) (cs := [_, _, _]) underlying33 Ag η rfl η rfl η ?_)))
 intro b41 w42 J41 E42 B41 Y41
 have dT := E42.size
 replace J := Z0 J E42
 replace o := o.evo0 E42
 replace I := I.evo0 E42
 have a8 : RowE w42 (some ⟨b41, 0, none⟩) b41 0 1 ([⟨(src.getD k default).kind, tx, (src.getD k default).id⟩] : List Vc.Item) := Bl ([⟨(src.getD k default).kind, tx, (src.getD k default).id⟩] : List Vc.Item) B41 rfl rfl
 obtain ⟨de, dW, dh, cn, bf, dm⟩ := o.rowOf
 subst cn
 refine Zr [.slice _ _ _, .slice (some ⟨b41, 0, none⟩) _ _] rfl η func76 (HI bf a8 bQ) ?_
 rintro e ei ⟨cH, rfl, F44, hon44⟩
 refine ⟨_, rfl, ?_⟩
 have dU := F44.size
 replace J := Z0 J F44
 replace o := o.evo0 F44
 replace I := I.evo0 F44
 replace a8 := a8.evo0 F44
 replace bf := bf.evo0 F44
 refine Zn (AM (v := cH) rfl η) (AO (AA (Zo A8 (Zn AN (Zg (k + 1) ?_)))))
 refine ⟨_, _, _, σ, rfl, δ, (hon44.base_le ω), I, (by rw [Vg src k ω, ← hsk]; exact Vf hsk2 htx), (by have h1 := I4 (f2 ++ [⟨(src.getD k default).kind, tx, (src.getD k default).id⟩]); have h2 := H2 (f2 ++ [⟨(src.getD k default).kind, tx, (src.getD k default).id⟩]); have h3 := Jm src k ω; rw [List.length_append] at h1; rw [BT, CX] at h2; simp only [List.length_cons, List.length_nil] at h1 h2; omega), δ, J⟩
 refine AW rfl (Zs (Zo (AP (v := vf) rfl η) (Zn (AM (v := vf) rfl η) (AK (BN (v := vf) rfl η) ?_))))
 exact ⟨_, _, N1, rfl, ⟨by rw [List.take_of_length_le ω] at hsk; exact hsk, by omega, by rw [List.take_of_length_le ω] at hsz; omega⟩, by omega, J, I, o⟩
theorem cS : D3 Tryz.prog 70 = some [(0, 1), (1, 1)] := ζ
theorem al : Dl Tryz.prog 22 = some (1, 24, some (.slice none 0 0)) := ζ
theorem ck : Dl Tryz.prog 70 = some (2, 32, some (.agg #[(.slice none 0 0), (.int .i64 0)])) := ζ
set_option maxHeartbeats 4000000 in
theorem Nw {y1 y2 T bs : Nat} {ao : Option Addr} {b off cap : Nat} {l : List Int} {N : Nat} {n : Int} {w0 : World} (j : Blk w0 bs T [.slice ao l.length cap, .int .i64 (N : Nat)]) (hl : ∀ w', Evo w0 w' [bs] → RowE w' ao b off cap l) (hN : N ≤ 800000) (eJ : 0 ≤ n) (eK : n ≤ 8) (eL : y1 < w0.heap.size) (eM : y2 < w0.heap.size) :
    Calls Tryz.prog 39 #[.pointer (some ⟨bs, 0, none⟩), .int .i64 n] w0 fun e w' => ∃ v, ∃ cl : List Clas, ∃ m N' : Nat, e = .returned v ∧ (MadeP cl m 0 ∧ (m : Int) ≤ n) ∧ (N ≤ N' ∧ N' ≤ N + 100) ∧ Evo w0 w' [bs] ∧ Blk w' bs T [.slice ao l.length cap, .int .i64 (N' : Nat)] ∧ OwnR w' w0.heap.size 110 [bs, y1, y2] v cl := by
 have a_ := j.at; have dv := j.lt
 refine AG (n := 69) func39 rfl ntmps39 rfl ?_
 have hV : Evo w0 w0 [bs] := Evo.refl _ _
 have bl := hl
 replace hl := bl _ hV
 have dq := hl.bd
 refine Zs (Zn Bs (Zs (Zn Bs (AB (Zs (Zo Ey (Zo AN (Zo A8 (Zr [.pointer _, .int _ _] rfl η func38 (Bd j hl ω ω ω) ?_)))))))))
 rintro e w1 ⟨cI, rfl, hx1, F1, hn1⟩
 refine ⟨_, rfl, ?_⟩
 have Q1 := F1.size
 replace hV := Z1 hV F1 (.inr (by simp))
 replace hl := bl _ hV
 replace j := hn1
 clear hn1
 have a_ := j.at
 refine Zn Ah (AD (AZ (α := Nat) [5, 6, 7, 8, 9, 10, 12, 17, 18, 19, 20, 21, 22, 23, 24, 25, 26, 27, 28, 29, 30, 31, 32, 33, 34, 35, 36, 37, 38, 39, 40, 41, 42, 43, 44, 45, 46, 47, 48, 49, 50, 51, 52, 53, 54, 55, 56, 57, 58, 59, 60, 61, 62, 63, 64, 65, 66, 67] (fun i g w => ∃ vo : Value, ∃ cl : List Clas, ∃ N1 : Nat, g 6 = .int .i64 (i : Nat) ∧ g 5 = vo ∧ OwnR w w0.heap.size 110 [bs, y1, y2] vo cl ∧ Blk w bs T [.slice ao l.length cap, .int .i64 (N1 : Nat)] ∧ MadeP cl cI.toNat i ∧ (N + 1 ≤ N1 ∧ N1 + 7 * i ≤ N + 1 + 7 * cI.toNat) ∧ w1.heap.size ≤ w.heap.size ∧ Evo w0 w [bs]) (fun i => i) cI.toNat ?_ ?_))
 refine ⟨_, [], _, (congrArg (Value.int _) ω), rfl, (OwnR.nil _ _ _ _), j, (MadeP.nil _), δ, δ, hV⟩
 rintro i g w3 ⟨vo, cl, N1, hj4, hj5, bm, j, hMP, hN1, hzl2, hV⟩
 have dk := hV.size
 have eo := j.lt
 have a_ := j.at
 refine Zk 6 hj4 (Zk 5 hj5 (AB (Zs (Zo AN (Zn IG (AE η (fun dx => ?_) (fun dx => ?_)))))))
 refine AF (AB (AD (AB ?_)))
 have df := Ew 0 i [] ω; simp only [List.length_nil] at df; have ek := hMP.1
 have hI : Evo w3 w3 [bs] := Evo.refl _ _
 have b5 := bm
 have di := fun g hg => (bm.block (g := g) hg).2
 refine AA (Zo AN (Zr [.int _ _] rfl η func72 (Ow ω) ?_))
 rintro e w8 ⟨rfl, F8⟩
 refine ⟨_, rfl, ?_⟩
 have Q8 := F8.size
 replace hV := Z0 hV F8
 replace hI := Z0 hI F8
 replace j := j.evo0 F8
 replace a_ := a_.evo0 F8
 refine Zo (A7 rfl η η μ) (Zo (Aj (pv := [(0, S _)]) (zs := [_, _]) (cells := [_, _]) rfl Cw η cF η η) (CO (zs := [_, _]) (vs := [_, _]) Cw η rfl η (fun _ => rfl) η rfl rfl η ?_))
 intro b9 w10 J9 E10 B9 Y9
 have et := E10.size
 replace hV := Z0 hV E10
 replace hI := Z0 hI E10
 replace hl := bl _ hV
 replace j := j.evo0 E10
 replace a_ := a_.evo0 E10
 have U := B9.at
 refine As (AB (Zs (Zo Ey (Zr [.pointer _, .int _ _] rfl η func38 (Bd j hl ω ω ω) ?_))))
 rintro e ec ⟨b7, rfl, hx11, F11, hn11⟩
 refine ⟨_, rfl, ?_⟩
 have eu := F11.size
 replace hV := Z1 hV F11 (.inr (by simp))
 replace hI := Z1 hI F11 ε
 replace hl := bl _ hV
 replace B9 := B9.evo F11 θ
 replace U := U.evo F11 θ
 replace j := hn11
 clear hn11
 have a_ := j.at
 refine Zn Ah (AD (AZ (α := Nat) [8, 9, 10, 12, 27, 28, 29, 30, 31, 32, 33, 34, 35, 36, 37, 38, 39, 40, 41, 42, 43, 44, 45, 46, 47, 48, 49, 50, 51, 52, 53, 54, 55, 56, 57, 58, 59, 60, 61, 62, 63] (fun kk g w => ∃ vs : Value, ∃ es : List Ende, ∃ N2 : Nat, g 8 = .int .i64 (kk : Nat) ∧ OwnE w w10.heap.size 112 vs es ∧ Blk w b9 110 [S (99 :: EC i []), vs] ∧ Blk w bs T [.slice ao l.length cap, .int .i64 (N2 : Nat)] ∧ MadeE es ∧ (es.length + kk ≤ 3 ∧ N1 + 1 ≤ N2 ∧ N2 + 2 * kk ≤ N1 + 1 + 2 * b7.toNat) ∧ ec.heap.size ≤ w.heap.size ∧ Evo w0 w [bs] ∧ Evo w3 w [bs]) (fun kk => kk) b7.toNat ?_ ?_))
 refine ⟨_, [], _, (congrArg (Value.int _) ω), (OwnE.nil _ _ _), B9, j, MadeE.nil, θ, δ, hV, hI⟩
 rintro kk g cQ ⟨vs, es, N2, hj14, o, B9, j, hME, hek, hzl12, hV, hI⟩
 have cV := hV.size
 have cR := hI.size
 have dz := B9.lt
 have dO := j.lt
 replace hl := bl _ hV
 have U := B9.at
 have a_ := j.at
 refine Zk 8 hj14 (AB (Zs (Zo AN (Zn IG (AE η (fun dd => ?_) (fun dd => ?_))))))
 refine AF (AB (AD (AB (C1 [9, 31, 32, 33, 34, 35, 36, 37, 38, 39, 40, 41] (fun g w => ∃ bx : Nat, ∃ sx : AQ, ∃ tx : AQ, g 9 = .pointer (some ⟨bx, 0, none⟩) ∧ Blk w bx 112 (Enc.enc (⟨sx, tx⟩ : Ende)) ∧ OwnE w w10.heap.size 112 vs es ∧ Blk w b9 110 [S (99 :: EC i []), vs] ∧ Blk w bs T [.slice ao l.length cap, .int .i64 (N2 + 2 : Nat)] ∧ sx ∈ Di ∧ tx ∈ G7 ∧ cQ.heap.size ≤ w.heap.size ∧ Evo w0 w [bs] ∧ Evo w3 w [bs]) ?_ ?_))))
 have aT : bs < cQ.heap.size := by omega
 refine ae M9 (I9 cQ bs 112 T N2 (.slice ao l.length cap)) ζ ζ (fun w1 he => I9.init (he.mono (by simp)) (j.evo0 he)) ?_ ?_
 intro g w20 C
 obtain ⟨F19, dw, bx, sx, tx, ej, dy, a8, b2, b3⟩ := C.done
 refine Zk 9 dy ?_
 have ev := F19.size
 replace hV := Z1 hV F19 (.inr (by simp))
 replace hI := Z1 hI F19 ε
 replace o := o.evo F19 (by intro g hg hm; simp at hm; subst hm; have := o.block hg; omega)
 replace B9 := B9.evo F19 θ
 replace U := U.evo F19 θ
 have j := dw; have a_ := j.at; have bL := a8.at
 refine Ae ?_ ?_
 refine ⟨_, _, _, rfl, a8, o, B9, j, b2, b3, δ, hV, hI⟩
 exact ψ
 refine ⟨fun l9 g w hu hd ⟨C, J⟩ => ?_, ?_⟩
 obtain ⟨I, j, R, hP⟩ := C.deps ω hu
 refine Bx J ?_
 have F1 : Evo w w [bs] := Evo.refl _ _
 have bb := FO l9
 have a1 := I.size
 refine Av (pv := [(0, S _), (1, S _), (2, S _), (3, S _), (4, S _)]) (zs := [_]) (cs := [_, _, _, _, _]) underlying77 BW η rfl η rfl η ?_
 intro b21 w22 J21 E22 B21 Y21
 have ew := E22.size
 replace I := Z0 I E22
 replace F1 := Z0 F1 E22
 replace j := j.evo0 E22
 have cr : RowE w22 (some ⟨b21, 0, none⟩) b21 0 5 Di := Bl Di B21 rfl rfl
 refine Cd (And.intro ?_ ?_)
 exact I9.step (i := 0) ω hu aT R hP F1 I (by rw [Et υ υ]; exact j) (Bj (BJ (M := M9))) ⟨_, by omega, rfl, cr⟩
 exact ψ
 refine ⟨fun l9 g w hu hd ⟨C, J⟩ => ?_, ?_⟩
 obtain ⟨I, j, R, hP⟩ := C.deps ω hu
 refine Bx J ?_
 have F1 : Evo w w [bs] := Evo.refl _ _
 have bb := FO l9
 have a1 := I.size
 refine Zo Ey (Cd (And.intro ?_ ?_))
 exact I9.step (i := 1) ω hu aT R hP F1 I (by rw [Et υ υ]; exact j) (Bj (BJ (M := M9))) rfl
 exact ψ
 refine ⟨fun l9 g w hu hd ⟨C, J⟩ => ?_, ?_⟩
 obtain ⟨I, j, R, hP⟩ := C.deps ω hu
 refine Bx J ?_
 have F1 : Evo w w [bs] := Evo.refl _ _
 have bb := FO l9
 have a1 := I.size
 have ag := hP 1 (Cl hd 1 ζ)
 have hl := bl _ (Evo.trans hV I (fun x hx _ => hx))
 refine BO (i := 32) (v := .pointer (some ⟨bs, 0, none⟩)) ag (Zr [.pointer _, .int _ _] rfl η func38 (Bd j hl ω ω ω) ?_)
 rintro e eN ⟨ep, rfl, hx23, F23, hn23⟩
 refine ⟨_, rfl, ?_⟩
 have ey := F23.size
 replace I := Z1 I F23 ε
 replace F1 := Z1 F1 F23 ε
 replace j := hn23
 clear hn23
 refine Cd (And.intro ?_ ?_)
 exact I9.step (i := 2) ω hu aT R hP F1 I (by rw [c8 hu]; exact j) (Bj (Bm (BJ (M := M9)) ag)) ⟨_, rfl, hx23⟩
 exact ψ
 refine ⟨fun l9 g w hu hd ⟨C, J⟩ => ?_, ?_⟩
 obtain ⟨I, j, R, hP⟩ := C.deps ω hu
 refine Bx J ?_
 have F1 : Evo w w [bs] := Evo.refl _ _
 have bb := FO l9
 have a1 := I.size
 obtain ⟨bz, bt, ag, bp⟩ := hP 0 (Cl hd 0 ζ)
 obtain ⟨rz, bg, dX, dY⟩ := hP 2 (Cl hd 2 ζ)
 refine BO (i := 31) (v := .slice (some ⟨bz, 0, none⟩) 5 5) ag (BO (i := 33) (v := .int .i64 rz) bg (Zo (AV (rz.toNat) rfl underlying77 BW η η ω (by show _ < 5; omega) (bp.addr (i := rz.toNat) (by show _ < 5; omega))) ?_))
 have eg := bp.atD (rz.toNat) (by show _ < 5; omega)
 refine Cd (And.intro ?_ ?_)
 exact I9.step (i := 3) ω hu aT R hP F1 I (by rw [Et υ υ]; exact j) (Bj (Bm (Bm (BJ (M := M9)) ag) bg)) (by obtain ⟨sq, cg, cn⟩ := RI bp (show rz.toNat < _ by show _ < 5; omega) rfl; exact ⟨_, _, sq, by omega, rfl, cg, cn⟩)
 exact ψ
 refine ⟨fun l9 g w hu hd ⟨C, J⟩ => ?_, ?_⟩
 obtain ⟨I, j, R, hP⟩ := C.deps ω hu
 refine Bx J ?_
 have F1 : Evo w w [bs] := Evo.refl _ _
 have bb := FO l9
 have a1 := I.size
 obtain ⟨bz, jz, sz, bt, ag, cc, bq⟩ := hP 3 (Cl hd 3 ζ)
 refine BO (i := 34) (v := .pointer (some ⟨bz, jz, none⟩)) ag (Zo (AH rfl BF η (cc.cell 0 η)) (Cd (And.intro ?_ ?_)))
 exact I9.step (i := 4) ω hu aT R hP F1 I (by rw [Et υ υ]; exact j) (Bj (Bm (BJ (M := M9)) ag)) ⟨_, rfl, bq⟩
 exact ψ
 refine ⟨fun l9 g w hu hd ⟨C, J⟩ => ?_, ?_⟩
 obtain ⟨I, j, R, hP⟩ := C.deps ω hu
 refine Bx J ?_
 have F1 : Evo w w [bs] := Evo.refl _ _
 have bb := FO l9
 have a1 := I.size
 refine Av (pv := [(0, S _), (1, S _), (2, S _), (3, S _), (4, S _), (5, S _)]) (zs := [_]) (cs := [_, _, _, _, _, _]) underlying77 BW η rfl η rfl η ?_
 intro b25 w26 J25 E26 B25 Y25
 have ez := E26.size
 replace I := Z0 I E26
 replace F1 := Z0 F1 E26
 replace j := j.evo0 E26
 have ct : RowE w26 (some ⟨b25, 0, none⟩) b25 0 6 G7 := Bl G7 B25 rfl rfl
 refine Cd (And.intro ?_ ?_)
 exact I9.step (i := 5) ω hu aT R hP F1 I (by rw [Et υ υ]; exact j) (Bj (BJ (M := M9))) ⟨_, by omega, rfl, ct⟩
 exact ψ
 refine ⟨fun l9 g w hu hd ⟨C, J⟩ => ?_, ?_⟩
 obtain ⟨I, j, R, hP⟩ := C.deps ω hu
 refine Bx J ?_
 have F1 : Evo w w [bs] := Evo.refl _ _
 have bb := FO l9
 have a1 := I.size
 refine Zo Ey (Cd (And.intro ?_ ?_))
 exact I9.step (i := 6) ω hu aT R hP F1 I (by rw [Et υ υ]; exact j) (Bj (BJ (M := M9))) rfl
 exact ψ
 refine ⟨fun l9 g w hu hd ⟨C, J⟩ => ?_, ?_⟩
 obtain ⟨I, j, R, hP⟩ := C.deps ω hu
 refine Bx J ?_
 have F1 : Evo w w [bs] := Evo.refl _ _
 have bb := FO l9
 have a1 := I.size
 have ag := hP 6 (Cl hd 6 ζ)
 have hl := bl _ (Evo.trans hV I (fun x hx _ => hx))
 refine BO (i := 37) (v := .pointer (some ⟨bs, 0, none⟩)) ag (Zr [.pointer _, .int _ _] rfl η func38 (Bd j hl ω ω ω) ?_)
 rintro e eO ⟨er, rfl, hx27, F27, hn27⟩
 refine ⟨_, rfl, ?_⟩
 have eA := F27.size
 replace I := Z1 I F27 ε
 replace F1 := Z1 F1 F27 ε
 replace j := hn27
 clear hn27
 refine Cd (And.intro ?_ ?_)
 exact I9.step (i := 7) ω hu aT R hP F1 I (by rw [cW hu]; exact j) (Bj (Bm (BJ (M := M9)) ag)) ⟨_, rfl, hx27⟩
 exact ψ
 refine ⟨fun l9 g w hu hd ⟨C, J⟩ => ?_, ?_⟩
 obtain ⟨I, j, R, hP⟩ := C.deps ω hu
 refine Bx J ?_
 have F1 : Evo w w [bs] := Evo.refl _ _
 have bb := FO l9
 have a1 := I.size
 obtain ⟨bz, bt, ag, bp⟩ := hP 5 (Cl hd 5 ζ)
 obtain ⟨rz, bg, dX, dY⟩ := hP 7 (Cl hd 7 ζ)
 refine BO (i := 36) (v := .slice (some ⟨bz, 0, none⟩) 6 6) ag (BO (i := 38) (v := .int .i64 rz) bg (Zo (AV (rz.toNat) rfl underlying77 BW η η ω (by show _ < 6; omega) (bp.addr (i := rz.toNat) (by show _ < 6; omega))) ?_))
 have eh := bp.atD (rz.toNat) (by show _ < 6; omega)
 refine Cd (And.intro ?_ ?_)
 exact I9.step (i := 8) ω hu aT R hP F1 I (by rw [Et υ υ]; exact j) (Bj (Bm (Bm (BJ (M := M9)) ag) bg)) (by obtain ⟨sq, cg, cn⟩ := RI bp (show rz.toNat < _ by show _ < 6; omega) rfl; exact ⟨_, _, sq, by omega, rfl, cg, cn⟩)
 exact ψ
 refine ⟨fun l9 g w hu hd ⟨C, J⟩ => ?_, ?_⟩
 obtain ⟨I, j, R, hP⟩ := C.deps ω hu
 refine Bx J ?_
 have F1 : Evo w w [bs] := Evo.refl _ _
 have bb := FO l9
 have a1 := I.size
 obtain ⟨bz, jz, sz, bt, ag, cc, bq⟩ := hP 8 (Cl hd 8 ζ)
 refine BO (i := 39) (v := .pointer (some ⟨bz, jz, none⟩)) ag (Zo (AH rfl BF η (cc.cell 0 η)) (Cd (And.intro ?_ ?_)))
 exact I9.step (i := 9) ω hu aT R hP F1 I (by rw [Et υ υ]; exact j) (Bj (Bm (BJ (M := M9)) ag)) ⟨_, rfl, bq⟩
 exact ψ
 refine ⟨fun l9 g w hu hd ⟨C, J⟩ => ?_, ?_⟩
 obtain ⟨I, j, R, hP⟩ := C.deps ω hu
 refine Bx J ?_
 have F1 : Evo w w [bs] := Evo.refl _ _
 have bb := FO l9
 have a1 := I.size
 obtain ⟨sz, ag, bq⟩ := hP 4 (Cl hd 4 ζ)
 obtain ⟨tz, bg, cH⟩ := hP 9 (Cl hd 9 ζ)
 refine BO (i := 35) (v := S sz) ag (BO (i := 40) (v := S tz) bg (Zo (Aj (pv := [(0, S _), (1, S _)]) (zs := [_, _]) (cells := [_, _]) rfl Be η ar η η) (Cd (And.intro ?_ ?_))))
 exact I9.step (i := 10) ω hu aT R hP F1 I (by rw [Et υ υ]; exact j) (Bj (Bm (Bm (BJ (M := M9)) ag) bg)) ⟨_, _, rfl, bq, cH⟩
 exact ψ
 refine ⟨fun l9 g w hu hd ⟨C, J⟩ => ?_, ?_⟩
 obtain ⟨I, j, R, hP⟩ := C.deps ω hu
 refine Bx J ?_
 have F1 : Evo w w [bs] := Evo.refl _ _
 have bb := FO l9
 have a1 := I.size
 refine DI (zs := [_, _]) Be η rfl ?_
 intro b29 w30 J29 E30 B29 Y29
 have eB := E30.size
 replace I := Z0 I E30
 replace F1 := Z0 F1 E30
 replace j := j.evo0 E30
 refine Cd (And.intro ?_ ?_)
 exact I9.step (i := 11) ω hu aT R hP F1 I (by rw [Et υ υ]; exact j) (Bj (BJ (M := M9))) ⟨_, by omega, rfl, [], [], B29⟩
 exact ψ
 refine ⟨fun l9 g w hu hd ⟨C, J⟩ => ?_, ?_⟩
 obtain ⟨I, j, R, hP⟩ := C.deps ω hu
 refine Bx J ?_
 have F1 : Evo w w [bs] := Evo.refl _ _
 have bb := FO l9
 have a1 := I.size
 have a_ := j.at
 obtain ⟨bz, bt, ag, sy, ty, a8⟩ := hP 11 (Cl hd 11 ζ)
 obtain ⟨sz, tz, bg, bq, cH⟩ := hP 10 (Cl hd 10 ζ)
 refine BO (i := 9) (v := .pointer (some ⟨bz, 0, none⟩)) ag (BO (i := 41) (v := .agg #[S sz, S tz]) bg (BB (v := .agg _) (vs := [_, _]) (cs' := [_, _]) η η a8 Be η rfl η rfl η ?_))
 intro w31 E31 V31 hb_new
 have eC := E31.size
 replace I := Z1 I E31 ε
 replace j := j.evo E31 θ
 replace a_ := a_.evo E31 θ
 replace a8 := hb_new
 clear hb_new
 refine Cd (And.intro ?_ ?_)
 exact I9.last hu (TJ hd ζ) I (by rw [Et υ υ]; exact j) ⟨bz, sz, tz, by omega, rfl, a8, bq, cH⟩
 exact ψ
 exact trivial
 rintro g ed ⟨bx, sx, tx, hj33, a8, o, B9, j, b2, b3, hzl18, hV, hI⟩
 have c3 := hV.size
 have c0 := hI.size
 have dQ := a8.lt
 have dR := B9.lt
 have dS := j.lt
 replace hl := bl _ hV
 have bL := a8.at
 have U := B9.at
 have a_ := j.at
 refine Zk 9 hj33 (Zs (Zn A6 (AB (Zs (Zo (AJ rfl η Dv) (Zo (AH rfl HF η (U.cell 1 η)) (Zo (Bn rfl η underlying108 o) (Zn AN (AD ?_)))))))))
 have ei := o.bd
 obtain ⟨bM, dt, bQ, dm, dj, en⟩ := o.rowOf
 subst dm
 refine AZ (α := Nat) [10, 12, 45, 46, 47, 48, 49, 50, 51, 52, 53, 54, 55] (fun k g w => g 45 = .int .i64 (k : Nat) ∧ g 10 = .bool (decide ((⟨sx, tx⟩ : Ende) ∈ es.take k)) ∧ k ≤ es.length ∧ RowE w bM dt 0 bQ es ∧ OwnE w w10.heap.size 112 (.slice bM es.length bQ) es ∧ Blk w b9 110 [S (99 :: EC i []), .slice bM es.length bQ] ∧ Blk w bs T [.slice ao l.length cap, .int .i64 (N2 + 2 : Nat)] ∧ Blk w bx 112 (Enc.enc (⟨sx, tx⟩ : Ende)) ∧ ed.heap.size ≤ w.heap.size ∧ Evo w0 w [bs] ∧ Evo w3 w [bs]) (fun k => es.length - k) 0 ?_ ?_
 refine ⟨σ, (congrArg Value.bool (by simp)), δ, dj, δ, δ, δ, δ, δ, hV, hI⟩
 rintro k g eP ⟨dh, hj41, hk_k, bY, o, B9, j, a8, hzl38, hV, hI⟩
 have c9 := hV.size
 have c4 := hI.size
 have dT := B9.lt
 have dU := j.lt
 have dV := a8.lt
 have U := B9.at
 have a_ := j.at
 have bL := a8.at
 refine Zk 45 dh (Zk 10 hj41 (Zs (Zn Bu (AB (AE η (fun de => ?_) (fun de => ?_))))))
 refine AF (AB (AD (Zs (Zo (AV (k) rfl underlying108 Be η η χ ω (bY.addr (i := k) ω)) ?_))))
 have dc := bY.atD (k) ω
 refine Zo (AY rfl Dr Be η rfl dc) ?_
 have dW := fun g hg => (o.block (g := g) hg).2
 refine CO (zs := [_, _]) (vs := [_, _]) Be η rfl η (fun _ => rfl) η rfl rfl η ?_
 intro b48 w49 J48 E49 B48 Y48
 have eD := E49.size
 replace hV := Z0 hV E49
 replace hI := Z0 hI E49
 replace bY := bY.evo0 E49
 replace o := o.evo0 E49
 replace B9 := B9.evo0 E49
 replace j := j.evo0 E49
 replace a8 := a8.evo0 E49
 replace U := U.evo0 E49
 replace bL := bL.evo0 E49
 refine As (AA (Zo (Bt rfl η) (Zo Br ?_)))
 refine Ab rfl Ay rfl (fun hg => AY rfl Dr Be η rfl bL) ?_
 refine Ab rfl Ay rfl (fun hg => AY rfl Dr Be η rfl B48.at) ?_
 refine Ab rfl Ay rfl (fun hg => NZ (α := Ende) _ _ rfl Tryz.eqGuardType112 UE (Af hg) (Af hg)) ?_
 refine Zo Ee (Zn A6 (AO (AA (Zo A8 (Zn AN (Zg (k + 1) ?_))))))
 refine ⟨σ, (congrArg Value.bool (decide_eq_decide.2 ((or_congr_left decide_eq_true_iff).trans (VZ (x := (⟨sx, tx⟩ : Ende)) (l := es) (k := k) ω)))), δ, bY, o, B9, j, a8, δ, hV, hI⟩
 refine AW rfl (Zs (Zo (Bt rfl η) (Zn (CQ rfl η) (AE η (fun bW => ?_) (fun bW => ?_)))))
 refine AA (Zo (AJ rfl η Dv) (Zo (AH rfl HF η (U.cell 1 η)) (Zo (AY rfl Dr Be η rfl bL) (Ad (u := .agg _) (y := (⟨sx, tx⟩ : Ende)) rfl rfl underlying108 Be η o (fun _ => η) η ξ₂ (τ) (τ) ω ?_))))
 intro q_v51 v51 w52 E52 hov51 hlv51
 have eE := E52.size
 replace hV := AI hV E52 (fun g hg => .inl (by first | exact (o.block hg).1 | (have := o.block hg; omega)))
 replace hI := AI hI E52 (fun g hg => .inl (by first | exact (o.block hg).1 | (have := o.block hg; omega)))
 replace B9 := B9.evo E52 (by intro hm; have bn := Option.mem_toList.1 hm; have := o.block bn; omega)
 replace j := j.evo E52 (by intro hm; have bn := Option.mem_toList.1 hm; have := o.block bn; omega)
 replace U := U.evo E52 (by intro hm; have bn := Option.mem_toList.1 hm; have := o.block bn; omega)
 have o := hov51
 refine Zo (AJ rfl η Dv) ?_
 obtain ⟨ee, ef, dn⟩ := o.shape
 subst dn
 refine BB (v := .slice _ _ _) (vs := [_]) (cs' := [_, _]) η η B9 bT η rfl η rfl η ?_
 intro w54 E54 V54 hb_new
 have eF := E54.size
 replace hV := Z1 hV E54 ε
 replace hI := Z1 hI E54 ε
 replace j := j.evo E54 θ
 replace o := o.evo E54 (by intro g hg hm; simp at hm; subst hm; have := o.block hg; omega)
 replace B9 := hb_new
 have U := B9.at
 clear hb_new
 refine As (AO (AA (Zo AN (Zo JV (Zn Ah (Zg (kk - 1) ?_))))))
 refine ⟨_, _, _, σ, o, B9, j, (by first | exact hME | exact hME.snoc (by have h8 := bW; rw [List.take_of_length_le ω] at h8; exact fun h9 => h8 (decide_eq_true h9)) b2 b3), τ, δ, hV, hI⟩
 refine AF (AO (AA (Zo AN (Zo JV (Zn Ah (Zg (kk - 1) ?_))))))
 refine ⟨_, _, _, σ, o, B9, j, (by first | exact hME | exact hME.snoc (by have h8 := bW; rw [List.take_of_length_le ω] at h8; exact fun h9 => h8 (decide_eq_true h9)) b2 b3), τ, δ, hV, hI⟩
 refine AW rfl ?_
 have bm := b5.evoY (hI.mono (by simp)) θ
 clear b5
 obtain ⟨eH, eI, dZ⟩ := o.shape
 subst dZ
 refine AA (Zo (AP (v := vo) rfl η) (Zo (AY rfl Nb Cw η rfl U) (GN (u := .agg _) (us := [_, _]) rfl rfl underlying26 Cw η rfl rfl bm (fun _ => η) η η rfl η (Yc _ o θ (fun g hg => by have := di g hg; omega) (SC hME ω ω)) (τ) (τ) ω ?_)))
 intro q_v55 v55 w56 E56 hov55 hlv55
 have eG := E56.size
 replace hV := AI hV E56 (fun g hg => .inl (by first | exact (bm.block hg).1 | (have := bm.block hg; omega)))
 replace j := j.evo E56 (by intro hm; have bn := Option.mem_toList.1 hm; have := bm.block bn; omega)
 refine Zn (AM (v := v55) rfl η) (AO (AA (Zo AN (Zo JV (Zn Ah (Zg (i - 1) ?_))))))
 refine ⟨_, _, _, σ, rfl, hov55, j, (hMP.snoc ω rfl hME ω), δ, δ, hV⟩
 refine AW rfl (Zs (Zo (AP (v := vo) rfl η) (Zn (AM (v := vo) rfl η) (AK (BN (v := vo) rfl η) ?_))))
 exact ⟨_, cl, _, N1, rfl, ⟨(by rw [show i = 0 by omega] at hMP; exact hMP), by omega⟩, by omega, hV, j, bm.sub ω (by simp)⟩
set_option maxHeartbeats 4000000 in
theorem Rn {y1 y2 T bs : Nat} {ao : Option Addr} {b off cap : Nat} {l : List Int} {N : Nat} {ds : Option Addr} {bc ec b6 : Nat} {c : List Clas} {n : Int} {w0 : World} (J : Blk w0 bs T [.slice ao l.length cap, .int .i64 (N : Nat)]) (hl : ∀ w', Evo w0 w' [bs] → RowE w' ao b off cap l) (hN : N ≤ 800000) (hc : RowRK w0 [bs] ds bc ec b6 c) (b7 : ∀ x ∈ c, x.name.length ≤ 1000) (eS : c.length ≤ 1000000) (fp : 0 ≤ n) (fq : n ≤ 8) (fr : y1 < w0.heap.size) (ft : y2 < w0.heap.size) :
    Calls Tryz.prog 40 #[.pointer (some ⟨bs, 0, none⟩), .slice ds c.length b6, .int .i64 n] w0 fun e w' => ∃ v, ∃ ts : List TermL, ∃ N' : Nat, e = .returned v ∧ ((∀ x ∈ ts, Qc c x) ∧ (ts.length : Int) ≤ n) ∧ (N ≤ N' ∧ N' ≤ N + 300) ∧ Evo w0 w' [bs] ∧ Blk w' bs T [.slice ao l.length cap, .int .i64 (N' : Nat)] ∧ OwnR w' w0.heap.size 85 [bs, y1, y2] v ts := by
 have az := J.at; have er := J.lt
 refine AG (n := 88) func40 rfl ntmps40 rfl ?_
 have I : Evo w0 w0 [bs] := Evo.refl _ _
 have a8 := hl
 replace hl := a8 _ I
 have eh := hl.bd
 have bn := hc
 have eg := (bn.now I).bd
 refine Zs (Zn Bs (Zs (Zn Bs (AB (Zs (Zo Ey (Zo AN (Zo A8 (Zr [.pointer _, .int _ _] rfl η func38 (Bd J hl ω ω ω) ?_)))))))))
 rintro e w1 ⟨da, rfl, hx1, F1, hn1⟩
 refine ⟨_, rfl, ?_⟩
 have Q1 := F1.size
 replace I := Z1 I F1 (.inr (by simp))
 replace hl := a8 _ I
 replace hc := bn.now I
 replace J := hn1
 clear hn1
 have az := J.at
 refine Zn Ah (AD (AZ (α := Nat) [7, 8, 9, 10, 11, 12, 13, 18, 19, 20, 21, 22, 23, 24, 25, 26, 27, 28, 29, 30, 31, 32, 33, 34, 35, 36, 37, 38, 39, 40, 41, 42, 43, 44, 45, 46, 47, 48, 49, 50, 51, 52, 53, 54, 55, 56, 57, 58, 59, 60, 61, 62, 63, 64, 65, 66, 67, 68, 69, 70, 71, 72, 73, 74, 75, 76, 77, 78, 79, 80, 81, 82, 83, 84, 85, 86] (fun i g w => ∃ vo : Value, ∃ ts : List TermL, ∃ N1 : Nat, g 8 = .int .i64 (i : Nat) ∧ g 7 = vo ∧ OwnR w w0.heap.size 85 [bs, y1, y2] vo ts ∧ Blk w bs T [.slice ao l.length cap, .int .i64 (N1 : Nat)] ∧ (∀ x ∈ ts, Qc c x) ∧ (ts.length + i = da.toNat ∧ N + 1 ≤ N1 ∧ N1 + 28 * i ≤ N + 1 + 28 * da.toNat) ∧ w1.heap.size ≤ w.heap.size ∧ Evo w0 w [bs]) (fun i => i) da.toNat ?_ ?_))
 refine ⟨_, [], _, (congrArg (Value.int _) ω), rfl, (OwnR.nil _ _ _ _), J, (fun x hx => absurd hx List.not_mem_nil), (by first | (simp; done) | (simp; omega)), δ, I⟩
 rintro i g w3 ⟨vo, ts, N1, hj4, hj5, bp, J, hMT, hN1, hzl2, I⟩
 have dY := I.size
 have eT := J.lt
 have az := J.at
 refine Zk 8 hj4 (Zk 7 hj5 (AB (Zs (Zo AN (Zn IG (AE η (fun et => ?_) (fun et => ?_)))))))
 refine AF (AB (AD (AB ?_)))
 have U : Evo w3 w3 [bs] := Evo.refl _ _
 have b9 := bp
 have bF := fun g R => (bp.block (g := g) R).2
 refine AA (DI (zs := [_, _, _]) Ci η rfl ?_)
 intro b8 w9 J8 E9 B8 Y8
 have Q9 := E9.size
 replace I := Z0 I E9
 replace U := Z0 U E9
 replace hl := a8 _ I
 replace J := J.evo0 E9
 replace az := az.evo0 E9
 have o := B8.at
 refine As (AB (Zs (Zo Ey (Zr [.pointer _, .int _ _] rfl η func38 (Bd J hl ω ω ω) ?_))))
 rintro e eK ⟨bL, rfl, hx10, F10, hn10⟩
 refine ⟨_, rfl, ?_⟩
 have eX := F10.size
 replace I := Z1 I F10 (.inr (by simp))
 replace U := Z1 U F10 ε
 replace hl := a8 _ I
 replace hc := bn.now I
 replace B8 := B8.evo F10 θ
 replace o := o.evo F10 θ
 replace J := hn10
 clear hn10
 have az := J.at
 refine Zn Ah (AD (AZ (α := Nat) [10, 11, 24, 25, 26, 27, 28, 29, 30, 31, 32, 33, 34, 35, 36, 37, 38, 39, 40, 41, 42, 43, 44, 45, 46, 47, 48, 49, 50, 51, 52, 53, 54, 55, 56] (fun kk g w => ∃ vs : Value, ∃ ws : List Ende, ∃ N2 : Nat, g 10 = .int .i64 ((kk : Nat) - 1 : Int) ∧ OwnE w w9.heap.size 88 vs ws ∧ Blk w b8 85 [vs, .slice none 0 0, .slice none 0 0] ∧ Blk w bs T [.slice ao l.length cap, .int .i64 (N2 : Nat)] ∧ (∀ y ∈ ws, (y.strip ∈ stemW ∧ y.add.length ≤ 1000) ∧ Zw c y.add) ∧ (ws.length + kk = (bL.toNat + 1) ∧ N1 + 1 ≤ N2 ∧ N2 + 3 * kk ≤ N1 + 1 + 3 * (bL.toNat + 1)) ∧ eK.heap.size ≤ w.heap.size ∧ Evo w0 w [bs] ∧ Evo w3 w [bs]) (fun kk => kk) (bL.toNat + 1) ?_ ?_))
 refine ⟨_, [], _, (congrArg (Value.int _) ω), (OwnE.nil _ _ _), B8, J, (fun y hy => absurd hy List.not_mem_nil), (by first | (simp; done) | (simp; omega)), δ, I, U⟩
 rintro kk g fu ⟨vs, ws, N2, hj13, j, B8, J, hws, hwk, hzl11, I, U⟩
 have dh := I.size
 have df := U.size
 have eu := B8.lt
 have ev := J.lt
 replace hl := a8 _ I
 have o := B8.at
 have az := J.at
 refine Zk 10 hj13 (AB (Zs (Zo AN (Zn (BQ rfl η η) (AE η (fun dR => ?_) (fun dR => ?_))))))
 refine AF (AB (AD (AB ?_)))
 have bx := fun g R => (j.block (g := g) R).2
 refine AA (Av (pv := [(0, S _), (1, S _), (2, S _), (3, S _), (4, S _), (5, S _)]) (zs := [_]) (cs := [_, _, _, _, _, _]) underlying77 BW η rfl η rfl η ?_)
 intro b17 w18 J17 E18 B17 Y17
 have eY := E18.size
 replace I := Z0 I E18
 replace U := Z0 U E18
 replace hl := a8 _ I
 replace j := j.evo0 E18
 replace B8 := B8.evo0 E18
 replace J := J.evo0 E18
 replace o := o.evo0 E18
 replace az := az.evo0 E18
 have a_ : RowE w18 (some ⟨b17, 0, none⟩) b17 0 6 stemW := Bl stemW B17 rfl rfl
 refine Zo Ey (Zr [.pointer _, .int _ _] rfl η func38 (Bd J hl ω ω ω) ?_)
 rintro e fv ⟨bq, rfl, hx19, F19, hn19⟩
 refine ⟨_, rfl, ?_⟩
 have eZ := F19.size
 replace I := Z1 I F19 (.inr (by simp))
 replace U := Z1 U F19 ε
 replace j := j.evo F19 (by intro g R hm; simp at hm; subst hm; have h7 := bx g R; have h6 := j.block R; omega)
 replace B8 := B8.evo F19 θ
 replace o := o.evo F19 θ
 replace a_ := a_.evo F19 θ
 replace J := hn19
 clear hn19
 have az := J.at
 refine Zo (AV (bq.toNat) rfl underlying77 BW η η ω (by show _ < 6; omega) (a_.addr (i := bq.toNat) (by show _ < 6; omega))) ?_
 have dv := a_.atD (bq.toNat) (by show _ < 6; omega)
 refine Zo (AH rfl BF η (dv.cell 0 η)) (Zo (Aj (pv := [(0, S _)]) (zs := [_, _]) (cells := [_, _]) rfl FG η cv η η) ?_)
 have eE := fun g R => (j.block (g := g) R).2
 refine CO (zs := [_, _]) (vs := [_, _]) FG η rfl η (fun _ => rfl) η rfl rfl η ?_
 intro b22 w23 J22 E23 B22 Y22
 have e0 := E23.size
 replace I := Z0 I E23
 replace U := Z0 U E23
 replace j := j.evo0 E23
 replace B8 := B8.evo0 E23
 replace o := o.evo0 E23
 replace a_ := a_.evo0 E23
 replace J := J.evo0 E23
 replace az := az.evo0 E23
 refine As (AB (Zs (Zo Ar (Zo (AL rfl η underlying26) (Zo IG (Zo Br ?_))))))
 refine Ab rfl Aq rfl (fun R => Ey) ?_
 refine QH rfl Aq rfl (fun R => Am rfl (An (v := .pointer _) (Af R) (An (v := .int _ _) η (rfl))) func38 rfl ζ) (fun R => (Bd J (a8 _ I) ω ω ω)) J ?_
 intro nx25 w24 Ng25 hx25 F25 hna25 hnb25 hbn
 have e1 := F25.size
 replace I := Z1 I F25 (.inr (by simp))
 replace U := Z1 U F25 ε
 replace hl := a8 _ I
 replace hc := bn.now I
 replace j := j.evo F25 (by intro g R hm; simp at hm; subst hm; have h7 := bx g R; have h6 := j.block R; omega)
 replace B8 := B8.evo F25 θ
 replace o := o.evo F25 θ
 replace B22 := B22.evo F25 θ
 replace J := hbn
 clear hbn
 have az := J.at
 refine Ab rfl Aq rfl (fun R => A1 rfl (Af R) η) ?_
 refine Zn Fm (C1 [42, 43, 44, 45, 46, 47, 48, 49, 50] (fun g w => ∃ cn : AQ, ∃ N3 : Nat, Blk w b22 88 [S (stemW.getD bq.toNat default), S cn] ∧ OwnE w w9.heap.size 88 vs ws ∧ Blk w b8 85 [vs, .slice none 0 0, .slice none 0 0] ∧ Blk w bs T [.slice ao l.length cap, .int .i64 (N3 : Nat)] ∧ (cn.length ≤ 1000 ∧ Zw c cn) ∧ (N2 + 1 ≤ N3 ∧ N3 ≤ N2 + 3) ∧ w24.heap.size ≤ w.heap.size ∧ Evo w0 w [bs] ∧ Evo w3 w [bs]) ?_ ?_)
 refine AE η (fun dS => ?_) (fun dS => ?_)
 refine AA (Zo Ar (Zo Ey (Zo Ar (Zo (AL rfl η underlying26) (Zr [.pointer _, .int _ _] rfl η func38 (Bd J hl ω ω ω) ?_)))))
 rintro e fw ⟨bM, rfl, hx28, F28, hn28⟩
 refine ⟨_, rfl, ?_⟩
 have e2 := F28.size
 replace I := Z1 I F28 (.inr (by simp))
 replace U := Z1 U F28 ε
 replace j := j.evo F28 (by intro g R hm; simp at hm; subst hm; have h7 := bx g R; have h6 := j.block R; omega)
 replace B8 := B8.evo F28 θ
 replace o := o.evo F28 θ
 replace B22 := B22.evo F28 θ
 replace J := hn28
 clear hn28
 have az := J.at
 refine Zo (AV (bM.toNat) rfl underlying26 Cw η η ω ω ((bn.now I).addr (i := bM.toNat) ω)) ?_
 obtain ⟨eL, fk, eJ, ek, hX⟩ := Gi bn (bM.toNat) ω
 have cI := fun (w' : World) (h : Evo w0 w' [bs]) => (hX w' h).1
 have cR := fun (w' : World) (h : Evo w0 w' [bs]) => (hX w' h).2
 clear hX
 have dd := (cR _ I).bd
 refine Zo (AJ rfl η Ih) (Zo (AH rfl BF η ((cI _ I).cell 0 η)) (Zo (AJ rfl η Gp) (BB (v := S _) (vs := [_]) (cs' := [_, _]) η η B22 BW η rfl η rfl η ?_)))
 intro w30 E30 V30 hb_new
 have e3 := E30.size
 replace I := Z1 I E30 ε
 replace U := Z1 U E30 ε
 replace j := j.evo E30 (by intro g R hm; simp at hm; subst hm; have h7 := bx g R; have h6 := j.block R; omega)
 replace B8 := B8.evo E30 θ
 replace o := o.evo E30 θ
 replace J := J.evo E30 θ
 replace B22 := hb_new
 clear hb_new
 refine As (Ae ?_ ?_)
 refine ⟨_, _, B22, j, B8, J, (by first | exact ⟨X1 b7 ω, .inr ⟨_, A5 ω, rfl⟩⟩ | exact ⟨Nat.zero_le _, .inl rfl⟩), ω, δ, I, U⟩
 exact ψ
 refine AF (Ae ?_ ?_)
 refine ⟨_, _, B22, j, B8, J, (by first | exact ⟨X1 b7 ω, .inr ⟨_, A5 ω, rfl⟩⟩ | exact ⟨Nat.zero_le _, .inl rfl⟩), ω, δ, I, U⟩
 exact ψ
 rintro g fx ⟨cn, N3, B22, j, B8, J, hcn, hN3, hzl26, I, U⟩
 have dj := I.size
 have di := U.size
 have ew := B22.lt
 have ey := B8.lt
 have ez := J.lt
 have o := B8.at
 have az := J.at
 refine AA (Zo (AJ rfl η EA) (Zo (AH rfl IB η (o.cell 0 η)) (Zo (AY rfl Ob FG η rfl B22.at) (Ad (u := .agg _) (y := (⟨(stemW.getD bq.toNat default), cn⟩ : Ende)) rfl rfl underlying83 FG η j (fun _ => η) η ξ₂ (τ) (τ) ω ?_))))
 intro q_v35 v35 w36 E36 hov35 hlv35
 have e4 := E36.size
 replace I := AI I E36 (fun g R => .inl (by first | exact (j.block R).1 | (have := j.block R; omega)))
 replace U := AI U E36 (fun g R => .inl (by first | exact (j.block R).1 | (have := j.block R; omega)))
 replace B8 := B8.evo E36 (by intro hm; have ag := Option.mem_toList.1 hm; first | (have := j.block ag; omega) | (simp [Value.ownBlock] at ag; omega))
 replace J := J.evo E36 (by intro hm; have ag := Option.mem_toList.1 hm; first | (have := j.block ag; omega) | (simp [Value.ownBlock] at ag; omega))
 replace o := o.evo E36 (by intro hm; have ag := Option.mem_toList.1 hm; first | (have := j.block ag; omega) | (simp [Value.ownBlock] at ag; omega))
 have j := hov35
 refine Zo (AJ rfl η EA) ?_
 obtain ⟨eM, eP, dZ⟩ := j.shape
 subst dZ
 refine BB (v := .slice _ _ _) (vs := [_]) (cs' := [_, _, _]) η η B8 cM η rfl η rfl η ?_
 intro w38 E38 V38 hb_new
 have e5 := E38.size
 replace I := Z1 I E38 ε
 replace U := Z1 U E38 ε
 replace J := J.evo E38 θ
 replace j := j.evo E38 (by intro g R hm; simp at hm; subst hm; have := j.block R; omega)
 replace B8 := hb_new
 have o := B8.at
 clear hb_new
 refine As (AO (AA (Zo AN (Zo JV (Zn Ah (Zg (kk - 1) ?_))))))
 refine ⟨_, _, _, (congrArg (Value.int _) ω), j, B8, J, (IY hws ⟨⟨XG ω, hcn.1⟩, hcn.2⟩), (by rw [List.length_append, List.length_singleton]; omega), δ, I, U⟩
 refine AW rfl (AB (Zs (Zo Ey (Zr [.pointer _, .int _ _] rfl η func38 (Bd J hl ω ω ω) ?_))))
 rintro e bw ⟨bQ, rfl, hx39, F39, hn39⟩
 refine ⟨_, rfl, ?_⟩
 have e6 := F39.size
 replace I := Z1 I F39 (.inr (by simp))
 replace U := Z1 U F39 ε
 replace hl := a8 _ I
 replace hc := bn.now I
 replace j := j.evo F39 (by intro g R hm; simp at hm; subst hm; have := j.block R; omega)
 replace B8 := B8.evo F39 θ
 replace o := o.evo F39 θ
 replace J := hn39
 clear hn39
 have az := J.at
 refine Zn Ah (AD ?_)
 obtain ⟨dr, gW, du, eI, c3, c0⟩ := j.rowOf
 subst eI
 have dQ := c3.bd
 have C : Evo bw bw [bs, b8] := Evo.refl _ _
 have b_ := fun w9 (h9 : Evo bw w9 [bs, b8]) => Cg c3 h9 (fun ba hm => by have h2 := (c0 ba).2; simp at hm; omega)
 refine AZ (α := Nat) [12, 59, 60, 61, 62, 63, 64, 65, 66, 67, 68, 69] (fun kq g w => ∃ vq : Value, ∃ qs : List AQ, ∃ N4 : Nat, g 12 = .int .i64 (kq : Nat) ∧ OwnE w bw.heap.size 9 vq qs ∧ Blk w b8 85 [.slice dr ws.length du, vq, .slice none 0 0] ∧ Blk w bs T [.slice ao l.length cap, .int .i64 (N4 : Nat)] ∧ (∀ s ∈ qs, MadePh s) ∧ (qs.length + kq = bQ.toNat ∧ N2 + 1 ≤ N4 ∧ N4 + 4 * kq ≤ N2 + 1 + 4 * bQ.toNat) ∧ bw.heap.size ≤ w.heap.size ∧ Evo w0 w [bs] ∧ Evo w3 w [bs] ∧ Evo bw w [bs, b8]) (fun kq => kq) bQ.toNat ?_ ?_
 refine ⟨_, [], _, (congrArg (Value.int _) ω), (OwnE.nil _ _ _), B8, J, (fun y hy => absurd hy List.not_mem_nil), (by first | (simp; done) | (simp; omega)), δ, I, U, C⟩
 rintro kq g fy ⟨vq, qs, N4, hj43, j, B8, J, hqs, hqsk, hzl41, I, U, C⟩
 have dm := I.size
 have dk := U.size
 have ca := C.size
 have eA := B8.lt
 have eB := J.lt
 replace hl := a8 _ I
 have o := B8.at
 have az := J.at
 refine Zk 12 hj43 (AB (Zs (Zo AN (Zn IG (AE η (fun dT => ?_) (fun dT => ?_))))))
 refine AF (AB (AD ?_))
 have bf := fun {g : Nat} (R : vq.ownBlock = some g) => j.block (g := g) R
 have b2 := B8
 have dz := J
 have bg := o
 have cK := az
 have dy := I
 have dw := U
 have b1 := C
 refine CJ ([bs] ++ vq.ownBlock.toList) ζ ?_
 intro w47 F48 a1
 have e7 := F48.size
 replace I := Z0 I F48
 replace U := Z0 U F48
 replace C := Z0 C F48
 replace j := j.evo0 F48
 replace B8 := B8.evo0 F48
 replace J := J.evo0 F48
 replace o := o.evo0 F48
 replace az := az.evo0 F48
 refine Zt (i := 0) η (fun w' hC => AJ rfl η Ea) a1 (Zt (i := 1) η (fun w' hC => AH rfl EU η ((bg.evo hC (fun hm => by rcases List.mem_append.1 hm with h7 | h7; (simp at h7; omega); (have h8 := bf (Option.mem_toList.1 h7); omega))).cell 1 η)) a1 (Zt (i := 2) η (fun w' hC => Ey) a1 ?_))
 refine Zh (i := 3) ?_
 refine Zr [.pointer _] rfl η func73 (MH J (fun w9 h9 => a8 _ (Evo.trans I h9 (fun x hx _ => hx))) ω) ?_
 rintro e fz ⟨eV, Np49, rfl, hmp49, hNp49, F49, hn49⟩
 refine ⟨_, rfl, ?_⟩
 have e8 := F49.size
 replace I := Z1 I F49 (.inr (by simp))
 replace U := Z1 U F49 ε
 replace C := Z1 C F49 ε
 replace a1 := Z1 a1 F49 ε
 replace j := j.evo F49 (by intro g R hm; simp at hm; subst hm; have := j.block R; omega)
 replace B8 := B8.evo F49 θ
 replace o := o.evo F49 θ
 replace J := hn49
 clear hn49
 have az := J.at
 refine Ap a1 ?_
 refine Zh (i := 4) ?_
 refine Av (pv := [(0, S _)]) (zs := [_]) (cs := [_]) underlying77 BW η rfl η rfl η ?_
 intro b50 w51 J50 E51 B50 Y50
 have e9 := E51.size
 replace I := Z0 I E51
 replace U := Z0 U E51
 replace C := Z0 C E51
 replace a1 := Z0 a1 E51
 replace j := j.evo0 E51
 replace B8 := B8.evo0 E51
 replace o := o.evo0 E51
 replace J := J.evo0 E51
 have c4 := Bl (α := AQ) [_] B50 (by show [_] = [_]; first | (dsimp only; done) | exact rfl | (dsimp only; exact rfl)) rfl
 refine Ap a1 ?_
 refine Zh (i := 5) ?_
 refine BS rfl underlying77 BW η j η η c4 rfl θ θ ω ?_
 intro v52 w53 E53 hov52 hlv52
 have e_ := E53.size
 replace I := AI I E53 (fun g R => .inl (by first | exact (j.block R).1 | (have := j.block R; omega)))
 replace U := AI U E53 (fun g R => .inl (by first | exact (j.block R).1 | (have := j.block R; omega)))
 replace C := AI C E53 (fun g R => .inl (by first | exact (j.block R).1 | (have := j.block R; omega)))
 replace B8 := B8.evo E53 (by intro hm; have ag := Option.mem_toList.1 hm; first | (have := j.block ag; omega) | (simp [Value.ownBlock] at ag; omega))
 replace o := o.evo E53 (by intro hm; have ag := Option.mem_toList.1 hm; first | (have := j.block ag; omega) | (simp [Value.ownBlock] at ag; omega))
 replace J := J.evo E53 (by intro hm; have ag := Option.mem_toList.1 hm; first | (have := j.block ag; omega) | (simp [Value.ownBlock] at ag; omega))
 have j := hov52
 refine CV ζ ?_
 refine Zh (i := 6) ?_
 refine Zo (AJ rfl η Ea) ?_
 refine CV ζ ?_
 refine Zh (i := 7) ?_
 obtain ⟨eN, eQ, d_⟩ := j.shape
 subst d_
 refine BB (v := .slice _ _ _) (vs := [_]) (cs' := [_, _, _]) η η B8 ML η rfl η rfl η ?_
 intro w55 E55 V55 hb_new
 have fa := E55.size
 replace I := Z1 I E55 ε
 replace U := Z1 U E55 ε
 replace C := Z1 C E55 ε
 replace J := J.evo E55 θ
 replace j := j.evo E55 (by intro g R hm; simp at hm; subst hm; have := j.block R; omega)
 replace B8 := hb_new
 have o := B8.at
 clear hb_new
 refine CV ζ ?_
 refine CH ζ ?_
 refine AO (AA (Zo AN (Zo JV (Zn Ah (Zg (kq - 1) ?_)))))
 refine ⟨_, _, _, (congrArg (Value.int _) ω), j, B8, J, (IY hqs hmp49), (by rw [List.length_append, List.length_singleton]; omega), δ, I, U, C⟩
 refine AW rfl (AB (Zs (Zo Ey (Zr [.pointer _, .int _ _] rfl η func38 (Bd J hl ω ω ω) ?_))))
 rintro e bz ⟨bW, rfl, hx56, F56, hn56⟩
 refine ⟨_, rfl, ?_⟩
 have fb := F56.size
 replace I := Z1 I F56 (.inr (by simp))
 replace U := Z1 U F56 ε
 replace C := Z1 C F56 ε
 replace hl := a8 _ I
 replace hc := bn.now I
 replace c3 := b_ _ C
 replace j := j.evo F56 (by intro g R hm; simp at hm; subst hm; have := j.block R; omega)
 replace B8 := B8.evo F56 θ
 replace o := o.evo F56 θ
 replace J := hn56
 clear hn56
 have az := J.at
 refine Zn Ah (AD ?_)
 obtain ⟨ej, gQ, en, eH, dW, cV⟩ := j.rowOf
 subst eH
 have dO := dW.bd
 have aT : Evo bz bz [bs, b8] := Evo.refl _ _
 have dX := fun w9 (h9 : Evo bz w9 [bs, b8]) => Cg dW h9 (fun ba hm => by have h2 := (cV ba).2; simp at hm; omega)
 refine AZ (α := Nat) [13, 72, 73, 74, 75, 76, 77, 78, 79, 80, 81, 82] (fun kq g w => ∃ vq : Value, ∃ fs : List AQ, ∃ N5 : Nat, g 13 = .int .i64 (kq : Nat) ∧ OwnE w bz.heap.size 9 vq fs ∧ Blk w b8 85 [.slice dr ws.length du, .slice ej qs.length en, vq] ∧ Blk w bs T [.slice ao l.length cap, .int .i64 (N5 : Nat)] ∧ (∀ s ∈ fs, MadePh s) ∧ (fs.length + kq = bW.toNat ∧ N4 + 1 ≤ N5 ∧ N5 + 4 * kq ≤ N4 + 1 + 4 * bW.toNat) ∧ bz.heap.size ≤ w.heap.size ∧ Evo w0 w [bs] ∧ Evo w3 w [bs] ∧ Evo bw w [bs, b8] ∧ Evo bz w [bs, b8]) (fun kq => kq) bW.toNat ?_ ?_
 refine ⟨_, [], _, (congrArg (Value.int _) ω), (OwnE.nil _ _ _), B8, J, (fun y hy => absurd hy List.not_mem_nil), (by first | (simp; done) | (simp; omega)), δ, I, U, C, aT⟩
 rintro kq g fA ⟨vq, fs, N5, hj60, j, B8, J, hfs, hfsk, hzl58, I, U, C, aT⟩
 have dp := I.size
 have dn := U.size
 have cb := C.size
 have cc := aT.size
 have eC := B8.lt
 have eD := J.lt
 have o := B8.at
 have az := J.at
 refine Zk 13 hj60 (AB (Zs (Zo AN (Zn IG (AE η (fun dU => ?_) (fun dU => ?_))))))
 refine AF (AB (AD ?_))
 have bf := fun {g : Nat} (R : vq.ownBlock = some g) => j.block (g := g) R
 have b2 := B8
 have dz := J
 have bg := o
 have cK := az
 have dy := I
 have dw := U
 have b1 := C
 have ef := aT
 refine CJ ([bs] ++ vq.ownBlock.toList) ζ ?_
 intro w64 F65 a6
 have fc := F65.size
 replace I := Z0 I F65
 replace U := Z0 U F65
 replace C := Z0 C F65
 replace aT := Z0 aT F65
 replace j := j.evo0 F65
 replace B8 := B8.evo0 F65
 replace J := J.evo0 F65
 replace o := o.evo0 F65
 replace az := az.evo0 F65
 refine Zt (i := 0) η (fun w' hC => AJ rfl η Gx) a6 (Zt (i := 1) η (fun w' hC => AH rfl EU η ((bg.evo hC (fun hm => by rcases List.mem_append.1 hm with h7 | h7; (simp at h7; omega); (have h8 := bf (Option.mem_toList.1 h7); omega))).cell 2 η)) a6 (Zt (i := 2) η (fun w' hC => Ey) a6 ?_))
 refine Zh (i := 3) ?_
 refine Zr [.pointer _] rfl η func73 (MH J (fun w9 h9 => a8 _ (Evo.trans I h9 (fun x hx _ => hx))) ω) ?_
 rintro e fB ⟨eW, Np66, rfl, hmp66, hNp66, F66, hn66⟩
 refine ⟨_, rfl, ?_⟩
 have fe := F66.size
 replace I := Z1 I F66 (.inr (by simp))
 replace U := Z1 U F66 ε
 replace C := Z1 C F66 ε
 replace aT := Z1 aT F66 ε
 replace a6 := Z1 a6 F66 ε
 replace j := j.evo F66 (by intro g R hm; simp at hm; subst hm; have := j.block R; omega)
 replace B8 := B8.evo F66 θ
 replace o := o.evo F66 θ
 replace J := hn66
 clear hn66
 have az := J.at
 refine Ap a6 ?_
 refine Zh (i := 4) ?_
 refine Av (pv := [(0, S _)]) (zs := [_]) (cs := [_]) underlying77 BW η rfl η rfl η ?_
 intro b67 w68 J67 E68 B67 Y67
 have ff := E68.size
 replace I := Z0 I E68
 replace U := Z0 U E68
 replace C := Z0 C E68
 replace aT := Z0 aT E68
 replace a6 := Z0 a6 E68
 replace j := j.evo0 E68
 replace B8 := B8.evo0 E68
 replace o := o.evo0 E68
 replace J := J.evo0 E68
 have c9 := Bl (α := AQ) [_] B67 (by show [_] = [_]; first | (dsimp only; done) | exact rfl | (dsimp only; exact rfl)) rfl
 refine Ap a6 ?_
 refine Zh (i := 5) ?_
 refine BS rfl underlying77 BW η j η η c9 rfl θ θ ω ?_
 intro v69 w70 E70 hov69 hlv69
 have fg := E70.size
 replace I := AI I E70 (fun g R => .inl (by first | exact (j.block R).1 | (have := j.block R; omega)))
 replace U := AI U E70 (fun g R => .inl (by first | exact (j.block R).1 | (have := j.block R; omega)))
 replace C := AI C E70 (fun g R => .inl (by first | exact (j.block R).1 | (have := j.block R; omega)))
 replace aT := AI aT E70 (fun g R => .inl (by first | exact (j.block R).1 | (have := j.block R; omega)))
 replace B8 := B8.evo E70 (by intro hm; have ag := Option.mem_toList.1 hm; first | (have := j.block ag; omega) | (simp [Value.ownBlock] at ag; omega))
 replace o := o.evo E70 (by intro hm; have ag := Option.mem_toList.1 hm; first | (have := j.block ag; omega) | (simp [Value.ownBlock] at ag; omega))
 replace J := J.evo E70 (by intro hm; have ag := Option.mem_toList.1 hm; first | (have := j.block ag; omega) | (simp [Value.ownBlock] at ag; omega))
 have j := hov69
 refine CV ζ ?_
 refine Zh (i := 6) ?_
 refine Zo (AJ rfl η Gx) ?_
 refine CV ζ ?_
 refine Zh (i := 7) ?_
 obtain ⟨eO, eR, ea⟩ := j.shape
 subst ea
 refine BB (v := .slice _ _ _) (vs := [_]) (cs' := [_, _, _]) η η B8 ML η rfl η rfl η ?_
 intro w72 E72 V72 hb_new
 have fh := E72.size
 replace I := Z1 I E72 ε
 replace U := Z1 U E72 ε
 replace C := Z1 C E72 ε
 replace aT := Z1 aT E72 ε
 replace J := J.evo E72 θ
 replace j := j.evo E72 (by intro g R hm; simp at hm; subst hm; have := j.block R; omega)
 replace B8 := hb_new
 have o := B8.at
 clear hb_new
 refine CV ζ ?_
 refine CH ζ ?_
 refine AO (AA (Zo AN (Zo JV (Zn Ah (Zg (kq - 1) ?_)))))
 refine ⟨_, _, _, (congrArg (Value.int _) ω), j, B8, J, (IY hfs hmp66), (by rw [List.length_append, List.length_singleton]; omega), δ, I, U, C, aT⟩
 refine AW rfl ?_
 obtain ⟨fj, gF, fm, eG, eF, dV⟩ := j.rowOf
 subst eG
 have bp := b9.evoY (U.mono (by simp)) θ
 clear b9
 have dx : MadeTm ⟨ws, qs, fs⟩ := ⟨⟨(show 1 ≤ ws.length by omega), (show ws.length ≤ 3 by omega), fun y hy => (hws y hy).1⟩, ⟨(show qs.length ≤ 2 by omega), hqs⟩, ⟨(show fs.length ≤ 2 by omega), hfs⟩⟩
 refine AA (Zo (AP (v := vo) rfl η) (Zo (AY rfl Kl Ci η rfl o) (GN (u := .agg _) (us := [_, _, _]) rfl rfl underlying25 Ci η rfl rfl bp (fun _ => η) η η rfl η (Xh ⟨ws, qs, fs⟩ (b_ _ C) (fun ba hm => by rcases List.mem_append.1 hm with h7 | h7; (simp at h7; have h8 := c0 ba; omega); (have h8 := bF _ (Option.mem_toList.1 h7); have h9 := c0 ba; omega)) (dX _ aT) (fun ba hm => by rcases List.mem_append.1 hm with h7 | h7; (simp at h7; have h8 := cV ba; omega); (have h8 := bF _ (Option.mem_toList.1 h7); have h9 := cV ba; omega)) eF (fun ba hm => by rcases List.mem_append.1 hm with h7 | h7; (simp at h7; have h8 := dV ba; omega); (have h8 := bF _ (Option.mem_toList.1 h7); have h9 := dV ba; omega)) dx.bd) (τ) (τ) ω ?_)))
 intro q_v73 v73 w74 E74 hov73 hlv73
 have fi := E74.size
 replace I := AI I E74 (fun g R => .inl (by first | exact (bp.block R).1 | (have := bp.block R; omega)))
 replace J := J.evo E74 (by intro hm; have ag := Option.mem_toList.1 hm; first | (have := bp.block ag; omega) | (simp [Value.ownBlock] at ag; omega))
 refine Zn (AM (v := v73) rfl η) (AO (AA (Zo AN (Zo JV (Zn Ah (Zg (i - 1) ?_))))))
 refine ⟨_, _, _, (congrArg (Value.int _) ω), rfl, hov73, J, (IY hMT ⟨dx, fun y hy => (hws y hy).2⟩), (by rw [List.length_append, List.length_singleton]; omega), δ, I⟩
 refine AW rfl (Zs (Zo (AP (v := vo) rfl η) (Zn (AM (v := vo) rfl η) (AK (BN (v := vo) rfl η) ?_))))
 exact ⟨_, ts, N1, rfl, ⟨hMT, by omega⟩, by omega, I, J, bp⟩
theorem TC {ao : Option Addr} {b off cap : Nat} {j : List (List Int)} {o : World} (hs : RowR o ao b off cap j) (hb : j.flatten.length ≤ 9000000000000000000) :
    Calls Tryz.prog 17 #[.slice ao j.length cap] o fun e w' => e = .returned (.bool (decide (j.flatten.length > 160))) ∧ Evo o w' [] := by
 refine AG (n := 19) func17 rfl ntmps17 rfl ?_
 have C : Evo o o [] := Evo.refl _ _
 have U := hs.keep
 have az := hs.bd
 refine Zs (Zn A6 (Zs (Zn Ah (AB (Zs (Zo Ar (Zo (AL rfl η underlying65) (Zn AN (AD ?_)))))))))
 refine AZ (α := Nat) [3, 5, 8, 9, 10, 11, 12, 13, 14, 15, 16] (fun k g w => g 8 = .int .i64 (k : Nat) ∧ g 3 = .int .i64 (((j.take k).flatten).length : Nat) ∧ k ≤ j.length ∧ o.heap.size ≤ w.heap.size ∧ Evo o w []) (fun k => j.length - k) 0 ?_ ?_
 refine ⟨σ, rfl, δ, δ, C⟩
 rintro k g w2 ⟨a6, hj4, hk_k, hzl1, C⟩
 have ag := C.size
 refine Zk 8 a6 (Zk 3 hj4 (Zs (Zn Bu (AB (AE η (fun a1 => ?_) (fun a1 => ?_))))))
 refine AF (AB (AD (Zs (Zo (AV (k) rfl underlying65 al η η χ ω ((U.now C).addr (i := k) ω)) ?_))))
 obtain ⟨bb, b6, ba, a8, hX⟩ := Xa U (k) ω
 have I := fun (w' : World) (h : Evo o w' []) => (hX w' h).1
 have J := fun (w' : World) (h : Evo o w' []) => (hX w' h).2
 clear hX
 have R := (J _ C).bd
 refine Zo (AH rfl S9 η ((I _ C).cell 0 η)) (Zn Bs ?_)
 have bc := Vy j (k + 1); have bf : ((j.take (k + 1)).flatten).length = ((j.take k).flatten).length + (j.getD k default).length := by rw [T9 j k ω, List.length_append]
 refine AA (Zo AN (Zo Ar (Zo (AL rfl η underlying22) (Zo A8 (Zn Ah (AO (AA (Zo A8 (Zn AN ?_)))))))))
 refine Zg (k + 1) ?_
 refine ⟨σ, (congrArg (Value.int _) ω), δ, δ, C⟩
 refine AW rfl (Zs (Zo AN (Zo IG (Zn A6 (AK Dk ?_)))))
 exact ⟨Ao (by rw [List.take_of_length_le ω]; rw [Bool.eq_iff_iff, decide_eq_true_iff, decide_eq_true_iff]; omega), C⟩
theorem L3 {C : Option Addr} {cap : Nat} {l : List Int} {j : World}  :
    Calls Tryz.prog 19 #[.slice C l.length cap] j fun e w' => ∃ o, e = .returned (.pointer (some ⟨o, 0, none⟩)) ∧ j.heap.size ≤ o ∧ Evo j w' [] ∧ Blk w' o 70 [.slice C l.length cap, .int .i64 ((0 : Nat) : Int)] ∧ At w' o 0 [.slice C l.length cap, .int .i64 ((0 : Nat) : Int)] := by
 refine AG (n := 6) func19 rfl ntmps19 rfl ?_
 have I : Evo j j [] := Evo.refl _ _
 refine Zs (Zn dJ (Zs (Zo Ar (Zo (Aj (pv := [(0, .slice _ _ _)]) (zs := [_, _]) (cells := [_, _]) rfl ck η cS η η) (Ch (vs := [_, _]) η η rfl ?_)))))
 intro b1 w2 J1 E2 B1 Y1
 have J := E2.size
 replace I := Z0 I E2
 refine Zn dJ (AK (BN (v := .pointer _) rfl η) ?_)
 exact ⟨_, rfl, by omega, I, B1, B1.at⟩
theorem No {ao : Option Addr} {b off cap : Nat} {f : List Vc.Item} {o : World} (hf : RowE o ao b off cap f) (hT : ∀ k, (f.getD k default).text.length ≤ 140737488355328) :
    Calls Tryz.prog 20 #[.slice ao f.length cap] o fun e w' => ∃ x, e = .returned (.bool x) ∧ (x = true → f.length ≤ 40 ∧ BK f ≤ 1000) ∧ Evo o w' [] := by
 refine AG (n := 25) func20 rfl ntmps20 rfl ?_
 have j : Evo o o [] := Evo.refl _ _
 have I := Ak hf
 have R := hf.bd
 refine Zs (Zn A6 (Zs (Zn Ah (AB (Zs (Zo Ar (Zo (AL rfl η underlying33) (Zn AN (AD ?_)))))))))
 refine AZ (α := Nat) [3, 5, 8, 9, 10, 11, 12, 13, 14, 15, 16, 17] (fun k g w => ∃ z : Int, g 8 = .int .i64 (k : Nat) ∧ g 3 = .int .i64 z ∧ k ≤ f.length ∧ (k ≤ 40 → z = (BK (f.take k) : Nat) ∧ z ≤ 140737488355328 * (k : Int)) ∧ o.heap.size ≤ w.heap.size ∧ Evo o w []) (fun k => f.length - k) 0 ?_ ?_
 refine ⟨0, σ, σ, δ, (fun _ => ⟨rfl, by omega⟩), δ, j⟩
 rintro k g w2 ⟨z, hj3, hj4, hk_k, hz, hzl1, j⟩
 have J := j.size
 refine Zk 8 hj3 (Zk 3 hj4 (Zs (Zn Bu (AB (AE η (fun ag => ?_) (fun ag => ?_))))))
 refine AF (AB (AD (Zs (Zo (AV (k) rfl underlying33 Ag η η χ ω ((I _ j).addr (i := k) ω)) ?_))))
 have C := fun (w' : World) (h : Evo o w' []) => (I w' h).atD (k) ω
 refine Zo (AY rfl CT Ag η rfl (C _ j)) (CO (zs := [_, _, _]) (vs := [_, _, _]) Ag η rfl η (fun _ => rfl) η rfl rfl η ?_)
 intro b7 w8 J7 E8 B7 Y7
 have Q8 := E8.size
 replace j := Z0 j E8
 refine As ?_
 have a7 := hT k; have U := Jm f k ω
 refine AA (Zo AN (Zo (AJ rfl η CI) (Zo (AH rfl BF η (B7.at.cell 1 η)) (Zo (Al rfl η underlying9) (Zo (OJ rfl η η) (Zn Ah (AO (AA (Zo A8 ?_)))))))))
 refine Zn AN (Zg (k + 1) ?_)
 refine ⟨_, σ, rfl, δ, (fun h => by have := hz ω; rw [Zx ω ω, U]; omega), δ, j⟩
 refine AW rfl (Zs (Zo Ar (Zo (AL rfl η underlying33) (Zo (Cy rfl η η) (Zo Br ?_)))))
 refine Ab rfl Aq rfl (fun hg => AN) ?_
 refine Ab rfl Aq rfl (fun hg => Cy rfl (Af hg) η) ?_
 refine Zo Fm (Zn A6 (AK Dk ?_))
 exact ⟨_, rfl, fun h => by have h9 := of_decide_eq_true h; have := hz ω; rw [List.take_of_length_le ω] at this; omega, j⟩
set_option maxHeartbeats 1000000 in
theorem RM {ao : Option Addr} {b off cap : Nat} {l : List Int} {w0 : World} (hl : RowE w0 ao b off cap l) :
    Calls Tryz.prog 21 #[.slice ao l.length cap] w0 fun e w' => ∃ bc b1 bx a1, ∃ bf b2 bz a6, ∃ f g : List Vc.Item, e = .returned (.tuple #[.slice bc f.length a1, .slice bf g.length a6]) ∧ Evo w0 w' [] ∧ RowE w' bc b1 bx a1 f ∧ RowE w' bf b2 bz a6 g ∧ ((f ≠ [] → w0.heap.size ≤ b1) ∧ (g ≠ [] → w0.heap.size ≤ b2)) ∧ PairR f g := by
 refine AG (n := 33) func21 rfl ntmps21 rfl ?_
 have I : Evo w0 w0 [] := Evo.refl _ _
 have U := Ak hl
 have bL := hl.bd
 refine Zs (Zo Bs (Zn Bs (Zs (Zo Ar (Zr [.slice _ _ _] rfl η func19 L3 ?_)))))
 rintro e w1 ⟨bg, rfl, hbs1, F1, j, hbA1⟩
 refine ⟨_, rfl, ?_⟩
 have Q1 := F1.size
 replace I := Z0 I F1
 replace hl := U _ I
 refine Zn dJ (AB ?_)
 have bM := j.lt
 refine AA (Zo Ey (Zo Ey (Zr [.pointer _, .int _ _] rfl η func38 (Bd j hl ω ω ω) ?_)))
 rintro e w2 ⟨cV, rfl, hx2, F2, hn2⟩
 refine ⟨_, rfl, ?_⟩
 have Q2 := F2.size
 replace I := Z1 I F2 ε
 replace j := hn2
 clear hn2
 refine Zo C3 (Zr [.pointer _, .int _ _, .bool _, .bool _] rfl η func41 (Ig j (fun w9 h9 => U _ (FH I h9 (.inl ω))) ω ω ω) ?_)
 rintro e w3 ⟨b6, f3, Nf3, rfl, hf3, hNf3, F3, hn3, hof3⟩
 refine ⟨_, rfl, ?_⟩
 have Q3 := F3.size
 replace I := Z1 I F3 ε
 replace hl := U _ I
 replace j := hn3
 clear hn3
 have hv := hf3.1; have cQ := hf3.2.1; have cR := hf3.2.2.1; have ag : ∀ x ∈ Ac f3, JM x := P7 _ _ hv; have aT : Tiny f3 := OE (n := 5) ω ω ω
 refine Zn (AM (v := b6) rfl η) (AB (AB ?_))
 have C : Evo w3 w3 [bg] := Evo.refl _ _
 obtain ⟨ct, g4, cI, b4, b0, R⟩ := hof3.rowOf
 subst b4
 have J := fun w9 (h9 : Evo w3 w9 [bg]) => Cg b0 h9 (fun o hm => by have h2 := (R o).2; simp at hm; omega)
 refine AA (Zo Ey (Zr [.pointer _, .int _ _] rfl η func38 (Bd j hl ω ω ω) ?_))
 rintro e w5 ⟨c0, rfl, hx5, F5, hn5⟩
 refine ⟨_, rfl, ?_⟩
 have Q5 := F5.size
 replace I := Z1 I F5 ε
 replace C := Z1 C F5 ε
 replace j := hn5
 clear hn5
 refine As (AD (Zs (Zo C3 (Zn A6 (AE η (fun bQ => ?_) (fun bQ => ?_))))))
 refine Zs (Zo Ar (Zo Ey (Zr [.pointer _, .int _ _, .bool _, .bool _] rfl η func41 (Ig j (fun w9 h9 => U _ (FH I h9 (.inl ω))) ω ω ω) ?_)))
 rintro e w7 ⟨bF, f7, Nf7, rfl, hf7, hNf7, F7, hn7, hof7⟩
 refine ⟨_, rfl, ?_⟩
 have Q7 := F7.size
 replace I := Z1 I F7 ε
 replace C := Z1 C F7 ε
 replace j := hn7
 clear hn7
 refine Zo Bs (Zn (AM (v := bF) rfl η) (AK (He (v := .slice _ _ _) (u := bF) rfl η η) ?_))
 obtain ⟨cH, g8, cK, b5, b3, bY⟩ := hof7.rowOf
 subst b5
 exact ⟨_, _, _, _, _, _, _, _, _, _, rfl, I, (J _ C), b3, ⟨fun o => by have := (R o).2; omega, fun o => by have := (bY o).2; omega⟩, ⟨aT, OE (n := 5) ω ω ω, ag, P7 _ _ hf7.1, hv⟩⟩
 refine Zs (Zo C3 (Zn A6 (AE η (fun bW => ?_) (fun bW => ?_))))
 refine Zs (Zo Ar (Zo Ey (Zr [.pointer _, .int _ _] rfl η func42 (TU j (fun w9 h9 => U _ (FH I h9 (.inl ω))) ω ω ω) ?_)))
 rintro e c3 ⟨a7, f10, rfl, hf10, F10, hof10⟩
 refine ⟨_, rfl, ?_⟩
 have cn := F10.size
 replace I := Z1 I F10 ε
 replace C := Z1 C F10 ε
 refine Zo Bs (Zn (AM (v := a7) rfl η) (AK (He (v := .slice _ _ _) (u := a7) rfl η η) ?_))
 obtain ⟨b9, g11, cc, bt, bp, bm⟩ := hof10.rowOf
 subst bt
 exact ⟨_, _, _, _, _, _, _, _, _, _, rfl, I, (J _ C), bp, ⟨fun o => by have := (R o).2; omega, fun o => by have := (bm o).2; omega⟩, ⟨aT, ⟨by omega, by omega⟩, ag, an hf10.2.2, hv⟩⟩
 refine Zs (Zo C3 (Zn A6 (AE η (fun bl => ?_) (fun bl => ?_))))
 refine Zs (Zo Ar (Zo Ar (Zo Bs (Zn Bs (AK (He (v := .slice _ _ _) (u := .slice _ _ _) rfl η η) ?_)))))
 exact ⟨_, _, _, _, _, _, _, _, _, _, rfl, I, (J _ C), (J _ C), ⟨fun o => by have := (R o).2; omega, fun o => by have := (R o).2; omega⟩, ⟨aT, aT, ag, ag, hv⟩⟩
 refine AF (AO (Zs (Zo Ar (Zo Ey (Zo Ar (Zr [.pointer _, .slice _ _ _] rfl η func43 (Qi j (fun w9 h9 => U _ (FH I h9 (.inl ω))) ω (fun w9 h9 => J _ (FH C h9 (.inr (by simp)))) ω ω) ?_))))))
 rintro e c4 ⟨a8, f13, Nf13, rfl, hf13, hNf13, F13, hn13, hof13⟩
 refine ⟨_, rfl, ?_⟩
 have cr := F13.size
 replace I := Z1 I F13 ε
 replace C := Z1 C F13 ε
 replace j := hn13
 clear hn13
 refine Zo Bs (Zn (AM (v := a8) rfl η) (AK (He (v := .slice _ _ _) (u := a8) rfl η η) ?_))
 obtain ⟨b_, g14, cg, bw, bq, bn⟩ := hof13.rowOf
 subst bw
 exact ⟨_, _, _, _, _, _, _, _, _, _, rfl, I, (J _ C), bq, ⟨fun o => by have := (R o).2; omega, fun o => by have := (bn o).2; omega⟩, ⟨aT, ⟨by omega, by omega⟩, ag, ZX hf13.1 ag, hv⟩⟩
theorem ab : D3 Tryz.prog 28 = some [(0, 13), (13, 1), (14, 1), (15, 1), (16, 1)] := ζ
theorem cw : Dl Tryz.prog 25 = some (1, 24, some (.slice none 0 0)) := ζ
theorem ch : Dl Tryz.prog 26 = some (1, 24, some (.slice none 0 0)) := ζ
set_option maxHeartbeats 4000000 in
theorem Rc {T bs : Nat} {ao : Option Addr} {b off cap : Nat} {l : List Int} {N : Nat} {rf : Bool} {w0 : World} (I : Blk w0 bs T [.slice ao l.length cap, .int .i64 (N : Nat)]) (hl : ∀ w', Evo w0 w' [bs] → RowE w' ao b off cap l) (hN : N ≤ 100000) :
    Calls Tryz.prog 18 #[.pointer (some ⟨bs, 0, none⟩), .bool (decide (rf = true))] w0 fun e w' => ∃ l0 l1 l2 l3 l4 l5 l6 l7 l8 l9 l10 b2 b3 sh lo bF bt ot bm, ∃ ts : List TermL, ∃ bz bc oc bl, ∃ cl : List Clas, e = .returned (.agg #[.int .i64 l0, .int .i64 l1, .int .i64 l2, .int .i64 l3, .int .i64 l4, .int .i64 l5, .int .i64 l6, .int .i64 l7, .int .i64 l8, .int .i64 l9, .int .i64 l10, .int .i64 b2, .int .i64 b3, .int .i64 sh, .int .i64 lo, .slice bF ts.length bm, .slice bz cl.length bl]) ∧ Evo w0 w' [bs] ∧ RowRK w' [] bF bt ot bm ts ∧ RowRK w' [] bz bc oc bl cl ∧ MadeC (⟨[l0, l1, l2, l3, l4, l5, l6, l7, l8, l9, l10, b2, b3], sh, lo, ts, cl⟩ : Chk) := by
 have J := I.at; have ct := I.lt
 refine AG (n := 43) func18 rfl ntmps18 rfl ?_
 have C : Evo w0 w0 [bs] := Evo.refl _ _
 have aT := hl
 have ca := (aT _ C).bd
 refine Zs (DI (zs := [_, _, _, _, _, _, _, _, _, _, _, _, _, _, _, _, _]) Db η rfl ?_)
 intro b1 w2 J1 E2 B1 Y1
 have Q2 := E2.size
 replace C := Z0 C E2
 replace I := I.evo0 E2
 replace J := J.evo0 E2
 replace hl := aT _ C
 have j := B1.at
 refine As (Zs (Zo Ey (Zr [.pointer _, .int _ _] rfl η func38 (Bd I hl ω ω ω) ?_)))
 rintro e w3 ⟨c4, rfl, hx3, F3, hn3⟩
 refine ⟨_, rfl, ?_⟩
 have Q3 := F3.size
 replace C := Z1 C F3 (.inr (by simp))
 replace B1 := B1.evo F3 θ
 replace j := j.evo F3 θ
 replace I := hn3
 clear hn3
 have J := I.at
 refine Zo (Fw rfl η η ω ω) (Av (pv := [(0, .int _ _), (1, .int _ _), (2, .int _ _), (3, .int _ _)]) (zs := [_]) (cs := [_, _, _, _]) underlying22 Cf η rfl η rfl η ?_)
 intro b4 w5 J4 E5 B4 Y4
 have Q5 := E5.size
 replace C := Z0 C E5
 replace hl := aT _ C
 replace B1 := B1.evo0 E5
 replace j := j.evo0 E5
 replace I := I.evo0 E5
 replace J := J.evo0 E5
 have ag : RowE w5 (some ⟨b4, 0, none⟩) b4 0 4 ([0, 100, 150, 400] : List Int) := Bl ([0, 100, 150, 400] : List Int) B4 rfl rfl
 refine Zo Ey (Zr [.pointer _, .int _ _] rfl η func38 (Bd I hl ω ω ω) ?_)
 rintro e w6 ⟨bb, rfl, hx6, F6, hn6⟩
 refine ⟨_, rfl, ?_⟩
 have Q6 := F6.size
 replace C := Z1 C F6 (.inr (by simp))
 replace B1 := B1.evo F6 θ
 replace j := j.evo F6 θ
 replace ag := ag.evo F6 θ
 replace I := hn6
 clear hn6
 have J := I.at
 refine Zo (AV (bb.toNat) rfl underlying22 Cf η η ω (by show _ < 4; omega) (ag.addr (i := bb.toNat) (by show _ < 4; omega))) ?_
 have cr := ag.atD (bb.toNat) (by show _ < 4; omega)
 refine Zo (AH rfl A0 η (cr.cell 0 η)) (Zo (Aj (pv := [(1, .int _ _), (2, .int _ _)]) (zs := [_, _, _, _, _, _, _, _, _, _, _, _, _, _, _, _, _]) (cells := [_, _, _, _, _, _, _, _, _, _, _, _, _, _, _, _, _]) rfl Db η ab η η) (CO (zs := [_, _, _, _, _, _, _, _, _, _, _, _, _, _, _, _, _]) (vs := [_, _, _, _, _, _, _, _, _, _, _, _, _, _, _, _, _]) Db η rfl η (fun _ => rfl) η rfl rfl η ?_))
 intro b8 w9 J8 E9 B8 Y8
 have Q9 := E9.size
 replace C := Z0 C E9
 replace hl := aT _ C
 replace B1 := B1.evo0 E9
 replace j := j.evo0 E9
 replace ag := ag.evo0 E9
 replace I := I.evo0 E9
 replace J := J.evo0 E9
 have o := B8.at
 refine As (AB (Zs (Zn Ah (AD ?_))))
 obtain ⟨sh, cV⟩ : ∃ z, z = c4 * 40 := ⟨_, rfl⟩; obtain ⟨lo, b0⟩ : ∃ z, z = ([0, 100, 150, 400] : List Int).getD bb.toNat default := ⟨_, rfl⟩
 have bY := Yl (k := bb.toNat) ω; rw [← b0] at bY
 rw [← cV, ← b0] at B8; have o := B8.at
 refine AZ (α := Nat) [6, 16, 17, 18, 19, 20, 21, 22, 23, 24, 25, 26, 27, 28, 29, 30, 31, 32, 33] (fun k g w => ∃ az : List Int, ∃ N1 : Nat, g 6 = .int .i64 (k : Nat) ∧ Blk w b8 28 ((az).map (Value.int .i64) ++ [.int .i64 sh, .int .i64 lo, .slice none 0 0, .slice none 0 0]) ∧ Blk w b1 28 [.int .i64 0, .int .i64 0, .int .i64 0, .int .i64 0, .int .i64 0, .int .i64 0, .int .i64 0, .int .i64 0, .int .i64 0, .int .i64 0, .int .i64 0, .int .i64 0, .int .i64 0, .int .i64 0, .int .i64 0, .slice none 0 0, .slice none 0 0] ∧ Blk w bs T [.slice ao l.length cap, .int .i64 (N1 : Nat)] ∧ LevR az ∧ (1 ≤ k ∧ k ≤ 13 ∧ N + 2 ≤ N1 ∧ N1 + 2 ≤ N + 2 + 2 * k) ∧ w9.heap.size ≤ w.heap.size ∧ Evo w0 w [bs]) (fun k => 13 - k) 1 ?_ ?_
 refine ⟨(List.replicate 13 0), _, rfl, B8, B1, I, LevR.init, ω, δ, C⟩
 rintro k g ed ⟨az, N1, hj12, B8, B1, I, hLR, hk, hzl10, C⟩
 have bx := C.size
 have cH := B8.lt
 have cI := B1.lt
 have cK := I.lt
 replace hl := aT _ C
 have o := B8.at
 have j := B1.at
 have J := I.at
 refine Zk 6 hj12 ?_
 have db := hLR.1
 refine AB (Zs (Zo AN (Zn Bu (AE η (fun bM => ?_) (fun bM => ?_)))))
 refine AF (AB (AD (Zs (Zo AN (Zo Ey (Zr [.pointer _, .int _ _] rfl η func38 (Bd I hl ω ω ω) ?_))))))
 rintro e ee ⟨U, rfl, hx17, F17, hn17⟩
 refine ⟨_, rfl, ?_⟩
 have ds := F17.size
 replace C := Z1 C F17 (.inr (by simp))
 replace B8 := B8.evo F17 θ
 replace B1 := B1.evo F17 θ
 replace o := o.evo F17 θ
 replace j := j.evo F17 θ
 replace I := hn17
 clear hn17
 have J := I.at
 refine Zo (AJ rfl η FY) (Zo (G0 (k) rfl underlying24 Cf η η ω ω) (BB (v := .int .i64 U) (vs := [.int .i64 U]) (cs' := (((az).set k (U)).map (Value.int .i64) ++ [.int .i64 sh, .int .i64 lo, .slice none 0 0, .slice none 0 0])) η η B8 Cf η rfl η (by simp only [Nat.zero_add, Nat.mul_one]; exact Qq rfl ω) (by simp only [Nat.zero_add, Nat.mul_one]; exact Qn ω) ?_))
 intro w18 E18 V18 hb_new
 have dt := E18.size
 replace C := Z1 C E18 ε
 replace B1 := B1.evo E18 θ
 replace j := j.evo E18 θ
 replace I := I.evo E18 θ
 replace J := J.evo E18 θ
 replace B8 := hb_new
 have o := B8.at
 clear hb_new
 have cQ : ((az).set k (U)).length = (az).length := List.length_set
 refine As (Zs (Zo Br (Zo Br ?_)))
 refine Ab rfl Aq rfl (fun hg => Ey) ?_
 refine QH rfl Aq rfl (fun hg => Am rfl (An (v := .pointer _) (Af hg) (An (v := .int _ _) η (rfl))) func38 rfl ζ) (fun hg => (Bd I (aT _ C) ω ω ω)) I ?_
 intro nx20 w19 Ng20 hx20 F20 hna20 hnb20 hbn
 have du := F20.size
 replace C := Z1 C F20 (.inr (by simp))
 replace B1 := B1.evo F20 θ
 replace j := j.evo F20 θ
 replace B8 := B8.evo F20 θ
 replace o := o.evo F20 θ
 replace I := hbn
 clear hbn
 have J := I.at
 refine Ab rfl Aq rfl (fun hg => A1 rfl (Af hg) η) ?_
 refine Zn Fm (AE η (fun bQ => ?_) (fun bQ => ?_))
 refine AA (Zo AN (Zo (AJ rfl η FY) (Zo (G0 (k) rfl underlying24 Cf η η ω ω) (BB (v := .int .i64 2) (vs := [.int .i64 2]) (cs' := (((az.set k U).set k (2)).map (Value.int .i64) ++ [.int .i64 sh, .int .i64 lo, .slice none 0 0, .slice none 0 0])) η η B8 Cf η rfl η (by simp only [Nat.zero_add, Nat.mul_one]; exact Qq rfl ω) (by simp only [Nat.zero_add, Nat.mul_one]; exact Qn ω) ?_))))
 intro w22 E22 V22 hb_new
 have dv := E22.size
 replace C := Z1 C E22 ε
 replace B1 := B1.evo E22 θ
 replace j := j.evo E22 θ
 replace I := I.evo E22 θ
 replace B8 := hb_new
 have o := B8.at
 clear hb_new
 have cQ : ((az.set k U).set k (2)).length = (az.set k U).length := List.length_set
 refine As (AO (AA (Zo AN (Zo A8 (Zn Ah (Zg (k + 1) ?_))))))
 refine ⟨_, _, (congrArg (Value.int _) ω), B8, B1, I, (by first | exact (hLR.set ω ⟨by omega, by omega⟩).set ω ⟨by decide, by decide⟩ | exact hLR.set ω ⟨by omega, by omega⟩), ω, δ, C⟩
 refine AF (AO (AA (Zo AN (Zo A8 (Zn Ah (Zg (k + 1) ?_))))))
 refine ⟨_, _, (congrArg (Value.int _) ω), B8, B1, I, (by first | exact (hLR.set ω ⟨by omega, by omega⟩).set ω ⟨by decide, by decide⟩ | exact hLR.set ω ⟨by omega, by omega⟩), ω, δ, C⟩
 refine AW rfl (AB ?_)
 obtain ⟨a0, a1, a2, a3, a4, a5, a6, a7, a8, a9, cb, cc, a12, rfl⟩ := Xw hLR.1
 replace B8 : Blk _ _ _ [.int .i64 a0, .int .i64 a1, .int .i64 a2, .int .i64 a3, .int .i64 a4, .int .i64 a5, .int .i64 a6, .int .i64 a7, .int .i64 a8, .int .i64 a9, .int .i64 cb, .int .i64 cc, .int .i64 a12, .int .i64 sh, .int .i64 lo, .slice none 0 0, .slice none 0 0] := B8; have o := B8.at
 have da := B8.lt; have c_ := B1.lt
 refine AA (Zo Ey (Zr [.pointer _, .int _ _] rfl η func39 (Nw (y1 := b8) (y2 := b1) I (fun w9 h9 => aT _ (Evo.trans C h9 (fun x hx _ => hx))) ω ω ω ω ω) ?_))
 rintro e b5 ⟨dq, cl23, mc23, Nc23, rfl, hMC23, hNc23, F23, hn23, hoC23⟩
 refine ⟨_, rfl, ?_⟩
 have dw := F23.size
 replace C := Z1 C F23 (.inr (by simp))
 replace B8 := B8.evo F23 θ
 replace B1 := B1.evo F23 θ
 replace o := o.evo F23 θ
 replace j := j.evo F23 θ
 replace I := hn23
 clear hn23
 have J := I.at
 obtain ⟨dU, gC, dY, c0, bp⟩ := hoC23.rowK θ
 subst c0
 have R : Evo b5 b5 [bs, b8, b1] := Evo.refl _ _
 have hC := bp.now R; have b9 := hC.bd
 have cR := UH hMC23.1 ω; have dc := hMC23.1.1
 refine Zo (AJ rfl η GB) (BB (v := .slice _ _ _) (vs := [_]) (cs' := [_, _, _, _, _, _, _, _, _, _, _, _, _, _, _, _, _]) η η B8 ch η rfl η rfl η ?_)
 intro w24 E24 V24 hb_new
 have dx := E24.size
 replace C := Z1 C E24 ε
 replace R := Z1 R E24 ε
 replace B1 := B1.evo E24 θ
 replace j := j.evo E24 θ
 replace I := I.evo E24 θ
 replace J := J.evo E24 θ
 replace B8 := hb_new
 have o := B8.at
 clear hb_new
 refine As (Zs (Zo Ey (Zo (AJ rfl η GB) (Zo (AH rfl MG η (o.cell 16 η)) (Zr [.pointer _, .slice _ _ _, .int _ _] rfl η func40 (Rn I (fun w9 h9 => aT _ (Evo.trans C h9 (fun x hx _ => hx))) ω (y1 := b8) (y2 := b1) (bp.pass R (fun x hx => .inr (by simp at hx; simp [hx]))) cR ω ω ω ω ω) ?_)))))
 rintro e b6 ⟨dr, ts25, Nt25, rfl, hMT25, hNt25, F25, hn25, hoT25⟩
 refine ⟨_, rfl, ?_⟩
 have dy := F25.size
 replace C := Z1 C F25 (.inr (by simp))
 replace R := Z1 R F25 ε
 replace B1 := B1.evo F25 θ
 replace j := j.evo F25 θ
 replace B8 := B8.evo F25 θ
 replace o := o.evo F25 θ
 replace I := hn25
 clear hn25
 obtain ⟨dV, gT, dZ, c3, bL⟩ := hoT25.rowK θ
 subst c3
 have a_ : Evo b6 b6 [bs, b8, b1] := Evo.refl _ _
 have hT := bL.now a_; have b_ := hT.bd
 refine Zo (AJ rfl η Fa) (BB (v := .slice _ _ _) (vs := [_]) (cs' := [_, _, _, _, _, _, _, _, _, _, _, _, _, _, _, _, _]) η η B8 cw η rfl η rfl η ?_)
 intro w26 E26 V26 hb_new
 have dz := E26.size
 replace C := Z1 C E26 ε
 replace R := Z1 R E26 ε
 replace a_ := Z1 a_ E26 ε
 replace B1 := B1.evo E26 θ
 replace j := j.evo E26 θ
 replace B8 := hb_new
 have o := B8.at
 clear hb_new
 refine As (Zs (Zo (AY rfl FE Db η rfl o) (BB (v := .agg _) (vs := [_, _, _, _, _, _, _, _, _, _, _, _, _, _, _, _, _]) (cs' := [_, _, _, _, _, _, _, _, _, _, _, _, _, _, _, _, _]) η η B1 Db η rfl η rfl η ?_)))
 intro w27 E27 V27 hb_new
 have dO := E27.size
 replace C := Z1 C E27 ε
 replace R := Z1 R E27 ε
 replace a_ := Z1 a_ E27 ε
 replace B1 := hb_new
 have j := B1.at
 clear hb_new
 refine As (AK (cd (cs := [_, _, _, _, _, _, _, _, _, _, _, _, _, _, _, _, _]) rfl FE Db η rfl j) ?_)
 exact ⟨_, _, _, _, _, _, _, _, _, _, _, _, _, _, _, _, _, _, _, _, _, _, _, _, _, rfl, C, bL.pass a_ (fun x hx => absurd hx List.not_mem_nil), bp.pass R (fun x hx => absurd hx List.not_mem_nil), ⟨rfl, hLR.2.1, hLR.2.2, by show 0 ≤ sh ∧ sh ≤ 100; omega, bY, fun x hx => (hMT25.1 x hx).1, by have := hMT25.2; show ts25.length ≤ 3; omega, by show cl23.length ≤ 2; omega, TV (T8 hMC23.1 ω) hMT25.1 (by have := hMT25.2; show ts25.length ≤ 128; omega)⟩⟩
end Go.Proofs.YtlfjocbnbceceaaGreatDoor
namespace Go.Proofs.YtlfjocbnbceceaaGreatDoor
open Go Go.RowKit Go.Vc Go.Proofs.Tryz
theorem XR {α : Type} [DecidableEq α] (s : List α) (x : α) : Ie s s x = 0 := by unfold Ie; omega
def kC : Chk := ⟨[0, 1, 1, 1, 1, 1, 2, 1, 1, 1, 1, 1, 1], 0, 0, [], []⟩
def kA : List Vc.Item := [⟨1, [97, 32, 49], 0⟩]
def kB : List Vc.Item := [⟨1, [98, 32, 50], 0⟩]
def kO : List Vc.Item := [⟨6, [49], -1⟩, ⟨6, [50], 1⟩]
theorem aa : EG kC = 0 := by decide +kernel
theorem bj : Cb kA kB = [] := by
  have h : Bv kA = [] ∧ Bv kB = [] := by decide
  unfold Cb; rw [h.1, h.2]
  exact XY (XR _)
theorem cp : Sm kC kA kB = kO := by
  unfold Sm
  rw [if_pos aa]
  have e : Cv kC kA kB = Hg kC kA kB := if_neg υ
  have j : Hg kC kA kB = kO := by
    unfold Hg; rw [bj]
    decide +kernel
  rw [e, j]
  decide +kernel
theorem Fj : Xf kC kO = true := by decide +kernel
theorem X4 : Sm kC [⟨1, [97], 0⟩] [] = [⟨1, [], 0⟩] := by
  unfold Sm
  rw [if_pos aa]
  have e : Cv kC [⟨1, [97], 0⟩] [] = [⟨1, [], 0⟩] := if_pos ⟨rfl, by simp⟩
  rw [e]; decide +kernel
theorem IW : Tiny kA ∧ Tiny kB ∧ Tiny [⟨1, [97], 0⟩] ∧ Tiny ([] : List Vc.Item) := by unfold Tiny; decide
theorem LC : (∀ x ∈ Ac kA, JM x) ∧ (∀ x ∈ Ac kB, JM x) ∧ ∀ x ∈ Ac [⟨1, [97], 0⟩], JM x := by
  have h : Ac kA = [] ∧ Ac kB = [] ∧ Ac [⟨1, [97], 0⟩] = [] := by decide
  rw [h.1, h.2.1, h.2.2]
  exact ⟨fun x j => absurd j List.not_mem_nil, fun x j => absurd j List.not_mem_nil, fun x j => absurd j List.not_mem_nil⟩
theorem Km {α : Type} [Enc α] {w : World} {base : Nat} {E : TypeId} {v : Value} {l j : List α} (h : OwnE w base E v l) (e : l = j) : OwnE w base E v j := e ▸ h
def O1 (k : Nat) : List Int := (0 :: List.replicate (k - 1) 1) ++ List.replicate (13 - k) 0
theorem Yt {k : Nat} (h : 1 ≤ k) (j : k ≤ 13) : (O1 k).length = 13 := by unfold O1; simp; omega
theorem X3 {k : Nat} (h : 1 ≤ k) (j : k < 13) : (O1 k).set k 1 = O1 (k + 1) := by
  have : ∀ k, k < 13 → 1 ≤ k → (O1 k).set k 1 = O1 (k + 1) := by decide
  exact this k j h
theorem Fy {s : AQ} {o : World}  :
    Calls Tryz.prog 37 #[S s] o fun e w' => ∃ I b off cap, e = .returned (.slice I ([⟨1, s, 0⟩] : List Vc.Item).length cap) ∧ Evo o w' [] ∧ RowE w' I b off cap ([⟨1, s, 0⟩] : List Vc.Item) := by
 refine AG (n := 6) func37 rfl ntmps37 rfl ?_
 have C : Evo o o [] := Evo.refl _ _
 refine Zs (Zn Bs (Zs (Zo Au (Zo (Aj (pv := [(0, .int _ _), (1, S _)]) (zs := [_, _, _]) (cells := [_, _, _]) rfl Ag η Gr η η) (Av (pv := [(0, .agg _)]) (zs := [_, _, _]) (cs := [_, _, _]) underlying33 Ag η rfl η rfl η ?_)))))
 intro b1 w2 J1 E2 B1 Y1
 have J := E2.size
 replace C := Z0 C E2
 have j : RowE w2 (some ⟨b1, 0, none⟩) b1 0 1 ([⟨1, s, 0⟩] : List Vc.Item) := Bl ([⟨1, s, 0⟩] : List Vc.Item) B1 rfl rfl
 refine Zn (AM (v := .slice (some ⟨b1, 0, none⟩) _ _) rfl η) (AK (BN (v := .slice (some ⟨b1, 0, none⟩) _ _) rfl η) ?_)
 exact ⟨_, _, _, _, rfl, C, j⟩
set_option maxHeartbeats 4000000 in
theorem KR  {w0 : World} (ba : Tab w0) :
    Calls Tryz.prog 15 #[] w0 fun e w' => e = .returned (.bool true) ∧ Evo w0 w' [] := by
 refine AG (n := 40) func15 rfl ntmps15 rfl ?_
 have C : Evo w0 w0 [] := Evo.refl _ _
 refine Zs (Zn A6 (Zs (Zo (Aj (pv := []) (zs := [_, _, _, _, _, _, _, _, _, _, _, _, _, _, _, _, _]) (cells := [_, _, _, _, _, _, _, _, _, _, _, _, _, _, _, _, _]) rfl Db η ab η η) (CO (zs := [_, _, _, _, _, _, _, _, _, _, _, _, _, _, _, _, _]) (vs := [_, _, _, _, _, _, _, _, _, _, _, _, _, _, _, _, _]) Db η rfl η (fun _ => rfl) η rfl rfl η ?_))))
 intro b1 w2 J1 E2 B1 Y1
 have Q2 := E2.size
 replace C := Z0 C E2
 have J := B1.at
 refine As (AB (Zs (Zn Ah (AD (AZ (α := Nat) [2, 6, 7, 8, 9, 10, 11, 12] (fun k g w => g 2 = .int .i64 (k : Nat) ∧ Blk w b1 28 ((O1 k).map (Value.int .i64) ++ [.int .i64 0, .int .i64 0, .slice none 0 0, .slice none 0 0]) ∧ (1 ≤ k ∧ k ≤ 13) ∧ w2.heap.size ≤ w.heap.size ∧ Evo w0 w []) (fun k => 13 - k) 1 ?_ ?_)))))
 refine ⟨rfl, B1, δ, δ, C⟩
 rintro k g w4 ⟨bY, B1, hk, hzl3, C⟩
 have bs := C.size
 have cn := B1.lt
 have J := B1.at
 refine Zk 2 bY ?_
 have cg := Yt hk.1 hk.2
 refine AB (Zs (Zo AN (Zn Bu (AE η (fun bW => ?_) (fun bW => ?_)))))
 refine AF (AB (AD (AA (Zo AN (Zo (AJ rfl η FY) (Zo (G0 (k) rfl underlying24 Cf η η ω ω) (BB (v := .int .i64 1) (vs := [.int .i64 1]) (cs' := (((O1 k).set k (1)).map (Value.int .i64) ++ [.int .i64 0, .int .i64 0, .slice none 0 0, .slice none 0 0])) η η B1 Cf η rfl η (by simp only [Nat.zero_add, Nat.mul_one]; exact Qq rfl ω) (by simp only [Nat.zero_add, Nat.mul_one]; exact Qn ω) ?_)))))))
 intro w8 E8 V8 hb_new
 have Q8 := E8.size
 replace C := Z1 C E8 ε
 replace B1 := hb_new
 have J := B1.at
 clear hb_new
 have dp : ((O1 k).set k (1)).length = (O1 k).length := List.length_set
 refine As (AO (AA (Zo AN (Zo A8 (Zn Ah (Zg (k + 1) ?_))))))
 refine ⟨(congrArg (Value.int _) ω), (by have h9 := B1; rw [X3 hk.1 ω] at h9; exact h9), δ, δ, C⟩
 refine AW rfl (AB ?_)
 obtain rfl : k = 13 := by omega
 replace B1 : Blk _ _ _ [.int .i64 0, .int .i64 1, .int .i64 1, .int .i64 1, .int .i64 1, .int .i64 1, .int .i64 1, .int .i64 1, .int .i64 1, .int .i64 1, .int .i64 1, .int .i64 1, .int .i64 1, .int .i64 0, .int .i64 0, .slice none 0 0, .slice none 0 0] := B1; have J := B1.at
 refine AA (Zo (AJ rfl η FY) (Zo (G0 (6) rfl underlying24 Cf η η η ω) (BB (v := .int _ _) (vs := [_]) (cs' := [_, _, _, _, _, _, _, _, _, _, _, _, _, _, _, _, _]) η η B1 Cf η rfl η rfl η ?_)))
 intro w9 E9 V9 hb_new
 have Q9 := E9.size
 replace C := Z1 C E9 ε
 replace B1 := hb_new
 have J := B1.at
 clear hb_new
 refine As (Zs (Zn (AM (v := .func _ _ _) rfl η) (AB ?_)))
 have bc := B1
 have U := J
 have bm := C
 refine CJ ([]) ζ ?_
 intro w10 F11 I
 have cI := F11.size
 replace C := Z0 C F11
 replace B1 := B1.evo0 F11
 replace J := J.evo0 F11
 refine Zt (i := 0) η (fun w' hC => AY rfl FE Db η rfl (U.evo0 hC)) I (Zt (i := 1) η (fun w' hC => AP (v := .func _ _ _) rfl η) I (Zt (i := 3) η (fun w' hC => AP (v := .func _ _ _) rfl η) I ?_))
 refine Zh (i := 2) ?_
 refine Dc rfl rfl rfl (Cm (vs := [S _]) (cs := []) rfl η η func37 rfl ζ) Fy ?_
 rintro e dq ⟨bF, bK12, ofK12, cpK12, rfl, F12, a7⟩
 refine ⟨_, rfl, ?_⟩
 have cK := F12.size
 replace C := Z0 C F12
 replace I := Z0 I F12
 replace B1 := B1.evo0 F12
 replace J := J.evo0 F12
 refine Ap I ?_
 refine Zh (i := 4) ?_
 refine Dc rfl rfl rfl (Cm (vs := [S _]) (cs := []) rfl η η func37 rfl ζ) Fy ?_
 rintro e dr ⟨bL, bK13, ofK13, cpK13, rfl, F13, hrK13⟩
 refine ⟨_, rfl, ?_⟩
 have cQ := F13.size
 replace C := Z0 C F13
 replace I := Z0 I F13
 replace B1 := B1.evo0 F13
 replace J := J.evo0 F13
 replace a7 := a7.evo0 F13
 refine Ap I ?_
 refine Zh (i := 5) ?_
 refine Zr [.agg _, .slice _ _ _, .slice _ _ _] rfl η func14 (FP (RowR.nil _ _ 0 0 _) (RowR.nil _ _ 0 0 _) a7 hrK13 IW.1 IW.2.1 LC.1 LC.2.1 (Nat.zero_le _) (fun x hx => absurd hx List.not_mem_nil) (ba.evo0 C)) ?_
 rintro e ds ⟨bd, rfl, F14, R⟩
 refine ⟨_, rfl, ?_⟩
 have cR := F14.size
 replace C := Z0 C F14
 replace I := Z0 I F14
 replace B1 := B1.evo0 F14
 replace J := J.evo0 F14
 replace R := Km R cp
 refine Ap I ?_
 refine Zt (i := 6) η (fun w' hC => AM (v := bd) rfl η) I ?_
 refine CH ζ ?_
 refine AB ?_
 have bc := B1
 have U := J
 have bm := C
 refine CJ ([]) ζ ?_
 intro w15 F16 o
 have cV := F16.size
 replace C := Z0 C F16
 replace R := R.evo0 F16
 refine Zt (i := 0) η (fun w' hC => AP (v := bd) rfl η) o (Zt (i := 1) η (fun w' hC => Aj (pv := [(0, .int _ _), (1, S _), (2, .int _ _)]) (zs := [_, _, _]) (cells := [_, _, _]) rfl Az η Cz η η) o (Zt (i := 2) η (fun w' hC => Aj (pv := [(0, .int _ _), (1, S _), (2, .int _ _)]) (zs := [_, _, _]) (cells := [_, _, _]) rfl Az η Cz η η) o ?_))
 refine Zh (i := 3) ?_
 refine Av (pv := [(0, .agg _), (1, .agg _)]) (zs := [_, _, _]) (cs := [_, _, _, _, _, _]) underlying34 Az η rfl η rfl η ?_
 intro b17 w18 J17 E18 B17 Y17
 have c0 := E18.size
 replace C := Z0 C E18
 replace o := Z0 o E18
 replace R := R.evo0 E18
 have bf : RowE w18 (some ⟨b17, 0, none⟩) b17 0 2 kO := Bl kO B17 rfl rfl
 refine Ap o ?_
 refine Zh (i := 4) ?_
 obtain ⟨b0, g19, b5, bt, a_, b_⟩ := R.rowOf
 subst bt
 refine Zr [.slice _ _ _, .slice (some ⟨b17, 0, none⟩) _ _] rfl η func16 (Dx a_ bf) ?_
 rintro e dt ⟨rfl, F20⟩
 refine ⟨_, rfl, ?_⟩
 have c3 := F20.size
 replace C := Z0 C F20
 replace o := Z0 o F20
 replace a_ := a_.evo0 F20
 refine Ap o ?_
 refine Zt (i := 5) η (fun w' hC => Bt rfl η) o ?_
 refine DB (i := 6) η η rfl Aq η rfl rfl ζ (fun w' hC => AY rfl FE Db η rfl (U.evo0 hC)) o ?_
 refine DB (i := 7) η η rfl Aq η rfl rfl ζ (fun w' hC => Ar) o ?_
 refine Zh (i := 8) ?_
 refine Da rfl Aq η ?_
 refine Zr [.agg _, .slice _ _ _] rfl η func25 (Oy a_ (RowR.nil _ _ 0 0 _) (RowR.nil _ _ 0 0 _)) ?_
 rintro e du ⟨rfl, F21⟩
 refine ⟨_, rfl, ?_⟩
 have c4 := F21.size
 replace C := Z0 C F21
 replace o := Z0 o F21
 refine Ap o ?_
 refine Zt (i := 9) η (fun w' hC => Bg rfl η (fun _ => η) rfl) o ?_
 refine Zt (i := 10) η (fun w' hC => Br) o ?_
 refine DB (i := 11) η η rfl Aq (by exact ⟨rfl, Fj⟩) rfl rfl ζ (fun w' hC => AY rfl FE Db η rfl (U.evo0 hC)) o ?_
 refine DB (i := 12) η η rfl Aq (by exact ⟨rfl, Fj⟩) rfl rfl ζ (fun w' hC => AP (v := .func _ _ _) rfl η) o ?_
 refine DB (i := 15) η η rfl Aq (by exact ⟨rfl, Fj⟩) rfl rfl ζ (fun w' hC => Aj (pv := [(0, .int _ _)]) (zs := [_, _, _]) (cells := [_, _, _]) rfl Az η Cz η η) o ?_
 refine Kp (i := 13) (j := 16) ζ ?_ ?_
 refine Hx η ?_
 refine Da rfl Aq (by exact ⟨rfl, Fj⟩) ?_
 refine Dc rfl rfl rfl (Cm (vs := [S _]) (cs := []) rfl η η func37 rfl ζ) Fy ?_
 rintro e dv ⟨bM, bK22, ofK22, cpK22, rfl, F22, aT⟩
 refine ⟨_, rfl, ?_⟩
 have c9 := F22.size
 replace C := Z0 C F22
 replace o := Z0 o F22
 refine Ap o ?_
 refine Kp (i := 14) (j := 16) ζ ?_ ?_
 refine Hx η ?_
 refine Da rfl Aq (by exact ⟨rfl, Fj⟩) ?_
 refine Zr [.agg _, .slice _ _ _, .slice _ _ _] rfl η func14 (FP (RowR.nil _ _ 0 0 _) (RowR.nil _ _ 0 0 _) aT (RowE.nil _ none 0 0 0) IW.2.2.1 IW.2.2.2 LC.2.2 (fun x hx => absurd hx List.not_mem_nil) (Nat.zero_le _) (fun x hx => absurd hx List.not_mem_nil) (ba.evo0 C)) ?_
 rintro e dw ⟨cr, rfl, F23, ao⟩
 refine ⟨_, rfl, ?_⟩
 have c_ := F23.size
 replace C := Z0 C F23
 replace o := Z0 o F23
 replace ao := Km ao X4
 refine Ap o ?_
 refine Zh (i := 16) ?_
 refine Da rfl Aq (by exact ⟨rfl, Fj⟩) ?_
 refine Av (pv := [(0, .agg _)]) (zs := [_, _, _]) (cs := [_, _, _]) underlying34 Az η rfl η rfl η ?_
 intro b24 w25 J24 E25 B24 Y24
 have da := E25.size
 replace C := Z0 C E25
 replace o := Z0 o E25
 replace ao := ao.evo0 E25
 have bg : RowE w25 (some ⟨b24, 0, none⟩) b24 0 1 ([⟨1, [], 0⟩] : List Vc.Item) := Bl ([⟨1, [], 0⟩] : List Vc.Item) B24 rfl rfl
 refine Ap o ?_
 refine Zh (i := 17) ?_
 refine Da rfl Aq (by exact ⟨rfl, Fj⟩) ?_
 obtain ⟨b2, dk, b6, bw, bn, ca⟩ := ao.rowOf
 subst bw
 refine Zr [.slice _ _ _, .slice (some ⟨b24, 0, none⟩) _ _] rfl η func16 (Dx bn bg) ?_
 rintro e dx ⟨rfl, F27⟩
 refine ⟨_, rfl, ?_⟩
 have db := F27.size
 replace C := Z0 C F27
 replace o := Z0 o F27
 refine Ap o ?_
 refine Zt (i := 18) η (fun w' hC => Bg rfl η (fun _ => η) rfl) o ?_
 refine Zt (i := 19) η (fun w' hC => A6) o ?_
 refine CH ζ ?_
 refine AK Dk ?_
 exact ⟨Ao (decide_eq_true ⟨⟨rfl, Fj⟩, rfl⟩), C⟩
 refine Hx η ?_
 refine Da rfl Aq (by exact ⟨rfl, Fj⟩) ?_
 refine Av (pv := [(0, .agg _)]) (zs := [_, _, _]) (cs := [_, _, _]) underlying34 Az η rfl η rfl η ?_
 intro b28 w29 J28 E29 B28 Y28
 have dc := E29.size
 replace C := Z0 C E29
 replace o := Z0 o E29
 replace aT := aT.evo0 E29
 have a8 : RowE w29 (some ⟨b28, 0, none⟩) b28 0 1 ([⟨1, [], 0⟩] : List Vc.Item) := Bl ([⟨1, [], 0⟩] : List Vc.Item) B28 rfl rfl
 refine Ap o ?_
 refine Zh (i := 14) ?_
 refine Da rfl Aq (by exact ⟨rfl, Fj⟩) ?_
 refine Zr [.agg _, .slice _ _ _, .slice _ _ _] rfl η func14 (FP (RowR.nil _ _ 0 0 _) (RowR.nil _ _ 0 0 _) aT (RowE.nil _ none 0 0 0) IW.2.2.1 IW.2.2.2 LC.2.2 (fun x hx => absurd hx List.not_mem_nil) (Nat.zero_le _) (fun x hx => absurd hx List.not_mem_nil) (ba.evo0 C)) ?_
 rintro e dy ⟨ct, rfl, F30, a1⟩
 refine ⟨_, rfl, ?_⟩
 have dd := F30.size
 replace C := Z0 C F30
 replace o := Z0 o F30
 replace a8 := a8.evo0 F30
 replace a1 := Km a1 X4
 refine Ap o ?_
 refine Zh (i := 17) ?_
 refine Da rfl Aq (by exact ⟨rfl, Fj⟩) ?_
 obtain ⟨b3, dm, b7, bx, bp, cb⟩ := a1.rowOf
 subst bx
 refine Zr [.slice _ _ _, .slice (some ⟨b28, 0, none⟩) _ _] rfl η func16 (Dx bp a8) ?_
 rintro e dz ⟨rfl, F32⟩
 refine ⟨_, rfl, ?_⟩
 have de := F32.size
 replace C := Z0 C F32
 replace o := Z0 o F32
 refine Ap o ?_
 refine Zt (i := 18) η (fun w' hC => Bg rfl η (fun _ => η) rfl) o ?_
 refine Zt (i := 19) η (fun w' hC => A6) o ?_
 refine CH ζ ?_
 refine AK Dk ?_
 exact ⟨Ao (decide_eq_true ⟨⟨rfl, Fj⟩, rfl⟩), C⟩
 refine Hx η ?_
 refine Da rfl Aq (by exact ⟨rfl, Fj⟩) ?_
 refine Av (pv := [(0, .agg _)]) (zs := [_, _, _]) (cs := [_, _, _]) underlying34 Az η rfl η rfl η ?_
 intro b33 w34 J33 E34 B33 Y33
 have df := E34.size
 replace C := Z0 C E34
 replace o := Z0 o E34
 have az : RowE w34 (some ⟨b33, 0, none⟩) b33 0 1 ([⟨1, [], 0⟩] : List Vc.Item) := Bl ([⟨1, [], 0⟩] : List Vc.Item) B33 rfl rfl
 refine Ap o ?_
 refine Zh (i := 13) ?_
 refine Da rfl Aq (by exact ⟨rfl, Fj⟩) ?_
 refine Dc rfl rfl rfl (Cm (vs := [S _]) (cs := []) rfl η η func37 rfl ζ) Fy ?_
 rintro e dO ⟨bQ, bK35, ofK35, cpK35, rfl, F35, hrK35⟩
 refine ⟨_, rfl, ?_⟩
 have dh := F35.size
 replace C := Z0 C F35
 replace o := Z0 o F35
 replace az := az.evo0 F35
 refine Ap o ?_
 refine Zh (i := 14) ?_
 refine Da rfl Aq (by exact ⟨rfl, Fj⟩) ?_
 refine Zr [.agg _, .slice _ _ _, .slice _ _ _] rfl η func14 (FP (RowR.nil _ _ 0 0 _) (RowR.nil _ _ 0 0 _) hrK35 (RowE.nil _ none 0 0 0) IW.2.2.1 IW.2.2.2 LC.2.2 (fun x hx => absurd hx List.not_mem_nil) (Nat.zero_le _) (fun x hx => absurd hx List.not_mem_nil) (ba.evo0 C)) ?_
 rintro e dQ ⟨cH, rfl, F36, a6⟩
 refine ⟨_, rfl, ?_⟩
 have di := F36.size
 replace C := Z0 C F36
 replace o := Z0 o F36
 replace az := az.evo0 F36
 replace a6 := Km a6 X4
 refine Ap o ?_
 refine Zh (i := 17) ?_
 refine Da rfl Aq (by exact ⟨rfl, Fj⟩) ?_
 obtain ⟨b4, dn, b8, bz, bq, cc⟩ := a6.rowOf
 subst bz
 refine Zr [.slice _ _ _, .slice (some ⟨b33, 0, none⟩) _ _] rfl η func16 (Dx bq az) ?_
 rintro e dR ⟨rfl, F38⟩
 refine ⟨_, rfl, ?_⟩
 have dj := F38.size
 replace C := Z0 C F38
 replace o := Z0 o F38
 refine Ap o ?_
 refine Zt (i := 18) η (fun w' hC => Bg rfl η (fun _ => η) rfl) o ?_
 refine Zt (i := 19) η (fun w' hC => A6) o ?_
 refine CH ζ ?_
 refine AK Dk ?_
 exact ⟨Ao (decide_eq_true ⟨⟨rfl, Fj⟩, rfl⟩), C⟩
set_option maxHeartbeats 8000000 in
theorem V5 {l0 l1 l2 l3 l4 l5 l6 l7 l8 l9 l10 eb ec sh lo : Int} {c4 : Option Addr} {bt ot b_ : Nat} {ts : List TermL} {cV : Option Addr} {bc oc b7 : Nat} {cl : List Clas} {c0 : Option Addr} {bf ed b8 : Nat} {f : List Vc.Item} {c3 : Option Addr} {bg og b9 : Nat} {gg : List Vc.Item} {cQ : Option Addr} {ba du b5 : Nat} {a : List Int} {cR : Option Addr} {bb dv b6 : Nat} {b : List Int} {w0 : World} (bw : RowR w0 c4 bt ot b_ ts) (bs : RowR w0 cV bc oc b7 cl) (hf : RowE w0 c0 bf ed b8 f) (a6 : RowE w0 c3 bg og b9 gg) (dX : ∀ k, (f.getD k default).text.length ≤ 140737488355328) (dV : ∀ x ∈ f, JM x) (dY : ∀ k, (gg.getD k default).text.length ≤ 140737488355328) (dW : ∀ x ∈ gg, JM x) (de : ∀ x ∈ ts, IH x) (ha : RowE w0 cQ ba du b5 a) (hb : RowE w0 cR bb dv b6 b) (a8 : Tab w0) :
    Calls Tryz.prog 5 #[.agg #[.int .i64 l0, .int .i64 l1, .int .i64 l2, .int .i64 l3, .int .i64 l4, .int .i64 l5, .int .i64 l6, .int .i64 l7, .int .i64 l8, .int .i64 l9, .int .i64 l10, .int .i64 eb, .int .i64 ec, .int .i64 sh, .int .i64 lo, .slice c4 ts.length b_, .slice cV cl.length b7], .slice c0 f.length b8, .slice c3 gg.length b9, .slice cQ a.length b5, .slice cR b.length b6] w0 fun e w' => e = .returned (.bool true) ∧ Evo w0 w' [] := by
 refine AG (n := 81) func5 rfl ntmps5 rfl ?_
 have C : Evo w0 w0 [] := Evo.refl _ _
 have cc := bw.keep
 have dd := bw.bd
 have cb := bs.keep
 have db := bs.bd
 have bx := Ak hf
 have dT := hf.bd
 have a7 := Ak a6
 have dc := a6.bd
 have c9 := Ak ha
 have bL := ha.bd
 have c_ := Ak hb
 have bM := hb.bd
 refine Zs (Ch (vs := [_, _, _, _, _, _, _, _, _, _, _, _, _, _, _, _, _]) η η rfl ?_)
 intro b1 w2 J1 E2 B1 Y1
 have Q2 := E2.size
 replace C := Z0 C E2
 refine Zn A6 (AB (Zs (Zo Ar (Zo Ar (Av (pv := [(0, .slice _ _ _), (1, .slice _ _ _)]) (zs := [_]) (cs := [_, _]) underlying65 al η rfl η rfl η ?_)))))
 intro b3 w4 J3 E4 B3 Y3
 have Q4 := E4.size
 replace C := Z0 C E4
 replace B1 := B1.evo0 E4
 have a1 : RowR w4 (some ⟨b3, 0, none⟩) b3 0 2 ([a, b] : List (List Int)) := U9 [[_], [_]] ([a, b] : List (List Int)) B3 rfl ((RepL.one (Lj (c9 _ C))).append (RepL.one (Lj (c_ _ C)))) rfl
 refine Zr [.slice (some ⟨b3, 0, none⟩) _ _] rfl η func17 (TC a1 (by have h1 := bL; have h2 := bM; simp; omega)) ?_
 rintro e w5 ⟨rfl, F5⟩
 refine ⟨_, rfl, ?_⟩
 have Q5 := F5.size
 replace C := Z0 C F5
 replace B1 := B1.evo0 F5
 replace a1 := a1.evo0 F5
 refine Zo (Bt rfl η) ?_
 refine Ab rfl Ay rfl (fun hg => Ar) ?_
 refine SS rfl Ay rfl (fun hg => Am rfl (An (v := .slice _ _ _) (Af hg) (rfl)) func20 rfl ζ) (fun hg => (No (bx _ C) dX)) ?_
 intro gx8 w6 hgx8 F7
 have Q6 := F7.size
 replace C := Z0 C F7
 replace B1 := B1.evo0 F7
 replace a1 := a1.evo0 F7
 refine Ab rfl Ay rfl (fun hg => CQ rfl (Af hg)) ?_
 refine Zo Ee (Zo Br ?_)
 refine Ab rfl Ay rfl (fun hg => Ar) ?_
 refine SS rfl Ay rfl (fun hg => Am rfl (An (v := .slice _ _ _) (Af hg) (rfl)) func20 rfl ζ) (fun hg => (No (a7 _ C) dY)) ?_
 intro gx11 w9 hgx11 F10
 have Q9 := F10.size
 replace C := Z0 C F10
 replace B1 := B1.evo0 F10
 replace a1 := a1.evo0 F10
 refine Ab rfl Ay rfl (fun hg => CQ rfl (Af hg)) ?_
 refine Zo Ee (Zo Br ?_)
 refine Ab rfl Ay rfl (fun hg => AJ rfl η Fa) ?_
 refine Ab rfl Ay rfl (fun hg => AH rfl K1 (Af hg) (B1.at.cell 15 η)) ?_
 refine Ab rfl Ay rfl (fun hg => AL rfl (Af hg) underlying25) ?_
 refine Ab rfl Ay rfl (fun hg => AJ rfl η GB) ?_
 refine Ab rfl Ay rfl (fun hg => AH rfl MG (Af hg) (B1.at.cell 16 η)) ?_
 refine Ab rfl Ay rfl (fun hg => AL rfl (Af hg) underlying26) ?_
 refine Ab rfl Ay rfl (fun hg => Cp rfl (Af hg) (Af hg) ω ω) ?_
 refine Ab rfl Ay rfl (fun hg => Bf rfl (Af hg) η) ?_
 refine Zn Ee (AE η (fun ca => ?_) (fun ca => ?_))
 refine Zs (Zr [] rfl η func15 (KR (a8.evo0 C)) ?_)
 rintro e ft ⟨rfl, F13⟩
 refine ⟨_, rfl, ?_⟩
 have eM := F13.size
 replace C := Z0 C F13
 refine Zn A6 (AK Dk ?_)
 exact ⟨rfl, C⟩
 refine AF (AB ?_)
 have dZ := ca; have b2 := hgx8 (by simp_all) (by simp_all); have b3 := hgx11 (by simp_all) (by simp_all); have hz : ts.length ≤ 40 := by have h9 := (not_or.1 dZ).2; omega
 have bY : Tiny f := ⟨by omega, by omega⟩; have b0 : Tiny gg := ⟨by omega, by omega⟩; have bQ : ∀ x ∈ Ac f, JM x := fun x hx => dV x (List.mem_filter.1 hx).1; have bW : ∀ x ∈ Ac gg, JM x := fun x hx => dW x (List.mem_filter.1 hx).1
 refine AA (Zo Ar (Zr [.slice _ _ _] rfl η func19 L3 ?_))
 rintro e fu ⟨ek, rfl, hbs14, F14, hbn14, hbA14⟩
 refine ⟨_, rfl, ?_⟩
 have eN := F14.size
 replace C := Z0 C F14
 replace B1 := B1.evo0 F14
 refine Zr [.pointer _, .bool _] rfl η func18 (Rc (N := 0) (rf := true) (show Blk _ _ _ [_, .int .i64 ((0 : Nat) : Int)] from hbn14) (fun w9 h9 => c9 _ (FH C h9 (.inl ω))) ω) ?_
 rintro e dw ⟨ea, l1_15, l2_15, l3_15, l4_15, l5_15, l6_15, l7_15, l8_15, l9_15, l10_15, l11_15, l12_15, sh15, lo15, aot15, bt15, ot15, capt15, ts15, aoc15, bc15, oc15, capc15, cl15, rfl, F15, hTs150, hCl150, hMC15⟩
 refine ⟨_, rfl, ?_⟩
 have eO := F15.size
 replace C := Z1 C F15 ε
 replace B1 := B1.evo F15 θ
 have o : Evo dw dw [] := Evo.refl _ _
 have R := hTs150.now o; have cn := R.bd
 have J := hCl150.now o; have cg := J.bd
 have dQ := hMC15.len
 refine CO (zs := [_, _, _, _, _, _, _, _, _, _, _, _, _, _, _, _, _]) (vs := [_, _, _, _, _, _, _, _, _, _, _, _, _, _, _, _, _]) Db η rfl η (fun _ => rfl) η rfl rfl η ?_
 intro b16 w17 J16 E17 B16 Y16
 have eP := E17.size
 replace C := Z0 C E17
 replace o := Z0 o E17
 replace hb := c_ _ C
 replace B1 := B1.evo0 E17
 refine As (Zs (Zo Ar (Zr [.slice _ _ _] rfl η func21 (RM hb) ?_)))
 rintro e b4 ⟨dU, bA18, ofA18, cpA18, aoB18, bB18, ofB18, cpB18, pf18, pg18, rfl, F18, ao, az, hgP18, hPR18⟩
 refine ⟨_, rfl, ?_⟩
 have eQ := F18.size
 replace C := Z0 C F18
 replace o := Z0 o F18
 replace B1 := B1.evo0 F18
 replace B16 := B16.evo0 F18
 have I : Evo b4 b4 [] := Evo.refl _ _
 have bp := fun w9 (h9 : Evo b4 w9 []) => Cg ao h9 (fun cH hm => by have h2 := hgP18.1 cH; simp at hm <;> omega)
 have cr := ao.bd
 have bq := fun w9 (h9 : Evo b4 w9 []) => Cg az h9 (fun cH hm => by have h2 := hgP18.2 cH; simp at hm <;> omega)
 have ct := az.bd
 refine Zo S4 (Zo (AX (v := .slice _ _ _) rfl η η) (Zo (AX (v := .slice _ _ _) rfl η η) (Zo Bs (Zn Bs (AB ?_)))))
 have dS := B1
 have bn := B1.at
 have da := B16
 have ag := B16.at
 have ew := C
 have dO := o
 have dz := I
 refine CJ ([]) ζ ?_
 intro w19 F20 j
 have eR := F20.size
 replace C := Z0 C F20
 replace o := Z0 o F20
 replace I := Z0 I F20
 replace bw := cc.now C
 replace bs := cb.now C
 replace hf := bx _ C
 replace a6 := a7 _ C
 refine Zt (i := 0) η (fun w' U => AY rfl FE Db η rfl (bn.evo0 U)) j (Zt (i := 1) η (fun w' U => Ar) j (Zt (i := 2) η (fun w' U => Ar) j (Zt (i := 4) η (fun w' U => AY rfl FE Db η rfl (bn.evo0 U)) j (Zt (i := 5) η (fun w' U => Ar) j (Zt (i := 6) η (fun w' U => Ar) j ?_)))))
 refine Zh (i := 3) ?_
 refine Zr [.agg _, .slice _ _ _, .slice _ _ _] rfl η func14 (FP bw bs hf a6 bY b0 bQ bW hz de (a8.evo0 C)) ?_
 rintro e fv ⟨eG, rfl, F21, a_⟩
 refine ⟨_, rfl, ?_⟩
 have eS := F21.size
 replace C := Z0 C F21
 replace o := Z0 o F21
 replace I := Z0 I F21
 replace j := Z0 j F21
 replace bw := cc.now C
 replace bs := cb.now C
 replace hf := bx _ C
 replace a6 := a7 _ C
 refine Ap j ?_
 refine Zh (i := 7) ?_
 refine Zr [.agg _, .slice _ _ _, .slice _ _ _] rfl η func22 (Jg bw bs hf a6 bY b0 bQ bW hz de) ?_
 rintro e fw ⟨eH, rfl, F22, hoo22⟩
 refine ⟨_, rfl, ?_⟩
 have eT := F22.size
 replace C := Z0 C F22
 replace o := Z0 o F22
 replace I := Z0 I F22
 replace j := Z0 j F22
 replace a_ := a_.evo0 F22
 refine Ap j ?_
 refine Zh (i := 8) ?_
 obtain ⟨ee, g23, en, dn, df, ez⟩ := a_.rowOf
 subst dn
 obtain ⟨ef, g24, eo, dp, dh, eA⟩ := hoo22.rowOf
 subst dp
 refine Zr [.slice _ _ _, .slice _ _ _] rfl η func16 (Dx df dh) ?_
 rintro e fx ⟨rfl, F25⟩
 refine ⟨_, rfl, ?_⟩
 have eV := F25.size
 replace C := Z0 C F25
 replace o := Z0 o F25
 replace I := Z0 I F25
 replace j := Z0 j F25
 replace hf := bx _ C
 replace a6 := a7 _ C
 replace R := hTs150.now o
 replace J := hCl150.now o
 refine Ap j ?_
 refine Zt (i := 9) η (fun w' U => Bt rfl η) j ?_
 refine DB (i := 10) η η rfl Aq (by exact (decide_eq_true rfl)) rfl rfl ζ (fun w' U => AY rfl FE Db η rfl (ag.evo0 U)) j ?_
 refine DB (i := 11) η η rfl Aq (by exact (decide_eq_true rfl)) rfl rfl ζ (fun w' U => Ar) j ?_
 refine DB (i := 12) η η rfl Aq (by exact (decide_eq_true rfl)) rfl rfl ζ (fun w' U => Ar) j ?_
 refine DB (i := 14) η η rfl Aq (by exact (decide_eq_true rfl)) rfl rfl ζ (fun w' U => AY rfl FE Db η rfl (ag.evo0 U)) j ?_
 refine DB (i := 15) η η rfl Aq (by exact (decide_eq_true rfl)) rfl rfl ζ (fun w' U => Ar) j ?_
 refine DB (i := 16) η η rfl Aq (by exact (decide_eq_true rfl)) rfl rfl ζ (fun w' U => Ar) j ?_
 refine Zh (i := 13) ?_
 refine Da rfl Aq (by exact (decide_eq_true rfl)) ?_
 refine Zr [.agg _, .slice _ _ _, .slice _ _ _] rfl η func14 (FP R J hf a6 bY b0 bQ bW hMC15.tl40 hMC15.jud (a8.evo0 C)) ?_
 rintro e fy ⟨eI, rfl, F26, bl⟩
 refine ⟨_, rfl, ?_⟩
 have eW := F26.size
 replace C := Z0 C F26
 replace o := Z0 o F26
 replace I := Z0 I F26
 replace j := Z0 j F26
 replace hf := bx _ C
 replace a6 := a7 _ C
 replace R := hTs150.now o
 replace J := hCl150.now o
 refine Ap j ?_
 refine Zh (i := 17) ?_
 refine Da rfl Aq (by exact (decide_eq_true rfl)) ?_
 refine Zr [.agg _, .slice _ _ _, .slice _ _ _] rfl η func22 (Jg R J hf a6 bY b0 bQ bW hMC15.tl40 hMC15.jud) ?_
 rintro e fz ⟨eJ, rfl, F27, hoo27⟩
 refine ⟨_, rfl, ?_⟩
 have eX := F27.size
 replace C := Z0 C F27
 replace o := Z0 o F27
 replace I := Z0 I F27
 replace j := Z0 j F27
 replace bl := bl.evo0 F27
 refine Ap j ?_
 refine Zh (i := 18) ?_
 refine Da rfl Aq (by exact (decide_eq_true rfl)) ?_
 obtain ⟨eg, e9, ep, dq, di, eB⟩ := bl.rowOf
 subst dq
 obtain ⟨eh, e_, er, dr, dj, eC⟩ := hoo27.rowOf
 subst dr
 refine Zr [.slice _ _ _, .slice _ _ _] rfl η func16 (Dx di dj) ?_
 rintro e fA ⟨rfl, F30⟩
 refine ⟨_, rfl, ?_⟩
 have eY := F30.size
 replace C := Z0 C F30
 replace o := Z0 o F30
 replace I := Z0 I F30
 replace j := Z0 j F30
 replace R := hTs150.now o
 replace J := hCl150.now o
 replace ao := bp _ I
 replace az := bq _ I
 refine Ap j ?_
 refine Zt (i := 19) η (fun w' U => Bg rfl η (fun _ => η) rfl) j ?_
 refine Zt (i := 20) η (fun w' U => Br) j ?_
 refine DB (i := 21) η η rfl Aq (by exact ⟨(decide_eq_true rfl), (decide_eq_true rfl)⟩) rfl rfl ζ (fun w' U => AY rfl FE Db η rfl (ag.evo0 U)) j ?_
 refine DB (i := 22) η η rfl Aq (by exact ⟨(decide_eq_true rfl), (decide_eq_true rfl)⟩) rfl rfl ζ (fun w' U => Ar) j ?_
 refine DB (i := 23) η η rfl Aq (by exact ⟨(decide_eq_true rfl), (decide_eq_true rfl)⟩) rfl rfl ζ (fun w' U => Ar) j ?_
 refine DB (i := 25) η η rfl Aq (by exact ⟨(decide_eq_true rfl), (decide_eq_true rfl)⟩) rfl rfl ζ (fun w' U => AY rfl FE Db η rfl (ag.evo0 U)) j ?_
 refine DB (i := 26) η η rfl Aq (by exact ⟨(decide_eq_true rfl), (decide_eq_true rfl)⟩) rfl rfl ζ (fun w' U => Ar) j ?_
 refine DB (i := 27) η η rfl Aq (by exact ⟨(decide_eq_true rfl), (decide_eq_true rfl)⟩) rfl rfl ζ (fun w' U => Ar) j ?_
 refine Zh (i := 24) ?_
 refine Da rfl Aq (by exact ⟨(decide_eq_true rfl), (decide_eq_true rfl)⟩) ?_
 refine Zr [.agg _, .slice _ _ _, .slice _ _ _] rfl η func14 (FP R J ao az hPR18.tf hPR18.tg hPR18.nf hPR18.ng hMC15.tl40 hMC15.jud (a8.evo0 C)) ?_
 rintro e fB ⟨eK, rfl, F31, bm⟩
 refine ⟨_, rfl, ?_⟩
 have eZ := F31.size
 replace C := Z0 C F31
 replace o := Z0 o F31
 replace I := Z0 I F31
 replace j := Z0 j F31
 replace R := hTs150.now o
 replace J := hCl150.now o
 replace ao := bp _ I
 replace az := bq _ I
 refine Ap j ?_
 refine Zh (i := 28) ?_
 refine Da rfl Aq (by exact ⟨(decide_eq_true rfl), (decide_eq_true rfl)⟩) ?_
 refine Zr [.agg _, .slice _ _ _, .slice _ _ _] rfl η func22 (Jg R J ao az hPR18.tf hPR18.tg hPR18.nf hPR18.ng hMC15.tl40 hMC15.jud) ?_
 rintro e fC ⟨eL, rfl, F32, hoo32⟩
 refine ⟨_, rfl, ?_⟩
 have e0 := F32.size
 replace C := Z0 C F32
 replace j := Z0 j F32
 replace bm := bm.evo0 F32
 refine Ap j ?_
 refine Zh (i := 29) ?_
 refine Da rfl Aq (by exact ⟨(decide_eq_true rfl), (decide_eq_true rfl)⟩) ?_
 obtain ⟨ei, fa, et, ds, dk, eD⟩ := bm.rowOf
 subst ds
 obtain ⟨ej, fb, eu, dt, dm, eE⟩ := hoo32.rowOf
 subst dt
 refine Zr [.slice _ _ _, .slice _ _ _] rfl η func16 (Dx dk dm) ?_
 rintro e fD ⟨rfl, F35⟩
 refine ⟨_, rfl, ?_⟩
 have e1 := F35.size
 replace C := Z0 C F35
 replace j := Z0 j F35
 refine Ap j ?_
 refine Zt (i := 30) η (fun w' U => Bg rfl η (fun _ => η) rfl) j ?_
 refine Zt (i := 31) η (fun w' U => Br) j ?_
 refine Zh (i := 32) ?_
 refine Da rfl Aq (by exact ⟨⟨(decide_eq_true rfl), (decide_eq_true rfl)⟩, (decide_eq_true rfl)⟩) ?_
 refine Zr [] rfl η func15 (KR (a8.evo0 C)) ?_
 rintro e fE ⟨rfl, F36⟩
 refine ⟨_, rfl, ?_⟩
 have e2 := F36.size
 replace C := Z0 C F36
 replace j := Z0 j F36
 refine Ap j ?_
 refine Zt (i := 33) η (fun w' U => Bg rfl η (fun _ => η) rfl) j ?_
 refine Zt (i := 34) η (fun w' U => A6) j ?_
 refine CH ζ ?_
 refine AK Dk ?_
 exact ⟨Ao (decide_eq_true ⟨⟨⟨(decide_eq_true rfl), (decide_eq_true rfl)⟩, (decide_eq_true rfl)⟩, rfl⟩), C⟩
end Go.Proofs.YtlfjocbnbceceaaGreatDoor
namespace Go.Vc
open Go Go.RowKit Go.IntWalk Go.Deep
def QI (x : Item) : Prop := x.text.length ≤ reachBytes ∧ (-9223372036854775808 ≤ x.id ∧ x.id ≤ 9223372036854775807)
theorem Ol {P : Program} {e : TypeId} {f0 f1 f2 : Field} (J : P.underlying e = some (.struct #[f0, f1, f2])) (C : P.cellsOf e = 3) (o0 : f0.offset = 0) (c0 : P.cellsOf f0.type = 1) (o1 : f1.offset = 1) (c1 : P.cellsOf f1.type = 1) (U : f2.offset = 2) (c2 : P.cellsOf f2.type = 1)
    (u0 : P.underlying f0.type = some (.int .i64)) (u1 : P.underlying f1.type = some .string) (u2 : P.underlying f2.type = some (.int .i64)) {H : Type} {enc : TypeId × Value → H} {w : World} {base : Nat} {sp : Nat → Bool} {hd : Bool} {n : Nat} {cs : List Value} {d : DataW H} {pl : List MemPlace}
    (h : DataW.trod enc P w base sp hd n e cs = some (d, pl)) (hw : ∀ m ∈ d.weights P e, m ≤ reachBytes) : ∃ x : Item, cs = Enc.enc x ∧ QI x := by
  obtain ⟨x, R, hq⟩ := Vr J C o0 c0 o1 c1 U c2 u0 u1 u2 h hw
  refine ⟨x, R, hq, ?_⟩
  subst R
  obtain ⟨y0, y1, y2, m, _, _, _, _, I⟩ := Go.Deep.trod_struct3 J h
  rw [U, c2] at I
  obtain ⟨k, e2, _, j⟩ := DataW.trod_int u2 I
  have o : Value.int .i64 x.id = .int .i64 k := by
    have : [Value.int .i64 x.id] = [.int .i64 k] := e2
    simpa using this
  injection o with _ o
  rw [o]
  simp only [Lit.wf, Bool.and_eq_true, decide_eq_true_eq] at j
  have h1 : IntKind.min .i64 = -9223372036854775808 := by decide
  have C : IntKind.max .i64 = 9223372036854775807 := by decide
  rw [h1, C] at j
  exact j
section
variable {P : Program} {H : Type} {enc : TypeId × Value → H} {w : World} {base : Nat} {sp : Nat → Bool} {hd : Bool} {t e : TypeId}
theorem XH {n fuel : Nat} {cs : List Value} {x : DataW H × List MemPlace} (ht : P.underlying t = some (.array n e)) (he : P.underlying e = some (.int .i64)) (o : P.cellsOf e = 1) (C : P.cellsOf t = n)
    (h : DataW.trod enc P w base sp hd fuel t cs = some x) : ∃ l : List Int, l.length = n ∧ cs = l.map (Value.int .i64) := by
  obtain ⟨xs, m, _, _, I, ao, U⟩ := DataW.trod_array ht h
  rw [C] at I
  refine ⟨cs.map (fun v => match v with | .int _ z => z | _ => 0), by rw [List.length_map]; exact I, ?_⟩
  refine List.ext_getElem (by simp) (fun i h1 h2 => ?_)
  have j := U i ω
  rw [o, Nat.mul_one, List.drop_eq_getElem_cons h1] at j
  simp only [List.take_succ_cons, List.take_zero] at j
  rw [List.getElem?_eq_getElem (show i < xs.length by omega)] at j
  obtain ⟨z, J, _⟩ := DataW.trod_int he j
  have R : cs[i] = .int .i64 z := by simpa using J
  rw [List.getElem_map, List.getElem_map, R]
theorem MO {fuel : Nat} {v : Value} {x : DataW H × List MemPlace} (o : P.underlying t = some (.slice e)) (h : DataW.trod enc P w base sp hd fuel t [v] = some x) : ∃ j len cap, v = .slice j len cap := by
  rcases open_slice o h with ⟨h6, _⟩ | ⟨a, len, cap, _, _, _, _, h6, _⟩
  · simp only [List.cons.injEq, and_true] at h6; exact ⟨_, _, _, h6⟩
  · simp only [List.cons.injEq, and_true] at h6; exact ⟨_, _, _, h6⟩
theorem Rv {ta ti t3 t4 e3 e4 : TypeId} {f0 f1 f2 f3 f4 : Field} (ht : P.underlying t = some (.struct #[f0, f1, f2, f3, f4])) (bg : P.cellsOf t = 17)
    (o0 : f0.offset = 0) (y0 : f0.type = ta) (o1 : f1.offset = 13) (y1 : f1.type = ti) (o2 : f2.offset = 14) (y2 : f2.type = ti) (o3 : f3.offset = 15) (y3 : f3.type = t3) (o4 : f4.offset = 16) (y4 : f4.type = t4)
    (ua : P.underlying ta = some (.array 13 ti)) (ca : P.cellsOf ta = 13) (ui : P.underlying ti = some (.int .i64)) (ci : P.cellsOf ti = 1) (u3 : P.underlying t3 = some (.slice e3)) (c3 : P.cellsOf t3 = 1) (u4 : P.underlying t4 = some (.slice e4)) (c4 : P.cellsOf t4 = 1)
    {fuel : Nat} {cs : List Value} {d : DataW H} {pl : List MemPlace} (h : DataW.trod enc P w base sp hd fuel t cs = some (d, pl)) (hw : ∀ m ∈ d.weights P t, m ≤ reachBytes) :
    ∃ l : List Int, ∃ sh lo : Int, ∃ J C j R I o m d3 p3 d4 p4, l.length = 13 ∧ cs = l.map (Value.int .i64) ++ [.int .i64 sh, .int .i64 lo, .slice J C j, .slice R I o] ∧
      DataW.trod enc P w base sp hd m t3 [.slice J C j] = some (d3, p3) ∧ DataW.trod enc P w base sp hd m t4 [.slice R I o] = some (d4, p4) ∧ (∀ q ∈ d3.weights P t3, q ≤ reachBytes) ∧ (∀ q ∈ d4.weights P t4, q ≤ reachBytes) ∧ ∃ a b c, d = .agg [a, b, c, d3, d4] := by
  obtain ⟨xs, m, _, hx, hl, hlen, hf⟩ := DataW.trod_struct ht h
  rw [bg] at hl
  match xs, hlen with
  | [z0, z1, z2, (d3, p3), (d4, p4)], _ =>
    have h0 := hf 0 f0 rfl
    have h1 := hf 1 f1 rfl
    have h2 := hf 2 f2 rfl
    have U := hf 3 f3 rfl
    have h4 := hf 4 f4 rfl
    rw [o0, y0, ca] at h0
    rw [o1, y1, ci] at h1
    rw [o2, y2, ci] at h2
    rw [o3, y3, c3] at U
    rw [o4, y4, c4] at h4
    have h0 : DataW.trod enc P w base sp hd m ta (cs.take 13) = some z0 := by simpa using h0
    obtain ⟨l, bn, bm⟩ := XH ua ui ci ca h0
    have bf : cs = cs.take 13 ++ cs.drop 13 := (List.take_append_drop 13 cs).symm
    have bl : (cs.drop 13).length = 4 := by rw [List.length_drop]; omega
    obtain ⟨v1, v2, v3, v4, hv⟩ : ∃ v1 v2 v3 v4, cs.drop 13 = [v1, v2, v3, v4] := by
      match hq : cs.drop 13, bl with
      | [v1, v2, v3, v4], _ => exact ⟨_, _, _, _, rfl⟩
    have ba : cs.drop 14 = [v2, v3, v4] := by rw [show 14 = 13 + 1 by rfl, ← List.drop_drop, hv]; rfl
    have bb : cs.drop 15 = [v3, v4] := by rw [show 15 = 13 + 2 by rfl, ← List.drop_drop, hv]; rfl
    have bc : cs.drop 16 = [v4] := by rw [show 16 = 13 + 3 by rfl, ← List.drop_drop, hv]; rfl
    rw [hv] at h1
    rw [ba] at h2
    rw [bb] at U
    rw [bc] at h4
    have U : DataW.trod enc P w base sp hd m t3 [v3] = some (d3, p3) := by simpa using U
    have h4 : DataW.trod enc P w base sp hd m t4 [v4] = some (d4, p4) := by simpa using h4
    obtain ⟨sh, e1, _⟩ := DataW.trod_int ui (x := z1) (by simpa using h1)
    obtain ⟨lo, e2, _⟩ := DataW.trod_int ui (x := z2) (by simpa using h2)
    obtain ⟨J, C, j, rfl⟩ := MO u3 U
    obtain ⟨R, I, o, rfl⟩ := MO u4 h4
    simp only [List.cons.injEq, and_true] at e1 e2
    subst e1; subst e2
    have hd : d = .agg [z0.1, z1.1, z2.1, d3, d4] := congrArg Prod.fst hx
    refine ⟨l, sh, lo, J, C, j, R, I, o, m, d3, p3, d4, p4, bn, ?_, U, h4, fun q hq => hw q ?_, fun q hq => hw q ?_, z0.1, z1.1, z2.1, hd⟩
    · exact bf.trans (by rw [bm, hv])
    · rw [hd]; simp [DataW.weights, ht, DataW.weightsEach, y3, y4, hq]
    · rw [hd]; simp [DataW.weights, ht, DataW.weightsEach, y3, y4, hq]
end
end Go.Vc
namespace Go.Proofs.YtlfjocbnbceceaaGreatDoor
open Go Go.RowKit Go.Vc Go.IntWalk Go.Deep
theorem ZD {H : Type} (d : DataW H) : 1 ≤ Rows.uptoBulk d := by
  cases d with
  | lit l => cases l <;> simp [Rows.uptoBulk]
  | _ => simp [Rows.uptoBulk]
theorem T4 {H : Type} {l : List (DataW H)} (hk : Rows.uptoSmall H l = true) : Rows.uptoBulkAll l ≤ 1048576 := of_decide_eq_true hk
theorem GG {H : Type} {d : DataW H} {l : List (DataW H)} (h : d ∈ l) : Rows.uptoBulk d ≤ Rows.uptoBulkAll l := by
  induction l with
  | nil => cases h
  | cons x r ih =>
    simp only [Rows.uptoBulkAll]
    rcases List.mem_cons.1 h with e | e
    · subst e; omega
    · have := ih e; omega
theorem Yo {H : Type} (l : List (DataW H)) : l.length ≤ Rows.uptoBulkAll l := by
  induction l with
  | nil => exact Nat.le_refl _
  | cons x r ih => simp only [Rows.uptoBulkAll, List.length_cons]; have := ZD x; omega
theorem NB {H : Type} {D : Nat → DataW H} {j : List (DataW H)} {len i : Nat} (o : i < len) : Rows.uptoBulk (D i) ≤ Rows.uptoBulk (.slice ((List.range len).map D) j) := by
  have h1 := GG (d := D i) (l := (List.range len).map D) (List.mem_map.2 ⟨i, List.mem_range.2 o, rfl⟩)
  simp only [Rows.uptoBulk]; omega
theorem PZ {H : Type} {D : Nat → DataW H} {j : List (DataW H)} {len : Nat} : len ≤ Rows.uptoBulk (.slice ((List.range len).map D) j) := by
  have h1 := Yo ((List.range len).map D)
  simp only [List.length_map, List.length_range] at h1
  simp only [Rows.uptoBulk]; omega
section
variable {P : Program} {H : Type} {enc : TypeId × Value → H} {w : World} {base : Nat} {sp : Nat → Bool} {hd : Bool} {t e : TypeId}
theorem VE {α : Type} [Enc α] {Q : Nat → α → Prop} (mono : ∀ {B B' : Nat} {x : α}, B ≤ B' → Q B x → Q B' x) (hu : P.underlying t = some (.slice e)) (hc : P.cellsOf e = Enc.n α) (hb : 1 ≤ P.bytesOf e)
    (ag : ∀ (n : Nat) (cs : List Value) (d : DataW H) (pl : List MemPlace), DataW.trod enc P w base sp hd n e cs = some (d, pl) → ∃ x : α, cs = Enc.enc x ∧ Q (Rows.uptoBulk d) x)
    {fuel : Nat} {ao : Option Addr} {len cap : Nat} {d : DataW H} {pl : List MemPlace}
    (h : DataW.trod enc P w base sp hd fuel t [.slice ao len cap] = some (d, pl)) (hw : ∀ m ∈ d.weights P t, m ≤ reachBytes) : ∃ b off, ∃ l : List α, len = l.length ∧ RowE w ao b off cap l ∧ l.length ≤ Rows.uptoBulk d ∧ ∀ x ∈ l, Q (Rows.uptoBulk d) x := by
  rcases open_slice hu h with ⟨h1, _⟩ | ⟨a, len', cap', m, n, D, Pl, h1, _, hl, _, hm, J, hall⟩
  · simp only [List.cons.injEq, Value.slice.injEq, and_true] at h1
    obtain ⟨rfl, rfl, rfl⟩ := h1
    exact ⟨0, 0, [], rfl, RowE.nil _ _ _ _ _, Nat.zero_le _, fun x J => by cases J⟩
  · simp only [List.cons.injEq, Value.slice.injEq, and_true] at h1
    obtain ⟨rfl, rfl, rfl⟩ := h1
    have bc : len ≤ m := by rw [hm]; split <;> omega
    have I : d = _ := congrArg Prod.fst J
    have ha : 0 < len → a = ⟨a.block, a.off, none⟩ := fun h0 => by
      obtain ⟨cs, R, _⟩ := hall 0 ω
      rw [Nat.zero_mul, show a.add 0 = a by unfold Addr.add; rw [if_pos rfl], hc] at R
      exact (Cr R (Enc.pos (α := α))).1
    have hex : ∀ i, i < len → ∃ x : α, At w a.block (a.off + i * Enc.n α) (Enc.enc x) ∧ Q (Rows.uptoBulk (D i)) x := fun i o => by
      obtain ⟨cs, R, U⟩ := hall i ω
      obtain ⟨x, az, hq⟩ := ag n cs _ _ U
      rw [hc, ha ω, EZ] at R
      exact ⟨x, by rw [← az]; exact (Cr R (Enc.pos (α := α))).2, hq⟩
    have bb : len ≤ 140737488355328 := by
      have U := hw ((((List.range len).map D).length + ((List.range (m - len)).map fun j => D (len + j)).length) * P.bytesOf e) (by rw [I]; simp [DataW.weights, hu])
      simp only [List.length_map, List.length_range] at U
      have h4 : len * 1 ≤ (len + (m - len)) * P.bytesOf e := Nat.mul_le_mul ω hb
      have h5 := reachBytes_lt
      omega
    by_cases h0 : len = 0
    · subst h0; exact ⟨0, 0, [], rfl, ⟨by simp, by simp, by simp⟩, Nat.zero_le _, fun x J => by cases J⟩
    · obtain ⟨x0, _⟩ := hex 0 ω
      obtain ⟨f, hf⟩ : ∃ f : Nat → α, ∀ i, i < len → At w a.block (a.off + i * Enc.n α) (Enc.enc (f i)) ∧ Q (Rows.uptoBulk (D i)) (f i) := by
        classical
        exact ⟨fun i => if o : i < len then Classical.choose (hex i o) else x0, fun i o => by simp only [dif_pos o]; exact Classical.choose_spec (hex i o)⟩
      refine ⟨a.block, a.off, (List.range len).map f, by simp, ⟨by simp; omega, fun _ => congrArg some (ha ω), fun i cs o => ?_⟩, ?_, fun x J => ?_⟩
      · have C : i < len := by
          rcases Nat.lt_or_ge i len with h6 | h6
          · exact h6
          · rw [List.getElem?_eq_none (by simpa using h6)] at o; cases o
        simp [C] at o
        subst o
        exact ⟨Enc.len _, (hf i C).1⟩
      · rw [I, List.length_map, List.length_range]; exact PZ
      · obtain ⟨i, o, rfl⟩ := List.mem_map.1 J
        have C := List.mem_range.1 o
        rw [I]; exact mono (NB C) (hf i C).2
theorem bA {α : Type} [Rep α] {Q : Nat → α → Prop} (mono : ∀ {B B' : Nat} {x : α}, B ≤ B' → Q B x → Q B' x) (hu : P.underlying t = some (.slice e)) (hc : P.cellsOf e = Rep.n α) (hb : 1 ≤ P.bytesOf e)
    (aT : ∀ (n : Nat) (cs : List Value) (d : DataW H) (pl : List MemPlace), DataW.trod enc P w base sp hd n e cs = some (d, pl) → (∀ m ∈ d.weights P e, m ≤ reachBytes) → ∃ x : α, Rep.rep w cs x ∧ Q (Rows.uptoBulk d) x)
    {fuel : Nat} {ao : Option Addr} {len cap : Nat} {d : DataW H} {pl : List MemPlace}
    (h : DataW.trod enc P w base sp hd fuel t [.slice ao len cap] = some (d, pl)) (hw : ∀ m ∈ d.weights P t, m ≤ reachBytes) : ∃ b off, ∃ l : List α, len = l.length ∧ RowR w ao b off cap l ∧ l.length ≤ Rows.uptoBulk d ∧ ∀ x ∈ l, Q (Rows.uptoBulk d) x := by
  rcases open_slice hu h with ⟨h1, _⟩ | ⟨a, len', cap', m, n, D, Pl, h1, _, hl, _, hm, U, hall⟩
  · simp only [List.cons.injEq, Value.slice.injEq, and_true] at h1
    obtain ⟨rfl, rfl, rfl⟩ := h1
    exact ⟨0, 0, [], rfl, RowR.nil _ _ _ _ _, Nat.zero_le _, fun x U => by cases U⟩
  · simp only [List.cons.injEq, Value.slice.injEq, and_true] at h1
    obtain ⟨rfl, rfl, rfl⟩ := h1
    have bf : len ≤ m := by rw [hm]; split <;> omega
    have I : d = _ := congrArg Prod.fst U
    have ha : 0 < len → a = ⟨a.block, a.off, none⟩ := fun h0 => by
      obtain ⟨cs, J, _⟩ := hall 0 ω
      rw [Nat.zero_mul, show a.add 0 = a by unfold Addr.add; rw [if_pos rfl], hc] at J
      exact (Cr J (Rep.pos (α := α))).1
    have hex : ∀ i, i < len → ∃ y : List Value × α, At w a.block (a.off + i * Rep.n α) y.1 ∧ Rep.rep w y.1 y.2 ∧ Q (Rows.uptoBulk (D i)) y.2 := fun i C => by
      obtain ⟨cs, J, h3⟩ := hall i ω
      obtain ⟨x, a6, hq⟩ := aT n cs _ _ h3 (fun q hq => hw q (by
        rw [I]
        simp only [DataW.weights, hu, List.mem_cons, List.mem_append]
        exact .inr (.inl (H8 (List.mem_map.2 ⟨i, List.mem_range.2 C, rfl⟩) hq))))
      rw [hc, ha ω, EZ] at J
      exact ⟨(cs, x), (Cr J (Rep.pos (α := α))).2, a6, hq⟩
    have bd : len ≤ 140737488355328 := by
      have h3 := hw ((((List.range len).map D).length + ((List.range (m - len)).map fun j => D (len + j)).length) * P.bytesOf e) (by rw [I]; simp [DataW.weights, hu])
      simp only [List.length_map, List.length_range] at h3
      have h4 : len * 1 ≤ (len + (m - len)) * P.bytesOf e := Nat.mul_le_mul ω hb
      have h5 := reachBytes_lt
      omega
    by_cases h0 : len = 0
    · subst h0; exact ⟨0, 0, [], rfl, RowR.nil _ _ _ _ _, Nat.zero_le _, fun x U => by cases U⟩
    · obtain ⟨y0, _⟩ := hex 0 ω
      obtain ⟨f, hf⟩ : ∃ f : Nat → List Value × α, ∀ i, i < len → At w a.block (a.off + i * Rep.n α) (f i).1 ∧ Rep.rep w (f i).1 (f i).2 ∧ Q (Rows.uptoBulk (D i)) (f i).2 := by
        classical
        exact ⟨fun i => if C : i < len then Classical.choose (hex i C) else y0, fun i C => by simp only [dif_pos C]; exact Classical.choose_spec (hex i C)⟩
      have R : ∀ (i : Nat) {β : Type} (g : Nat → β) (z : β), ((List.range len).map g)[i]? = some z → i < len ∧ g i = z := by
        intro i β g z hz
        have o : i < len := by
          rcases Nat.lt_or_ge i len with h6 | h6
          · exact h6
          · rw [List.getElem?_eq_none (by simpa using h6)] at hz; cases hz
        simp [o] at hz
        exact ⟨o, hz⟩
      refine ⟨a.block, a.off, (List.range len).map (fun i => (f i).2), by simp, ⟨(List.range len).map (fun i => (f i).1), ⟨by simp; omega, fun _ => congrArg some (ha ω), fun i cs C => ?_⟩, by simp, fun i cs x h1 J => ?_⟩, ?_, fun x U => ?_⟩
      · obtain ⟨o, rfl⟩ := R i _ _ C
        exact ⟨Rep.len (hf i o).2.1, (hf i o).1⟩
      · obtain ⟨o, rfl⟩ := R i _ _ h1
        obtain ⟨_, rfl⟩ := R i _ _ J
        exact (hf i o).2.1
      · rw [I, List.length_map, List.length_range]; exact PZ
      · obtain ⟨i, C, rfl⟩ := List.mem_map.1 U
        have o := List.mem_range.1 C
        rw [I]; exact mono (NB o) (hf i o).2.2
end
def QT (B : Nat) (x : TermL) : Prop := (x.words.length ≤ B ∧ x.req.length ≤ B ∧ x.forb.length ≤ B) ∧ (∀ s ∈ x.req, s.length ≤ B) ∧ ∀ s ∈ x.forb, s.length ≤ B
theorem ZU {B o : Nat} {x : TermL} (h : B ≤ o) (q : QT B x) : QT o x :=
  ⟨⟨Nat.le_trans q.1.1 h, Nat.le_trans q.1.2.1 h, Nat.le_trans q.1.2.2 h⟩, fun s j => Nat.le_trans (q.2.1 s j) h, fun s j => Nat.le_trans (q.2.2 s j) h⟩
theorem bH {B : Nat} {x : TermL} (q : QT B x) (h : B ≤ 1048576) : IH x :=
  ⟨Nat.le_trans q.1.2.1 h, Nat.le_trans q.1.2.2 h, fun s j => Nat.le_trans (q.2.1 s j) ω, fun s j => Nat.le_trans (q.2.2 s j) ω⟩
theorem UJ {P : Program} {e se ss : TypeId} {f0 f1 f2 g0 g1 : Field} (ht : P.underlying e = some (.struct #[f0, f1, f2])) (h2 : P.cellsOf e = 3) (o0 : f0.offset = 0) (c0 : P.cellsOf f0.type = 1) (o1 : f1.offset = 1) (c1 : P.cellsOf f1.type = 1) (o2 : f2.offset = 2) (c2 : P.cellsOf f2.type = 1)
    (u0 : P.underlying f0.type = some (.slice se)) (u1 : P.underlying f1.type = some (.slice ss)) (u2 : P.underlying f2.type = some (.slice ss)) (j : P.cellsOf se = 2) (bw : P.bytesOf se = 32) (bx : P.cellsOf ss = 1) (ct : P.bytesOf ss = 16) (us : P.underlying ss = some .string)
    (bl : P.underlying se = some (.struct #[g0, g1])) (p2 : g0.offset = 0) (d2 : P.cellsOf g0.type = 1) (p3 : g1.offset = 1) (d3 : P.cellsOf g1.type = 1) (v2 : P.underlying g0.type = some .string) (v3 : P.underlying g1.type = some .string)
    {H : Type} {enc : TypeId × Value → H} {w : World} {base : Nat} {sp : Nat → Bool} {hd : Bool} {n : Nat} {cs : List Value} {d : DataW H} {pl : List MemPlace} (h : DataW.trod enc P w base sp hd n e cs = some (d, pl)) (hw : ∀ m ∈ d.weights P e, m ≤ reachBytes) :
    ∃ x : TermL, Rep.rep w cs x ∧ QT (Rows.uptoBulk d) x := by
  obtain ⟨I, y1, y2, m, hx, hl, h3, h4, h5⟩ := Go.Deep.trod_struct3 ht h
  rw [o0, c0] at h3
  rw [o1, c1] at h4
  rw [o2, c2] at h5
  rw [h2] at hl
  have o : d = .agg [I.1, y1.1, y2.1] := congrArg Prod.fst hx
  have az : ∀ q ∈ I.1.weights P f0.type, q ≤ reachBytes := fun q C => hw q (by rw [o]; simp [DataW.weights, ht, DataW.weightsEach, C])
  have bY : ∀ q ∈ y1.1.weights P f1.type, q ≤ reachBytes := fun q C => hw q (by rw [o]; simp [DataW.weights, ht, DataW.weightsEach, C])
  have b0 : ∀ q ∈ y2.1.weights P f2.type, q ≤ reachBytes := fun q C => hw q (by rw [o]; simp [DataW.weights, ht, DataW.weightsEach, C])
  have hB : Rows.uptoBulk I.1 ≤ Rows.uptoBulk d ∧ Rows.uptoBulk y1.1 ≤ Rows.uptoBulk d ∧ Rows.uptoBulk y2.1 ≤ Rows.uptoBulk d := by
    rw [o]; simp only [Rows.uptoBulk, Rows.uptoBulkAll]; omega
  have strs : ∀ (f : Field) (u : Value) (y : DataW H × List MemPlace), P.underlying f.type = some (.slice ss) → DataW.trod enc P w base sp hd m f.type [u] = some y → (∀ q ∈ y.1.weights P f.type, q ≤ reachBytes) →
      ∃ ao b off cap, ∃ l : List AQ, u = .slice ao l.length cap ∧ RowE w ao b off cap l ∧ l.length ≤ Rows.uptoBulk y.1 ∧ ∀ s ∈ l, s.length ≤ Rows.uptoBulk y.1 := fun f u y uf hy b3 => by
    rcases open_slice uf hy with ⟨h6, _⟩ | ⟨a, len, cap, _, _, _, _, h6, _⟩
    · simp only [List.cons.injEq, and_true] at h6
      subst h6
      exact ⟨none, 0, 0, 0, [], rfl, RowE.nil _ _ _ _ _, Nat.zero_le _, fun s hs => absurd hs List.not_mem_nil⟩
    · simp only [List.cons.injEq, and_true] at h6
      subst h6
      obtain ⟨b, off, l, rfl, hr, C⟩ := VE (α := AQ) (Q := fun B s => s.length ≤ B) (fun h h9 => Nat.le_trans h9 h) uf bx ω (fun n cs d pl h => by
        obtain ⟨s, e1, e2, _⟩ := DataW.trod_string us h
        have b4 : d = .lit (.string s.data.toList) := congrArg Prod.fst e2
        exact ⟨s.data.toList, by rw [e1]; cases s; rfl, by rw [b4]; simp only [Rows.uptoBulk]; omega⟩) (d := y.1) (pl := y.2) hy b3
      exact ⟨_, b, off, cap, l, rfl, hr, C⟩
  match cs, hl with
  | [u, v, z], _ =>
    simp only [List.drop_succ_cons, List.drop_zero, List.take_succ_cons, List.take_zero] at h3 h4 h5
    obtain ⟨cn, b1, U, J, l1, rfl, bd, bb, bM⟩ := strs f1 v y1 u1 h4 bY
    obtain ⟨cr, b2, ag, R, l2, rfl, bf, bc, bQ⟩ := strs f2 z y2 u2 h5 b0
    have a8 : ∀ s ∈ l1, s.length ≤ Rows.uptoBulk d := fun s hs => Nat.le_trans (bM s hs) hB.2.1
    have a_ : ∀ s ∈ l2, s.length ≤ Rows.uptoBulk d := fun s hs => Nat.le_trans (bQ s hs) hB.2.2
    rcases open_slice u0 h3 with ⟨h6, _⟩ | ⟨a, len, cap, _, _, _, _, h6, _⟩
    · simp only [List.cons.injEq, and_true] at h6
      subst h6
      exact ⟨⟨[], l1, l2⟩, ⟨⟨none, 0, 0, 0, _, b1, U, J, _, b2, ag, R, rfl, RowE.nil _ _ _ _ _, bd, bf⟩, Nat.zero_le _, fun y hy => absurd hy List.not_mem_nil⟩, ⟨Nat.zero_le _, Nat.le_trans bb hB.2.1, Nat.le_trans bc hB.2.2⟩, a8, a_⟩
    · simp only [List.cons.injEq, and_true] at h6
      subst h6
      have h8 : reachBytes = 140737488351232 := rfl
      have bL := S7 u0 (d := I.1) (pl := I.2) (by simpa using h3) az
      rw [bw] at bL
      obtain ⟨b, off, l, rfl, hr, C⟩ := RX (α := Ende) u0 j ω (fun n cs d pl h hw => Pm bl j p2 d2 p3 d3 v2 v3 h hw) (d := I.1) (pl := I.2) (by simpa using h3) az
      obtain ⟨_, _, l', cQ, _, cR, _⟩ := VE (enc := enc) (w := w) (base := base) (sp := sp) (hd := hd) (α := Ende) (Q := fun _ _ => True) (fun _ _ => trivial) u0 j ω (fun n cs d pl h => by
        obtain ⟨a9, b9, m9, _, ba, a6, a7⟩ := ChangeShapes.trod_struct2 bl h
        rw [p2, d2] at a6
        rw [p3, d3] at a7
        rw [j] at ba
        match cs, ba with
        | [va, vb], _ =>
          obtain ⟨s1, e1, _, _⟩ := DataW.trod_string v2 (by simpa using a6)
          obtain ⟨s2, e2, _, _⟩ := DataW.trod_string v3 (by simpa using a7)
          simp only [List.cons.injEq, and_true] at e1 e2
          subst e1; subst e2
          exact ⟨⟨s1.data.toList, s2.data.toList⟩, by cases s1; cases s2; rfl, trivial⟩) (d := I.1) (pl := I.2) (by simpa using h3) az
      exact ⟨⟨l, l1, l2⟩, ⟨⟨_, b, off, cap, _, b1, U, J, _, b2, ag, R, rfl, hr, bd, bf⟩, by show l.length ≤ _; omega, C⟩, ⟨by show l.length ≤ _; omega, Nat.le_trans bb hB.2.1, Nat.le_trans bc hB.2.2⟩, a8, a_⟩
end Go.Proofs.YtlfjocbnbceceaaGreatDoor
