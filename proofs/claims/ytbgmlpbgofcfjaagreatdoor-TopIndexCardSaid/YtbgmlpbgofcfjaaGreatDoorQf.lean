/-
  Library, plain laws and walks that the statements reach (joined by a program out of smaller texts).
-/
import Derived.Test.YtbgmlpbgofcfjaaGreatDoorQe
import Derived.Test.YtbgmlpbgofcfjaaGreatDoorQb
import Derived.Test.YtbgmlpbgofcfjaaGreatDoorQc
import Derived.Shelf.LaysM
import Derived.Shelf.Strconv.Itoa3
import Derived.Ground.Names2Prog
import Derived.Test.YtbgmlpbgofcfjaaGreatDoorProg
import Derived.Lib.LaidTab
import Derived.Lib.ItoaNum
import Derived.Sort.OwnSorted
import Derived.Lib.SliceRun
set_option linter.unusedVariables false
set_option linter.unusedSimpArgs false
namespace Go.Proofs.YtbgmlpbgofcfjaaGreatDoor
open Go.RowKit Go.Vc Go.Proofs.Tryz
theorem Ek : CQ Tryz.prog 35 = some true := ζ
theorem SB : CQ Tryz.prog 43 = some true := ζ
theorem Dv : A8 Tryz.prog 35 0 = some 0 := ζ
theorem J0 : A8 Tryz.prog 35 2 = some 2 := ζ
theorem Jo : A8 Tryz.prog 35 3 = some 3 := ζ
theorem eX : Cn Tryz.prog 35 = some [(0, 1), (1, 1), (2, 1), (3, 1), (4, 1), (5, 1), (6, 1), (7, 1)] := ζ
theorem fa : Cn Tryz.prog 43 = some [(0, 1), (1, 1), (2, 1), (3, 1), (4, 1), (5, 1)] := ζ
theorem Cv : Cy Tryz.prog 35 = some (8, 128, some (.agg #[(.slice none 0 0), (.slice none 0 0), (.string ⟨#[]⟩), (.string ⟨#[]⟩), (.string ⟨#[]⟩), (.string ⟨#[]⟩), (.int .i64 0), (.int .i64 0)])) := ζ
theorem KA : Cy Tryz.prog 43 = some (6, 80, some (.agg #[(.slice none 0 0), (.string ⟨#[]⟩), (.string ⟨#[]⟩), (.int .i64 0), (.int .i64 0), (.int .i64 0)])) := ζ
set_option maxHeartbeats 1000000 in
theorem Ql {T bs : Nat} {ao : Option Addr} {b off cap : Nat} {l : List Int} {N : Nat} {bR : Option Addr} {ct ca bz : Nat} {src : List Vc.Item} {w0 : World} (I : Blk w0 bs T [.slice ao l.length cap, .int .i64 (N : Nat)]) (hl : ∀ w', Evo w0 w' [bs] → RowE w' ao b off cap l) (hN : N ≤ 100000) (bl : ∀ w', Evo w0 w' [bs] → RowE w' bR ct ca bz src) (f_ : src.length ≤ 100) (en : Ay src ≤ 10000) :
    Calls Tryz.prog 32 #[.pointer (some ⟨bs, 0, none⟩), .slice bR src.length bz] w0 fun e w' => ∃ v, ∃ f : List Vc.Item, ∃ N', e = .returned v ∧ (Dq f = Dq src ∧ f.length ≤ 2 * src.length ∧ Ay f ≤ Ay src + 26 * src.length) ∧ (N ≤ N' ∧ N' ≤ N + 10 * src.length) ∧ Evo w0 w' [bs] ∧ Blk w' bs T [.slice ao l.length cap, .int .i64 (N' : Nat)] ∧ OwnE w' w0.heap.size 71 v f := by
 have R := I.at; have c3 := I.lt
 refine AG (n := 46) func32 rfl ntmps32 rfl ?_
 have J : Evo w0 w0 [bs] := Evo.refl _ _
 have ba := hl
 replace hl := ba _ J
 have cq := hl.bd
 have bm := bl
 replace bl := bm _ J
 have b3 := bl.bd
 refine Zs (Zn Ew (Zs (Zn Ew (AE (Zs (Zo Bi (Zo (AQ rfl η underlying33) (Zn AU (AK ?_)))))))))
 refine Aq (α := Nat) [5, 6, 7, 10, 11, 12, 13, 14, 15, 16, 17, 18, 19, 20, 21, 22, 23, 24, 25, 26, 27, 28, 29, 30, 31, 32, 33, 34, 35, 36, 37, 38, 39, 40, 41, 42, 43, 44] (fun k g w => ∃ vf : Value, ∃ f : List Vc.Item, ∃ N1 : Nat, g 10 = .int .i64 (k : Nat) ∧ g 5 = vf ∧ k ≤ src.length ∧ OwnE w w0.heap.size 71 vf f ∧ Blk w bs T [.slice ao l.length cap, .int .i64 (N1 : Nat)] ∧ Dq f = Dq (src.take k) ∧ (f.length ≤ 2 * k ∧ Ay f ≤ Ay (src.take k) + 26 * k ∧ N ≤ N1 ∧ N1 ≤ N + 10 * k) ∧ w0.heap.size ≤ w.heap.size ∧ Evo w0 w [bs]) (fun k => src.length - k) 0 ?_ ?_
 refine ⟨_, [], _, σ, rfl, δ, (OwnE.nil _ _ _), I, rfl, (by simp [Ay]), δ, J⟩
 rintro k g w2 ⟨vf, f, N1, hj3, hj4, hk_k, o, I, hsk, hsz, hzl1, J⟩
 have b6 := J.size
 have ej := I.lt
 replace bl := bm _ J
 have R := I.at
 refine Zk 10 hj3 (Zk 5 hj4 (Zs (Zn Dn (AE (AH η (fun c9 => ?_) (fun c9 => ?_))))))
 refine AJ (AE (AK (Zs (Zo AU (Zn Am (AE ?_))))))
 have af := fun g U => (o.block (g := g) U).2
 refine AB (Zo Bi (Zo AU (Zo (Ab (k) rfl underlying33 AY η η χ ω (bl.addr (i := k) ω)) ?_)))
 have b2 := fun (w' : World) (h : Evo w0 w' [bs]) => (bm w' h).atD (k) ω
 have cv := b2 _ J
 refine Zo (AL rfl CP AY η rfl cv) ?_
 have ek := fun g U => (o.block (g := g) U).2
 refine Bq (zs := [_, _, _]) (vs := [_, _, _]) AY η rfl η (fun _ => rfl) η rfl rfl η ?_
 intro b9 w10 J9 E10 B9 Y9
 have eU := E10.size
 replace J := Z0 J E10
 replace hl := ba _ J
 replace o := o.evo0 E10
 replace I := I.evo0 E10
 replace R := R.evo0 E10
 refine Ag (AE (AE ?_))
 have gb := El src k; have gd := Ck src k ω; have gf := DX src (k + 1)
 refine AB (Zo (AD rfl η CG) (Zo (AA rfl Ae η (B9.at.cell 0 η)) (Zn DA (EC [5, 20, 21, 22, 23, 24, 25, 26, 27, 28, 29, 30, 31, 32, 33, 34, 35, 36, 37, 38, 39] (fun g w => ∃ bt : Value, ∃ f2 : List Vc.Item, ∃ tx : Ac, ∃ N2 : Nat, g 5 = bt ∧ OwnE w w0.heap.size 71 bt f2 ∧ Blk w b9 71 [.int .i64 (src.getD k default).kind, S tx, .int .i64 (src.getD k default).id] ∧ Blk w bs T [.slice ao l.length cap, .int .i64 (N2 : Nat)] ∧ Dq f2 = Dq f ∧ (¬ (src.getD k default).kind = 1 → tx = (src.getD k default).text) ∧ (f2.length ≤ f.length + 1 ∧ Ay f2 + tx.length ≤ Ay f + (src.getD k default).text.length + 18 ∧ N1 ≤ N2 ∧ N2 ≤ N1 + 10) ∧ w10.heap.size ≤ w.heap.size ∧ Evo w0 w [bs]) ?_ ?_))))
 refine AH η (fun b4 => ?_) (fun b4 => ?_)
 refine EC [20, 21, 22, 23, 24, 25, 26, 27, 28, 29, 30] (fun g w => ∃ tx : Ac, OwnE w w0.heap.size 71 vf f ∧ Blk w b9 71 [.int .i64 (src.getD k default).kind, S tx, .int .i64 (src.getD k default).id] ∧ Blk w bs T [.slice ao l.length cap, .int .i64 ((N1 + 1) : Nat)] ∧ tx.length ≤ (src.getD k default).text.length + 8 ∧ w10.heap.size ≤ w.heap.size ∧ Evo w0 w [bs]) ?_ ?_
 have ea := I
 have c0 := R
 have cp := B9
 have a1 := B9.at
 have d_ := J
 refine Aw ([bs]) ζ ?_
 intro w14 F15 C
 have e0 := F15.size
 replace J := Z0 J F15
 replace hl := ba _ J
 replace o := o.evo0 F15
 replace I := I.evo0 F15
 replace R := R.evo0 F15
 replace B9 := B9.evo0 F15
 refine Zt (i := 0) η (fun w' hC => AD rfl η Bp) C (Zt (i := 1) η (fun w' hC => AA rfl BX η ((a1.evo hC θ).cell 1 η)) C (Zt (i := 2) η (fun w' hC => Bg rfl η η (by simp only [List.length_cons, List.length_nil]; omega)) C (Zt (i := 3) η (fun w' hC => AD rfl η Bp) C (Zt (i := 4) η (fun w' hC => AA rfl BX η ((a1.evo hC θ).cell 1 η)) C (Zt (i := 6) η (fun w' hC => EA) C ?_)))))
 refine GM (i := 5) (j := 7) ζ ?_ ?_
 refine EO η ?_
 refine BT (pv := [(0, S _), (1, S _), (2, S _), (3, S _), (4, S _)]) (zs := [_]) (cs := [_, _, _, _, _]) underlying91 Es η rfl η rfl η ?_
 intro b17 w18 J17 E18 B17 Y17
 have e1 := E18.size
 replace J := Z0 J E18
 replace C := Z0 C E18
 replace hl := ba _ J
 replace o := o.evo0 E18
 replace I := I.evo0 E18
 replace R := R.evo0 E18
 replace B9 := B9.evo0 E18
 have al : RowE w18 (some ⟨b17, 0, none⟩) b17 0 5 (Yk (src.getD k default).text) := CH (Yk (src.getD k default).text) B17 rfl rfl
 refine AZ C ?_
 refine Zh (i := 7) ?_
 refine Zr [.pointer _, .int _ _] rfl η func31 (Cq I hl ω ω ω) ?_
 rintro e gg ⟨bn, rfl, hx19, F19, hn19⟩
 refine ⟨_, rfl, ?_⟩
 have e2 := F19.size
 replace J := Z1 J F19 (.inr (by simp))
 replace C := Z1 C F19 ε
 replace o := o.evo F19 (by intro g U hm; simp at hm; subst hm; have h7 := af g U; have h8 := o.block U; omega)
 replace B9 := B9.evo F19 θ
 replace al := al.evo F19 θ
 replace I := hn19
 clear hn19
 have R := I.at
 refine AZ C ?_
 refine Zt (i := 8) η (fun w' hC => Ab (bn.toNat) rfl underlying91 Es η η ω (by show _ < 5; omega) (al.addr (i := bn.toNat) (by show _ < 5; omega))) C ?_
 have b0 := al.atD (bn.toNat) (by show _ < 5; omega)
 refine Zh (i := 9) ?_
 refine Zo (AA rfl BX η (b0.cell 0 η)) ?_
 refine Ah ζ ?_
 refine Zh (i := 10) ?_
 refine Zo (AD rfl η Bp) ?_
 refine Ah ζ ?_
 refine Zh (i := 11) ?_
 refine Ai (v := S _) (vs := [_]) (cs' := [_, _, _]) η η B9 Es η rfl η rfl η ?_
 intro w21 E21 V21 hb_new
 have e3 := E21.size
 replace J := Z1 J E21 ε
 replace o := o.evo E21 (by intro g U hm; simp at hm; subst hm; have h7 := af g U; have h8 := o.block U; omega)
 replace I := I.evo E21 θ
 replace B9 := hb_new
 clear hb_new
 refine Ah ζ ?_
 refine A5 ζ ?_
 refine Ad ?_ ?_
 refine ⟨_, o, B9, I, (VV _ _), δ, J⟩
 exact ψ
 refine EO η ?_
 refine Zr [.pointer _, .int _ _] rfl η func31 (Cq I hl ω ω ω) ?_
 rintro e gh ⟨bo, rfl, hx22, F22, hn22⟩
 refine ⟨_, rfl, ?_⟩
 have e4 := F22.size
 replace J := Z1 J F22 (.inr (by simp))
 replace C := Z1 C F22 ε
 replace o := o.evo F22 (by intro g U hm; simp at hm; subst hm; have h7 := af g U; have h8 := o.block U; omega)
 replace B9 := B9.evo F22 θ
 replace I := hn22
 clear hn22
 have R := I.at
 refine AZ C ?_
 refine Zh (i := 5) ?_
 refine BT (pv := [(0, S _), (1, S _), (2, S _), (3, S _), (4, S _)]) (zs := [_]) (cs := [_, _, _, _, _]) underlying91 Es η rfl η rfl η ?_
 intro b23 w24 J23 E24 B23 Y23
 have e5 := E24.size
 replace J := Z0 J E24
 replace C := Z0 C E24
 replace o := o.evo0 E24
 replace B9 := B9.evo0 E24
 replace I := I.evo0 E24
 have bf : RowE w24 (some ⟨b23, 0, none⟩) b23 0 5 (Yk (src.getD k default).text) := CH (Yk (src.getD k default).text) B23 rfl rfl
 refine AZ C ?_
 refine Zt (i := 8) η (fun w' hC => Ab (bo.toNat) rfl underlying91 Es η η ω (by show _ < 5; omega) (bf.addr (i := bo.toNat) (by show _ < 5; omega))) C ?_
 have b1 := bf.atD (bo.toNat) (by show _ < 5; omega)
 refine Zh (i := 9) ?_
 refine Zo (AA rfl BX η (b1.cell 0 η)) ?_
 refine Ah ζ ?_
 refine Zh (i := 10) ?_
 refine Zo (AD rfl η Bp) ?_
 refine Ah ζ ?_
 refine Zh (i := 11) ?_
 refine Ai (v := S _) (vs := [_]) (cs' := [_, _, _]) η η B9 Es η rfl η rfl η ?_
 intro w26 E26 V26 hb_new
 have e6 := E26.size
 replace J := Z1 J E26 ε
 replace o := o.evo E26 (by intro g U hm; simp at hm; subst hm; have h7 := af g U; have h8 := o.block U; omega)
 replace I := I.evo E26 θ
 replace B9 := hb_new
 clear hb_new
 refine Ah ζ ?_
 refine A5 ζ ?_
 refine Ad ?_ ?_
 refine ⟨_, o, B9, I, (VV _ _), δ, J⟩
 exact ψ
 rintro g gi ⟨tx, o, B9, I, htl, hzl13, J⟩
 have bM := J.size
 have c_ := B9.lt
 have dc := I.lt
 have R := I.at
 refine Ad ?_ ?_
 refine ⟨_, _, _, _, rfl, (o.base_le ω), B9, I, (by first | rfl | exact Mo _ _), (by first | exact (fun h9 => absurd ω h9) | exact (fun _ => rfl)), (by first | omega | exact ⟨(ag _).1, Nat.le_trans (Nat.add_le_add_right (ag _).2 _) ω, by omega, by omega⟩), δ, J⟩
 exact ψ
 refine Zs (Zo EA (Zr [.pointer _, .int _ _] rfl η func31 (Cq I hl ω ω ω) ?_))
 rintro e gj ⟨eT, rfl, hx30, F30, hn30⟩
 refine ⟨_, rfl, ?_⟩
 have e8 := F30.size
 replace J := Z1 J F30 (.inr (by simp))
 replace o := o.evo F30 (by intro g U hm; simp at hm; subst hm; have h7 := af g U; have h8 := o.block U; omega)
 replace B9 := B9.evo F30 θ
 replace I := hn30
 clear hn30
 have R := I.at
 refine Zn DA (AH η (fun b5 => ?_) (fun b5 => ?_))
 have ag : ∀ t : Ac, (Bf (f ++ [⟨1, t, 0⟩])).length ≤ f.length + 1 ∧ Ay (Bf (f ++ [⟨1, t, 0⟩])) ≤ Ay f + t.length := fun t => by have h1 := D9 (f ++ [⟨1, t, 0⟩]); have h2 := D4 (f ++ [⟨1, t, 0⟩]); rw [List.length_append] at h1; rw [BR, CK] at h2; exact ⟨h1, h2⟩
 have b7 : ∀ t : Ac, t.length ≤ 18 → Small (f ++ [⟨1, t, 0⟩]) := fun t ht => ⟨by rw [List.length_append]; simp; omega, by rw [BR, CK]; simp; omega⟩
 refine AB (Zo (AN (v := vf) rfl η) (Zo EA (Zr [.pointer _, .int _ _] rfl η func81 (NN I (fun w9 h9 => ba _ (Evo.trans J h9 (fun x hx _ => hx))) ω ω ω ω) ?_)))
 rintro e gk ⟨bA, Nl32, rfl, htl32, hNl32, F32, hn32⟩
 refine ⟨_, rfl, ?_⟩
 have e9 := F32.size
 replace J := Z1 J F32 (.inr (by simp))
 replace o := o.evo F32 (by intro g U hm; simp at hm; subst hm; have h7 := af g U; have h8 := o.block U; omega)
 replace B9 := B9.evo F32 θ
 replace I := hn32
 clear hn32
 have R := I.at
 refine Zo (A2 (pv := [(0, .int _ _), (1, S _)]) (zs := [_, _, _]) (cells := [_, _, _]) rfl AY η Eu η η) (BT (pv := [(0, .agg _)]) (zs := [_, _, _]) (cs := [_, _, _]) underlying33 AY η rfl η rfl η ?_)
 intro b33 w34 J33 E34 B33 Y33
 have e_ := E34.size
 replace J := Z0 J E34
 replace o := o.evo0 E34
 replace B9 := B9.evo0 E34
 replace I := I.evo0 E34
 have aS : RowE w34 (some ⟨b33, 0, none⟩) b33 0 1 ([⟨1, bA, 0⟩] : List Vc.Item) := CH ([⟨1, bA, 0⟩] : List Vc.Item) B33 rfl rfl
 obtain ⟨dn, fr, ds, b8, bb, eb⟩ := o.rowOf
 subst b8
 refine Zr [.slice _ _ _, .slice (some ⟨b33, 0, none⟩) _ _] rfl η func83 (GW bb aS (b7 _ ω)) ?_
 rintro e gm ⟨cb, rfl, F36, hon36⟩
 refine ⟨_, rfl, ?_⟩
 have fg := F36.size
 replace J := Z0 J F36
 replace o := o.evo0 F36
 replace B9 := B9.evo0 F36
 replace I := I.evo0 F36
 replace aS := aS.evo0 F36
 replace bb := bb.evo0 F36
 refine Zn (AR (v := cb) rfl η) (Ad ?_ ?_)
 refine ⟨_, _, _, _, rfl, (hon36.base_le ω), B9, I, (by first | rfl | exact Mo _ _), (by first | exact (fun h9 => absurd ω h9) | exact (fun _ => rfl)), (by first | omega | exact ⟨(ag _).1, Nat.le_trans (Nat.add_le_add_right (ag _).2 _) ω, by omega, by omega⟩), δ, J⟩
 exact ψ
 refine AJ (Ad ?_ ?_)
 refine ⟨_, _, _, _, rfl, (o.base_le ω), B9, I, (by first | rfl | exact Mo _ _), (by first | exact (fun h9 => absurd ω h9) | exact (fun _ => rfl)), (by first | omega | exact ⟨(ag _).1, Nat.le_trans (Nat.add_le_add_right (ag _).2 _) ω, by omega, by omega⟩), δ, J⟩
 exact ψ
 rintro g gn ⟨bt, f2, tx, N2, hj38, o, B9, I, hsk2, htx, hsz2, hzl11, J⟩
 have bQ := J.size
 have dk := B9.lt
 have dm := I.lt
 have R := I.at
 refine Zk 5 hj38 ?_
 have bL : Small (f2 ++ [⟨(src.getD k default).kind, tx, (src.getD k default).id⟩]) := ⟨by rw [List.length_append]; simp; omega, by rw [BR, CK]; simp; omega⟩
 have af := fun g U => (o.block (g := g) U).2
 refine AB (Zo (AN (v := bt) rfl η) (Zo (AL rfl CP AY η rfl B9.at) (BT (pv := [(0, .agg _)]) (zs := [_, _, _]) (cs := [_, _, _]) underlying33 AY η rfl η rfl η ?_)))
 intro b41 w42 J41 E42 B41 Y41
 have fi := E42.size
 replace J := Z0 J E42
 replace o := o.evo0 E42
 replace I := I.evo0 E42
 have aT : RowE w42 (some ⟨b41, 0, none⟩) b41 0 1 ([⟨(src.getD k default).kind, tx, (src.getD k default).id⟩] : List Vc.Item) := CH ([⟨(src.getD k default).kind, tx, (src.getD k default).id⟩] : List Vc.Item) B41 rfl rfl
 obtain ⟨dp, fs, dO, b_, bc, ec⟩ := o.rowOf
 subst b_
 refine Zr [.slice _ _ _, .slice (some ⟨b41, 0, none⟩) _ _] rfl η func83 (GW bc aT bL) ?_
 rintro e gq ⟨cc, rfl, F44, hon44⟩
 refine ⟨_, rfl, ?_⟩
 have fo := F44.size
 replace J := Z0 J F44
 replace o := o.evo0 F44
 replace I := I.evo0 F44
 replace aT := aT.evo0 F44
 replace bc := bc.evo0 F44
 refine Zn (AR (v := cc) rfl η) (AX (AB (Zo Br (Zn AU (Zg (k + 1) ?_)))))
 refine ⟨_, _, _, σ, rfl, δ, (hon44.base_le ω), I, (by rw [Vs src k ω, ← hsk]; exact Vj hsk2 htx), (by have h1 := D9 (f2 ++ [⟨(src.getD k default).kind, tx, (src.getD k default).id⟩]); have h2 := D4 (f2 ++ [⟨(src.getD k default).kind, tx, (src.getD k default).id⟩]); have h3 := Ck src k ω; rw [List.length_append] at h1; rw [BR, CK] at h2; simp only [List.length_cons, List.length_nil] at h1 h2; omega), δ, J⟩
 refine Ak rfl (Zs (Zo (AN (v := vf) rfl η) (Zn (AR (v := vf) rfl η) (AM (C8 (v := vf) rfl η) ?_))))
 exact ⟨_, _, N1, rfl, ⟨by rw [List.take_of_length_le ω] at hsk; exact hsk, by omega, by rw [List.take_of_length_le ω] at hsz; omega⟩, by omega, J, I, o⟩
def ft (bs : Nat) (ha hc : Hdr) : List Fc := [.v 28 (fun x => x = .slice ha.ao ha.len ha.cap), .v 29 (fun x => x = .slice hc.ao hc.len hc.cap), .lit 30 4 FD, .v 31 (fun x => x = .pointer (some ⟨bs, 0, none⟩)), .v 32 (fun x => ∃ r, x = .int .i64 r ∧ 0 ≤ r ∧ r < 4), .elt 33 FD, .v 34 (fun x => ∃ y, x = S y ∧ y ∈ FD), .lit 35 4 FE, .v 36 (fun x => x = .pointer (some ⟨bs, 0, none⟩)), .v 37 (fun x => ∃ r, x = .int .i64 r ∧ 0 ≤ r ∧ r < 4), .elt 38 FE, .v 39 (fun x => ∃ y, x = S y ∧ y ∈ FE), .lit 40 3 La, .v 41 (fun x => x = .pointer (some ⟨bs, 0, none⟩)), .v 42 (fun x => ∃ r, x = .int .i64 r ∧ 0 ≤ r ∧ r < 3), .elt 43 La, .v 44 (fun x => ∃ y, x = S y ∧ y ∈ La), .lit 45 3 L8, .v 46 (fun x => x = .pointer (some ⟨bs, 0, none⟩)), .v 47 (fun x => ∃ r, x = .int .i64 r ∧ 0 ≤ r ∧ r < 3), .elt 48 L8, .v 49 (fun x => ∃ y, x = S y ∧ y ∈ L8), .v 50 (fun x => x = .pointer (some ⟨bs, 0, none⟩)), .v 51 (fun x => ∃ r, x = .int .i64 r ∧ 0 ≤ r ∧ r < 50), .v 52 (fun x => x = .pointer (some ⟨bs, 0, none⟩)), .v 53 (fun x => ∃ r, x = .int .i64 r ∧ 0 ≤ r ∧ r < 3), .v 54 (fun x => ∃ r, x = .int .i64 r ∧ 1 ≤ r ∧ r < 4), .v 55 (fun x => ∃ y2 y3 y4 y5 y6 y7, x = .agg #[.slice ha.ao ha.len ha.cap, .slice hc.ao hc.len hc.cap, S y2, S y3, S y4, S y5, .int .i64 y6, .int .i64 y7] ∧ y2 ∈ FD ∧ y3 ∈ FE ∧ y4 ∈ La ∧ y5 ∈ L8 ∧ (0 ≤ y6 ∧ y6 < 50) ∧ (1 ≤ y7 ∧ y7 < 4))]
set_option maxHeartbeats 2000000 in
theorem Nk {T bs : Nat} {ao : Option Addr} {b off cap : Nat} {l : List Int} {N : Nat} {w0 : World} (R : Blk w0 bs T [.slice ao l.length cap, .int .i64 (N : Nat)]) (hl : ∀ w', Evo w0 w' [bs] → RowE w' ao b off cap l) (hN : N ≤ 50000) :
    Calls Tryz.prog 8 #[.pointer (some ⟨bs, 0, none⟩)] w0 fun e w' => ∃ x : Entr, ∃ a b : List Vc.Item, ∃ N', e = .returned (.agg (Enc.enc x).toArray) ∧ EntOk w0.heap.size w' x a b ∧ (N ≤ N' ∧ N' ≤ N + 3000) ∧ Evo w0 w' [bs] ∧ Blk w' bs T [.slice ao l.length cap, .int .i64 (N' : Nat)] := by
 have bc := R.at; have gr := R.lt
 refine AG (n := 56) func8 rfl ntmps8 rfl ?_
 have hV : Evo w0 w0 [bs] := Evo.refl _ _
 have bn := hl
 have gk := (bn _ hV).bd
 refine Zs (CU (zs := [_, _, _, _, _, _, _, _]) Cv η rfl ?_)
 intro b1 w2 J1 E2 B1 Y1
 have Q2 := E2.size
 replace hV := Z0 hV E2
 replace R := R.evo0 E2
 replace bc := bc.evo0 E2
 have aT := B1.at
 refine Ag (Zs (Zo EA (Zr [.pointer _, .int _ _, .bool _, .bool _] rfl η func30 (NL R (fun w9 h9 => bn _ (EY hV h9 (.inr (by simp)))) ω ω ω) ?_)))
 rintro e w3 ⟨gU, f3, Nf3, rfl, hf3, hNf3, F3, hn3, bf⟩
 refine ⟨_, rfl, ?_⟩
 have Q3 := F3.size
 replace hV := Z1 hV F3 (.inr (by simp))
 replace hl := bn _ hV
 replace B1 := B1.evo F3 θ
 replace aT := aT.evo F3 θ
 replace R := hn3
 clear hn3
 have bc := R.at
 refine Zn (AR (v := gU) rfl η) (AE (AE ?_))
 obtain ⟨hU, g4, hW, gS, d_, fr⟩ := bf.rowOf
 subst gS
 have ho : ([] : List Vc.Item) = [] := rfl
 refine AB (Zo Bi (Zo (AQ rfl η underlying33) (Zn DA (EC [3, 12, 13, 14, 15, 16, 17, 18] (fun g w => ∃ dc : Option Addr, ∃ bF : Nat, ∃ dm : Nat, ∃ f2 : List Vc.Item, ∃ N2 : Nat, g 3 = .slice dc f2.length dm ∧ RowE w dc bF 0 dm f2 ∧ Blk w b1 35 [.slice none 0 0, .slice none 0 0, S [], S [], S [], S [], .int .i64 0, .int .i64 0] ∧ Blk w bs T [.slice ao l.length cap, .int .i64 (N2 : Nat)] ∧ w0.heap.size ≤ bF ∧ f2 ≠ [] ∧ Bo [] f2 = 0 ∧ (f2.length ≤ 8 ∧ Ay f2 ≤ 120 ∧ N ≤ N2 ∧ N2 ≤ N + 2001) ∧ w3.heap.size ≤ w.heap.size ∧ Evo w0 w [bs]) ?_ ?_))))
 refine AH η (fun bX => ?_) (fun bX => ?_)
 refine AB (BT (pv := [(0, S _), (1, S _), (2, S _)]) (zs := [_]) (cs := [_, _, _]) underlying91 Es η rfl η rfl η ?_)
 intro b7 w8 J7 E8 B7 Y7
 have Q8 := E8.size
 replace hV := Z0 hV E8
 replace hl := bn _ hV
 replace B1 := B1.evo0 E8
 replace aT := aT.evo0 E8
 replace R := R.evo0 E8
 replace bc := bc.evo0 E8
 replace bf := bf.evo0 E8
 replace d_ := d_.evo0 E8
 have br : RowE w8 (some ⟨b7, 0, none⟩) b7 0 3 saveW := CH saveW B7 rfl rfl
 refine Zo EA (Zr [.pointer _, .int _ _] rfl η func31 (Dt R hl ω ω ω) ?_)
 rintro e w9 ⟨bL, rfl, hx9, F9, hn9⟩
 refine ⟨_, rfl, ?_⟩
 have Q9 := F9.size
 replace hV := Z1 hV F9 (.inr (by simp))
 replace B1 := B1.evo F9 θ
 replace aT := aT.evo F9 θ
 replace bf := bf.evo F9 (by intro g hg hm; simp at hm; subst hm; have := bf.block hg; omega)
 replace br := br.evo F9 θ
 replace R := hn9
 clear hn9
 have bc := R.at
 refine Zo (Ab (bL.toNat) rfl underlying91 Es η η ω (by show _ < 3; omega) (br.addr (i := bL.toNat) (by show _ < 3; omega))) ?_
 have fi := br.atD (bL.toNat) (by show _ < 3; omega)
 refine Zo (AA rfl BX η (fi.cell 0 η)) (Zo (A2 (pv := [(0, .int _ _), (1, S _)]) (zs := [_, _, _]) (cells := [_, _, _]) rfl AY η Eu η η) (BT (pv := [(0, .agg _)]) (zs := [_, _, _]) (cs := [_, _, _]) underlying33 AY η rfl η rfl η ?_))
 intro b11 w12 J11 E12 B11 Y11
 have hy := E12.size
 replace hV := Z0 hV E12
 replace B1 := B1.evo0 E12
 replace aT := aT.evo0 E12
 replace bf := bf.evo0 E12
 replace br := br.evo0 E12
 replace R := R.evo0 E12
 replace bc := bc.evo0 E12
 have ea : RowE w12 (some ⟨b11, 0, none⟩) b11 0 1 ([⟨1, saveW.getD bL.toNat default, 0⟩] : List Vc.Item) := CH ([⟨1, saveW.getD bL.toNat default, 0⟩] : List Vc.Item) B11 rfl rfl
 refine Zn (AR (v := .slice (some ⟨b11, 0, none⟩) _ _) rfl η) (Ad ?_ ?_)
 refine ⟨_, _, _, _, _, rfl, ea, B1, R, (by first | omega | (have := (fr (by intro e9; subst e9; exact absurd rfl bX)).2; omega)), (by first | (exact List.cons_ne_nil _ _) | (intro e9; subst e9; exact absurd rfl bX)), (by first | exact hf3.1 | exact Nc (Ka _ ω).2), (by first | (have h9 := (Ka bL.toNat ω).1; rw [CK]; simp only [List.length_cons, List.length_nil]; omega) | omega), δ, hV⟩
 exact ψ
 refine AJ (Ad ?_ ?_)
 refine ⟨_, _, _, _, _, rfl, d_, B1, R, (by first | omega | (have := (fr (by intro e9; subst e9; exact absurd rfl bX)).2; omega)), (by first | (exact List.cons_ne_nil _ _) | (intro e9; subst e9; exact absurd rfl bX)), (by first | exact hf3.1 | exact Nc (Ka _ ω).2), (by first | (have h9 := (Ka nx3.toNat ω).1; rw [CK]; simp only [List.length_cons, List.length_nil]; omega) | omega), δ, hV⟩
 exact ψ
 rintro g e3 ⟨dc, bF, dm, f2, N2, hj14, b9, B1, R, hbF, hneF, hvF, hszF, hzl5, hV⟩
 have fg := hV.size
 have gx := B1.lt
 have gy := R.lt
 have aT := B1.at
 have bc := R.at
 refine Zk 3 hj14 (AE ?_)
 have hi := b9.bd
 have b6 : Evo e3 e3 [bs] := Evo.refl _ _
 have cv := fun w9 (h9 : Evo e3 w9 [bs]) => C1 b9 h9 (fun _ hm => by simp at hm; omega)
 refine AB (Zo EA (Zo Bi (Zr [.pointer _, .slice _ _ _] rfl η func32 (Ql R (fun w9 h9 => bn _ (EY hV h9 (.inr (by simp)))) ω (fun w9 h9 => cv _ (EY b6 h9 (.inr (by simp)))) ω ω) ?_)))
 rintro e h_ ⟨c3, f17, Nf17, rfl, hf17, hNf17, F17, hn17, hof17⟩
 refine ⟨_, rfl, ?_⟩
 have hz := F17.size
 replace hV := Z1 hV F17 (.inr (by simp))
 replace b6 := Z1 b6 F17 ε
 replace b9 := cv _ b6
 replace B1 := B1.evo F17 θ
 replace aT := aT.evo F17 θ
 replace R := hn17
 clear hn17
 have bc := R.at
 refine Zn (AR (v := c3) rfl η) (AE ?_)
 have h4 : Small f2 := ⟨by omega, by omega⟩; have h5 : Small f17 := ⟨by omega, by omega⟩; have h6 : Small (f2 ++ f17) := ⟨by rw [List.length_append]; omega, by rw [BR]; omega⟩
 refine AB (Zo Bi (Zo (AN (v := c3) rfl η) ?_))
 obtain ⟨gW, g18, gX, f_, fs, hn⟩ := hof17.rowOf
 subst f_
 refine Zr [.slice _ _ _, .slice _ _ _] rfl η func33 (K2 b9 fs κ κ κ) ?_
 rintro e b3 ⟨c0, uc19, rfl, F19, hov19, hou19⟩
 refine ⟨_, rfl, ?_⟩
 have hA := F19.size
 replace hV := Z0 hV F19
 replace B1 := B1.evo0 F19
 replace aT := aT.evo0 F19
 replace R := R.evo0 F19
 replace bc := bc.evo0 F19
 refine Zo PW (Zo (AI (v := c0) rfl η η) (Zo (AI (v := uc19) rfl η η) (Zo (AR (v := c0) rfl η) (Zn (AR (v := uc19) rfl η) (AE ?_)))))
 have gz := WD hf17.1; rw [gz] at hov19 hou19; have b8 := Wg hvF ω; have hX : (Kw (A4 f2) (Vc.upL (A4 f2).length) f2).length = f2.length := b8.2.1; have hZ : Ay (Kw (A4 f2) (Vc.upL (A4 f2).length) f2) ≤ Ay f2 := b8.2.2; have hY := VZ (a := A4 f2) (b := Vc.upL (A4 f2).length) f17
 obtain ⟨ha, gu, gQ⟩ := Ru hov19; obtain ⟨hc, gw, gR⟩ := Ru hou19; subst gu; subst gw
 have hK : Evo b3 b3 [bs, b1] := Evo.refl _ _
 have U : bs < b3.heap.size := by omega
 have hh : bs ≠ b1 := by omega
 refine cT [28, 29, 30, 31, 32, 33, 34, 35, 36, 37, 38, 39, 40, 41, 42, 43, 44, 45, 46, 47, 48, 49, 50, 51, 52, 53, 54, 55] (IG (ft bs ha hc) [4, 9, 14, 19, 23, 25] 28 (fun w => ∃ wm y2 y3 y4 y5 y6 y7, Evo b3 wm [bs] ∧ Blk wm bs T [.slice ao l.length cap, .int .i64 (Nf17 + 6 : Nat)] ∧ Evo wm w [b1] ∧ Blk w b1 35 [.slice ha.ao ha.len ha.cap, .slice hc.ao hc.len hc.cap, S y2, S y3, S y4, S y5, .int .i64 y6, .int .i64 y7] ∧ y2 ∈ FD ∧ y3 ∈ FE ∧ y4 ∈ La ∧ y5 ∈ L8 ∧ (0 ≤ y6 ∧ y6 < 50) ∧ (1 ≤ y7 ∧ y7 < 4)) b3 bs T Nf17 (.slice ao l.length cap)) ζ ζ (fun w1 he => IG.init (he.mono (by simp)) (R.evo0 he)) ?_ ?_
 intro g w20 j
 obtain ⟨ia, y2, y3, y4, y5, y6, y7, F21, bQ, F22, fo, dn, bo, bq, dp, ds, dO⟩ := j.done ζ
 have hC := F21.size
 replace hV := Z1 hV F21 (.inr (by simp))
 replace hK := Z1 hK F21 ε
 have R := bQ
 have hB := F22.size
 replace hV := Z1 hV F22 ε
 replace hK := Z1 hK F22 ε
 replace R := R.evo F22 θ
 have bc := R.at; have B1 := fo; have aT := fo.at
 refine AM (Nn (cs := [_, _, _, _, _, _, _, _]) rfl Ek Cv η rfl aT) ?_
 exact ⟨⟨ha, hc, y2, y3, y4, y5, y6, y7⟩, _, _, _, rfl, ⟨(gQ.evo hK θ).mono ω, (gR.evo hK θ).mono ω, b8.1, (fun e9 => hneF (List.length_eq_zero_iff.1 (by have h9 := b8.2.1; have h8 : (Jk f2).length = 0 := congrArg List.length e9; omega))), by omega, by omega, by omega, by omega, dn, bo, bq, dp, ds, dO⟩, by omega, hV, R⟩
 refine ⟨fun l9 g w hu hd ⟨j, o⟩ => ?_, ?_⟩
 obtain ⟨J, R, I, hP⟩ := j.deps υ hu
 refine BB o ?_
 have F1 : Evo w w [bs] := Evo.refl _ _
 have C := A6 [4, 9, 14, 19, 23, 25] l9; simp only [List.length_cons, List.length_nil] at C
 have af := J.size
 refine Zo Bi (BJ (And.intro ?_ ?_))
 exact IG.step (M := [28, 29, 30, 31, 32, 33, 34, 35, 36, 37, 38, 39, 40, 41, 42, 43, 44, 45, 46, 47, 48, 49, 50, 51, 52, 53, 54, 55]) (i := 0) rfl ζ hu ζ U I hP F1 J (by rw [BC ζ]; exact R) (Ax (Af (M := [28, 29, 30, 31, 32, 33, 34, 35, 36, 37, 38, 39, 40, 41, 42, 43, 44, 45, 46, 47, 48, 49, 50, 51, 52, 53, 54, 55]))) rfl
 exact ψ
 refine ⟨fun l9 g w hu hd ⟨j, o⟩ => ?_, ?_⟩
 obtain ⟨J, R, I, hP⟩ := j.deps υ hu
 refine BB o ?_
 have F1 : Evo w w [bs] := Evo.refl _ _
 have C := A6 [4, 9, 14, 19, 23, 25] l9; simp only [List.length_cons, List.length_nil] at C
 have af := J.size
 refine Zo Bi (BJ (And.intro ?_ ?_))
 exact IG.step (M := [28, 29, 30, 31, 32, 33, 34, 35, 36, 37, 38, 39, 40, 41, 42, 43, 44, 45, 46, 47, 48, 49, 50, 51, 52, 53, 54, 55]) (i := 1) rfl ζ hu ζ U I hP F1 J (by rw [BC ζ]; exact R) (Ax (Af (M := [28, 29, 30, 31, 32, 33, 34, 35, 36, 37, 38, 39, 40, 41, 42, 43, 44, 45, 46, 47, 48, 49, 50, 51, 52, 53, 54, 55]))) rfl
 exact ψ
 refine ⟨fun l9 g w hu hd ⟨j, o⟩ => ?_, ?_⟩
 obtain ⟨J, R, I, hP⟩ := j.deps υ hu
 refine BB o ?_
 have F1 : Evo w w [bs] := Evo.refl _ _
 have C := A6 [4, 9, 14, 19, 23, 25] l9; simp only [List.length_cons, List.length_nil] at C
 have af := J.size
 refine BT (pv := [(0, S _), (1, S _), (2, S _), (3, S _)]) (zs := [_]) (cs := [_, _, _, _]) underlying91 Es η rfl η rfl η ?_
 intro b24 w25 J24 E25 B24 Y24
 have hD := E25.size
 replace J := Z0 J E25
 replace F1 := Z0 F1 E25
 replace R := R.evo0 E25
 have eb : RowE w25 (some ⟨b24, 0, none⟩) b24 0 4 FD := CH FD B24 rfl rfl
 refine BJ (And.intro ?_ ?_)
 exact IG.step (M := [28, 29, 30, 31, 32, 33, 34, 35, 36, 37, 38, 39, 40, 41, 42, 43, 44, 45, 46, 47, 48, 49, 50, 51, 52, 53, 54, 55]) (i := 2) rfl ζ hu ζ U I hP F1 J (by rw [BC ζ]; exact R) (Ax (Af (M := [28, 29, 30, 31, 32, 33, 34, 35, 36, 37, 38, 39, 40, 41, 42, 43, 44, 45, 46, 47, 48, 49, 50, 51, 52, 53, 54, 55]))) ⟨_, by omega, rfl, eb⟩
 exact ψ
 refine ⟨fun l9 g w hu hd ⟨j, o⟩ => ?_, ?_⟩
 obtain ⟨J, R, I, hP⟩ := j.deps υ hu
 refine BB o ?_
 have F1 : Evo w w [bs] := Evo.refl _ _
 have C := A6 [4, 9, 14, 19, 23, 25] l9; simp only [List.length_cons, List.length_nil] at C
 have af := J.size
 refine Zo EA (BJ (And.intro ?_ ?_))
 exact IG.step (M := [28, 29, 30, 31, 32, 33, 34, 35, 36, 37, 38, 39, 40, 41, 42, 43, 44, 45, 46, 47, 48, 49, 50, 51, 52, 53, 54, 55]) (i := 3) rfl ζ hu ζ U I hP F1 J (by rw [BC ζ]; exact R) (Ax (Af (M := [28, 29, 30, 31, 32, 33, 34, 35, 36, 37, 38, 39, 40, 41, 42, 43, 44, 45, 46, 47, 48, 49, 50, 51, 52, 53, 54, 55]))) rfl
 exact ψ
 refine ⟨fun l9 g w hu hd ⟨j, o⟩ => ?_, ?_⟩
 obtain ⟨J, R, I, hP⟩ := j.deps υ hu
 refine BB o ?_
 have F1 : Evo w w [bs] := Evo.refl _ _
 have C := A6 [4, 9, 14, 19, 23, 25] l9; simp only [List.length_cons, List.length_nil] at C
 have af := J.size
 have hj := (hP 3 _ rfl (BO hd 3 ζ))
 have hl := bn _ (Evo.trans hV J (fun x hx _ => hx))
 refine Ao (i := 31) (v := .pointer (some ⟨bs, 0, none⟩)) (by exact hj) (Zr [.pointer _, .int _ _] rfl η func31 (Dt R hl ω ω ω) ?_)
 rintro e ib ⟨hp, rfl, hx26, F26, hn26⟩
 refine ⟨_, rfl, ?_⟩
 have hF := F26.size
 replace J := Z1 J F26 ε
 replace F1 := Z1 F1 F26 ε
 replace R := hn26
 clear hn26
 refine BJ (And.intro ?_ ?_)
 exact IG.step (M := [28, 29, 30, 31, 32, 33, 34, 35, 36, 37, 38, 39, 40, 41, 42, 43, 44, 45, 46, 47, 48, 49, 50, 51, 52, 53, 54, 55]) (i := 4) rfl ζ hu ζ U I hP F1 J (by rw [Eh hu ζ ζ]; exact R) (Ax (An (Af (M := [28, 29, 30, 31, 32, 33, 34, 35, 36, 37, 38, 39, 40, 41, 42, 43, 44, 45, 46, 47, 48, 49, 50, 51, 52, 53, 54, 55])) hj)) ⟨_, rfl, hx26⟩
 exact ψ
 refine ⟨fun l9 g w hu hd ⟨j, o⟩ => ?_, ?_⟩
 obtain ⟨J, R, I, hP⟩ := j.deps υ hu
 refine BB o ?_
 have F1 : Evo w w [bs] := Evo.refl _ _
 have C := A6 [4, 9, 14, 19, 23, 25] l9; simp only [List.length_cons, List.length_nil] at C
 have af := J.size
 obtain ⟨bx, bR, bl, a1⟩ := (hP 2 _ rfl (BO hd 2 ζ))
 obtain ⟨a_, bm, bY, b0⟩ := (hP 4 _ rfl (BO hd 4 ζ))
 refine Ao (i := 30) (v := .slice (some ⟨bx, 0, none⟩) 4 4) (by exact bl) (Ao (i := 32) (v := .int .i64 a_) (by exact bm) (Zo (Ab (a_.toNat) rfl underlying91 Es η η ω (by show _ < 4; omega) (a1.addr (i := a_.toNat) (by show _ < 4; omega))) ?_))
 have gY := a1.atD (a_.toNat) (by show _ < 4; omega)
 refine BJ (And.intro ?_ ?_)
 exact IG.step (M := [28, 29, 30, 31, 32, 33, 34, 35, 36, 37, 38, 39, 40, 41, 42, 43, 44, 45, 46, 47, 48, 49, 50, 51, 52, 53, 54, 55]) (i := 5) rfl ζ hu ζ U I hP F1 J (by rw [BC ζ]; exact R) (Ax (An (An (Af (M := [28, 29, 30, 31, 32, 33, 34, 35, 36, 37, 38, 39, 40, 41, 42, 43, 44, 45, 46, 47, 48, 49, 50, 51, 52, 53, 54, 55])) bl) bm)) (by obtain ⟨sq, bo, bq⟩ := QO (n := 4) a1 (show a_.toNat < 4 by omega) rfl rfl; exact ⟨_, _, sq, by omega, rfl, bo, bq⟩)
 exact ψ
 refine ⟨fun l9 g w hu hd ⟨j, o⟩ => ?_, ?_⟩
 obtain ⟨J, R, I, hP⟩ := j.deps υ hu
 refine BB o ?_
 have F1 : Evo w w [bs] := Evo.refl _ _
 have C := A6 [4, 9, 14, 19, 23, 25] l9; simp only [List.length_cons, List.length_nil] at C
 have af := J.size
 obtain ⟨bz, jz, sz, bQ, hj, bA, bB⟩ := (hP 5 _ rfl (BO hd 5 ζ))
 refine Ao (i := 33) (v := .pointer (some ⟨bz, jz, none⟩)) (by exact hj) (Zo (AA rfl BX η (bA.cell 0 η)) (BJ (And.intro ?_ ?_)))
 exact IG.step (M := [28, 29, 30, 31, 32, 33, 34, 35, 36, 37, 38, 39, 40, 41, 42, 43, 44, 45, 46, 47, 48, 49, 50, 51, 52, 53, 54, 55]) (i := 6) rfl ζ hu ζ U I hP F1 J (by rw [BC ζ]; exact R) (Ax (An (Af (M := [28, 29, 30, 31, 32, 33, 34, 35, 36, 37, 38, 39, 40, 41, 42, 43, 44, 45, 46, 47, 48, 49, 50, 51, 52, 53, 54, 55])) hj)) ⟨_, rfl, bB⟩
 exact ψ
 refine ⟨fun l9 g w hu hd ⟨j, o⟩ => ?_, ?_⟩
 obtain ⟨J, R, I, hP⟩ := j.deps υ hu
 refine BB o ?_
 have F1 : Evo w w [bs] := Evo.refl _ _
 have C := A6 [4, 9, 14, 19, 23, 25] l9; simp only [List.length_cons, List.length_nil] at C
 have af := J.size
 refine BT (pv := [(0, S _), (1, S _), (2, S _), (3, S _)]) (zs := [_]) (cs := [_, _, _, _]) underlying91 Es η rfl η rfl η ?_
 intro b28 w29 J28 E29 B28 Y28
 have hG := E29.size
 replace J := Z0 J E29
 replace F1 := Z0 F1 E29
 replace R := R.evo0 E29
 have ec : RowE w29 (some ⟨b28, 0, none⟩) b28 0 4 FE := CH FE B28 rfl rfl
 refine BJ (And.intro ?_ ?_)
 exact IG.step (M := [28, 29, 30, 31, 32, 33, 34, 35, 36, 37, 38, 39, 40, 41, 42, 43, 44, 45, 46, 47, 48, 49, 50, 51, 52, 53, 54, 55]) (i := 7) rfl ζ hu ζ U I hP F1 J (by rw [BC ζ]; exact R) (Ax (Af (M := [28, 29, 30, 31, 32, 33, 34, 35, 36, 37, 38, 39, 40, 41, 42, 43, 44, 45, 46, 47, 48, 49, 50, 51, 52, 53, 54, 55]))) ⟨_, by omega, rfl, ec⟩
 exact ψ
 refine ⟨fun l9 g w hu hd ⟨j, o⟩ => ?_, ?_⟩
 obtain ⟨J, R, I, hP⟩ := j.deps υ hu
 refine BB o ?_
 have F1 : Evo w w [bs] := Evo.refl _ _
 have C := A6 [4, 9, 14, 19, 23, 25] l9; simp only [List.length_cons, List.length_nil] at C
 have af := J.size
 refine Zo EA (BJ (And.intro ?_ ?_))
 exact IG.step (M := [28, 29, 30, 31, 32, 33, 34, 35, 36, 37, 38, 39, 40, 41, 42, 43, 44, 45, 46, 47, 48, 49, 50, 51, 52, 53, 54, 55]) (i := 8) rfl ζ hu ζ U I hP F1 J (by rw [BC ζ]; exact R) (Ax (Af (M := [28, 29, 30, 31, 32, 33, 34, 35, 36, 37, 38, 39, 40, 41, 42, 43, 44, 45, 46, 47, 48, 49, 50, 51, 52, 53, 54, 55]))) rfl
 exact ψ
 refine ⟨fun l9 g w hu hd ⟨j, o⟩ => ?_, ?_⟩
 obtain ⟨J, R, I, hP⟩ := j.deps υ hu
 refine BB o ?_
 have F1 : Evo w w [bs] := Evo.refl _ _
 have C := A6 [4, 9, 14, 19, 23, 25] l9; simp only [List.length_cons, List.length_nil] at C
 have af := J.size
 have hj := (hP 8 _ rfl (BO hd 8 ζ))
 have hl := bn _ (Evo.trans hV J (fun x hx _ => hx))
 refine Ao (i := 36) (v := .pointer (some ⟨bs, 0, none⟩)) (by exact hj) (Zr [.pointer _, .int _ _] rfl η func31 (Dt R hl ω ω ω) ?_)
 rintro e ie ⟨hq, rfl, hx30, F30, hn30⟩
 refine ⟨_, rfl, ?_⟩
 have hI := F30.size
 replace J := Z1 J F30 ε
 replace F1 := Z1 F1 F30 ε
 replace R := hn30
 clear hn30
 refine BJ (And.intro ?_ ?_)
 exact IG.step (M := [28, 29, 30, 31, 32, 33, 34, 35, 36, 37, 38, 39, 40, 41, 42, 43, 44, 45, 46, 47, 48, 49, 50, 51, 52, 53, 54, 55]) (i := 9) rfl ζ hu ζ U I hP F1 J (by rw [Eh hu ζ ζ]; exact R) (Ax (An (Af (M := [28, 29, 30, 31, 32, 33, 34, 35, 36, 37, 38, 39, 40, 41, 42, 43, 44, 45, 46, 47, 48, 49, 50, 51, 52, 53, 54, 55])) hj)) ⟨_, rfl, hx30⟩
 exact ψ
 refine ⟨fun l9 g w hu hd ⟨j, o⟩ => ?_, ?_⟩
 obtain ⟨J, R, I, hP⟩ := j.deps υ hu
 refine BB o ?_
 have F1 : Evo w w [bs] := Evo.refl _ _
 have C := A6 [4, 9, 14, 19, 23, 25] l9; simp only [List.length_cons, List.length_nil] at C
 have af := J.size
 obtain ⟨bx, bR, bl, a1⟩ := (hP 7 _ rfl (BO hd 7 ζ))
 obtain ⟨a_, bm, bY, b0⟩ := (hP 9 _ rfl (BO hd 9 ζ))
 refine Ao (i := 35) (v := .slice (some ⟨bx, 0, none⟩) 4 4) (by exact bl) (Ao (i := 37) (v := .int .i64 a_) (by exact bm) (Zo (Ab (a_.toNat) rfl underlying91 Es η η ω (by show _ < 4; omega) (a1.addr (i := a_.toNat) (by show _ < 4; omega))) ?_))
 have gZ := a1.atD (a_.toNat) (by show _ < 4; omega)
 refine BJ (And.intro ?_ ?_)
 exact IG.step (M := [28, 29, 30, 31, 32, 33, 34, 35, 36, 37, 38, 39, 40, 41, 42, 43, 44, 45, 46, 47, 48, 49, 50, 51, 52, 53, 54, 55]) (i := 10) rfl ζ hu ζ U I hP F1 J (by rw [BC ζ]; exact R) (Ax (An (An (Af (M := [28, 29, 30, 31, 32, 33, 34, 35, 36, 37, 38, 39, 40, 41, 42, 43, 44, 45, 46, 47, 48, 49, 50, 51, 52, 53, 54, 55])) bl) bm)) (by obtain ⟨sq, bo, bq⟩ := QO (n := 4) a1 (show a_.toNat < 4 by omega) rfl rfl; exact ⟨_, _, sq, by omega, rfl, bo, bq⟩)
 exact ψ
 refine ⟨fun l9 g w hu hd ⟨j, o⟩ => ?_, ?_⟩
 obtain ⟨J, R, I, hP⟩ := j.deps υ hu
 refine BB o ?_
 have F1 : Evo w w [bs] := Evo.refl _ _
 have C := A6 [4, 9, 14, 19, 23, 25] l9; simp only [List.length_cons, List.length_nil] at C
 have af := J.size
 obtain ⟨bz, jz, sz, bQ, hj, bA, bB⟩ := (hP 10 _ rfl (BO hd 10 ζ))
 refine Ao (i := 38) (v := .pointer (some ⟨bz, jz, none⟩)) (by exact hj) (Zo (AA rfl BX η (bA.cell 0 η)) (BJ (And.intro ?_ ?_)))
 exact IG.step (M := [28, 29, 30, 31, 32, 33, 34, 35, 36, 37, 38, 39, 40, 41, 42, 43, 44, 45, 46, 47, 48, 49, 50, 51, 52, 53, 54, 55]) (i := 11) rfl ζ hu ζ U I hP F1 J (by rw [BC ζ]; exact R) (Ax (An (Af (M := [28, 29, 30, 31, 32, 33, 34, 35, 36, 37, 38, 39, 40, 41, 42, 43, 44, 45, 46, 47, 48, 49, 50, 51, 52, 53, 54, 55])) hj)) ⟨_, rfl, bB⟩
 exact ψ
 refine ⟨fun l9 g w hu hd ⟨j, o⟩ => ?_, ?_⟩
 obtain ⟨J, R, I, hP⟩ := j.deps υ hu
 refine BB o ?_
 have F1 : Evo w w [bs] := Evo.refl _ _
 have C := A6 [4, 9, 14, 19, 23, 25] l9; simp only [List.length_cons, List.length_nil] at C
 have af := J.size
 refine BT (pv := [(0, S _), (1, S _), (2, S _)]) (zs := [_]) (cs := [_, _, _]) underlying91 Es η rfl η rfl η ?_
 intro b32 w33 J32 E33 B32 Y32
 have hJ := E33.size
 replace J := Z0 J E33
 replace F1 := Z0 F1 E33
 replace R := R.evo0 E33
 have ej : RowE w33 (some ⟨b32, 0, none⟩) b32 0 3 La := CH La B32 rfl rfl
 refine BJ (And.intro ?_ ?_)
 exact IG.step (M := [28, 29, 30, 31, 32, 33, 34, 35, 36, 37, 38, 39, 40, 41, 42, 43, 44, 45, 46, 47, 48, 49, 50, 51, 52, 53, 54, 55]) (i := 12) rfl ζ hu ζ U I hP F1 J (by rw [BC ζ]; exact R) (Ax (Af (M := [28, 29, 30, 31, 32, 33, 34, 35, 36, 37, 38, 39, 40, 41, 42, 43, 44, 45, 46, 47, 48, 49, 50, 51, 52, 53, 54, 55]))) ⟨_, by omega, rfl, ej⟩
 exact ψ
 refine ⟨fun l9 g w hu hd ⟨j, o⟩ => ?_, ?_⟩
 obtain ⟨J, R, I, hP⟩ := j.deps υ hu
 refine BB o ?_
 have F1 : Evo w w [bs] := Evo.refl _ _
 have C := A6 [4, 9, 14, 19, 23, 25] l9; simp only [List.length_cons, List.length_nil] at C
 have af := J.size
 refine Zo EA (BJ (And.intro ?_ ?_))
 exact IG.step (M := [28, 29, 30, 31, 32, 33, 34, 35, 36, 37, 38, 39, 40, 41, 42, 43, 44, 45, 46, 47, 48, 49, 50, 51, 52, 53, 54, 55]) (i := 13) rfl ζ hu ζ U I hP F1 J (by rw [BC ζ]; exact R) (Ax (Af (M := [28, 29, 30, 31, 32, 33, 34, 35, 36, 37, 38, 39, 40, 41, 42, 43, 44, 45, 46, 47, 48, 49, 50, 51, 52, 53, 54, 55]))) rfl
 exact ψ
 refine ⟨fun l9 g w hu hd ⟨j, o⟩ => ?_, ?_⟩
 obtain ⟨J, R, I, hP⟩ := j.deps υ hu
 refine BB o ?_
 have F1 : Evo w w [bs] := Evo.refl _ _
 have C := A6 [4, 9, 14, 19, 23, 25] l9; simp only [List.length_cons, List.length_nil] at C
 have af := J.size
 have hj := (hP 13 _ rfl (BO hd 13 ζ))
 have hl := bn _ (Evo.trans hV J (fun x hx _ => hx))
 refine Ao (i := 41) (v := .pointer (some ⟨bs, 0, none⟩)) (by exact hj) (Zr [.pointer _, .int _ _] rfl η func31 (Dt R hl ω ω ω) ?_)
 rintro e ig ⟨hr, rfl, hx34, F34, hn34⟩
 refine ⟨_, rfl, ?_⟩
 have hL := F34.size
 replace J := Z1 J F34 ε
 replace F1 := Z1 F1 F34 ε
 replace R := hn34
 clear hn34
 refine BJ (And.intro ?_ ?_)
 exact IG.step (M := [28, 29, 30, 31, 32, 33, 34, 35, 36, 37, 38, 39, 40, 41, 42, 43, 44, 45, 46, 47, 48, 49, 50, 51, 52, 53, 54, 55]) (i := 14) rfl ζ hu ζ U I hP F1 J (by rw [Eh hu ζ ζ]; exact R) (Ax (An (Af (M := [28, 29, 30, 31, 32, 33, 34, 35, 36, 37, 38, 39, 40, 41, 42, 43, 44, 45, 46, 47, 48, 49, 50, 51, 52, 53, 54, 55])) hj)) ⟨_, rfl, hx34⟩
 exact ψ
 refine ⟨fun l9 g w hu hd ⟨j, o⟩ => ?_, ?_⟩
 obtain ⟨J, R, I, hP⟩ := j.deps υ hu
 refine BB o ?_
 have F1 : Evo w w [bs] := Evo.refl _ _
 have C := A6 [4, 9, 14, 19, 23, 25] l9; simp only [List.length_cons, List.length_nil] at C
 have af := J.size
 obtain ⟨bx, bR, bl, a1⟩ := (hP 12 _ rfl (BO hd 12 ζ))
 obtain ⟨a_, bm, bY, b0⟩ := (hP 14 _ rfl (BO hd 14 ζ))
 refine Ao (i := 40) (v := .slice (some ⟨bx, 0, none⟩) 3 3) (by exact bl) (Ao (i := 42) (v := .int .i64 a_) (by exact bm) (Zo (Ab (a_.toNat) rfl underlying91 Es η η ω (by show _ < 3; omega) (a1.addr (i := a_.toNat) (by show _ < 3; omega))) ?_))
 have g_ := a1.atD (a_.toNat) (by show _ < 3; omega)
 refine BJ (And.intro ?_ ?_)
 exact IG.step (M := [28, 29, 30, 31, 32, 33, 34, 35, 36, 37, 38, 39, 40, 41, 42, 43, 44, 45, 46, 47, 48, 49, 50, 51, 52, 53, 54, 55]) (i := 15) rfl ζ hu ζ U I hP F1 J (by rw [BC ζ]; exact R) (Ax (An (An (Af (M := [28, 29, 30, 31, 32, 33, 34, 35, 36, 37, 38, 39, 40, 41, 42, 43, 44, 45, 46, 47, 48, 49, 50, 51, 52, 53, 54, 55])) bl) bm)) (by obtain ⟨sq, bo, bq⟩ := QO (n := 3) a1 (show a_.toNat < 3 by omega) rfl rfl; exact ⟨_, _, sq, by omega, rfl, bo, bq⟩)
 exact ψ
 refine ⟨fun l9 g w hu hd ⟨j, o⟩ => ?_, ?_⟩
 obtain ⟨J, R, I, hP⟩ := j.deps υ hu
 refine BB o ?_
 have F1 : Evo w w [bs] := Evo.refl _ _
 have C := A6 [4, 9, 14, 19, 23, 25] l9; simp only [List.length_cons, List.length_nil] at C
 have af := J.size
 obtain ⟨bz, jz, sz, bQ, hj, bA, bB⟩ := (hP 15 _ rfl (BO hd 15 ζ))
 refine Ao (i := 43) (v := .pointer (some ⟨bz, jz, none⟩)) (by exact hj) (Zo (AA rfl BX η (bA.cell 0 η)) (BJ (And.intro ?_ ?_)))
 exact IG.step (M := [28, 29, 30, 31, 32, 33, 34, 35, 36, 37, 38, 39, 40, 41, 42, 43, 44, 45, 46, 47, 48, 49, 50, 51, 52, 53, 54, 55]) (i := 16) rfl ζ hu ζ U I hP F1 J (by rw [BC ζ]; exact R) (Ax (An (Af (M := [28, 29, 30, 31, 32, 33, 34, 35, 36, 37, 38, 39, 40, 41, 42, 43, 44, 45, 46, 47, 48, 49, 50, 51, 52, 53, 54, 55])) hj)) ⟨_, rfl, bB⟩
 exact ψ
 refine ⟨fun l9 g w hu hd ⟨j, o⟩ => ?_, ?_⟩
 obtain ⟨J, R, I, hP⟩ := j.deps υ hu
 refine BB o ?_
 have F1 : Evo w w [bs] := Evo.refl _ _
 have C := A6 [4, 9, 14, 19, 23, 25] l9; simp only [List.length_cons, List.length_nil] at C
 have af := J.size
 refine BT (pv := [(0, S _), (1, S _), (2, S _)]) (zs := [_]) (cs := [_, _, _]) underlying91 Es η rfl η rfl η ?_
 intro b36 w37 J36 E37 B36 Y36
 have hM := E37.size
 replace J := Z0 J E37
 replace F1 := Z0 F1 E37
 replace R := R.evo0 E37
 have ek : RowE w37 (some ⟨b36, 0, none⟩) b36 0 3 L8 := CH L8 B36 rfl rfl
 refine BJ (And.intro ?_ ?_)
 exact IG.step (M := [28, 29, 30, 31, 32, 33, 34, 35, 36, 37, 38, 39, 40, 41, 42, 43, 44, 45, 46, 47, 48, 49, 50, 51, 52, 53, 54, 55]) (i := 17) rfl ζ hu ζ U I hP F1 J (by rw [BC ζ]; exact R) (Ax (Af (M := [28, 29, 30, 31, 32, 33, 34, 35, 36, 37, 38, 39, 40, 41, 42, 43, 44, 45, 46, 47, 48, 49, 50, 51, 52, 53, 54, 55]))) ⟨_, by omega, rfl, ek⟩
 exact ψ
 refine ⟨fun l9 g w hu hd ⟨j, o⟩ => ?_, ?_⟩
 obtain ⟨J, R, I, hP⟩ := j.deps υ hu
 refine BB o ?_
 have F1 : Evo w w [bs] := Evo.refl _ _
 have C := A6 [4, 9, 14, 19, 23, 25] l9; simp only [List.length_cons, List.length_nil] at C
 have af := J.size
 refine Zo EA (BJ (And.intro ?_ ?_))
 exact IG.step (M := [28, 29, 30, 31, 32, 33, 34, 35, 36, 37, 38, 39, 40, 41, 42, 43, 44, 45, 46, 47, 48, 49, 50, 51, 52, 53, 54, 55]) (i := 18) rfl ζ hu ζ U I hP F1 J (by rw [BC ζ]; exact R) (Ax (Af (M := [28, 29, 30, 31, 32, 33, 34, 35, 36, 37, 38, 39, 40, 41, 42, 43, 44, 45, 46, 47, 48, 49, 50, 51, 52, 53, 54, 55]))) rfl
 exact ψ
 refine ⟨fun l9 g w hu hd ⟨j, o⟩ => ?_, ?_⟩
 obtain ⟨J, R, I, hP⟩ := j.deps υ hu
 refine BB o ?_
 have F1 : Evo w w [bs] := Evo.refl _ _
 have C := A6 [4, 9, 14, 19, 23, 25] l9; simp only [List.length_cons, List.length_nil] at C
 have af := J.size
 have hj := (hP 18 _ rfl (BO hd 18 ζ))
 have hl := bn _ (Evo.trans hV J (fun x hx _ => hx))
 refine Ao (i := 46) (v := .pointer (some ⟨bs, 0, none⟩)) (by exact hj) (Zr [.pointer _, .int _ _] rfl η func31 (Dt R hl ω ω ω) ?_)
 rintro e ih ⟨hs, rfl, hx38, F38, hn38⟩
 refine ⟨_, rfl, ?_⟩
 have hQ := F38.size
 replace J := Z1 J F38 ε
 replace F1 := Z1 F1 F38 ε
 replace R := hn38
 clear hn38
 refine BJ (And.intro ?_ ?_)
 exact IG.step (M := [28, 29, 30, 31, 32, 33, 34, 35, 36, 37, 38, 39, 40, 41, 42, 43, 44, 45, 46, 47, 48, 49, 50, 51, 52, 53, 54, 55]) (i := 19) rfl ζ hu ζ U I hP F1 J (by rw [Eh hu ζ ζ]; exact R) (Ax (An (Af (M := [28, 29, 30, 31, 32, 33, 34, 35, 36, 37, 38, 39, 40, 41, 42, 43, 44, 45, 46, 47, 48, 49, 50, 51, 52, 53, 54, 55])) hj)) ⟨_, rfl, hx38⟩
 exact ψ
 refine ⟨fun l9 g w hu hd ⟨j, o⟩ => ?_, ?_⟩
 obtain ⟨J, R, I, hP⟩ := j.deps υ hu
 refine BB o ?_
 have F1 : Evo w w [bs] := Evo.refl _ _
 have C := A6 [4, 9, 14, 19, 23, 25] l9; simp only [List.length_cons, List.length_nil] at C
 have af := J.size
 obtain ⟨bx, bR, bl, a1⟩ := (hP 17 _ rfl (BO hd 17 ζ))
 obtain ⟨a_, bm, bY, b0⟩ := (hP 19 _ rfl (BO hd 19 ζ))
 refine Ao (i := 45) (v := .slice (some ⟨bx, 0, none⟩) 3 3) (by exact bl) (Ao (i := 47) (v := .int .i64 a_) (by exact bm) (Zo (Ab (a_.toNat) rfl underlying91 Es η η ω (by show _ < 3; omega) (a1.addr (i := a_.toNat) (by show _ < 3; omega))) ?_))
 have hf := a1.atD (a_.toNat) (by show _ < 3; omega)
 refine BJ (And.intro ?_ ?_)
 exact IG.step (M := [28, 29, 30, 31, 32, 33, 34, 35, 36, 37, 38, 39, 40, 41, 42, 43, 44, 45, 46, 47, 48, 49, 50, 51, 52, 53, 54, 55]) (i := 20) rfl ζ hu ζ U I hP F1 J (by rw [BC ζ]; exact R) (Ax (An (An (Af (M := [28, 29, 30, 31, 32, 33, 34, 35, 36, 37, 38, 39, 40, 41, 42, 43, 44, 45, 46, 47, 48, 49, 50, 51, 52, 53, 54, 55])) bl) bm)) (by obtain ⟨sq, bo, bq⟩ := QO (n := 3) a1 (show a_.toNat < 3 by omega) rfl rfl; exact ⟨_, _, sq, by omega, rfl, bo, bq⟩)
 exact ψ
 refine ⟨fun l9 g w hu hd ⟨j, o⟩ => ?_, ?_⟩
 obtain ⟨J, R, I, hP⟩ := j.deps υ hu
 refine BB o ?_
 have F1 : Evo w w [bs] := Evo.refl _ _
 have C := A6 [4, 9, 14, 19, 23, 25] l9; simp only [List.length_cons, List.length_nil] at C
 have af := J.size
 obtain ⟨bz, jz, sz, bQ, hj, bA, bB⟩ := (hP 20 _ rfl (BO hd 20 ζ))
 refine Ao (i := 48) (v := .pointer (some ⟨bz, jz, none⟩)) (by exact hj) (Zo (AA rfl BX η (bA.cell 0 η)) (BJ (And.intro ?_ ?_)))
 exact IG.step (M := [28, 29, 30, 31, 32, 33, 34, 35, 36, 37, 38, 39, 40, 41, 42, 43, 44, 45, 46, 47, 48, 49, 50, 51, 52, 53, 54, 55]) (i := 21) rfl ζ hu ζ U I hP F1 J (by rw [BC ζ]; exact R) (Ax (An (Af (M := [28, 29, 30, 31, 32, 33, 34, 35, 36, 37, 38, 39, 40, 41, 42, 43, 44, 45, 46, 47, 48, 49, 50, 51, 52, 53, 54, 55])) hj)) ⟨_, rfl, bB⟩
 exact ψ
 refine ⟨fun l9 g w hu hd ⟨j, o⟩ => ?_, ?_⟩
 obtain ⟨J, R, I, hP⟩ := j.deps υ hu
 refine BB o ?_
 have F1 : Evo w w [bs] := Evo.refl _ _
 have C := A6 [4, 9, 14, 19, 23, 25] l9; simp only [List.length_cons, List.length_nil] at C
 have af := J.size
 refine Zo EA (BJ (And.intro ?_ ?_))
 exact IG.step (M := [28, 29, 30, 31, 32, 33, 34, 35, 36, 37, 38, 39, 40, 41, 42, 43, 44, 45, 46, 47, 48, 49, 50, 51, 52, 53, 54, 55]) (i := 22) rfl ζ hu ζ U I hP F1 J (by rw [BC ζ]; exact R) (Ax (Af (M := [28, 29, 30, 31, 32, 33, 34, 35, 36, 37, 38, 39, 40, 41, 42, 43, 44, 45, 46, 47, 48, 49, 50, 51, 52, 53, 54, 55]))) rfl
 exact ψ
 refine ⟨fun l9 g w hu hd ⟨j, o⟩ => ?_, ?_⟩
 obtain ⟨J, R, I, hP⟩ := j.deps υ hu
 refine BB o ?_
 have F1 : Evo w w [bs] := Evo.refl _ _
 have C := A6 [4, 9, 14, 19, 23, 25] l9; simp only [List.length_cons, List.length_nil] at C
 have af := J.size
 have hj := (hP 22 _ rfl (BO hd 22 ζ))
 have hl := bn _ (Evo.trans hV J (fun x hx _ => hx))
 refine Ao (i := 50) (v := .pointer (some ⟨bs, 0, none⟩)) (by exact hj) (Zr [.pointer _, .int _ _] rfl η func31 (Dt R hl ω ω ω) ?_)
 rintro e ij ⟨ht, rfl, hx40, F40, hn40⟩
 refine ⟨_, rfl, ?_⟩
 have hR := F40.size
 replace J := Z1 J F40 ε
 replace F1 := Z1 F1 F40 ε
 replace R := hn40
 clear hn40
 refine BJ (And.intro ?_ ?_)
 exact IG.step (M := [28, 29, 30, 31, 32, 33, 34, 35, 36, 37, 38, 39, 40, 41, 42, 43, 44, 45, 46, 47, 48, 49, 50, 51, 52, 53, 54, 55]) (i := 23) rfl ζ hu ζ U I hP F1 J (by rw [Eh hu ζ ζ]; exact R) (Ax (An (Af (M := [28, 29, 30, 31, 32, 33, 34, 35, 36, 37, 38, 39, 40, 41, 42, 43, 44, 45, 46, 47, 48, 49, 50, 51, 52, 53, 54, 55])) hj)) ⟨_, rfl, hx40⟩
 exact ψ
 refine ⟨fun l9 g w hu hd ⟨j, o⟩ => ?_, ?_⟩
 obtain ⟨J, R, I, hP⟩ := j.deps υ hu
 refine BB o ?_
 have F1 : Evo w w [bs] := Evo.refl _ _
 have C := A6 [4, 9, 14, 19, 23, 25] l9; simp only [List.length_cons, List.length_nil] at C
 have af := J.size
 refine Zo EA (BJ (And.intro ?_ ?_))
 exact IG.step (M := [28, 29, 30, 31, 32, 33, 34, 35, 36, 37, 38, 39, 40, 41, 42, 43, 44, 45, 46, 47, 48, 49, 50, 51, 52, 53, 54, 55]) (i := 24) rfl ζ hu ζ U I hP F1 J (by rw [BC ζ]; exact R) (Ax (Af (M := [28, 29, 30, 31, 32, 33, 34, 35, 36, 37, 38, 39, 40, 41, 42, 43, 44, 45, 46, 47, 48, 49, 50, 51, 52, 53, 54, 55]))) rfl
 exact ψ
 refine ⟨fun l9 g w hu hd ⟨j, o⟩ => ?_, ?_⟩
 obtain ⟨J, R, I, hP⟩ := j.deps υ hu
 refine BB o ?_
 have F1 : Evo w w [bs] := Evo.refl _ _
 have C := A6 [4, 9, 14, 19, 23, 25] l9; simp only [List.length_cons, List.length_nil] at C
 have af := J.size
 have hj := (hP 24 _ rfl (BO hd 24 ζ))
 have hl := bn _ (Evo.trans hV J (fun x hx _ => hx))
 refine Ao (i := 52) (v := .pointer (some ⟨bs, 0, none⟩)) (by exact hj) (Zr [.pointer _, .int _ _] rfl η func31 (Dt R hl ω ω ω) ?_)
 rintro e ik ⟨hv, rfl, hx41, F41, hn41⟩
 refine ⟨_, rfl, ?_⟩
 have hS := F41.size
 replace J := Z1 J F41 ε
 replace F1 := Z1 F1 F41 ε
 replace R := hn41
 clear hn41
 refine BJ (And.intro ?_ ?_)
 exact IG.step (M := [28, 29, 30, 31, 32, 33, 34, 35, 36, 37, 38, 39, 40, 41, 42, 43, 44, 45, 46, 47, 48, 49, 50, 51, 52, 53, 54, 55]) (i := 25) rfl ζ hu ζ U I hP F1 J (by rw [Eh hu ζ ζ]; exact R) (Ax (An (Af (M := [28, 29, 30, 31, 32, 33, 34, 35, 36, 37, 38, 39, 40, 41, 42, 43, 44, 45, 46, 47, 48, 49, 50, 51, 52, 53, 54, 55])) hj)) ⟨_, rfl, hx41⟩
 exact ψ
 refine ⟨fun l9 g w hu hd ⟨j, o⟩ => ?_, ?_⟩
 obtain ⟨J, R, I, hP⟩ := j.deps υ hu
 refine BB o ?_
 have F1 : Evo w w [bs] := Evo.refl _ _
 have C := A6 [4, 9, 14, 19, 23, 25] l9; simp only [List.length_cons, List.length_nil] at C
 have af := J.size
 obtain ⟨rz, hj, h2, h3⟩ := (hP 25 _ rfl (BO hd 25 ζ))
 refine Ao (i := 53) (v := .int .i64 rz) (by exact hj) (Zo Br (BJ (And.intro ?_ ?_)))
 exact IG.step (M := [28, 29, 30, 31, 32, 33, 34, 35, 36, 37, 38, 39, 40, 41, 42, 43, 44, 45, 46, 47, 48, 49, 50, 51, 52, 53, 54, 55]) (i := 26) rfl ζ hu ζ U I hP F1 J (by rw [BC ζ]; exact R) (Ax (An (Af (M := [28, 29, 30, 31, 32, 33, 34, 35, 36, 37, 38, 39, 40, 41, 42, 43, 44, 45, 46, 47, 48, 49, 50, 51, 52, 53, 54, 55])) hj)) ⟨_, rfl, by omega, by omega⟩
 exact ψ
 refine ⟨fun l9 g w hu hd ⟨j, o⟩ => ?_, ?_⟩
 obtain ⟨J, R, I, hP⟩ := j.deps υ hu
 refine BB o ?_
 have F1 : Evo w w [bs] := Evo.refl _ _
 have C := A6 [4, 9, 14, 19, 23, 25] l9; simp only [List.length_cons, List.length_nil] at C
 have af := J.size
 have ca := (hP 0 _ rfl (BO hd 0 ζ))
 have cb := (hP 1 _ rfl (BO hd 1 ζ))
 obtain ⟨gd, cc, en⟩ := (hP 6 _ rfl (BO hd 6 ζ))
 obtain ⟨gf, cm, eT⟩ := (hP 11 _ rfl (BO hd 11 ζ))
 obtain ⟨gg, cp, eU⟩ := (hP 16 _ rfl (BO hd 16 ζ))
 obtain ⟨gh, cq, e0⟩ := (hP 21 _ rfl (BO hd 21 ζ))
 obtain ⟨ga, cr, gM, gO⟩ := (hP 23 _ rfl (BO hd 23 ζ))
 obtain ⟨gb, ct, gN, gP⟩ := (hP 26 _ rfl (BO hd 26 ζ))
 refine Ao (i := 28) (v := .slice ha.ao ha.len ha.cap) (by exact ca) (Ao (i := 29) (v := .slice hc.ao hc.len hc.cap) (by exact cb) (Ao (i := 34) (v := S gd) (by exact cc) (Ao (i := 39) (v := S gf) (by exact cm) (Ao (i := 44) (v := S gg) (by exact cp) (Ao (i := 49) (v := S gh) (by exact cq) (Ao (i := 51) (v := .int .i64 ga) (by exact cr) (Ao (i := 54) (v := .int .i64 gb) (by exact ct) (Zo (A2 (pv := [(0, .slice _ _ _), (1, .slice _ _ _), (2, S _), (3, S _), (4, S _), (5, S _), (6, .int _ _), (7, .int _ _)]) (zs := [_, _, _, _, _, _, _, _]) (cells := [_, _, _, _, _, _, _, _]) rfl Cv η eX η η) (BJ (And.intro ?_ ?_))))))))))
 exact IG.step (M := [28, 29, 30, 31, 32, 33, 34, 35, 36, 37, 38, 39, 40, 41, 42, 43, 44, 45, 46, 47, 48, 49, 50, 51, 52, 53, 54, 55]) (i := 27) rfl ζ hu ζ U I hP F1 J (by rw [BC ζ]; exact R) (Ax (An (An (An (An (An (An (An (An (Af (M := [28, 29, 30, 31, 32, 33, 34, 35, 36, 37, 38, 39, 40, 41, 42, 43, 44, 45, 46, 47, 48, 49, 50, 51, 52, 53, 54, 55])) ca) cb) cc) cm) cp) cq) cr) ct)) ⟨_, _, _, _, _, _, rfl, en, eT, eU, e0, ⟨by omega, by omega⟩, ⟨by omega, by omega⟩⟩
 exact ψ
 refine ⟨fun l9 g w hu hd ⟨j, o⟩ => ?_, ?_⟩
 obtain ⟨J, R, I, hP⟩ := j.deps υ hu
 refine BB o ?_
 have F1 : Evo w w [bs] := Evo.refl _ _
 have C := A6 [4, 9, 14, 19, 23, 25] l9; simp only [List.length_cons, List.length_nil] at C
 have af := J.size
 obtain ⟨y2, y3, y4, y5, y6, y7, hj, dn, bo, bq, dp, ds, dO⟩ := (hP 27 _ rfl (BO hd 27 ζ))
 have B1 := B1.evo J θ
 have gq := R
 refine Ao (i := 55) (v := .agg #[.slice ha.ao ha.len ha.cap, .slice hc.ao hc.len hc.cap, S y2, S y3, S y4, S y5, .int .i64 y6, .int .i64 y7]) (by exact hj) (Ai (v := .agg _) (vs := [_, _, _, _, _, _, _, _]) (cs' := [_, _, _, _, _, _, _, _]) η η B1 Cv η rfl η rfl η ?_)
 intro w42 E42 V42 hb_new
 have hT := E42.size
 replace B1 := hb_new
 clear hb_new
 refine BJ (And.intro ?_ ?_)
 exact IG.last hu (Jw hd ζ) ⟨w, y2, y3, y4, y5, y6, y7, J, (by rw [← show Gq [4, 9, 14, 19, 23, 25] l9 = 6 from Pj (m := 28) (Jw hd ζ) ζ]; exact gq), E42, B1, dn, bo, bq, dp, ds, dO⟩
 exact ψ
 exact trivial
def fm (bs b3 : Nat) (xe : Entr) : List Fc := [.v 6 (fun x => x = .pointer (some ⟨b3, 0 + 0, none⟩)), .v 7 (fun x => x = .slice xe.src.ao xe.src.len xe.src.cap), .v 8 (fun x => x = .pointer (some ⟨b3, 0 + 2, none⟩)), .v 9 (fun x => x = S xe.prev), .v 10 (fun x => x = .pointer (some ⟨b3, 0 + 3, none⟩)), .v 11 (fun x => x = S xe.next), .v 12 (fun x => x = .pointer (some ⟨bs, 0, none⟩)), .v 13 (fun x => ∃ r, x = .int .i64 r ∧ 0 ≤ r ∧ r < 90), .v 14 (fun x => x = .pointer (some ⟨bs, 0, none⟩)), .v 15 (fun x => ∃ r, x = .int .i64 r ∧ 0 ≤ r ∧ r < 102), .v 16 (fun x => ∃ r, x = .int .i64 r ∧ 1 ≤ r ∧ r < 103), .v 17 (fun x => x = .pointer (some ⟨bs, 0, none⟩)), .v 18 (fun x => ∃ r, x = .int .i64 r ∧ 0 ≤ r ∧ r < 12), .v 19 (fun x => ∃ r, x = .int .i64 r ∧ 1 ≤ r ∧ r < 13), .v 20 (fun x => ∃ y3 y4 y5, x = .agg #[.slice xe.src.ao xe.src.len xe.src.cap, S xe.prev, S xe.next, .int .i64 y3, .int .i64 y4, .int .i64 y5] ∧ (0 ≤ y3 ∧ y3 < 90) ∧ (1 ≤ y4 ∧ y4 < 103) ∧ (1 ≤ y5 ∧ y5 < 13))]
set_option maxHeartbeats 2000000 in
theorem T3 {T bs : Nat} {ao : Option Addr} {b off cap : Nat} {l : List Int} {N : Nat} {w0 : World} (R : Blk w0 bs T [.slice ao l.length cap, .int .i64 (N : Nat)]) (hl : ∀ w', Evo w0 w' [bs] → RowE w' ao b off cap l) (hN : N ≤ 45000) :
    Calls Tryz.prog 12 #[.pointer (some ⟨bs, 0, none⟩)] w0 fun e w' => ∃ x : Quer, ∃ a : List Vc.Item, ∃ N', e = .returned (.agg (Enc.enc x).toArray) ∧ QryOk w0.heap.size w' x a ∧ (N ≤ N' ∧ N' ≤ N + 4000) ∧ Evo w0 w' [bs] ∧ Blk w' bs T [.slice ao l.length cap, .int .i64 (N' : Nat)] := by
 have bf := R.at; have b7 := R.lt
 refine AG (n := 21) func12 rfl ntmps12 rfl ?_
 have hV : Evo w0 w0 [bs] := Evo.refl _ _
 have bl := hl
 have b3 := (bl _ hV).bd
 refine Zs (CU (zs := [_, _, _, _, _, _]) KA η rfl ?_)
 intro b1 w2 J1 E2 B1 Y1
 have Q2 := E2.size
 replace hV := Z0 hV E2
 replace R := R.evo0 E2
 replace bf := bf.evo0 E2
 have bb := B1.at
 refine Ag (Zs (Zo EA (Zr [.pointer _] rfl η func8 (Nk R (fun w9 h9 => bl _ (EY hV h9 (.inr (by simp)))) ω) ?_)))
 rintro e w3 ⟨au, ea3, eb3, Ne3, rfl, hen3, hNe3, F3, hn3⟩
 refine ⟨_, rfl, ?_⟩
 have Q3 := F3.size
 replace hV := Z1 hV F3 (.inr (by simp))
 replace B1 := B1.evo F3 θ
 replace bb := bb.evo F3 θ
 replace R := hn3
 clear hn3
 have bf := R.at
 have hK : Evo w3 w3 [bs] := Evo.refl _ _
 refine Bq (zs := [_, _, _, _, _, _, _, _]) (vs := [_, _, _, _, _, _, _, _]) Cv η rfl η (fun _ => rfl) η rfl rfl η ?_
 intro b4 w5 J4 E5 B4 Y4
 have Q5 := E5.size
 replace hV := Z0 hV E5
 replace hK := Z0 hK E5
 replace B1 := B1.evo0 E5
 replace bb := bb.evo0 E5
 replace R := R.evo0 E5
 replace bf := bf.evo0 E5
 refine Ag (AE ?_)
 have ds := B4
 replace hK : Evo w3 w5 [bs, b1] := hK.mono (by simp)
 have U : bs < w5.heap.size := by omega
 have c0 : bs ≠ b1 := by omega
 refine cT [6, 7, 8, 9, 10, 11, 12, 13, 14, 15, 16, 17, 18, 19, 20] (IG (fm bs b4 au) [7, 9, 12] 15 (fun w => ∃ wm y3 y4 y5, Evo w5 wm [bs] ∧ Blk wm bs T [.slice ao l.length cap, .int .i64 (Ne3 + 3 : Nat)] ∧ Evo wm w [b1] ∧ Blk w b1 43 [.slice au.src.ao au.src.len au.src.cap, S au.prev, S au.next, .int .i64 y3, .int .i64 y4, .int .i64 y5] ∧ (0 ≤ y3 ∧ y3 < 90) ∧ (1 ≤ y4 ∧ y4 < 103) ∧ (1 ≤ y5 ∧ y5 < 13)) w5 bs T Ne3 (.slice ao l.length cap)) ζ ζ (fun w1 he => IG.init (he.mono (by simp)) (R.evo0 he)) ?_ ?_
 intro g w6 o
 obtain ⟨w9, y3, y4, y5, F7, b8, F8, bS, bL, bM, bQ⟩ := o.done ζ
 have Q9 := F7.size
 replace hV := Z1 hV F7 (.inr (by simp))
 replace hK := Z1 hK F7 ε
 have R := b8
 have Q6 := F8.size
 replace hV := Z1 hV F8 ε
 replace hK := Z1 hK F8 ε
 replace R := R.evo F8 θ
 have bf := R.at; have B1 := bS; have bb := bS.at
 refine AM (Nn (cs := [_, _, _, _, _, _]) rfl SB KA η rfl bb) ?_
 exact ⟨⟨au.src, au.prev, au.next, y3, y4, y5⟩, _, _, rfl, ⟨(hen3.rs.evo hK θ).mono ω, hen3.val, hen3.ne, hen3.al, hen3.az, hen3.prev, hen3.next, bL, bM, bQ⟩, by omega, hV, R⟩
 refine ⟨fun l9 g w hu hd ⟨o, C⟩ => ?_, ?_⟩
 obtain ⟨j, R, J, hP⟩ := o.deps υ hu
 refine BB C ?_
 have F1 : Evo w w [bs] := Evo.refl _ _
 have I := A6 [7, 9, 12] l9; simp only [List.length_cons, List.length_nil] at I
 have af := j.size
 have B4 := B4.evo j θ
 refine Zo (AD rfl η Dv) (BJ (And.intro ?_ ?_))
 exact IG.step (M := [6, 7, 8, 9, 10, 11, 12, 13, 14, 15, 16, 17, 18, 19, 20]) (i := 0) rfl ζ hu ζ U J hP F1 j (by rw [BC ζ]; exact R) (Ax (Af (M := [6, 7, 8, 9, 10, 11, 12, 13, 14, 15, 16, 17, 18, 19, 20]))) rfl
 exact ψ
 refine ⟨fun l9 g w hu hd ⟨o, C⟩ => ?_, ?_⟩
 obtain ⟨j, R, J, hP⟩ := o.deps υ hu
 refine BB C ?_
 have F1 : Evo w w [bs] := Evo.refl _ _
 have I := A6 [7, 9, 12] l9; simp only [List.length_cons, List.length_nil] at I
 have af := j.size
 have B4 := B4.evo j θ
 have hj := (hP 0 _ rfl (BO hd 0 ζ))
 refine Ao (i := 6) (v := .pointer (some ⟨b4, 0 + 0, none⟩)) (by exact hj) (Zo (AA rfl DZ η (B4.at.cell 0 η)) (BJ (And.intro ?_ ?_)))
 exact IG.step (M := [6, 7, 8, 9, 10, 11, 12, 13, 14, 15, 16, 17, 18, 19, 20]) (i := 1) rfl ζ hu ζ U J hP F1 j (by rw [BC ζ]; exact R) (Ax (An (Af (M := [6, 7, 8, 9, 10, 11, 12, 13, 14, 15, 16, 17, 18, 19, 20])) hj)) rfl
 exact ψ
 refine ⟨fun l9 g w hu hd ⟨o, C⟩ => ?_, ?_⟩
 obtain ⟨j, R, J, hP⟩ := o.deps υ hu
 refine BB C ?_
 have F1 : Evo w w [bs] := Evo.refl _ _
 have I := A6 [7, 9, 12] l9; simp only [List.length_cons, List.length_nil] at I
 have af := j.size
 have B4 := B4.evo j θ
 refine Zo (AD rfl η J0) (BJ (And.intro ?_ ?_))
 exact IG.step (M := [6, 7, 8, 9, 10, 11, 12, 13, 14, 15, 16, 17, 18, 19, 20]) (i := 2) rfl ζ hu ζ U J hP F1 j (by rw [BC ζ]; exact R) (Ax (Af (M := [6, 7, 8, 9, 10, 11, 12, 13, 14, 15, 16, 17, 18, 19, 20]))) rfl
 exact ψ
 refine ⟨fun l9 g w hu hd ⟨o, C⟩ => ?_, ?_⟩
 obtain ⟨j, R, J, hP⟩ := o.deps υ hu
 refine BB C ?_
 have F1 : Evo w w [bs] := Evo.refl _ _
 have I := A6 [7, 9, 12] l9; simp only [List.length_cons, List.length_nil] at I
 have af := j.size
 have B4 := B4.evo j θ
 have hj := (hP 2 _ rfl (BO hd 2 ζ))
 refine Ao (i := 8) (v := .pointer (some ⟨b4, 0 + 2, none⟩)) (by exact hj) (Zo (AA rfl BX η (B4.at.cell 2 η)) (BJ (And.intro ?_ ?_)))
 exact IG.step (M := [6, 7, 8, 9, 10, 11, 12, 13, 14, 15, 16, 17, 18, 19, 20]) (i := 3) rfl ζ hu ζ U J hP F1 j (by rw [BC ζ]; exact R) (Ax (An (Af (M := [6, 7, 8, 9, 10, 11, 12, 13, 14, 15, 16, 17, 18, 19, 20])) hj)) rfl
 exact ψ
 refine ⟨fun l9 g w hu hd ⟨o, C⟩ => ?_, ?_⟩
 obtain ⟨j, R, J, hP⟩ := o.deps υ hu
 refine BB C ?_
 have F1 : Evo w w [bs] := Evo.refl _ _
 have I := A6 [7, 9, 12] l9; simp only [List.length_cons, List.length_nil] at I
 have af := j.size
 have B4 := B4.evo j θ
 refine Zo (AD rfl η Jo) (BJ (And.intro ?_ ?_))
 exact IG.step (M := [6, 7, 8, 9, 10, 11, 12, 13, 14, 15, 16, 17, 18, 19, 20]) (i := 4) rfl ζ hu ζ U J hP F1 j (by rw [BC ζ]; exact R) (Ax (Af (M := [6, 7, 8, 9, 10, 11, 12, 13, 14, 15, 16, 17, 18, 19, 20]))) rfl
 exact ψ
 refine ⟨fun l9 g w hu hd ⟨o, C⟩ => ?_, ?_⟩
 obtain ⟨j, R, J, hP⟩ := o.deps υ hu
 refine BB C ?_
 have F1 : Evo w w [bs] := Evo.refl _ _
 have I := A6 [7, 9, 12] l9; simp only [List.length_cons, List.length_nil] at I
 have af := j.size
 have B4 := B4.evo j θ
 have hj := (hP 4 _ rfl (BO hd 4 ζ))
 refine Ao (i := 10) (v := .pointer (some ⟨b4, 0 + 3, none⟩)) (by exact hj) (Zo (AA rfl BX η (B4.at.cell 3 η)) (BJ (And.intro ?_ ?_)))
 exact IG.step (M := [6, 7, 8, 9, 10, 11, 12, 13, 14, 15, 16, 17, 18, 19, 20]) (i := 5) rfl ζ hu ζ U J hP F1 j (by rw [BC ζ]; exact R) (Ax (An (Af (M := [6, 7, 8, 9, 10, 11, 12, 13, 14, 15, 16, 17, 18, 19, 20])) hj)) rfl
 exact ψ
 refine ⟨fun l9 g w hu hd ⟨o, C⟩ => ?_, ?_⟩
 obtain ⟨j, R, J, hP⟩ := o.deps υ hu
 refine BB C ?_
 have F1 : Evo w w [bs] := Evo.refl _ _
 have I := A6 [7, 9, 12] l9; simp only [List.length_cons, List.length_nil] at I
 have af := j.size
 have B4 := B4.evo j θ
 refine Zo EA (BJ (And.intro ?_ ?_))
 exact IG.step (M := [6, 7, 8, 9, 10, 11, 12, 13, 14, 15, 16, 17, 18, 19, 20]) (i := 6) rfl ζ hu ζ U J hP F1 j (by rw [BC ζ]; exact R) (Ax (Af (M := [6, 7, 8, 9, 10, 11, 12, 13, 14, 15, 16, 17, 18, 19, 20]))) rfl
 exact ψ
 refine ⟨fun l9 g w hu hd ⟨o, C⟩ => ?_, ?_⟩
 obtain ⟨j, R, J, hP⟩ := o.deps υ hu
 refine BB C ?_
 have F1 : Evo w w [bs] := Evo.refl _ _
 have I := A6 [7, 9, 12] l9; simp only [List.length_cons, List.length_nil] at I
 have af := j.size
 have B4 := B4.evo j θ
 have hj := (hP 6 _ rfl (BO hd 6 ζ))
 have hl := bl _ (Evo.trans hV j (fun x hx _ => hx))
 refine Ao (i := 12) (v := .pointer (some ⟨bs, 0, none⟩)) (by exact hj) (Zr [.pointer _, .int _ _] rfl η func31 (Dt R hl ω ω ω) ?_)
 rintro e dO ⟨c3, rfl, hx10, F10, hn10⟩
 refine ⟨_, rfl, ?_⟩
 have dc := F10.size
 replace j := Z1 j F10 ε
 replace F1 := Z1 F1 F10 ε
 replace B4 := B4.evo F10 θ
 replace R := hn10
 clear hn10
 refine BJ (And.intro ?_ ?_)
 exact IG.step (M := [6, 7, 8, 9, 10, 11, 12, 13, 14, 15, 16, 17, 18, 19, 20]) (i := 7) rfl ζ hu ζ U J hP F1 j (by rw [Eh hu ζ ζ]; exact R) (Ax (An (Af (M := [6, 7, 8, 9, 10, 11, 12, 13, 14, 15, 16, 17, 18, 19, 20])) hj)) ⟨_, rfl, hx10⟩
 exact ψ
 refine ⟨fun l9 g w hu hd ⟨o, C⟩ => ?_, ?_⟩
 obtain ⟨j, R, J, hP⟩ := o.deps υ hu
 refine BB C ?_
 have F1 : Evo w w [bs] := Evo.refl _ _
 have I := A6 [7, 9, 12] l9; simp only [List.length_cons, List.length_nil] at I
 have af := j.size
 have B4 := B4.evo j θ
 refine Zo EA (BJ (And.intro ?_ ?_))
 exact IG.step (M := [6, 7, 8, 9, 10, 11, 12, 13, 14, 15, 16, 17, 18, 19, 20]) (i := 8) rfl ζ hu ζ U J hP F1 j (by rw [BC ζ]; exact R) (Ax (Af (M := [6, 7, 8, 9, 10, 11, 12, 13, 14, 15, 16, 17, 18, 19, 20]))) rfl
 exact ψ
 refine ⟨fun l9 g w hu hd ⟨o, C⟩ => ?_, ?_⟩
 obtain ⟨j, R, J, hP⟩ := o.deps υ hu
 refine BB C ?_
 have F1 : Evo w w [bs] := Evo.refl _ _
 have I := A6 [7, 9, 12] l9; simp only [List.length_cons, List.length_nil] at I
 have af := j.size
 have B4 := B4.evo j θ
 have hj := (hP 8 _ rfl (BO hd 8 ζ))
 have hl := bl _ (Evo.trans hV j (fun x hx _ => hx))
 refine Ao (i := 14) (v := .pointer (some ⟨bs, 0, none⟩)) (by exact hj) (Zr [.pointer _, .int _ _] rfl η func31 (Dt R hl ω ω ω) ?_)
 rintro e d_ ⟨c9, rfl, hx11, F11, hn11⟩
 refine ⟨_, rfl, ?_⟩
 have dk := F11.size
 replace j := Z1 j F11 ε
 replace F1 := Z1 F1 F11 ε
 replace B4 := B4.evo F11 θ
 replace R := hn11
 clear hn11
 refine BJ (And.intro ?_ ?_)
 exact IG.step (M := [6, 7, 8, 9, 10, 11, 12, 13, 14, 15, 16, 17, 18, 19, 20]) (i := 9) rfl ζ hu ζ U J hP F1 j (by rw [Eh hu ζ ζ]; exact R) (Ax (An (Af (M := [6, 7, 8, 9, 10, 11, 12, 13, 14, 15, 16, 17, 18, 19, 20])) hj)) ⟨_, rfl, hx11⟩
 exact ψ
 refine ⟨fun l9 g w hu hd ⟨o, C⟩ => ?_, ?_⟩
 obtain ⟨j, R, J, hP⟩ := o.deps υ hu
 refine BB C ?_
 have F1 : Evo w w [bs] := Evo.refl _ _
 have I := A6 [7, 9, 12] l9; simp only [List.length_cons, List.length_nil] at I
 have af := j.size
 have B4 := B4.evo j θ
 obtain ⟨rz, hj, b9, cc⟩ := (hP 9 _ rfl (BO hd 9 ζ))
 refine Ao (i := 15) (v := .int .i64 rz) (by exact hj) (Zo Br (BJ (And.intro ?_ ?_)))
 exact IG.step (M := [6, 7, 8, 9, 10, 11, 12, 13, 14, 15, 16, 17, 18, 19, 20]) (i := 10) rfl ζ hu ζ U J hP F1 j (by rw [BC ζ]; exact R) (Ax (An (Af (M := [6, 7, 8, 9, 10, 11, 12, 13, 14, 15, 16, 17, 18, 19, 20])) hj)) ⟨_, rfl, by omega, by omega⟩
 exact ψ
 refine ⟨fun l9 g w hu hd ⟨o, C⟩ => ?_, ?_⟩
 obtain ⟨j, R, J, hP⟩ := o.deps υ hu
 refine BB C ?_
 have F1 : Evo w w [bs] := Evo.refl _ _
 have I := A6 [7, 9, 12] l9; simp only [List.length_cons, List.length_nil] at I
 have af := j.size
 have B4 := B4.evo j θ
 refine Zo EA (BJ (And.intro ?_ ?_))
 exact IG.step (M := [6, 7, 8, 9, 10, 11, 12, 13, 14, 15, 16, 17, 18, 19, 20]) (i := 11) rfl ζ hu ζ U J hP F1 j (by rw [BC ζ]; exact R) (Ax (Af (M := [6, 7, 8, 9, 10, 11, 12, 13, 14, 15, 16, 17, 18, 19, 20]))) rfl
 exact ψ
 refine ⟨fun l9 g w hu hd ⟨o, C⟩ => ?_, ?_⟩
 obtain ⟨j, R, J, hP⟩ := o.deps υ hu
 refine BB C ?_
 have F1 : Evo w w [bs] := Evo.refl _ _
 have I := A6 [7, 9, 12] l9; simp only [List.length_cons, List.length_nil] at I
 have af := j.size
 have B4 := B4.evo j θ
 have hj := (hP 11 _ rfl (BO hd 11 ζ))
 have hl := bl _ (Evo.trans hV j (fun x hx _ => hx))
 refine Ao (i := 17) (v := .pointer (some ⟨bs, 0, none⟩)) (by exact hj) (Zr [.pointer _, .int _ _] rfl η func31 (Dt R hl ω ω ω) ?_)
 rintro e ea ⟨c_, rfl, hx12, F12, hn12⟩
 refine ⟨_, rfl, ?_⟩
 have dm := F12.size
 replace j := Z1 j F12 ε
 replace F1 := Z1 F1 F12 ε
 replace B4 := B4.evo F12 θ
 replace R := hn12
 clear hn12
 refine BJ (And.intro ?_ ?_)
 exact IG.step (M := [6, 7, 8, 9, 10, 11, 12, 13, 14, 15, 16, 17, 18, 19, 20]) (i := 12) rfl ζ hu ζ U J hP F1 j (by rw [Eh hu ζ ζ]; exact R) (Ax (An (Af (M := [6, 7, 8, 9, 10, 11, 12, 13, 14, 15, 16, 17, 18, 19, 20])) hj)) ⟨_, rfl, hx12⟩
 exact ψ
 refine ⟨fun l9 g w hu hd ⟨o, C⟩ => ?_, ?_⟩
 obtain ⟨j, R, J, hP⟩ := o.deps υ hu
 refine BB C ?_
 have F1 : Evo w w [bs] := Evo.refl _ _
 have I := A6 [7, 9, 12] l9; simp only [List.length_cons, List.length_nil] at I
 have af := j.size
 have B4 := B4.evo j θ
 obtain ⟨rz, hj, b9, cc⟩ := (hP 12 _ rfl (BO hd 12 ζ))
 refine Ao (i := 18) (v := .int .i64 rz) (by exact hj) (Zo Br (BJ (And.intro ?_ ?_)))
 exact IG.step (M := [6, 7, 8, 9, 10, 11, 12, 13, 14, 15, 16, 17, 18, 19, 20]) (i := 13) rfl ζ hu ζ U J hP F1 j (by rw [BC ζ]; exact R) (Ax (An (Af (M := [6, 7, 8, 9, 10, 11, 12, 13, 14, 15, 16, 17, 18, 19, 20])) hj)) ⟨_, rfl, by omega, by omega⟩
 exact ψ
 refine ⟨fun l9 g w hu hd ⟨o, C⟩ => ?_, ?_⟩
 obtain ⟨j, R, J, hP⟩ := o.deps υ hu
 refine BB C ?_
 have F1 : Evo w w [bs] := Evo.refl _ _
 have I := A6 [7, 9, 12] l9; simp only [List.length_cons, List.length_nil] at I
 have af := j.size
 have B4 := B4.evo j θ
 have bn := (hP 1 _ rfl (BO hd 1 ζ))
 have bo := (hP 3 _ rfl (BO hd 3 ζ))
 have bq := (hP 5 _ rfl (BO hd 5 ζ))
 obtain ⟨bY, br, b_, cm⟩ := (hP 7 _ rfl (BO hd 7 ζ))
 obtain ⟨b0, bt, ca, cp⟩ := (hP 10 _ rfl (BO hd 10 ζ))
 obtain ⟨b2, bx, cb, cq⟩ := (hP 13 _ rfl (BO hd 13 ζ))
 refine Ao (i := 7) (v := .slice au.src.ao au.src.len au.src.cap) (by exact bn) (Ao (i := 9) (v := S au.prev) (by exact bo) (Ao (i := 11) (v := S au.next) (by exact bq) (Ao (i := 13) (v := .int .i64 bY) (by exact br) (Ao (i := 16) (v := .int .i64 b0) (by exact bt) (Ao (i := 19) (v := .int .i64 b2) (by exact bx) (Zo (A2 (pv := [(0, .slice _ _ _), (1, S _), (2, S _), (3, .int _ _), (4, .int _ _), (5, .int _ _)]) (zs := [_, _, _, _, _, _]) (cells := [_, _, _, _, _, _]) rfl KA η fa η η) (BJ (And.intro ?_ ?_))))))))
 exact IG.step (M := [6, 7, 8, 9, 10, 11, 12, 13, 14, 15, 16, 17, 18, 19, 20]) (i := 14) rfl ζ hu ζ U J hP F1 j (by rw [BC ζ]; exact R) (Ax (An (An (An (An (An (An (Af (M := [6, 7, 8, 9, 10, 11, 12, 13, 14, 15, 16, 17, 18, 19, 20])) bn) bo) bq) br) bt) bx)) ⟨_, _, _, rfl, ⟨by omega, by omega⟩, ⟨by omega, by omega⟩, ⟨by omega, by omega⟩⟩
 exact ψ
 refine ⟨fun l9 g w hu hd ⟨o, C⟩ => ?_, ?_⟩
 obtain ⟨j, R, J, hP⟩ := o.deps υ hu
 refine BB C ?_
 have F1 : Evo w w [bs] := Evo.refl _ _
 have I := A6 [7, 9, 12] l9; simp only [List.length_cons, List.length_nil] at I
 have af := j.size
 have B4 := B4.evo j θ
 obtain ⟨y3, y4, y5, hj, bL, bM, bQ⟩ := (hP 14 _ rfl (BO hd 14 ζ))
 have B1 := B1.evo j θ
 have b6 := R
 refine Ao (i := 20) (v := .agg #[.slice au.src.ao au.src.len au.src.cap, S au.prev, S au.next, .int .i64 y3, .int .i64 y4, .int .i64 y5]) (by exact hj) (Ai (v := .agg _) (vs := [_, _, _, _, _, _]) (cs' := [_, _, _, _, _, _]) η η B1 KA η rfl η rfl η ?_)
 intro w13 E13 V13 hb_new
 have dn := E13.size
 replace B4 := B4.evo E13 θ
 replace B1 := hb_new
 clear hb_new
 refine BJ (And.intro ?_ ?_)
 exact IG.last hu (Jw hd ζ) ⟨w, y3, y4, y5, j, (by rw [← show Gq [7, 9, 12] l9 = 3 from Pj (m := 15) (Jw hd ζ) ζ]; exact b6), E13, B1, bL, bM, bQ⟩
 exact ψ
 exact trivial
end Go.Proofs.YtbgmlpbgofcfjaaGreatDoor
namespace Go.Vc
open Go Go.RowKit Go.IntWalk
theorem eh {P : Program} {n : Nat} {f : Fr} {w : World} {fn : Func} {s t r : Nat} {T : TypeId} {b : Nat} {m j : Nat} {z : Option Value} {cs : List Value} {u x : Value} (h : fn.results = #[.cell s T, .tmp t, .tmp r]) (C : CQ P T = some true) (ht : Cy P T = some (m, j, z)) (U : f s = .pointer (some ⟨b, 0, none⟩)) (R : cs.length = m) (I : At w b 0 cs) (hu : f t = u) (hx : f r = x) :
    ∀ a, Is n f a → (results fn a.tmps).run P w = .ok (.tuple #[.agg cs.toArray, u, x]) w := fun a J => by
  have h1 := Gn (P := P) (w := w) C ht R I
  have o : (loadVar T ⟨b, 0, none⟩).run P w = .ok (.agg cs.toArray) w := by
    simpa [Instr.loadAt, Instr.sureAddr] using h1
  simp [results, h, J.get, U, hu, hx, asAddr, o]
theorem CT {α : Type} [Enc α] {w : World} {base E b T : Nat} {v : Value} {l : List α} {cs : List Value} (h : OwnE w base E v l) (o : Blk w b T cs) (C : T ≠ E) : ∀ g, v.ownBlock = some g → g ≠ b := fun g j e => by
  subst e
  rcases h.row.2 with ⟨h1, _⟩ | ⟨q, cap, xs, h1, _, h5, _⟩
  · rw [h1] at j; cases j
  · rw [h1] at j
    have : q = g := by simpa [Value.ownBlock] using j
    subst this
    rw [o] at h5
    injection h5 with h6; injection h6 with _ h7 _
    exact C h7
end Go.Vc
namespace Go.Proofs.YtbgmlpbgofcfjaaGreatDoor
open Go.RowKit Go.Vc Go.Proofs.Tryz
theorem Mr : CQ Tryz.prog 157 = some false := ζ
theorem KK : A8 Tryz.prog 214 0 = some 0 := ζ
theorem Fs : A8 Tryz.prog 214 1 = some 1 := ζ
theorem OJ : A8 Tryz.prog 214 2 = some 2 := ζ
theorem dD : Cn Tryz.prog 214 = some [(0, 1), (1, 1), (2, 1), (3, 1)] := ζ
theorem YE : Cy Tryz.prog 157 = some (1, 24, some (.slice none 0 0)) := ζ
theorem Zc : Cy Tryz.prog 214 = some (4, 64, some (.agg #[(.slice none 0 0), (.slice none 0 0), (.int .i64 0), (.map none)])) := ζ
def Wt (c : UInt8) : Prop := (((((¬ c.toNat = 92 ∧ ¬ c.toNat = 60) ∧ ¬ c.toNat = 123) ∧ ¬ c.toNat = 9) ∧ ¬ c.toNat = 10) ∧ ¬ c.toNat = 13) ∧ ¬ Dp c = 1
instance (c : UInt8) : Decidable (Wt c) := by unfold Wt; infer_instance
theorem Kg {c : UInt8} {o : World}  :
    Calls Tryz.prog 200 #[.int .u8 ((c.toNat : Nat) : Int)] o fun e w' => e = .returned (.bool (decide (Wt c))) ∧ Evo o w' [] := by
 refine AG (n := 30) func200 rfl ntmps200 rfl ?_
 have C : Evo o o [] := Evo.refl _ _
 refine Zs (Zn BV (Zs (Zo AU (Zo (BP rfl η η) (Zo Cb ?_)))))
 refine Aj rfl BW rfl (fun j => AU) ?_
 refine Aj rfl BW rfl (fun j => BP rfl (Ar j) η) ?_
 refine Zo Ht (Zo Cb ?_)
 refine Aj rfl BW rfl (fun j => AU) ?_
 refine Aj rfl BW rfl (fun j => BP rfl (Ar j) η) ?_
 refine Zo Ht (Zo Cb ?_)
 refine Aj rfl BW rfl (fun j => AU) ?_
 refine Aj rfl BW rfl (fun j => BP rfl (Ar j) η) ?_
 refine Zo Ht (Zo Cb ?_)
 refine Aj rfl BW rfl (fun j => AU) ?_
 refine Aj rfl BW rfl (fun j => BP rfl (Ar j) η) ?_
 refine Zo Ht (Zo Cb ?_)
 refine Aj rfl BW rfl (fun j => AU) ?_
 refine Aj rfl BW rfl (fun j => BP rfl (Ar j) η) ?_
 refine Zo Ht (Zo Cb ?_)
 refine Aj rfl BW rfl (fun j => AU) ?_
 refine Dg rfl BW rfl (fun j => BN rfl (BU (v := .int _ _) (Ar j) (rfl)) func93 rfl ζ) (fun j => (H3 ).mono (fun e w' h => ⟨h.1, h.2⟩)) (fun J F2 => ?_)
 have I := F2.size
 replace C := Z0 C F2
 refine Aj rfl BW rfl (fun j => BP rfl (Ar j) η) ?_
 refine Zo Ht (Zn BV (AM G7 ?_))
 exact ⟨Bn (by rw [Bool.eq_iff_iff, decide_eq_true_iff, decide_eq_true_iff]; unfold Wt; omega), C⟩
theorem RX {s : Ac} {J : World} (hp : Wt (s.getD 0 0)) (h1 : 1 ≤ s.length) (hr : s.length ≤ 140737488355328) :
    Calls Tryz.prog 134 #[S s] J fun e w' => e = .returned (.tuple #[.agg #[.int .i64 1, S (s.take 1), .int .i64 0], .int .i64 1, .bool (decide (Wt (s.getD 0 0)))]) ∧ Evo J w' [] := by
 refine AG (n := 76) func134 rfl ntmps134 rfl ?_
 have o : Evo J J [] := Evo.refl _ _
 refine Zs (CU (zs := [_, _, _]) AY η rfl ?_)
 intro b1 w2 J1 E2 B1 Y1
 have Q2 := E2.size
 replace o := Z0 o E2
 refine Zo Am (Zn BV (AE (AK (Zs (Zo Ca (Zo (Bb (0) rfl underlying9 η η χ ω) (Zo DA (Zn BV (AH η (fun R => ?_) (fun R => ?_))))))))))
 exfalso; unfold Wt at hp; omega
 refine Zs (Zo Ca (Zo (Bb (0) rfl underlying9 η η χ ω) (Zo DA (Zn BV (AH η (fun U => ?_) (fun U => ?_))))))
 exfalso; unfold Wt at hp; omega
 refine Zs (Zo Ca (Zo (Bb (0) rfl underlying9 η η χ ω) (Zo DA (Zn BV (AH η (fun af => ?_) (fun af => ?_))))))
 exfalso; unfold Wt at hp; omega
 refine AJ (AX (AE ?_))
 have I := B1
 have al := o
 refine Aw ([b1]) ζ ?_
 intro w6 F7 j
 have Q6 := F7.size
 replace o := Z0 o F7
 replace B1 := B1.evo0 F7
 refine Zt (i := 0) η (fun w' C => Ca) j (Zt (i := 1) η (fun w' C => by exact GP (0) (1) rfl underlying9 η cx (W5 η χ) τ τ) j (Zt (i := 2) η (fun w' C => A2 (pv := [(0, .int _ _), (1, S _)]) (zs := [_, _, _]) (cells := [_, _, _]) rfl AY η Eu η η) j (Zt (i := 3) η (fun w' C => Ca) j (Zt (i := 4) η (fun w' C => Bb (0) rfl underlying9 η η χ ω) j ?_))))
 refine Zh (i := 5) ?_
 refine Zr [.int _ _] rfl η func200 Kg ?_
 rintro e w9 ⟨rfl, F9⟩
 refine ⟨_, rfl, ?_⟩
 have Q9 := F9.size
 replace o := Z0 o F9
 replace j := Z0 j F9
 replace B1 := B1.evo0 F9
 refine AZ j ?_
 refine Zh (i := 6) ?_
 refine Ai (v := .agg _) (vs := [_, _, _]) (cs' := [_, _, _]) η η B1 AY η rfl η rfl η ?_
 intro w10 E10 V10 hb_new
 have ao := E10.size
 replace o := Z1 o E10 ε
 replace B1 := hb_new
 clear hb_new
 refine Ah ζ ?_
 refine Zh (i := 7) ?_
 refine Zo Am ?_
 refine Ah ζ ?_
 refine Zh (i := 8) ?_
 refine Zo BV ?_
 refine Ah ζ ?_
 refine A5 ζ ?_
 refine AM (eh (cs := [_, _, _]) (u := .int _ _) (x := .bool _) rfl CP AY η rfl B1.at η η) ?_
 exact ⟨rfl, o⟩
set_option maxHeartbeats 1000000 in
theorem T8 {br base k : Nat} {mt : Option Nat} {vt : Value} {t s1 : Ac} {w0 : World} (J : Blk w0 br 214 [.slice none 0 0, vt, .int .i64 (k : Nat), .map mt]) (ht : OwnE w0 base 5 vt t) (bs : base ≤ w0.heap.size) (hk : k ≤ 500) (hl : t.length ≤ 500) (hs : s1.length ≤ 500) :
    Calls Tryz.prog 135 #[.pointer (some ⟨br, 0, none⟩), .agg #[.int .i64 1, S s1, .int .i64 0]] w0 fun e w' => ∃ bn, e = .returned (.int .i64 0) ∧ Evo w0 w' (br :: vt.ownBlock.toList) ∧ Blk w' br 214 [.slice none 0 0, bn, .int .i64 (k + 1 : Nat), .map mt] ∧ OwnE w' base 5 bn (t ++ s1) := by
 have I := J.at; have b4 := J.lt; have ba := fun g (o : vt.ownBlock = some g) => ht.block o; have aS := CT ht J υ
 refine AG (n := 123) func135 rfl ntmps135 rfl ?_
 have U : Evo w0 w0 (br :: vt.ownBlock.toList) := Evo.refl _ _
 refine Zs ?_
 have bS := fun g o => (ht.block (g := g) o).2
 refine CE (vs := [_, _, _]) η η rfl ?_
 intro b2 w3 J2 E3 B2 Y2
 have Q3 := E3.size
 replace U := Z0 U E3
 replace J := J.evo0 E3
 replace I := I.evo0 E3
 replace ht := ht.evo0 E3
 have j := B2.at
 refine Zn Am (Zs (Zo (AD rfl η CG) (Zo (AA rfl Ae η (j.cell 0 η)) (Zo (BP rfl η η) (Zo Cb ?_)))))
 refine Aj rfl BW rfl (fun o => AD rfl η CG) ?_
 refine Aj rfl BW rfl (fun o => AA rfl Ae (Ar o) (j.cell 0 η)) ?_
 refine Aj rfl BW rfl (fun o => BP rfl (Ar o) η) ?_
 refine Zo Ht (Zn BV (AE (Zs (Zn Cb (AH η (fun bf => ?_) (fun bf => ?_))))))
 exfalso; exact bf.1 rfl
 refine AJ (Zs (Zo EA (Zo (Au rfl η) (Zo (AD rfl η KK) (Zo (AA rfl DZ η (I.cell 0 η)) (Zo (AQ rfl η underlying33) (Zn Am (AE (Zs ?_)))))))))
 refine Zo EA (Zo (Au rfl η) (Zo (AD rfl η Fs) (Zo (AA rfl Mr η (I.cell 1 η)) (Zo (Ci rfl η underlying157 ht) (Zn Ve (EC [8, 58, 59] (fun g w => ∃ z1 : Int, g 8 = .int .i64 z1 ∧ Blk w br 214 [.slice none 0 0, vt, .int .i64 (k : Nat), .map mt] ∧ OwnE w base 5 vt t ∧ Blk w b2 71 [.int .i64 1, S s1, .int .i64 0] ∧ (0 ≤ z1 ∧ z1 ≤ 1) ∧ w3.heap.size ≤ w.heap.size ∧ Evo w0 w (br :: vt.ownBlock.toList)) ?_ ?_))))))
 refine AH η (fun bt => ?_) (fun bt => ?_)
 refine AB (Zo AU (Zo Br (Zn Am (Ad ?_ ?_))))
 refine ⟨_, σ, J, ht, B2, δ, δ, U⟩
 exact ψ
 refine AJ (Ad ?_ ?_)
 refine ⟨_, σ, J, ht, B2, δ, δ, U⟩
 exact ψ
 rintro g w7 ⟨z1, hj8, J, ht, B2, hz1, hzl5, U⟩
 have bl := U.size
 have bR := J.lt
 have bx := B2.lt
 have I := J.at
 have j := B2.at
 refine Zk 8 hj8 (AE (Zs (Zo (AD rfl η CG) (Zo (AA rfl Ae η (j.cell 0 η)) (Zo (BP rfl η η) (Zo Cb ?_))))))
 refine Aj rfl BQ rfl (fun o => EA) ?_
 refine Aj rfl BQ rfl (fun o => Au rfl (Ar o)) ?_
 refine Aj rfl BQ rfl (fun o => AD rfl (Ar o) Fs) ?_
 refine Aj rfl BQ rfl (fun o => AA rfl Mr (Ar o) (I.cell 1 η)) ?_
 refine Aj rfl BQ rfl (fun o => Ci rfl (Ar o) underlying157 ht) ?_
 refine Aj rfl BQ rfl (fun o => BK rfl (Ar o) η) ?_
 refine Zn FW (EC [8, 71, 72] (fun g w => ∃ z2 : Int, g 8 = .int .i64 z2 ∧ Blk w br 214 [.slice none 0 0, vt, .int .i64 (k : Nat), .map mt] ∧ OwnE w base 5 vt t ∧ Blk w b2 71 [.int .i64 1, S s1, .int .i64 0] ∧ (0 ≤ z2 ∧ z2 ≤ 2) ∧ w7.heap.size ≤ w.heap.size ∧ Evo w0 w (br :: vt.ownBlock.toList)) ?_ ?_)
 refine AH η (fun bc => ?_) (fun bc => ?_)
 refine AB (Zo AU (Zo Br (Zn Am (Ad ?_ ?_))))
 refine ⟨_, σ, J, ht, B2, δ, δ, U⟩
 exact ψ
 refine AJ (Ad ?_ ?_)
 refine ⟨_, σ, J, ht, B2, δ, δ, U⟩
 exact ψ
 rintro g b5 ⟨z2, hj14, J, ht, B2, hz2, hzl11, U⟩
 have bb := U.size
 have bz := J.lt
 have bA := B2.lt
 have I := J.at
 have j := B2.at
 refine Zk 8 hj14 (AE (Zs (Zo AU (Zo Ve (Zo Cb ?_)))))
 refine Aj rfl BQ rfl (fun o => EA) ?_
 refine Aj rfl BQ rfl (fun o => Au rfl (Ar o)) ?_
 refine Aj rfl BQ rfl (fun o => AD rfl (Ar o) OJ) ?_
 refine Aj rfl BQ rfl (fun o => AA rfl Ae (Ar o) (I.cell 2 η)) ?_
 refine Aj rfl BQ rfl (fun o => Bl rfl (Ar o) η ω ω) ?_
 refine Aj rfl BQ rfl (fun o => C6 rfl (Ar o) η) ?_
 refine Zn FW (AH η (fun bd => ?_) (fun bd => ?_))
 exfalso; omega
 refine AJ (Zs (Zo EA (Zo (Au rfl η) (Zo (AD rfl η OJ) (Zo (AA rfl Ae η (I.cell 2 η)) (Zo Br (Zo (Au rfl η) (Zo (AD rfl η OJ) (Ai (v := .int _ _) (vs := [_]) (cs' := [_, _, _, _]) η η J Bd η rfl η rfl η ?_)))))))))
 intro w18 E18 V18 hb_new
 have bX := E18.size
 replace U := Z1 U E18 (.inr (by simp))
 replace ht := ht.evo E18 (by intro g o hm; simp at hm; subst hm; exact aS _ o rfl)
 replace B2 := B2.evo E18 θ
 replace j := j.evo E18 θ
 replace J := hb_new
 have I := J.at
 clear hb_new
 refine Ag (AE (Zs (Zo (AD rfl η CG) (Zo (AA rfl Ae η (j.cell 0 η)) (Zn DA (AH η (fun a1 => ?_) (fun a1 => ?_)))))))
 refine AE ?_
 have bo := B2
 have az := j
 have a_ := I
 have bQ := J
 have bM := U
 have ag := fun {g : Nat} (o : _ = some g) => ht.block (g := g) o
 refine Aw (vt.ownBlock.toList) ζ ?_
 intro w20 F21 C
 have bY := F21.size
 replace U := Z0 U F21
 replace ht := ht.evo0 F21
 replace B2 := B2.evo0 F21
 replace j := j.evo0 F21
 replace I := I.evo0 F21
 replace J := J.evo0 F21
 refine Zt (i := 0) η (fun w' hC => EA) C (Zt (i := 1) η (fun w' hC => EA) C (Zt (i := 2) η (fun w' hC => Au rfl η) C (Zt (i := 3) η (fun w' hC => AD rfl η Fs) C (Zt (i := 4) η (fun w' hC => AA rfl Mr η ((a_.evo hC (fun hm => by have h8 := ag (Option.mem_toList.1 hm); exact aS _ (Option.mem_toList.1 hm) rfl)).cell 1 η)) C (Zt (i := 5) η (fun w' hC => AD rfl η Bp) C (Zt (i := 6) η (fun w' hC => AA rfl BX η ((az.evo hC (fun hm => by have h8 := ag (Option.mem_toList.1 hm); have h7 := (ba _ (Option.mem_toList.1 hm)).2; omega)).cell 1 η)) C ?_))))))
 refine Zh (i := 7) ?_
 refine FU rfl underlying157 underlying9 Hp rfl ht η η τ ω ?_
 intro v23 w24 E24 R
 have b0 := E24.size
 replace U := AP U E24 (fun g o => .inr (List.mem_cons_of_mem _ (Option.mem_toList.2 o)))
 replace C := AP C E24 (fun g o => .inr (Option.mem_toList.2 o))
 replace B2 := B2.evo E24 (by intro hm; have h7 := (ba _ (Option.mem_toList.1 hm)).2; omega)
 replace j := j.evo E24 (by intro hm; have h7 := (ba _ (Option.mem_toList.1 hm)).2; omega)
 replace I := I.evo E24 (by intro hm; exact aS _ (Option.mem_toList.1 hm) rfl)
 replace J := J.evo E24 (by intro hm; exact aS _ (Option.mem_toList.1 hm) rfl)
 refine AZ C ?_
 refine Zt (i := 8) η (fun w' hC => Au rfl η) C (Zt (i := 9) η (fun w' hC => AD rfl η Fs) C ?_)
 refine Zh (i := 10) ?_
 obtain ⟨bB, bF, bm⟩ := R.shape
 subst bm
 refine Ai (v := .slice _ _ _) (vs := [_]) (cs' := [_, _, _, _]) η η J YE η rfl η rfl η ?_
 intro w26 E26 V26 hb_new
 have b1 := E26.size
 replace U := Z1 U E26 (.inr (by simp))
 replace B2 := B2.evo E26 θ
 replace j := j.evo E26 θ
 replace R := R.evo E26 (by intro g o hm; simp at hm; subst hm; exact CT R J υ _ o rfl)
 replace J := hb_new
 clear hb_new
 refine Ah ζ ?_
 refine A5 ζ ?_
 refine Zs (Zn Am (AM C3 ?_))
 exact ⟨_, rfl, U, J, R⟩
 exfalso; exact a1 rfl
set_option maxHeartbeats 1000000 in
theorem Qp {br base k : Nat} {mt : Option Nat} {vt : Value} {t : Ac} {U : World} (o : Blk U br 214 [.slice none 0 0, vt, .int .i64 (k : Nat), .map mt]) (ht : OwnE U base 5 vt t) (aT : base ≤ U.heap.size) (hl : t.length ≤ 500) :
    Calls Tryz.prog 136 #[.pointer (some ⟨br, 0, none⟩)] U fun e w' => ∃ ao n cp bb, e = .returned (.tuple #[]) ∧ Evo U w' [br] ∧ Blk w' br 214 [.slice ao n cp, bb, .int .i64 (k : Nat), .map mt] := by
 obtain ⟨bs, gT, bz, ba, az, bF⟩ := ht.rowOf
 have bL := CT ht o υ
 subst ba
 have al := o.at; have bA := o.lt
 refine AG (n := 26) func136 rfl ntmps136 rfl ?_
 have J : Evo U U [br] := Evo.refl _ _
 have au := az.bd
 refine Zs (Zo EA (Zo (Au rfl η) (Zo (AD rfl η Fs) (Zo (AA rfl Mr η (al.cell 1 η)) (Zo (AQ rfl η underlying157) (Zn Ve (AH η (fun a1 => ?_) (fun a1 => ?_))))))))
 refine AE ?_
 have bf := o
 have R := al
 have af := az
 have bc := J
 refine Aw ([]) ζ ?_
 intro w2 F3 j
 have Q2 := F3.size
 replace J := Z0 J F3
 replace o := o.evo0 F3
 refine Zt (i := 0) η (fun w' C => EA) j (Zt (i := 1) η (fun w' C => EA) j (Zt (i := 2) η (fun w' C => Au rfl η) j (Zt (i := 3) η (fun w' C => AD rfl η KK) j (Zt (i := 4) η (fun w' C => AA rfl DZ η ((R.evo0 C).cell 0 η)) j (Zt (i := 5) η (fun w' C => EA) j (Zt (i := 6) η (fun w' C => Au rfl η) j (Zt (i := 7) η (fun w' C => AD rfl η Fs) j (Zt (i := 8) η (fun w' C => AA rfl Mr η ((R.evo0 C).cell 1 η)) j (Zt (i := 9) η (fun w' C => Hy rfl underlying157 underlying5 underlying9 η (by first | rfl | simp) (af.evo0 C)) j ?_)))))))))
 refine Zt (i := 10) η (fun w' C => A2 (pv := [(0, .int _ _), (1, S _)]) (zs := [_, _, _]) (cells := [_, _, _]) rfl AY η Eu η η) j ?_
 refine Zh (i := 11) ?_
 refine BT (pv := [(0, .agg _)]) (zs := [_, _, _]) (cs := [_, _, _]) underlying33 AY η rfl η rfl η ?_
 intro b5 w6 J5 E6 B5 Y5
 have Q6 := E6.size
 replace J := Z0 J E6
 replace j := Z0 j E6
 replace o := o.evo0 E6
 have aS : RowE w6 (some ⟨b5, 0, none⟩) b5 0 1 ([⟨1, t, 0⟩] : List Vc.Item) := CH ([⟨1, t, 0⟩] : List Vc.Item) B5 rfl rfl
 refine AZ j ?_
 refine Zh (i := 12) ?_
 refine Bs rfl underlying33 AY η (OwnE.nil (α := Vc.Item) _ U.heap.size _) η η aS rfl (by simp) (by simp) ω ?_
 intro v7 w8 E8 I hlv7
 have Q8 := E8.size
 replace J := Z0 J E8
 replace j := Z0 j E8
 replace o := o.evo0 E8
 refine AZ j ?_
 refine Zt (i := 13) η (fun w' C => Au rfl η) j (Zt (i := 14) η (fun w' C => AD rfl η KK) j ?_)
 refine Zh (i := 15) ?_
 obtain ⟨bq, bx, a_⟩ := I.shape
 subst a_
 refine Ai (v := .slice _ _ _) (vs := [_]) (cs' := [_, _, _, _]) η η o NV η rfl η rfl η ?_
 intro w10 E10 V10 hb_new
 have bn := E10.size
 replace J := Z1 J E10 (.inr (by simp))
 replace I := I.evo E10 (by intro g hg hm; simp at hm; subst hm; have := I.block hg; omega)
 replace o := hb_new
 clear hb_new
 refine Ah ζ ?_
 refine A5 ζ ?_
 refine AB (Zo EA (Zo (Au rfl η) (Zo (AD rfl η Fs) (Ai (v := .slice _ _ _) (vs := [_]) (cs' := [_, _, _, _]) η η o YE η rfl η rfl η ?_))))
 intro w11 E11 V11 hb_new
 have bo := E11.size
 replace J := Z1 J E11 (.inr (by simp))
 replace o := hb_new
 clear hb_new
 refine Ag (cK (fA rfl) ?_)
 exact ⟨_, _, _, _, rfl, J, o⟩
 refine AJ (cK (fA rfl) ?_)
 exact ⟨_, _, _, _, rfl, J, o⟩
theorem Ij (s : Ac) (k : Nat) : (s.drop k).take (s.length - k) = s.drop k := List.take_of_length_le (by rw [List.length_drop]; exact Nat.le_refl _)
theorem PC (s : Ac) (k : Nat) (h : k < s.length) : ((s.drop k).take (s.length - k)).take 1 = [s.getD k default] := by
  rw [Ij, List.drop_eq_getElem_cons h, List.take_succ_cons, List.take_zero]; simp [List.getD, h]
set_option maxHeartbeats 1000000 in
theorem FN {s : Ac} {w0 : World} (hp : ∀ j, j < s.length → Wt (s.getD j 0)) (hl : s.length ≤ 100) :
    Calls Tryz.prog 71 #[S s] w0 fun e w' => ∃ ao n cp, e = .returned (.tuple #[.slice ao n cp, .int .i64 0, .int .i64 0]) ∧ Evo w0 w' [] := by
 refine AG (n := 39) func71 rfl ntmps71 rfl ?_
 have o : Evo w0 w0 [] := Evo.refl _ _
 refine Zs (Zo Ew (Zo Am (Zn Am (Zs (DF (α := Int) (β := Vc.Item) (Value.int .i64) (fun x : Vc.Item => Value.agg (Enc.enc x).toArray) rfl ?_)))))
 intro b1 w2 J1 E2 ag Y1
 have Q2 := E2.size
 replace o := Z0 o E2
 refine Zo (A2 (pv := [(3, .map _)]) (zs := [_, _, _, _]) (cells := [_, _, _, _]) rfl Zc η dD η η) (Bq (zs := [_, _, _, _]) (vs := [_, _, _, _]) Zc η rfl η (fun _ => rfl) η rfl rfl η ?_)
 intro b3 w4 J3 E4 B3 Y3
 have Q4 := E4.size
 replace o := Z0 o E4
 replace ag := ag.evo0 E4
 refine Ag (AE (AK (Aq (α := Nat) [2, 3, 4, 6, 7, 8, 9, 12, 13, 14, 15, 16, 17, 18, 19, 20, 21, 22, 23, 24, 25, 26, 27, 28, 29, 30, 31, 32, 33, 34, 35] (fun k g w => ∃ vt : Value, g 3 = .int .i64 (k : Nat) ∧ Blk w b3 214 [.slice none 0 0, vt, .int .i64 (k : Nat), .map (some b1)] ∧ OwnE w w0.heap.size 5 vt (s.take k) ∧ k ≤ s.length ∧ w4.heap.size ≤ w.heap.size ∧ Evo w0 w []) (fun k => s.length - k) 0 ?_ ?_)))
 refine ⟨(.slice none 0 0), σ, B3, (OwnE.nil _ _ _), δ, δ, o⟩
 rintro k g w6 ⟨vt, hj7, I, R, hks, hzl5, o⟩
 have az := o.size
 have ba := I.lt
 have C := I.at
 refine Zk 3 hj7 (AE (Zs (Zo AU (Zo Ca (Zo (Bz rfl η underlying9) (Zn Dn (AH η (fun aT => ?_) (fun aT => ?_))))))))
 refine AJ (AK (AE ?_))
 have au : Wt (((s.drop k).take (s.length - k)).getD 0 0) := by rw [Ij]; have h9 := hp k ω; simpa [List.getD, List.getElem?_drop] using h9
 refine AB (Zo Ca (Zo AU (Zo (by exact GP (k) (_) rfl underlying9 η (W5 η ω) Zp τ τ) (Zr [S _] rfl η func134 (RX (s := (s.drop k).take (s.length - k)) au (by rw [Ij, List.length_drop]; omega) (by rw [Ij, List.length_drop]; omega)) ?_))))
 rintro e br ⟨rfl, F10⟩
 refine ⟨_, rfl, ?_⟩
 have bc := F10.size
 replace o := Z0 o F10
 replace I := I.evo0 F10
 replace R := R.evo0 F10
 replace C := C.evo0 F10
 refine Zo PW (Zo (AI (v := .agg _) rfl η η) (Zo (AI (v := .int _ _) rfl η η) (Zo (AI (v := .bool _) rfl η η) ?_)))
 have a1 := fun g hg => (R.block (g := g) hg).2
 refine Bq (zs := [_, _, _]) (vs := [_, _, _]) AY η rfl η (fun _ => rfl) η rfl rfl η ?_
 intro b12 w13 J12 E13 B12 Y12
 have bd := E13.size
 replace o := Z0 o E13
 replace I := I.evo0 E13
 replace R := R.evo0 E13
 replace C := C.evo0 E13
 refine Zo Am (Zn BV (AE (Zs (Zo Cb (Zn (Cd rfl η) (AH η (fun U => ?_) (fun U => ?_)))))))
 exfalso; exact U au
 refine AJ (AE (Zs (Zo (AL rfl CP AY η rfl B12.at) (Zr [.pointer _, .agg _] rfl η func135 (T8 I R ω ω (by rw [List.length_take]; omega) (by rw [PC _ _ ω]; simp)) ?_))))
 rintro e bs ⟨bb, rfl, F15, hn15, ho15⟩
 refine ⟨_, rfl, ?_⟩
 have bf := F15.size
 replace o := CL o F15 (fun b9 aS => .inl (by rcases List.mem_cons.1 aS with h8 | h8; (subst h8; omega); (have h7 := (R.block (Option.mem_toList.1 h8)).1; omega)))
 replace I := hn15; replace R := ho15; have C := I.at
 refine Zn Am (Zs (Zo AU (Zn (BP rfl η η) (AH η (fun af => ?_) (fun af => ?_)))))
 exfalso; exact af rfl
 refine AJ (AB (Zo AU (Zo AU (Zo Br (Zn Am (AX (Zg (k + 1) ?_)))))))
 refine ⟨_, σ, I, (by rw [A7 _ k ω, ← PC _ k ω]; exact R), δ, δ, o⟩
 refine Ak rfl (Zs (Zr [.pointer _] rfl η func136 (Qp I R ω (by rw [List.length_take]; omega)) ?_))
 rintro e bt ⟨J, nf17, cpf17, vtf17, rfl, F17, hn17⟩
 refine ⟨_, rfl, ?_⟩
 have bl := F17.size
 replace o := Z1 o F17 (.inl ω)
 replace I := hn17; have C := I.at
 refine Ag (Zs (Zo (AD rfl η KK) (Zo (AA rfl DZ η (C.cell 0 η)) (Zo (AR (v := (.slice J nf17 cpf17)) rfl η) (Zo Am (Zn Am (AM (aw (v := (.slice J nf17 cpf17)) (u := .int _ _) (x := .int _ _) rfl η η η) ?_)))))))
 exact ⟨_, _, _, rfl, o⟩
end Go.Proofs.YtbgmlpbgofcfjaaGreatDoor
namespace Go.Vc
open Go Go.RowKit Go.IntWalk
section
variable {P : Program} {f : Fr} {w : World} {o : Oper}
theorem X8 {t t2 : TypeId} {x y : Operand} {j : IntKind} {a : Nat} {m : Nat} (ho : o.op = .binOp .shr t x y t2) (hx : opv f x = .int .u8 (a : Int)) (hy : opv f y = .int j (m : Int)) (hm : m ≤ 8) :
    (execOp (opv f) o).run P w = .ok (.value (.int .u8 ((a / 2 ^ m : Nat) : Int))) w := by
  have U : ¬ ((m : Int) < 0) := by omega
  have C : min m 8 = m := by omega
  have I : ((a : Int)).fdiv (2 ^ m) = ((a / 2 ^ m : Nat) : Int) := by
    rw [Int.fdiv_eq_ediv_of_nonneg _ (by exact Int.le_of_lt (Int.pow_pos υ))]
    norm_cast
  have J : (binOp .shr t (.int .u8 (a : Int)) (.int j (m : Int))).run P w = .ok (.int .u8 ((a / 2 ^ m : Nat) : Int)) w := by
    simp [binOp, Op.shift, U, IntKind.bits, C, I]
  unfold execOp
  rw [ho]
  simp only []
  rw [hx, hy]
  have R : (eqGuard .shr t x y (.int .u8 (a : Int)) (.int j (m : Int))).run P w = .ok () w := rfl
  simp [R, J]
theorem Xu {t t2 : TypeId} {x y : Operand} {a b : Nat} (R : o.op = .binOp .and t x y t2) (U : opv f x = .int .u8 (a : Int)) (hy : opv f y = .int .u8 (b : Int)) (J : a < 256) (hb : b < 256) :
    (execOp (opv f) o).run P w = .ok (.value (.int .u8 ((a &&& b : Nat) : Int))) w := by
  refine DM R U hy ?_
  have h1 : (BitVec.ofInt 8 (a : Int)) &&& (BitVec.ofInt 8 (b : Int)) = BitVec.ofNat 8 (a &&& b) := by
    rw [BitVec.ofInt_natCast, BitVec.ofInt_natCast, BitVec.ofNat_and]
  have j : a &&& b < 256 := Nat.lt_of_le_of_lt Nat.and_le_left J
  have C : IntKind.u8.wrap ((BitVec.ofNat 8 (a &&& b)).toNat : Int) = ((a &&& b : Nat) : Int) := by
    rw [BitVec.toNat_ofNat, Nat.mod_eq_of_lt (by simpa using j)]
    unfold IntKind.wrap
    have I : ((a &&& b : Nat) : Int) % 2 ^ IntKind.u8.bits = ((a &&& b : Nat) : Int) := Int.emod_eq_of_lt ω (by show ((a &&& b : Nat) : Int) < 2 ^ 8; omega)
    simp only [I]; rfl
  show (binOp .and t (.int .u8 (a : Int)) (.int .u8 (b : Int))).run P w = _
  simp only [binOp, Op.intBits]
  rw [show IntKind.u8.bits = 8 from rfl, h1, C]
  rfl
theorem R2 {t t2 : TypeId} {x y : Operand} {j : IntKind} {a : Nat} {m : Nat} (ho : o.op = .binOp .shr t x y t2) (hx : opv f x = .int .u64 (a : Int)) (hy : opv f y = .int j (m : Int)) (hm : m ≤ 64) :
    (execOp (opv f) o).run P w = .ok (.value (.int .u64 ((a / 2 ^ m : Nat) : Int))) w := by
  have U : ¬ ((m : Int) < 0) := by omega
  have C : min m 64 = m := by omega
  have I : ((a : Int)).fdiv (2 ^ m) = ((a / 2 ^ m : Nat) : Int) := by
    rw [Int.fdiv_eq_ediv_of_nonneg _ (by exact Int.le_of_lt (Int.pow_pos υ))]
    norm_cast
  have J : (binOp .shr t (.int .u64 (a : Int)) (.int j (m : Int))).run P w = .ok (.int .u64 ((a / 2 ^ m : Nat) : Int)) w := by
    simp [binOp, Op.shift, U, IntKind.bits, C, I]
  unfold execOp
  rw [ho]
  simp only []
  rw [hx, hy]
  have R : (eqGuard .shr t x y (.int .u64 (a : Int)) (.int j (m : Int))).run P w = .ok () w := rfl
  simp [R, J]
theorem RU {T U : TypeId} {x : Operand} {a : Nat} (J : o.op = .convert T U x) (C : P.underlying T = some (.int .i64)) (I : P.underlying U = some (.int .u64)) (R : opv f x = .int .i64 (a : Int)) (ha : a ≤ 9223372036854775807) :
    (execOp (opv f) o).run P w = .ok (.value (.int .u64 (a : Int))) w := by
  have h := Ol (w := w) J C I R
  have e : IntKind.u64.wrap (a : Int) = (a : Int) := by
    unfold IntKind.wrap
    have j : (a : Int) % 2 ^ IntKind.u64.bits = (a : Int) := Int.emod_eq_of_lt ω (by show (a : Int) < 2 ^ 64; omega)
    simp only [j]; rfl
  rw [e] at h; exact h
theorem RW {T U : TypeId} {x : Operand} {a : Nat} (J : o.op = .convert T U x) (C : P.underlying T = some (.int .u64)) (I : P.underlying U = some (.int .i64)) (R : opv f x = .int .u64 (a : Int)) (ha : a ≤ 9223372036854775807) :
    (execOp (opv f) o).run P w = .ok (.value (.int .i64 (a : Int))) w := by
  have h := Ol (w := w) J C I R
  have e : IntKind.i64.wrap (a : Int) = (a : Int) := by
    unfold IntKind.wrap
    have j : (a : Int) % 2 ^ IntKind.i64.bits = (a : Int) := Int.emod_eq_of_lt ω (by show (a : Int) < 2 ^ 64; omega)
    simp only [j]
    rw [if_neg]
    simp only [Bool.and_eq_true, decide_eq_true_eq, not_and]
    intro _; show ¬ ((2 : Int) ^ 63 ≤ (a : Int)); omega
  rw [e] at h; exact h
end
end Go.Vc
namespace Go.Proofs
open Go.Shelf Go.Proofs.Tryz
def Tryz.laysM171_ren : Go.Shelf.Ren := ⟨fun | 171 => 174 | 243 => 222 | 246 => 257 | 283 => 279 | 284 => 280 | 285 => 281 | 286 => 282 | 129 => 161 | 317 => 294 | 318 => 295 | 319 => 296 | 320 => 297 | 337 => 306 | 338 => 307 | n => n, fun | 3 => 3 | 9 => 9 | 2 => 2 | 4 => 4 | 171 => 369 | 0 => 0 | 53 => 238 | 37 => 157 | 5 => 5 | 173 => 371 | 212 => 394 | 51 => 236 | 20 => 20 | 213 => 395 | 46 => 193 | 232 => 140 | 233 => 424 | n => n, fun | 17 => 1 | 18 => 4 | 19 => 5 | n => n⟩
theorem Tryz.laysM171 : Go.Proofs.LaysM.n171 Tryz.prog Tryz.laysM171_ren := {
  mixed := by kernel_rfl
  f129 := Tryz.func161.trans (congrArg some (by kernel_rfl))
  f171 := Tryz.func174.trans (congrArg some (by kernel_rfl))
  f243 := Tryz.func222.trans (congrArg some (by kernel_rfl))
  f246 := Tryz.func257.trans (congrArg some (by kernel_rfl))
  f283 := Tryz.func279.trans (congrArg some (by kernel_rfl))
  f284 := Tryz.func280.trans (congrArg some (by kernel_rfl))
  f285 := Tryz.func281.trans (congrArg some (by kernel_rfl))
  f286 := Tryz.func282.trans (congrArg some (by kernel_rfl))
  f317 := Tryz.func294.trans (congrArg some (by kernel_rfl))
  f318 := Tryz.func295.trans (congrArg some (by kernel_rfl))
  f319 := Tryz.func296.trans (congrArg some (by kernel_rfl))
  f320 := Tryz.func297.trans (congrArg some (by kernel_rfl))
  f337 := Tryz.func306.trans (congrArg some (by kernel_rfl))
  f338 := Tryz.func307.trans (congrArg some (by kernel_rfl))
  t0 := underlying0
  a0 := isAgg0
  z0 := sizeOf0
  v0 := zeroValue0
  t2 := underlying2
  a2 := isAgg2
  z2 := sizeOf2
  v2 := zeroValue2
  t3 := underlying3
  a3 := isAgg3
  z3 := sizeOf3
  v3 := zeroValue3
  t4 := underlying4
  a4 := isAgg4
  z4 := sizeOf4
  v4 := zeroValue4
  t5 := underlying5
  a5 := isAgg5
  z5 := sizeOf5
  v5 := zeroValue5
  t9 := underlying9
  a9 := isAgg9
  z9 := sizeOf9
  v9 := zeroValue9
  t20 := underlying20
  a20 := isAgg20
  z20 := sizeOf20
  v20 := zeroValue20
  t37 := underlying157
  a37 := isAgg157
  z37 := sizeOf157
  v37 := zeroValue157
  t46 := underlying193
  a46 := isAgg193
  z46 := sizeOf193
  v46 := zeroValue193
  t51 := underlying236
  a51 := isAgg236
  z51 := sizeOf236
  v51 := zeroValue236
  t53 := underlying238
  a53 := isAgg238
  z53 := sizeOf238
  v53 := zeroValue238
  t171 := underlying369
  a171 := isAgg369
  z171 := sizeOf369
  v171 := zeroValue369
  t173 := underlying371
  a173 := isAgg371
  z173 := sizeOf371
  v173 := zeroValue371
  t212 := underlying394
  a212 := isAgg394
  z212 := sizeOf394
  v212 := zeroValue394
  t213 := underlying395
  a213 := isAgg395
  z213 := sizeOf395
  t232 := underlying140
  a232 := isAgg140
  z232 := sizeOf140
  v232 := zeroValue140
  t233 := underlying424
  a233 := isAgg424
  z233 := sizeOf424
  v233 := zeroValue424
  g17 := by kernel_rfl
  g18 := by kernel_rfl
  g19 := by kernel_rfl
  i0 := by kernel_rfl
  i2 := by kernel_rfl
  i3 := by kernel_rfl
  i4 := by kernel_rfl
  i5 := by kernel_rfl
  i9 := by kernel_rfl
  i20 := by kernel_rfl
  i37 := by kernel_rfl
  i46 := by kernel_rfl
  i51 := by kernel_rfl
  i53 := by kernel_rfl
  i171 := by kernel_rfl
  i173 := by kernel_rfl
  i212 := by kernel_rfl
  i232 := by kernel_rfl
  i233 := by kernel_rfl
  m17 := by kernel_rfl
  m18 := by kernel_rfl
  m19 := by kernel_rfl }
open Go.RowKit Go.Sort Go.Lib in
theorem Tryz.strconv_Itoa (n : Int) (C : -9223372036854775808 ≤ n) (h1 : n ≤ 9223372036854775807) (w : World) (j : Lib.TabIs Tryz.prog w "internal/strconv.uint64pow10" .u64 Lib.pow10Tab) :
    Calls Tryz.prog 174 #[.int .i64 n] w fun e w' => e = .returned (.string ⟨(Lib.itoa n).toArray⟩) ∧ ∃ k os, w' = grow (w.drewN k) os := Any.strconv_Itoa Tryz.laysM171 n C h1 w j
end Go.Proofs
namespace Go.Proofs.YtbgmlpbgofcfjaaGreatDoor
open Go.RowKit Go.Vc Go.Proofs.Tryz
theorem Wy {v2 v j : Value} {n m : Nat} (h : v2.ownBlock = v.ownBlock ∨ ∃ q, v2.ownBlock = some q ∧ n ≤ q) (hm : m ≤ n) (C : v.ownBlock = j.ownBlock ∨ ∃ g, v.ownBlock = some g ∧ m ≤ g) : v2.ownBlock = j.ownBlock ∨ ∃ g, v2.ownBlock = some g ∧ m ≤ g := by
  rcases h with h | ⟨q, h, hq⟩
  · rw [h]; exact C
  · exact .inr ⟨q, h, Nat.le_trans hm hq⟩
theorem Ze {v2 v j : Value} {n m : Nat} (h : v2.ownBlock = v.ownBlock ∨ v2.ownBlock = some n) (hm : m ≤ n) (C : v.ownBlock = j.ownBlock ∨ ∃ g, v.ownBlock = some g ∧ m ≤ g) : v2.ownBlock = j.ownBlock ∨ ∃ g, v2.ownBlock = some g ∧ m ≤ g :=
  Wy (h.imp id fun h => ⟨n, h, Nat.le_refl _⟩) hm C
theorem Ng {v C : Value} {g m : Nat} (I : v.ownBlock = C.ownBlock ∨ ∃ q, v.ownBlock = some q ∧ m ≤ q) (j : v.ownBlock = some g) : m ≤ g ∨ g ∈ C.ownBlock.toList := by
  rcases I with h | ⟨q, h, h2⟩
  · exact .inr (Option.mem_toList.2 (h ▸ j))
  · rw [h] at j; injection j with j; exact .inl ω
set_option maxHeartbeats 1000000 in
theorem Tf {base : Nat} {vb : Value} {t s : Ac} {w0 : World} (j : OwnE w0 base 5 vb t) (bd : base ≤ w0.heap.size) (hl : t.length ≤ 1000000) (hs : s.length ≤ 100000) :
    Calls Tryz.prog 202 #[vb, S s] w0 fun e w' => ∃ v x, e = .returned v ∧ x.length ≤ 4 * s.length ∧ Evo w0 w' vb.ownBlock.toList ∧ OwnE w' base 5 v (t ++ x) ∧ (v.ownBlock = vb.ownBlock ∨ ∃ g, v.ownBlock = some g ∧ w0.heap.size ≤ g) := by
 have C : vb.ownBlock = vb.ownBlock ∨ ∃ g, vb.ownBlock = some g ∧ w0.heap.size ≤ g := .inl rfl
 refine AG (n := 60) func202 rfl ntmps202 rfl ?_
 have J : Evo w0 w0 vb.ownBlock.toList := Evo.refl _ _
 refine Zs (Zn Ew (AE (Zs (Zn Am (AK (Aq (α := Nat) [0, 5, 6, 7, 8, 9, 10, 11, 12, 13, 14, 15, 16, 17, 18, 19, 20, 21, 22, 23, 24, 25, 26, 27, 28, 29, 30, 31, 32, 33, 34, 35, 36, 37, 38, 39, 40, 41, 42, 43, 44, 45, 46, 47, 48, 49, 50, 51, 52, 53, 54, 55, 56, 57, 58] (fun k g w => ∃ vl : Value, ∃ x : Ac, g 5 = .int .i64 (k : Nat) ∧ g 0 = vl ∧ OwnE w base 5 vl (t ++ x) ∧ (vl.ownBlock = vb.ownBlock ∨ ∃ g, vl.ownBlock = some g ∧ w0.heap.size ≤ g) ∧ (k ≤ s.length ∧ x.length ≤ 4 * k) ∧ w0.heap.size ≤ w.heap.size ∧ Evo w0 w vb.ownBlock.toList) (fun k => s.length - k) 0 ?_ ?_))))))
 refine ⟨_, [], σ, rfl, (by rw [List.append_nil]; exact j), (.inl rfl), (by simp), δ, J⟩
 rintro k g w2 ⟨vl, x, hj3, hj4, j, C, hks, hzl1, J⟩
 have bc := J.size
 refine Zk 5 hj3 (Zk 0 hj4 (AE (Zs (Zo AU (Zo Ca (Zo (Bz rfl η underlying9) (Zn Dn (AH η (fun bf => ?_) (fun bf => ?_)))))))))
 refine AJ (AE (AK (AE ?_)))
 have bB := (s.getD k 0).toNat_lt
 have hand : ((s.getD k 0).toNat &&& 15) ≤ 15 := Nat.and_le_right
 refine AB (Zo Ca (Zo AU (Zo (Bb (k) rfl underlying9 η η χ ω) (Zn Am (AK (Zs (Zo AU (Zr [.int _ _] rfl η func200 Kg ?_))))))))
 rintro e w6 ⟨rfl, F6⟩
 refine ⟨_, rfl, ?_⟩
 have Q6 := F6.size
 replace J := Z0 J F6
 replace j := j.evo0 F6
 refine Zn BV (AH η (fun bl => ?_) (fun bl => ?_))
 refine AB (Zo (AN (v := vl) rfl η) (Zo AU (BL (u := .int _ _) (y := (s.getD k 0)) rfl rfl underlying157 Hp η j (fun _ => η) η ξ₁ (τ) (τ) ω ?_)))
 intro q_v8 v8 w9 E9 hov8 hlv8
 have Q9 := E9.size
 replace J := AP J E9 (fun g R => Ng C R)
 refine Zn (AR (v := v8) rfl η) (AX (AX (AB (Zo AU (Zo Br (Zn Am (Zg (k + 1) ?_)))))))
 refine ⟨_, _, σ, rfl, (by have U := hov8; rw [List.append_assoc] at U; exact U), (by first | exact Wy hlv8 ω C | exact Ze hlv8 ω C), (by rw [List.length_append]; simp only [List.length_cons, List.length_nil]; omega), δ, J⟩
 refine Zs (Zo AU (Zo DA (Zn BV (AH η (fun a1 => ?_) (fun a1 => ?_)))))
 refine AB (Zo (AN (v := vl) rfl η) (BT (pv := [(0, .int _ _), (1, .int _ _)]) (zs := [_]) (cs := [_, _]) underlying157 Hp η rfl η rfl η ?_))
 intro b11 w12 J11 E12 B11 Y11
 have bn := E12.size
 replace J := Z0 J E12
 replace j := j.evo0 E12
 have ao : RowE w12 (some ⟨b11, 0, none⟩) b11 0 2 ([92, 110] : Ac) := CH ([92, 110] : Ac) B11 rfl rfl
 refine Bs rfl underlying157 Hp η j η η ao rfl θ θ ω ?_
 intro v13 w14 E14 hov13 hlv13
 have bo := E14.size
 replace J := AP J E14 (fun g R => Ng C R)
 refine Zn (AR (v := v13) rfl η) (AX (AX (AB (Zo AU (Zo Br (Zn Am (Zg (k + 1) ?_)))))))
 refine ⟨_, _, σ, rfl, (by have U := hov13; rw [List.append_assoc] at U; exact U), (by first | exact Wy hlv13 ω C | exact Ze hlv13 ω C), (by rw [List.length_append]; simp only [List.length_cons, List.length_nil]; omega), δ, J⟩
 refine Zs (Zo AU (Zo DA (Zn BV (AH η (fun a_ => ?_) (fun a_ => ?_)))))
 refine AB (Zo (AN (v := vl) rfl η) (BT (pv := [(0, .int _ _), (1, .int _ _)]) (zs := [_]) (cs := [_, _]) underlying157 Hp η rfl η rfl η ?_))
 intro b16 w17 J16 E17 B16 Y16
 have bq := E17.size
 replace J := Z0 J E17
 replace j := j.evo0 E17
 have au : RowE w17 (some ⟨b16, 0, none⟩) b16 0 2 ([92, 116] : Ac) := CH ([92, 116] : Ac) B16 rfl rfl
 refine Bs rfl underlying157 Hp η j η η au rfl θ θ ω ?_
 intro v18 w19 E19 hov18 hlv18
 have br := E19.size
 replace J := AP J E19 (fun g R => Ng C R)
 refine Zn (AR (v := v18) rfl η) (AX (AX (AB (Zo AU (Zo Br (Zn Am (Zg (k + 1) ?_)))))))
 refine ⟨_, _, σ, rfl, (by have U := hov18; rw [List.append_assoc] at U; exact U), (by first | exact Wy hlv18 ω C | exact Ze hlv18 ω C), (by rw [List.length_append]; simp only [List.length_cons, List.length_nil]; omega), δ, J⟩
 refine Zs (Zo AU (Zo DA (Zo Cb ?_)))
 refine Aj rfl BQ rfl (fun R => AU) ?_
 refine Aj rfl BQ rfl (fun R => BK rfl (Ar R) η) ?_
 refine Zo FW (Zo Cb ?_)
 refine Aj rfl BQ rfl (fun R => AU) ?_
 refine Aj rfl BQ rfl (fun R => BK rfl (Ar R) η) ?_
 refine Zo FW (Zn BV (AH η (fun ba => ?_) (fun ba => ?_)))
 refine AB (Zo (AN (v := vl) rfl η) (Zo AU (BT (pv := [(0, .int _ _), (1, .int _ _)]) (zs := [_]) (cs := [_, _]) underlying157 Hp η rfl η rfl η ?_)))
 intro b21 w22 J21 E22 B21 Y21
 have bs := E22.size
 replace J := Z0 J E22
 replace j := j.evo0 E22
 have az : RowE w22 (some ⟨b21, 0, none⟩) b21 0 2 ([92, (s.getD k 0)] : Ac) := CH ([92, (s.getD k 0)] : Ac) B21 rfl rfl
 refine Bs rfl underlying157 Hp η j η η az rfl θ θ ω ?_
 intro v23 w24 E24 hov23 hlv23
 have bt := E24.size
 replace J := AP J E24 (fun g R => Ng C R)
 refine Zn (AR (v := v23) rfl η) (AX (AX (AB (Zo AU (Zo Br (Zn Am (Zg (k + 1) ?_)))))))
 refine ⟨_, _, σ, rfl, (by have U := hov23; rw [List.append_assoc] at U; exact U), (by first | exact Wy hlv23 ω C | exact Ze hlv23 ω C), (by rw [List.length_append]; simp only [List.length_cons, List.length_nil]; omega), δ, J⟩
 have bm := J
 have bb := fun {g : Nat} (R : _ = some g) => j.block (g := g) R
 refine Aw (vl.ownBlock.toList) ζ ?_
 intro w25 F26 I
 have bx := F26.size
 replace J := Z0 J F26
 replace j := j.evo0 F26
 refine Zt (i := 0) η (fun w' hC => AN (v := vl) rfl η) I (Zt (i := 1) η (fun w' hC => AU) I (Zt (i := 2) η (fun w' hC => X8 (a := (s.getD k 0).toNat) (m := 4) rfl η η ω) I (Zt (i := 3) η (fun w' hC => Bb (((s.getD k 0).toNat / 2 ^ 4)) rfl underlying9 η η χ (by show _ < 16; omega)) I (Zt (i := 4) η (fun w' hC => AU) I (Zt (i := 5) η (fun w' hC => Xu (a := (s.getD k 0).toNat) (b := 15) rfl η η ω ω) I (Zt (i := 6) η (fun w' hC => Bb (((s.getD k 0).toNat &&& 15)) rfl underlying9 η η χ (by show _ < 16; omega)) I ?_))))))
 refine Zh (i := 7) ?_
 refine BT (pv := [(0, .int _ _), (1, .int _ _), (2, .int _ _), (3, .int _ _)]) (zs := [_]) (cs := [_, _, _, _]) underlying157 Hp η rfl η rfl η ?_
 intro b28 w29 J28 E29 B28 Y28
 have bz := E29.size
 replace J := Z0 J E29
 replace I := Z0 I E29
 replace j := j.evo0 E29
 have aS : RowE w29 (some ⟨b28, 0, none⟩) b28 0 4 ([92, 120, ([48, 49, 50, 51, 52, 53, 54, 55, 56, 57, 97, 98, 99, 100, 101, 102] : Ac).getD ((s.getD k 0).toNat / 2 ^ 4) 0, ([48, 49, 50, 51, 52, 53, 54, 55, 56, 57, 97, 98, 99, 100, 101, 102] : Ac).getD ((s.getD k 0).toNat &&& 15) 0] : Ac) := CH ([92, 120, ([48, 49, 50, 51, 52, 53, 54, 55, 56, 57, 97, 98, 99, 100, 101, 102] : Ac).getD ((s.getD k 0).toNat / 2 ^ 4) 0, ([48, 49, 50, 51, 52, 53, 54, 55, 56, 57, 97, 98, 99, 100, 101, 102] : Ac).getD ((s.getD k 0).toNat &&& 15) 0] : Ac) B28 rfl rfl
 refine AZ I ?_
 refine Zh (i := 8) ?_
 refine Bs rfl underlying157 Hp η j η η aS rfl θ θ ω ?_
 intro v30 w31 E31 hov30 hlv30
 have bA := E31.size
 replace J := AP J E31 (fun g R => Ng C R)
 refine Ah ζ ?_
 refine Zh (i := 9) ?_
 refine Zo (AR (v := v30) rfl η) ?_
 refine Ah ζ ?_
 refine A5 ζ ?_
 refine AX (AX (AB (Zo AU (Zo Br (Zn Am (Zg (k + 1) ?_))))))
 refine ⟨_, _, σ, rfl, (by have U := hov30; rw [List.append_assoc] at U; exact U), (by first | exact Wy hlv30 ω C | exact Ze hlv30 ω C), (by rw [List.length_append]; simp only [List.length_cons, List.length_nil]; omega), δ, J⟩
 refine Ak rfl (Zs (Zo (AN (v := vl) rfl η) (Zn (AR (v := vl) rfl η) (AM (C8 (v := vl) rfl η) ?_))))
 exact ⟨_, _, rfl, by omega, J, j, C⟩
theorem X3 (w : World) (os : Array Obj) : Evo w (Go.Sort.grow w os) [] := by
  refine ⟨rfl, rfl, rfl, ?_, fun b j _ => ?_⟩
  · simp [Go.Sort.grow]
  · simp [Go.Sort.grow, Array.getElem?_append, j]
def Tab (w : World) : Prop := Go.Lib.TabIs Tryz.prog w "internal/strconv.uint64pow10" .u64 Go.Lib.pow10Tab
theorem Tab.evo {w w' : World} {X : List Nat} (h : Tab w) (he : Evo w w' X) (j : ∀ q, Tryz.prog.globalNamed "internal/strconv.uint64pow10" = some q → q ∉ X) : Tab w' := by
  unfold Tab Go.Lib.TabIs World.var? at *
  cases hg : Tryz.prog.globalNamed "internal/strconv.uint64pow10" with
  | none => rw [hg] at h; cases h
  | some q =>
    rw [hg] at h
    have h1 : q < w.heap.size := by
      rcases Nat.lt_or_ge q w.heap.size with h2 | h2
      · exact h2
      · simp only [Option.bind_some] at h; rw [Array.getElem?_eq_none h2] at h; cases h
    simp only [Option.bind_some] at *
    rw [he.same q h1 (j q hg)]; exact h
theorem Tab.evo0 {w w' : World} (h : Tab w) (he : Evo w w' []) : Tab w' := h.evo he (by simp)
theorem Tt {w : World} {n : Int} (h : Tab w) (j : -9223372036854775808 ≤ n ∧ n ≤ 9223372036854775807) : Calls Tryz.prog 174 #[.int .i64 n] w fun e w' => e = .returned (S (Go.Lib.itoa n)) ∧ Evo w w' [] :=
  (Tryz.strconv_Itoa n j.1 j.2 w h).mono fun e w' ⟨h1, k, os, C⟩ => ⟨by rw [h1]; rfl, by subst C; exact Evo.trans (Evo.drewN w k []) (X3 _ _) (by simp)⟩
theorem Mu : ∀ n : Nat, (Go.Lib.decDigits n).length ≤ n + 1 := fun n => by
  induction n using Nat.strongRecOn with
  | _ n ih =>
    unfold Go.Lib.decDigits
    split
    · simp
    · rw [List.length_append]; have := ih (n / 10) ω; simp only [List.length_cons, List.length_nil]; omega
theorem Yl {n : Int} (j : 0 ≤ n) (h1 : n ≤ 999) : (Go.Lib.itoa n).length ≤ 1000 := by
  unfold Go.Lib.itoa
  rw [if_neg ω]
  have := Mu n.natAbs; have := Mu n.toNat; omega
theorem Yz {f : List Vc.Item} (h : Bo [] f = 0) {x : Vc.Item} (j : x ∈ f) : 0 ≤ x.id ∧ x.id ≤ 999 := by
  have h1 := ((MV f).1 h).1 x j
  unfold Bx at h1
  split at h1
  · simp at h1; omega
  · split at h1
    · simp at h1; omega
    · split at h1
      · simp at h1; omega
      · split at h1
        · simp at h1; omega
        · cases h1
set_option maxHeartbeats 1000000 in
theorem Oe {ao : Option Addr} {b off cap : Nat} {f : List Vc.Item} {J : World} (hf : RowE J ao b off cap f) (hv : Bo [] f = 0) (br : D7 f = 0) (bX : f.length ≤ 50) (bY : Ay f ≤ 1000) (bb : Tab J) :
    Calls Tryz.prog 137 #[.slice ao f.length cap] J fun e w' => ∃ r : Ac, e = .returned (.tuple #[S r, .int .i64 0]) ∧ r.length ≤ 4 * Ay f + 1100 * f.length ∧ Evo J w' [] := by
 have af := fun w' (h : Evo J w' []) => bb.evo0 h; have b2 : Small f := ⟨by omega, by omega⟩
 refine AG (n := 75) func137 rfl ntmps137 rfl ?_
 have C : Evo J J [] := Evo.refl _ _
 have U := A9 hf
 have bm := hf.bd
 refine Zs (Zo Fa (Zn Am (AE (Zs (Zo Bi (Zr [.slice _ _ _] rfl η func69 (Dw hf κ) ?_))))))
 rintro e w1 ⟨rfl, F1⟩
 refine ⟨_, rfl, ?_⟩
 have Q1 := F1.size
 replace C := Z0 C F1
 replace hf := U _ C
 refine Zn Am (Zs (Zo AU (Zn (BP rfl η η) (AH η (fun aS => ?_) (fun aS => ?_)))))
 exfalso; exact aS (by rw [br])
 refine AJ (Zs (Zn Ew (AE (Zs (Zo Bi (Zo (AQ rfl η underlying33) (Zn AU (AK (Aq (α := Nat) [5, 7, 8, 16, 17, 18, 19, 20, 21, 22, 23, 24, 25, 26, 27, 28, 29, 30, 31, 32, 33, 34, 35, 36, 37, 38, 39, 40, 41, 42, 43, 44, 45, 46, 47, 48, 49, 50, 51, 52, 53, 54, 55, 56, 57, 58, 59, 60, 61, 62, 63, 64, 65, 66, 67, 68, 69, 70, 71, 72] (fun k g w => ∃ R : Value, ∃ t : Ac, g 16 = .int .i64 (k : Nat) ∧ g 5 = R ∧ k ≤ f.length ∧ OwnE w J.heap.size 5 R t ∧ (t.length ≤ 4 * Ay (f.take k) + 1100 * k) ∧ w1.heap.size ≤ w.heap.size ∧ Evo J w []) (fun k => f.length - k) 0 ?_ ?_)))))))))
 refine ⟨_, [], σ, rfl, δ, (OwnE.nil _ _ _), (by simp), δ, C⟩
 rintro k g w4 ⟨R, t, hj5, hj6, hk_k, j, htl, hzl3, C⟩
 have ba := C.size
 refine Zk 16 hj5 (Zk 5 hj6 (Zs (Zn Dn (AE (AH η (fun bo => ?_) (fun bo => ?_))))))
 refine AJ (AE (AK (AE ?_)))
 have bq := EM (l := f) (k := k) ω; have bf := Yz hv bq; have b0 := Yl bf.1 bf.2; have b5 := El f k; have b4 := DX f k; have b1 := Ck f k ω
 refine AB (Zo (Ab (k) rfl underlying33 AY η η χ ω ((U _ C).addr (i := k) ω)) ?_)
 have ag := fun (w' : World) (h : Evo J w' []) => (U w' h).atD (k) ω
 refine Zo (AL rfl CP AY η rfl (ag _ C)) ?_
 have bz := fun g I => (j.block (g := g) I).2
 refine Bq (zs := [_, _, _]) (vs := [_, _, _]) AY η rfl η (fun _ => rfl) η rfl rfl η ?_
 intro b10 w11 J10 E11 B10 Y10
 have bA := E11.size
 replace C := Z0 C E11
 replace j := j.evo0 E11
 refine Ag (Zs (Zo (AD rfl η CO) (Zo (AA rfl Ae η (B10.at.cell 2 η)) (Zr [.int _ _] rfl η func174 (Tt (af _ C) ⟨by omega, by omega⟩) ?_))))
 rintro e b7 ⟨rfl, F12⟩
 refine ⟨_, rfl, ?_⟩
 have bB := F12.size
 replace C := Z0 C F12
 replace j := j.evo0 F12
 replace B10 := B10.evo0 F12
 refine Zn Fa (Zs (Zo (AD rfl η CG) (Zn (AA rfl Ae η (B10.at.cell 0 η)) (AK (Zs (Zo DA (Zn BV (AH η (fun al => ?_) (fun al => ?_)))))))))
 refine AB (Zo (AN (v := R) rfl η) (Zo (AD rfl η Bp) (Zo (AA rfl BX η (B10.at.cell 1 η)) (Zr [R, S _] rfl η func202 (Tf j ω ω ω) ?_))))
 rintro e b8 ⟨bl, xa14, rfl, hxl14, F14, hoa14, hla14⟩
 refine ⟨_, rfl, ?_⟩
 have bF := F14.size
 replace C := AP C F14 (fun g I => .inl (by first | exact (j.block I).1 | (have := j.block I; omega)))
 refine Zn (AR (v := bl) rfl η) (AX (AX (AB (Zo Br (Zn AU (Zg (k + 1) ?_))))))
 refine ⟨_, _, σ, rfl, δ, hoa14, (by rw [Ck f k ω]; first | (rw [List.length_append]; first | omega | (simp only [List.length_append, List.length_cons, List.length_nil]; omega)) | omega), δ, C⟩
 refine Zs (Zo DA (Zn BV (AH η (fun au => ?_) (fun au => ?_))))
 refine AB (Zo (AN (v := R) rfl η) (Zo Ca (Zo (Bg rfl η η (by simp only [List.length_append, List.length_cons, List.length_nil]; omega)) (Zo (Bg rfl η η (by simp only [List.length_append, List.length_cons, List.length_nil]; omega)) (Zo (AD rfl η Bp) (Zo (AA rfl BX η (B10.at.cell 1 η)) (Zo (Bg rfl η η (by simp only [List.length_append, List.length_cons, List.length_nil]; omega)) (Zo (Bg rfl η η (by simp only [List.length_append, List.length_cons, List.length_nil]; omega)) (FU rfl underlying157 underlying9 Hp rfl j η η (by simp only [List.length_append, List.length_cons, List.length_nil]; omega) ω ?_)))))))))
 intro v16 w17 E17 hov16
 have bL := E17.size
 replace C := AP C E17 (fun g I => .inl (by first | exact (j.block I).1 | (have := j.block I; omega)))
 refine Zn (AR (v := v16) rfl η) (AX (AX (AB (Zo Br (Zn AU (Zg (k + 1) ?_))))))
 refine ⟨_, _, σ, rfl, δ, hov16, (by rw [Ck f k ω]; first | (rw [List.length_append]; first | omega | (simp only [List.length_append, List.length_cons, List.length_nil]; omega)) | omega), δ, C⟩
 refine Zs (Zo DA (Zn BV (AH η (fun az => ?_) (fun az => ?_))))
 refine AB (Zo (AN (v := R) rfl η) (Zo Ca (Zo (Bg rfl η η (by simp only [List.length_append, List.length_cons, List.length_nil]; omega)) (Zo (Bg rfl η η (by simp only [List.length_append, List.length_cons, List.length_nil]; omega)) (Zo (AD rfl η Bp) (Zo (AA rfl BX η (B10.at.cell 1 η)) (Zo (Bg rfl η η (by simp only [List.length_append, List.length_cons, List.length_nil]; omega)) (Zo (Bg rfl η η (by simp only [List.length_append, List.length_cons, List.length_nil]; omega)) (FU rfl underlying157 underlying9 Hp rfl j η η (by simp only [List.length_append, List.length_cons, List.length_nil]; omega) ω ?_)))))))))
 intro v19 w20 E20 hov19
 have bM := E20.size
 replace C := AP C E20 (fun g I => .inl (by first | exact (j.block I).1 | (have := j.block I; omega)))
 refine Zn (AR (v := v19) rfl η) (AX (AX (AB (Zo Br (Zn AU (Zg (k + 1) ?_))))))
 refine ⟨_, _, σ, rfl, δ, hov19, (by rw [Ck f k ω]; first | (rw [List.length_append]; first | omega | (simp only [List.length_append, List.length_cons, List.length_nil]; omega)) | omega), δ, C⟩
 refine Zs (Zo DA (Zn BV (AH η (fun aT => ?_) (fun aT => ?_))))
 refine AB (Zo (AN (v := R) rfl η) (Zo Ca (Zo (Bg rfl η η (by simp only [List.length_append, List.length_cons, List.length_nil]; omega)) (Zo (Bg rfl η η (by simp only [List.length_append, List.length_cons, List.length_nil]; omega)) (Zo (AD rfl η Bp) (Zo (AA rfl BX η (B10.at.cell 1 η)) (Zo (Bg rfl η η (by simp only [List.length_append, List.length_cons, List.length_nil]; omega)) (Zo (Bg rfl η η (by simp only [List.length_append, List.length_cons, List.length_nil]; omega)) (FU rfl underlying157 underlying9 Hp rfl j η η (by simp only [List.length_append, List.length_cons, List.length_nil]; omega) ω ?_)))))))))
 intro v22 w23 E23 hov22
 have bQ := E23.size
 replace C := AP C E23 (fun g I => .inl (by first | exact (j.block I).1 | (have := j.block I; omega)))
 refine Zn (AR (v := v22) rfl η) (AX (AX (AB (Zo Br (Zn AU (Zg (k + 1) ?_))))))
 refine ⟨_, _, σ, rfl, δ, hov22, (by rw [Ck f k ω]; first | (rw [List.length_append]; first | omega | (simp only [List.length_append, List.length_cons, List.length_nil]; omega)) | omega), δ, C⟩
 refine Zs (Zo DA (Zn BV (AH η (fun a1 => ?_) (fun a1 => ?_))))
 refine AB (Zo (AN (v := R) rfl η) (Zo (AD rfl η Bp) (Zo (AA rfl BX η (B10.at.cell 1 η)) (Zo (Bg rfl η η (by simp only [List.length_append, List.length_cons, List.length_nil]; omega)) (Zo (Bg rfl η η (by simp only [List.length_append, List.length_cons, List.length_nil]; omega)) (FU rfl underlying157 underlying9 Hp rfl j η η (by simp only [List.length_append, List.length_cons, List.length_nil]; omega) ω ?_))))))
 intro v25 w26 E26 hov25
 have bR := E26.size
 replace C := AP C E26 (fun g I => .inl (by first | exact (j.block I).1 | (have := j.block I; omega)))
 refine Zn (AR (v := v25) rfl η) (AX (AX (AB (Zo Br (Zn AU (Zg (k + 1) ?_))))))
 refine ⟨_, _, σ, rfl, δ, hov25, (by rw [Ck f k ω]; first | (rw [List.length_append]; first | omega | (simp only [List.length_append, List.length_cons, List.length_nil]; omega)) | omega), δ, C⟩
 refine AJ (AX (AX (AB (Zo Br (Zn AU (Zg (k + 1) ?_))))))
 refine ⟨_, _, σ, rfl, δ, j, (by rw [Ck f k ω]; first | (rw [List.length_append]; first | omega | (simp only [List.length_append, List.length_cons, List.length_nil]; omega)) | omega), δ, C⟩
 refine Ak rfl (AE ?_)
 obtain ⟨bs, bS, bt, bc, a_, bx⟩ := j.rowOf
 subst bc
 refine AB (Zo Bi (Zo (Hy rfl underlying157 underlying5 underlying9 η (by first | rfl | simp) a_) (Zo Fa (Zn Am (AM (Fy (v := S _) (u := .int _ _) rfl η η) ?_)))))
 exact ⟨_, rfl, (by rw [List.take_of_length_le ω] at htl; omega), C⟩
theorem HE : A8 Tryz.prog 35 1 = some 1 := ζ
theorem Um : A8 Tryz.prog 35 4 = some 4 := ζ
theorem Uc : A8 Tryz.prog 35 5 = some 5 := ζ
theorem Mh : A8 Tryz.prog 35 6 = some 6 := ζ
theorem VI : A8 Tryz.prog 35 7 = some 7 := ζ
theorem ep : ∀ (w : World) (x y : Vc.Item), (Op.equalIn 10000 71 (.agg (Enc.enc x).toArray) (.agg (Enc.enc y).toArray)).run Tryz.prog w = .ok (decide (x = y)) w := fun w x y => KI 9998 underlying71 Tryz.stoodInHeld71 υ υ υ rfl rfl rfl underlying3 underlying9 underlying3 Ae BX Ae x y
theorem RI {af ag : Option Addr} {ba aT R bb a1 U : Nat} {a b : List Vc.Item} {J : World} (ha : RowE J af ba aT R a) (hb : RowE J ag bb a1 U b) :
    Calls Tryz.prog 124 #[.slice af a.length R, .slice ag b.length U] J fun e w' => e = .returned (.bool (decide (a = b))) ∧ Evo J w' [] := by
 refine AG (n := 26) func124 rfl ntmps124 rfl ?_
 have j : Evo J J [] := Evo.refl _ _
 have au := A9 ha
 have a_ := ha.bd
 have az := A9 hb
 have bc := hb.bd
 refine Zs (Zn BV (AE (Zs (Zo Bi (Zo (AQ rfl η underlying33) (Zo Bi (Zo (AQ rfl η underlying33) (Zn (BP rfl η η) (AH η (fun bf => ?_) (fun bf => ?_))))))))))
 refine Zs (Zn BV (AM G7 ?_))
 exact ⟨by rw [decide_eq_false (fun h => by subst h; omega)], j⟩
 refine AJ (AE (Zs (Zo Bi (Zo (AQ rfl η underlying33) (Zn AU (AK (Aq (α := Nat) [4, 5, 13, 14, 15, 16, 17, 18, 19, 20, 21, 22, 23, 24, 25] (fun k g w => g 13 = .int .i64 (k : Nat) ∧ k ≤ a.length ∧ a.take k = b.take k ∧ J.heap.size ≤ w.heap.size ∧ Evo J w []) (fun k => a.length - k) 0 ?_ ?_)))))))
 refine ⟨σ, δ, (by simp), δ, j⟩
 rintro k g w3 ⟨bm, hk_k, hpre, hzl2, j⟩
 have aS := j.size
 refine Zk 13 bm (Zs (Zn Dn (AE (AH η (fun bl => ?_) (fun bl => ?_)))))
 refine AJ (AE (AK (Zs (Zo AU (Zn Am (AE (Bt ζ ζ (Zq (fun w' I => Bi) (Zq (fun w' I => AU) ?_)))))))))
 refine Zq (fun w' I => Ab (k) rfl underlying33 AY η η χ ω ((au _ j).addr (i := k) ω)) ?_
 have al := fun (w' : World) (h : Evo J w' []) => (au w' h).atD (k) ω
 refine Zq (fun w' I => AL rfl CP AY η rfl ((al _ j).evo0 I)) (Zq (fun w' I => Bi) (Zq (fun w' I => AU) (Zq (fun w' I => Ab (k) rfl underlying33 AY η η χ ω ((az _ j).addr (i := k) ω)) ?_)))
 have ao := fun (w' : World) (h : Evo J w' []) => (az w' h).atD (k) ω
 refine Zq (fun w' I => AL rfl CP AY η rfl ((ao _ j).evo0 I)) (Zq (fun w' I => Xg _ _ rfl Tryz.eqGuardType71 ep η η) (EV (fun w8 F9 => ?_)))
 have Q8 := F9.size
 replace j := Z0 j F9
 refine AH η (fun C => ?_) (fun C => ?_)
 refine Zs (Zn BV (AM G7 ?_))
 exact ⟨by rw [decide_eq_false (fun h => by subst h; exact C rfl)], j⟩
 refine AJ (AX (AB (Zo Br (Zn AU (Zg (k + 1) ?_)))))
 refine ⟨σ, δ, (Tp hpre ω ω (Classical.not_not.1 C)), δ, j⟩
 refine Ak rfl (Zs (Zn BV (AM G7 ?_)))
 exact ⟨by rw [decide_eq_true (by rw [List.take_of_length_le ω, List.take_of_length_le ω] at hpre; exact hpre)], j⟩
theorem MA {J R : Option Addr} {ba U j bb af C : Nat} {a b : List Vc.Item} {I : World} (ha : RowE I J ba U j a) (hb : RowE I R bb af C b) :
    Calls Tryz.prog 63 #[.slice J a.length j, .slice R b.length C] I fun e w' => e = .returned (.bool (decide (a = b))) ∧ Evo I w' [] := by
 refine AG (n := 8) func63 rfl ntmps63 rfl ?_
 have hV : Evo I I [] := Evo.refl _ _
 have a1 := A9 ha
 have ag := ha.bd
 have a_ := A9 hb
 have al := hb.bd
 refine Zs (Zn BV (Zs (Zo Bi (Zo Bi (Zr [.slice _ _ _, .slice _ _ _] rfl η func124 (RI ha hb) ?_)))))
 rintro e w1 ⟨rfl, F1⟩
 refine ⟨_, rfl, ?_⟩
 have Q1 := F1.size
 replace hV := Z0 hV F1
 refine Zn BV (AM G7 ?_)
 exact ⟨rfl, hV⟩
theorem JT : ∀ x ∈ FD, x.length ≤ 100 ∧ ∀ j, j < x.length → Wt (x.getD j 0) := by decide
theorem JX : ∀ x ∈ FE, x.length ≤ 100 ∧ ∀ j, j < x.length → Wt (x.getD j 0) := by decide
theorem Ra {a : List Vc.Item} (h : Bo [] a = 0) (h1 : a.length ≤ 16) (j : Ay a ≤ 400) : D7 a = 0 := by
  have := NB a
  rw [Pk ω]; exact h
set_option maxRecDepth 4000 in
set_option maxHeartbeats 1000000 in
theorem KN {R U : Option Addr} {bA bR af bB bS ag : Nat} {a b : List Vc.Item} {pv nx au pj : Ac} {cr og : Int} {w0 : World} (I : RowE w0 R bA bR af a) (J : RowE w0 U bB bS ag b) (c_ : Bo [] a = 0) (cp : a.length ≤ 16) (ct : b.length ≤ 16) (cq : Ay a ≤ 400) (cv : Ay b ≤ 400) (bF : pv ∈ FD) (bz : nx ∈ FE) :
    Calls Tryz.prog 24 #[.agg #[.slice R a.length af, .slice U b.length ag, S pv, S nx, S au, S pj, .int .i64 cr, .int .i64 og]] w0 fun e w' => ∃ r : Int, e = .returned (.int .i64 r) ∧ Evo w0 w' [] := by
 have c3 : Small a := ⟨by omega, by omega⟩; have c9 : Small b := ⟨by omega, by omega⟩; have b2 : Small (a ++ b) := ⟨by rw [List.length_append]; omega, by rw [BR]; omega⟩; have bn := JT _ bF; have bm := JX _ bz
 refine AG (n := 109) func24 rfl ntmps24 rfl ?_
 have C : Evo w0 w0 [] := Evo.refl _ _
 have ao := A9 I
 have ba := I.bd
 have az := A9 J
 have bb := J.bd
 refine Zs (CE (vs := [_, _, _, _, _, _, _, _]) η η rfl ?_)
 intro b1 w2 J1 E2 B1 Y1
 have Q2 := E2.size
 replace C := Z0 C E2
 replace I := ao _ C
 refine Zn Am (AE (Zs (Zo (AD rfl η Dv) (Zo (AA rfl DZ η (B1.at.cell 0 η)) (Zr [(.slice R a.length af)] rfl η func69 (Dw I κ) ?_)))))
 rintro e w3 ⟨rfl, F3⟩
 refine ⟨_, rfl, ?_⟩
 have Q3 := F3.size
 replace C := Z0 C F3
 replace J := az _ C
 replace B1 := B1.evo0 F3
 refine Zn Am (Zs (Zo AU (Zn (BP rfl η η) (AH η (fun bt => ?_) (fun bt => ?_)))))
 refine Zs (Zo AU (Zn Am (AM C3 ?_)))
 exact ⟨_, rfl, C⟩
 refine AJ (AE (Zs (Zo (AD rfl η HE) (Zo (AA rfl DZ η (B1.at.cell 1 η)) (Zr [(.slice U b.length ag)] rfl η func69 (Dw J κ) ?_)))))
 rintro e w5 ⟨rfl, F5⟩
 refine ⟨_, rfl, ?_⟩
 have Q5 := F5.size
 replace C := Z0 C F5
 replace I := ao _ C
 replace J := az _ C
 replace B1 := B1.evo0 F5
 refine Zn Am (Zs (Zo AU (Zn (BP rfl η η) (AH η (fun bx => ?_) (fun bx => ?_)))))
 refine Zs (Zo AU (Zn Am (AM C3 ?_)))
 exact ⟨_, rfl, C⟩
 refine AJ (Zs (Zo (AD rfl η Dv) (Zo (AA rfl DZ η (B1.at.cell 0 η)) (Zo (AD rfl η HE) (Zo (AA rfl DZ η (B1.at.cell 1 η)) (Zr [(.slice R a.length af), (.slice U b.length ag)] rfl η func70 (MF I J κ κ κ) ?_))))))
 rintro e w7 ⟨a1, vq7, rfl, F7, hop7, al⟩
 refine ⟨_, rfl, ?_⟩
 have Q7 := F7.size
 replace C := Z0 C F7
 replace B1 := B1.evo0 F7
 refine Zo PW (Zo (AI (v := a1) rfl η η) (Zo (AI (v := vq7) rfl η η) (Zo (AR (v := a1) rfl η) (Zn (AR (v := vq7) rfl η) (AE (Zs (Zo (AD rfl η Dv) (Zo (AA rfl DZ η (B1.at.cell 0 η)) (Zo (AQ rfl η underlying33) ?_)))))))))
 refine Zo DA (Zo Cb ?_)
 refine Aj rfl BQ rfl (fun j => AN (v := a1) rfl η) ?_
 refine Aj rfl BQ rfl (fun j => AD rfl η Dv) ?_
 refine Aj rfl BQ rfl (fun j => AA rfl DZ (Ar j) (B1.at.cell 0 η)) ?_
 obtain ⟨b9, g8, cc, bQ, bM, c0⟩ := hop7.rowOf
 subst bQ
 refine Dg rfl BQ rfl (fun j => BN rfl (BU (v := .slice _ _ _) (Ar j) (BU (v := (.slice R a.length af)) (Ar j) (rfl))) func63 rfl ζ) (fun j => (MA bM (ao _ C)).mono (fun e w' h => ⟨h.1, h.2⟩)) (fun w9 F10 => ?_)
 have Q9 := F10.size
 replace C := Z0 C F10
 replace B1 := B1.evo0 F10
 replace al := al.evo0 F10
 refine Aj rfl BQ rfl (fun j => Cd rfl (Ar j)) ?_
 refine Zo FW (Zo Cb ?_)
 refine Aj rfl BQ rfl (fun j => AN (v := vq7) rfl η) ?_
 refine Aj rfl BQ rfl (fun j => AD rfl η HE) ?_
 refine Aj rfl BQ rfl (fun j => AA rfl DZ (Ar j) (B1.at.cell 1 η)) ?_
 obtain ⟨bX, g11, bY, bq, bo, b0⟩ := al.rowOf
 subst bq
 refine Dg rfl BQ rfl (fun j => BN rfl (BU (v := .slice _ _ _) (Ar j) (BU (v := (.slice U b.length ag)) (Ar j) (rfl))) func63 rfl ζ) (fun j => (MA bo (az _ C)).mono (fun e w' h => ⟨h.1, h.2⟩)) (fun dm F13 => ?_)
 have b4 := F13.size
 replace C := Z0 C F13
 replace B1 := B1.evo0 F13
 refine Aj rfl BQ rfl (fun j => Cd rfl (Ar j)) ?_
 refine Zn FW (AH η (fun bc => ?_) (fun bc => ?_))
 refine Zs (Zn Am (AM C3 ?_))
 exact ⟨_, rfl, C⟩
 refine AJ (AE (Zs (Zo (AD rfl η J0) (Zo (AA rfl BX η (B1.at.cell 2 η)) (Zr [S _] rfl η func71 (FN bn.2 bn.1) ?_)))))
 rintro e dn ⟨br, np15, cpp15, rfl, F15⟩
 refine ⟨_, rfl, ?_⟩
 have b5 := F15.size
 replace C := Z0 C F15
 replace B1 := B1.evo0 F15
 refine Zo PW (Zo (AI (v := .slice _ _ _) rfl η η) (Zo (AI (v := .int _ _) rfl η η) (Zo (AI (v := .int _ _) rfl η η) (Zo Ew (Zo Am (Zn Am (Zs (Zo AU (Zn (BP rfl η η) ?_)))))))))
 refine AH η (fun aS => ?_) (fun aS => ?_)
 exfalso; exact aS rfl
 refine AJ (AE (Zs (Zo (AD rfl η Jo) (Zo (AA rfl BX η (B1.at.cell 3 η)) (Zr [S _] rfl η func71 (FN bm.2 bm.1) ?_)))))
 rintro e dp ⟨bs, np17, cpp17, rfl, F17⟩
 refine ⟨_, rfl, ?_⟩
 have b6 := F17.size
 replace C := Z0 C F17
 replace B1 := B1.evo0 F17
 refine Zo PW (Zo (AI (v := .slice _ _ _) rfl η η) (Zo (AI (v := .int _ _) rfl η η) (Zo (AI (v := .int _ _) rfl η η) (Zo Ew (Zo Am (Zn Am (Zs (Zo AU (Zn (BP rfl η η) ?_)))))))))
 refine AH η (fun aT => ?_) (fun aT => ?_)
 exfalso; exact aT rfl
 refine AJ (AE (Zs (Zo (AD rfl η Um) (Zo (AA rfl BX η (B1.at.cell 4 η)) (Zo (Ds rfl η η) (Zo Cb ?_))))))
 refine Aj rfl BW rfl (fun j => AD rfl η Um) ?_
 refine Aj rfl BW rfl (fun j => AA rfl BX (Ar j) (B1.at.cell 4 η)) ?_
 refine Dg rfl BW rfl (fun j => BN rfl (BU (v := S _) (Ar j) (rfl)) func72 rfl ζ) (fun j => (ES ).mono (fun e w' h => ⟨h.1, h.2⟩)) (fun ds F20 => ?_)
 have b7 := F20.size
 replace C := Z0 C F20
 replace B1 := B1.evo0 F20
 refine Aj rfl BW rfl (fun j => Fh rfl (Ar j)) ?_
 refine Zo (Cw rfl η (fun hq => OR η (fun h => h) hq) rfl) ?_
 refine Zo Cb ?_
 refine Aj rfl BQ rfl (fun j => AD rfl η Uc) ?_
 refine Aj rfl BQ rfl (fun j => AA rfl BX (Ar j) (B1.at.cell 5 η)) ?_
 refine Aj rfl BQ rfl (fun j => Ds rfl (Ar j) η) ?_
 refine Aj rfl BQ rfl (fun j => AN (v := .bool _) rfl (Ar j)) ?_
 refine Aj rfl (GV η) rfl (fun j => AD rfl η Uc) ?_
 refine Aj rfl (GV η) rfl (fun j => AA rfl BX (Ar j) (B1.at.cell 5 η)) ?_
 refine Dg rfl (GV η) rfl (fun j => BN rfl (BU (v := S _) (Ar j) (rfl)) func72 rfl ζ) (fun j => (ES ).mono (fun e w' h => ⟨h.1, h.2⟩)) (fun dO F22 => ?_)
 have b8 := F22.size
 replace C := Z0 C F22
 replace B1 := B1.evo0 F22
 refine Aj rfl (GV η) rfl (fun j => Fh rfl (Ar j)) ?_
 refine Aj rfl BQ rfl (fun j => Cw rfl (Ar j) (fun hq => OR η (fun h => h) (And.intro j hq)) rfl) ?_
 refine Zn FW (AH η (fun bf => ?_) (fun bf => ?_))
 refine Zs (Zn Am (AM C3 ?_))
 exact ⟨_, rfl, C⟩
 refine AJ (AE (Zs (Zo (AD rfl η Mh) (Zo (AA rfl Ae η (B1.at.cell 6 η)) (Zo Dn (Zo Cb ?_))))))
 refine Aj rfl BQ rfl (fun j => AD rfl η Mh) ?_
 refine Aj rfl BQ rfl (fun j => AA rfl Ae (Ar j) (B1.at.cell 6 η)) ?_
 refine Aj rfl BQ rfl (fun j => C6 rfl (Ar j) η) ?_
 refine Zo FW (Zo Cb ?_)
 refine Aj rfl BQ rfl (fun j => AD rfl η VI) ?_
 refine Aj rfl BQ rfl (fun j => AA rfl Ae (Ar j) (B1.at.cell 7 η)) ?_
 refine Aj rfl BQ rfl (fun j => Dc rfl (Ar j) η) ?_
 refine Zo FW (Zo Cb ?_)
 refine Aj rfl BQ rfl (fun j => AD rfl η VI) ?_
 refine Aj rfl BQ rfl (fun j => AA rfl Ae (Ar j) (B1.at.cell 7 η)) ?_
 refine Aj rfl BQ rfl (fun j => C6 rfl (Ar j) η) ?_
 refine Zn FW (AH η (fun bl => ?_) (fun bl => ?_))
 refine Zs (Zn Am (AM C3 ?_))
 exact ⟨_, rfl, C⟩
 refine AJ (Zs (Zn Am (AM C3 ?_)))
 exact ⟨_, rfl, C⟩
set_option maxHeartbeats 1000000 in
theorem OS {C U : Option Addr} {bA bf I bB bl af : Nat} {a b : List Vc.Item} {pv nx au pj : Ac} {cr og : Int} {R : World} (j : RowE R C bA bf I a) (az : RowE R U bB bl af b) (aT : Bo [] a = 0) (a1 : a.length ≤ 16) (bx : b.length ≤ 16) (a_ : Ay a ≤ 400) (bz : Ay b ≤ 400) (bb : pv ∈ FD) (ba : nx ∈ FE) (aS : Tab R) :
    Calls Tryz.prog 73 #[.agg #[.slice C a.length I, .slice U b.length af, S pv, S nx, S au, S pj, .int .i64 cr, .int .i64 og]] R fun e w' => ∃ r : Ac, e = .returned (S r) ∧ r.length ≤ 100000 ∧ Evo R w' [] := by
 have bL := JT _ bb; have bF := JX _ ba; have bc := Ra aT a1 a_
 refine AG (n := 20) func73 rfl ntmps73 rfl ?_
 have J : Evo R R [] := Evo.refl _ _
 have ao := A9 j
 have ag := j.bd
 have bm := A9 az
 have al := az.bd
 refine Zs (CE (vs := [_, _, _, _, _, _, _, _]) η η rfl ?_)
 intro b1 w2 J1 E2 B1 Y1
 have Q2 := E2.size
 replace J := Z0 J E2
 replace j := ao _ J
 refine Zn Fa (Zs (Zo (AD rfl η Dv) (Zo (AA rfl DZ η (B1.at.cell 0 η)) (Zr [(.slice C a.length I)] rfl η func137 (Oe j aT bc ω ω (aS.evo0 J)) ?_))))
 rintro e w3 ⟨bt, rfl, hfr3, F3⟩
 refine ⟨_, rfl, ?_⟩
 have Q3 := F3.size
 replace J := Z0 J F3
 replace B1 := B1.evo0 F3
 refine Zo PW (Zo (AI (v := S _) rfl η η) (Zo (AI (v := .int _ _) rfl η η) (Zo Fa (Zn Am (Zs (Zo Ca (Zo (Bg rfl η η (by first | omega | (simp only [List.length_append, List.length_cons, List.length_nil]; omega))) (Zo (AD rfl η J0) (Zo (AA rfl BX η (B1.at.cell 2 η)) ?_)))))))))
 refine Zo (Bg rfl η η (by first | omega | (simp only [List.length_append, List.length_cons, List.length_nil]; omega))) (Zo (Bg rfl η η (by first | omega | (simp only [List.length_append, List.length_cons, List.length_nil]; omega))) (Zo (AD rfl η Jo) (Zo (AA rfl BX η (B1.at.cell 3 η)) (Zo (Bg rfl η η (by first | omega | (simp only [List.length_append, List.length_cons, List.length_nil]; omega))) (Zn Fa (AM (C8 (v := S _) rfl η) ?_))))))
 exact ⟨_, rfl, by simp only [List.length_append, List.length_cons, List.length_nil]; omega, J⟩
set_option maxHeartbeats 1000000 in
theorem Qh {af ag : Option Addr} {bA bn al bB bo ao : Nat} {a b : List Vc.Item} {pv nx au pj : Ac} {cr og : Int} {U : World} (C : RowE U af bA bn al a) (I : RowE U ag bB bo ao b) (bl : Bo [] a = 0) (az : a.length ≤ 16) (a_ : b.length ≤ 16) (aS : Ay a ≤ 400) (ba : Ay b ≤ 400) (bc : pv ∈ FD) (bb : nx ∈ FE) (bf : Tab U) :
    Calls Tryz.prog 25 #[.agg #[.slice af a.length al, .slice ag b.length ao, S pv, S nx, S au, S pj, .int .i64 cr, .int .i64 og]] U fun e w' => ∃ r : Ac, e = .returned (S r) ∧ r.length ≤ 100000 ∧ Evo U w' [] := by
 refine AG (n := 8) func25 rfl ntmps25 rfl ?_
 have j : Evo U U [] := Evo.refl _ _
 have J := A9 C
 have aT := C.bd
 have R := A9 I
 have a1 := I.bd
 refine Zs (CE (vs := [_, _, _, _, _, _, _, _]) η η rfl ?_)
 intro b1 w2 J1 E2 B1 Y1
 have Q2 := E2.size
 replace j := Z0 j E2
 replace C := J _ j
 replace I := R _ j
 refine Zn Fa (AE (Zs (Zo (AL rfl Ek Cv η rfl B1.at) (Zr [.agg _] rfl η func24 (KN C I bl az a_ aS ba bc bb) ?_))))
 rintro e w3 ⟨bz, rfl, F3⟩
 refine ⟨_, rfl, ?_⟩
 have Q3 := F3.size
 replace j := Z0 j F3
 replace C := J _ j
 replace I := R _ j
 replace B1 := B1.evo0 F3
 refine Zn (BP rfl η η) (AH η (fun bm => ?_) (fun bm => ?_))
 refine Zs (Zn Fa (AM (C8 (v := S _) rfl η) ?_))
 exact ⟨_, rfl, by simp, j⟩
 refine AJ (Zs (Zo (AL rfl Ek Cv η rfl B1.at) (Zr [.agg _] rfl η func73 (OS C I bl az a_ aS ba bc bb (bf.evo0 j)) ?_)))
 rintro e w5 ⟨bF, rfl, hmj5, F5⟩
 refine ⟨_, rfl, ?_⟩
 have Q5 := F5.size
 replace j := Z0 j F5
 refine Zn Fa (AM (C8 (v := S _) rfl η) ?_)
 exact ⟨_, rfl, by omega, j⟩
theorem PU : CQ Tryz.prog 87 = some true := ζ
theorem Zz : A8 Tryz.prog 87 1 = some 1 := ζ
theorem C0 : Cy Tryz.prog 87 = some (11, 176, some (.agg #[(.int .i64 0), (.string ⟨#[]⟩), (.slice none 0 0), (.slice none 0 0), (.string ⟨#[]⟩), (.string ⟨#[]⟩), (.string ⟨#[]⟩), (.string ⟨#[]⟩), (.int .i64 0), (.int .i64 0), (.slice none 0 0)])) := ζ
theorem Lm {x : StV} {k : Ac} {j : World}  :
    Calls Tryz.prog 75 #[(.agg (Enc.enc x).toArray), S k] j fun e w' => e = .returned (.int .i64 (IZ x.key k)) ∧ Evo j w' [] := by
 refine AG (n := 9) func75 rfl ntmps75 rfl ?_
 have C : Evo j j [] := Evo.refl _ _
 refine Zs (CE (vs := [_, _, _, _, _, _, _, _, _, _, _]) η η rfl ?_)
 intro b1 w2 J1 E2 B1 Y1
 have I := E2.size
 replace C := Z0 C E2
 refine Zn Am (Zs (Zo (AD rfl η Zz) (Zo (AA rfl BX η (B1.at.cell 1 η)) (Zo Ca (Zr [S _, S _] rfl η func76 cmps_calls ?_)))))
 rintro e J ⟨rfl, rfl⟩
 refine ⟨_, rfl, ?_⟩
 refine Zn Am (AM C3 ?_)
 exact ⟨rfl, C⟩
set_option maxHeartbeats 1000000 in
theorem Vy {ao : Option Addr} {b off cap : Nat} {l : List StV} {k : Ac} {R : World} (hl : RowE R ao b off cap l) :
    Calls Tryz.prog 74 #[.slice ao l.length cap, S k, .func (.func 75) #[] #[]] R fun e w' => ∃ (i : Nat) (x : Bool), e = .returned (.tuple #[.int .i64 (i : Nat), .bool x]) ∧ i ≤ l.length ∧ (x = true → i < l.length) ∧ Evo R w' [] := by
 refine AG (n := 49) func74 rfl ntmps74 rfl ?_
 have J : Evo R R [] := Evo.refl _ _
 have al := A9 hl
 have az := hl.bd
 refine Zs (Zo Am (Zn BV (Zs (Zo Bi (Zo (AQ rfl η underlying74) (Zn Am (Zs (Zo AU (Zo Am ?_)))))))))
 refine Zn Am (AE (AK (Aq (α := Nat × Nat) [9, 10, 11, 15, 16, 17, 18, 19, 20, 21, 22, 23, 24, 25, 26, 27, 28, 29, 30, 31, 32, 33, 34] (fun C g w => g 9 = .int .i64 (C.1 : Nat) ∧ g 10 = .int .i64 (C.2 : Nat) ∧ (C.1 ≤ C.2 ∧ C.2 ≤ l.length) ∧ R.heap.size ≤ w.heap.size ∧ Evo R w []) (fun C => C.2 - C.1) (0, l.length) ?_ ?_)))
 refine ⟨σ, σ, ⟨Nat.zero_le _, Nat.le_refl _⟩, δ, J⟩
 rintro C g w2 ⟨a1, hj4, hij, hzl1, J⟩
 have au := J.size
 replace hl := al _ J
 refine Zk 9 a1 (Zk 10 hj4 (AE (Zs (Zo AU (Zo AU (Zn Dn (AH η (fun aS => ?_) (fun aS => ?_))))))))
 refine AJ (AK (Zs (Zo AU (Zo AU (Zo Br (Zo (RU (a := (C.1 + C.2)) rfl underlying3 underlying193 η ω) (Zo (R2 (a := (C.1 + C.2)) (m := 1) rfl η η ω) (Zo (RW (a := ((C.1 + C.2) / 2 ^ 1)) rfl underlying193 underlying3 η ω) (Zn Am ?_)))))))))
 refine Zs (Zo (AN (v := .func _ _ _) rfl η) (Zo Bi (Zo AU (Zo (Ab (((C.1 + C.2) / 2 ^ 1)) rfl underlying74 C0 η η rfl ω (hl.addr (i := ((C.1 + C.2) / 2 ^ 1)) ω)) ?_))))
 have ag := fun (w' : World) (h : Evo R w' []) => (al w' h).atD (((C.1 + C.2) / 2 ^ 1)) ω
 refine Zo (AL rfl PU C0 η rfl (ag _ J)) (Zo Ca (Ft rfl rfl rfl (DR (vs := [.agg _, S _]) (cs := []) rfl η η func75 rfl ζ) (Lm (x := l.getD ((C.1 + C.2) / 2 ^ 1) default) (k := k)) ?_))
 rintro e w7 ⟨rfl, F7⟩
 refine ⟨_, rfl, ?_⟩
 have Q7 := F7.size
 replace J := Z0 J F7
 refine Zn Dn (AH η (fun aT => ?_) (fun aT => ?_))
 obtain ⟨U, j⟩ : ∃ U : Nat × Nat, U = (((C.1 + C.2) / 2 ^ 1) + 1, C.2) := ⟨_, rfl⟩
 refine AB (Zo AU (Zo Br (Zn Am (AX (DN U ?_ ?_ ?_)))))
 rw [j]; dsimp only; omega
 refine ⟨(by first | (rw [j]; done) | (rw [j]; exact rfl) | (rw [j]; exact congrArg (Value.int _) (by dsimp only; omega))), (by first | (rw [j]; done) | (rw [j]; exact rfl) | (rw [j]; exact congrArg (Value.int _) (by dsimp only; omega))), (by rw [j]; dsimp only; omega), δ, J⟩
 exact ψ
 obtain ⟨U, j⟩ : ∃ U : Nat × Nat, U = (C.1, ((C.1 + C.2) / 2 ^ 1)) := ⟨_, rfl⟩
 refine AB (Zo AU (Zn Am (AX (DN U ?_ ?_ ?_))))
 rw [j]; dsimp only; omega
 refine ⟨(by first | (rw [j]; done) | (rw [j]; exact rfl) | (rw [j]; exact congrArg (Value.int _) (by dsimp only; omega))), (by first | (rw [j]; done) | (rw [j]; exact rfl) | (rw [j]; exact congrArg (Value.int _) (by dsimp only; omega))), (by rw [j]; dsimp only; omega), δ, J⟩
 exact ψ
 refine Ak rfl (Zs (Zo AU (Zo AU (Zo AU (Zo Dn (Zo Cb ?_))))))
 refine Aj rfl BW rfl (fun I => AN (v := .func _ _ _) rfl η) ?_
 refine Aj rfl BW rfl (fun I => Bi) ?_
 refine Aj rfl BW rfl (fun I => AU) ?_
 refine Aj rfl BW rfl (fun I => Ab (C.1) rfl underlying74 C0 (Ar I) (Ar I) χ ω (hl.addr (i := C.1) ω)) ?_
 refine Aj rfl BW rfl (fun I => AL rfl PU C0 (Ar I) rfl (hl.atD (C.1) ω)) ?_
 refine Aj rfl BW rfl (fun I => Ca) ?_
 refine Dg rfl BW rfl (fun I => DR (cs := []) rfl (Ar I) (BU (v := .agg _) (Ar I) (BU (v := S _) (Ar I) (rfl))) func75 rfl ζ) (fun I => (Lm (x := l.getD C.1 default) (k := k)).mono (fun e w' h => ⟨h.1, h.2⟩)) (fun w9 F10 => ?_)
 have Q9 := F10.size
 replace J := Z0 J F10
 refine Aj rfl BW rfl (fun I => BK rfl (Ar I) η) ?_
 refine Zo Ht (Zo Am (Zn BV (AM (Fy (v := .int _ _) (u := .bool _) rfl η η) ?_)))
 exact ⟨_, _, rfl, by omega, fun h => by have h9 := (of_decide_eq_true h).1; omega, J⟩
end Go.Proofs.YtbgmlpbgofcfjaaGreatDoor
namespace Go.Vc
open Go Go.RowKit Go.IntWalk
theorem Ww {P : Program} {f : Fr} {w : World} {o : Oper} {t t2 e : TypeId} {x y : Operand} {ao : Option Addr} {n c : Nat} (I : o.op = .binOp .eql t x y t2) (hu : P.underlying t = some (.slice e)) (J : opv f x = .slice ao n c) (R : opv f y = .slice none 0 0) :
    (execOp (opv f) o).run P w = .ok (.value (.bool (decide (ao = none)))) w := by
  have j : (binOp .eql t (.slice ao n c) (.slice none 0 0)).run P w = .ok (.bool (decide (ao = none))) w := by
    rw [Lib.run_eql_slice_nil w t e ao n c 0 0 hu]; cases ao <;> rfl
  unfold execOp
  rw [I]
  simp only []
  rw [J, R]
  have C : (eqGuard .eql t x y (.slice ao n c) (.slice none 0 0)).run P w = .ok () w := by
    rfl
  simp [C, j]
end Go.Vc
namespace Go.Proofs.YtbgmlpbgofcfjaaGreatDoor
open Go.RowKit Go.Vc Go.Proofs.Tryz
theorem aB {α : Type} [Enc α] {w : World} {b off cap : Nat} {l : List α} (h : RowE w none b off cap l) : l = [] :=
  List.length_eq_zero_iff.1 (Nat.eq_zero_of_not_pos fun j => by have := h.addr (i := 0) j; cases this)
theorem Di {ao : Option Addr} {b off cap : Nat} {l : List Vc.Item} {I : World} (hl : RowE I ao b off cap l) (hlen : l.length ≤ 1000000) :
    Calls Tryz.prog 77 #[.slice ao l.length cap] I fun e w' => ∃ v, e = .returned v ∧ Evo I w' [] ∧ OwnE w' I.heap.size 71 v l := by
 refine AG (n := 8) func77 rfl ntmps77 rfl ?_
 have C : Evo I I [] := Evo.refl _ _
 have ag := A9 hl
 have U := hl.bd
 refine Zs (Zn Ew (AE (Zs (Zo Bi (Zn (by exact Ww rfl underlying33 η η) (AH η (fun J => ?_) (fun J => ?_)))))))
 refine Zs (Zn Ew (AM (C8 (v := .slice _ _ _) rfl η) ?_))
 exact ⟨_, rfl, C, (by have R : l = [] := (by subst J; exact aB hl); subst R; exact OwnE.nil _ _ _)⟩
 refine AJ (Zs (BT (pv := []) (zs := [_, _, _]) (cs := []) underlying33 AY η rfl η rfl η ?_))
 intro b2 w3 J2 E3 B2 Y2
 have Q3 := E3.size
 replace C := Z0 C E3
 have j : OwnE (α := Vc.Item) w3 I.heap.size 71 (.slice (some ⟨b2, 0, none⟩) 0 0) [] := Wc B2 ω
 refine Zo Bi (Bs rfl underlying33 AY η j η η (ag _ C) rfl θ θ ω ?_)
 intro v4 w5 E5 hov4 hlv4
 have Q5 := E5.size
 replace C := AP C E5 (fun g hg => .inl (by first | exact (j.block hg).1 | (have := j.block hg; omega)))
 refine Zn (AR (v := v4) rfl η) (AM (C8 (v := v4) rfl η) ?_)
 exact ⟨_, rfl, C, (by have R := hov4; rw [List.nil_append] at R; exact R)⟩
set_option maxHeartbeats 1000000 in
theorem HN {aT a1 : Option Addr} {bA bL a_ bB bM ba : Nat} {a b : List Vc.Item} {pv nx au pj : Ac} {cr og : Int} {w0 : World} (aS : RowE w0 aT bA bL a_ a) (az : RowE w0 a1 bB bM ba b) (en : a.length ≤ 16) (eT : b.length ≤ 16) :
    Calls Tryz.prog 27 #[.agg #[.slice aT a.length a_, .slice a1 b.length ba, S pv, S nx, S au, S pj, .int .i64 cr, .int .i64 og]] w0 fun e w' => ∃ v u, e = .returned (.agg #[v, u, S pv, S nx, S au, S pj, .int .i64 cr, .int .i64 og]) ∧ Evo w0 w' [] ∧ OwnE w' w0.heap.size 71 v a ∧ OwnE w' w0.heap.size 71 u b := by
 refine AG (n := 12) func27 rfl ntmps27 rfl ?_
 have hV : Evo w0 w0 [] := Evo.refl _ _
 have bm := A9 aS
 have bf := aS.bd
 have bb := A9 az
 have bl := az.bd
 refine Zs (CE (vs := [_, _, _, _, _, _, _, _]) η η rfl ?_)
 intro b1 w2 J1 E2 B1 Y1
 have Q2 := E2.size
 replace hV := Z0 hV E2
 refine CU (zs := [_, _, _, _, _, _, _, _]) Cv η rfl ?_
 intro b3 w4 J3 E4 B3 Y3
 have Q4 := E4.size
 replace hV := Z0 hV E4
 replace B1 := B1.evo0 E4
 refine Ag (AE ?_)
 have bz := B1
 have bF := B3
 have cp := hV
 refine Aw ([b1]) ζ ?_
 intro w5 F6 U
 have Q5 := F6.size
 replace hV := Z0 hV F6
 replace aS := bm _ hV
 replace B1 := B1.evo0 F6
 replace B3 := B3.evo0 F6
 refine Zt (i := 0) η (fun w' hC => AD rfl η Dv) U (Zt (i := 3) η (fun w' hC => AD rfl η HE) U ?_)
 refine GM (i := 1) (j := 4) ζ ?_ ?_
 refine EO η ?_
 refine Zo (AA rfl DZ η (B1.at.cell 0 η)) ?_
 refine AZ U ?_
 refine GM (i := 2) (j := 4) ζ ?_ ?_
 refine EO η ?_
 refine Zr [(.slice aT a.length a_)] rfl η func77 (Di aS ω) ?_
 rintro e w8 ⟨c0, rfl, F8, af⟩
 refine ⟨_, rfl, ?_⟩
 have Q8 := F8.size
 replace hV := Z0 hV F8
 replace U := Z0 U F8
 replace az := bb _ hV
 replace B1 := B1.evo0 F8
 replace B3 := B3.evo0 F8
 refine AZ U ?_
 refine Zh (i := 4) ?_
 refine Zo (AA rfl DZ η (B1.at.cell 1 η)) ?_
 refine AZ U ?_
 refine Zt (i := 6) η (fun w' hC => AD rfl η Dv) U ?_
 refine Zh (i := 5) ?_
 refine Zr [(.slice a1 b.length ba)] rfl η func77 (Di az ω) ?_
 rintro e w9 ⟨c3, rfl, F9, ag⟩
 refine ⟨_, rfl, ?_⟩
 have Q9 := F9.size
 replace hV := Z0 hV F9
 replace U := Z0 U F9
 replace B1 := B1.evo0 F9
 replace B3 := B3.evo0 F9
 replace af := af.evo0 F9
 refine AZ U ?_
 refine Zh (i := 7) ?_
 obtain ⟨bY, b8, bn⟩ := af.shape
 subst bn
 refine Ai (v := .slice _ _ _) (vs := [_]) (cs' := [_, _, _, _, _, _, _, _]) η η B1 NV η rfl η rfl η ?_
 intro w11 E11 V11 hb_new
 have c9 := E11.size
 replace hV := Z1 hV E11 ε
 replace B3 := B3.evo E11 θ
 replace af := af.evo E11 (by intro g hg hm; simp at hm; subst hm; have := af.block hg; omega)
 replace ag := ag.evo E11 (by intro g hg hm; simp at hm; subst hm; have := ag.block hg; omega)
 replace B1 := hb_new
 clear hb_new
 refine Ah ζ ?_
 refine Zh (i := 8) ?_
 refine Zo (AD rfl η HE) ?_
 refine Ah ζ ?_
 refine Zh (i := 9) ?_
 obtain ⟨b0, b9, bo⟩ := ag.shape
 subst bo
 refine Ai (v := .slice _ _ _) (vs := [_]) (cs' := [_, _, _, _, _, _, _, _]) η η B1 NV η rfl η rfl η ?_
 intro w13 E13 V13 hb_new
 have c_ := E13.size
 replace hV := Z1 hV E13 ε
 replace B3 := B3.evo E13 θ
 replace af := af.evo E13 (by intro g hg hm; simp at hm; subst hm; have := af.block hg; omega)
 replace ag := ag.evo E13 (by intro g hg hm; simp at hm; subst hm; have := ag.block hg; omega)
 replace B1 := hb_new
 clear hb_new
 refine Ah ζ ?_
 refine A5 ζ ?_
 refine Zs (Zo (AL rfl Ek Cv η rfl B1.at) (Ai (v := .agg _) (vs := [_, _, _, _, _, _, _, _]) (cs' := [_, _, _, _, _, _, _, _]) η η B3 Cv η rfl η rfl η ?_))
 intro w14 E14 V14 hb_new
 have dc := E14.size
 replace hV := Z1 hV E14 ε
 replace af := af.evo E14 (by intro g hg hm; simp at hm; subst hm; have := af.block hg; omega)
 replace ag := ag.evo E14 (by intro g hg hm; simp at hm; subst hm; have := ag.block hg; omega)
 replace B3 := hb_new
 clear hb_new
 refine Ag (AM (Nn (cs := [_, _, _, _, _, _, _, _]) rfl Ek Cv η rfl B3.at) ?_)
 exact ⟨_, _, rfl, hV, af.base_le ω, ag.base_le ω⟩
 refine EO η ?_
 refine Zo (AA rfl DZ η (B1.at.cell 1 η)) ?_
 refine AZ U ?_
 refine Zh (i := 2) ?_
 refine Zr [(.slice aT a.length a_)] rfl η func77 (Di aS ω) ?_
 rintro e eU ⟨bQ, rfl, F15, C⟩
 refine ⟨_, rfl, ?_⟩
 have dk := F15.size
 replace hV := Z0 hV F15
 replace U := Z0 U F15
 replace az := bb _ hV
 replace B1 := B1.evo0 F15
 replace B3 := B3.evo0 F15
 refine AZ U ?_
 refine Zt (i := 6) η (fun w' hC => AD rfl η Dv) U ?_
 refine Zh (i := 5) ?_
 refine Zr [(.slice a1 b.length ba)] rfl η func77 (Di az ω) ?_
 rintro e e0 ⟨bR, rfl, F16, J⟩
 refine ⟨_, rfl, ?_⟩
 have dm := F16.size
 replace hV := Z0 hV F16
 replace U := Z0 U F16
 replace B1 := B1.evo0 F16
 replace B3 := B3.evo0 F16
 replace C := C.evo0 F16
 refine AZ U ?_
 refine Zh (i := 7) ?_
 obtain ⟨b2, b_, bq⟩ := C.shape
 subst bq
 refine Ai (v := .slice _ _ _) (vs := [_]) (cs' := [_, _, _, _, _, _, _, _]) η η B1 NV η rfl η rfl η ?_
 intro w18 E18 V18 hb_new
 have dn := E18.size
 replace hV := Z1 hV E18 ε
 replace B3 := B3.evo E18 θ
 replace C := C.evo E18 (by intro g hg hm; simp at hm; subst hm; have := C.block hg; omega)
 replace J := J.evo E18 (by intro g hg hm; simp at hm; subst hm; have := J.block hg; omega)
 replace B1 := hb_new
 clear hb_new
 refine Ah ζ ?_
 refine Zh (i := 8) ?_
 refine Zo (AD rfl η HE) ?_
 refine Ah ζ ?_
 refine Zh (i := 9) ?_
 obtain ⟨b4, ca, br⟩ := J.shape
 subst br
 refine Ai (v := .slice _ _ _) (vs := [_]) (cs' := [_, _, _, _, _, _, _, _]) η η B1 NV η rfl η rfl η ?_
 intro w20 E20 V20 hb_new
 have dp := E20.size
 replace hV := Z1 hV E20 ε
 replace B3 := B3.evo E20 θ
 replace C := C.evo E20 (by intro g hg hm; simp at hm; subst hm; have := C.block hg; omega)
 replace J := J.evo E20 (by intro g hg hm; simp at hm; subst hm; have := J.block hg; omega)
 replace B1 := hb_new
 clear hb_new
 refine Ah ζ ?_
 refine A5 ζ ?_
 refine Zs (Zo (AL rfl Ek Cv η rfl B1.at) (Ai (v := .agg _) (vs := [_, _, _, _, _, _, _, _]) (cs' := [_, _, _, _, _, _, _, _]) η η B3 Cv η rfl η rfl η ?_))
 intro w21 E21 V21 hb_new
 have ds := E21.size
 replace hV := Z1 hV E21 ε
 replace C := C.evo E21 (by intro g hg hm; simp at hm; subst hm; have := C.block hg; omega)
 replace J := J.evo E21 (by intro g hg hm; simp at hm; subst hm; have := J.block hg; omega)
 replace B3 := hb_new
 clear hb_new
 refine Ag (AM (Nn (cs := [_, _, _, _, _, _, _, _]) rfl Ek Cv η rfl B3.at) ?_)
 exact ⟨_, _, rfl, hV, C.base_le ω, J.base_le ω⟩
 refine EO η ?_
 refine Zo (AA rfl DZ η (B1.at.cell 1 η)) ?_
 refine AZ U ?_
 refine Zh (i := 1) ?_
 refine Zo (AA rfl DZ η (B1.at.cell 0 η)) ?_
 refine AZ U ?_
 refine Zh (i := 2) ?_
 refine Zr [(.slice aT a.length a_)] rfl η func77 (Di aS ω) ?_
 rintro e e1 ⟨bS, rfl, F22, I⟩
 refine ⟨_, rfl, ?_⟩
 have dO := F22.size
 replace hV := Z0 hV F22
 replace U := Z0 U F22
 replace az := bb _ hV
 replace B1 := B1.evo0 F22
 replace B3 := B3.evo0 F22
 refine AZ U ?_
 refine Zt (i := 6) η (fun w' hC => AD rfl η Dv) U ?_
 refine Zh (i := 5) ?_
 refine Zr [(.slice a1 b.length ba)] rfl η func77 (Di az ω) ?_
 rintro e e2 ⟨bX, rfl, F23, R⟩
 refine ⟨_, rfl, ?_⟩
 have d_ := F23.size
 replace hV := Z0 hV F23
 replace U := Z0 U F23
 replace B1 := B1.evo0 F23
 replace B3 := B3.evo0 F23
 replace I := I.evo0 F23
 refine AZ U ?_
 refine Zh (i := 7) ?_
 obtain ⟨b5, cb, bs⟩ := I.shape
 subst bs
 refine Ai (v := .slice _ _ _) (vs := [_]) (cs' := [_, _, _, _, _, _, _, _]) η η B1 NV η rfl η rfl η ?_
 intro w25 E25 V25 hb_new
 have ea := E25.size
 replace hV := Z1 hV E25 ε
 replace B3 := B3.evo E25 θ
 replace I := I.evo E25 (by intro g hg hm; simp at hm; subst hm; have := I.block hg; omega)
 replace R := R.evo E25 (by intro g hg hm; simp at hm; subst hm; have := R.block hg; omega)
 replace B1 := hb_new
 clear hb_new
 refine Ah ζ ?_
 refine Zh (i := 8) ?_
 refine Zo (AD rfl η HE) ?_
 refine Ah ζ ?_
 refine Zh (i := 9) ?_
 obtain ⟨b6, cc, bt⟩ := R.shape
 subst bt
 refine Ai (v := .slice _ _ _) (vs := [_]) (cs' := [_, _, _, _, _, _, _, _]) η η B1 NV η rfl η rfl η ?_
 intro w27 E27 V27 hb_new
 have eb := E27.size
 replace hV := Z1 hV E27 ε
 replace B3 := B3.evo E27 θ
 replace I := I.evo E27 (by intro g hg hm; simp at hm; subst hm; have := I.block hg; omega)
 replace R := R.evo E27 (by intro g hg hm; simp at hm; subst hm; have := R.block hg; omega)
 replace B1 := hb_new
 clear hb_new
 refine Ah ζ ?_
 refine A5 ζ ?_
 refine Zs (Zo (AL rfl Ek Cv η rfl B1.at) (Ai (v := .agg _) (vs := [_, _, _, _, _, _, _, _]) (cs' := [_, _, _, _, _, _, _, _]) η η B3 Cv η rfl η rfl η ?_))
 intro w28 E28 V28 hb_new
 have ec := E28.size
 replace hV := Z1 hV E28 ε
 replace I := I.evo E28 (by intro g hg hm; simp at hm; subst hm; have := I.block hg; omega)
 replace R := R.evo E28 (by intro g hg hm; simp at hm; subst hm; have := R.block hg; omega)
 replace B3 := hb_new
 clear hb_new
 refine Ag (AM (Nn (cs := [_, _, _, _, _, _, _, _]) rfl Ek Cv η rfl B3.at) ?_)
 exact ⟨_, _, rfl, hV, I.base_le ω, R.base_le ω⟩
end Go.Proofs.YtbgmlpbgofcfjaaGreatDoor
