/-
  Library, plain laws and walks that the statements reach (joined by a program out of smaller texts).
-/
import Derived.Test.YtbgmlpbgofcfjaaGreatDoorQd
import Derived.Test.YtbgmlpbgofcfjaaGreatDoorQa
import Derived.Test.YtbgmlpbgofcfjaaGreatDoorQb
set_option linter.unusedVariables false
set_option linter.unusedSimpArgs false
namespace Go.Proofs.YtbgmlpbgofcfjaaGreatDoor
open Go.RowKit Go.Vc Go.Proofs.Tryz
theorem M7 : CQ Tryz.prog 107 = some true := ζ
theorem Le : CQ Tryz.prog 77 = some false := ζ
theorem PR : CQ Tryz.prog 78 = some false := ζ
theorem Pg : CQ Tryz.prog 79 = some false := ζ
theorem GS : A8 Tryz.prog 81 0 = some 0 := ζ
theorem Im : A8 Tryz.prog 81 1 = some 1 := ζ
theorem Ii : A8 Tryz.prog 81 2 = some 2 := ζ
theorem UD : Cn Tryz.prog 107 = some [(0, 1), (1, 1)] := ζ
theorem YB : Cn Tryz.prog 110 = some [(0, 1), (1, 1)] := ζ
theorem Ga : Cy Tryz.prog 107 = some (2, 32, some (.agg #[(.string ⟨#[]⟩), (.string ⟨#[]⟩)])) := ζ
theorem Hu : Cy Tryz.prog 108 = some (1, 24, some (.slice none 0 0)) := ζ
theorem Ce : Cy Tryz.prog 110 = some (2, 16, some (.agg #[(.int .i64 0), (.int .i64 0)])) := ζ
set_option maxHeartbeats 2000000 in
theorem Lk {ao : Option Addr} {b off cap : Nat} {l : List Vc.Item} {bx : Nat} {A : BG} {F : List Nat} {id : Int} {w0 : World} (hx : Mp w0 bx A F) (hl : RowE w0 ao b off cap l) (hq : ∀ x ∈ l, x.text.length ≤ 140737488355328) (hs : l.length ≤ 1000000) :
    Calls Tryz.prog 10 #[.pointer (some ⟨bx, 0, none⟩), .int .i64 id, .slice ao l.length cap] w0 fun e w' => ∃ F', e = .returned (.bool (decide (Gz A id))) ∧ Evo w0 w' F ∧ Mp w' bx (UA A id l) F' ∧ (∀ g ∈ F', g ∈ F ∨ w0.heap.size ≤ g) := by
 obtain ⟨ml, mg, mc, L, F1, F2, F3, hp, rfl⟩ := hx
 have hW : Evo w0 w0 [] := Evo.refl _ _
 have bt := fun w9 (h9 : Evo w0 w9 []) => (hp.evo h9 (by simp)).blk.at
 have bn := fun w9 (h9 : Evo w0 w9 []) => (hp.evo h9 (by simp)).lists
 have hN := hp.blk.lt; have hS := hp.lists.lt; have hQ := hp.grams.lt; have hP := hp.classes.lt
 have en := hp.lvs.len
 obtain ⟨n1, n2, n3, n4, n5, n6⟩ := hp.ne
 have gi := hp.lists.nodup
 rw [hp.lvs.1] at gi
 refine AG (n := 89) func10 rfl ntmps10 rfl ?_
 have R : Evo w0 w0 (feet bx ml mg mc F1 F2 F3) := Evo.refl _ _
 have U := bt
 have cv := bn
 have gU := A9 hl
 have gP := hl.bd
 refine Zs (Zn BV (AE (Zs (Zo (AN (v := (.pointer (some ⟨bx, 0, none⟩))) rfl η) (Zo (Au rfl η) (Zo (AD rfl η GS) (Zo (AA rfl Le η ((U _ hW).cell 0 η)) (Zo AU (Zo (GN (a := _) (z := (⟨none, 0, 0, none, ⟨0, 0, 0⟩, 0⟩ : LV)) (v := .agg _) (C7 underlying3) rfl underlying77 DH η η (cv _ hW) rfl) ?_)))))))))
 refine Zo PW (Zo (AI (v := .agg _) rfl η η) (Zo (AI (v := .bool _) rfl η η) (Bq (zs := [_, _, _, _, _, _]) (vs := [_, _, _, _, _, _]) DH η rfl η (fun _ => rfl) η rfl rfl η ?_)))
 intro b1 w2 J1 E2 B1 Y1
 have Q2 := E2.size
 replace R := Z0 R E2
 replace hW := Z0 hW E2
 replace hl := gU _ hW
 refine Zo BV (Ao (i := 8) (v := .bool (decide (id ∈ A.map (·.1)))) (congrArg Value.bool (QX hp.lvs id)) (Ag (Zs (Zo Cb (Zo Cb ?_)))))
 refine Aj rfl BQ rfl (fun C => AN (v := (.pointer (some ⟨bx, 0, none⟩))) rfl η) ?_
 refine Aj rfl BQ rfl (fun C => Au rfl (Ar C)) ?_
 refine Aj rfl BQ rfl (fun C => AD rfl (Ar C) GS) ?_
 refine Aj rfl BQ rfl (fun C => AA rfl Le (Ar C) ((U _ hW).cell 0 η)) ?_
 refine Aj rfl BQ rfl (fun C => Re rfl underlying77 (Ar C) (cv _ hW)) ?_
 refine Aj rfl BQ rfl (fun C => CV rfl (Ar C) η) ?_
 refine Zn FW (AH η (fun dc => ?_) (fun dc => ?_))
 refine Zs (Zn BV (AM G7 ?_))
 exact ⟨_, Bn (decide_eq_false (fun h9 => h9 (by rw [← en]; exact dc))).symm, R, by rw [bh (fun h9 => h9 (by rw [← en]; exact dc))]; exact ⟨ml, mg, mc, L, F1, F2, F3, hp.evo hW (by simp), rfl⟩, fun g C => .inl C⟩
 refine AJ (AE ?_)
 have dm : Gz A id := by unfold Gz; rw [← en]; exact dc
 have hid : id ∉ A.map (·.1) := fun q => dm (.inl q)
 have hlen : A.length < 1024 := by have h9 : ¬ 1024 ≤ (A.length : Int) := (fun q => dm (.inr q)); omega
 refine AB (Zo Bi (Zr [.slice _ _ _] rfl η func34 (KZ hl hq hs) ?_))
 rintro e w4 ⟨eb, gl4, gc4, cb4, M4, rfl, hE4, aT, al, hcq4, hcb4⟩
 refine ⟨_, rfl, ?_⟩
 have Q4 := hE4.size
 replace R := Z0 R hE4
 replace hW := Z0 hW hE4
 have ha := fun g C => (aT.block (g := g) C).2
 refine Bq (zs := [_, _, _, _, _, _]) (vs := [_, _, _, _, _, _]) DH η rfl η (fun _ => rfl) η rfl rfl η ?_
 intro b6 w7 J6 E7 B6 Y6
 have Q7 := E7.size
 replace R := Z0 R E7
 replace hW := Z0 hW E7
 replace bt := U _ hW
 replace bn := cv _ hW
 replace aT := aT.evo0 E7
 replace al := al.evo0 E7
 have au := B6.at
 refine Ag (AE ?_)
 have ca := fun g C => (aT.block (g := g) C); have hK := al.lt
 obtain ⟨gg, g4, e1, gf⟩ := aT.row_of; subst gg
 have cc := hp.evo hW (by simp)
 have a1 : Evo w7 w7 [ml] := Evo.refl _ _
 have U := fun w9 (h9 : Evo w7 w9 [ml]) => (cc.blk.evo h9 hp.bx0).at; have bt := U _ a1; have bn := cc.lists
 have bq := fun w9 (h9 : Evo w7 w9 [ml]) => C1 e1 h9 (fun e0 hm => by have h2 := (gf e0).2; simp at hm; omega)
 have gQ := al
 have gO := B6
 have c_ := au
 have gV := bn
 have dn := R
 have ej := a1
 refine Aw ([ml]) ζ ?_
 intro w8 hE9 hCst5
 have Q8 := hE9.size
 replace R := Z0 R hE9
 replace a1 := Z0 a1 hE9
 replace aT := aT.evo0 hE9
 replace al := al.evo0 hE9
 replace B6 := B6.evo0 hE9
 replace au := au.evo0 hE9
 replace bn := bn.evo0 hE9
 refine Zt (i := 0) η (fun w' hC => AN (v := (.pointer (some ⟨bx, 0, none⟩))) rfl η) hCst5 (Zt (i := 1) η (fun w' hC => Au rfl η) hCst5 (Zt (i := 2) η (fun w' hC => AD rfl η GS) hCst5 (Zt (i := 3) η (fun w' hC => AA rfl Le η ((U _ (CL ej hC (fun g C => by simp at C; subst C; first | exact .inr (by simp) | exact .inr (Ap.2 (.inr (.inl rfl)))))).cell 0 η)) hCst5 (Zt (i := 4) η (fun w' hC => AU) hCst5 (Zt (i := 5) η (fun w' hC => AL rfl Pw DH η rfl (c_.evo hC (fun hm => by simp at hm; omega))) hCst5 ?_)))))
 refine Zh (i := 6) ?_
 refine Et (a := id) (v := (⟨eb, (AW (AO l)).length, gc4, some cb4, PH l, EU l⟩ : LV)) (C7 underlying3) underlying77 η η η bn ?_
 intro bf E10 V10 hm_new
 have hd := E10.size
 replace R := Z1 R E10 (.inr (Ap.2 (.inr (.inl rfl))))
 replace a1 := Z1 a1 E10 ε
 replace aT := aT.evo E10 (by intro g C hm; simp at hm; subst hm; have h7 := (ca g C).1; omega)
 replace al := al.evo E10 θ
 replace B6 := B6.evo E10 θ
 replace au := au.evo E10 θ
 replace bt := U _ a1
 replace e1 := bq _ a1
 replace bn := hm_new
 clear hm_new
 refine Ah ζ ?_
 refine A5 ζ ?_
 refine AE (AE ?_)
 have dp := cc.blk.evo a1 hp.bx0; have gh := cc.grams.evo a1 hp.mg0 hp.f10; have fs := cc.classes.evo a1 hp.mc0 hp.f20; have gm := cc.lvs.evo a1 hp.f30
 rw [YK (by rw [hp.lvs.1]; exact hid)] at bn
 have gy := bq _ a1
 have hI : Evo bf bf (mg :: F1) := Evo.refl _ _
 have U := fun w9 (h9 : Evo bf w9 (mg :: F1)) => (dp.evo h9 hp.bx1).at; replace bt := U _ hI
 have bq := fun w9 (h9 : Evo bf w9 (mg :: F1)) => C1 gy h9 (fun e0 hm => by have h2 := (gf e0).2; exact hp.nw1 _ ω hm); replace e1 := bq _ hI
 have gu := aT; have dO := al; have gj := bn; have gT := EK (AO l); have hL := HT (AO l); have hX := C9 l
 have bM := fun w9 (h9 : Evo bf w9 (mg :: F1)) => au.evo h9 (hp.nw1 _ ω); replace au := bM _ hI
 refine AB (Zo (AD rfl η Jp) (Zo (AA rfl VY η (au.cell 0 η)) (Ao (i := 42) (v := (.slice eb (AW (AO l)).length gc4)) rfl (Zo (AQ rfl η underlying96) (Zn AU (AK (Aq (α := Nat) [11, 12, 44, 45, 46, 47, 48, 49, 50, 51, 52, 53, 54, 55, 56, 57, 58, 59, 60, 61, 62, 63, 64, 65, 66, 67] (fun k g w => ∃ G1 : List Nat, g 44 = .int .i64 (k : Nat) ∧ k ≤ (AW (AO l)).length ∧ FamIs w mg eQ 110 (Nh (((AW (AO l)).drop k).map Bj) (post IW A) (post IW (A ++ [(id, l)]))) G1 ∧ (∀ g ∈ G1, g ∈ F1 ∨ bf.heap.size ≤ g) ∧ bf.heap.size ≤ w.heap.size ∧ Evo w0 w (feet bx ml mg mc F1 F2 F3) ∧ Evo bf w (mg :: F1)) (fun k => (AW (AO l)).length - k) 0 ?_ ?_)))))))
 refine ⟨F1, σ, δ, (gh.congr (Ma (fun y hy => (PY (I6 hy)).symm))), (fun g C => .inl C), δ, R, hI⟩
 rintro k g cm ⟨G1, hj13, hk_k, br, hG1, hzl11, R, hI⟩
 have e5 := R.size
 have e4 := hI.size
 replace au := bM _ hI
 replace bt := U _ hI
 refine Zk 44 hj13 ?_
 have dk := br.flt
 refine Zs (Zn Dn (AE (AH η (fun fr => ?_) (fun fr => ?_))))
 refine AJ (AE (AK (Zs (Zo (Ab (k) rfl underlying96 ER η η χ ω ((bq _ hI).addr (i := k) ω)) ?_))))
 have ec := fun (w' : World) (h : Evo bf w' (mg :: F1)) => (bq w' h).atD (k) ω
 refine Zo (AL rfl QR ER η rfl (ec _ hI)) (Bq (zs := [_, _, _]) (vs := [_, _, _]) ER η rfl η (fun _ => rfl) η rfl rfl η ?_)
 intro b16 w17 J16 E17 B16 Y16
 have hf := E17.size
 replace R := Z0 R E17
 replace hI := Z0 hI E17
 replace br := br.evo0 E17
 refine Ag (Zs (Zo (AD rfl η H9) (Zo (AA rfl BX η (B16.at.cell 0 η)) (Zo (AD rfl η Ic) (Zo (AA rfl BX η (B16.at.cell 1 η)) (Zo (A2 (pv := [(0, S _), (1, S _)]) (zs := [_, _]) (cells := [_, _]) rfl Ga η UD η η) (Bq (zs := [_, _]) (vs := [_, _]) Ga η rfl η (fun _ => rfl) η rfl rfl η ?_)))))))
 intro b18 w19 J18 E19 B18 Y18
 have hh := E19.size
 replace R := Z0 R E19
 replace hI := Z0 hI E19
 replace br := br.evo0 E19
 replace B16 := B16.evo0 E19
 refine Ag ?_
 obtain ⟨M, hm, af, bc, eT⟩ := br; have ho := af.own (Bj ((AW (AO l)).getD k default)); have eU := hm.lt
 have gW : (Nh (((AW (AO l)).drop k).map Bj) (post IW A) (post IW (A ++ [(id, l)])) (Bj ((AW (AO l)).getD k default))).length ≤ A.length := (by rw [LJ ((It ω _).2 (.inl rfl))]; exact G5)
 have hR : Evo w19 w19 ([mg] ++ (FC M (Bj ((AW (AO l)).getD k default))).ownBlock.toList) := Evo.refl _ _
 have bQ : ∀ g ∈ ([mg] ++ (FC M (Bj ((AW (AO l)).getD k default))).ownBlock.toList), bf.heap.size ≤ g ∨ g ∈ mg :: F1 := fun g C => (List.mem_append.1 C).elim (fun h => .inr (List.mem_cons.2 (.inl (by simpa using h)))) (fun h => (hG1 g (af.foot _ g (Option.mem_toList.1 h))).elim (fun h2 => .inr (List.mem_cons_of_mem _ h2)) (fun h2 => .inl ω))
 have ct : ∀ g ∈ ([mg] ++ (FC M (Bj ((AW (AO l)).getD k default))).ownBlock.toList), w0.heap.size ≤ g ∨ g ∈ (feet bx ml mg mc F1 F2 F3) := fun g C => (bQ g C).elim (fun h => .inl ω) (fun h => .inr ((List.mem_cons.1 h).elim (fun h2 => (Ap.2 (.inr (.inr (.inl h2))))) (fun h2 => (Ap.2 (.inr (.inr (.inr (.inr (.inl h2)))))))))
 have fg := B16
 have cp := B16.at
 have fi := B18
 have cq := B18.at
 have gq := hm
 have dn := R
 have e9 := hI
 have e_ := hR
 refine Aw (([mg] ++ (FC M (Bj ((AW (AO l)).getD k default))).ownBlock.toList)) ζ ?_
 intro w20 hE21 j
 have hi := hE21.size
 replace R := Z0 R hE21
 replace hI := Z0 hI hE21
 replace hR := Z0 hR hE21
 replace B16 := B16.evo0 hE21
 replace B18 := B18.evo0 hE21
 replace hm := hm.evo0 hE21
 replace ho := ho.evo0 hE21
 refine Zt (i := 0) η (fun w' hC => AN (v := (.pointer (some ⟨bx, 0, none⟩))) rfl η) j (Zt (i := 1) η (fun w' hC => Au rfl η) j (Zt (i := 2) η (fun w' hC => AD rfl η Im) j (Zt (i := 3) η (fun w' hC => AA rfl PR η ((U _ (CL e9 hC (fun g C => by first | exact bQ g C | exact ct g C))).cell 1 η)) j (Zt (i := 4) η (fun w' hC => AL rfl M7 Ga η rfl (cq.evo hC (fun hm => by rcases List.mem_append.1 hm with h8 | h8; (simp at h8; omega); (have h7 := dk _ (af.foot _ _ (Option.mem_toList.1 h8)); omega)))) j (Zt (i := 5) η (fun w' hC => AU) j (Zt (i := 6) η (fun w' hC => AD rfl η OG) j (Zt (i := 7) η (fun w' hC => AA rfl Ae η ((cp.evo hC (fun hm => by rcases List.mem_append.1 hm with h8 | h8; (simp at h8; omega); (have h7 := dk _ (af.foot _ _ (Option.mem_toList.1 h8)); omega))).cell 2 η)) j (Zt (i := 8) η (fun w' hC => A2 (pv := [(0, .int _ _), (1, .int _ _)]) (zs := [_, _]) (cells := [_, _]) rfl Ce η YB η η) j ?_))))))))
 refine Zh (i := 9) ?_
 have gX := fun g C => (ho.block (g := g) C).2
 refine BT (pv := [(0, .agg _)]) (zs := [_, _]) (cs := [_, _]) underlying108 Ce η rfl η rfl η ?_
 intro b23 w24 J23 E24 B23 Y23
 have hj := E24.size
 replace R := Z0 R E24
 replace hI := Z0 hI E24
 replace hR := Z0 hR E24
 replace j := Z0 j E24
 replace B18 := B18.evo0 E24
 replace hm := hm.evo0 E24
 replace ho := ho.evo0 E24
 have b0 := CH (α := Range) [⟨_, _⟩] B23 (by show [_, _] = [_, _]; first | (dsimp only; done) | exact rfl | (dsimp only; exact rfl)) rfl
 refine AZ j ?_
 refine Zh (i := 10) ?_
 refine CX (a := (Bj ((AW (AO l)).getD k default))) (z := Ob) Mt rfl underlying78 Hu η η hm ?_
 intro s25 w25 hE25 V25 hm_new b3
 have hn := hE25.size
 replace R := Z1 R hE25 (.inr (Ap.2 (.inr (.inr (.inl rfl)))))
 replace hI := Z1 hI hE25 ε
 replace hR := Z1 hR hE25 ε
 replace j := Z1 j hE25 ε
 replace ho := ho.evo hE25 (by intro g C hm; simp at hm; subst hm; exact bc (af.foot _ _ C))
 replace b0 := b0.evo hE25 θ
 replace hm := hm_new
 clear hm_new
 refine AZ j ?_
 refine Zt (i := 11) η (fun w' hC => AI (v := (FC M (Bj ((AW (AO l)).getD k default)))) rfl η η) j (Zt (i := 13) η (fun w' hC => AI (v := .int _ _) rfl η η) j ?_)
 refine Zh (i := 12) ?_
 refine Bs rfl underlying108 Ce η ho η η b0 rfl ((by simp only [List.length_cons, List.length_nil]; omega)) ((by simp only [List.length_cons, List.length_nil]; omega)) ω ?_
 intro v26 w27 E27 bX hlv26
 have hr := E27.size
 replace R := AP R E27 (fun g C => (ct g (List.mem_append_right _ (Option.mem_toList.2 C))))
 replace hI := AP hI E27 (fun g C => (bQ g (List.mem_append_right _ (Option.mem_toList.2 C))))
 replace hR := AP hR E27 (fun g C => .inr (List.mem_append_right _ (Option.mem_toList.2 C)))
 replace j := AP j E27 (fun g C => .inr (List.mem_append_right _ (Option.mem_toList.2 C)))
 replace hm := hm.evo E27 (by intro bb; exact bc (af.foot _ _ (Option.mem_toList.1 bb)))
 replace b3 := b3.evo2 E27 (by intro bb; exact bc (af.foot _ _ (Option.mem_toList.1 bb)))
 refine AZ j ?_
 refine Zh (i := 14) ?_
 refine Bw (a := (Bj ((AW (AO l)).getD k default))) Mt η η η hm b3 ?_
 intro w28 hE28 V28 hm_new
 have ht := hE28.size
 replace R := Z1 R hE28 (.inr (Ap.2 (.inr (.inr (.inl rfl)))))
 replace hI := Z1 hI hE28 ε
 replace hR := Z1 hR hE28 ε
 replace bX := bX.evo hE28 (by intro g C hm; simp at hm; subst hm; rcases hlv26 with h7 | h7; exact bc (af.foot _ _ (h7 ▸ C)); (rw [C] at h7; injection h7; omega))
 replace hm := hm_new
 clear hm_new
 refine Ah ζ ?_
 refine A5 ζ ?_
 refine AX (AB (Zo Br (Zn AU (Zg (k + 1) ?_))))
 refine ⟨(v26.ownBlock.toList ++ G1), σ, δ, (cF af bc eT eU hR hm bX (EZ (EM ω)).1 (EZ (EM ω)).2 (MR hlv26 ω) (It ω) (Jx gT ω)), (Kn hG1 (af.foot (Bj ((AW (AO l)).getD k default))) (MR hlv26 (Nat.le_refl _)) ω), δ, R, hI⟩
 refine Ak rfl (AE (AE ?_))
 have e8 : ((AW (AO l)).drop k).map Bj = [] := by rw [List.drop_of_length_le ω]; rfl
 replace br := br.congr (P' := post IW (A ++ [(id, l)])) (fun y => by rw [e8]; exact MQ y)
 have al := dO.evo hI (hp.nw1 _ ω); have gb := al.nodup
 have ds := dp.evo hI hp.bx1; have f_ := fs.evo hI hp.mc1 hp.f21; have gn := gm.evo hI hp.f31; have gk := gj.evo hI hp.ml1; have gw := gu.evo hI (fun g C => hp.nw1 g (by have := (ca g C).1; omega)); have ga := dO.evo hI (hp.nw1 _ ω); have ea := br
 have bM := fun w9 (h9 : Evo cm w9 (mc :: F2)) => au.evo h9 (hp.nw2 _ ω)
 have J : Evo cm cm (mc :: F2) := Evo.refl _ _
 have U := fun w9 (h9 : Evo cm w9 (mc :: F2)) => (ds.evo h9 hp.bx2).at; replace bt := U _ J
 refine AB (Zo (AD rfl η Km) (Zo (AA rfl VL η (au.cell 1 η)) (Ip rfl underlying97 η al ?_)))
 intro r29 w30 her29 E30 I hzr29
 have hv := E30.size
 replace R := Z0 R E30
 replace J := Z0 J E30
 replace bt := U _ J
 replace al := al.evo0 E30
 refine Ag (AK ?_)
 have hM := I.lt
 refine Aq (α := List (Vc.Item × Int)) [13, 14, 71, 72, 73, 74, 75, 76, 77, 78, 79, 80, 81, 82, 83, 84, 85, 86, 87, 88] (fun left g w => ∃ la : Option (Vc.Item × Int), ∃ G2 : List Nat, IterIs w r29 cb4 (fun x : Vc.Item => Value.agg (Enc.enc x).toArray) (Value.int .i64) M4 left la ∧ FamIs w mc dC 110 (Nh (left.map (·.1)) (post Ec A) (post Ec (A ++ [(id, l)]))) G2 ∧ (∀ g ∈ G2, g ∈ F2 ∨ w30.heap.size ≤ g) ∧ left.Sublist M4 ∧ w30.heap.size ≤ w.heap.size ∧ Evo w0 w (feet bx ml mg mc F1 F2 F3) ∧ Evo cm w (mc :: F2)) (fun left => left.length) M4 ?_ ?_
 refine ⟨_, F2, I, ((f_.evo0 E30).congr (Ma (fun y hy => (PY (N6 hcq4 hy)).symm))), (fun g C => .inl C), (List.Sublist.refl _), δ, R, J⟩
 rintro left g hZ ⟨la, G2, I, bS, hG2, hls, hzl31, R, J⟩
 have e6 := R.size
 have e2 := J.size
 have dk := bS.flt
 refine Zs (LF rfl η I (fun gr => ?_) (fun c0 ba c3 h0 bo b8 hb b9 => ?_))
 subst gr
 refine Zn (AI (v := .bool _) rfl η η) (AE (Dm η (Ak rfl (Zs (Zn BV (AM G7 ?_))))))
 have gd := bS.congr (P' := post Ec (A ++ [(id, l)])) MQ
 have d_ := aL (id := id) (l := l) (F4 := (Value.slice eb (AW (AO l)).length gc4).ownBlock.toList ++ [cb4]) (n1 := bf.heap.size) (n2 := w30.heap.size) hp (ds.evo J hp.bx2) (gk.evo J hp.ml2) (gn.evo J hp.f32)
   ⟨(gw.evo J (fun g C => hp.nw2 g (by have := (ca g C).1; omega))).base_le (Nat.zero_le _), ⟨cb4, M4, rfl, ga.evo J (hp.nw2 _ ω), hcq4, List.mem_append_right _ (by simp)⟩, fun g C => List.mem_append_left _ (Option.mem_toList.2 C), rfl, rfl⟩
   (ea.evo J hp.mg2 (fun g C => (hG1 g C).elim (hp.f12 g) (fun h => hp.nw2 g ω))) gd hG1 (fun g C => Nat.lt_of_lt_of_le (ea.flt g C) ω) hG2 (fun g C => by rcases List.mem_append.1 C with h | h; (have := ca g (Option.mem_toList.1 h); omega); (simp at h; omega)) ω ω ω
 exact ⟨_, Bn (decide_eq_true dm).symm, R, by rw [Ko dm]; exact d_.1, d_.2⟩
 have hz := b8.size
 replace R := Z1 R b8 ε
 replace J := Z1 J b8 ε
 replace bS := bS.evo b8 θ (fun g C hm => by have h6 : g = r29 := (by simpa using hm); rcases hG2 _ C with h7 | h7; (have h8 := hp.l2 _ h7; omega); omega)
 replace I := b9
 clear b9
 refine Zn (AI (v := .bool _) rfl η η) (AE (DY η (AJ (AK (Zs (Zo (EW rfl η I) (Zo (AI (v := .agg _) rfl η η) (Zo (AI (v := .int _ _) rfl η η) (Bq (zs := [_, _, _]) (vs := [_, _, _]) Aa η rfl η (fun _ => rfl) η rfl rfl η ?_)))))))))
 intro b34 w35 J34 E35 B34 Y34
 have hA := E35.size
 replace R := Z0 R E35
 replace J := Z0 J E35
 replace bS := bS.evo0 E35
 replace I := I.evo0 E35
 refine Zn Am ?_
 obtain ⟨M, hm, af, bc, eT⟩ := bS; have ho := af.own ba.1; have eU := hm.lt
 have gW : (Nh (left.map (·.1)) (post Ec A) (post Ec (A ++ [(id, l)])) ba.1).length ≤ A.length := (by rw [LJ (by rw [bo]; simp)]; exact G5)
 have hR : Evo w35 w35 ([mc] ++ (FC M ba.1).ownBlock.toList) := Evo.refl _ _
 have bQ : ∀ g ∈ ([mc] ++ (FC M ba.1).ownBlock.toList), cm.heap.size ≤ g ∨ g ∈ mc :: F2 := fun g C => (List.mem_append.1 C).elim (fun h => .inr (List.mem_cons.2 (.inl (by simpa using h)))) (fun h => (hG2 g (af.foot _ g (Option.mem_toList.1 h))).elim (fun h2 => .inr (List.mem_cons_of_mem _ h2)) (fun h2 => .inl ω))
 have ct : ∀ g ∈ ([mc] ++ (FC M ba.1).ownBlock.toList), w0.heap.size ≤ g ∨ g ∈ (feet bx ml mg mc F1 F2 F3) := fun g C => (bQ g C).elim (fun h => .inl ω) (fun h => .inr ((List.mem_cons.1 h).elim (fun h2 => (Ap.2 (.inr (.inr (.inr (.inl h2)))))) (fun h2 => (Ap.2 (.inr (.inr (.inr (.inr (.inr (.inl h2))))))))))
 have fo := B34
 have cr := B34.at
 have gq := hm
 have dn := R
 have ek := J
 have e_ := hR
 refine Aw (([mc] ++ (FC M ba.1).ownBlock.toList)) ζ ?_
 intro w36 hE37 o
 have hB := hE37.size
 replace R := Z0 R hE37
 replace J := Z0 J hE37
 replace hR := Z0 hR hE37
 replace I := I.evo0 hE37
 replace B34 := B34.evo0 hE37
 replace hm := hm.evo0 hE37
 replace ho := ho.evo0 hE37
 refine Zt (i := 0) η (fun w' hC => AN (v := (.pointer (some ⟨bx, 0, none⟩))) rfl η) o (Zt (i := 1) η (fun w' hC => Au rfl η) o (Zt (i := 2) η (fun w' hC => AD rfl η Ii) o (Zt (i := 3) η (fun w' hC => AA rfl Pg η ((U _ (CL ek hC (fun g C => by first | exact bQ g C | exact ct g C))).cell 2 η)) o (Zt (i := 4) η (fun w' hC => AL rfl BE Aa η rfl (cr.evo hC (fun hm => by rcases List.mem_append.1 hm with h8 | h8; (simp at h8; omega); (have h7 := dk _ (af.foot _ _ (Option.mem_toList.1 h8)); omega)))) o (Zt (i := 5) η (fun w' hC => AU) o (Zt (i := 6) η (fun w' hC => AU) o (Zt (i := 7) η (fun w' hC => A2 (pv := [(0, .int _ _), (1, .int _ _)]) (zs := [_, _]) (cells := [_, _]) rfl Ce η YB η η) o ?_)))))))
 refine Zh (i := 8) ?_
 have gY := fun g C => (ho.block (g := g) C).2
 refine BT (pv := [(0, .agg _)]) (zs := [_, _]) (cs := [_, _]) underlying108 Ce η rfl η rfl η ?_
 intro b39 w40 J39 E40 B39 Y39
 have hD := E40.size
 replace R := Z0 R E40
 replace J := Z0 J E40
 replace hR := Z0 hR E40
 replace o := Z0 o E40
 replace I := I.evo0 E40
 replace B34 := B34.evo0 E40
 replace hm := hm.evo0 E40
 replace ho := ho.evo0 E40
 have b2 := CH (α := Range) [⟨_, _⟩] B39 (by show [_, _] = [_, _]; first | (dsimp only; done) | exact rfl | (dsimp only; exact rfl)) rfl
 refine AZ o ?_
 refine Zh (i := 9) ?_
 refine CX (a := ba.1) (z := Ob) DB rfl underlying79 Hu η η hm ?_
 intro s41 w41 hE41 V41 hm_new b4
 have hE := hE41.size
 replace R := Z1 R hE41 (.inr (Ap.2 (.inr (.inr (.inr (.inl rfl))))))
 replace J := Z1 J hE41 ε
 replace hR := Z1 hR hE41 ε
 replace o := Z1 o hE41 ε
 replace I := I.evo hE41 θ θ
 replace ho := ho.evo hE41 (by intro g C hm; simp at hm; subst hm; exact bc (af.foot _ _ C))
 replace b2 := b2.evo hE41 θ
 replace hm := hm_new
 clear hm_new
 refine AZ o ?_
 refine Zt (i := 10) η (fun w' hC => AI (v := (FC M ba.1)) rfl η η) o (Zt (i := 12) η (fun w' hC => AI (v := .int _ _) rfl η η) o ?_)
 refine Zh (i := 11) ?_
 refine Bs rfl underlying108 Ce η ho η η b2 rfl ((by simp only [List.length_cons, List.length_nil]; omega)) ((by simp only [List.length_cons, List.length_nil]; omega)) ω ?_
 intro v42 w43 E43 bY hlv42
 have hF := E43.size
 replace R := AP R E43 (fun g C => (ct g (List.mem_append_right _ (Option.mem_toList.2 C))))
 replace J := AP J E43 (fun g C => (bQ g (List.mem_append_right _ (Option.mem_toList.2 C))))
 replace hR := AP hR E43 (fun g C => .inr (List.mem_append_right _ (Option.mem_toList.2 C)))
 replace o := AP o E43 (fun g C => .inr (List.mem_append_right _ (Option.mem_toList.2 C)))
 replace I := I.evo E43 (by intro bb; have h6 := af.foot _ _ (Option.mem_toList.1 bb); rcases hG2 _ h6 with h7 | h7; (have h8 := hp.l2 _ h7; omega); omega) (by intro bb; have h6 := af.foot _ _ (Option.mem_toList.1 bb); rcases hG2 _ h6 with h7 | h7; (have h8 := hp.l2 _ h7; omega); omega)
 replace hm := hm.evo E43 (by intro bb; exact bc (af.foot _ _ (Option.mem_toList.1 bb)))
 replace b4 := b4.evo2 E43 (by intro bb; exact bc (af.foot _ _ (Option.mem_toList.1 bb)))
 refine AZ o ?_
 refine Zh (i := 13) ?_
 refine Bw (a := ba.1) DB η η η hm b4 ?_
 intro w44 hE44 V44 hm_new
 have hG := hE44.size
 replace R := Z1 R hE44 (.inr (Ap.2 (.inr (.inr (.inr (.inl rfl))))))
 replace J := Z1 J hE44 ε
 replace hR := Z1 hR hE44 ε
 replace I := I.evo hE44 θ θ
 replace bY := bY.evo hE44 (by intro g C hm; simp at hm; subst hm; rcases hlv42 with h7 | h7; exact bc (af.foot _ _ (h7 ▸ C)); (rw [C] at h7; injection h7; omega))
 replace hm := hm_new
 clear hm_new
 refine Ah ζ ?_
 refine A5 ζ ?_
 refine AX ?_
 have b_ := bY
 have gx := JA hcq4 gb (hls.subset (by rw [bo]; simp : ba ∈ left))
 refine DN (c0 ++ c3) ?_ ?_ ?_
 rw [bo]; simp
 refine ⟨_, (v42.ownBlock.toList ++ G2), I, (by rw [bo] at af b_; exact cF af bc eT eU hR hm b_ gx.1 gx.2 (MR hlv42 ω) Ni (JN (by rw [← bo]; exact gb.sublist (hls.map _)))), (Kn hG2 (af.foot ba.1) (MR hlv42 (Nat.le_refl _)) ω), (List.Sublist.trans ((List.Sublist.refl c0).append (List.sublist_cons_self ba c3)) (by rw [← bo]; exact hls)), δ, R, J⟩
 exact ψ
theorem Ks : CQ Tryz.prog 110 = some true := ζ
theorem Gx : A8 Tryz.prog 110 0 = some 0 := ζ
theorem IA {p : Range} {id : Int} {I : Nat} {o : World} (J : Blk o I 3 [.int .i64 id]) :
    Calls Tryz.prog 140 #[.agg (Enc.enc p).toArray, .pointer (some ⟨I, 0, none⟩)] o fun e w' => e = .returned (.bool (decide (p.lo = id))) ∧ Evo o w' [] := by
 have j := J.at; have R := J.lt
 refine AG (n := 8) func140 rfl ntmps140 rfl ?_
 have C : Evo o o [] := Evo.refl _ _
 refine Zs (CE (vs := [_, _]) η η rfl ?_)
 intro b1 w2 J1 E2 B1 Y1
 have U := E2.size
 replace C := Z0 C E2
 replace j := j.evo0 E2
 refine Zn BV (Zs (Zo (AD rfl η Gx) (Zo (AA rfl Ae η (B1.at.cell 0 η)) (Zo (AA rfl Ae η (j.cell 0 η)) (Zo DA (Zn BV (AM G7 ?_)))))))
 exact ⟨rfl, C⟩
theorem OU {ao : Option Addr} {b off cap : Nat} {l : List Range} {id : Int} {bn : Nat} {I : World} (hl : RowE I ao b off cap l) (C : Blk I bn 3 [.int .i64 id]) :
    Calls Tryz.prog 203 #[.slice ao l.length cap, .func (.func 140) #[] #[.pointer (some ⟨bn, 0, none⟩)]] I fun e w' => ∃ r, e = .returned (.int .i64 r) ∧ Evo I w' [] ∧ ((r = -1 ∧ ∀ j, j < l.length → ¬ (l.getD j default).lo = id) ∨ ∃ k : Nat, k < l.length ∧ r = (k : Int) ∧ (l.getD k default).lo = id ∧ ∀ j, j < k → ¬ (l.getD j default).lo = id) := by
 have a_ := C.at; have a1 := C.lt
 refine AG (n := 19) func203 rfl ntmps203 rfl ?_
 have o : Evo I I [] := Evo.refl _ _
 have U := A9 hl
 have al := hl.bd
 refine Zs (Zn Am (AE (Zs (Zo Bi (Zo (AQ rfl η underlying108) (Zn AU (AK (Aq (α := Nat) [4, 5, 8, 9, 10, 11, 12, 13, 14, 15, 16, 17, 18] (fun k g w => g 8 = .int .i64 (k : Nat) ∧ k ≤ l.length ∧ Blk w bn 3 [.int .i64 id] ∧ (∀ j, j < k → ¬ (l.getD j default).lo = id) ∧ I.heap.size ≤ w.heap.size ∧ Evo I w []) (fun k => l.length - k) 0 ?_ ?_))))))))
 refine ⟨σ, δ, C, (fun j h => by omega), δ, o⟩
 rintro k g w2 ⟨az, hk_k, C, hno, hzl1, o⟩
 have af := o.size
 have aT := C.lt
 refine Zk 8 az (Zs (Zn Dn (AE (AH η (fun au => ?_) (fun au => ?_)))))
 refine AJ (AE (AK (Zs (Zo AU (Zn Am (Zs (Zo (AN (v := .func _ _ _) rfl η) (Zo Bi (Zo AU ?_)))))))))
 refine Zo (Ab (k) rfl underlying108 Ce η η χ ω ((U _ o).addr (i := k) ω)) ?_
 have R := fun (w' : World) (h : Evo I w' []) => (U w' h).atD (k) ω
 refine Zo (AL rfl Ks Ce η rfl (R _ o)) (Ft rfl rfl rfl (DR (vs := [.agg _]) (cs := [.pointer (some ⟨bn, 0, none⟩)]) rfl η η func140 rfl ζ) (IA (p := (l.getD k default)) C) ?_)
 rintro e w7 ⟨rfl, F7⟩
 refine ⟨_, rfl, ?_⟩
 have Q7 := F7.size
 replace o := Z0 o F7
 replace C := C.evo0 F7
 refine Ag (AH η (fun J => ?_) (fun J => ?_))
 refine Zs (Zo AU (Zn Am (AM C3 ?_)))
 exact ⟨_, rfl, o, .inr ⟨k, by omega, rfl, J, hno⟩⟩
 refine AJ (AX (AB (Zo Br (Zn AU (Zg (k + 1) ?_)))))
 refine ⟨σ, δ, C, (KR hno J), δ, o⟩
 refine Ak rfl (Zs (Zn Am (AM C3 ?_)))
 exact ⟨_, rfl, o, .inl ⟨rfl, fun j hj => hno j ω⟩⟩
theorem MH {base : Nat} {ao : Option Addr} {cap : Nat} {l : List Range} {id : Int} {bn : Nat} {w0 : World} (o : OwnE w0 base 110 (Value.slice ao l.length cap) l) (J : Blk w0 bn 3 [.int .i64 id]) (aT : ∀ g, (Value.slice ao l.length cap).ownBlock = some g → g ≠ bn) :
    Calls Tryz.prog 139 #[.slice ao l.length cap, .func (.func 140) #[] #[.pointer (some ⟨bn, 0, none⟩)]] w0 fun e w' => ∃ v', e = .returned v' ∧ Evo w0 w' (Value.slice ao l.length cap).ownBlock.toList ∧ OwnE w' base 110 v' (l.filter (Hl id)) ∧ v'.ownBlock = (Value.slice ao l.length cap).ownBlock := by
 have aS := J.at; have b0 := J.lt; have b8 := o.bd
 refine AG (n := 42) func139 rfl ntmps139 rfl ?_
 have R : Evo w0 w0 (Value.slice ao l.length cap).ownBlock.toList := Evo.refl _ _
 refine Zs (Zn Ew (Zs (Zo Bi (Zo (AN (v := .func _ _ _) rfl η) ?_))))
 obtain ⟨b6, g1, b7, bx, ag, b9⟩ := o.rowOf
 injection bx with ha1 hx1 hc1
 subst ha1; subst hc1
 refine Zr [.slice _ _ _, .func _ _ _] rfl η func203 (OU ag J) ?_
 rintro e w2 ⟨bz, rfl, F2, hri2⟩
 refine ⟨_, rfl, ?_⟩
 have Q2 := F2.size
 replace R := Z0 R F2
 replace o := o.evo0 F2
 replace J := J.evo0 F2
 replace aS := aS.evo0 F2
 replace ag := ag.evo0 F2
 refine Zn Am (AE (Zs (Zo AU (Zn DA (AH η (fun a1 => ?_) (fun a1 => ?_))))))
 refine Zs (Zo Bi (Zn Ew (AM (C8 (v := .slice _ _ _) rfl η) ?_)))
 exact ⟨_, rfl, R, by rw [YO (hri2.elim (fun h => h.2) (fun ⟨k, _, h, _⟩ => by omega))]; exact o, rfl⟩
 refine AJ (AE (AE ?_))
 obtain ⟨k0, bq, rfl, br, bs⟩ : ∃ k : Nat, k < l.length ∧ bz = (k : Int) ∧ (l.getD k default).lo = id ∧ ∀ j, j < k → ¬ (l.getD j default).lo = id := (hri2).elim (fun h => absurd h.1 a1) (fun h => h)
 refine AB (Zo AU (Zo Br (Zn Am (AK (Aq (α := Nat) [5, 6, 7, 16, 17, 18, 19, 20, 21, 22, 23, 24, 25, 26, 27, 28, 29, 30, 31, 32, 33, 34, 35] (fun j g w => ∃ i : Nat, ∃ Cl : List Range, g 5 = .int .i64 (i : Nat) ∧ g 6 = .int .i64 (j : Nat) ∧ OwnE w base 110 (Value.slice ao l.length cap) Cl ∧ Blk w bn 3 [.int .i64 id] ∧ DelI id l Cl i j ∧ w2.heap.size ≤ w.heap.size ∧ Evo w0 w (Value.slice ao l.length cap).ownBlock.toList) (fun j => l.length - j) (k0 + 1) ?_ ?_)))))
 refine ⟨k0, l, rfl, (congrArg (Value.int _) ω), o, J, (DelI.start bq br bs), δ, R⟩
 rintro j g w5 ⟨i, Cl, hj6, hj7, o, J, hdl, hzl4, R⟩
 have ba := R.size
 have bY := J.lt
 refine Zk 5 hj6 (Zk 6 hj7 (AE (Zs (Zo AU (Zo Bi (Zo (AQ rfl η underlying108) (Zn Dn (AH η (fun bl => ?_) (fun bl => ?_)))))))))
 refine AJ (AE (AK (AE ?_)))
 have bf := hdl.len; have bm := hdl.lt; have bo := hdl.le; have U := hdl.at ω
 obtain ⟨bB, g10, bL, bb, I, bS⟩ := o.rowOf
 injection bb with ha10 hx10 hc10
 subst ha10; subst hc10
 refine AB (Zo Bi (Zo AU (Zo (Ab (j) rfl underlying108 Ce η η χ ω (I.addr (i := j) ω)) ?_)))
 have az := I.atD (j) ω
 refine Zo (AL rfl Ks Ce η rfl az) ?_
 have bt := fun g hg => (o.block (g := g) hg).2
 refine Bq (zs := [_, _]) (vs := [_, _]) Ce η rfl η (fun _ => rfl) η rfl rfl η ?_
 intro b13 w14 J13 E14 B13 Y13
 have b2 := E14.size
 replace R := Z0 R E14
 replace o := o.evo0 E14
 replace J := J.evo0 E14
 replace I := I.evo0 E14
 refine Ag (Zs (Zo (AN (v := .func _ _ _) rfl η) (Zo (AL rfl Ks Ce η rfl B13.at) (Ft rfl rfl rfl (DR (vs := [.agg _]) (cs := [.pointer (some ⟨bn, 0, none⟩)]) rfl η η func140 rfl ζ) (IA (p := (Cl.getD j default)) J) ?_))))
 rintro e ca ⟨rfl, F15⟩
 refine ⟨_, rfl, ?_⟩
 have b3 := F15.size
 replace R := Z0 R F15
 replace o := o.evo0 F15
 replace J := J.evo0 F15
 replace I := I.evo0 F15
 replace B13 := B13.evo0 F15
 refine Zn (Cd rfl η) (AH η (fun C => ?_) (fun C => ?_))
 refine AE ?_
 have b_ := C
 obtain ⟨bF, g17, bM, bc, af, bX⟩ := o.rowOf
 injection bc with ha17 hx17 hc17
 subst ha17; subst hc17
 refine AB (Zo Bi (Zo AU (Zo (AL rfl Ks Ce η rfl B13.at) (Zo (Ab (i) rfl underlying108 Ce η η χ ω (af.addr (i := i) ω)) ?_))))
 have bR := af.atD (i) ω
 refine NO (u := .agg _) (vs := [_, _]) (i) 0 (Cl.getD j default) η rfl (by first | rfl | omega) η o af ω Ce η rfl η rfl rfl ?_
 intro w19 E19 V19 ho_new
 have b4 := E19.size
 replace R := AP R E19 (fun g hg => .inr (Option.mem_toList.2 hg))
 replace J := J.evo E19 (by intro hm; exact aT _ (Option.mem_toList.1 hm) rfl)
 replace o := ho_new
 clear ho_new
 refine Ag (AB (Zo AU (Zo Br (Zn Am (AX (AB (Zo AU (Zo Br (Zn Am ?_)))))))))
 refine Zg (j + 1) ?_
 refine ⟨(i + 1), _, (congrArg (Value.int _) ω), (congrArg (Value.int _) ω), o, J, (by first | (rw [U]; exact hdl.keep ω (by rw [← U]; exact C)) | exact hdl.skip ω (by rw [← U]; exact Classical.not_not.1 C)), δ, R⟩
 refine AJ (AX (AB (Zo AU (Zo Br (Zn Am (Zg (j + 1) ?_))))))
 refine ⟨i, _, (congrArg (Value.int _) ω), (congrArg (Value.int _) ω), o, J, (by first | (rw [U]; exact hdl.keep ω (by rw [← U]; exact C)) | exact hdl.skip ω (by rw [← U]; exact Classical.not_not.1 C)), δ, R⟩
 refine Ak rfl (AE ?_)
 have bf := hdl.len; have bm := hdl.lt; have bo := hdl.le
 refine AB (Zo Bi (Zo AU (Zo (by exact K1 (i) (l.length) rfl underlying108 Ce η (W5 η η) Zp ω (by have := o.le_cap; omega)) (YW (y0 := (⟨0, 0⟩ : Range)) underlying108 Ce rfl rfl o rfl ω (i) ω η ?_))))
 intro w20 E20 V20 ho_new
 have b5 := E20.size
 replace R := AP R E20 (fun g hg => .inr (Option.mem_toList.2 hg))
 replace J := J.evo E20 (by intro hm; exact aT _ (Option.mem_toList.1 hm) rfl)
 replace o := ho_new
 clear ho_new
 refine Ag (Zs (Zo Bi (Zo AU (YD (i) rfl underlying108 Ce o η (gI η ω) θ θ ?_))))
 intro v21 hov21 hlv21
 refine Zn (AR (v := v21) rfl η) (AM (C8 (v := v21) rfl η) ?_)
 exact ⟨_, rfl, R, by have h9 := hov21; rw [List.take_left' (by rw [List.length_take]; omega), hdl.done ω] at h9; exact h9, hlv21⟩
theorem NK {base : Nat} {v : Value} {l : List Range} {id : Int} {C : Nat} {o : World} (j : OwnE o base 110 v l) (R : Blk o C 3 [.int .i64 id]) (I : ∀ g, v.ownBlock = some g → g ≠ C) :
    Calls Tryz.prog 139 #[v, .func (.func 140) #[] #[.pointer (some ⟨C, 0, none⟩)]] o fun e w' => ∃ J, e = .returned J ∧ Evo o w' v.ownBlock.toList ∧ OwnE w' base 110 J (l.filter (Hl id)) ∧ J.ownBlock = v.ownBlock := by
  obtain ⟨ao, cap, rfl⟩ := j.shape
  exact MH j R I
theorem JO {base : Nat} {v : Value} {l : List Range} {id : Int} {R : World} (j : OwnE R base 110 v l) :
    Calls Tryz.prog 78 #[v, .int .i64 id] R fun e w' => ∃ U, e = .returned U ∧ Evo R w' v.ownBlock.toList ∧ OwnE w' base 110 U (l.filter (Hl id)) ∧ U.ownBlock = v.ownBlock := by
 have I := fun g o => (j.block (g := g) o).2
 refine AG (n := 8) func78 rfl ntmps78 rfl ?_
 have C : Evo R R v.ownBlock.toList := Evo.refl _ _
 refine Zs ?_
 have af := fun g o => (j.block (g := g) o).2
 refine CE (vs := [_]) η η rfl ?_
 intro b2 w3 J2 E3 B2 Y2
 have Q3 := E3.size
 replace C := Z0 C E3
 replace j := j.evo0 E3
 refine Zn Ew (Zs (Zo (AN (v := v) rfl η) (Zo (UW (vs := [.pointer _]) rfl η) (Zr [v, .func _ _ _] rfl η func139 (NK j B2 (fun g o => by have := I g o; omega)) ?_))))
 rintro e w4 ⟨J, rfl, F4, hod4, hdb4⟩
 refine ⟨_, rfl, ?_⟩
 have Q4 := F4.size
 replace C := AP C F4 (fun g o => .inr (Option.mem_toList.2 o))
 refine Zn (AR (v := J) rfl η) (AM (C8 (v := J) rfl η) ?_)
 exact ⟨_, rfl, C, hod4, hdb4⟩
theorem SH {R : Nat} {A : BG} {F : List Nat} {o : World} (hx : Mp o R A F) :
    Calls Tryz.prog 17 #[.pointer (some ⟨R, 0, none⟩)] o fun e w' => e = .returned (.int .i64 (A.length : Int)) ∧ Evo o w' [] := by
 obtain ⟨ml, mg, mc, L, F1, F2, F3, j, rfl⟩ := hx
 have hW : Evo o o [] := Evo.refl _ _
 have ag := fun w9 (U : Evo o w9 []) => (j.evo U (by simp)).blk.at
 have al := fun w9 (U : Evo o w9 []) => (j.evo U (by simp)).lists
 have aS := j.blk.lt; have a_ := j.lists.lt; have a1 := j.grams.lt; have aT := j.classes.lt
 have af := j.lvs.len
 obtain ⟨n1, n2, n3, n4, n5, n6⟩ := j.ne
 have I := j.lists.nodup
 rw [j.lvs.1] at I
 refine AG (n := 8) func17 rfl ntmps17 rfl ?_
 have hV : Evo o o [] := Evo.refl _ _
 have C := ag
 have J := al
 refine Zs (Zn Am (Zs (Zo (AN (v := (.pointer (some ⟨R, 0, none⟩))) rfl η) (Zo (Au rfl η) (Zo (AD rfl η GS) (Zo (AA rfl Le η ((C _ hW).cell 0 η)) (Zo (Re rfl underlying77 η (J _ hW)) (Zn Am (AM C3 ?_)))))))))
 exact ⟨A3 (by rw [af]), hV⟩
theorem Qm {C : Nat} {A : BG} {F : List Nat} {id : Int} {o : World} (hx : Mp o C A F) (hid : id ∉ A.map (·.1)) :
    Calls Tryz.prog 28 #[.pointer (some ⟨C, 0, none⟩), .int .i64 id] o fun e w' => ∃ F', e = .returned (.bool false) ∧ Evo o w' F ∧ Mp w' C (BS A id) F' ∧ (∀ g ∈ F', g ∈ F ∨ o.heap.size ≤ g) := by
 obtain ⟨ml, mg, mc, L, F1, F2, F3, j, rfl⟩ := hx
 have I : Evo o o [] := Evo.refl _ _
 have al := fun w9 (h9 : Evo o w9 []) => (j.evo h9 (by simp)).blk.at
 have ao := fun w9 (h9 : Evo o w9 []) => (j.evo h9 (by simp)).lists
 have bd := j.blk.lt; have bm := j.lists.lt; have bl := j.grams.lt; have bf := j.classes.lt
 have bb := j.lvs.len
 obtain ⟨n1, n2, n3, n4, n5, n6⟩ := j.ne
 have R := j.lists.nodup
 rw [j.lvs.1] at R
 refine AG (n := 99) func28 rfl ntmps28 rfl ?_
 have hV : Evo o o (feet C ml mg mc F1 F2 F3) := Evo.refl _ _
 have J := al
 have U := ao
 refine Zs (Zn BV (Zs (Zo (AN (v := (.pointer (some ⟨C, 0, none⟩))) rfl η) (Zo (Au rfl η) (Zo (AD rfl η GS) (Zo (AA rfl Le η ((J _ I).cell 0 η)) (Zo AU (Zo (GN (a := _) (z := (⟨none, 0, 0, none, ⟨0, 0, 0⟩, 0⟩ : LV)) (v := .agg _) (C7 underlying3) rfl underlying77 DH η η (U _ I) rfl) (Zo PW ?_)))))))))
 refine Zo (AI (v := .agg _) rfl η η) (Zo (AI (v := .bool _) rfl η η) (Bq (zs := [_, _, _, _, _, _]) (vs := [_, _, _, _, _, _]) DH η rfl η (fun _ => rfl) η rfl rfl η ?_))
 intro b1 w2 J1 E2 B1 Y1
 have Q2 := E2.size
 replace hV := Z0 hV E2
 replace I := Z0 I E2
 refine Zo BV (Ao (i := 6) (v := .bool (decide (id ∈ A.map (·.1)))) (congrArg Value.bool (QX j.lvs id)) (Ag (AE (Zs (Zo Cb (Zo (Cd rfl η) (Ao (i := 21) (v := .bool true) (congrArg Value.bool (decide_eq_true hid)) (Ag (DY η ?_)))))))))
 refine Zs (Zn BV (AM G7 ?_))
 exact ⟨_, rfl, hV, by rw [JW hid]; exact ⟨ml, mg, mc, L, F1, F2, F3, j.evo I (by simp), rfl⟩, fun g hg => .inl hg⟩
set_option maxHeartbeats 2000000 in
theorem Qg {bx : Nat} {A : BG} {F : List Nat} {id : Int} {w0 : World} (hx : Mp w0 bx A F) (hid : id ∈ A.map (·.1)) :
    Calls Tryz.prog 28 #[.pointer (some ⟨bx, 0, none⟩), .int .i64 id] w0 fun e w' => ∃ F', e = .returned (.bool true) ∧ Evo w0 w' F ∧ Mp w' bx (BS A id) F' ∧ (∀ g ∈ F', g ∈ F ∨ w0.heap.size ≤ g) := by
 obtain ⟨ml, mg, mc, L, F1, F2, F3, hp, rfl⟩ := hx
 have hW : Evo w0 w0 [] := Evo.refl _ _
 have bB := fun w9 (h9 : Evo w0 w9 []) => (hp.evo h9 (by simp)).blk.at
 have c_ := fun w9 (h9 : Evo w0 w9 []) => (hp.evo h9 (by simp)).lists
 have ih := hp.blk.lt; have il := hp.lists.lt; have ik := hp.grams.lt; have ij := hp.classes.lt
 have ic := hp.lvs.len
 obtain ⟨n1, n2, n3, n4, n5, n6⟩ := hp.ne
 have d_ := hp.lists.nodup
 rw [hp.lvs.1] at d_
 obtain ⟨lv, e0⟩ := hp.lvs.got hid
 obtain ⟨l, gi, dc⟩ := hp.lvs.at e0
 obtain ⟨ga, gl, gc, ia, s0, t0⟩ := lv
 obtain ⟨cb, M, gm, eT, hi, c9⟩ := dc.cls
 obtain ⟨e1, gb, gy, hj⟩ := dc.gs.row_of
 have dO := dc.fg; have gU := dc.s; have gX := dc.tot
 dsimp only at gm e1 dO gU gX gy hj
 subst gm e1 gU gX
 have hh := eT.nodup; have hl := EK (AO l); have ie := HT (AO l); have im := C9 l
 have hB := hp.lt3 cb c9
 refine AG (n := 99) func28 rfl ntmps28 rfl ?_
 have hV : Evo w0 w0 (feet bx ml mg mc F1 F2 F3) := Evo.refl _ _
 have af := bB
 have e4 := c_
 refine Zs (Zn BV (Zs (Zo (AN (v := (.pointer (some ⟨bx, 0, none⟩))) rfl η) (Zo (Au rfl η) (Zo (AD rfl η GS) (Zo (AA rfl Le η ((af _ hW).cell 0 η)) (Zo AU (Zo (GN (a := _) (z := (⟨none, 0, 0, none, ⟨0, 0, 0⟩, 0⟩ : LV)) (v := .agg _) (C7 underlying3) rfl underlying77 DH η η (e4 _ hW) rfl) (Zo PW ?_)))))))))
 refine Zo (AI (v := .agg _) rfl η η) (Ao (i := 18) (v := (Zu ⟨ga, (AW (AO l)).length, gc, some cb, PH l, EU l⟩)) (by show Zu ((Az L id).getD _) = _; rw [e0]; rfl) (Zo (AI (v := .bool _) rfl η η) (Bq (zs := [_, _, _, _, _, _]) (vs := [_, _, _, _, _, _]) DH η rfl η (fun _ => rfl) η rfl rfl η ?_)))
 intro b1 w2 J1 E2 B1 Y1
 have Q2 := E2.size
 replace hV := Z0 hV E2
 replace hW := Z0 hW E2
 replace bB := af _ hW
 replace c_ := e4 _ hW
 have bn := B1.at
 refine Zo BV (Ao (i := 6) (v := .bool (decide (id ∈ A.map (·.1)))) (congrArg Value.bool (QX hp.lvs id)) (Ag (AE (Zs (Zo Cb (Zo (Cd rfl η) (Ao (i := 21) (v := .bool false) (congrArg Value.bool (decide_eq_false (fun h => h hid))) (Ag (Dm η ?_)))))))))
 refine AJ (AE ?_)
 have gk := hW
 have dk := hp.evo hW (by simp)
 have bs : Evo w2 w2 [ml] := Evo.refl _ _
 have af := fun w9 (h9 : Evo w2 w9 [ml]) => (dk.blk.evo h9 hp.bx0).at; have bB := af _ bs; have c_ := dk.lists
 have gM := dc.gs.evo0 gk; have gr := eT.evo0 gk
 refine AB (Zo (AN (v := (.pointer (some ⟨bx, 0, none⟩))) rfl η) (Zo (Au rfl η) (Zo (AD rfl η GS) (Zo (AA rfl Le η (bB.cell 0 η)) (Zo AU (Tu (a := id) (C7 underlying3) underlying77 η η c_ ?_))))))
 intro w3 E3 V3 hm_new
 have Q3 := E3.size
 replace hV := Z1 hV E3 (.inr (Ap.2 (.inr (.inl rfl))))
 replace bs := Z1 bs E3 ε
 replace B1 := B1.evo E3 θ
 replace bn := bn.evo E3 θ
 replace bB := af _ bs
 replace c_ := hm_new
 clear hm_new
 refine Ag (AE (AE ?_))
 have ec := dk.blk.evo bs hp.bx0; have gz := dk.grams.evo bs hp.mg0 hp.f10; have gn := dk.classes.evo bs hp.mc0 hp.f20; have gP := dk.lvs.evo bs hp.f30; have gN := c_; have e3 := gM.evo bs (fun g U => hp.f30 g (dO g U)); have gu := gr.evo bs (hp.f30 cb c9)
 have hI : Evo w3 w3 (mg :: F1) := Evo.refl _ _
 have af := fun w9 (h9 : Evo w3 w9 (mg :: F1)) => (ec.evo h9 hp.bx1).at; replace bB := af _ hI
 obtain ⟨g6, fi, gx⟩ := e3.row_of.2
 have b_ := fun w9 (h9 : Evo w3 w9 (mg :: F1)) => C1 fi h9 (fun hq hm => hp.f31 _ (dO _ (gx hq).1) hm); have hE := b_ _ hI
 have b5 := fun w9 (h9 : Evo w3 w9 (mg :: F1)) => bn.evo h9 (hp.nw1 _ ω); replace bn := b5 _ hI
 have hF := e3.bd
 refine AB (Zo (AD rfl η Jp) (Zo (AA rfl VY η (bn.cell 0 η)) (Ao (i := 28) (v := (.slice ga (AW (AO l)).length gc)) rfl (Zo (AQ rfl η underlying96) (Zn AU (AK (Aq (α := Nat) [8, 9, 30, 31, 32, 33, 34, 35, 36, 37, 38, 39, 40, 41, 42, 43, 44, 45, 46, 47, 48, 49, 50, 51, 52, 53, 54, 55, 56, 57, 58, 59, 60, 61, 62, 63, 64, 65] (fun k g w => ∃ G1 : List Nat, g 30 = .int .i64 (k : Nat) ∧ k ≤ (AW (AO l)).length ∧ FamIs w mg eQ 110 (Nh (((AW (AO l)).drop k).map Bj) (post IW A) (post IW (BS A id))) G1 ∧ (∀ g ∈ G1, g ∈ F1 ∨ w3.heap.size ≤ g) ∧ w3.heap.size ≤ w.heap.size ∧ Evo w0 w (feet bx ml mg mc F1 F2 F3) ∧ Evo w3 w (mg :: F1)) (fun k => (AW (AO l)).length - k) 0 ?_ ?_)))))))
 refine ⟨F1, σ, δ, (gz.congr (Ma (fun y hy => (post_keep d_ gi (I6 hy)).symm))), (fun g U => .inl U), δ, hV, hI⟩
 rintro k g w5 ⟨G1, hj6, hk_k, bF, hG1, hzl4, hV, hI⟩
 have gW := hV.size
 have gV := hI.size
 replace bn := b5 _ hI
 replace bB := af _ hI
 refine Zk 30 hj6 ?_
 have bq := bF.flt
 refine Zs (Zn Dn (AE (AH η (fun hf => ?_) (fun hf => ?_))))
 refine AJ (AE (AK (Zs (Zo (Ab (k) rfl underlying96 ER η η χ ω ((b_ _ hI).addr (i := k) ω)) ?_))))
 have gh := fun (w' : World) (h : Evo w3 w' (mg :: F1)) => (b_ w' h).atD (k) ω
 refine Zo (AL rfl QR ER η rfl (gh _ hI)) (Bq (zs := [_, _, _]) (vs := [_, _, _]) ER η rfl η (fun _ => rfl) η rfl rfl η ?_)
 intro b9 w10 J9 E10 B9 Y9
 have hK := E10.size
 replace hV := Z0 hV E10
 replace hI := Z0 hI E10
 replace bF := bF.evo0 E10
 refine Ag (Zs (Zo (AD rfl η H9) (Zo (AA rfl BX η (B9.at.cell 0 η)) (Zo (AD rfl η Ic) (Zo (AA rfl BX η (B9.at.cell 1 η)) (Zo (A2 (pv := [(0, S _), (1, S _)]) (zs := [_, _]) (cells := [_, _]) rfl Ga η UD η η) (Bq (zs := [_, _]) (vs := [_, _]) Ga η rfl η (fun _ => rfl) η rfl rfl η ?_)))))))
 intro b11 w12 J11 E12 B11 Y11
 have hL := E12.size
 replace hV := Z0 hV E12
 replace hI := Z0 hI E12
 replace bF := bF.evo0 E12
 have ag := B11.at
 refine Ag (AE ?_)
 obtain ⟨M, hm, J, bm, e_⟩ := bF; have ho := J.own (Bj ((AW (AO l)).getD k default)); have fo := hm.lt
 have hn : (Nh (((AW (AO l)).drop k).map Bj) (post IW A) (post IW (BS A id)) (Bj ((AW (AO l)).getD k default))).length ≤ A.length := (by rw [LJ ((It ω _).2 (.inl rfl))]; exact G5)
 have hR : Evo w12 w12 ([mg] ++ (FC M (Bj ((AW (AO l)).getD k default))).ownBlock.toList) := Evo.refl _ _
 have bz : ∀ g ∈ ([mg] ++ (FC M (Bj ((AW (AO l)).getD k default))).ownBlock.toList), w3.heap.size ≤ g ∨ g ∈ mg :: F1 := fun g U => (List.mem_append.1 U).elim (fun h => .inr (List.mem_cons.2 (.inl (by simpa using h)))) (fun h => (hG1 g (J.foot _ g (Option.mem_toList.1 h))).elim (fun h2 => .inr (List.mem_cons_of_mem _ h2)) (fun h2 => .inl ω))
 have b6 : ∀ g ∈ ([mg] ++ (FC M (Bj ((AW (AO l)).getD k default))).ownBlock.toList), w0.heap.size ≤ g ∨ g ∈ (feet bx ml mg mc F1 F2 F3) := fun g U => (bz g U).elim (fun h => .inl ω) (fun h => .inr ((List.mem_cons.1 h).elim (fun h2 => (Ap.2 (.inr (.inr (.inl h2))))) (fun h2 => (Ap.2 (.inr (.inr (.inr (.inr (.inl h2)))))))))
 have dp := B11
 have bb := ag
 have b2 := hm
 have dm := hV
 have ct := hI
 have gj := hR
 refine Aw ((FC M (Bj ((AW (AO l)).getD k default))).ownBlock.toList) ζ ?_
 intro w13 hE14 R
 have hM := hE14.size
 replace hV := Z0 hV hE14
 replace hI := Z0 hI hE14
 replace hR := Z0 hR hE14
 replace B11 := B11.evo0 hE14
 replace ag := ag.evo0 hE14
 replace hm := hm.evo0 hE14
 replace ho := ho.evo0 hE14
 refine Zt (i := 0) η (fun w' C => AN (v := (.pointer (some ⟨bx, 0, none⟩))) rfl η) R (Zt (i := 1) η (fun w' C => Au rfl η) R (Zt (i := 2) η (fun w' C => AD rfl η Im) R (Zt (i := 3) η (fun w' C => AA rfl PR η ((af _ (CL ct C (fun g U => by first | exact bz g (List.mem_append_right _ U) | exact b6 g (List.mem_append_right _ U)))).cell 1 η)) R (Zt (i := 4) η (fun w' C => AL rfl M7 Ga η rfl (bb.evo C (fun hm => by first | exact bm (J.foot _ _ (Option.mem_toList.1 hm)) | (have h7 := bq _ (J.foot _ _ (Option.mem_toList.1 hm)); omega)))) R (Zt (i := 5) η (fun w' C => AN (v := (.pointer (some ⟨bx, 0, none⟩))) rfl η) R (Zt (i := 6) η (fun w' C => Au rfl η) R (Zt (i := 7) η (fun w' C => AD rfl η Im) R (Zt (i := 8) η (fun w' C => AA rfl PR η ((af _ (CL ct C (fun g U => by first | exact bz g (List.mem_append_right _ U) | exact b6 g (List.mem_append_right _ U)))).cell 1 η)) R (Zt (i := 9) η (fun w' C => AL rfl M7 Ga η rfl (bb.evo C (fun hm => by first | exact bm (J.foot _ _ (Option.mem_toList.1 hm)) | (have h7 := bq _ (J.foot _ _ (Option.mem_toList.1 hm)); omega)))) R ?_)))))))))
 refine Zt (i := 10) η (fun w' C => BM (a := (Bj ((AW (AO l)).getD k default))) (z := Ob) (v := (FC M (Bj ((AW (AO l)).getD k default)))) Mt rfl underlying78 Hu η η (b2.evo C (fun hm => by first | exact bm (J.foot _ _ (Option.mem_toList.1 hm)) | (have h7 := bq _ (J.foot _ _ (Option.mem_toList.1 hm)); omega))) rfl) R (Zt (i := 11) η (fun w' C => AU) R ?_)
 refine Zh (i := 12) ?_
 refine Zr [(FC M (Bj ((AW (AO l)).getD k default))), .int _ _] rfl η func78 (JO ho) ?_
 rintro e iu ⟨gY, rfl, hE15, cm, hdb15⟩
 refine ⟨_, rfl, ?_⟩
 have hN := hE15.size
 replace hV := AP hV hE15 (fun g U => (b6 g (List.mem_append_right _ (Option.mem_toList.2 U))))
 replace hI := AP hI hE15 (fun g U => (bz g (List.mem_append_right _ (Option.mem_toList.2 U))))
 replace hR := AP hR hE15 (fun g U => .inr (List.mem_append_right _ (Option.mem_toList.2 U)))
 replace R := AP R hE15 (fun g U => .inr (Option.mem_toList.2 U))
 replace B11 := B11.evo hE15 (by intro hm; have h7 := bq _ (J.foot _ _ (Option.mem_toList.1 hm)); omega)
 replace ag := ag.evo hE15 (by intro hm; have h7 := bq _ (J.foot _ _ (Option.mem_toList.1 hm)); omega)
 replace hm := hm.evo hE15 (by intro ca; exact bm (J.foot _ _ (Option.mem_toList.1 ca)))
 refine AZ R ?_
 refine Zh (i := 13) ?_
 refine Et (a := (Bj ((AW (AO l)).getD k default))) (v := gY) Mt underlying78 η η η hm ?_
 intro w16 E16 V16 hm_new
 have hP := E16.size
 replace hV := Z1 hV E16 (.inr (Ap.2 (.inr (.inr (.inl rfl)))))
 replace hI := Z1 hI E16 ε
 replace hR := Z1 hR E16 ε
 replace B11 := B11.evo E16 θ
 replace ag := ag.evo E16 θ
 replace cm := cm.evo E16 (by intro g U hm; simp at hm; subst hm; exact bm (J.foot _ _ (hdb15 ▸ U)))
 replace hm := hm_new
 clear hm_new
 refine Ah ζ ?_
 refine A5 ζ ?_
 refine AE ?_
 have dn := hdb15; have b7 := cJ J bm e_ fo hR hm cm dn (It ω) (Jx hl ω)
 have bS := Kn hG1 (J.foot (Bj ((AW (AO l)).getD k default))) (.inl dn) (Nat.le_refl _)
 obtain ⟨M2, hm, az, bl, aT⟩ := b7; have cc := az.own (Bj ((AW (AO l)).getD k default)); have gR := hm.lt
 refine Bt ζ ζ (Zq (fun w' C => AN (v := (.pointer (some ⟨bx, 0, none⟩))) rfl η) (Zq (fun w' C => Au rfl η) (Zq (fun w' C => AD rfl η Im) (Zq (fun w' C => AA rfl PR η (((af _ hI).evo0 C).cell 1 η)) (Zq (fun w' C => AL rfl M7 Ga η rfl (ag.evo0 C)) (Zq (fun w' C => BM (a := (Bj ((AW (AO l)).getD k default))) (z := Ob) (v := (FC M2 (Bj ((AW (AO l)).getD k default)))) Mt rfl underlying78 Hu η η (hm.evo0 C) rfl) (Zq (fun w' C => Ci rfl η underlying108 (cc.evo0 C)) (Zq (fun w' C => BK rfl η η) (EV (fun g_ bf => ?_))))))))))
 have hQ := bf.size
 replace hV := Z0 hV bf
 replace hI := Z0 hI bf
 replace B11 := B11.evo0 bf
 replace ag := ag.evo0 bf
 replace hm := hm.evo0 bf
 replace az := az.evo bf (by simp)
 replace cc := cc.evo0 bf
 replace aT := fun g U => Nat.lt_of_lt_of_le (aT g U) (bf).size
 refine AH η (fun ek => ?_) (fun ek => ?_)
 have hs := ek
 have b0 := az; have bY := aT; have ba : Evo g_ g_ [mg] := Evo.refl _ _
 have dp := B11
 have bb := ag
 have b2 := hm
 have dm := hV
 have ct := hI
 have e6 := ba
 refine Aw ([mg]) ζ ?_
 intro w20 hE21 hCst11
 have hS := hE21.size
 replace hV := Z0 hV hE21
 replace hI := Z0 hI hE21
 replace ba := Z0 ba hE21
 replace B11 := B11.evo0 hE21
 replace ag := ag.evo0 hE21
 replace hm := hm.evo0 hE21
 refine Zt (i := 0) η (fun w' C => AN (v := (.pointer (some ⟨bx, 0, none⟩))) rfl η) hCst11 (Zt (i := 1) η (fun w' C => Au rfl η) hCst11 (Zt (i := 2) η (fun w' C => AD rfl η Im) hCst11 (Zt (i := 3) η (fun w' C => AA rfl PR η ((af _ (CL ct C (fun g U => by simp at U; subst U; first | exact .inr (by simp) | exact .inr (Ap.2 (.inr (.inr (.inl rfl))))))).cell 1 η)) hCst11 (Zt (i := 4) η (fun w' C => AL rfl M7 Ga η rfl (bb.evo C (fun hm => by simp at hm; omega))) hCst11 ?_))))
 refine Zh (i := 5) ?_
 refine Tu (a := (Bj ((AW (AO l)).getD k default))) Mt underlying78 η η hm ?_
 intro w22 E22 V22 hm_new
 have hT := E22.size
 replace hV := Z1 hV E22 (.inr (Ap.2 (.inr (.inr (.inl rfl)))))
 replace hI := Z1 hI E22 ε
 replace ba := Z1 ba E22 ε
 replace hm := hm_new
 clear hm_new
 refine Ah ζ ?_
 refine A5 ζ ?_
 refine AX (AB (Zo Br (Zn AU (Zg (k + 1) ?_))))
 refine ⟨_, σ, δ, (by first | exact UK b0 bl bY ba hm (List.eq_nil_of_length_eq_zero ω) | exact Ue az bl aT hm), bS, δ, hV, hI⟩
 refine AJ (AX (AB (Zo Br (Zn AU (Zg (k + 1) ?_)))))
 refine ⟨_, σ, δ, (by first | exact UK b0 bl bY ba hm (List.eq_nil_of_length_eq_zero ω) | exact Ue az bl aT hm), bS, δ, hV, hI⟩
 refine Ak rfl (AE (AE ?_))
 have e8 : ((AW (AO l)).drop k).map Bj = [] := by rw [List.drop_of_length_le ω]; rfl
 replace bF := bF.congr (P' := post IW (BS A id)) (fun y => by rw [e8]; exact MQ y)
 have e9 := gu.evo hI (hp.f31 cb c9)
 have ej := ec.evo hI hp.bx1; have gq := gn.evo hI hp.mc1 hp.f21; have gQ := gP.evo hI hp.f31; have gO := gN.evo hI hp.ml1; have e2 := bF
 have b5 := fun w9 (h9 : Evo w5 w9 (mc :: F2)) => bn.evo h9 (hp.nw2 _ ω)
 have I : Evo w5 w5 (mc :: F2) := Evo.refl _ _
 have af := fun w9 (h9 : Evo w5 w9 (mc :: F2)) => (ej.evo h9 hp.bx2).at; replace bB := af _ I
 refine AB (Zo (AD rfl η Km) (Zo (AA rfl VL η (bn.cell 1 η)) (Ip rfl underlying97 η e9 ?_)))
 intro r23 w24 her23 E24 j hzr23
 have hU := E24.size
 replace hV := Z0 hV E24
 replace I := Z0 I E24
 replace bB := af _ I
 replace e9 := e9.evo0 E24
 refine Ag (AK ?_)
 have ig := j.lt
 have hD : cb ≠ mc := fun e => (hp.out cb (.inr (.inr c9))).2.2.2 e
 refine Aq (α := List (Vc.Item × Int)) [10, 69, 70, 71, 72, 73, 74, 75, 76, 77, 78, 79, 80, 81, 82, 83, 84, 85, 86, 87, 88, 89, 90, 91, 92, 93, 94, 95, 96, 97, 98] (fun left g w => ∃ la : Option (Vc.Item × Int), ∃ G2 : List Nat, IterIs w r23 cb (fun x : Vc.Item => Value.agg (Enc.enc x).toArray) (Value.int .i64) M left la ∧ FamIs w mc dC 110 (Nh (left.map (·.1)) (post Ec A) (post Ec (BS A id))) G2 ∧ (∀ g ∈ G2, g ∈ F2 ∨ w24.heap.size ≤ g) ∧ left.Sublist M ∧ w24.heap.size ≤ w.heap.size ∧ Evo w0 w (feet bx ml mg mc F1 F2 F3) ∧ Evo w5 w (mc :: F2)) (fun left => left.length) M ?_ ?_
 refine ⟨_, F2, j, ((gq.evo0 E24).congr (Ma (fun y hy => (post_keep d_ gi (N6 hi hy)).symm))), (fun g U => .inl U), (List.Sublist.refl _), δ, hV, I⟩
 rintro left g iv ⟨la, G2, j, b8, hG2, hls, hzl25, hV, I⟩
 have gd := hV.size
 have fs := I.size
 have bq := b8.flt
 refine Zs (LF rfl η j (fun gS => ?_) (fun bL a1 bM iw bo cr hG cv => ?_))
 subst gS
 refine Zn (AI (v := .bool _) rfl η η) (AE (Dm η (Ak rfl (Zs (Zn BV (AM G7 ?_))))))
 have gw := b8.congr (P' := post Ec (BS A id)) MQ
 have eU := Zy (id := id) (n1 := w3.heap.size) (n2 := w24.heap.size) hp (ej.evo I hp.bx2) (gO.evo I hp.ml2) (gQ.evo I hp.f32)
   (e2.evo I hp.mg2 (fun g U => (hG1 g U).elim (hp.f12 g) (fun h => hp.nw2 g ω))) gw hG1 (fun g U => Nat.lt_of_lt_of_le (e2.flt g U) ω) hG2 ω ω ω
 exact ⟨_, rfl, hV, eU.1, eU.2⟩
 have hX := cr.size
 replace hV := Z1 hV cr ε
 replace I := Z1 I cr ε
 replace b8 := b8.evo cr θ (fun g U hm => by have h6 : g = r23 := (by simpa using hm); rcases hG2 _ U with h7 | h7; (have h8 := hp.l2 _ h7; omega); omega)
 replace j := cv
 clear cv
 refine Zn (AI (v := .bool _) rfl η η) (AE (DY η (AJ (AK (Zs (Zo (EW rfl η j) (Zo (AI (v := .agg _) rfl η η) (Bq (zs := [_, _, _]) (vs := [_, _, _]) Aa η rfl η (fun _ => rfl) η rfl rfl η ?_))))))))
 intro b28 w29 J28 E29 B28 Y28
 have hY := E29.size
 replace hV := Z0 hV E29
 replace I := Z0 I E29
 replace b8 := b8.evo0 E29
 replace j := j.evo0 E29
 have al := B28.at
 refine Ag (AE ?_)
 obtain ⟨M, hm, J, bm, e_⟩ := b8; have ho := J.own a1.1; have fo := hm.lt
 have hn : (Nh (left.map (·.1)) (post Ec A) (post Ec (BS A id)) a1.1).length ≤ A.length := (by rw [LJ (by rw [bo]; simp)]; exact G5)
 have hR : Evo w29 w29 ([mc] ++ (FC M a1.1).ownBlock.toList) := Evo.refl _ _
 have bz : ∀ g ∈ ([mc] ++ (FC M a1.1).ownBlock.toList), w5.heap.size ≤ g ∨ g ∈ mc :: F2 := fun g U => (List.mem_append.1 U).elim (fun h => .inr (List.mem_cons.2 (.inl (by simpa using h)))) (fun h => (hG2 g (J.foot _ g (Option.mem_toList.1 h))).elim (fun h2 => .inr (List.mem_cons_of_mem _ h2)) (fun h2 => .inl ω))
 have b6 : ∀ g ∈ ([mc] ++ (FC M a1.1).ownBlock.toList), w0.heap.size ≤ g ∨ g ∈ (feet bx ml mg mc F1 F2 F3) := fun g U => (bz g U).elim (fun h => .inl ω) (fun h => .inr ((List.mem_cons.1 h).elim (fun h2 => (Ap.2 (.inr (.inr (.inr (.inl h2)))))) (fun h2 => (Ap.2 (.inr (.inr (.inr (.inr (.inr (.inl h2))))))))))
 have ds := B28
 have bc := al
 have b2 := hm
 have dm := hV
 have bA := I
 have gj := hR
 refine Aw ((FC M a1.1).ownBlock.toList) ζ ?_
 intro w30 hE31 o
 have hZ := hE31.size
 replace hV := Z0 hV hE31
 replace I := Z0 I hE31
 replace hR := Z0 hR hE31
 replace j := j.evo0 hE31
 replace B28 := B28.evo0 hE31
 replace al := al.evo0 hE31
 replace hm := hm.evo0 hE31
 replace ho := ho.evo0 hE31
 refine Zt (i := 0) η (fun w' C => AN (v := (.pointer (some ⟨bx, 0, none⟩))) rfl η) o (Zt (i := 1) η (fun w' C => Au rfl η) o (Zt (i := 2) η (fun w' C => AD rfl η Ii) o (Zt (i := 3) η (fun w' C => AA rfl Pg η ((af _ (CL bA C (fun g U => by first | exact bz g (List.mem_append_right _ U) | exact b6 g (List.mem_append_right _ U)))).cell 2 η)) o (Zt (i := 4) η (fun w' C => AL rfl BE Aa η rfl (bc.evo C (fun hm => by first | exact bm (J.foot _ _ (Option.mem_toList.1 hm)) | (have h7 := bq _ (J.foot _ _ (Option.mem_toList.1 hm)); omega)))) o (Zt (i := 5) η (fun w' C => AN (v := (.pointer (some ⟨bx, 0, none⟩))) rfl η) o (Zt (i := 6) η (fun w' C => Au rfl η) o (Zt (i := 7) η (fun w' C => AD rfl η Ii) o (Zt (i := 8) η (fun w' C => AA rfl Pg η ((af _ (CL bA C (fun g U => by first | exact bz g (List.mem_append_right _ U) | exact b6 g (List.mem_append_right _ U)))).cell 2 η)) o (Zt (i := 9) η (fun w' C => AL rfl BE Aa η rfl (bc.evo C (fun hm => by first | exact bm (J.foot _ _ (Option.mem_toList.1 hm)) | (have h7 := bq _ (J.foot _ _ (Option.mem_toList.1 hm)); omega)))) o ?_)))))))))
 refine Zt (i := 10) η (fun w' C => BM (a := a1.1) (z := Ob) (v := (FC M a1.1)) DB rfl underlying79 Hu η η (b2.evo C (fun hm => by first | exact bm (J.foot _ _ (Option.mem_toList.1 hm)) | (have h7 := bq _ (J.foot _ _ (Option.mem_toList.1 hm)); omega))) rfl) o (Zt (i := 11) η (fun w' C => AU) o ?_)
 refine Zh (i := 12) ?_
 refine Zr [(FC M a1.1), .int _ _] rfl η func78 (JO ho) ?_
 rintro e ix ⟨gZ, rfl, hE32, br, hdb32⟩
 refine ⟨_, rfl, ?_⟩
 have h0 := hE32.size
 replace hV := AP hV hE32 (fun g U => (b6 g (List.mem_append_right _ (Option.mem_toList.2 U))))
 replace I := AP I hE32 (fun g U => (bz g (List.mem_append_right _ (Option.mem_toList.2 U))))
 replace hR := AP hR hE32 (fun g U => .inr (List.mem_append_right _ (Option.mem_toList.2 U)))
 replace o := AP o hE32 (fun g U => .inr (Option.mem_toList.2 U))
 replace j := j.evo hE32 (by intro ca; have h6 := J.foot _ _ (Option.mem_toList.1 ca); rcases hG2 _ h6 with h7 | h7; (first | exact hp.d23 _ h7 c9 | (have h8 := hp.l2 _ h7; omega)); omega) (by intro ca; have h6 := J.foot _ _ (Option.mem_toList.1 ca); rcases hG2 _ h6 with h7 | h7; (first | exact hp.d23 _ h7 c9 | (have h8 := hp.l2 _ h7; omega)); omega)
 replace B28 := B28.evo hE32 (by intro hm; have h7 := bq _ (J.foot _ _ (Option.mem_toList.1 hm)); omega)
 replace al := al.evo hE32 (by intro hm; have h7 := bq _ (J.foot _ _ (Option.mem_toList.1 hm)); omega)
 replace hm := hm.evo hE32 (by intro ca; exact bm (J.foot _ _ (Option.mem_toList.1 ca)))
 refine AZ o ?_
 refine Zh (i := 13) ?_
 refine Et (a := a1.1) (v := gZ) DB underlying79 η η η hm ?_
 intro w33 E33 V33 hm_new
 have h3 := E33.size
 replace hV := Z1 hV E33 (.inr (Ap.2 (.inr (.inr (.inr (.inl rfl))))))
 replace I := Z1 I E33 ε
 replace hR := Z1 hR E33 ε
 replace j := j.evo E33 θ θ
 replace B28 := B28.evo E33 θ
 replace al := al.evo E33 θ
 replace br := br.evo E33 (by intro g U hm; simp at hm; subst hm; exact bm (J.foot _ _ (hdb32 ▸ U)))
 replace hm := hm_new
 clear hm_new
 refine Ah ζ ?_
 refine A5 ζ ?_
 refine AE ?_
 rw [bo] at J; have gT := br; rw [bo] at gT
 replace br := gT
 have dn := hdb32; have b7 := cJ J bm e_ fo hR hm br dn Ni (JN (by rw [← bo]; exact hh.sublist (hls.map _)))
 have bS := Kn hG2 (J.foot a1.1) (.inl dn) (Nat.le_refl _)
 obtain ⟨M2, hm, az, bl, aT⟩ := b7; have cc := az.own a1.1; have gR := hm.lt
 refine Bt ζ ζ (Zq (fun w' C => AN (v := (.pointer (some ⟨bx, 0, none⟩))) rfl η) (Zq (fun w' C => Au rfl η) (Zq (fun w' C => AD rfl η Ii) (Zq (fun w' C => AA rfl Pg η (((af _ I).evo0 C).cell 2 η)) (Zq (fun w' C => AL rfl BE Aa η rfl (al.evo0 C)) (Zq (fun w' C => BM (a := a1.1) (z := Ob) (v := (FC M2 a1.1)) DB rfl underlying79 Hu η η (hm.evo0 C) rfl) (Zq (fun w' C => Ci rfl η underlying108 (cc.evo0 C)) (Zq (fun w' C => BK rfl η η) (EV (fun ha a_ => ?_))))))))))
 have h4 := a_.size
 replace hV := Z0 hV a_
 replace I := Z0 I a_
 replace j := j.evo0 a_
 replace B28 := B28.evo0 a_
 replace al := al.evo0 a_
 replace hm := hm.evo0 a_
 replace az := az.evo a_ (by simp)
 replace cc := cc.evo0 a_
 replace aT := fun g U => Nat.lt_of_lt_of_le (aT g U) (a_).size
 refine AH η (fun en => ?_) (fun en => ?_)
 have hs := en
 have b0 := az; have bY := aT; have ba : Evo ha ha [mc] := Evo.refl _ _
 have ds := B28
 have bc := al
 have b2 := hm
 have dm := hV
 have bA := I
 have e6 := ba
 refine Aw ([mc]) ζ ?_
 intro w37 hE38 hCst18
 have h5 := hE38.size
 replace hV := Z0 hV hE38
 replace I := Z0 I hE38
 replace ba := Z0 ba hE38
 replace j := j.evo0 hE38
 replace B28 := B28.evo0 hE38
 replace al := al.evo0 hE38
 replace hm := hm.evo0 hE38
 refine Zt (i := 0) η (fun w' C => AN (v := (.pointer (some ⟨bx, 0, none⟩))) rfl η) hCst18 (Zt (i := 1) η (fun w' C => Au rfl η) hCst18 (Zt (i := 2) η (fun w' C => AD rfl η Ii) hCst18 (Zt (i := 3) η (fun w' C => AA rfl Pg η ((af _ (CL bA C (fun g U => by simp at U; subst U; first | exact .inr (by simp) | exact .inr (Ap.2 (.inr (.inr (.inr (.inl rfl)))))))).cell 2 η)) hCst18 (Zt (i := 4) η (fun w' C => AL rfl BE Aa η rfl (bc.evo C (fun hm => by simp at hm; omega))) hCst18 ?_))))
 refine Zh (i := 5) ?_
 refine Tu (a := a1.1) DB underlying79 η η hm ?_
 intro w39 E39 V39 hm_new
 have h_ := E39.size
 replace hV := Z1 hV E39 (.inr (Ap.2 (.inr (.inr (.inr (.inl rfl))))))
 replace I := Z1 I E39 ε
 replace ba := Z1 ba E39 ε
 replace j := j.evo E39 θ θ
 replace hm := hm_new
 clear hm_new
 refine Ah ζ ?_
 refine A5 ζ ?_
 refine AX (DN (bL ++ bM) ?_ ?_ ?_)
 rw [bo]; simp
 refine ⟨_, _, j, (by first | exact UK b0 bl bY ba hm (List.eq_nil_of_length_eq_zero ω) | exact Ue az bl aT hm), bS, (List.Sublist.trans ((List.Sublist.refl bL).append (List.sublist_cons_self a1 bM)) (by rw [← bo]; exact hls)), δ, hV, I⟩
 exact ψ
 refine AJ (AX (DN (bL ++ bM) ?_ ?_ ?_))
 rw [bo]; simp
 refine ⟨_, _, j, (by first | exact UK b0 bl bY ba hm (List.eq_nil_of_length_eq_zero ω) | exact Ue az bl aT hm), bS, (List.Sublist.trans ((List.Sublist.refl bL).append (List.sublist_cons_self a1 bM)) (by rw [← bo]; exact hls)), δ, hV, I⟩
 exact ψ
theorem Sc {o : Nat} {A : BG} {F : List Nat} {id : Int} {j : World} (I : Mp j o A F) : Calls Tryz.prog 28 #[.pointer (some ⟨o, 0, none⟩), .int .i64 id] j fun e w' => ∃ C, e = .returned (.bool (decide (id ∈ A.map (·.1)))) ∧ Evo j w' F ∧ Mp w' o (BS A id) C ∧ (∀ g ∈ C, g ∈ F ∨ j.heap.size ≤ g) := by
  by_cases hid : id ∈ A.map (·.1)
  · rw [decide_eq_true hid]; exact Qg I hid
  · rw [decide_eq_false hid]; exact Qm I hid
theorem S5 : CQ Tryz.prog 99 = some true := ζ
theorem Nw : A8 Tryz.prog 110 1 = some 1 := ζ
theorem JM : Cy Tryz.prog 99 = some (3, 24, some (.agg #[(.int .i64 0), (.int .i64 0), (.int .i64 0)])) := ζ
set_option maxHeartbeats 2000000 in
theorem NC {bx : Nat} {A : BG} {F : List Nat} {ga : Option Addr} {gc cb : Nat} {l : List Vc.Item} {M : List (Vc.Item × Int)} {w0 : World} (hx : Mp w0 bx A F) (fg : OwnE w0 0 105 (.slice ga (AW (AO l)).length gc) (AW (AO l))) (ba : MapIs w0 cb (fun x : Vc.Item => Value.agg (Enc.enc x).toArray) (Value.int .i64) M) (bY : ∀ x, Az M x = FL (CD l) x) (hs : l.length ≤ 1000000) :
    Calls Tryz.prog 45 #[.pointer (some ⟨bx, 0, none⟩), (Zu ⟨ga, (AW (AO l)).length, gc, some cb, PH l, EU l⟩)] w0 fun e w' => ∃ bo mo, e = .returned (.map (some bo)) ∧ Evo w0 w' [] ∧ MapIs w' bo Zv eN mo ∧ w0.heap.size ≤ bo ∧ ∀ q ∈ A, vS mo q.1 = aC l q.2 := by
 obtain ⟨ml, mg, mc, L, F1, F2, F3, hp, rfl⟩ := hx
 have bt := fun w9 (h9 : Evo w0 w9 []) => (hp.evo h9 (by simp)).blk.at
 obtain ⟨MG, aT, e2, _, _⟩ := hp.grams
 obtain ⟨MC, aS, e1, _, _⟩ := hp.classes
 have bL := fun w9 (h9 : Evo w0 w9 []) => aT.evo0 h9
 have bF := fun w9 (h9 : Evo w0 w9 []) => aS.evo0 h9
 have gm := ba.lt; have bX := ba.nodup; have hg := dV bY bX
 have az := ba; replace ba := fun w9 (h9 : Evo w0 w9 []) => az.evo0 h9
 have al := hp.lists.nodup
 rw [hp.lvs.1] at al
 obtain ⟨_, gb, bA, _⟩ := fg.row_of
 have hl := HT (AO l); have hr := C9 l
 refine AG (n := 108) func45 rfl ntmps45 rfl ?_
 have I : Evo w0 w0 [] := Evo.refl _ _
 have a1 := bt
 have aT := bL
 have aS := bF
 have az := ba
 have a_ := A9 bA
 refine Zs (CE (vs := [_, _, _, _, _, _]) η η rfl ?_)
 intro b1 w2 J1 E2 B1 Y1
 have Q2 := E2.size
 replace I := Z0 I E2
 have R := B1.at
 refine Zn c5 (Zs (DF (α := Int) (β := Sum3) (Value.int .i64) eN rfl ?_))
 intro b3 w4 J3 E4 o Y3
 have Q4 := E4.size
 replace I := Z0 I E4
 replace bt := a1 _ I
 replace bL := aT _ I
 replace bF := aS _ I
 replace ba := az _ I
 replace bA := a_ _ I
 replace B1 := B1.evo0 E4
 replace R := R.evo0 E4
 refine Zn c5 (AE (Zs (Zo (AD rfl η Jp) (Zo (AA rfl VY η (R.cell 0 η)) (Ao (i := 18) (v := (.slice ga (AW (AO l)).length gc)) rfl (Zo (AQ rfl η underlying96) (Zn AU (AK (Aq (α := Nat) [7, 9, 10, 20, 21, 22, 23, 24, 25, 26, 27, 28, 29, 30, 31, 32, 33, 34, 35, 36, 37, 38, 39, 40, 41, 42, 43, 44, 45, 46, 47, 48, 49, 50, 51, 52, 53, 54, 55, 56, 57] (fun k g w => ∃ m : List (Int × Sum3), g 20 = .int .i64 (k : Nat) ∧ k ≤ (AW (AO l)).length ∧ MapIs w b3 Zv eN m ∧ (∀ q ∈ A, vS m q.1 = ⟨Wu l q.2 k, 0, 0⟩) ∧ Blk w b1 101 [.slice ga (AW (AO l)).length gc, .map (some cb), .int .i64 (PH l).p, .int .i64 (PH l).w, .int .i64 (PH l).t, .int .i64 (EU l)] ∧ w4.heap.size ≤ w.heap.size ∧ Evo w0 w []) (fun k => (AW (AO l)).length - k) 0 ?_ ?_)))))))))
 refine ⟨[], σ, δ, o, (fun q hq => rfl), B1, δ, I⟩
 rintro k g w6 ⟨m, hj7, hk_k, o, hout, B1, hzl5, I⟩
 have dp := I.size
 have gn := o.lt
 have gq := B1.lt
 have R := B1.at
 refine Zk 20 hj7 (Zs (Zn Dn (AE (AH η (fun c9 => ?_) (fun c9 => ?_)))))
 refine AJ (AE (AK (Zs (Zo (Ab (k) rfl underlying96 ER η η χ ω ((a_ _ I).addr (i := k) ω)) ?_))))
 have b4 := fun (w' : World) (h : Evo w0 w' []) => (a_ w' h).atD (k) ω
 have cr := b4 _ I
 refine Zo (AL rfl QR ER η rfl cr) (Bq (zs := [_, _, _]) (vs := [_, _, _]) ER η rfl η (fun _ => rfl) η rfl rfl η ?_)
 intro b12 w13 J12 E13 B12 Y12
 have gy := E13.size
 replace I := Z0 I E13
 replace o := o.evo0 E13
 replace B1 := B1.evo0 E13
 replace R := R.evo0 E13
 have U := B12.at
 refine Ag (AE ?_)
 obtain ⟨d_, gP, ec, gd, b0, hh⟩ := (e2.own (Bj ((AW (AO l)).getD k default))).rowOf
 have bl := A9 b0; replace b0 := bl _ I
 have fr := G5 (f := IW) (A := A) (k := (Bj ((AW (AO l)).getD k default)))
 have c3 := b0.bd
 have e3 := Yh (l := l) (k := k) ω
 refine Bt ζ ζ (Zq (fun w' hC => AN (v := (.pointer (some ⟨bx, 0, none⟩))) rfl η) (Zq (fun w' hC => Au rfl η) (Zq (fun w' hC => AD rfl η Im) (Zq (fun w' hC => AA rfl PR η (((a1 _ I).evo0 hC).cell 1 η)) (Zq (fun w' hC => AD rfl η H9) (Zq (fun w' hC => AA rfl BX η ((U.evo0 hC).cell 0 η)) (Zq (fun w' hC => AD rfl η Ic) (Zq (fun w' hC => AA rfl BX η ((U.evo0 hC).cell 1 η)) (Zq (fun w' hC => A2 (pv := [(0, S _), (1, S _)]) (zs := [_, _]) (cells := [_, _]) rfl Ga η UD η η) ?_)))))))))
 refine Zq (fun w' hC => BM (a := (Bj ((AW (AO l)).getD k default))) (z := Ob) (v := (.slice d_ (post IW A (Bj ((AW (AO l)).getD k default))).length ec)) Mt rfl underlying78 Hu η η ((aT _ I).evo0 hC) gd) (Zq (fun w' hC => AQ rfl η underlying108) (Zq (fun w' hC => AU) (EV (fun gg au => ?_))))
 have gz := au.size
 replace I := Z0 I au
 replace bt := a1 _ I
 replace bL := aT _ I
 replace bF := aS _ I
 replace ba := az _ I
 replace bA := a_ _ I
 replace o := o.evo0 au
 replace B1 := B1.evo0 au
 replace R := R.evo0 au
 replace B12 := B12.evo0 au
 replace U := U.evo0 au
 replace b0 := bl _ I
 refine AK (Aq (α := Nat) [9, 10, 35, 36, 37, 38, 39, 40, 41, 42, 43, 44, 45, 46, 47, 48, 49, 50, 51, 52, 53, 54, 55, 56] (fun j g w => ∃ m2 : List (Int × Sum3), g 35 = .int .i64 (j : Nat) ∧ j ≤ (post IW A (Bj ((AW (AO l)).getD k default))).length ∧ MapIs w b3 Zv eN m2 ∧ InnS IW A (Bj ((AW (AO l)).getD k default)) (fun b => ⟨Wu l b k, 0, 0⟩) fT (fun h => min h ((AW (AO l)).getD k default).count) j m2 ∧ Blk w b12 105 (Enc.enc ((AW (AO l)).getD k default)) ∧ Blk w b1 101 [.slice ga (AW (AO l)).length gc, .map (some cb), .int .i64 (PH l).p, .int .i64 (PH l).w, .int .i64 (PH l).t, .int .i64 (EU l)] ∧ gg.heap.size ≤ w.heap.size ∧ Evo w0 w []) (fun j => (post IW A (Bj ((AW (AO l)).getD k default))).length - j) 0 ?_ ?_)
 refine ⟨_, σ, δ, o, (InnS.start hout), B12, B1, δ, I⟩
 rintro j g hv ⟨m2, hj18, hk_j, o, hin, B12, B1, hzl16, I⟩
 have ca := I.size
 have e4 := o.lt
 have e5 := B12.lt
 have e6 := B1.lt
 have U := B12.at
 have R := B1.at
 refine Zk 35 hj18 (Zs (Zn Dn (AE (AH η (fun c_ => ?_) (fun c_ => ?_)))))
 refine AJ (AE (AK (Zs (Zo (Ab (j) rfl underlying108 Ce η η χ ω ((bl _ I).addr (i := j) ω)) ?_))))
 have b5 := fun (w' : World) (h : Evo w0 w' []) => (bl w' h).atD (j) ω
 refine Zo (AL rfl Ks Ce η rfl (b5 _ I)) (Bq (zs := [_, _]) (vs := [_, _]) Ce η rfl η (fun _ => rfl) η rfl rfl η ?_)
 intro b24 w25 J24 E25 B24 Y24
 have gM := E25.size
 replace I := Z0 I E25
 replace o := o.evo0 E25
 replace B12 := B12.evo0 E25
 replace B1 := B1.evo0 E25
 replace U := U.evo0 E25
 replace R := R.evo0 E25
 refine Ag (Zs (Zo TQ (Zo (AD rfl η Gx) (Zo (AA rfl Ae η (B24.at.cell 0 η)) (Zo (BM (a := _) (z := (⟨0, 0, 0⟩ : Sum3)) (v := .agg _) (C7 underlying3) rfl underlying123 JM η η o rfl) (Bq (zs := [_, _, _]) (vs := [_, _, _]) JM η rfl η (fun _ => rfl) η rfl rfl η ?_))))))
 intro b26 w27 J26 E27 B26 Y26
 have gN := E27.size
 replace I := Z0 I E27
 replace o := o.evo0 E27
 replace B12 := B12.evo0 E27
 replace B1 := B1.evo0 E27
 replace U := U.evo0 E27
 replace R := R.evo0 E27
 replace B24 := B24.evo0 E27
 refine Ag (AE ?_)
 obtain ⟨q9, f_, ek, en, bS⟩ := hin.val al ω; have eT : ((Az m2 ((post IW A (Bj ((AW (AO l)).getD k default))).getD j default).lo).getD ⟨0, 0, 0⟩).p = Wu l q9.2 k := congrArg Sum3.p bS; have eU := dw l q9.2 k
 refine AB (Zo (AD rfl η HY) (Zo (AA rfl Ae η (B26.at.cell 0 η)) (Zo (AD rfl η Nw) (Zo (AA rfl Ae η (B24.at.cell 1 η)) (Zo (AD rfl η OG) (Zo (AA rfl Ae η (U.cell 2 η)) (Zo (Eg rfl η η) (Zo Br (Zo (AD rfl η HY) ?_)))))))))
 refine Ai (v := .int _ _) (vs := [_]) (cs' := [_, _, _]) η η B26 Bd η rfl η rfl η ?_
 intro w28 E28 V28 hb_new
 have gO := E28.size
 replace I := Z1 I E28 ε
 replace o := o.evo E28 θ
 replace B12 := B12.evo E28 θ
 replace B1 := B1.evo E28 θ
 replace U := U.evo E28 θ
 replace R := R.evo E28 θ
 replace B24 := B24.evo E28 θ
 replace B26 := hb_new
 clear hb_new
 refine Ag (AB (Zo TQ (Zo (AD rfl η Gx) (Zo (AA rfl Ae η (B24.at.cell 0 η)) (Zo (AL rfl S5 JM η rfl B26.at) (Et (a := ((post IW A (Bj ((AW (AO l)).getD k default))).getD j default).lo) (v := (fT (vS m2 ((post IW A (Bj ((AW (AO l)).getD k default))).getD j default).lo) (min ((post IW A (Bj ((AW (AO l)).getD k default))).getD j default).hi ((AW (AO l)).getD k default).count))) (C7 underlying3) underlying123 η η η o ?_))))))
 intro w29 E29 V29 hm_new
 have gR := E29.size
 replace I := Z1 I E29 ε
 replace B12 := B12.evo E29 θ
 replace B1 := B1.evo E29 θ
 replace U := U.evo E29 θ
 replace R := R.evo E29 θ
 replace o := hm_new
 clear hm_new
 refine Ag (AX (AB (Zo Br (Zn AU (Zg (j + 1) ?_)))))
 refine ⟨_, σ, δ, o, (hin.step al ω), B12, B1, δ, I⟩
 refine Ak rfl (AX (AB (Zo Br (Zn AU (Zg (k + 1) ?_)))))
 refine ⟨_, σ, δ, o, (Zi ω (hin.done al ω (XD e3.1))), B1, δ, I⟩
 refine Ak rfl (AE (Zs (Zo (AD rfl η Km) (Zo (AA rfl VL η (R.cell 1 η)) (Ip rfl underlying97 η (az _ I) ?_)))))
 intro r30 w31 her30 E31 C hzr30
 have gS := E31.size
 replace I := Z0 I E31
 replace bt := a1 _ I
 replace bL := aT _ I
 replace bF := aS _ I
 replace ba := az _ I
 replace bA := a_ _ I
 replace o := o.evo0 E31
 replace B1 := B1.evo0 E31
 replace R := R.evo0 E31
 refine Ag (AK ?_)
 have hn := C.lt; have b7 : ∀ q ∈ A, vS m q.1 = ⟨Om l q.2, 0, 0⟩ := fun q hq => by rw [hout q hq, bI ω]
 refine Aq (α := List (Vc.Item × Int)) [11, 12, 14, 15, 61, 62, 63, 64, 65, 66, 67, 68, 69, 70, 71, 72, 73, 74, 75, 76, 77, 78, 79, 80, 81, 82, 83, 84, 85, 86, 87, 88, 89, 90, 91, 92, 93, 94, 95, 96, 97, 98, 99, 100, 101, 102, 103, 104, 105, 106] (fun left g w => ∃ la : Option (Vc.Item × Int), ∃ dn : List (Vc.Item × Int), ∃ m : List (Int × Sum3), IterIs w r30 cb (fun x : Vc.Item => Value.agg (Enc.enc x).toArray) (Value.int .i64) M left la ∧ MapIs w b3 Zv eN m ∧ (dn ++ left).Perm M ∧ (∀ q ∈ A, vS m q.1 = ⟨Om l q.2, VR dn q.2, U4 dn q.2⟩) ∧ w31.heap.size ≤ w.heap.size ∧ Evo w0 w []) (fun left => left.length) M ?_ ?_
 refine ⟨_, [], _, C, o, (by simp), b7, δ, I⟩
 rintro left g hy ⟨la, dn, m, C, o, hpm, hout, hzl32, I⟩
 have cc := I.size
 have e8 := o.lt
 refine Zs (LF rfl η C (fun dm => ?_) (fun bQ J bR hz bB bs gu bf => ?_))
 subst dm
 refine Zn (AI (v := .bool _) rfl η η) (AE (Dm η (Ak rfl (Zs (Zo TQ (Zn c5 (AM (C8 (v := .map _) rfl η) ?_)))))))
 exact ⟨_, _, rfl, I, o, by omega, YL bY bX (by simpa using hpm) hout⟩
 have gT := bs.size
 replace I := Z1 I bs ε
 replace o := o.evo bs θ
 replace C := bf
 clear bf
 refine Zn (AI (v := .bool _) rfl η η) (AE (DY η (AJ (AK (Zs (Zo (EW rfl η C) (Zo (AI (v := .agg _) rfl η η) (Zo (AI (v := .int _ _) rfl η η) (Bq (zs := [_, _, _]) (vs := [_, _, _]) Aa η rfl η (fun _ => rfl) η rfl rfl η ?_)))))))))
 intro b36 w37 J36 E37 B36 Y36
 have gU := E37.size
 replace I := Z0 I E37
 replace o := o.evo0 E37
 replace C := C.evo0 E37
 refine Zn Am (AE ?_)
 have fi : J ∈ M := hpm.mem_iff.1 (List.mem_append_right _ (by rw [bB]; simp)); have fo := JA bY bX fi; have gk := List.count_le_length (a := J.1) (l := CD l); have gj := Hf l; have fs : 0 ≤ J.2 ∧ J.2 ≤ 1000000 := by have h9 := fo.1; unfold Ec at h9; omega
 have dk := hpm.length_eq; rw [List.length_append] at dk; have e0 := fun b => fV (dn := dn) (b := b) (fun p hp => by have h9 := (JA bY bX (hpm.mem_iff.1 (List.mem_append_left _ hp))).1; have h8 := List.count_le_length (a := p.1) (l := CD l); unfold Ec at h9; omega) ω
 obtain ⟨ea, gQ, ej, gf, b2, hj⟩ := (e1.own J.1).rowOf
 have bm := A9 b2; replace b2 := bm _ I
 have fr := G5 (f := Ec) (A := A) (k := J.1)
 have c3 := b2.bd
 refine Bt ζ ζ (Zq (fun w' hC => AN (v := (.pointer (some ⟨bx, 0, none⟩))) rfl η) (Zq (fun w' hC => Au rfl η) (Zq (fun w' hC => AD rfl η Ii) (Zq (fun w' hC => AA rfl Pg η (((a1 _ I).evo0 hC).cell 2 η)) (Zq (fun w' hC => AL rfl BE Aa η rfl (B36.at.evo0 hC)) (Zq (fun w' hC => BM (a := J.1) (z := Ob) (v := (.slice ea (post Ec A J.1).length ej)) DB rfl underlying79 Hu η η ((aS _ I).evo0 hC) gf) (Zq (fun w' hC => AQ rfl η underlying108) (Zq (fun w' hC => AU) (EV (fun gh bc => ?_))))))))))
 have gV := bc.size
 replace I := Z0 I bc
 replace bt := a1 _ I
 replace bL := aT _ I
 replace bF := aS _ I
 replace ba := az _ I
 replace bA := a_ _ I
 replace o := o.evo0 bc
 replace C := C.evo0 bc
 replace B36 := B36.evo0 bc
 replace b2 := bm _ I
 refine AK (Aq (α := Nat) [14, 15, 73, 74, 75, 76, 77, 78, 79, 80, 81, 82, 83, 84, 85, 86, 87, 88, 89, 90, 91, 92, 93, 94, 95, 96, 97, 98, 99, 100, 101, 102, 103, 104, 105, 106] (fun j g w => ∃ m2 : List (Int × Sum3), g 73 = .int .i64 (j : Nat) ∧ j ≤ (post Ec A J.1).length ∧ MapIs w b3 Zv eN m2 ∧ InnS Ec A J.1 (fun b => ⟨Om l b, VR dn b, U4 dn b⟩) (cI J.1) (fun h => min h J.2) j m2 ∧ IterIs w r30 cb (fun x : Vc.Item => Value.agg (Enc.enc x).toArray) (Value.int .i64) M (bQ ++ bR) (some J) ∧ Blk w b36 111 (Enc.enc J.1) ∧ gh.heap.size ≤ w.heap.size ∧ Evo w0 w []) (fun j => (post Ec A J.1).length - j) 0 ?_ ?_)
 refine ⟨_, σ, δ, o, (InnS.start hout), C, B36, δ, I⟩
 rintro j g hA ⟨m2, hj42, hk_j, o, hin, C, B36, hzl40, I⟩
 have cm := I.size
 have e9 := o.lt
 have e_ := B36.lt
 refine Zk 73 hj42 (Zs (Zn Dn (AE (AH η (fun dc => ?_) (fun dc => ?_)))))
 refine AJ (AE (AK (Zs (Zo (Ab (j) rfl underlying108 Ce η η χ ω ((bm _ I).addr (i := j) ω)) ?_))))
 have b6 := fun (w' : World) (h : Evo w0 w' []) => (bm w' h).atD (j) ω
 refine Zo (AL rfl Ks Ce η rfl (b6 _ I)) (Bq (zs := [_, _]) (vs := [_, _]) Ce η rfl η (fun _ => rfl) η rfl rfl η ?_)
 intro b47 w48 J47 E48 B47 Y47
 have gW := E48.size
 replace I := Z0 I E48
 replace o := o.evo0 E48
 replace C := C.evo0 E48
 replace B36 := B36.evo0 E48
 refine Ag (Zs (Zo TQ (Zo (AD rfl η Gx) (Zo (AA rfl Ae η (B47.at.cell 0 η)) (Zo (BM (a := _) (z := (⟨0, 0, 0⟩ : Sum3)) (v := .agg _) (C7 underlying3) rfl underlying123 JM η η o rfl) (Bq (zs := [_, _, _]) (vs := [_, _, _]) JM η rfl η (fun _ => rfl) η rfl rfl η ?_))))))
 intro b49 w50 J49 E50 B49 Y49
 have gX := E50.size
 replace I := Z0 I E50
 replace o := o.evo0 E50
 replace C := C.evo0 E50
 replace B36 := B36.evo0 E50
 replace B47 := B47.evo0 E50
 refine Ag (AE (AE ?_))
 obtain ⟨q9, f_, ek, en, bS⟩ := hin.val al ω; have eT : ((Az m2 ((post Ec A J.1).getD j default).lo).getD ⟨0, 0, 0⟩).w = VR dn q9.2 := congrArg Sum3.w bS; have hf : ((Az m2 ((post Ec A J.1).getD j default).lo).getD ⟨0, 0, 0⟩).t = U4 dn q9.2 := congrArg Sum3.t bS; have eU := e0 q9.2
 refine AB (Zo (AL rfl BE Aa η rfl B36.at) (Zr [.agg _] rfl η func91 (Lu ) ?_))
 rintro e hB ⟨rfl, hE51⟩
 refine ⟨_, rfl, ?_⟩
 have gY := hE51.size
 replace I := Z0 I hE51
 replace o := o.evo0 hE51
 replace C := C.evo0 hE51
 replace B36 := B36.evo0 hE51
 replace B47 := B47.evo0 hE51
 replace B49 := B49.evo0 hE51
 refine Ag (AH η (fun bz => ?_) (fun bz => ?_))
 have bM := bz
 refine AB (Zo (AD rfl η Hg) (Zo (AA rfl Ae η (B49.at.cell 2 η)) (Zo (AD rfl η Nw) (Zo (AA rfl Ae η (B47.at.cell 1 η)) (Zo AU (Zo (Eg rfl η η) (Zo Br (Zo (AD rfl η Hg) (Ai (v := .int _ _) (vs := [_]) (cs' := [_, _, _]) η η B49 Bd η rfl η rfl η ?_)))))))))
 intro w53 E53 V53 hb_new
 have gZ := E53.size
 replace I := Z1 I E53 ε
 replace o := o.evo E53 θ
 replace C := C.evo E53 θ θ
 replace B36 := B36.evo E53 θ
 replace B47 := B47.evo E53 θ
 replace B49 := hb_new
 clear hb_new
 refine Ag (AB (Zo TQ (Zo (AD rfl η Gx) (Zo (AA rfl Ae η (B47.at.cell 0 η)) (Zo (AL rfl S5 JM η rfl B49.at) (Et (a := ((post Ec A J.1).getD j default).lo) (v := (⟨(vS m2 ((post Ec A J.1).getD j default).lo).p, (vS m2 ((post Ec A J.1).getD j default).lo).w, (vS m2 ((post Ec A J.1).getD j default).lo).t + min ((post Ec A J.1).getD j default).hi J.2⟩ : Sum3)) (C7 underlying3) underlying123 η η η o ?_))))))
 intro w54 E54 V54 hm_new
 have g_ := E54.size
 replace I := Z1 I E54 ε
 replace C := C.evo E54 θ θ
 replace B36 := B36.evo E54 θ
 replace o := hm_new
 clear hm_new
 refine Ag (AX (AB (Zo Br (Zn AU (Zg (j + 1) ?_)))))
 refine ⟨_, σ, δ, o, (by have h9 := hin.step al ω; first | (rw [VB bM] at h9; exact h9) | (rw [Up bM] at h9; exact h9)), C, B36, δ, I⟩
 have bM := bz; have ho := bk (h := ((post Ec A J.1).getD j default).hi) (n := J.2) (k := J.1.kind) ω ω ω
 have dO := o
 have ct := B36
 have bn := B36.at
 have cv := B47
 have bq := B47.at
 have c0 := B49
 have br := B49.at
 have gi := I
 refine Aw ([]) ζ ?_
 intro w55 hE56 af
 have ha := hE56.size
 replace I := Z0 I hE56
 replace o := o.evo0 hE56
 replace C := C.evo0 hE56
 replace B36 := B36.evo0 hE56
 replace B47 := B47.evo0 hE56
 replace B49 := B49.evo0 hE56
 refine Zt (i := 0) η (fun w' hC => AD rfl η Hb) af (Zt (i := 1) η (fun w' hC => AA rfl Ae η ((br.evo0 hC).cell 1 η)) af (Zt (i := 2) η (fun w' hC => AD rfl η Nw) af (Zt (i := 3) η (fun w' hC => AA rfl Ae η ((bq.evo0 hC).cell 1 η)) af (Zt (i := 4) η (fun w' hC => AU) af (Zt (i := 5) η (fun w' hC => Eg rfl η η) af (Zt (i := 6) η (fun w' hC => AL rfl BE Aa η rfl (bn.evo0 hC)) af ?_))))))
 refine Zh (i := 7) ?_
 refine Zr [.agg _] rfl η func92 (Cf (x := J.1)) ?_
 rintro e hD ⟨rfl, hE58⟩
 refine ⟨_, rfl, ?_⟩
 have hb := hE58.size
 replace I := Z0 I hE58
 replace af := Z0 af hE58
 replace o := o.evo0 hE58
 replace C := C.evo0 hE58
 replace B36 := B36.evo0 hE58
 replace B47 := B47.evo0 hE58
 replace B49 := B49.evo0 hE58
 refine AZ af ?_
 refine Zt (i := 8) η (fun w' hC => Ha rfl η η ω ω) af (Zt (i := 9) η (fun w' hC => Bl rfl η η ω ω) af (Zt (i := 10) η (fun w' hC => AD rfl η Hb) af ?_))
 refine Zh (i := 11) ?_
 refine Ai (v := .int _ _) (vs := [_]) (cs' := [_, _, _]) η η B49 Bd η rfl η rfl η ?_
 intro w59 E59 V59 hb_new
 have hc := E59.size
 replace I := Z1 I E59 ε
 replace o := o.evo E59 θ
 replace C := C.evo E59 θ θ
 replace B36 := B36.evo E59 θ
 replace B47 := B47.evo E59 θ
 replace B49 := hb_new
 clear hb_new
 refine Ah ζ ?_
 refine A5 ζ ?_
 refine AB (Zo TQ (Zo (AD rfl η Gx) (Zo (AA rfl Ae η (B47.at.cell 0 η)) (Zo (AL rfl S5 JM η rfl B49.at) (Et (a := ((post Ec A J.1).getD j default).lo) (v := (⟨(vS m2 ((post Ec A J.1).getD j default).lo).p, (vS m2 ((post Ec A J.1).getD j default).lo).w + min ((post Ec A J.1).getD j default).hi J.2 * wK J.1.kind, (vS m2 ((post Ec A J.1).getD j default).lo).t⟩ : Sum3)) (C7 underlying3) underlying123 η η η o ?_)))))
 intro w60 E60 V60 hm_new
 have hd := E60.size
 replace I := Z1 I E60 ε
 replace C := C.evo E60 θ θ
 replace B36 := B36.evo E60 θ
 replace o := hm_new
 clear hm_new
 refine Ag (AX (AB (Zo Br (Zn AU (Zg (j + 1) ?_)))))
 refine ⟨_, σ, δ, o, (by have h9 := hin.step al ω; first | (rw [VB bM] at h9; exact h9) | (rw [Up bM] at h9; exact h9)), C, B36, δ, I⟩
 refine Ak rfl (AX (DN (bQ ++ bR) ?_ ?_ ?_))
 rw [bB]; simp
 refine ⟨_, (dn ++ [J]), _, C, o, (by rw [bB] at hpm; have h9 := Iu (f := id) (g := dn) (x := J) (m := M) (by rw [List.map_id]; exact hpm) rfl; rw [List.map_id] at h9; exact h9), (aV (hin.done al ω (YQ fs.1))), δ, I⟩
 exact ψ
theorem Sk : A8 Tryz.prog 101 3 = some 5 := ζ
set_option maxHeartbeats 2000000 in
theorem Kd {ao : Option Addr} {b off cap : Nat} {l : List Vc.Item} {bx : Nat} {A : BG} {F : List Nat} {I : Int} {w0 : World} (hx : Mp w0 bx A F) (hl : RowE w0 ao b off cap l) (hq : ∀ x ∈ l, x.text.length ≤ 140737488355328) (hs : l.length ≤ 1000000) (hA : A.length ≤ 1000000) (bL : ∀ q ∈ A, q.2.length ≤ 1000000) :
    Calls Tryz.prog 15 #[.pointer (some ⟨bx, 0, none⟩), .slice ao l.length cap, .int .i64 I] w0 fun e w' => ∃ v r, e = .returned v ∧ Evo w0 w' [] ∧ OwnE w' w0.heap.size 3 v r ∧ PJ A l I r := by
 have cb := hx
 obtain ⟨ml, mg, mc, L, F1, F2, F3, hp, rfl⟩ := hx
 have bM := fun w9 (h9 : Evo w0 w9 []) => (hp.evo h9 (by simp)).blk.at
 have bR := fun w9 (h9 : Evo w0 w9 []) => (hp.evo h9 (by simp)).lists
 have d_ := hp.lists.lt
 have dp := hp.lvs.len
 refine AG (n := 50) func15 rfl ntmps15 rfl ?_
 have C : Evo w0 w0 [] := Evo.refl _ _
 have bs := bM
 have bt := bR
 have b9 := A9 hl
 have b5 := hl.bd
 refine Zs (Zn Ew (Zs (Zo Bi (Zr [.slice _ _ _] rfl η func34 (KZ hl hq hs) ?_))))
 rintro e w1 ⟨dm, gl1, gc1, cb1, M1, rfl, hE1, af, aS, hcq1, hcb1⟩
 refine ⟨_, rfl, ?_⟩
 have Q1 := hE1.size
 replace C := Z0 C hE1
 have cq := fun g hg => (af.block (g := g) hg).2
 refine Bq (zs := [_, _, _, _, _, _]) (vs := [_, _, _, _, _, _]) DH η rfl η (fun _ => rfl) η rfl rfl η ?_
 intro b3 w4 J3 E4 B3 Y3
 have Q4 := E4.size
 replace C := Z0 C E4
 replace af := af.evo0 E4
 replace aS := aS.evo0 E4
 have al := B3.at
 refine Ag (AE ?_)
 obtain ⟨bQ, _, _, _⟩ := af.row_of; subst bQ
 refine AB (Zo (AN (v := (.pointer (some ⟨bx, 0, none⟩))) rfl η) (Zo (AL rfl Pw DH η rfl al) (Zr [(.pointer (some ⟨bx, 0, none⟩)), .agg _] rfl η func45 (NC (cb.evo0 C) (af.base_le (Nat.zero_le _)) aS hcq1 hs) ?_)))
 rintro e w5 ⟨bB, mo5, rfl, hE5, bc, hbo5, hvo5⟩
 refine ⟨_, rfl, ?_⟩
 have Q5 := hE5.size
 replace C := Z0 C hE5
 replace af := af.evo0 hE5
 replace aS := aS.evo0 hE5
 replace B3 := B3.evo0 hE5
 replace al := al.evo0 hE5
 refine Zn (AR (v := (.map (some bB))) rfl η) (AE ?_)
 have J : Evo w5 w5 [] := Evo.refl _ _; have cp := bc.lt
 have au := fun w9 (h9 : Evo w5 w9 []) => al.evo0 h9; replace al := au _ J
 have a1 := fun w9 (h9 : Evo w5 w9 []) => bc.evo0 h9; replace bc := a1 _ J
 refine AB (Zn Ew (AE (Zs (Zo (AN (v := (.pointer (some ⟨bx, 0, none⟩))) rfl η) (Zo (Au rfl η) (Zo (AD rfl η GS) (Zo (AA rfl Le η ((bs _ C).cell 0 η)) (Ip rfl underlying77 η (bt _ C) ?_))))))))
 intro r6 w7 her6 E7 o hzr6
 have Q7 := E7.size
 replace C := Z0 C E7
 replace J := Z0 J E7
 replace bM := bs _ C
 replace bR := bt _ C
 replace hl := b9 _ C
 replace al := au _ J
 replace bc := a1 _ J
 refine Ag (AK ?_)
 have dO := o.lt
 refine Aq (α := List (Int × LV)) [9, 10, 11, 22, 23, 24, 25, 26, 27, 28, 29, 30, 31, 32, 33, 34, 35, 36, 37, 38, 39, 40, 41, 42, 43, 44, 45, 46] (fun left g w => ∃ la : Option (Int × LV), ∃ dn : List (Int × LV), ∃ vo : Value, g 9 = vo ∧ IterIs w r6 ml Zv Zu L left la ∧ OwnE w w7.heap.size 3 vo ((dn.filter (ME l I mo5)).map (·.1)) ∧ (dn ++ left).Perm L ∧ w7.heap.size ≤ w.heap.size ∧ Evo w0 w [] ∧ Evo w5 w []) (fun left => left.length) L ?_ ?_
 refine ⟨_, [], _, rfl, o, (OwnE.nil _ _ _), (by simp), δ, C, J⟩
 rintro left g w9 ⟨la, dn, vo, hj10, o, j, hpm, hzl8, C, J⟩
 have b1 := C.size
 have b0 := J.size
 refine Zk 9 hj10 ?_
 have b7 := hpm.length_eq
 rw [List.length_append] at b7
 have cm : ((dn.filter (ME l I mo5)).map (·.1)).length ≤ dn.length := by rw [List.length_map]; exact List.length_filter_le _ _
 refine Zs (LF rfl η o (fun bS => ?_) (fun bn a_ bo ec aT ba ct bb => ?_))
 subst bS
 refine Zn (AI (v := .bool _) rfl η η) (AE (Dm η (Ak rfl (AE ?_))))
 have b8 : dn.Perm L := by simpa using hpm
 refine AB (Zo (AN (v := vo) rfl η) (Zr [vo] rfl η func48 (Rc j) ?_))
 rintro e ej ⟨rfl, hE12, hs12⟩
 refine ⟨_, rfl, ?_⟩
 have c3 := hE12.size
 replace C := AP C hE12 (fun g hg => .inl (by first | exact (j.block hg).1 | (have := j.block hg; omega)))
 replace J := AP J hE12 (fun g hg => .inl (by first | exact (j.block hg).1 | (have := j.block hg; omega)))
 replace o := o.evo hE12 (by intro hm; have U := Option.mem_toList.1 hm; first | (have := j.block U; omega) | (simp [Value.ownBlock] at U; omega)) (by intro hm; have U := Option.mem_toList.1 hm; first | (have := j.block U; omega) | (simp [Value.ownBlock] at U; omega))
 replace j := hs12
 refine Ag (Zs (Zo (AN (v := vo) rfl η) (Zn (AR (v := vo) rfl η) (AM (C8 (v := vo) rfl η) ?_))))
 exact ⟨_, _, rfl, C, j.base_le ω, V0 hp.lvs hvo5 hs bL b8⟩
 have c0 := ba.size
 replace C := Z1 C ba ε
 replace J := Z1 J ba ε
 replace j := j.evo ba (by intro g hg hm; simp at hm; subst hm; have := j.block hg; omega)
 replace o := bb
 clear bb
 refine Zn (AI (v := .bool _) rfl η η) (AE (DY η (AJ (AK (AE ?_)))))
 have bX := fun g hg => (j.block (g := g) hg).2
 refine AB (Zo (EW rfl η o) (Zo (AI (v := .int _ _) rfl η η) (Zo (AI (v := .agg _) rfl η η) ?_)))
 have b_ := fun g hg => (j.block (g := g) hg).2
 refine CU (zs := [_, _, _, _, _, _]) DH η rfl ?_
 intro b14 w15 J14 E15 B14 Y14
 have c9 := E15.size
 replace C := Z0 C E15
 replace J := Z0 J E15
 replace j := j.evo0 E15
 replace o := o.evo0 E15
 refine Zo Am (Ai (v := .agg _) (vs := [_, _, _, _, _, _]) (cs' := [_, _, _, _, _, _]) η η B14 DH η rfl η rfl η ?_)
 intro w16 E16 V16 hb_new
 have c_ := E16.size
 replace C := Z1 C E16 ε
 replace J := Z1 J E16 ε
 replace j := j.evo E16 (by intro g hg hm; simp at hm; subst hm; have h7 := bX g hg; omega)
 replace o := o.evo E16 θ θ
 replace B14 := hb_new
 clear hb_new
 refine Ag (AE ?_)
 have b2 := Vu hp.lvs hvo5 hs bL (hpm.mem_iff.1 (List.mem_append_right _ (by rw [aT]; simp) : a_ ∈ dn ++ left)); have ca := Zj hs
 refine Bt ζ ζ (Zq (fun w' R => AD rfl η Ep) (Zq (fun w' R => AL rfl S5 JM η rfl (((au _ J).evo0 R).part 2 3 (ds := [_, _, _]) η)) (Zq (fun w' R => AD rfl η Ep) (Zq (fun w' R => AL rfl S5 JM η rfl ((B14.at.evo0 R).part 2 3 (ds := [_, _, _]) η)) (Zq (fun w' R => AN (v := (.map (some bB))) rfl η) (Zq (fun w' R => AU) (Zq (fun w' R => BM (a := _) (z := (⟨0, 0, 0⟩ : Sum3)) (v := .agg _) (C7 underlying3) rfl underlying123 JM η η ((a1 _ J).evo0 R) rfl) (Je rfl rfl rfl (fun w' R => BN rfl (BU (v := .agg _) η (BU (v := .agg _) η (BU (v := .agg _) η (rfl)))) func46 rfl ζ) (fun w' R => (OQ (a := PH l) (b := a_.2.s) (c := vS mo5 a_.1) ca b2.1 b2.2).mono (fun e cc h => ⟨h.1, CB R h.2⟩)) (Zq (fun w' R => AD rfl η Sk) ?_)))))))))
 refine Zq (fun w' R => AA rfl Ae η (((au _ J).evo0 R).cell 5 η)) (Zq (fun w' R => AD rfl η Sk) (Zq (fun w' R => AA rfl Ae η ((B14.at.evo0 R).cell 5 η)) (Zq (fun w' R => GH rfl η η) (Zq (fun w' R => AU) (Je rfl rfl rfl (fun w' R => BN rfl (BU (v := .int _ _) η (BU (v := .int _ _) η (rfl))) func47 rfl ζ) (fun w' R => (OO ).mono (fun e cc h => ⟨h.1, CB R h.2⟩)) (Zq (fun w' R => Dx rfl η η) (EV (fun ek az => ?_))))))))
 have dc := az.size
 replace C := Z0 C az
 replace J := Z0 J az
 replace j := j.evo0 az
 replace o := o.evo0 az
 refine AH η (fun bl => ?_) (fun bl => ?_)
 have bm := bl
 refine AB (Zo (AN (v := vo) rfl η) (Zo AU (BL (u := .int _ _) (y := _) rfl rfl underlying22 Bd η j (fun _ => η) η ξ₁ (ω) (ω) ω ?_)))
 intro q_v20 v20 w21 E21 hov20 hlv20
 have dk := E21.size
 replace C := AP C E21 (fun g hg => .inl (by first | exact (j.block hg).1 | (have := j.block hg; omega)))
 replace J := AP J E21 (fun g hg => .inl (by first | exact (j.block hg).1 | (have := j.block hg; omega)))
 replace o := o.evo E21 (by intro hm; have U := Option.mem_toList.1 hm; first | (have := j.block U; omega) | (simp [Value.ownBlock] at U; omega)) (by intro hm; have U := Option.mem_toList.1 hm; first | (have := j.block U; omega) | (simp [Value.ownBlock] at U; omega))
 refine Zn (AR (v := v20) rfl η) (AX (DN (bn ++ bo) ?_ ?_ ?_))
 rw [aT]; simp
 refine ⟨_, (dn ++ [a_]), _, rfl, o, (by first | (rw [Uv bm]; exact hov20) | (rw [Xf bm]; exact hov20)), (by rw [aT] at hpm; have h9 := Iu (f := id) (g := dn) (x := a_) (m := L) (by rw [List.map_id]; exact hpm) rfl; rw [List.map_id] at h9; exact h9), δ, C, J⟩
 exact ψ
 have bm := bl
 refine AJ (AX (DN (bn ++ bo) ?_ ?_ ?_))
 rw [aT]; simp
 refine ⟨_, (dn ++ [a_]), _, rfl, o, (by first | (rw [Uv bm]; exact j) | (rw [Xf bm]; exact j)), (by rw [aT] at hpm; have h9 := Iu (f := id) (g := dn) (x := a_) (m := L) (by rw [List.map_id]; exact hpm) rfl; rw [List.map_id] at h9; exact h9), δ, C, J⟩
 exact ψ
end Go.Proofs.YtbgmlpbgofcfjaaGreatDoor
namespace Go.Vc
open Go Go.RowKit
structure Hdr where
  ao : Option Addr
  len : Nat
  cap : Nat
instance : Inhabited Hdr := ⟨⟨none, 0, 0⟩⟩
instance : Enc Hdr := ⟨1, fun x => [.slice x.ao x.len x.cap], fun _ => rfl, fun _ => rfl, by decide⟩
structure SV where
  id : Int
  ao : Option Addr
  len : Nat
  cap : Nat
instance : Inhabited SV := ⟨⟨0, none, 0, 0⟩⟩
instance : Enc SV := ⟨2, fun x => [.int .i64 x.id, .slice x.ao x.len x.cap], fun _ => rfl, fun _ => rfl, by decide⟩
end Go.Vc
namespace Go.Proofs.YtbgmlpbgofcfjaaGreatDoor
open Go Go.RowKit Go.Vc
abbrev fu := List (Int × Nat)
def OkS (n : Nat) (S : fu) : Prop := (∀ x ∈ S, x.2 < n) ∧ (S.map (·.1)).Nodup
theorem OkS.nil {n : Nat} : OkS n [] := ⟨by simp, by simp⟩
end Go.Proofs.YtbgmlpbgofcfjaaGreatDoor
namespace Go.Vc
open Go Go.RowKit
structure Entr where
  src : Hdr
  tgt : Hdr
  prev : Ac
  next : Ac
  author : Ac
  project : Ac
  created : Int
  origin : Int
instance : Inhabited Entr := ⟨⟨default, default, [], [], [], [], 0, 0⟩⟩
instance : Enc Entr := ⟨8, fun x => [.slice x.src.ao x.src.len x.src.cap, .slice x.tgt.ao x.tgt.len x.tgt.cap, S x.prev, S x.next, S x.author, S x.project, .int .i64 x.created, .int .i64 x.origin], fun _ => rfl, fun _ => rfl, by decide⟩
def FRow (z : Nat) (w : World) (h : Hdr) (t : List Item) : Prop := ∃ b off, RowE w h.ao b off h.cap t ∧ h.len = t.length ∧ (t ≠ [] → z ≤ b)
theorem FRow.evo {z : Nat} {w w' : World} {h : Hdr} {t : List Item} {X : List Nat} (J : FRow z w h t) (he : Evo w w' X) (I : ∀ x ∈ X, x < z) : FRow z w' h t := by
  obtain ⟨b, off, h1, C, o⟩ := J
  exact ⟨b, off, C1 h1 he (fun j hm => by have := I _ hm; have := o j; omega), C, o⟩
theorem FRow.mono {z o : Nat} {w : World} {h : Hdr} {t : List Item} (J : FRow z w h t) (R : o ≤ z) : FRow o w h t := by
  obtain ⟨b, off, h1, C, I⟩ := J
  exact ⟨b, off, h1, C, fun j => Nat.le_trans R (I j)⟩
theorem FRow.bd {z : Nat} {w : World} {h : Hdr} {t : List Item} (j : FRow z w h t) : t.length ≤ 140737488355328 := by
  obtain ⟨b, off, h1, _⟩ := j
  exact h1.bd
theorem Ru {w : World} {base E : Nat} {v : Value} {t : List Item} (h : OwnE w base E v t) : ∃ j : Hdr, v = .slice j.ao j.len j.cap ∧ FRow base w j t := by
  obtain ⟨ao, cap, rfl⟩ := h.shape
  obtain ⟨_, g, C, I⟩ := h.row_of
  exact ⟨⟨ao, t.length, cap⟩, rfl, g, 0, C, rfl, fun o => (I o).2.1⟩
theorem My (f : List Item) : A4 (Dq f) = A4 f := by
  refine Cx (Q := fun f => A4 (Dq f) = A4 f) rfl (fun l x j => ?_) _ f rfl
  rw [Ct, D2]
  by_cases h : x.kind = 1
  · rw [DE h, List.append_nil, j, Fk (by rintro ⟨h1, _⟩; unfold Bh at h1; simp [h] at h1)]
  · rw [T6 h, D2, j]
theorem VC {m : List Int} : ∀ {n : List Int}, (∀ x ∈ n, x ∈ m) → n.foldl EE m = m
  | [], _ => rfl
  | x :: n, h => by rw [List.foldl_cons, IM (h x (by simp)), VC (fun y hy => h y (by simp [hy]))]
theorem WD {f t : List Item} (h : Dq t = Dq f) : A4 (f ++ t) = A4 f := by
  rw [← O1, show A4 t = A4 f by rw [← My t, h, My]]
  exact VC fun _ j => j
theorem Wg {f : List Item} (C : Bo [] f = 0) (I : f.length ≤ 500) : Bo [] (Jk f) = 0 ∧ (Jk f).length = f.length ∧ Ay (Jk f) ≤ Ay f := by
  have h1 := Vb ((MV f).1 C) (by have := Df f; omega)
  have j := HJ (A4 f) (upL (A4 f).length) f
  have o : Ay (Jk f) ≤ Ay f := Nat.le_trans (D4 _) j.2
  refine ⟨?_, ?_, o⟩
  · rw [h1.1]; exact (MV _).2 h1.2
  · rw [h1.1]; unfold OX; rw [List.length_map]
theorem VZ {a b : List Int} (t : List Item) : (Kw a b t).length ≤ t.length ∧ Ay (Kw a b t) ≤ Ay t := by
  have j := HJ a b t
  exact ⟨Nat.le_trans (D9 _) j.1, Nat.le_trans (D4 _) j.2⟩
def FD : List Ac := [[], [], [83, 97, 118, 101], [114, 101, 100, 32, 99, 97, 114]]
def FE : List Ac := [[], [], [120], [83, 97, 118, 101]]
def La : List Ac := [[], [97, 110, 110], [98, 111, 98]]
def L8 : List Ac := [[], [112], [113]]
def saveW : List Ac := [[83, 97, 118, 101], [114, 101, 100, 32, 99, 97, 114], [82, 101, 100, 32, 99, 97, 114, 115]]
theorem Ka : ∀ j, j < 3 → (saveW.getD j default).length ≤ 8 ∧ saveW.getD j default ≠ [] := by decide
theorem Nc {s : Ac} (h : s ≠ []) : Bo [] ([⟨1, s, 0⟩] : List Item) = 0 := by
  have := (EJ [] ⟨1, s, 0⟩).2 ⟨by rw [Bo], by unfold CY; simp [h, Bx]⟩
  simpa using this
structure EntOk (z : Nat) (w : World) (x : Entr) (a b : List Item) : Prop where
  rs : FRow z w x.src a
  rt : FRow z w x.tgt b
  val : Bo [] a = 0
  ne : a ≠ []
  al : a.length ≤ 8
  az : Ay a ≤ 120
  bl : b.length ≤ 16
  bz : Ay b ≤ 400
  prev : x.prev ∈ FD
  next : x.next ∈ FE
  author : x.author ∈ La
  project : x.project ∈ L8
  created : 0 ≤ x.created ∧ x.created < 50
  origin : 1 ≤ x.origin ∧ x.origin < 4
theorem EntOk.evo {z : Nat} {w w' : World} {x : Entr} {a b : List Item} {X : List Nat} (h : EntOk z w x a b) (he : Evo w w' X) (j : ∀ y ∈ X, y < z) : EntOk z w' x a b := { h with rs := h.rs.evo he j, rt := h.rt.evo he j }
theorem EntOk.mono {z o : Nat} {w : World} {x : Entr} {a b : List Item} (h : EntOk z w x a b) (j : o ≤ z) : EntOk o w x a b := { h with rs := h.rs.mono j, rt := h.rt.mono j }
structure StV where
  id : Int
  key : Ac
  src : Hdr
  tgt : Hdr
  prev : Ac
  next : Ac
  author : Ac
  project : Ac
  created : Int
  origin : Int
  tk : Hdr
instance : Inhabited StV := ⟨⟨0, [], default, default, [], [], [], [], 0, 0, default⟩⟩
instance : Enc StV := ⟨11, fun x => [.int .i64 x.id, S x.key, .slice x.src.ao x.src.len x.src.cap, .slice x.tgt.ao x.tgt.len x.tgt.cap, S x.prev, S x.next, S x.author, S x.project, .int .i64 x.created, .int .i64 x.origin, .slice x.tk.ao x.tk.len x.tk.cap], fun _ => rfl, fun _ => rfl, by decide⟩
structure Quer where
  src : Hdr
  prev : Ac
  next : Ac
  now : Int
  thr : Int
  most : Int
instance : Inhabited Quer := ⟨⟨default, [], [], 0, 0, 0⟩⟩
instance : Enc Quer := ⟨6, fun x => [.slice x.src.ao x.src.len x.src.cap, S x.prev, S x.next, .int .i64 x.now, .int .i64 x.thr, .int .i64 x.most], fun _ => rfl, fun _ => rfl, by decide⟩
structure QryOk (z : Nat) (w : World) (x : Quer) (a : List Item) : Prop where
  rs : FRow z w x.src a
  val : Bo [] a = 0
  ne : a ≠ []
  al : a.length ≤ 8
  az : Ay a ≤ 120
  prev : x.prev ∈ FD
  next : x.next ∈ FE
  now : 0 ≤ x.now ∧ x.now < 90
  thr : 1 ≤ x.thr ∧ x.thr < 103
  most : 1 ≤ x.most ∧ x.most < 13
end Go.Vc
namespace Go.Vc
open Go Go.RowKit Go.IntWalk
inductive Fc where
  | v (s : Nat) (Q : Value → Prop)
  | lit (s n : Nat) (L : List Ac)
  | elt (s : Nat) (L : List Ac)
@[reducible] def Fc.slot : Fc → Nat
  | .v s _ => s
  | .lit s _ _ => s
  | .elt s _ => s
@[reducible] def Fc.is (z : Nat) (g : Fr) (w : World) : Fc → Prop
  | .v s Q => Q (g s)
  | .lit s n L => ∃ b, (z ≤ b ∧ b < w.heap.size) ∧ g s = .slice (some ⟨b, 0, none⟩) n n ∧ RowE w (some ⟨b, 0, none⟩) b 0 n L
  | .elt s L => ∃ b j x, (z ≤ b ∧ b < w.heap.size) ∧ g s = .pointer (some ⟨b, j, none⟩) ∧ At w b j [S x] ∧ x ∈ L
theorem Fc.stay {z bs : Nat} (hbs : bs < z) {g g' : Fr} {w w' : World} (he : Evo w w' [bs]) : ∀ {f : Fc}, g' f.slot = g f.slot → f.is z g w → f.is z g' w'
  | .v s Q, hs, h => by show Q (g' s); rw [show g' s = g s from hs]; exact h
  | .lit s n L, hs, ⟨b, h1, h2, h3⟩ => ⟨b, by have := he.size; omega, (show g' s = g s from hs) ▸ h2, h3.evo he θ⟩
  | .elt s L, hs, ⟨b, j, x, h1, h2, h3, h4⟩ => ⟨b, j, x, by have := he.size; omega, (show g' s = g s from hs) ▸ h2, h3.evo he θ, h4⟩
def TC : List Nat → Bool
  | [] => true
  | a :: l => !(elemN a l) && TC l
def gD (M : List Nat) (fs : List Fc) : Bool := TC (fs.map Fc.slot) && (fs.map Fc.slot).all fun s => elemN s M
theorem LH {a : Nat} : ∀ {l : List Nat}, a ∈ l → elemN a l = true
  | b :: l, h => by
    unfold elemN
    rcases List.mem_cons.1 h with rfl | h
    · simp
    · cases e : Nat.beq a b <;> simp [LH h]
theorem VE : ∀ {l : List Nat}, TC l = true → ∀ {i j a b : Nat}, l[i]? = some a → l[j]? = some b → i ≠ j → a ≠ b
  | [], _, i, _, _, _, h, _, _ => by simp at h
  | x :: l, h, 0, 0, _, _, _, _, hn => absurd rfl hn
  | x :: l, h, 0, j + 1, a, b, h1, h2, _ => by
    simp only [TC, Bool.and_eq_true, Bool.not_eq_true'] at h
    simp at h1 h2; subst h1
    intro e; subst e
    rw [LH (List.mem_of_getElem? h2)] at h; exact absurd h.1 (by simp)
  | x :: l, h, i + 1, 0, a, b, h1, h2, _ => by
    simp only [TC, Bool.and_eq_true, Bool.not_eq_true'] at h
    simp at h1 h2; subst h2
    intro e; subst e
    rw [LH (List.mem_of_getElem? h1)] at h; exact absurd h.1 (by simp)
  | x :: l, h, i + 1, j + 1, a, b, h1, h2, hn => by
    simp only [TC, Bool.and_eq_true] at h
    exact VE h.2 (by simpa using h1) (by simpa using h2) ω
def Gq : List Nat → Array Bool → Nat
  | [], _ => 0
  | c :: cs, l => (l.getD c false).toNat + Gq cs l
theorem A6 : ∀ (cs : List Nat) (l : Array Bool), Gq cs l ≤ cs.length
  | [], _ => Nat.le_refl _
  | c :: cs, l => by
    have := A6 cs l; have := Bool.toNat_le (l.getD c false)
    simp only [Gq, List.length_cons]; omega
theorem BC {l : Array Bool} {i : Nat} : ∀ {cs : List Nat}, elemN i cs = false → Gq cs (l.setIfInBounds i true) = Gq cs l
  | [], _ => rfl
  | c :: cs, h => by
    simp only [elemN] at h
    have h1 : c ≠ i := fun e => by subst e; simp at h
    have j : elemN i cs = false := by cases e : elemN i cs <;> simp_all
    simp only [Gq]; rw [DQ h1, BC j]
theorem Eh {l : Array Bool} {i : Nat} (hu : l.getD i true = false) : ∀ {cs : List Nat}, TC cs = true → elemN i cs = true → Gq cs (l.setIfInBounds i true) = Gq cs l + 1
  | [], _, h => by simp [elemN] at h
  | c :: cs, hn, h => by
    simp only [TC, Bool.and_eq_true, Bool.not_eq_true'] at hn
    have h1 := Cj hu
    by_cases e : c = i
    · subst e
      simp only [Gq]; rw [Fu h1.2, h1.1, BC hn.1]; simp; omega
    · have j : elemN i cs = true := by
        unfold elemN at h
        have : Nat.beq i c = false := Vv (Ne.symm e)
        rw [this] at h; simpa using h
      simp only [Gq]; rw [DQ e, Eh hu hn.2 j]; omega
theorem R8 {l : Array Bool} : ∀ {cs : List Nat}, (∀ j ∈ cs, l.getD j false = true) → Gq cs l = cs.length
  | [], _ => rfl
  | c :: cs, h => by
    simp only [Gq, List.length_cons]; rw [h c (by simp), R8 (fun j hj => h j (by simp [hj]))]; simp; omega
def IG (fs : List Fc) (cs : List Nat) (e : Nat) (Fin : World → Prop) (wR : World) (bs T N2 : Nat) (c : Value) (l : Array Bool) (g : Fr) (w : World) : Prop :=
  (l.getD e false = false ∧ Evo wR w [bs] ∧ Blk w bs T [c, .int .i64 (N2 + Gq cs l : Nat)] ∧ ∀ j f, fs[j]? = some f → l.getD j false = true → f.is wR.heap.size g w) ∨ (l.getD e false = true ∧ Fin w ∧ ∀ j, j < e → l.getD j false = true)
variable {fs : List Fc} {cs : List Nat} {e : Nat} {Fin : World → Prop} {wR w w' : World} {bs T N2 i : Nat} {c : Value} {l : Array Bool} {g g' : Fr}
theorem IG.deps (o : i ≤ e) (hu : l.getD i true = false) (h : IG fs cs e Fin wR bs T N2 c l g w) :
    Evo wR w [bs] ∧ Blk w bs T [c, .int .i64 (N2 + Gq cs l : Nat)] ∧ l.getD e false = false ∧ ∀ j f, fs[j]? = some f → l.getD j false = true → f.is wR.heap.size g w := by
  rcases h with h | h
  · exact ⟨h.2.1, h.2.2.1, h.1, h.2.2.2⟩
  · have h1 := (Cj hu).1
    by_cases q : i = e
    · subst q; rw [h1] at h; exact absurd h.1 (by simp)
    · have := h.2.2 i ω; rw [h1] at this; cases this
theorem IG.step {I : Fc} {M : List Nat} (hi : fs[i]? = some I) (ag : Nat.blt i e = true) (hu : l.getD i true = false) (o : gD M fs = true) (R : bs < wR.heap.size) (J : l.getD e false = false) (hP : ∀ j f, fs[j]? = some f → l.getD j false = true → f.is wR.heap.size g w)
    (U : Evo w w' [bs]) (he : Evo wR w' [bs]) (hb : Blk w' bs T [c, .int .i64 (N2 + Gq cs (l.setIfInBounds i true) : Nat)]) (af : ∀ q, elemN q M = true → q ≠ I.slot → g' q = g q) (hn : I.is wR.heap.size g' w') : IG fs cs e Fin wR bs T N2 c (l.setIfInBounds i true) g' w' := by
  have ao : i < e := by simpa using ag
  unfold gD at o
  rw [Bool.and_eq_true] at o
  refine .inl ⟨by rw [DQ ω]; exact J, he, hb, fun j f C hl => ?_⟩
  by_cases q : j = i
  · subst q; rw [hi] at C; injection C with C; subst C; exact hn
  · rw [DQ q] at hl
    refine Fc.stay R U (af _ ?_ ?_) (hP j f C hl)
    · have := List.all_eq_true.1 o.2 f.slot (List.mem_map_of_mem (List.mem_of_getElem? C))
      exact this
    · exact VE o.1 (by rw [List.getElem?_map, C]; rfl) (by rw [List.getElem?_map, hi]; rfl) q
theorem IG.last (hu : l.getD e true = false) (o : ∀ j, j < e → l.getD j false = true) (I : Fin w') : IG fs cs e Fin wR bs T N2 c (l.setIfInBounds e true) g' w' :=
  .inr ⟨Fu (Cj hu).2, I, fun j C => by rw [DQ ω]; exact o j C⟩
theorem LQ {n j : Nat} : (Array.replicate n false).getD j false = false := by
  rcases Nat.lt_or_ge j n with h | h
  · simp [h]
  · simp [Array.getElem?_eq_none (show (Array.replicate n false).size ≤ j by simpa using h)]
theorem Rp {n : Nat} : ∀ cs : List Nat, Gq cs (Array.replicate n false) = 0
  | [] => rfl
  | c :: cs => by simp only [Gq]; rw [LQ, Rp cs]; rfl
theorem IG.init {n : Nat} (he : Evo wR w [bs]) (C : Blk w bs T [c, .int .i64 (N2 : Nat)]) : IG fs cs e Fin wR bs T N2 c (Array.replicate n false) g w :=
  .inl ⟨LQ, he, by rw [Rp]; exact C, fun j f _ o => by rw [LQ] at o; cases o⟩
theorem IG.done {n : Nat} (o : Nat.blt e n = true) (h : IG fs cs e Fin wR bs T N2 c (Array.replicate n true) g w) : Fin w := by
  have j : e < n := by simpa using o
  rcases h with h | h
  · exact absurd h.1 (by simp [j])
  · exact h.2.1
theorem QO {w : World} {b j k n : Nat} {l : List Ac} {cap : Nat} (h : RowE w (some ⟨b, 0, none⟩) b 0 cap l) (hk : k < n) (C : l.length = n) (o : j = 0 + k * 1) : ∃ s, At w b j [S s] ∧ s ∈ l := by
  subst o
  have hk : k < l.length := by omega
  exact ⟨_, h.at k hk, List.getElem_mem hk⟩
theorem Jw {o : Oper} {m : Nat} (C : ∀ q ∈ o.after, Region.binds .any q = true → l.getD q.on false = true) (h : (List.range m).all (HH o) = true) : ∀ j, j < m → l.getD j false = true := fun j I =>
  BO C j (List.all_eq_true.1 h j (List.mem_range.2 I))
theorem Pj {m : Nat} (h : ∀ j, j < m → l.getD j false = true) (o : cs.all (fun j => Nat.blt j m) = true) : Gq cs l = cs.length :=
  R8 fun j C => h j (by have := List.all_eq_true.1 o j C; simpa using this)
end Go.Vc
