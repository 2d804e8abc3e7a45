/-
  Library, plain laws and walks that the statements reach (joined by a program out of smaller texts).
-/
import Derived.Test.YtlfjocbnbceceaaGreatDoorAjf
import Derived.Test.YtlfjocbnbceceaaGreatDoorAje
import Derived.Test.YtlfjocbnbceceaaGreatDoorAjd
import Derived.Test.YtlfjocbnbceceaaGreatDoorAjb
set_option linter.unusedVariables false
set_option linter.unusedSimpArgs false
namespace Go.Proofs.YtlfjocbnbceceaaGreatDoor
open Go.RowKit Go.Vc
set_option maxHeartbeats 4000000 in
theorem rawi_calls {T bs : Nat} {ao : Option Addr} {b off cap : Nat} {l : List Int} {N : Nat} {n : Int} {w0 : World} (hb : Blk w0 bs T [.slice ao l.length cap, .int .i64 (N : Nat)]) (hl : ∀ w', Evo w0 w' [bs] → RowE w' ao b off cap l) (hN : N ≤ 100000) (hn0 : 0 ≤ n) (hn9 : n ≤ 100) :
    Calls Tryz.prog 42 #[.pointer (some ⟨bs, 0, none⟩), .int .i64 n] w0 fun e w' => ∃ v, ∃ f : List Vc.Item, e = .returned v ∧ ((f.length : Int) ≤ n ∧ (sizeL f : Int) ≤ 5 * n ∧ (∀ y ∈ f, 0 ≤ y.id ∧ y.id ≤ 3)) ∧ Evo w0 w' [bs] ∧ OwnE w' w0.heap.size 32 v f := by
 have hAs := hb.at; have hbslt := hb.lt
 refine calls_enter (n := 36) Tryz.func42 rfl Tryz.ntmps42 rfl ?_
 have hV : Evo w0 w0 [bs] := Evo.refl _ _
 have hl0 := hl
 replace hl := hl0 _ hV
 have hbd_hl := hl.bd
 refine Zs ?_
 refine Zn asS ?_
 refine Zs ?_
 refine Zn asS ?_
 refine r_seq ?_
 refine Zs ?_
 refine Zo mvP ?_
 refine Zo mvI ?_
 refine Zo (run_add rfl η η ω ω) ?_
 refine Zr [.pointer _, .int _ _] rfl η Tryz.func38 (nx_calls hb hl ω ω ω) ?_
 rintro e w1 ⟨nx1, rfl, hx1, F1, hn1⟩
 refine ⟨_, rfl, ?_⟩
 have Q1 := F1.size
 replace hV := Z1 hV F1 (.inr (by simp))
 replace hl := hl0 _ hV
 replace hb := hn1
 clear hn1
 have hAs := hb.at
 refine Zn asI ?_
 refine r_block ?_
 refine r_loop (α := Nat) [5, 6, 7, 12, 13, 14, 15, 16, 17, 18, 19, 20, 21, 22, 23, 24, 25, 26, 27, 28, 29, 30, 31, 32, 33, 34] (fun i g w => ∃ vf : Value, ∃ f : List Vc.Item, ∃ N1 : Nat, g 6 = .int .i64 (i : Nat) ∧ g 5 = vf ∧ OwnE w w0.heap.size 32 vf f ∧ Blk w bs T [.slice ao l.length cap, .int .i64 (N1 : Nat)] ∧ At w bs 0 [.slice ao l.length cap, .int .i64 (N1 : Nat)] ∧ (f.length + i ≤ nx1.toNat ∧ sizeL f + 5 * i ≤ 5 * nx1.toNat ∧ N + 1 ≤ N1 ∧ N1 + 4 * i ≤ N + 1 + 4 * nx1.toNat) ∧ (∀ y ∈ f, 0 ≤ y.id ∧ y.id ≤ 3) ∧ w1.heap.size ≤ w.heap.size ∧ Evo w0 w [bs]) (fun i => i) nx1.toNat ?_ ?_
 ·refine ⟨_, [], _, (congrArg (Value.int _) ω), rfl, (OwnE.nil _ _ _), hb, hb.at, (by first | (simp [sizeL]; done) | (simp [sizeL]; omega)), (fun y hy => absurd hy List.not_mem_nil), δ, hV⟩
 rintro i g w3 ⟨vf, f, N1, hj4, hj5, hof, hb, hAs, hsz, hid, hzl2, hV⟩
 have hs_w3hV := hV.size
 have hlt6 := hb.lt
 refine Zk 6 (v := .int .i64 (i : Nat)) (by exact hj4) ?_
 refine Zk 5 (v := vf) (by exact hj5) ?_
 refine r_seq ?_
 refine Zs ?_
 refine Zo mvI ?_
 refine Zn (run_gtr rfl η η) ?_
 refine r_cond η (fun hc7 => ?_) (fun hc7 => ?_)
 ·skip
  refine r_skip ?_
  refine r_seq ?_
  refine r_block ?_
  refine r_seq ?_
  refine r_cut [7, 16, 17, 18, 19, 20, 21, 22, 23, 24, 25, 26] (fun g w => ∃ bx : Nat, ∃ kx : Int, ∃ tx : Str, ∃ ix : Int, g 7 = .pointer (some ⟨bx, 0, none⟩) ∧ OwnE w w0.heap.size 32 vf f ∧ Blk w bx 32 [.int .i64 kx, S tx, .int .i64 ix] ∧ At w bx 0 [.int .i64 kx, S tx, .int .i64 ix] ∧ Blk w bs T [.slice ao l.length cap, .int .i64 ((N1 + 3) : Nat)] ∧ At w bs 0 [.slice ao l.length cap, .int .i64 ((N1 + 3) : Nat)] ∧ tx.length ≤ 5 ∧ w0.heap.size ≤ bx ∧ (∀ g, vf.ownBlock = some g → g ≠ bx) ∧ (0 ≤ ix ∧ ix ≤ 3) ∧ w3.heap.size ≤ w.heap.size ∧ Evo w0 w [bs]) ?_ ?_
  ·skip
   have hobF := fun g hg => (hof.block (g := g) hg).2
   have hb_q := hb
   have hAs_q := hAs
   have hV_q := hV
   refine h_region ([bs]) ζ ?_
   intro w9 F10 hC11
   have Q9 := F10.size
   replace hV := Z0 hV F10
   replace hl := hl0 _ hV
   replace hof := hof.evo0 F10
   replace hb := hb.evo0 F10
   replace hAs := hAs.evo0 F10
   refine h_join [0, 1, 2, 3, 4, 5, 6, 7, 8, 9, 10, 11] 1 [7, 16, 17, 18, 19, 20, 21, 22, 23, 24, 25, 26] (fun g w => ∃ bx9 : Nat, ∃ kx9 : Int, ∃ tx9 : Str, ∃ ix9 : Int, g 26 = .agg #[.int .i64 kx9, S tx9, .int .i64 ix9] ∧ g 7 = .pointer (some ⟨bx9, 0, none⟩) ∧ OwnE w w0.heap.size 32 vf f ∧ Blk w bx9 32 [.int .i64 0, S [], .int .i64 0] ∧ At w bx9 0 [.int .i64 0, S [], .int .i64 0] ∧ Blk w bs T [.slice ao l.length cap, .int .i64 ((N1 + 3) : Nat)] ∧ At w bs 0 [.slice ao l.length cap, .int .i64 ((N1 + 3) : Nat)] ∧ tx9.length ≤ 5 ∧ (0 ≤ ix9 ∧ ix9 ≤ 3) ∧ w0.heap.size ≤ bx9 ∧ (∀ g, vf.ownBlock = some g → g ≠ bx9) ∧ w9.heap.size ≤ w.heap.size ∧ Evo w0 w [bs] ∧ Evo w3 w [bs]) ?_ ?_
   ·rintro g w13 ⟨bx9, kx9, tx9, ix9, hj14, hj15, hof, hbx9, hAx9, hb, hAs, htx9, hix9, hbx09, hnx9, hzl12, hV, hC11⟩
    have hs_w13hV := hV.size
    have hs_w13hC11 := hC11.size
    have hlt16 := hbx9.lt
    have hlt17 := hb.lt
    refine h_know (i := 26) (v := .agg #[.int .i64 kx9, S tx9, .int .i64 ix9]) (by exact hj14) ?_
    refine h_know (i := 7) (v := .pointer (some ⟨bx9, 0, none⟩)) (by exact hj15) ?_
    refine Zh (i := 12) ?_
    refine r_store (v := .agg _) (vs := [_, _, _]) (cs' := [_, _, _]) η η hbx9 ty_32 η rfl η rfl η ?_
    intro w18 E18 V18 hb_new
    have Q18 := E18.size
    replace hV := Z1 hV E18 ε
    replace hl := hl0 _ hV
    replace hof := hof.evo E18 (by intro g hg hm; simp at hm; subst hm; exact hnx9 _ hg rfl)
    replace hb := hb.evo E18 θ
    replace hbx9 := hb_new
    have hAx9 := hbx9.at
    clear hb_new
    refine h_last ζ ?_
    refine h_done ζ ?_
    refine r_cut_end ?_ ?_
    ·refine ⟨_, _, _, _, rfl, hof, hbx9, hbx9.at, hb, hb.at, htx9, ω, hnx9, hix9, δ, hV⟩
    exact ψ
   intro hJ9
   refine Zt (i := 0) η (fun w' hC => mvP) hC11 ?_
   refine Zt (i := 4) η (fun w' hC => mvP) hC11 ?_
   refine Zt (i := 8) η (fun w' hC => mvP) hC11 ?_
   refine h_three (i := 1) (j := 3) (p := 11) ζ ?_ ?_ ?_
   ·skip
    refine h_do η ?_
    refine Zr [.pointer _, .int _ _] rfl η Tryz.func38 (nx_calls hb hl ω ω ω) ?_
    rintro e w19 ⟨nx19, rfl, hx19, F19, hn19⟩
    refine ⟨_, rfl, ?_⟩
    have Q19 := F19.size
    replace hV := Z1 hV F19 (.inr (by simp))
    replace hC11 := Z1 hC11 F19 ε
    replace hl := hl0 _ hV
    replace hof := hof.evo F19 (by intro g hg hm; simp at hm; subst hm; have h7 := hobF g hg; have h8 := hof.block hg; omega)
    replace hb := hn19
    clear hn19
    have hAs := hb.at
    refine h_next hC11 ?_
    refine Zt (i := 2) η (fun w' hC => run_sub rfl η η ω ω) hC11 ?_
    refine h_three (i := 3) (j := 5) (p := 11) ζ ?_ ?_ ?_
    ·skip
     refine h_do η ?_
     refine r_bslice (pv := [(0, S _), (1, S _), (2, S _), (3, S _), (4, S _), (5, S _), (6, S _), (7, S _)]) (zs := [_]) (cs := [_, _, _, _, _, _, _, _]) Tryz.underlying77 ty_9 η rfl η rfl η ?_
     intro b20 w21 J20 E21 B20 Y20
     have Q21 := E21.size
     replace hV := Z0 hV E21
     replace hC11 := Z0 hC11 E21
     replace hl := hl0 _ hV
     replace hof := hof.evo0 E21
     replace hb := hb.evo0 E21
     replace hAs := hAs.evo0 E21
     have hrb20 : RowE w21 (some ⟨b20, 0, none⟩) b20 0 8 rawW := rowLit rawW B20 rfl rfl
     refine h_next hC11 ?_
     refine h_two (i := 5) (j := 11) ζ ?_ ?_
     ·skip
      refine h_do η ?_
      refine Zr [.pointer _, .int _ _] rfl η Tryz.func38 (nx_calls hb hl ω ω ω) ?_
      rintro e w22 ⟨nx22, rfl, hx22, F22, hn22⟩
      refine ⟨_, rfl, ?_⟩
      have Q22 := F22.size
      replace hV := Z1 hV F22 (.inr (by simp))
      replace hC11 := Z1 hC11 F22 ε
      replace hl := hl0 _ hV
      replace hof := hof.evo F22 (by intro g hg hm; simp at hm; subst hm; have h7 := hobF g hg; have h8 := hof.block hg; omega)
      replace hrb20 := hrb20.evo F22 θ
      replace hb := hn22
      clear hn22
      have hAs := hb.at
      refine h_next hC11 ?_
      refine Zt (i := 6) η (fun w' hC => run_ix (nx22.toNat) rfl Tryz.underlying77 ty_9 η η ω (by show _ < 8; omega) (hrb20.addr (i := nx22.toNat) (by show _ < 8; omega))) hC11 ?_
      have hA23 := hrb20.atD (nx22.toNat) (by show _ < 8; omega)
      refine h_three (i := 7) (j := 9) (p := 11) ζ ?_ ?_ ?_
      ·skip
       refine h_do η ?_
       refine Zo (run_ld1 rfl ag_9 η (hA23.cell 0 η)) ?_
       refine h_next hC11 ?_
       refine h_two (i := 9) (j := 11) ζ ?_ ?_
       ·skip
        refine h_do η ?_
        refine Zr [.pointer _, .int _ _] rfl η Tryz.func38 (nx_calls hb hl ω ω ω) ?_
        rintro e w24 ⟨nx24, rfl, hx24, F24, hn24⟩
        refine ⟨_, rfl, ?_⟩
        have Q24 := F24.size
        replace hV := Z1 hV F24 (.inr (by simp))
        replace hC11 := Z1 hC11 F24 ε
        replace hof := hof.evo F24 (by intro g hg hm; simp at hm; subst hm; have h7 := hobF g hg; have h8 := hof.block hg; omega)
        replace hb := hn24
        clear hn24
        have hAs := hb.at
        refine h_next hC11 ?_
        refine Zt (i := 10) η (fun w' hC => run_bld (pv := [(0, .int _ _), (1, S _), (2, .int _ _)]) (zs := [_, _, _]) (cells := [_, _, _]) rfl ty_32 η pl_32 η η) hC11 ?_
        refine Zh (i := 11) ?_
        have hob25 := fun g hg => (hof.block (g := g) hg).2
        refine r_alloc (zs := [_, _, _]) ty_32 η rfl ?_
        intro b26 w27 J26 E27 B26 Y26
        have Q27 := E27.size
        replace hV := Z0 hV E27
        replace hC11 := Z0 hC11 E27
        replace hl := hl0 _ hV
        replace hof := hof.evo0 E27
        replace hb := hb.evo0 E27
        refine h_next hC11 ?_
        refine hJ9 _ _ _ ζ ⟨_, _, _, _, rfl, rfl, hof, B26, B26.at, hb, hb.at, (rawW_bd _ ω), ⟨by omega, by omega⟩, ω, (fun g hg => by have := hobF g hg; omega), δ, hV, hC11⟩ ?_
        exact ψ
       refine h_do η ?_
       have hob28 := fun g hg => (hof.block (g := g) hg).2
       refine r_alloc (zs := [_, _, _]) ty_32 η rfl ?_
       intro b29 w30 J29 E30 B29 Y29
       have Q30 := E30.size
       replace hV := Z0 hV E30
       replace hC11 := Z0 hC11 E30
       replace hl := hl0 _ hV
       replace hof := hof.evo0 E30
       replace hrb20 := hrb20.evo0 E30
       replace hb := hb.evo0 E30
       replace hAs := hAs.evo0 E30
       refine h_next hC11 ?_
       refine Zh (i := 9) ?_
       refine Zr [.pointer _, .int _ _] rfl η Tryz.func38 (nx_calls hb hl ω ω ω) ?_
       rintro e w31 ⟨nx31, rfl, hx31, F31, hn31⟩
       refine ⟨_, rfl, ?_⟩
       have Q31 := F31.size
       replace hV := Z1 hV F31 (.inr (by simp))
       replace hC11 := Z1 hC11 F31 ε
       replace hl := hl0 _ hV
       replace hof := hof.evo F31 (by intro g hg hm; simp at hm; subst hm; have h7 := hobF g hg; have h8 := hof.block hg; omega)
       replace B29 := B29.evo F31 θ
       replace hb := hn31
       clear hn31
       have hAs := hb.at
       refine h_next hC11 ?_
       refine Zt (i := 10) η (fun w' hC => run_bld (pv := [(0, .int _ _), (1, S _), (2, .int _ _)]) (zs := [_, _, _]) (cells := [_, _, _]) rfl ty_32 η pl_32 η η) hC11 ?_
       refine hJ9 _ _ _ ζ ⟨_, _, _, _, rfl, rfl, hof, B29, B29.at, hb, hb.at, (rawW_bd _ ω), ⟨by omega, by omega⟩, ω, (fun g hg => by have := hobF g hg; omega), δ, hV, hC11⟩ ?_
       exact ψ
      ·skip
       refine h_do η ?_
       refine Zr [.pointer _, .int _ _] rfl η Tryz.func38 (nx_calls hb hl ω ω ω) ?_
       rintro e w32 ⟨nx32, rfl, hx32, F32, hn32⟩
       refine ⟨_, rfl, ?_⟩
       have Q32 := F32.size
       replace hV := Z1 hV F32 (.inr (by simp))
       replace hC11 := Z1 hC11 F32 ε
       replace hof := hof.evo F32 (by intro g hg hm; simp at hm; subst hm; have h7 := hobF g hg; have h8 := hof.block hg; omega)
       replace hA23 := hA23.evo F32 θ
       replace hb := hn32
       clear hn32
       have hAs := hb.at
       refine h_next hC11 ?_
       refine h_two (i := 7) (j := 11) ζ ?_ ?_
       ·skip
        refine h_do η ?_
        refine Zo (run_ld1 rfl ag_9 η (hA23.cell 0 η)) ?_
        refine h_next hC11 ?_
        refine Zt (i := 10) η (fun w' hC => run_bld (pv := [(0, .int _ _), (1, S _), (2, .int _ _)]) (zs := [_, _, _]) (cells := [_, _, _]) rfl ty_32 η pl_32 η η) hC11 ?_
        refine Zh (i := 11) ?_
        have hob33 := fun g hg => (hof.block (g := g) hg).2
        refine r_alloc (zs := [_, _, _]) ty_32 η rfl ?_
        intro b34 w35 J34 E35 B34 Y34
        have Q35 := E35.size
        replace hV := Z0 hV E35
        replace hC11 := Z0 hC11 E35
        replace hl := hl0 _ hV
        replace hof := hof.evo0 E35
        replace hb := hb.evo0 E35
        refine h_next hC11 ?_
        refine hJ9 _ _ _ ζ ⟨_, _, _, _, rfl, rfl, hof, B34, B34.at, hb, hb.at, (rawW_bd _ ω), ⟨by omega, by omega⟩, ω, (fun g hg => by have := hobF g hg; omega), δ, hV, hC11⟩ ?_
        exact ψ
       refine h_do η ?_
       have hob36 := fun g hg => (hof.block (g := g) hg).2
       refine r_alloc (zs := [_, _, _]) ty_32 η rfl ?_
       intro b37 w38 J37 E38 B37 Y37
       have Q38 := E38.size
       replace hV := Z0 hV E38
       replace hC11 := Z0 hC11 E38
       replace hl := hl0 _ hV
       replace hof := hof.evo0 E38
       replace hA23 := hA23.evo0 E38
       replace hb := hb.evo0 E38
       refine h_next hC11 ?_
       refine Zh (i := 7) ?_
       refine Zo (run_ld1 rfl ag_9 η (hA23.cell 0 η)) ?_
       refine h_next hC11 ?_
       refine Zt (i := 10) η (fun w' hC => run_bld (pv := [(0, .int _ _), (1, S _), (2, .int _ _)]) (zs := [_, _, _]) (cells := [_, _, _]) rfl ty_32 η pl_32 η η) hC11 ?_
       refine hJ9 _ _ _ ζ ⟨_, _, _, _, rfl, rfl, hof, B37, B37.at, hb, hb.at, (rawW_bd _ ω), ⟨by omega, by omega⟩, ω, (fun g hg => by have := hobF g hg; omega), δ, hV, hC11⟩ ?_
       exact ψ
      refine h_do η ?_
      have hob39 := fun g hg => (hof.block (g := g) hg).2
      refine r_alloc (zs := [_, _, _]) ty_32 η rfl ?_
      intro b40 w41 J40 E41 B40 Y40
      have Q41 := E41.size
      replace hV := Z0 hV E41
      replace hC11 := Z0 hC11 E41
      replace hl := hl0 _ hV
      replace hof := hof.evo0 E41
      replace hrb20 := hrb20.evo0 E41
      replace hb := hb.evo0 E41
      replace hAs := hAs.evo0 E41
      replace hA23 := hA23.evo0 E41
      refine h_next hC11 ?_
      refine h_two (i := 7) (j := 9) ζ ?_ ?_
      ·skip
       refine h_do η ?_
       refine Zo (run_ld1 rfl ag_9 η (hA23.cell 0 η)) ?_
       refine h_next hC11 ?_
       refine Zh (i := 9) ?_
       refine Zr [.pointer _, .int _ _] rfl η Tryz.func38 (nx_calls hb hl ω ω ω) ?_
       rintro e w42 ⟨nx42, rfl, hx42, F42, hn42⟩
       refine ⟨_, rfl, ?_⟩
       have Q42 := F42.size
       replace hV := Z1 hV F42 (.inr (by simp))
       replace hC11 := Z1 hC11 F42 ε
       replace hl := hl0 _ hV
       replace hof := hof.evo F42 (by intro g hg hm; simp at hm; subst hm; have h7 := hobF g hg; have h8 := hof.block hg; omega)
       replace B40 := B40.evo F42 θ
       replace hb := hn42
       clear hn42
       have hAs := hb.at
       refine h_next hC11 ?_
       refine Zt (i := 10) η (fun w' hC => run_bld (pv := [(0, .int _ _), (1, S _), (2, .int _ _)]) (zs := [_, _, _]) (cells := [_, _, _]) rfl ty_32 η pl_32 η η) hC11 ?_
       refine hJ9 _ _ _ ζ ⟨_, _, _, _, rfl, rfl, hof, B40, B40.at, hb, hb.at, (rawW_bd _ ω), ⟨by omega, by omega⟩, ω, (fun g hg => by have := hobF g hg; omega), δ, hV, hC11⟩ ?_
       exact ψ
      refine h_do η ?_
      refine Zr [.pointer _, .int _ _] rfl η Tryz.func38 (nx_calls hb hl ω ω ω) ?_
      rintro e w43 ⟨nx43, rfl, hx43, F43, hn43⟩
      refine ⟨_, rfl, ?_⟩
      have Q43 := F43.size
      replace hV := Z1 hV F43 (.inr (by simp))
      replace hC11 := Z1 hC11 F43 ε
      replace hl := hl0 _ hV
      replace hof := hof.evo F43 (by intro g hg hm; simp at hm; subst hm; have h7 := hobF g hg; have h8 := hof.block hg; omega)
      replace hA23 := hA23.evo F43 θ
      replace B40 := B40.evo F43 θ
      replace hb := hn43
      clear hn43
      have hAs := hb.at
      refine h_next hC11 ?_
      refine Zh (i := 7) ?_
      refine Zo (run_ld1 rfl ag_9 η (hA23.cell 0 η)) ?_
      refine h_next hC11 ?_
      refine Zt (i := 10) η (fun w' hC => run_bld (pv := [(0, .int _ _), (1, S _), (2, .int _ _)]) (zs := [_, _, _]) (cells := [_, _, _]) rfl ty_32 η pl_32 η η) hC11 ?_
      refine hJ9 _ _ _ ζ ⟨_, _, _, _, rfl, rfl, hof, B40, B40.at, hb, hb.at, (rawW_bd _ ω), ⟨by omega, by omega⟩, ω, (fun g hg => by have := hobF g hg; omega), δ, hV, hC11⟩ ?_
      exact ψ
     refine h_do η ?_
     have hob44 := fun g hg => (hof.block (g := g) hg).2
     refine r_alloc (zs := [_, _, _]) ty_32 η rfl ?_
     intro b45 w46 J45 E46 B45 Y45
     have Q46 := E46.size
     replace hV := Z0 hV E46
     replace hC11 := Z0 hC11 E46
     replace hl := hl0 _ hV
     replace hof := hof.evo0 E46
     replace hb := hb.evo0 E46
     replace hAs := hAs.evo0 E46
     replace hrb20 := hrb20.evo0 E46
     refine h_next hC11 ?_
     refine Zh (i := 5) ?_
     refine Zr [.pointer _, .int _ _] rfl η Tryz.func38 (nx_calls hb hl ω ω ω) ?_
     rintro e w47 ⟨nx47, rfl, hx47, F47, hn47⟩
     refine ⟨_, rfl, ?_⟩
     have Q47 := F47.size
     replace hV := Z1 hV F47 (.inr (by simp))
     replace hC11 := Z1 hC11 F47 ε
     replace hl := hl0 _ hV
     replace hof := hof.evo F47 (by intro g hg hm; simp at hm; subst hm; have h7 := hobF g hg; have h8 := hof.block hg; omega)
     replace hrb20 := hrb20.evo F47 θ
     replace B45 := B45.evo F47 θ
     replace hb := hn47
     clear hn47
     have hAs := hb.at
     refine h_next hC11 ?_
     refine Zt (i := 6) η (fun w' hC => run_ix (nx47.toNat) rfl Tryz.underlying77 ty_9 η η ω (by show _ < 8; omega) (hrb20.addr (i := nx47.toNat) (by show _ < 8; omega))) hC11 ?_
     have hA48 := hrb20.atD (nx47.toNat) (by show _ < 8; omega)
     refine h_two (i := 7) (j := 9) ζ ?_ ?_
     ·skip
      refine h_do η ?_
      refine Zo (run_ld1 rfl ag_9 η (hA48.cell 0 η)) ?_
      refine h_next hC11 ?_
      refine Zh (i := 9) ?_
      refine Zr [.pointer _, .int _ _] rfl η Tryz.func38 (nx_calls hb hl ω ω ω) ?_
      rintro e w49 ⟨nx49, rfl, hx49, F49, hn49⟩
      refine ⟨_, rfl, ?_⟩
      have Q49 := F49.size
      replace hV := Z1 hV F49 (.inr (by simp))
      replace hC11 := Z1 hC11 F49 ε
      replace hl := hl0 _ hV
      replace hof := hof.evo F49 (by intro g hg hm; simp at hm; subst hm; have h7 := hobF g hg; have h8 := hof.block hg; omega)
      replace B45 := B45.evo F49 θ
      replace hb := hn49
      clear hn49
      have hAs := hb.at
      refine h_next hC11 ?_
      refine Zt (i := 10) η (fun w' hC => run_bld (pv := [(0, .int _ _), (1, S _), (2, .int _ _)]) (zs := [_, _, _]) (cells := [_, _, _]) rfl ty_32 η pl_32 η η) hC11 ?_
      refine hJ9 _ _ _ ζ ⟨_, _, _, _, rfl, rfl, hof, B45, B45.at, hb, hb.at, (rawW_bd _ ω), ⟨by omega, by omega⟩, ω, (fun g hg => by have := hobF g hg; omega), δ, hV, hC11⟩ ?_
      exact ψ
     refine h_do η ?_
     refine Zr [.pointer _, .int _ _] rfl η Tryz.func38 (nx_calls hb hl ω ω ω) ?_
     rintro e w50 ⟨nx50, rfl, hx50, F50, hn50⟩
     refine ⟨_, rfl, ?_⟩
     have Q50 := F50.size
     replace hV := Z1 hV F50 (.inr (by simp))
     replace hC11 := Z1 hC11 F50 ε
     replace hl := hl0 _ hV
     replace hof := hof.evo F50 (by intro g hg hm; simp at hm; subst hm; have h7 := hobF g hg; have h8 := hof.block hg; omega)
     replace B45 := B45.evo F50 θ
     replace hA48 := hA48.evo F50 θ
     replace hb := hn50
     clear hn50
     have hAs := hb.at
     refine h_next hC11 ?_
     refine Zh (i := 7) ?_
     refine Zo (run_ld1 rfl ag_9 η (hA48.cell 0 η)) ?_
     refine h_next hC11 ?_
     refine Zt (i := 10) η (fun w' hC => run_bld (pv := [(0, .int _ _), (1, S _), (2, .int _ _)]) (zs := [_, _, _]) (cells := [_, _, _]) rfl ty_32 η pl_32 η η) hC11 ?_
     refine hJ9 _ _ _ ζ ⟨_, _, _, _, rfl, rfl, hof, B45, B45.at, hb, hb.at, (rawW_bd _ ω), ⟨by omega, by omega⟩, ω, (fun g hg => by have := hobF g hg; omega), δ, hV, hC11⟩ ?_
     exact ψ
    ·skip
     refine h_do η ?_
     refine Zr [.pointer _, .int _ _] rfl η Tryz.func38 (nx_calls hb hl ω ω ω) ?_
     rintro e w51 ⟨nx51, rfl, hx51, F51, hn51⟩
     refine ⟨_, rfl, ?_⟩
     have Q51 := F51.size
     replace hV := Z1 hV F51 (.inr (by simp))
     replace hC11 := Z1 hC11 F51 ε
     replace hl := hl0 _ hV
     replace hof := hof.evo F51 (by intro g hg hm; simp at hm; subst hm; have h7 := hobF g hg; have h8 := hof.block hg; omega)
     replace hb := hn51
     clear hn51
     have hAs := hb.at
     refine h_next hC11 ?_
     refine h_three (i := 3) (j := 9) (p := 11) ζ ?_ ?_ ?_
     ·skip
      refine h_do η ?_
      refine r_bslice (pv := [(0, S _), (1, S _), (2, S _), (3, S _), (4, S _), (5, S _), (6, S _), (7, S _)]) (zs := [_]) (cs := [_, _, _, _, _, _, _, _]) Tryz.underlying77 ty_9 η rfl η rfl η ?_
      intro b52 w53 J52 E53 B52 Y52
      have Q53 := E53.size
      replace hV := Z0 hV E53
      replace hC11 := Z0 hC11 E53
      replace hl := hl0 _ hV
      replace hof := hof.evo0 E53
      replace hb := hb.evo0 E53
      replace hAs := hAs.evo0 E53
      have hrb52 : RowE w53 (some ⟨b52, 0, none⟩) b52 0 8 rawW := rowLit rawW B52 rfl rfl
      refine h_next hC11 ?_
      refine Zt (i := 6) η (fun w' hC => run_ix (nx51.toNat) rfl Tryz.underlying77 ty_9 η η ω (by show _ < 8; omega) (hrb52.addr (i := nx51.toNat) (by show _ < 8; omega))) hC11 ?_
      have hA54 := hrb52.atD (nx51.toNat) (by show _ < 8; omega)
      refine h_three (i := 7) (j := 9) (p := 11) ζ ?_ ?_ ?_
      ·skip
       refine h_do η ?_
       refine Zo (run_ld1 rfl ag_9 η (hA54.cell 0 η)) ?_
       refine h_next hC11 ?_
       refine h_two (i := 9) (j := 11) ζ ?_ ?_
       ·skip
        refine h_do η ?_
        refine Zr [.pointer _, .int _ _] rfl η Tryz.func38 (nx_calls hb hl ω ω ω) ?_
        rintro e w55 ⟨nx55, rfl, hx55, F55, hn55⟩
        refine ⟨_, rfl, ?_⟩
        have Q55 := F55.size
        replace hV := Z1 hV F55 (.inr (by simp))
        replace hC11 := Z1 hC11 F55 ε
        replace hof := hof.evo F55 (by intro g hg hm; simp at hm; subst hm; have h7 := hobF g hg; have h8 := hof.block hg; omega)
        replace hb := hn55
        clear hn55
        have hAs := hb.at
        refine h_next hC11 ?_
        refine Zt (i := 10) η (fun w' hC => run_bld (pv := [(0, .int _ _), (1, S _), (2, .int _ _)]) (zs := [_, _, _]) (cells := [_, _, _]) rfl ty_32 η pl_32 η η) hC11 ?_
        refine Zh (i := 11) ?_
        have hob56 := fun g hg => (hof.block (g := g) hg).2
        refine r_alloc (zs := [_, _, _]) ty_32 η rfl ?_
        intro b57 w58 J57 E58 B57 Y57
        have Q58 := E58.size
        replace hV := Z0 hV E58
        replace hC11 := Z0 hC11 E58
        replace hl := hl0 _ hV
        replace hof := hof.evo0 E58
        replace hb := hb.evo0 E58
        refine h_next hC11 ?_
        refine hJ9 _ _ _ ζ ⟨_, _, _, _, rfl, rfl, hof, B57, B57.at, hb, hb.at, (rawW_bd _ ω), ⟨by omega, by omega⟩, ω, (fun g hg => by have := hobF g hg; omega), δ, hV, hC11⟩ ?_
        exact ψ
       refine h_do η ?_
       have hob59 := fun g hg => (hof.block (g := g) hg).2
       refine r_alloc (zs := [_, _, _]) ty_32 η rfl ?_
       intro b60 w61 J60 E61 B60 Y60
       have Q61 := E61.size
       replace hV := Z0 hV E61
       replace hC11 := Z0 hC11 E61
       replace hl := hl0 _ hV
       replace hof := hof.evo0 E61
       replace hb := hb.evo0 E61
       replace hAs := hAs.evo0 E61
       replace hrb52 := hrb52.evo0 E61
       refine h_next hC11 ?_
       refine Zh (i := 9) ?_
       refine Zr [.pointer _, .int _ _] rfl η Tryz.func38 (nx_calls hb hl ω ω ω) ?_
       rintro e w62 ⟨nx62, rfl, hx62, F62, hn62⟩
       refine ⟨_, rfl, ?_⟩
       have Q62 := F62.size
       replace hV := Z1 hV F62 (.inr (by simp))
       replace hC11 := Z1 hC11 F62 ε
       replace hl := hl0 _ hV
       replace hof := hof.evo F62 (by intro g hg hm; simp at hm; subst hm; have h7 := hobF g hg; have h8 := hof.block hg; omega)
       replace B60 := B60.evo F62 θ
       replace hb := hn62
       clear hn62
       have hAs := hb.at
       refine h_next hC11 ?_
       refine Zt (i := 10) η (fun w' hC => run_bld (pv := [(0, .int _ _), (1, S _), (2, .int _ _)]) (zs := [_, _, _]) (cells := [_, _, _]) rfl ty_32 η pl_32 η η) hC11 ?_
       refine hJ9 _ _ _ ζ ⟨_, _, _, _, rfl, rfl, hof, B60, B60.at, hb, hb.at, (rawW_bd _ ω), ⟨by omega, by omega⟩, ω, (fun g hg => by have := hobF g hg; omega), δ, hV, hC11⟩ ?_
       exact ψ
      ·skip
       refine h_do η ?_
       refine Zr [.pointer _, .int _ _] rfl η Tryz.func38 (nx_calls hb hl ω ω ω) ?_
       rintro e w63 ⟨nx63, rfl, hx63, F63, hn63⟩
       refine ⟨_, rfl, ?_⟩
       have Q63 := F63.size
       replace hV := Z1 hV F63 (.inr (by simp))
       replace hC11 := Z1 hC11 F63 ε
       replace hof := hof.evo F63 (by intro g hg hm; simp at hm; subst hm; have h7 := hobF g hg; have h8 := hof.block hg; omega)
       replace hA54 := hA54.evo F63 θ
       replace hb := hn63
       clear hn63
       have hAs := hb.at
       refine h_next hC11 ?_
       refine h_two (i := 7) (j := 11) ζ ?_ ?_
       ·skip
        refine h_do η ?_
        refine Zo (run_ld1 rfl ag_9 η (hA54.cell 0 η)) ?_
        refine h_next hC11 ?_
        refine Zt (i := 10) η (fun w' hC => run_bld (pv := [(0, .int _ _), (1, S _), (2, .int _ _)]) (zs := [_, _, _]) (cells := [_, _, _]) rfl ty_32 η pl_32 η η) hC11 ?_
        refine Zh (i := 11) ?_
        have hob64 := fun g hg => (hof.block (g := g) hg).2
        refine r_alloc (zs := [_, _, _]) ty_32 η rfl ?_
        intro b65 w66 J65 E66 B65 Y65
        have Q66 := E66.size
        replace hV := Z0 hV E66
        replace hC11 := Z0 hC11 E66
        replace hl := hl0 _ hV
        replace hof := hof.evo0 E66
        replace hb := hb.evo0 E66
        refine h_next hC11 ?_
        refine hJ9 _ _ _ ζ ⟨_, _, _, _, rfl, rfl, hof, B65, B65.at, hb, hb.at, (rawW_bd _ ω), ⟨by omega, by omega⟩, ω, (fun g hg => by have := hobF g hg; omega), δ, hV, hC11⟩ ?_
        exact ψ
       refine h_do η ?_
       have hob67 := fun g hg => (hof.block (g := g) hg).2
       refine r_alloc (zs := [_, _, _]) ty_32 η rfl ?_
       intro b68 w69 J68 E69 B68 Y68
       have Q69 := E69.size
       replace hV := Z0 hV E69
       replace hC11 := Z0 hC11 E69
       replace hl := hl0 _ hV
       replace hof := hof.evo0 E69
       replace hA54 := hA54.evo0 E69
       replace hb := hb.evo0 E69
       refine h_next hC11 ?_
       refine Zh (i := 7) ?_
       refine Zo (run_ld1 rfl ag_9 η (hA54.cell 0 η)) ?_
       refine h_next hC11 ?_
       refine Zt (i := 10) η (fun w' hC => run_bld (pv := [(0, .int _ _), (1, S _), (2, .int _ _)]) (zs := [_, _, _]) (cells := [_, _, _]) rfl ty_32 η pl_32 η η) hC11 ?_
       refine hJ9 _ _ _ ζ ⟨_, _, _, _, rfl, rfl, hof, B68, B68.at, hb, hb.at, (rawW_bd _ ω), ⟨by omega, by omega⟩, ω, (fun g hg => by have := hobF g hg; omega), δ, hV, hC11⟩ ?_
       exact ψ
      refine h_do η ?_
      have hob70 := fun g hg => (hof.block (g := g) hg).2
      refine r_alloc (zs := [_, _, _]) ty_32 η rfl ?_
      intro b71 w72 J71 E72 B71 Y71
      have Q72 := E72.size
      replace hV := Z0 hV E72
      replace hC11 := Z0 hC11 E72
      replace hl := hl0 _ hV
      replace hof := hof.evo0 E72
      replace hb := hb.evo0 E72
      replace hAs := hAs.evo0 E72
      replace hrb52 := hrb52.evo0 E72
      replace hA54 := hA54.evo0 E72
      refine h_next hC11 ?_
      refine h_two (i := 7) (j := 9) ζ ?_ ?_
      ·skip
       refine h_do η ?_
       refine Zo (run_ld1 rfl ag_9 η (hA54.cell 0 η)) ?_
       refine h_next hC11 ?_
       refine Zh (i := 9) ?_
       refine Zr [.pointer _, .int _ _] rfl η Tryz.func38 (nx_calls hb hl ω ω ω) ?_
       rintro e w73 ⟨nx73, rfl, hx73, F73, hn73⟩
       refine ⟨_, rfl, ?_⟩
       have Q73 := F73.size
       replace hV := Z1 hV F73 (.inr (by simp))
       replace hC11 := Z1 hC11 F73 ε
       replace hl := hl0 _ hV
       replace hof := hof.evo F73 (by intro g hg hm; simp at hm; subst hm; have h7 := hobF g hg; have h8 := hof.block hg; omega)
       replace B71 := B71.evo F73 θ
       replace hb := hn73
       clear hn73
       have hAs := hb.at
       refine h_next hC11 ?_
       refine Zt (i := 10) η (fun w' hC => run_bld (pv := [(0, .int _ _), (1, S _), (2, .int _ _)]) (zs := [_, _, _]) (cells := [_, _, _]) rfl ty_32 η pl_32 η η) hC11 ?_
       refine hJ9 _ _ _ ζ ⟨_, _, _, _, rfl, rfl, hof, B71, B71.at, hb, hb.at, (rawW_bd _ ω), ⟨by omega, by omega⟩, ω, (fun g hg => by have := hobF g hg; omega), δ, hV, hC11⟩ ?_
       exact ψ
      refine h_do η ?_
      refine Zr [.pointer _, .int _ _] rfl η Tryz.func38 (nx_calls hb hl ω ω ω) ?_
      rintro e w74 ⟨nx74, rfl, hx74, F74, hn74⟩
      refine ⟨_, rfl, ?_⟩
      have Q74 := F74.size
      replace hV := Z1 hV F74 (.inr (by simp))
      replace hC11 := Z1 hC11 F74 ε
      replace hl := hl0 _ hV
      replace hof := hof.evo F74 (by intro g hg hm; simp at hm; subst hm; have h7 := hobF g hg; have h8 := hof.block hg; omega)
      replace hA54 := hA54.evo F74 θ
      replace B71 := B71.evo F74 θ
      replace hb := hn74
      clear hn74
      have hAs := hb.at
      refine h_next hC11 ?_
      refine Zh (i := 7) ?_
      refine Zo (run_ld1 rfl ag_9 η (hA54.cell 0 η)) ?_
      refine h_next hC11 ?_
      refine Zt (i := 10) η (fun w' hC => run_bld (pv := [(0, .int _ _), (1, S _), (2, .int _ _)]) (zs := [_, _, _]) (cells := [_, _, _]) rfl ty_32 η pl_32 η η) hC11 ?_
      refine hJ9 _ _ _ ζ ⟨_, _, _, _, rfl, rfl, hof, B71, B71.at, hb, hb.at, (rawW_bd _ ω), ⟨by omega, by omega⟩, ω, (fun g hg => by have := hobF g hg; omega), δ, hV, hC11⟩ ?_
      exact ψ
     ·skip
      refine h_do η ?_
      refine Zr [.pointer _, .int _ _] rfl η Tryz.func38 (nx_calls hb hl ω ω ω) ?_
      rintro e w75 ⟨nx75, rfl, hx75, F75, hn75⟩
      refine ⟨_, rfl, ?_⟩
      have Q75 := F75.size
      replace hV := Z1 hV F75 (.inr (by simp))
      replace hC11 := Z1 hC11 F75 ε
      replace hof := hof.evo F75 (by intro g hg hm; simp at hm; subst hm; have h7 := hobF g hg; have h8 := hof.block hg; omega)
      replace hb := hn75
      clear hn75
      have hAs := hb.at
      refine h_next hC11 ?_
      refine h_two (i := 3) (j := 11) ζ ?_ ?_
      ·skip
       refine h_do η ?_
       refine r_bslice (pv := [(0, S _), (1, S _), (2, S _), (3, S _), (4, S _), (5, S _), (6, S _), (7, S _)]) (zs := [_]) (cs := [_, _, _, _, _, _, _, _]) Tryz.underlying77 ty_9 η rfl η rfl η ?_
       intro b76 w77 J76 E77 B76 Y76
       have Q77 := E77.size
       replace hV := Z0 hV E77
       replace hC11 := Z0 hC11 E77
       replace hof := hof.evo0 E77
       replace hb := hb.evo0 E77
       have hrb76 : RowE w77 (some ⟨b76, 0, none⟩) b76 0 8 rawW := rowLit rawW B76 rfl rfl
       refine h_next hC11 ?_
       refine Zt (i := 6) η (fun w' hC => run_ix (nx51.toNat) rfl Tryz.underlying77 ty_9 η η ω (by show _ < 8; omega) (hrb76.addr (i := nx51.toNat) (by show _ < 8; omega))) hC11 ?_
       have hA78 := hrb76.atD (nx51.toNat) (by show _ < 8; omega)
       refine h_two (i := 7) (j := 11) ζ ?_ ?_
       ·skip
        refine h_do η ?_
        refine Zo (run_ld1 rfl ag_9 η (hA78.cell 0 η)) ?_
        refine h_next hC11 ?_
        refine Zt (i := 10) η (fun w' hC => run_bld (pv := [(0, .int _ _), (1, S _), (2, .int _ _)]) (zs := [_, _, _]) (cells := [_, _, _]) rfl ty_32 η pl_32 η η) hC11 ?_
        refine Zh (i := 11) ?_
        have hob79 := fun g hg => (hof.block (g := g) hg).2
        refine r_alloc (zs := [_, _, _]) ty_32 η rfl ?_
        intro b80 w81 J80 E81 B80 Y80
        have Q81 := E81.size
        replace hV := Z0 hV E81
        replace hC11 := Z0 hC11 E81
        replace hl := hl0 _ hV
        replace hof := hof.evo0 E81
        replace hb := hb.evo0 E81
        replace hrb76 := hrb76.evo0 E81
        refine h_next hC11 ?_
        refine hJ9 _ _ _ ζ ⟨_, _, _, _, rfl, rfl, hof, B80, B80.at, hb, hb.at, (rawW_bd _ ω), ⟨by omega, by omega⟩, ω, (fun g hg => by have := hobF g hg; omega), δ, hV, hC11⟩ ?_
        exact ψ
       refine h_do η ?_
       have hob82 := fun g hg => (hof.block (g := g) hg).2
       refine r_alloc (zs := [_, _, _]) ty_32 η rfl ?_
       intro b83 w84 J83 E84 B83 Y83
       have Q84 := E84.size
       replace hV := Z0 hV E84
       replace hC11 := Z0 hC11 E84
       replace hl := hl0 _ hV
       replace hof := hof.evo0 E84
       replace hb := hb.evo0 E84
       replace hrb76 := hrb76.evo0 E84
       replace hA78 := hA78.evo0 E84
       refine h_next hC11 ?_
       refine Zh (i := 7) ?_
       refine Zo (run_ld1 rfl ag_9 η (hA78.cell 0 η)) ?_
       refine h_next hC11 ?_
       refine Zt (i := 10) η (fun w' hC => run_bld (pv := [(0, .int _ _), (1, S _), (2, .int _ _)]) (zs := [_, _, _]) (cells := [_, _, _]) rfl ty_32 η pl_32 η η) hC11 ?_
       refine hJ9 _ _ _ ζ ⟨_, _, _, _, rfl, rfl, hof, B83, B83.at, hb, hb.at, (rawW_bd _ ω), ⟨by omega, by omega⟩, ω, (fun g hg => by have := hobF g hg; omega), δ, hV, hC11⟩ ?_
       exact ψ
      refine h_do η ?_
      have hob85 := fun g hg => (hof.block (g := g) hg).2
      refine r_alloc (zs := [_, _, _]) ty_32 η rfl ?_
      intro b86 w87 J86 E87 B86 Y86
      have Q87 := E87.size
      replace hV := Z0 hV E87
      replace hC11 := Z0 hC11 E87
      replace hof := hof.evo0 E87
      replace hb := hb.evo0 E87
      refine h_next hC11 ?_
      refine Zh (i := 3) ?_
      refine r_bslice (pv := [(0, S _), (1, S _), (2, S _), (3, S _), (4, S _), (5, S _), (6, S _), (7, S _)]) (zs := [_]) (cs := [_, _, _, _, _, _, _, _]) Tryz.underlying77 ty_9 η rfl η rfl η ?_
      intro b88 w89 J88 E89 B88 Y88
      have Q89 := E89.size
      replace hV := Z0 hV E89
      replace hC11 := Z0 hC11 E89
      replace hl := hl0 _ hV
      replace hof := hof.evo0 E89
      replace hb := hb.evo0 E89
      replace B86 := B86.evo0 E89
      have hrb88 : RowE w89 (some ⟨b88, 0, none⟩) b88 0 8 rawW := rowLit rawW B88 rfl rfl
      refine h_next hC11 ?_
      refine Zt (i := 6) η (fun w' hC => run_ix (nx51.toNat) rfl Tryz.underlying77 ty_9 η η ω (by show _ < 8; omega) (hrb88.addr (i := nx51.toNat) (by show _ < 8; omega))) hC11 ?_
      have hA90 := hrb88.atD (nx51.toNat) (by show _ < 8; omega)
      refine Zh (i := 7) ?_
      refine Zo (run_ld1 rfl ag_9 η (hA90.cell 0 η)) ?_
      refine h_next hC11 ?_
      refine Zt (i := 10) η (fun w' hC => run_bld (pv := [(0, .int _ _), (1, S _), (2, .int _ _)]) (zs := [_, _, _]) (cells := [_, _, _]) rfl ty_32 η pl_32 η η) hC11 ?_
      refine hJ9 _ _ _ ζ ⟨_, _, _, _, rfl, rfl, hof, B86, B86.at, hb, hb.at, (rawW_bd _ ω), ⟨by omega, by omega⟩, ω, (fun g hg => by have := hobF g hg; omega), δ, hV, hC11⟩ ?_
      exact ψ
     refine h_do η ?_
     have hob91 := fun g hg => (hof.block (g := g) hg).2
     refine r_alloc (zs := [_, _, _]) ty_32 η rfl ?_
     intro b92 w93 J92 E93 B92 Y92
     have Q93 := E93.size
     replace hV := Z0 hV E93
     replace hC11 := Z0 hC11 E93
     replace hl := hl0 _ hV
     replace hof := hof.evo0 E93
     replace hb := hb.evo0 E93
     replace hAs := hAs.evo0 E93
     refine h_next hC11 ?_
     refine h_two (i := 3) (j := 9) ζ ?_ ?_
     ·skip
      refine h_do η ?_
      refine r_bslice (pv := [(0, S _), (1, S _), (2, S _), (3, S _), (4, S _), (5, S _), (6, S _), (7, S _)]) (zs := [_]) (cs := [_, _, _, _, _, _, _, _]) Tryz.underlying77 ty_9 η rfl η rfl η ?_
      intro b94 w95 J94 E95 B94 Y94
      have Q95 := E95.size
      replace hV := Z0 hV E95
      replace hC11 := Z0 hC11 E95
      replace hl := hl0 _ hV
      replace hof := hof.evo0 E95
      replace hb := hb.evo0 E95
      replace hAs := hAs.evo0 E95
      replace B92 := B92.evo0 E95
      have hrb94 : RowE w95 (some ⟨b94, 0, none⟩) b94 0 8 rawW := rowLit rawW B94 rfl rfl
      refine h_next hC11 ?_
      refine Zt (i := 6) η (fun w' hC => run_ix (nx51.toNat) rfl Tryz.underlying77 ty_9 η η ω (by show _ < 8; omega) (hrb94.addr (i := nx51.toNat) (by show _ < 8; omega))) hC11 ?_
      have hA96 := hrb94.atD (nx51.toNat) (by show _ < 8; omega)
      refine h_two (i := 7) (j := 9) ζ ?_ ?_
      ·skip
       refine h_do η ?_
       refine Zo (run_ld1 rfl ag_9 η (hA96.cell 0 η)) ?_
       refine h_next hC11 ?_
       refine Zh (i := 9) ?_
       refine Zr [.pointer _, .int _ _] rfl η Tryz.func38 (nx_calls hb hl ω ω ω) ?_
       rintro e w97 ⟨nx97, rfl, hx97, F97, hn97⟩
       refine ⟨_, rfl, ?_⟩
       have Q97 := F97.size
       replace hV := Z1 hV F97 (.inr (by simp))
       replace hC11 := Z1 hC11 F97 ε
       replace hl := hl0 _ hV
       replace hof := hof.evo F97 (by intro g hg hm; simp at hm; subst hm; have h7 := hobF g hg; have h8 := hof.block hg; omega)
       replace B92 := B92.evo F97 θ
       replace hb := hn97
       clear hn97
       have hAs := hb.at
       refine h_next hC11 ?_
       refine Zt (i := 10) η (fun w' hC => run_bld (pv := [(0, .int _ _), (1, S _), (2, .int _ _)]) (zs := [_, _, _]) (cells := [_, _, _]) rfl ty_32 η pl_32 η η) hC11 ?_
       refine hJ9 _ _ _ ζ ⟨_, _, _, _, rfl, rfl, hof, B92, B92.at, hb, hb.at, (rawW_bd _ ω), ⟨by omega, by omega⟩, ω, (fun g hg => by have := hobF g hg; omega), δ, hV, hC11⟩ ?_
       exact ψ
      refine h_do η ?_
      refine Zr [.pointer _, .int _ _] rfl η Tryz.func38 (nx_calls hb hl ω ω ω) ?_
      rintro e w98 ⟨nx98, rfl, hx98, F98, hn98⟩
      refine ⟨_, rfl, ?_⟩
      have Q98 := F98.size
      replace hV := Z1 hV F98 (.inr (by simp))
      replace hC11 := Z1 hC11 F98 ε
      replace hl := hl0 _ hV
      replace hof := hof.evo F98 (by intro g hg hm; simp at hm; subst hm; have h7 := hobF g hg; have h8 := hof.block hg; omega)
      replace B92 := B92.evo F98 θ
      replace hA96 := hA96.evo F98 θ
      replace hb := hn98
      clear hn98
      have hAs := hb.at
      refine h_next hC11 ?_
      refine Zh (i := 7) ?_
      refine Zo (run_ld1 rfl ag_9 η (hA96.cell 0 η)) ?_
      refine h_next hC11 ?_
      refine Zt (i := 10) η (fun w' hC => run_bld (pv := [(0, .int _ _), (1, S _), (2, .int _ _)]) (zs := [_, _, _]) (cells := [_, _, _]) rfl ty_32 η pl_32 η η) hC11 ?_
      refine hJ9 _ _ _ ζ ⟨_, _, _, _, rfl, rfl, hof, B92, B92.at, hb, hb.at, (rawW_bd _ ω), ⟨by omega, by omega⟩, ω, (fun g hg => by have := hobF g hg; omega), δ, hV, hC11⟩ ?_
      exact ψ
     refine h_do η ?_
     refine Zr [.pointer _, .int _ _] rfl η Tryz.func38 (nx_calls hb hl ω ω ω) ?_
     rintro e w99 ⟨nx99, rfl, hx99, F99, hn99⟩
     refine ⟨_, rfl, ?_⟩
     have Q99 := F99.size
     replace hV := Z1 hV F99 (.inr (by simp))
     replace hC11 := Z1 hC11 F99 ε
     replace hof := hof.evo F99 (by intro g hg hm; simp at hm; subst hm; have h7 := hobF g hg; have h8 := hof.block hg; omega)
     replace B92 := B92.evo F99 θ
     replace hb := hn99
     clear hn99
     have hAs := hb.at
     refine h_next hC11 ?_
     refine Zh (i := 3) ?_
     refine r_bslice (pv := [(0, S _), (1, S _), (2, S _), (3, S _), (4, S _), (5, S _), (6, S _), (7, S _)]) (zs := [_]) (cs := [_, _, _, _, _, _, _, _]) Tryz.underlying77 ty_9 η rfl η rfl η ?_
     intro b100 w101 J100 E101 B100 Y100
     have Q101 := E101.size
     replace hV := Z0 hV E101
     replace hC11 := Z0 hC11 E101
     replace hl := hl0 _ hV
     replace hof := hof.evo0 E101
     replace B92 := B92.evo0 E101
     replace hb := hb.evo0 E101
     have hrb100 : RowE w101 (some ⟨b100, 0, none⟩) b100 0 8 rawW := rowLit rawW B100 rfl rfl
     refine h_next hC11 ?_
     refine Zt (i := 6) η (fun w' hC => run_ix (nx51.toNat) rfl Tryz.underlying77 ty_9 η η ω (by show _ < 8; omega) (hrb100.addr (i := nx51.toNat) (by show _ < 8; omega))) hC11 ?_
     have hA102 := hrb100.atD (nx51.toNat) (by show _ < 8; omega)
     refine Zh (i := 7) ?_
     refine Zo (run_ld1 rfl ag_9 η (hA102.cell 0 η)) ?_
     refine h_next hC11 ?_
     refine Zt (i := 10) η (fun w' hC => run_bld (pv := [(0, .int _ _), (1, S _), (2, .int _ _)]) (zs := [_, _, _]) (cells := [_, _, _]) rfl ty_32 η pl_32 η η) hC11 ?_
     refine hJ9 _ _ _ ζ ⟨_, _, _, _, rfl, rfl, hof, B92, B92.at, hb, hb.at, (rawW_bd _ ω), ⟨by omega, by omega⟩, ω, (fun g hg => by have := hobF g hg; omega), δ, hV, hC11⟩ ?_
     exact ψ
    refine h_do η ?_
    have hob103 := fun g hg => (hof.block (g := g) hg).2
    refine r_alloc (zs := [_, _, _]) ty_32 η rfl ?_
    intro b104 w105 J104 E105 B104 Y104
    have Q105 := E105.size
    replace hV := Z0 hV E105
    replace hC11 := Z0 hC11 E105
    replace hl := hl0 _ hV
    replace hof := hof.evo0 E105
    replace hb := hb.evo0 E105
    replace hAs := hAs.evo0 E105
    refine h_next hC11 ?_
    refine h_two (i := 3) (j := 5) ζ ?_ ?_
    ·skip
     refine h_do η ?_
     refine r_bslice (pv := [(0, S _), (1, S _), (2, S _), (3, S _), (4, S _), (5, S _), (6, S _), (7, S _)]) (zs := [_]) (cs := [_, _, _, _, _, _, _, _]) Tryz.underlying77 ty_9 η rfl η rfl η ?_
     intro b106 w107 J106 E107 B106 Y106
     have Q107 := E107.size
     replace hV := Z0 hV E107
     replace hC11 := Z0 hC11 E107
     replace hl := hl0 _ hV
     replace hof := hof.evo0 E107
     replace hb := hb.evo0 E107
     replace hAs := hAs.evo0 E107
     replace B104 := B104.evo0 E107
     have hrb106 : RowE w107 (some ⟨b106, 0, none⟩) b106 0 8 rawW := rowLit rawW B106 rfl rfl
     refine h_next hC11 ?_
     refine Zh (i := 5) ?_
     refine Zr [.pointer _, .int _ _] rfl η Tryz.func38 (nx_calls hb hl ω ω ω) ?_
     rintro e w108 ⟨nx108, rfl, hx108, F108, hn108⟩
     refine ⟨_, rfl, ?_⟩
     have Q108 := F108.size
     replace hV := Z1 hV F108 (.inr (by simp))
     replace hC11 := Z1 hC11 F108 ε
     replace hl := hl0 _ hV
     replace hof := hof.evo F108 (by intro g hg hm; simp at hm; subst hm; have h7 := hobF g hg; have h8 := hof.block hg; omega)
     replace B104 := B104.evo F108 θ
     replace hrb106 := hrb106.evo F108 θ
     replace hb := hn108
     clear hn108
     have hAs := hb.at
     refine h_next hC11 ?_
     refine Zt (i := 6) η (fun w' hC => run_ix (nx108.toNat) rfl Tryz.underlying77 ty_9 η η ω (by show _ < 8; omega) (hrb106.addr (i := nx108.toNat) (by show _ < 8; omega))) hC11 ?_
     have hA109 := hrb106.atD (nx108.toNat) (by show _ < 8; omega)
     refine h_two (i := 7) (j := 9) ζ ?_ ?_
     ·skip
      refine h_do η ?_
      refine Zo (run_ld1 rfl ag_9 η (hA109.cell 0 η)) ?_
      refine h_next hC11 ?_
      refine Zh (i := 9) ?_
      refine Zr [.pointer _, .int _ _] rfl η Tryz.func38 (nx_calls hb hl ω ω ω) ?_
      rintro e w110 ⟨nx110, rfl, hx110, F110, hn110⟩
      refine ⟨_, rfl, ?_⟩
      have Q110 := F110.size
      replace hV := Z1 hV F110 (.inr (by simp))
      replace hC11 := Z1 hC11 F110 ε
      replace hl := hl0 _ hV
      replace hof := hof.evo F110 (by intro g hg hm; simp at hm; subst hm; have h7 := hobF g hg; have h8 := hof.block hg; omega)
      replace B104 := B104.evo F110 θ
      replace hb := hn110
      clear hn110
      have hAs := hb.at
      refine h_next hC11 ?_
      refine Zt (i := 10) η (fun w' hC => run_bld (pv := [(0, .int _ _), (1, S _), (2, .int _ _)]) (zs := [_, _, _]) (cells := [_, _, _]) rfl ty_32 η pl_32 η η) hC11 ?_
      refine hJ9 _ _ _ ζ ⟨_, _, _, _, rfl, rfl, hof, B104, B104.at, hb, hb.at, (rawW_bd _ ω), ⟨by omega, by omega⟩, ω, (fun g hg => by have := hobF g hg; omega), δ, hV, hC11⟩ ?_
      exact ψ
     refine h_do η ?_
     refine Zr [.pointer _, .int _ _] rfl η Tryz.func38 (nx_calls hb hl ω ω ω) ?_
     rintro e w111 ⟨nx111, rfl, hx111, F111, hn111⟩
     refine ⟨_, rfl, ?_⟩
     have Q111 := F111.size
     replace hV := Z1 hV F111 (.inr (by simp))
     replace hC11 := Z1 hC11 F111 ε
     replace hl := hl0 _ hV
     replace hof := hof.evo F111 (by intro g hg hm; simp at hm; subst hm; have h7 := hobF g hg; have h8 := hof.block hg; omega)
     replace B104 := B104.evo F111 θ
     replace hA109 := hA109.evo F111 θ
     replace hb := hn111
     clear hn111
     have hAs := hb.at
     refine h_next hC11 ?_
     refine Zh (i := 7) ?_
     refine Zo (run_ld1 rfl ag_9 η (hA109.cell 0 η)) ?_
     refine h_next hC11 ?_
     refine Zt (i := 10) η (fun w' hC => run_bld (pv := [(0, .int _ _), (1, S _), (2, .int _ _)]) (zs := [_, _, _]) (cells := [_, _, _]) rfl ty_32 η pl_32 η η) hC11 ?_
     refine hJ9 _ _ _ ζ ⟨_, _, _, _, rfl, rfl, hof, B104, B104.at, hb, hb.at, (rawW_bd _ ω), ⟨by omega, by omega⟩, ω, (fun g hg => by have := hobF g hg; omega), δ, hV, hC11⟩ ?_
     exact ψ
    refine h_do η ?_
    refine Zr [.pointer _, .int _ _] rfl η Tryz.func38 (nx_calls hb hl ω ω ω) ?_
    rintro e w112 ⟨nx112, rfl, hx112, F112, hn112⟩
    refine ⟨_, rfl, ?_⟩
    have Q112 := F112.size
    replace hV := Z1 hV F112 (.inr (by simp))
    replace hC11 := Z1 hC11 F112 ε
    replace hl := hl0 _ hV
    replace hof := hof.evo F112 (by intro g hg hm; simp at hm; subst hm; have h7 := hobF g hg; have h8 := hof.block hg; omega)
    replace B104 := B104.evo F112 θ
    replace hb := hn112
    clear hn112
    have hAs := hb.at
    refine h_next hC11 ?_
    refine h_two (i := 3) (j := 9) ζ ?_ ?_
    ·skip
     refine h_do η ?_
     refine r_bslice (pv := [(0, S _), (1, S _), (2, S _), (3, S _), (4, S _), (5, S _), (6, S _), (7, S _)]) (zs := [_]) (cs := [_, _, _, _, _, _, _, _]) Tryz.underlying77 ty_9 η rfl η rfl η ?_
     intro b113 w114 J113 E114 B113 Y113
     have Q114 := E114.size
     replace hV := Z0 hV E114
     replace hC11 := Z0 hC11 E114
     replace hl := hl0 _ hV
     replace hof := hof.evo0 E114
     replace B104 := B104.evo0 E114
     replace hb := hb.evo0 E114
     replace hAs := hAs.evo0 E114
     have hrb113 : RowE w114 (some ⟨b113, 0, none⟩) b113 0 8 rawW := rowLit rawW B113 rfl rfl
     refine h_next hC11 ?_
     refine Zt (i := 6) η (fun w' hC => run_ix (nx112.toNat) rfl Tryz.underlying77 ty_9 η η ω (by show _ < 8; omega) (hrb113.addr (i := nx112.toNat) (by show _ < 8; omega))) hC11 ?_
     have hA115 := hrb113.atD (nx112.toNat) (by show _ < 8; omega)
     refine h_two (i := 7) (j := 9) ζ ?_ ?_
     ·skip
      refine h_do η ?_
      refine Zo (run_ld1 rfl ag_9 η (hA115.cell 0 η)) ?_
      refine h_next hC11 ?_
      refine Zh (i := 9) ?_
      refine Zr [.pointer _, .int _ _] rfl η Tryz.func38 (nx_calls hb hl ω ω ω) ?_
      rintro e w116 ⟨nx116, rfl, hx116, F116, hn116⟩
      refine ⟨_, rfl, ?_⟩
      have Q116 := F116.size
      replace hV := Z1 hV F116 (.inr (by simp))
      replace hC11 := Z1 hC11 F116 ε
      replace hl := hl0 _ hV
      replace hof := hof.evo F116 (by intro g hg hm; simp at hm; subst hm; have h7 := hobF g hg; have h8 := hof.block hg; omega)
      replace B104 := B104.evo F116 θ
      replace hb := hn116
      clear hn116
      have hAs := hb.at
      refine h_next hC11 ?_
      refine Zt (i := 10) η (fun w' hC => run_bld (pv := [(0, .int _ _), (1, S _), (2, .int _ _)]) (zs := [_, _, _]) (cells := [_, _, _]) rfl ty_32 η pl_32 η η) hC11 ?_
      refine hJ9 _ _ _ ζ ⟨_, _, _, _, rfl, rfl, hof, B104, B104.at, hb, hb.at, (rawW_bd _ ω), ⟨by omega, by omega⟩, ω, (fun g hg => by have := hobF g hg; omega), δ, hV, hC11⟩ ?_
      exact ψ
     refine h_do η ?_
     refine Zr [.pointer _, .int _ _] rfl η Tryz.func38 (nx_calls hb hl ω ω ω) ?_
     rintro e w117 ⟨nx117, rfl, hx117, F117, hn117⟩
     refine ⟨_, rfl, ?_⟩
     have Q117 := F117.size
     replace hV := Z1 hV F117 (.inr (by simp))
     replace hC11 := Z1 hC11 F117 ε
     replace hl := hl0 _ hV
     replace hof := hof.evo F117 (by intro g hg hm; simp at hm; subst hm; have h7 := hobF g hg; have h8 := hof.block hg; omega)
     replace B104 := B104.evo F117 θ
     replace hA115 := hA115.evo F117 θ
     replace hb := hn117
     clear hn117
     have hAs := hb.at
     refine h_next hC11 ?_
     refine Zh (i := 7) ?_
     refine Zo (run_ld1 rfl ag_9 η (hA115.cell 0 η)) ?_
     refine h_next hC11 ?_
     refine Zt (i := 10) η (fun w' hC => run_bld (pv := [(0, .int _ _), (1, S _), (2, .int _ _)]) (zs := [_, _, _]) (cells := [_, _, _]) rfl ty_32 η pl_32 η η) hC11 ?_
     refine hJ9 _ _ _ ζ ⟨_, _, _, _, rfl, rfl, hof, B104, B104.at, hb, hb.at, (rawW_bd _ ω), ⟨by omega, by omega⟩, ω, (fun g hg => by have := hobF g hg; omega), δ, hV, hC11⟩ ?_
     exact ψ
    refine h_do η ?_
    refine Zr [.pointer _, .int _ _] rfl η Tryz.func38 (nx_calls hb hl ω ω ω) ?_
    rintro e w118 ⟨nx118, rfl, hx118, F118, hn118⟩
    refine ⟨_, rfl, ?_⟩
    have Q118 := F118.size
    replace hV := Z1 hV F118 (.inr (by simp))
    replace hC11 := Z1 hC11 F118 ε
    replace hof := hof.evo F118 (by intro g hg hm; simp at hm; subst hm; have h7 := hobF g hg; have h8 := hof.block hg; omega)
    replace B104 := B104.evo F118 θ
    replace hb := hn118
    clear hn118
    have hAs := hb.at
    refine h_next hC11 ?_
    refine Zh (i := 3) ?_
    refine r_bslice (pv := [(0, S _), (1, S _), (2, S _), (3, S _), (4, S _), (5, S _), (6, S _), (7, S _)]) (zs := [_]) (cs := [_, _, _, _, _, _, _, _]) Tryz.underlying77 ty_9 η rfl η rfl η ?_
    intro b119 w120 J119 E120 B119 Y119
    have Q120 := E120.size
    replace hV := Z0 hV E120
    replace hC11 := Z0 hC11 E120
    replace hl := hl0 _ hV
    replace hof := hof.evo0 E120
    replace B104 := B104.evo0 E120
    replace hb := hb.evo0 E120
    have hrb119 : RowE w120 (some ⟨b119, 0, none⟩) b119 0 8 rawW := rowLit rawW B119 rfl rfl
    refine h_next hC11 ?_
    refine Zt (i := 6) η (fun w' hC => run_ix (nx112.toNat) rfl Tryz.underlying77 ty_9 η η ω (by show _ < 8; omega) (hrb119.addr (i := nx112.toNat) (by show _ < 8; omega))) hC11 ?_
    have hA121 := hrb119.atD (nx112.toNat) (by show _ < 8; omega)
    refine Zh (i := 7) ?_
    refine Zo (run_ld1 rfl ag_9 η (hA121.cell 0 η)) ?_
    refine h_next hC11 ?_
    refine Zt (i := 10) η (fun w' hC => run_bld (pv := [(0, .int _ _), (1, S _), (2, .int _ _)]) (zs := [_, _, _]) (cells := [_, _, _]) rfl ty_32 η pl_32 η η) hC11 ?_
    refine hJ9 _ _ _ ζ ⟨_, _, _, _, rfl, rfl, hof, B104, B104.at, hb, hb.at, (rawW_bd _ ω), ⟨by omega, by omega⟩, ω, (fun g hg => by have := hobF g hg; omega), δ, hV, hC11⟩ ?_
    exact ψ
   ·skip
    refine h_do η ?_
    refine r_bslice (pv := [(0, S _), (1, S _), (2, S _), (3, S _), (4, S _), (5, S _), (6, S _), (7, S _)]) (zs := [_]) (cs := [_, _, _, _, _, _, _, _]) Tryz.underlying77 ty_9 η rfl η rfl η ?_
    intro b122 w123 J122 E123 B122 Y122
    have Q123 := E123.size
    replace hV := Z0 hV E123
    replace hC11 := Z0 hC11 E123
    replace hl := hl0 _ hV
    replace hof := hof.evo0 E123
    replace hb := hb.evo0 E123
    replace hAs := hAs.evo0 E123
    have hrb122 : RowE w123 (some ⟨b122, 0, none⟩) b122 0 8 rawW := rowLit rawW B122 rfl rfl
    refine h_next hC11 ?_
    refine h_two (i := 1) (j := 11) ζ ?_ ?_
    ·skip
     refine h_do η ?_
     refine Zr [.pointer _, .int _ _] rfl η Tryz.func38 (nx_calls hb hl ω ω ω) ?_
     rintro e w124 ⟨nx124, rfl, hx124, F124, hn124⟩
     refine ⟨_, rfl, ?_⟩
     have Q124 := F124.size
     replace hV := Z1 hV F124 (.inr (by simp))
     replace hC11 := Z1 hC11 F124 ε
     replace hl := hl0 _ hV
     replace hof := hof.evo F124 (by intro g hg hm; simp at hm; subst hm; have h7 := hobF g hg; have h8 := hof.block hg; omega)
     replace hrb122 := hrb122.evo F124 θ
     replace hb := hn124
     clear hn124
     have hAs := hb.at
     refine h_next hC11 ?_
     refine Zt (i := 2) η (fun w' hC => run_sub rfl η η ω ω) hC11 ?_
     refine h_two (i := 5) (j := 11) ζ ?_ ?_
     ·skip
      refine h_do η ?_
      refine Zr [.pointer _, .int _ _] rfl η Tryz.func38 (nx_calls hb hl ω ω ω) ?_
      rintro e w125 ⟨nx125, rfl, hx125, F125, hn125⟩
      refine ⟨_, rfl, ?_⟩
      have Q125 := F125.size
      replace hV := Z1 hV F125 (.inr (by simp))
      replace hC11 := Z1 hC11 F125 ε
      replace hl := hl0 _ hV
      replace hof := hof.evo F125 (by intro g hg hm; simp at hm; subst hm; have h7 := hobF g hg; have h8 := hof.block hg; omega)
      replace hrb122 := hrb122.evo F125 θ
      replace hb := hn125
      clear hn125
      have hAs := hb.at
      refine h_next hC11 ?_
      refine Zt (i := 6) η (fun w' hC => run_ix (nx125.toNat) rfl Tryz.underlying77 ty_9 η η ω (by show _ < 8; omega) (hrb122.addr (i := nx125.toNat) (by show _ < 8; omega))) hC11 ?_
      have hA126 := hrb122.atD (nx125.toNat) (by show _ < 8; omega)
      refine h_three (i := 7) (j := 9) (p := 11) ζ ?_ ?_ ?_
      ·skip
       refine h_do η ?_
       refine Zo (run_ld1 rfl ag_9 η (hA126.cell 0 η)) ?_
       refine h_next hC11 ?_
       refine h_two (i := 9) (j := 11) ζ ?_ ?_
       ·skip
        refine h_do η ?_
        refine Zr [.pointer _, .int _ _] rfl η Tryz.func38 (nx_calls hb hl ω ω ω) ?_
        rintro e w127 ⟨nx127, rfl, hx127, F127, hn127⟩
        refine ⟨_, rfl, ?_⟩
        have Q127 := F127.size
        replace hV := Z1 hV F127 (.inr (by simp))
        replace hC11 := Z1 hC11 F127 ε
        replace hof := hof.evo F127 (by intro g hg hm; simp at hm; subst hm; have h7 := hobF g hg; have h8 := hof.block hg; omega)
        replace hb := hn127
        clear hn127
        have hAs := hb.at
        refine h_next hC11 ?_
        refine Zt (i := 10) η (fun w' hC => run_bld (pv := [(0, .int _ _), (1, S _), (2, .int _ _)]) (zs := [_, _, _]) (cells := [_, _, _]) rfl ty_32 η pl_32 η η) hC11 ?_
        refine Zh (i := 11) ?_
        have hob128 := fun g hg => (hof.block (g := g) hg).2
        refine r_alloc (zs := [_, _, _]) ty_32 η rfl ?_
        intro b129 w130 J129 E130 B129 Y129
        have Q130 := E130.size
        replace hV := Z0 hV E130
        replace hC11 := Z0 hC11 E130
        replace hl := hl0 _ hV
        replace hof := hof.evo0 E130
        replace hb := hb.evo0 E130
        refine h_next hC11 ?_
        refine hJ9 _ _ _ ζ ⟨_, _, _, _, rfl, rfl, hof, B129, B129.at, hb, hb.at, (rawW_bd _ ω), ⟨by omega, by omega⟩, ω, (fun g hg => by have := hobF g hg; omega), δ, hV, hC11⟩ ?_
        exact ψ
       refine h_do η ?_
       have hob131 := fun g hg => (hof.block (g := g) hg).2
       refine r_alloc (zs := [_, _, _]) ty_32 η rfl ?_
       intro b132 w133 J132 E133 B132 Y132
       have Q133 := E133.size
       replace hV := Z0 hV E133
       replace hC11 := Z0 hC11 E133
       replace hl := hl0 _ hV
       replace hof := hof.evo0 E133
       replace hrb122 := hrb122.evo0 E133
       replace hb := hb.evo0 E133
       replace hAs := hAs.evo0 E133
       refine h_next hC11 ?_
       refine Zh (i := 9) ?_
       refine Zr [.pointer _, .int _ _] rfl η Tryz.func38 (nx_calls hb hl ω ω ω) ?_
       rintro e w134 ⟨nx134, rfl, hx134, F134, hn134⟩
       refine ⟨_, rfl, ?_⟩
       have Q134 := F134.size
       replace hV := Z1 hV F134 (.inr (by simp))
       replace hC11 := Z1 hC11 F134 ε
       replace hl := hl0 _ hV
       replace hof := hof.evo F134 (by intro g hg hm; simp at hm; subst hm; have h7 := hobF g hg; have h8 := hof.block hg; omega)
       replace B132 := B132.evo F134 θ
       replace hb := hn134
       clear hn134
       have hAs := hb.at
       refine h_next hC11 ?_
       refine Zt (i := 10) η (fun w' hC => run_bld (pv := [(0, .int _ _), (1, S _), (2, .int _ _)]) (zs := [_, _, _]) (cells := [_, _, _]) rfl ty_32 η pl_32 η η) hC11 ?_
       refine hJ9 _ _ _ ζ ⟨_, _, _, _, rfl, rfl, hof, B132, B132.at, hb, hb.at, (rawW_bd _ ω), ⟨by omega, by omega⟩, ω, (fun g hg => by have := hobF g hg; omega), δ, hV, hC11⟩ ?_
       exact ψ
      ·skip
       refine h_do η ?_
       refine Zr [.pointer _, .int _ _] rfl η Tryz.func38 (nx_calls hb hl ω ω ω) ?_
       rintro e w135 ⟨nx135, rfl, hx135, F135, hn135⟩
       refine ⟨_, rfl, ?_⟩
       have Q135 := F135.size
       replace hV := Z1 hV F135 (.inr (by simp))
       replace hC11 := Z1 hC11 F135 ε
       replace hof := hof.evo F135 (by intro g hg hm; simp at hm; subst hm; have h7 := hobF g hg; have h8 := hof.block hg; omega)
       replace hA126 := hA126.evo F135 θ
       replace hb := hn135
       clear hn135
       have hAs := hb.at
       refine h_next hC11 ?_
       refine h_two (i := 7) (j := 11) ζ ?_ ?_
       ·skip
        refine h_do η ?_
        refine Zo (run_ld1 rfl ag_9 η (hA126.cell 0 η)) ?_
        refine h_next hC11 ?_
        refine Zt (i := 10) η (fun w' hC => run_bld (pv := [(0, .int _ _), (1, S _), (2, .int _ _)]) (zs := [_, _, _]) (cells := [_, _, _]) rfl ty_32 η pl_32 η η) hC11 ?_
        refine Zh (i := 11) ?_
        have hob136 := fun g hg => (hof.block (g := g) hg).2
        refine r_alloc (zs := [_, _, _]) ty_32 η rfl ?_
        intro b137 w138 J137 E138 B137 Y137
        have Q138 := E138.size
        replace hV := Z0 hV E138
        replace hC11 := Z0 hC11 E138
        replace hl := hl0 _ hV
        replace hof := hof.evo0 E138
        replace hb := hb.evo0 E138
        refine h_next hC11 ?_
        refine hJ9 _ _ _ ζ ⟨_, _, _, _, rfl, rfl, hof, B137, B137.at, hb, hb.at, (rawW_bd _ ω), ⟨by omega, by omega⟩, ω, (fun g hg => by have := hobF g hg; omega), δ, hV, hC11⟩ ?_
        exact ψ
       refine h_do η ?_
       have hob139 := fun g hg => (hof.block (g := g) hg).2
       refine r_alloc (zs := [_, _, _]) ty_32 η rfl ?_
       intro b140 w141 J140 E141 B140 Y140
       have Q141 := E141.size
       replace hV := Z0 hV E141
       replace hC11 := Z0 hC11 E141
       replace hl := hl0 _ hV
       replace hof := hof.evo0 E141
       replace hA126 := hA126.evo0 E141
       replace hb := hb.evo0 E141
       refine h_next hC11 ?_
       refine Zh (i := 7) ?_
       refine Zo (run_ld1 rfl ag_9 η (hA126.cell 0 η)) ?_
       refine h_next hC11 ?_
       refine Zt (i := 10) η (fun w' hC => run_bld (pv := [(0, .int _ _), (1, S _), (2, .int _ _)]) (zs := [_, _, _]) (cells := [_, _, _]) rfl ty_32 η pl_32 η η) hC11 ?_
       refine hJ9 _ _ _ ζ ⟨_, _, _, _, rfl, rfl, hof, B140, B140.at, hb, hb.at, (rawW_bd _ ω), ⟨by omega, by omega⟩, ω, (fun g hg => by have := hobF g hg; omega), δ, hV, hC11⟩ ?_
       exact ψ
      refine h_do η ?_
      have hob142 := fun g hg => (hof.block (g := g) hg).2
      refine r_alloc (zs := [_, _, _]) ty_32 η rfl ?_
      intro b143 w144 J143 E144 B143 Y143
      have Q144 := E144.size
      replace hV := Z0 hV E144
      replace hC11 := Z0 hC11 E144
      replace hl := hl0 _ hV
      replace hof := hof.evo0 E144
      replace hrb122 := hrb122.evo0 E144
      replace hb := hb.evo0 E144
      replace hAs := hAs.evo0 E144
      replace hA126 := hA126.evo0 E144
      refine h_next hC11 ?_
      refine h_two (i := 7) (j := 9) ζ ?_ ?_
      ·skip
       refine h_do η ?_
       refine Zo (run_ld1 rfl ag_9 η (hA126.cell 0 η)) ?_
       refine h_next hC11 ?_
       refine Zh (i := 9) ?_
       refine Zr [.pointer _, .int _ _] rfl η Tryz.func38 (nx_calls hb hl ω ω ω) ?_
       rintro e w145 ⟨nx145, rfl, hx145, F145, hn145⟩
       refine ⟨_, rfl, ?_⟩
       have Q145 := F145.size
       replace hV := Z1 hV F145 (.inr (by simp))
       replace hC11 := Z1 hC11 F145 ε
       replace hl := hl0 _ hV
       replace hof := hof.evo F145 (by intro g hg hm; simp at hm; subst hm; have h7 := hobF g hg; have h8 := hof.block hg; omega)
       replace B143 := B143.evo F145 θ
       replace hb := hn145
       clear hn145
       have hAs := hb.at
       refine h_next hC11 ?_
       refine Zt (i := 10) η (fun w' hC => run_bld (pv := [(0, .int _ _), (1, S _), (2, .int _ _)]) (zs := [_, _, _]) (cells := [_, _, _]) rfl ty_32 η pl_32 η η) hC11 ?_
       refine hJ9 _ _ _ ζ ⟨_, _, _, _, rfl, rfl, hof, B143, B143.at, hb, hb.at, (rawW_bd _ ω), ⟨by omega, by omega⟩, ω, (fun g hg => by have := hobF g hg; omega), δ, hV, hC11⟩ ?_
       exact ψ
      refine h_do η ?_
      refine Zr [.pointer _, .int _ _] rfl η Tryz.func38 (nx_calls hb hl ω ω ω) ?_
      rintro e w146 ⟨nx146, rfl, hx146, F146, hn146⟩
      refine ⟨_, rfl, ?_⟩
      have Q146 := F146.size
      replace hV := Z1 hV F146 (.inr (by simp))
      replace hC11 := Z1 hC11 F146 ε
      replace hl := hl0 _ hV
      replace hof := hof.evo F146 (by intro g hg hm; simp at hm; subst hm; have h7 := hobF g hg; have h8 := hof.block hg; omega)
      replace hA126 := hA126.evo F146 θ
      replace B143 := B143.evo F146 θ
      replace hb := hn146
      clear hn146
      have hAs := hb.at
      refine h_next hC11 ?_
      refine Zh (i := 7) ?_
      refine Zo (run_ld1 rfl ag_9 η (hA126.cell 0 η)) ?_
      refine h_next hC11 ?_
      refine Zt (i := 10) η (fun w' hC => run_bld (pv := [(0, .int _ _), (1, S _), (2, .int _ _)]) (zs := [_, _, _]) (cells := [_, _, _]) rfl ty_32 η pl_32 η η) hC11 ?_
      refine hJ9 _ _ _ ζ ⟨_, _, _, _, rfl, rfl, hof, B143, B143.at, hb, hb.at, (rawW_bd _ ω), ⟨by omega, by omega⟩, ω, (fun g hg => by have := hobF g hg; omega), δ, hV, hC11⟩ ?_
      exact ψ
     refine h_do η ?_
     have hob147 := fun g hg => (hof.block (g := g) hg).2
     refine r_alloc (zs := [_, _, _]) ty_32 η rfl ?_
     intro b148 w149 J148 E149 B148 Y148
     have Q149 := E149.size
     replace hV := Z0 hV E149
     replace hC11 := Z0 hC11 E149
     replace hl := hl0 _ hV
     replace hof := hof.evo0 E149
     replace hrb122 := hrb122.evo0 E149
     replace hb := hb.evo0 E149
     replace hAs := hAs.evo0 E149
     refine h_next hC11 ?_
     refine Zh (i := 5) ?_
     refine Zr [.pointer _, .int _ _] rfl η Tryz.func38 (nx_calls hb hl ω ω ω) ?_
     rintro e w150 ⟨nx150, rfl, hx150, F150, hn150⟩
     refine ⟨_, rfl, ?_⟩
     have Q150 := F150.size
     replace hV := Z1 hV F150 (.inr (by simp))
     replace hC11 := Z1 hC11 F150 ε
     replace hl := hl0 _ hV
     replace hof := hof.evo F150 (by intro g hg hm; simp at hm; subst hm; have h7 := hobF g hg; have h8 := hof.block hg; omega)
     replace hrb122 := hrb122.evo F150 θ
     replace B148 := B148.evo F150 θ
     replace hb := hn150
     clear hn150
     have hAs := hb.at
     refine h_next hC11 ?_
     refine Zt (i := 6) η (fun w' hC => run_ix (nx150.toNat) rfl Tryz.underlying77 ty_9 η η ω (by show _ < 8; omega) (hrb122.addr (i := nx150.toNat) (by show _ < 8; omega))) hC11 ?_
     have hA151 := hrb122.atD (nx150.toNat) (by show _ < 8; omega)
     refine h_two (i := 7) (j := 9) ζ ?_ ?_
     ·skip
      refine h_do η ?_
      refine Zo (run_ld1 rfl ag_9 η (hA151.cell 0 η)) ?_
      refine h_next hC11 ?_
      refine Zh (i := 9) ?_
      refine Zr [.pointer _, .int _ _] rfl η Tryz.func38 (nx_calls hb hl ω ω ω) ?_
      rintro e w152 ⟨nx152, rfl, hx152, F152, hn152⟩
      refine ⟨_, rfl, ?_⟩
      have Q152 := F152.size
      replace hV := Z1 hV F152 (.inr (by simp))
      replace hC11 := Z1 hC11 F152 ε
      replace hl := hl0 _ hV
      replace hof := hof.evo F152 (by intro g hg hm; simp at hm; subst hm; have h7 := hobF g hg; have h8 := hof.block hg; omega)
      replace B148 := B148.evo F152 θ
      replace hb := hn152
      clear hn152
      have hAs := hb.at
      refine h_next hC11 ?_
      refine Zt (i := 10) η (fun w' hC => run_bld (pv := [(0, .int _ _), (1, S _), (2, .int _ _)]) (zs := [_, _, _]) (cells := [_, _, _]) rfl ty_32 η pl_32 η η) hC11 ?_
      refine hJ9 _ _ _ ζ ⟨_, _, _, _, rfl, rfl, hof, B148, B148.at, hb, hb.at, (rawW_bd _ ω), ⟨by omega, by omega⟩, ω, (fun g hg => by have := hobF g hg; omega), δ, hV, hC11⟩ ?_
      exact ψ
     refine h_do η ?_
     refine Zr [.pointer _, .int _ _] rfl η Tryz.func38 (nx_calls hb hl ω ω ω) ?_
     rintro e w153 ⟨nx153, rfl, hx153, F153, hn153⟩
     refine ⟨_, rfl, ?_⟩
     have Q153 := F153.size
     replace hV := Z1 hV F153 (.inr (by simp))
     replace hC11 := Z1 hC11 F153 ε
     replace hl := hl0 _ hV
     replace hof := hof.evo F153 (by intro g hg hm; simp at hm; subst hm; have h7 := hobF g hg; have h8 := hof.block hg; omega)
     replace B148 := B148.evo F153 θ
     replace hA151 := hA151.evo F153 θ
     replace hb := hn153
     clear hn153
     have hAs := hb.at
     refine h_next hC11 ?_
     refine Zh (i := 7) ?_
     refine Zo (run_ld1 rfl ag_9 η (hA151.cell 0 η)) ?_
     refine h_next hC11 ?_
     refine Zt (i := 10) η (fun w' hC => run_bld (pv := [(0, .int _ _), (1, S _), (2, .int _ _)]) (zs := [_, _, _]) (cells := [_, _, _]) rfl ty_32 η pl_32 η η) hC11 ?_
     refine hJ9 _ _ _ ζ ⟨_, _, _, _, rfl, rfl, hof, B148, B148.at, hb, hb.at, (rawW_bd _ ω), ⟨by omega, by omega⟩, ω, (fun g hg => by have := hobF g hg; omega), δ, hV, hC11⟩ ?_
     exact ψ
    refine h_do η ?_
    have hob154 := fun g hg => (hof.block (g := g) hg).2
    refine r_alloc (zs := [_, _, _]) ty_32 η rfl ?_
    intro b155 w156 J155 E156 B155 Y155
    have Q156 := E156.size
    replace hV := Z0 hV E156
    replace hC11 := Z0 hC11 E156
    replace hl := hl0 _ hV
    replace hof := hof.evo0 E156
    replace hb := hb.evo0 E156
    replace hAs := hAs.evo0 E156
    replace hrb122 := hrb122.evo0 E156
    refine h_next hC11 ?_
    refine Zh (i := 1) ?_
    refine Zr [.pointer _, .int _ _] rfl η Tryz.func38 (nx_calls hb hl ω ω ω) ?_
    rintro e w157 ⟨nx157, rfl, hx157, F157, hn157⟩
    refine ⟨_, rfl, ?_⟩
    have Q157 := F157.size
    replace hV := Z1 hV F157 (.inr (by simp))
    replace hC11 := Z1 hC11 F157 ε
    replace hl := hl0 _ hV
    replace hof := hof.evo F157 (by intro g hg hm; simp at hm; subst hm; have h7 := hobF g hg; have h8 := hof.block hg; omega)
    replace hrb122 := hrb122.evo F157 θ
    replace B155 := B155.evo F157 θ
    replace hb := hn157
    clear hn157
    have hAs := hb.at
    refine h_next hC11 ?_
    refine Zt (i := 2) η (fun w' hC => run_sub rfl η η ω ω) hC11 ?_
    refine Zh (i := 5) ?_
    refine Zr [.pointer _, .int _ _] rfl η Tryz.func38 (nx_calls hb hl ω ω ω) ?_
    rintro e w158 ⟨nx158, rfl, hx158, F158, hn158⟩
    refine ⟨_, rfl, ?_⟩
    have Q158 := F158.size
    replace hV := Z1 hV F158 (.inr (by simp))
    replace hC11 := Z1 hC11 F158 ε
    replace hl := hl0 _ hV
    replace hof := hof.evo F158 (by intro g hg hm; simp at hm; subst hm; have h7 := hobF g hg; have h8 := hof.block hg; omega)
    replace hrb122 := hrb122.evo F158 θ
    replace B155 := B155.evo F158 θ
    replace hb := hn158
    clear hn158
    have hAs := hb.at
    refine h_next hC11 ?_
    refine Zt (i := 6) η (fun w' hC => run_ix (nx158.toNat) rfl Tryz.underlying77 ty_9 η η ω (by show _ < 8; omega) (hrb122.addr (i := nx158.toNat) (by show _ < 8; omega))) hC11 ?_
    have hA159 := hrb122.atD (nx158.toNat) (by show _ < 8; omega)
    refine h_two (i := 7) (j := 9) ζ ?_ ?_
    ·skip
     refine h_do η ?_
     refine Zo (run_ld1 rfl ag_9 η (hA159.cell 0 η)) ?_
     refine h_next hC11 ?_
     refine Zh (i := 9) ?_
     refine Zr [.pointer _, .int _ _] rfl η Tryz.func38 (nx_calls hb hl ω ω ω) ?_
     rintro e w160 ⟨nx160, rfl, hx160, F160, hn160⟩
     refine ⟨_, rfl, ?_⟩
     have Q160 := F160.size
     replace hV := Z1 hV F160 (.inr (by simp))
     replace hC11 := Z1 hC11 F160 ε
     replace hl := hl0 _ hV
     replace hof := hof.evo F160 (by intro g hg hm; simp at hm; subst hm; have h7 := hobF g hg; have h8 := hof.block hg; omega)
     replace B155 := B155.evo F160 θ
     replace hb := hn160
     clear hn160
     have hAs := hb.at
     refine h_next hC11 ?_
     refine Zt (i := 10) η (fun w' hC => run_bld (pv := [(0, .int _ _), (1, S _), (2, .int _ _)]) (zs := [_, _, _]) (cells := [_, _, _]) rfl ty_32 η pl_32 η η) hC11 ?_
     refine hJ9 _ _ _ ζ ⟨_, _, _, _, rfl, rfl, hof, B155, B155.at, hb, hb.at, (rawW_bd _ ω), ⟨by omega, by omega⟩, ω, (fun g hg => by have := hobF g hg; omega), δ, hV, hC11⟩ ?_
     exact ψ
    refine h_do η ?_
    refine Zr [.pointer _, .int _ _] rfl η Tryz.func38 (nx_calls hb hl ω ω ω) ?_
    rintro e w161 ⟨nx161, rfl, hx161, F161, hn161⟩
    refine ⟨_, rfl, ?_⟩
    have Q161 := F161.size
    replace hV := Z1 hV F161 (.inr (by simp))
    replace hC11 := Z1 hC11 F161 ε
    replace hl := hl0 _ hV
    replace hof := hof.evo F161 (by intro g hg hm; simp at hm; subst hm; have h7 := hobF g hg; have h8 := hof.block hg; omega)
    replace B155 := B155.evo F161 θ
    replace hA159 := hA159.evo F161 θ
    replace hb := hn161
    clear hn161
    have hAs := hb.at
    refine h_next hC11 ?_
    refine Zh (i := 7) ?_
    refine Zo (run_ld1 rfl ag_9 η (hA159.cell 0 η)) ?_
    refine h_next hC11 ?_
    refine Zt (i := 10) η (fun w' hC => run_bld (pv := [(0, .int _ _), (1, S _), (2, .int _ _)]) (zs := [_, _, _]) (cells := [_, _, _]) rfl ty_32 η pl_32 η η) hC11 ?_
    refine hJ9 _ _ _ ζ ⟨_, _, _, _, rfl, rfl, hof, B155, B155.at, hb, hb.at, (rawW_bd _ ω), ⟨by omega, by omega⟩, ω, (fun g hg => by have := hobF g hg; omega), δ, hV, hC11⟩ ?_
    exact ψ
   refine h_do η ?_
   have hob162 := fun g hg => (hof.block (g := g) hg).2
   refine r_alloc (zs := [_, _, _]) ty_32 η rfl ?_
   intro b163 w164 J163 E164 B163 Y163
   have Q164 := E164.size
   replace hV := Z0 hV E164
   replace hC11 := Z0 hC11 E164
   replace hl := hl0 _ hV
   replace hof := hof.evo0 E164
   replace hb := hb.evo0 E164
   replace hAs := hAs.evo0 E164
   refine h_next hC11 ?_
   refine h_two (i := 1) (j := 3) ζ ?_ ?_
   ·skip
    refine h_do η ?_
    refine Zr [.pointer _, .int _ _] rfl η Tryz.func38 (nx_calls hb hl ω ω ω) ?_
    rintro e w165 ⟨nx165, rfl, hx165, F165, hn165⟩
    refine ⟨_, rfl, ?_⟩
    have Q165 := F165.size
    replace hV := Z1 hV F165 (.inr (by simp))
    replace hC11 := Z1 hC11 F165 ε
    replace hl := hl0 _ hV
    replace hof := hof.evo F165 (by intro g hg hm; simp at hm; subst hm; have h7 := hobF g hg; have h8 := hof.block hg; omega)
    replace B163 := B163.evo F165 θ
    replace hb := hn165
    clear hn165
    have hAs := hb.at
    refine h_next hC11 ?_
    refine Zt (i := 2) η (fun w' hC => run_sub rfl η η ω ω) hC11 ?_
    refine h_two (i := 3) (j := 5) ζ ?_ ?_
    ·skip
     refine h_do η ?_
     refine r_bslice (pv := [(0, S _), (1, S _), (2, S _), (3, S _), (4, S _), (5, S _), (6, S _), (7, S _)]) (zs := [_]) (cs := [_, _, _, _, _, _, _, _]) Tryz.underlying77 ty_9 η rfl η rfl η ?_
     intro b166 w167 J166 E167 B166 Y166
     have Q167 := E167.size
     replace hV := Z0 hV E167
     replace hC11 := Z0 hC11 E167
     replace hl := hl0 _ hV
     replace hof := hof.evo0 E167
     replace B163 := B163.evo0 E167
     replace hb := hb.evo0 E167
     replace hAs := hAs.evo0 E167
     have hrb166 : RowE w167 (some ⟨b166, 0, none⟩) b166 0 8 rawW := rowLit rawW B166 rfl rfl
     refine h_next hC11 ?_
     refine Zh (i := 5) ?_
     refine Zr [.pointer _, .int _ _] rfl η Tryz.func38 (nx_calls hb hl ω ω ω) ?_
     rintro e w168 ⟨nx168, rfl, hx168, F168, hn168⟩
     refine ⟨_, rfl, ?_⟩
     have Q168 := F168.size
     replace hV := Z1 hV F168 (.inr (by simp))
     replace hC11 := Z1 hC11 F168 ε
     replace hl := hl0 _ hV
     replace hof := hof.evo F168 (by intro g hg hm; simp at hm; subst hm; have h7 := hobF g hg; have h8 := hof.block hg; omega)
     replace B163 := B163.evo F168 θ
     replace hrb166 := hrb166.evo F168 θ
     replace hb := hn168
     clear hn168
     have hAs := hb.at
     refine h_next hC11 ?_
     refine Zt (i := 6) η (fun w' hC => run_ix (nx168.toNat) rfl Tryz.underlying77 ty_9 η η ω (by show _ < 8; omega) (hrb166.addr (i := nx168.toNat) (by show _ < 8; omega))) hC11 ?_
     have hA169 := hrb166.atD (nx168.toNat) (by show _ < 8; omega)
     refine h_two (i := 7) (j := 9) ζ ?_ ?_
     ·skip
      refine h_do η ?_
      refine Zo (run_ld1 rfl ag_9 η (hA169.cell 0 η)) ?_
      refine h_next hC11 ?_
      refine Zh (i := 9) ?_
      refine Zr [.pointer _, .int _ _] rfl η Tryz.func38 (nx_calls hb hl ω ω ω) ?_
      rintro e w170 ⟨nx170, rfl, hx170, F170, hn170⟩
      refine ⟨_, rfl, ?_⟩
      have Q170 := F170.size
      replace hV := Z1 hV F170 (.inr (by simp))
      replace hC11 := Z1 hC11 F170 ε
      replace hl := hl0 _ hV
      replace hof := hof.evo F170 (by intro g hg hm; simp at hm; subst hm; have h7 := hobF g hg; have h8 := hof.block hg; omega)
      replace B163 := B163.evo F170 θ
      replace hb := hn170
      clear hn170
      have hAs := hb.at
      refine h_next hC11 ?_
      refine Zt (i := 10) η (fun w' hC => run_bld (pv := [(0, .int _ _), (1, S _), (2, .int _ _)]) (zs := [_, _, _]) (cells := [_, _, _]) rfl ty_32 η pl_32 η η) hC11 ?_
      refine hJ9 _ _ _ ζ ⟨_, _, _, _, rfl, rfl, hof, B163, B163.at, hb, hb.at, (rawW_bd _ ω), ⟨by omega, by omega⟩, ω, (fun g hg => by have := hobF g hg; omega), δ, hV, hC11⟩ ?_
      exact ψ
     refine h_do η ?_
     refine Zr [.pointer _, .int _ _] rfl η Tryz.func38 (nx_calls hb hl ω ω ω) ?_
     rintro e w171 ⟨nx171, rfl, hx171, F171, hn171⟩
     refine ⟨_, rfl, ?_⟩
     have Q171 := F171.size
     replace hV := Z1 hV F171 (.inr (by simp))
     replace hC11 := Z1 hC11 F171 ε
     replace hl := hl0 _ hV
     replace hof := hof.evo F171 (by intro g hg hm; simp at hm; subst hm; have h7 := hobF g hg; have h8 := hof.block hg; omega)
     replace B163 := B163.evo F171 θ
     replace hA169 := hA169.evo F171 θ
     replace hb := hn171
     clear hn171
     have hAs := hb.at
     refine h_next hC11 ?_
     refine Zh (i := 7) ?_
     refine Zo (run_ld1 rfl ag_9 η (hA169.cell 0 η)) ?_
     refine h_next hC11 ?_
     refine Zt (i := 10) η (fun w' hC => run_bld (pv := [(0, .int _ _), (1, S _), (2, .int _ _)]) (zs := [_, _, _]) (cells := [_, _, _]) rfl ty_32 η pl_32 η η) hC11 ?_
     refine hJ9 _ _ _ ζ ⟨_, _, _, _, rfl, rfl, hof, B163, B163.at, hb, hb.at, (rawW_bd _ ω), ⟨by omega, by omega⟩, ω, (fun g hg => by have := hobF g hg; omega), δ, hV, hC11⟩ ?_
     exact ψ
    refine h_do η ?_
    refine Zr [.pointer _, .int _ _] rfl η Tryz.func38 (nx_calls hb hl ω ω ω) ?_
    rintro e w172 ⟨nx172, rfl, hx172, F172, hn172⟩
    refine ⟨_, rfl, ?_⟩
    have Q172 := F172.size
    replace hV := Z1 hV F172 (.inr (by simp))
    replace hC11 := Z1 hC11 F172 ε
    replace hl := hl0 _ hV
    replace hof := hof.evo F172 (by intro g hg hm; simp at hm; subst hm; have h7 := hobF g hg; have h8 := hof.block hg; omega)
    replace B163 := B163.evo F172 θ
    replace hb := hn172
    clear hn172
    have hAs := hb.at
    refine h_next hC11 ?_
    refine h_two (i := 3) (j := 9) ζ ?_ ?_
    ·skip
     refine h_do η ?_
     refine r_bslice (pv := [(0, S _), (1, S _), (2, S _), (3, S _), (4, S _), (5, S _), (6, S _), (7, S _)]) (zs := [_]) (cs := [_, _, _, _, _, _, _, _]) Tryz.underlying77 ty_9 η rfl η rfl η ?_
     intro b173 w174 J173 E174 B173 Y173
     have Q174 := E174.size
     replace hV := Z0 hV E174
     replace hC11 := Z0 hC11 E174
     replace hl := hl0 _ hV
     replace hof := hof.evo0 E174
     replace B163 := B163.evo0 E174
     replace hb := hb.evo0 E174
     replace hAs := hAs.evo0 E174
     have hrb173 : RowE w174 (some ⟨b173, 0, none⟩) b173 0 8 rawW := rowLit rawW B173 rfl rfl
     refine h_next hC11 ?_
     refine Zt (i := 6) η (fun w' hC => run_ix (nx172.toNat) rfl Tryz.underlying77 ty_9 η η ω (by show _ < 8; omega) (hrb173.addr (i := nx172.toNat) (by show _ < 8; omega))) hC11 ?_
     have hA175 := hrb173.atD (nx172.toNat) (by show _ < 8; omega)
     refine h_two (i := 7) (j := 9) ζ ?_ ?_
     ·skip
      refine h_do η ?_
      refine Zo (run_ld1 rfl ag_9 η (hA175.cell 0 η)) ?_
      refine h_next hC11 ?_
      refine Zh (i := 9) ?_
      refine Zr [.pointer _, .int _ _] rfl η Tryz.func38 (nx_calls hb hl ω ω ω) ?_
      rintro e w176 ⟨nx176, rfl, hx176, F176, hn176⟩
      refine ⟨_, rfl, ?_⟩
      have Q176 := F176.size
      replace hV := Z1 hV F176 (.inr (by simp))
      replace hC11 := Z1 hC11 F176 ε
      replace hl := hl0 _ hV
      replace hof := hof.evo F176 (by intro g hg hm; simp at hm; subst hm; have h7 := hobF g hg; have h8 := hof.block hg; omega)
      replace B163 := B163.evo F176 θ
      replace hb := hn176
      clear hn176
      have hAs := hb.at
      refine h_next hC11 ?_
      refine Zt (i := 10) η (fun w' hC => run_bld (pv := [(0, .int _ _), (1, S _), (2, .int _ _)]) (zs := [_, _, _]) (cells := [_, _, _]) rfl ty_32 η pl_32 η η) hC11 ?_
      refine hJ9 _ _ _ ζ ⟨_, _, _, _, rfl, rfl, hof, B163, B163.at, hb, hb.at, (rawW_bd _ ω), ⟨by omega, by omega⟩, ω, (fun g hg => by have := hobF g hg; omega), δ, hV, hC11⟩ ?_
      exact ψ
     refine h_do η ?_
     refine Zr [.pointer _, .int _ _] rfl η Tryz.func38 (nx_calls hb hl ω ω ω) ?_
     rintro e w177 ⟨nx177, rfl, hx177, F177, hn177⟩
     refine ⟨_, rfl, ?_⟩
     have Q177 := F177.size
     replace hV := Z1 hV F177 (.inr (by simp))
     replace hC11 := Z1 hC11 F177 ε
     replace hl := hl0 _ hV
     replace hof := hof.evo F177 (by intro g hg hm; simp at hm; subst hm; have h7 := hobF g hg; have h8 := hof.block hg; omega)
     replace B163 := B163.evo F177 θ
     replace hA175 := hA175.evo F177 θ
     replace hb := hn177
     clear hn177
     have hAs := hb.at
     refine h_next hC11 ?_
     refine Zh (i := 7) ?_
     refine Zo (run_ld1 rfl ag_9 η (hA175.cell 0 η)) ?_
     refine h_next hC11 ?_
     refine Zt (i := 10) η (fun w' hC => run_bld (pv := [(0, .int _ _), (1, S _), (2, .int _ _)]) (zs := [_, _, _]) (cells := [_, _, _]) rfl ty_32 η pl_32 η η) hC11 ?_
     refine hJ9 _ _ _ ζ ⟨_, _, _, _, rfl, rfl, hof, B163, B163.at, hb, hb.at, (rawW_bd _ ω), ⟨by omega, by omega⟩, ω, (fun g hg => by have := hobF g hg; omega), δ, hV, hC11⟩ ?_
     exact ψ
    refine h_do η ?_
    refine Zr [.pointer _, .int _ _] rfl η Tryz.func38 (nx_calls hb hl ω ω ω) ?_
    rintro e w178 ⟨nx178, rfl, hx178, F178, hn178⟩
    refine ⟨_, rfl, ?_⟩
    have Q178 := F178.size
    replace hV := Z1 hV F178 (.inr (by simp))
    replace hC11 := Z1 hC11 F178 ε
    replace hof := hof.evo F178 (by intro g hg hm; simp at hm; subst hm; have h7 := hobF g hg; have h8 := hof.block hg; omega)
    replace B163 := B163.evo F178 θ
    replace hb := hn178
    clear hn178
    have hAs := hb.at
    refine h_next hC11 ?_
    refine Zh (i := 3) ?_
    refine r_bslice (pv := [(0, S _), (1, S _), (2, S _), (3, S _), (4, S _), (5, S _), (6, S _), (7, S _)]) (zs := [_]) (cs := [_, _, _, _, _, _, _, _]) Tryz.underlying77 ty_9 η rfl η rfl η ?_
    intro b179 w180 J179 E180 B179 Y179
    have Q180 := E180.size
    replace hV := Z0 hV E180
    replace hC11 := Z0 hC11 E180
    replace hl := hl0 _ hV
    replace hof := hof.evo0 E180
    replace B163 := B163.evo0 E180
    replace hb := hb.evo0 E180
    have hrb179 : RowE w180 (some ⟨b179, 0, none⟩) b179 0 8 rawW := rowLit rawW B179 rfl rfl
    refine h_next hC11 ?_
    refine Zt (i := 6) η (fun w' hC => run_ix (nx172.toNat) rfl Tryz.underlying77 ty_9 η η ω (by show _ < 8; omega) (hrb179.addr (i := nx172.toNat) (by show _ < 8; omega))) hC11 ?_
    have hA181 := hrb179.atD (nx172.toNat) (by show _ < 8; omega)
    refine Zh (i := 7) ?_
    refine Zo (run_ld1 rfl ag_9 η (hA181.cell 0 η)) ?_
    refine h_next hC11 ?_
    refine Zt (i := 10) η (fun w' hC => run_bld (pv := [(0, .int _ _), (1, S _), (2, .int _ _)]) (zs := [_, _, _]) (cells := [_, _, _]) rfl ty_32 η pl_32 η η) hC11 ?_
    refine hJ9 _ _ _ ζ ⟨_, _, _, _, rfl, rfl, hof, B163, B163.at, hb, hb.at, (rawW_bd _ ω), ⟨by omega, by omega⟩, ω, (fun g hg => by have := hobF g hg; omega), δ, hV, hC11⟩ ?_
    exact ψ
   refine h_do η ?_
   refine r_bslice (pv := [(0, S _), (1, S _), (2, S _), (3, S _), (4, S _), (5, S _), (6, S _), (7, S _)]) (zs := [_]) (cs := [_, _, _, _, _, _, _, _]) Tryz.underlying77 ty_9 η rfl η rfl η ?_
   intro b182 w183 J182 E183 B182 Y182
   have Q183 := E183.size
   replace hV := Z0 hV E183
   replace hC11 := Z0 hC11 E183
   replace hl := hl0 _ hV
   replace hof := hof.evo0 E183
   replace hb := hb.evo0 E183
   replace hAs := hAs.evo0 E183
   replace B163 := B163.evo0 E183
   have hrb182 : RowE w183 (some ⟨b182, 0, none⟩) b182 0 8 rawW := rowLit rawW B182 rfl rfl
   refine h_next hC11 ?_
   refine Zh (i := 1) ?_
   refine Zr [.pointer _, .int _ _] rfl η Tryz.func38 (nx_calls hb hl ω ω ω) ?_
   rintro e w184 ⟨nx184, rfl, hx184, F184, hn184⟩
   refine ⟨_, rfl, ?_⟩
   have Q184 := F184.size
   replace hV := Z1 hV F184 (.inr (by simp))
   replace hC11 := Z1 hC11 F184 ε
   replace hl := hl0 _ hV
   replace hof := hof.evo F184 (by intro g hg hm; simp at hm; subst hm; have h7 := hobF g hg; have h8 := hof.block hg; omega)
   replace B163 := B163.evo F184 θ
   replace hrb182 := hrb182.evo F184 θ
   replace hb := hn184
   clear hn184
   have hAs := hb.at
   refine h_next hC11 ?_
   refine Zt (i := 2) η (fun w' hC => run_sub rfl η η ω ω) hC11 ?_
   refine Zh (i := 5) ?_
   refine Zr [.pointer _, .int _ _] rfl η Tryz.func38 (nx_calls hb hl ω ω ω) ?_
   rintro e w185 ⟨nx185, rfl, hx185, F185, hn185⟩
   refine ⟨_, rfl, ?_⟩
   have Q185 := F185.size
   replace hV := Z1 hV F185 (.inr (by simp))
   replace hC11 := Z1 hC11 F185 ε
   replace hl := hl0 _ hV
   replace hof := hof.evo F185 (by intro g hg hm; simp at hm; subst hm; have h7 := hobF g hg; have h8 := hof.block hg; omega)
   replace B163 := B163.evo F185 θ
   replace hrb182 := hrb182.evo F185 θ
   replace hb := hn185
   clear hn185
   have hAs := hb.at
   refine h_next hC11 ?_
   refine Zt (i := 6) η (fun w' hC => run_ix (nx185.toNat) rfl Tryz.underlying77 ty_9 η η ω (by show _ < 8; omega) (hrb182.addr (i := nx185.toNat) (by show _ < 8; omega))) hC11 ?_
   have hA186 := hrb182.atD (nx185.toNat) (by show _ < 8; omega)
   refine h_two (i := 7) (j := 9) ζ ?_ ?_
   ·skip
    refine h_do η ?_
    refine Zo (run_ld1 rfl ag_9 η (hA186.cell 0 η)) ?_
    refine h_next hC11 ?_
    refine Zh (i := 9) ?_
    refine Zr [.pointer _, .int _ _] rfl η Tryz.func38 (nx_calls hb hl ω ω ω) ?_
    rintro e w187 ⟨nx187, rfl, hx187, F187, hn187⟩
    refine ⟨_, rfl, ?_⟩
    have Q187 := F187.size
    replace hV := Z1 hV F187 (.inr (by simp))
    replace hC11 := Z1 hC11 F187 ε
    replace hl := hl0 _ hV
    replace hof := hof.evo F187 (by intro g hg hm; simp at hm; subst hm; have h7 := hobF g hg; have h8 := hof.block hg; omega)
    replace B163 := B163.evo F187 θ
    replace hb := hn187
    clear hn187
    have hAs := hb.at
    refine h_next hC11 ?_
    refine Zt (i := 10) η (fun w' hC => run_bld (pv := [(0, .int _ _), (1, S _), (2, .int _ _)]) (zs := [_, _, _]) (cells := [_, _, _]) rfl ty_32 η pl_32 η η) hC11 ?_
    refine hJ9 _ _ _ ζ ⟨_, _, _, _, rfl, rfl, hof, B163, B163.at, hb, hb.at, (rawW_bd _ ω), ⟨by omega, by omega⟩, ω, (fun g hg => by have := hobF g hg; omega), δ, hV, hC11⟩ ?_
    exact ψ
   refine h_do η ?_
   refine Zr [.pointer _, .int _ _] rfl η Tryz.func38 (nx_calls hb hl ω ω ω) ?_
   rintro e w188 ⟨nx188, rfl, hx188, F188, hn188⟩
   refine ⟨_, rfl, ?_⟩
   have Q188 := F188.size
   replace hV := Z1 hV F188 (.inr (by simp))
   replace hC11 := Z1 hC11 F188 ε
   replace hl := hl0 _ hV
   replace hof := hof.evo F188 (by intro g hg hm; simp at hm; subst hm; have h7 := hobF g hg; have h8 := hof.block hg; omega)
   replace B163 := B163.evo F188 θ
   replace hA186 := hA186.evo F188 θ
   replace hb := hn188
   clear hn188
   have hAs := hb.at
   refine h_next hC11 ?_
   refine Zh (i := 7) ?_
   refine Zo (run_ld1 rfl ag_9 η (hA186.cell 0 η)) ?_
   refine h_next hC11 ?_
   refine Zt (i := 10) η (fun w' hC => run_bld (pv := [(0, .int _ _), (1, S _), (2, .int _ _)]) (zs := [_, _, _]) (cells := [_, _, _]) rfl ty_32 η pl_32 η η) hC11 ?_
   refine hJ9 _ _ _ ζ ⟨_, _, _, _, rfl, rfl, hof, B163, B163.at, hb, hb.at, (rawW_bd _ ω), ⟨by omega, by omega⟩, ω, (fun g hg => by have := hobF g hg; omega), δ, hV, hC11⟩ ?_
   exact ψ
  rintro g w189 ⟨bx, kx, tx, ix, hj190, hof, hbx, hAx, hb, hAs, htx, hbx0, hnx2, hix, hzl8, hV⟩
  have hs_w189hV := hV.size
  have hlt191 := hbx.lt
  have hlt192 := hb.lt
  replace hl := hl0 _ hV
  refine Zk 7 (v := .pointer (some ⟨bx, 0, none⟩)) (by exact hj190) ?_
  refine r_seq ?_
  refine Zs ?_
  refine Zo mvP ?_
  refine Zr [.pointer _, .int _ _] rfl η Tryz.func38 (nx_calls hb hl ω ω ω) ?_
  rintro e w193 ⟨nx193, rfl, hx193, F193, hn193⟩
  refine ⟨_, rfl, ?_⟩
  have Q193 := F193.size
  replace hV := Z1 hV F193 (.inr (by simp))
  replace hl := hl0 _ hV
  replace hof := hof.evo F193 (by intro g hg hm; simp at hm; subst hm; have := hof.block hg; omega)
  replace hbx := hbx.evo F193 θ
  replace hAx := hAx.evo F193 θ
  replace hb := hn193
  clear hn193
  have hAs := hb.at
  refine Zn (run_gtr rfl η η) ?_
  refine r_cut [30] (fun g w => ∃ ix2 : Int, OwnE w w0.heap.size 32 vf f ∧ Blk w bx 32 [.int .i64 kx, S tx, .int .i64 ix2] ∧ At w bx 0 [.int .i64 kx, S tx, .int .i64 ix2] ∧ Blk w bs T [.slice ao l.length cap, .int .i64 ((N1 + 3 + 1) : Nat)] ∧ At w bs 0 [.slice ao l.length cap, .int .i64 ((N1 + 3 + 1) : Nat)] ∧ (0 ≤ ix2 ∧ ix2 ≤ 3) ∧ w193.heap.size ≤ w.heap.size ∧ Evo w0 w [bs]) ?_ ?_
  ·skip
   refine r_cond η (fun hc195 => ?_) (fun hc195 => ?_)
   ·skip
    refine r_region ?_
    refine Zo (run_fa rfl η fo_32_2) ?_
    refine r_store (v := .int _ _) (vs := [_]) (cs' := [_, _, _]) η η hbx ty_3 η rfl η rfl η ?_
    intro w196 E196 V196 hb_new
    have Q196 := E196.size
    replace hV := Z1 hV E196 ε
    replace hl := hl0 _ hV
    replace hof := hof.evo E196 (by intro g hg hm; simp at hm; subst hm; exact hnx2 _ hg rfl)
    replace hb := hb.evo E196 θ
    replace hbx := hb_new
    have hAx := hbx.at
    clear hb_new
    refine r_nil ?_
    refine r_cut_end ?_ ?_
    ·refine ⟨_, hof, hbx, hbx.at, hb, hb.at, (by first | exact hix | exact ⟨by decide, by decide⟩), δ, hV⟩
    exact ψ
   refine r_skip ?_
   refine r_cut_end ?_ ?_
   ·refine ⟨_, hof, hbx, hbx.at, hb, hb.at, (by first | exact hix | exact ⟨by decide, by decide⟩), δ, hV⟩
   exact ψ
  rintro g w197 ⟨ix2, hof, hbx, hAx, hb, hAs, hix2, hzl194, hV⟩
  have hs_w197hV := hV.size
  have hlt198 := hbx.lt
  have hlt199 := hb.lt
  refine r_region ?_
  refine Zo (run_mv (v := vf) rfl η) ?_
  refine Zo (run_ldN rfl ag_32 ty_32 η rfl hAx) ?_
  refine r_append1E (u := .agg _) (y := ⟨_, _, _⟩) rfl rfl Tryz.underlying33 ty_32 η hof (fun _ => η) η (by first | exact rfl | (show _ = List.toArray [_, _, _]; first | (dsimp only; done) | exact rfl | (dsimp only; exact rfl))) ((by first | omega | (simp; omega))) ((by first | omega | (simp; omega))) ω ?_
  intro q_v200 v200 w201 E201 hov200 hlv200
  have Q201 := E201.size
  replace hV := evo_stepo hV E201 (fun g hg => .inl (by first | exact (hof.block hg).1 | (have := hof.block hg; omega)))
  replace hl := hl0 _ hV
  replace hb := hb.evo E201 (by intro hm; have hm2 := Option.mem_toList.1 hm; have := hof.block hm2; omega)
  refine Zn (run_asg (v := v200) rfl η) ?_
  refine r_blk ?_
  refine r_region ?_
  refine Zo mvI ?_
  refine Zo (run_sub rfl η η ω ω) ?_
  refine Zn asI ?_
  refine r_again (i - 1) ?_ ?_ ?_
  ·first | omega | (dsimp only; omega)
  ·refine ⟨_, _, _, σ, rfl, (hov200.base_le ω), hb, hb.at, (by rw [List.length_append, sizeL_append, sizeL_one]; simp only [List.length_cons, List.length_nil]; omega), (mem_snoc hid hix2), δ, hV⟩
  exact ψ
 refine r_exit rfl ?_
 refine Zs ?_
 refine Zo (run_mv (v := vf) rfl η) ?_
 refine Zn (run_asg (v := vf) rfl η) ?_
 refine r_ret (res1 (v := vf) rfl η) ?_
 exact ⟨_, _, rfl, ⟨by omega, by omega, hid⟩, hV, hof⟩
end Go.Proofs.YtlfjocbnbceceaaGreatDoor
namespace Go.Proofs.YtlfjocbnbceceaaGreatDoor
open Go Go.RowKit Go.Vc
theorem formed_id {b : List Vc.Item} {x : Vc.Item} (h : formed b x = true) (ht : isTag x = true) : InR x := by
  rcases (isTag_iff x).1 ht with (h2 | h2) | h2 <;> (unfold formed at h; simp [h2] at h; unfold InR; omega)
theorem val_in : ∀ (f b : List Vc.Item), valGo b f = 0 → ∀ x ∈ tagsL f, InR x
  | [], _, _, x, hx => by cases hx
  | y :: f, b, h, x, hx => by
    unfold valGo at h
    split at h
    · rename_i hc
      unfold tagsL at hx
      rw [List.filter_cons] at hx
      split at hx
      · rename_i hy
        rcases List.mem_cons.1 hx with rfl | hx
        · unfold checkL at hc
          split at hc
          · rename_i hf; exact formed_id hf hy
          · exact absurd hc (by decide)
        · exact val_in f _ h x hx
      · exact val_in f _ h x hx
    · exact absurd h (by assumption)
structure PairR (f g : List Vc.Item) : Prop where
  tf : Tiny f
  tg : Tiny g
  nf : ∀ x ∈ tagsL f, InR x
  ng : ∀ x ∈ tagsL g, InR x
  vf : valGo [] f = 0
theorem small_tiny {f : List Vc.Item} {n : Int} (hn : n ≤ 20) (h1 : (f.length : Int) ≤ 2 * n) (h2 : (sizeL f : Int) ≤ 30 * n) : Tiny f := ⟨by omega, by omega⟩
theorem raw_in {f : List Vc.Item} (h : ∀ y ∈ f, 0 ≤ y.id ∧ y.id ≤ 3) : ∀ x ∈ tagsL f, InR x := fun x hx => by
  have := h x (List.mem_filter.1 hx).1
  unfold InR; omega
theorem skel_in {f g : List Vc.Item} (h : skel g = skel f) (hf : ∀ x ∈ tagsL f, InR x) : ∀ x ∈ tagsL g, InR x := by
  rw [← tags_skel g, h, tags_skel]; exact hf
structure MadeC (c : Chk) : Prop where
  len : c.lev.length = 13
  lev : ∀ x ∈ c.lev, 0 ≤ x ∧ x ≤ 2
  lev0 : c.lev.getD 0 default = 0
  sh : 0 ≤ c.short ∧ c.short ≤ 100
  lo : c.long = 0 ∨ (100 ≤ c.long ∧ c.long ≤ 10000)
  ts : ∀ x ∈ c.ts, MadeTm x
  tl : c.ts.length ≤ 3
  cl : c.cls.length ≤ 2
  vt : validT c.ts c.cls = 0
theorem MadeC.jud {c : Chk} (h : MadeC c) : ∀ x ∈ c.ts, JudT x := fun x hx => (h.ts x hx).jud
theorem MadeC.tl40 {c : Chk} (h : MadeC c) : c.ts.length ≤ 40 := Nat.le_trans h.tl (by decide)
theorem MadeC.ok {c : Chk} (h : MadeC c) : ¬ chkBad c := by
  have h1 := h.sh; have h2 := h.lo; have h3 := h.lev0
  rintro (⟨x, hx, h4⟩ | h4)
  · have := h.lev x hx; omega
  · omega
theorem lev_set {l : List Int} {rest : List Value} {k : Nat} {x : Int} (hk : k < l.length) : (l.map (Value.int .i64) ++ rest).take k ++ [.int .i64 x] ++ (l.map (Value.int .i64) ++ rest).drop (k + 1) = (l.set k x).map (Value.int .i64) ++ rest := by
  rw [List.take_append_of_le_length θ, List.drop_append_of_le_length θ, ← List.append_assoc]
  congr 1
  rw [← List.map_take, ← List.map_drop, List.set_eq_take_append_cons_drop, if_pos hk, List.map_append, List.map_cons, List.append_assoc]; rfl
theorem lev_fit {l : List Int} {rest : List Value} {k n : Nat} (hn : n = 1) (hk : k < l.length) : Nat.ble (k + n) (l.map (Value.int .i64) ++ rest).length = true := by
  rw [Nat.ble_eq, List.length_append, List.length_map]; omega
theorem list13 {l : List Int} (h : l.length = 13) : ∃ a0 a1 a2 a3 a4 a5 a6 a7 a8 a9 a10 a11 a12, l = [a0, a1, a2, a3, a4, a5, a6, a7, a8, a9, a10, a11, a12] := by
  match l, h with
  | [a0, a1, a2, a3, a4, a5, a6, a7, a8, a9, a10, a11, a12], _ => exact ⟨_, _, _, _, _, _, _, _, _, _, _, _, _, rfl⟩
def LevR (l : List Int) : Prop := l.length = 13 ∧ (∀ x ∈ l, 0 ≤ x ∧ x ≤ 2) ∧ l.getD 0 default = 0
theorem LevR.init : LevR (List.replicate 13 0) := ⟨rfl, fun x hx => by rw [List.eq_of_mem_replicate hx]; decide, rfl⟩
theorem LevR.set {l : List Int} {k : Nat} {x : Int} (h : LevR l) (hk : 1 ≤ k) (hx : 0 ≤ x ∧ x ≤ 2) : LevR (l.set k x) := by
  refine ⟨by rw [List.length_set]; exact h.1, fun y hy => ?_, ?_⟩
  · rcases List.mem_or_eq_of_mem_set hy with q | q
    · exact h.2.1 y q
    · rw [q]; exact hx
  · rw [List.getD_eq_getElem?_getD, List.getElem?_set_ne ω, ← List.getD_eq_getElem?_getD]; exact h.2.2
theorem longs_bd {k : Nat} (hk : k < 4) : ([0, 100, 150, 400] : List Int).getD k default = 0 ∨ (100 ≤ ([0, 100, 150, 400] : List Int).getD k default ∧ ([0, 100, 150, 400] : List Int).getD k default ≤ 10000) := by
  rcases (show k = 0 ∨ k = 1 ∨ k = 2 ∨ k = 3 by omega) with rfl | rfl | rfl | rfl <;> decide
theorem dec1 {n : Nat} (h : n ≤ 9) : decW n [] = [UInt8.ofNat (48 + n % 10)] := decW_stop [] ω
theorem dec1_name {n : Nat} (h : n ≤ 9) : isName (99 :: decW n []) = true := by
  rw [dec1 h]
  have : ∀ n, n ≤ 9 → isName [99, UInt8.ofNat (48 + n % 10)] = true := by decide
  exact this n h
theorem dec1_ne {a b : Nat} (ha : a ≤ 9) (hb : b ≤ 9) (h : ¬ a = b) : ¬ (99 :: decW a [] : Str) = 99 :: decW b [] := by
  rw [dec1 ha, dec1 hb]
  have : ∀ a, a ≤ 9 → ∀ b, b ≤ 9 → ¬ a = b → ¬ ([99, UInt8.ofNat (48 + a % 10)] : Str) = [99, UInt8.ofNat (48 + b % 10)] := by decide
  exact this a ha b hb h
theorem strip_small {s : Str} (h : s ∈ stripsL) : smallL s = true ∧ s.length ≤ 8 := by
  have : ∀ s ∈ stripsL, smallL s = true ∧ s.length ≤ 8 := by decide
  exact this s h
theorem add_small {s : Str} (h : s ∈ addsL) : smallL s = true ∧ s.length ≤ 8 := by
  have : ∀ s ∈ addsL, smallL s = true ∧ s.length ≤ 8 := by decide
  exact this s h
theorem made_endsZ {es : List Ende} (h : MadeE es) {k : Nat} (hk : k < es.length) : endedL (es.take k) (es.getD k default) = 0 := by
  have e : es.getD k default = es[k] := by simp [List.getD, hk]
  have h1 := h.2 _ (List.getElem_mem hk)
  rw [e]
  unfold endedL
  rw [if_pos ⟨strip_small h1.1, add_small h1.2⟩, if_neg]
  intro hm
  obtain ⟨j, hj, e2⟩ := List.mem_iff_getElem.1 hm
  rw [List.length_take] at hj
  rw [List.getElem_take] at e2
  exact (List.pairwise_iff_getElem.1 h.1) j k ω hk ω e2
theorem made_valid {cl : List Clas} {N : Nat} (h : MadeP cl N 0) (hN : N ≤ 9) : validC cl = 0 := by
  have hl : cl.length = N := h.1
  refine valid_ok (i := cl.length) ω (fun j hj => ?_) (Nat.le_refl _)
  have hnm : ∀ q, (hq : q < cl.length) → (cl.getD q default).name = 99 :: decW (N - q) [] := fun q hq => by
    have e : cl.getD q default = cl[q] := by simp [List.getD, hq]
    rw [e]; exact h.2.1 q hq
  have hmm := h.mem (getD_in hj)
  have hn0 : namedL (cl.take j) (cl.getD j default).name = 0 := by
    rw [hnm j hj]
    refine named_ok (dec1_name ω) ?_
    rw [findC_none (fun q hq => ?_)]
    · decide
    · rw [List.length_take] at hq
      have e : (cl.take j).getD q default = cl.getD q default := by simp [List.getD, List.getElem?_take, show q < j by omega]
      rw [e, hnm q ω]
      exact dec1_ne ω ω ω
  rw [cls_ends hn0 (by have := hmm.2; omega)]
  exact ends_ok (k := (cl.getD j default).ends.length) (fun k hk => made_endsZ hmm.1 hk) (Nat.le_refl _)
def ClsW (c : List Clas) (n : Str) : Prop := n = [] ∨ ∃ z ∈ c, z.name = n
theorem cls_found {c : List Clas} {n : Str} (h : ClsW c n) : ¬ (n ≠ [] ∧ findC c n < 0) := by
  rintro ⟨h1, h2⟩
  rcases h with h | ⟨z, hz, h3⟩
  · exact h1 h
  · have h4 : c.findIdx (fun x => decide (x.name = n)) < c.length := List.findIdx_lt_length_of_exists ⟨z, hz, by simpa using h3⟩
    unfold findC at h2; rw [if_pos h4] at h2; exact absurd h2 ω
theorem stem_plain {s : Str} (h : s ∈ stemW) : plainP s := by
  have : ∀ s ∈ stemW, plainP s := by decide +kernel
  exact this s h
theorem phr1 : ∀ a ∈ phrW, phraseOk (joinS [a] []) := by decide +kernel
theorem phr2 : ∀ a ∈ phrW, ∀ b ∈ phrW, phraseOk (joinS [a, b] []) := by decide +kernel
theorem phr3 : ∀ a ∈ phrW, ∀ b ∈ phrW, ∀ c ∈ phrW, phraseOk (joinS [a, b, c] []) := by decide +kernel
theorem made_phr {s : Str} (h : MadePh s) : phraseOk s := by
  obtain ⟨ws, ⟨h1, h2, h3⟩, rfl⟩ := h
  match ws, h1, h2 with
  | [a], _, _ => exact phr1 a (h3 a (by simp))
  | [a, b], _, _ => exact phr2 a (h3 a (by simp)) b (h3 b (by simp))
  | [a, b, c], _, _ => exact phr3 a (h3 a (by simp)) b (h3 b (by simp)) c (h3 c (by simp))
  | a :: b :: c :: d :: r, _, h2 => simp at h2
def MadeTc (c : List Clas) (x : TermL) : Prop := MadeTm x ∧ ∀ y ∈ x.words, ClsW c y.add
theorem made_term {c : List Clas} {x : TermL} (h : MadeTc c x) : termE c x = 0 := by
  obtain ⟨⟨⟨h1, h2, h3⟩, ⟨h4, h5⟩, h6, h7⟩, h8⟩ := h
  refine termE_ok (fun q => by unfold limT at q; omega) (fun j hj => ?_) (fun j hj => ?_)
  · have hm := getD_in hj
    exact wordE_0 (stem_plain (h3 _ hm).1) (cls_found (h8 _ hm))
  · rcases (show j = 0 ∨ j = 1 by omega) with rfl | rfl
    · exact firstM_ok (fun i hi => phrE_0 (made_phr (h5 _ (getD_in hi))))
    · exact firstM_ok (fun i hi => phrE_0 (made_phr (h7 _ (getD_in hi))))
theorem made_terms {c : List Clas} {ts : List TermL} (hc : validC c = 0) (h : ∀ x ∈ ts, MadeTc c x) (hl : ts.length ≤ 128) : validT ts c = 0 := validT_ok hc ω (fun j hj => made_term (h _ (getD_in hj)))
set_option maxHeartbeats 1000000 in
theorem target_calls {T bs : Nat} {ao : Option Addr} {b off cap : Nat} {l : List Int} {N : Nat} {aos : Option Addr} {bso offs caps : Nat} {src : List Vc.Item} {w0 : World} (hb : Blk w0 bs T [.slice ao l.length cap, .int .i64 (N : Nat)]) (hl : ∀ w', Evo w0 w' [bs] → RowE w' ao b off cap l) (hN : N ≤ 100000) (hsr : ∀ w', Evo w0 w' [bs] → RowE w' aos bso offs caps src) (hsl : src.length ≤ 100) (hsz0 : sizeL src ≤ 10000) :
    Calls Tryz.prog 43 #[.pointer (some ⟨bs, 0, none⟩), .slice aos src.length caps] w0 fun e w' => ∃ v, ∃ f : List Vc.Item, ∃ N', e = .returned v ∧ (skel f = skel src ∧ f.length ≤ 2 * src.length ∧ sizeL f ≤ sizeL src + 26 * src.length) ∧ (N ≤ N' ∧ N' ≤ N + 10 * src.length) ∧ Evo w0 w' [bs] ∧ Blk w' bs T [.slice ao l.length cap, .int .i64 (N' : Nat)] ∧ OwnE w' w0.heap.size 32 v f := by
 have hAs := hb.at; have hbslt := hb.lt
 refine calls_enter (n := 46) Tryz.func43 rfl Tryz.ntmps43 rfl ?_
 have hV : Evo w0 w0 [bs] := Evo.refl _ _
 have hl0 := hl
 replace hl := hl0 _ hV
 have hbd_hl := hl.bd
 have hsr0 := hsr
 replace hsr := hsr0 _ hV
 have hbd_hsr := hsr.bd
 refine Zs ?_
 refine Zn asS ?_
 refine Zs ?_
 refine Zn asS ?_
 refine r_seq ?_
 refine Zs ?_
 refine Zo mvS ?_
 refine Zo (run_lenSl rfl η Tryz.underlying33) ?_
 refine Zn mvI ?_
 refine r_block ?_
 refine r_loop (α := Nat) [5, 6, 7, 10, 11, 12, 13, 14, 15, 16, 17, 18, 19, 20, 21, 22, 23, 24, 25, 26, 27, 28, 29, 30, 31, 32, 33, 34, 35, 36, 37, 38, 39, 40, 41, 42, 43, 44] (fun k g w => ∃ vf : Value, ∃ f : List Vc.Item, ∃ N1 : Nat, g 10 = .int .i64 (k : Nat) ∧ g 5 = vf ∧ k ≤ src.length ∧ OwnE w w0.heap.size 32 vf f ∧ Blk w bs T [.slice ao l.length cap, .int .i64 (N1 : Nat)] ∧ At w bs 0 [.slice ao l.length cap, .int .i64 (N1 : Nat)] ∧ skel f = skel (src.take k) ∧ (f.length ≤ 2 * k ∧ sizeL f ≤ sizeL (src.take k) + 26 * k ∧ N ≤ N1 ∧ N1 ≤ N + 10 * k) ∧ w0.heap.size ≤ w.heap.size ∧ Evo w0 w [bs]) (fun k => src.length - k) 0 ?_ ?_
 ·refine ⟨_, [], _, σ, rfl, δ, (OwnE.nil _ _ _), hb, hb.at, rfl, (by simp [sizeL]), δ, hV⟩
 rintro k g w2 ⟨vf, f, N1, hj3, hj4, hk_k, hof, hb, hAs, hsk, hsz, hzl1, hV⟩
 have hs_w2hV := hV.size
 have hlt5 := hb.lt
 replace hsr := hsr0 _ hV
 refine Zk 10 (v := .int .i64 (k : Nat)) (by exact hj3) ?_
 refine Zk 5 (v := vf) (by exact hj4) ?_
 refine Zs ?_
 refine Zn (run_lss rfl η η) ?_
 refine r_seq ?_
 refine r_cond η (fun hc6 => ?_) (fun hc6 => ?_)
 ·skip
  refine r_skip ?_
  refine r_seq ?_
  refine r_block ?_
  refine Zs ?_
  refine Zo mvI ?_
  refine Zn asI ?_
  refine r_seq ?_
  have hobF := fun g hg => (hof.block (g := g) hg).2
  refine r_region ?_
  refine Zo mvS ?_
  refine Zo mvI ?_
  refine Zo (run_ix (k) rfl Tryz.underlying33 ty_32 η η (by first | exact rfl | omega) ω (hsr.addr (i := k) ω)) ?_
  have hA70 := fun (w' : World) (h : Evo w0 w' [bs]) => (hsr0 w' h).atD (k) ω
  have hA7 := hA70 _ hV
  refine Zo (run_ldN rfl ag_32 ty_32 η rfl hA7) ?_
  have hob8 := fun g hg => (hof.block (g := g) hg).2
  refine r_var (zs := [_, _, _]) (vs := [_, _, _]) ty_32 η rfl η (fun _ => rfl) η rfl rfl η ?_
  intro b9 w10 J9 E10 B9 Y9
  have Q10 := E10.size
  replace hV := Z0 hV E10
  replace hl := hl0 _ hV
  replace hof := hof.evo0 E10
  replace hb := hb.evo0 E10
  replace hAs := hAs.evo0 E10
  have hAb9 := B9.at
  refine r_nil ?_
  refine r_seq ?_
  refine r_seq ?_
  have hz1 := sizeL_at src k; have hz2 := sizeL_succ src k ω; have hz3 := sizeL_take src (k + 1)
  refine r_region ?_
  refine Zo (run_fa rfl η fo_32_0) ?_
  refine Zo (run_ld1 rfl ag_3 η (hAb9.cell 0 η)) ?_
  refine Zn (run_eql rfl η η) ?_
  refine r_cut [5, 20, 21, 22, 23, 24, 25, 26, 27, 28, 29, 30, 31, 32, 33, 34, 35, 36, 37, 38, 39] (fun g w => ∃ vf2 : Value, ∃ f2 : List Vc.Item, ∃ tx : Str, ∃ N2 : Nat, g 5 = vf2 ∧ OwnE w w0.heap.size 32 vf2 f2 ∧ Blk w b9 32 [.int .i64 (src.getD k default).kind, S tx, .int .i64 (src.getD k default).id] ∧ At w b9 0 [.int .i64 (src.getD k default).kind, S tx, .int .i64 (src.getD k default).id] ∧ Blk w bs T [.slice ao l.length cap, .int .i64 (N2 : Nat)] ∧ At w bs 0 [.slice ao l.length cap, .int .i64 (N2 : Nat)] ∧ skel f2 = skel f ∧ (¬ (src.getD k default).kind = 1 → tx = (src.getD k default).text) ∧ (f2.length ≤ f.length + 1 ∧ sizeL f2 + tx.length ≤ sizeL f + (src.getD k default).text.length + 18 ∧ N1 ≤ N2 ∧ N2 ≤ N1 + 10) ∧ w10.heap.size ≤ w.heap.size ∧ Evo w0 w [bs]) ?_ ?_
  ·skip
   refine r_cond η (fun hc12 => ?_) (fun hc12 => ?_)
   ·skip
    refine r_cut [20, 21, 22, 23, 24, 25, 26, 27, 28, 29, 30] (fun g w => ∃ tx : Str, OwnE w w0.heap.size 32 vf f ∧ Blk w b9 32 [.int .i64 (src.getD k default).kind, S tx, .int .i64 (src.getD k default).id] ∧ At w b9 0 [.int .i64 (src.getD k default).kind, S tx, .int .i64 (src.getD k default).id] ∧ Blk w bs T [.slice ao l.length cap, .int .i64 ((N1 + 1) : Nat)] ∧ At w bs 0 [.slice ao l.length cap, .int .i64 ((N1 + 1) : Nat)] ∧ tx.length ≤ (src.getD k default).text.length + 8 ∧ w10.heap.size ≤ w.heap.size ∧ Evo w0 w [bs]) ?_ ?_
    ·skip
     have hb_q := hb
     have hAs_q := hAs
     have hbb9_q := B9
     have hAb9_q := hAb9
     have hV_q := hV
     refine h_region ([bs]) ζ ?_
     intro w14 F15 hC16
     have Q14 := F15.size
     replace hV := Z0 hV F15
     replace hl := hl0 _ hV
     replace hof := hof.evo0 F15
     replace hb := hb.evo0 F15
     replace hAs := hAs.evo0 F15
     replace B9 := B9.evo0 F15
     replace hAb9 := hAb9.evo0 F15
     refine Zt (i := 0) η (fun w' hC => run_fa rfl η fo_32_1) hC16 ?_
     refine Zt (i := 1) η (fun w' hC => run_ld1 rfl ag_9 η ((hAb9_q.evo hC θ).cell 1 η)) hC16 ?_
     refine Zt (i := 2) η (fun w' hC => run_sadd rfl η η (by simp only [List.length_cons, List.length_nil]; omega)) hC16 ?_
     refine Zt (i := 3) η (fun w' hC => run_fa rfl η fo_32_1) hC16 ?_
     refine Zt (i := 4) η (fun w' hC => run_ld1 rfl ag_9 η ((hAb9_q.evo hC θ).cell 1 η)) hC16 ?_
     refine Zt (i := 6) η (fun w' hC => mvP) hC16 ?_
     refine h_two (i := 5) (j := 7) ζ ?_ ?_
     ·skip
      refine h_do η ?_
      refine r_bslice (pv := [(0, S _), (1, S _), (2, S _), (3, S _), (4, S _)]) (zs := [_]) (cs := [_, _, _, _, _]) Tryz.underlying77 ty_9 η rfl η rfl η ?_
      intro b17 w18 J17 E18 B17 Y17
      have Q18 := E18.size
      replace hV := Z0 hV E18
      replace hC16 := Z0 hC16 E18
      replace hl := hl0 _ hV
      replace hof := hof.evo0 E18
      replace hb := hb.evo0 E18
      replace hAs := hAs.evo0 E18
      replace B9 := B9.evo0 E18
      replace hAb9 := hAb9.evo0 E18
      have hrb17 : RowE w18 (some ⟨b17, 0, none⟩) b17 0 5 (tgtW (src.getD k default).text) := rowLit (tgtW (src.getD k default).text) B17 rfl rfl
      refine h_next hC16 ?_
      refine Zh (i := 7) ?_
      refine Zr [.pointer _, .int _ _] rfl η Tryz.func38 (inx_calls hb hl ω ω ω) ?_
      rintro e w19 ⟨nx19, rfl, hx19, F19, hn19⟩
      refine ⟨_, rfl, ?_⟩
      have Q19 := F19.size
      replace hV := Z1 hV F19 (.inr (by simp))
      replace hC16 := Z1 hC16 F19 ε
      replace hof := hof.evo F19 (by intro g hg hm; simp at hm; subst hm; have h7 := hobF g hg; have h8 := hof.block hg; omega)
      replace B9 := B9.evo F19 θ
      replace hAb9 := hAb9.evo F19 θ
      replace hrb17 := hrb17.evo F19 θ
      replace hb := hn19
      clear hn19
      have hAs := hb.at
      refine h_next hC16 ?_
      refine Zt (i := 8) η (fun w' hC => run_ix (nx19.toNat) rfl Tryz.underlying77 ty_9 η η ω (by show _ < 5; omega) (hrb17.addr (i := nx19.toNat) (by show _ < 5; omega))) hC16 ?_
      have hA20 := hrb17.atD (nx19.toNat) (by show _ < 5; omega)
      refine Zh (i := 9) ?_
      refine Zo (run_ld1 rfl ag_9 η (hA20.cell 0 η)) ?_
      refine h_last ζ ?_
      refine Zh (i := 10) ?_
      refine Zo (run_fa rfl η fo_32_1) ?_
      refine h_last ζ ?_
      refine Zh (i := 11) ?_
      refine r_store (v := S _) (vs := [_]) (cs' := [_, _, _]) η η B9 ty_9 η rfl η rfl η ?_
      intro w21 E21 V21 hb_new
      have Q21 := E21.size
      replace hV := Z1 hV E21 ε
      replace hl := hl0 _ hV
      replace hsr := hsr0 _ hV
      replace hof := hof.evo E21 (by intro g hg hm; simp at hm; subst hm; have h7 := hobF g hg; have h8 := hof.block hg; omega)
      replace hb := hb.evo E21 θ
      replace B9 := hb_new
      have hAb9 := B9.at
      clear hb_new
      refine h_last ζ ?_
      refine h_done ζ ?_
      refine r_cut_end ?_ ?_
      ·refine ⟨_, hof, B9, B9.at, hb, hb.at, (tgtW_bd _ _), δ, hV⟩
      exact ψ
     refine h_do η ?_
     refine Zr [.pointer _, .int _ _] rfl η Tryz.func38 (inx_calls hb hl ω ω ω) ?_
     rintro e w22 ⟨nx22, rfl, hx22, F22, hn22⟩
     refine ⟨_, rfl, ?_⟩
     have Q22 := F22.size
     replace hV := Z1 hV F22 (.inr (by simp))
     replace hC16 := Z1 hC16 F22 ε
     replace hof := hof.evo F22 (by intro g hg hm; simp at hm; subst hm; have h7 := hobF g hg; have h8 := hof.block hg; omega)
     replace B9 := B9.evo F22 θ
     replace hAb9 := hAb9.evo F22 θ
     replace hb := hn22
     clear hn22
     have hAs := hb.at
     refine h_next hC16 ?_
     refine Zh (i := 5) ?_
     refine r_bslice (pv := [(0, S _), (1, S _), (2, S _), (3, S _), (4, S _)]) (zs := [_]) (cs := [_, _, _, _, _]) Tryz.underlying77 ty_9 η rfl η rfl η ?_
     intro b23 w24 J23 E24 B23 Y23
     have Q24 := E24.size
     replace hV := Z0 hV E24
     replace hC16 := Z0 hC16 E24
     replace hof := hof.evo0 E24
     replace B9 := B9.evo0 E24
     replace hAb9 := hAb9.evo0 E24
     replace hb := hb.evo0 E24
     have hrb23 : RowE w24 (some ⟨b23, 0, none⟩) b23 0 5 (tgtW (src.getD k default).text) := rowLit (tgtW (src.getD k default).text) B23 rfl rfl
     refine h_next hC16 ?_
     refine Zt (i := 8) η (fun w' hC => run_ix (nx22.toNat) rfl Tryz.underlying77 ty_9 η η ω (by show _ < 5; omega) (hrb23.addr (i := nx22.toNat) (by show _ < 5; omega))) hC16 ?_
     have hA25 := hrb23.atD (nx22.toNat) (by show _ < 5; omega)
     refine Zh (i := 9) ?_
     refine Zo (run_ld1 rfl ag_9 η (hA25.cell 0 η)) ?_
     refine h_last ζ ?_
     refine Zh (i := 10) ?_
     refine Zo (run_fa rfl η fo_32_1) ?_
     refine h_last ζ ?_
     refine Zh (i := 11) ?_
     refine r_store (v := S _) (vs := [_]) (cs' := [_, _, _]) η η B9 ty_9 η rfl η rfl η ?_
     intro w26 E26 V26 hb_new
     have Q26 := E26.size
     replace hV := Z1 hV E26 ε
     replace hl := hl0 _ hV
     replace hsr := hsr0 _ hV
     replace hof := hof.evo E26 (by intro g hg hm; simp at hm; subst hm; have h7 := hobF g hg; have h8 := hof.block hg; omega)
     replace hb := hb.evo E26 θ
     replace B9 := hb_new
     have hAb9 := B9.at
     clear hb_new
     refine h_last ζ ?_
     refine h_done ζ ?_
     refine r_cut_end ?_ ?_
     ·refine ⟨_, hof, B9, B9.at, hb, hb.at, (tgtW_bd _ _), δ, hV⟩
     exact ψ
    rintro g w27 ⟨tx, hof, B9, hAb9, hb, hAs, htl, hzl13, hV⟩
    have hs_w27hV := hV.size
    have hlt28 := B9.lt
    have hlt29 := hb.lt
    replace hl := hl0 _ hV
    replace hsr := hsr0 _ hV
    replace hA7 := hA70 _ hV
    refine r_cut_end ?_ ?_
    ·refine ⟨_, _, _, _, rfl, (hof.base_le ω), B9, B9.at, hb, hb.at, (by first | rfl | exact skel_add _ _), (by first | exact (fun h9 => absurd ω h9) | exact (fun _ => rfl)), (by first | omega | exact ⟨(hnb9 _).1, Nat.le_trans (Nat.add_le_add_right (hnb9 _).2 _) ω, by omega, by omega⟩), δ, hV⟩
    exact ψ
   refine Zs ?_
   refine Zo mvP ?_
   refine Zr [.pointer _, .int _ _] rfl η Tryz.func38 (inx_calls hb hl ω ω ω) ?_
   rintro e w30 ⟨nx30, rfl, hx30, F30, hn30⟩
   refine ⟨_, rfl, ?_⟩
   have Q30 := F30.size
   replace hV := Z1 hV F30 (.inr (by simp))
   replace hl := hl0 _ hV
   replace hsr := hsr0 _ hV
   replace hof := hof.evo F30 (by intro g hg hm; simp at hm; subst hm; have h7 := hobF g hg; have h8 := hof.block hg; omega)
   replace B9 := B9.evo F30 θ
   replace hAb9 := hAb9.evo F30 θ
   replace hb := hn30
   clear hn30
   have hAs := hb.at
   refine Zn (run_eql rfl η η) ?_
   refine r_cond η (fun hc31 => ?_) (fun hc31 => ?_)
   ·skip
    have hnb9 : ∀ t : Str, (normL (f ++ [⟨1, t, 0⟩])).length ≤ f.length + 1 ∧ sizeL (normL (f ++ [⟨1, t, 0⟩])) ≤ sizeL f + t.length := fun t => by have h1 := normL_len (f ++ [⟨1, t, 0⟩]); have h2 := normL_size (f ++ [⟨1, t, 0⟩]); rw [List.length_append] at h1; rw [sizeL_append, sizeL_one] at h2; exact ⟨h1, h2⟩
    have hsm9 : ∀ t : Str, t.length ≤ 18 → Small (f ++ [⟨1, t, 0⟩]) := fun t ht => ⟨by rw [List.length_append]; simp; omega, by rw [sizeL_append, sizeL_one]; simp; omega⟩
    refine r_region ?_
    refine Zo (run_mv (v := vf) rfl η) ?_
    refine Zo mvP ?_
    refine Zr [.pointer _, .int _ _] rfl η Tryz.func74 (line_calls hb (fun w9 h9 => hl0 _ (Evo.trans hV h9 (fun x hx _ => hx))) ω ω ω ω) ?_
    rintro e w32 ⟨tl32, Nl32, rfl, htl32, hNl32, F32, hn32⟩
    refine ⟨_, rfl, ?_⟩
    have Q32 := F32.size
    replace hV := Z1 hV F32 (.inr (by simp))
    replace hof := hof.evo F32 (by intro g hg hm; simp at hm; subst hm; have h7 := hobF g hg; have h8 := hof.block hg; omega)
    replace B9 := B9.evo F32 θ
    replace hAb9 := hAb9.evo F32 θ
    replace hb := hn32
    clear hn32
    have hAs := hb.at
    refine Zo (run_bld (pv := [(0, .int _ _), (1, S _)]) (zs := [_, _, _]) (cells := [_, _, _]) rfl ty_32 η pl_32 η η) ?_
    refine r_bslice (pv := [(0, .agg _)]) (zs := [_, _, _]) (cs := [_, _, _]) Tryz.underlying33 ty_32 η rfl η rfl η ?_
    intro b33 w34 J33 E34 B33 Y33
    have Q34 := E34.size
    replace hV := Z0 hV E34
    replace hof := hof.evo0 E34
    replace B9 := B9.evo0 E34
    replace hAb9 := hAb9.evo0 E34
    replace hb := hb.evo0 E34
    have hrb33 : RowE w34 (some ⟨b33, 0, none⟩) b33 0 1 ([⟨1, tl32, 0⟩] : List Vc.Item) := rowLit ([⟨1, tl32, 0⟩] : List Vc.Item) B33 rfl rfl
    obtain ⟨ao35, g35, cp35, hv35, hr35, hg35⟩ := hof.rowOf
    subst hv35
    refine Zr [.slice _ _ _, .slice (some ⟨b33, 0, none⟩) _ _] rfl η Tryz.func76 (rconcat_calls hr35 hrb33 (hsm9 _ ω)) ?_
    rintro e w36 ⟨vn36, rfl, F36, hon36⟩
    refine ⟨_, rfl, ?_⟩
    have Q36 := F36.size
    replace hV := Z0 hV F36
    replace hl := hl0 _ hV
    replace hsr := hsr0 _ hV
    replace hof := hof.evo0 F36
    replace B9 := B9.evo0 F36
    replace hAb9 := hAb9.evo0 F36
    replace hb := hb.evo0 F36
    replace hrb33 := hrb33.evo0 F36
    replace hr35 := hr35.evo0 F36
    refine Zn (run_asg (v := vn36) rfl η) ?_
    refine r_cut_end ?_ ?_
    ·refine ⟨_, _, _, _, rfl, (hon36.base_le ω), B9, B9.at, hb, hb.at, (by first | rfl | exact skel_add _ _), (by first | exact (fun h9 => absurd ω h9) | exact (fun _ => rfl)), (by first | omega | exact ⟨(hnb9 _).1, Nat.le_trans (Nat.add_le_add_right (hnb9 _).2 _) ω, by omega, by omega⟩), δ, hV⟩
    exact ψ
   refine r_skip ?_
   refine r_cut_end ?_ ?_
   ·refine ⟨_, _, _, _, rfl, (hof.base_le ω), B9, B9.at, hb, hb.at, (by first | rfl | exact skel_add _ _), (by first | exact (fun h9 => absurd ω h9) | exact (fun _ => rfl)), (by first | omega | exact ⟨(hnb9 _).1, Nat.le_trans (Nat.add_le_add_right (hnb9 _).2 _) ω, by omega, by omega⟩), δ, hV⟩
   exact ψ
  rintro g w37 ⟨vf2, f2, tx, N2, hj38, hof, B9, hAb9, hb, hAs, hsk2, htx, hsz2, hzl11, hV⟩
  have hs_w37hV := hV.size
  have hlt39 := B9.lt
  have hlt40 := hb.lt
  replace hA7 := hA70 _ hV
  refine Zk 5 (v := vf2) (by exact hj38) ?_
  have hsm10 : Small (f2 ++ [⟨(src.getD k default).kind, tx, (src.getD k default).id⟩]) := ⟨by rw [List.length_append]; simp; omega, by rw [sizeL_append, sizeL_one]; simp; omega⟩
  have hobF := fun g hg => (hof.block (g := g) hg).2
  refine r_region ?_
  refine Zo (run_mv (v := vf2) rfl η) ?_
  refine Zo (run_ldN rfl ag_32 ty_32 η rfl hAb9) ?_
  refine r_bslice (pv := [(0, .agg _)]) (zs := [_, _, _]) (cs := [_, _, _]) Tryz.underlying33 ty_32 η rfl η rfl η ?_
  intro b41 w42 J41 E42 B41 Y41
  have Q42 := E42.size
  replace hV := Z0 hV E42
  replace hof := hof.evo0 E42
  replace hb := hb.evo0 E42
  have hrb41 : RowE w42 (some ⟨b41, 0, none⟩) b41 0 1 ([⟨(src.getD k default).kind, tx, (src.getD k default).id⟩] : List Vc.Item) := rowLit ([⟨(src.getD k default).kind, tx, (src.getD k default).id⟩] : List Vc.Item) B41 rfl rfl
  obtain ⟨ao43, g43, cp43, hv43, hr43, hg43⟩ := hof.rowOf
  subst hv43
  refine Zr [.slice _ _ _, .slice (some ⟨b41, 0, none⟩) _ _] rfl η Tryz.func76 (rconcat_calls hr43 hrb41 hsm10) ?_
  rintro e w44 ⟨vn44, rfl, F44, hon44⟩
  refine ⟨_, rfl, ?_⟩
  have Q44 := F44.size
  replace hV := Z0 hV F44
  replace hl := hl0 _ hV
  replace hsr := hsr0 _ hV
  replace hof := hof.evo0 F44
  replace hb := hb.evo0 F44
  replace hrb41 := hrb41.evo0 F44
  replace hr43 := hr43.evo0 F44
  refine Zn (run_asg (v := vn44) rfl η) ?_
  refine r_blk ?_
  refine r_region ?_
  refine Zo (run_add rfl η η ω ω) ?_
  refine Zn mvI ?_
  refine r_again (k + 1) ?_ ?_ ?_
  ·first | omega | (dsimp only; omega)
  ·refine ⟨_, _, _, σ, rfl, δ, (hon44.base_le ω), hb, hb.at, (by rw [skel_succ src k ω, ← hsk]; exact skel_step hsk2 htx), (by have h1 := normL_len (f2 ++ [⟨(src.getD k default).kind, tx, (src.getD k default).id⟩]); have h2 := normL_size (f2 ++ [⟨(src.getD k default).kind, tx, (src.getD k default).id⟩]); have h3 := sizeL_succ src k ω; rw [List.length_append] at h1; rw [sizeL_append, sizeL_one] at h2; simp only [List.length_cons, List.length_nil] at h1 h2; omega), δ, hV⟩
  exact ψ
 refine r_exit rfl ?_
 refine Zs ?_
 refine Zo (run_mv (v := vf) rfl η) ?_
 refine Zn (run_asg (v := vf) rfl η) ?_
 refine r_ret (res1 (v := vf) rfl η) ?_
 exact ⟨_, _, N1, rfl, ⟨by rw [List.take_of_length_le ω] at hsk; exact hsk, by omega, by rw [List.take_of_length_le ω] at hsz; omega⟩, by omega, hV, hb, hof⟩
theorem pl_70 : placesP Tryz.prog 70 = some [(0, 1), (1, 1)] := ζ
theorem ty_22 : tyP Tryz.prog 22 = some (1, 24, some (.slice none 0 0)) := ζ
theorem ty_70 : tyP Tryz.prog 70 = some (2, 32, some (.agg #[(.slice none 0 0), (.int .i64 0)])) := ζ
set_option maxHeartbeats 4000000 in
theorem classesZ_calls {y1 y2 T bs : Nat} {ao : Option Addr} {b off cap : Nat} {l : List Int} {N : Nat} {n : Int} {w0 : World} (hb : Blk w0 bs T [.slice ao l.length cap, .int .i64 (N : Nat)]) (hl : ∀ w', Evo w0 w' [bs] → RowE w' ao b off cap l) (hN : N ≤ 800000) (hn0 : 0 ≤ n) (hn9 : n ≤ 8) (hy1 : y1 < w0.heap.size) (hy2 : y2 < w0.heap.size) :
    Calls Tryz.prog 39 #[.pointer (some ⟨bs, 0, none⟩), .int .i64 n] w0 fun e w' => ∃ v, ∃ cl : List Clas, ∃ m N' : Nat, e = .returned v ∧ (MadeP cl m 0 ∧ (m : Int) ≤ n) ∧ (N ≤ N' ∧ N' ≤ N + 100) ∧ Evo w0 w' [bs] ∧ Blk w' bs T [.slice ao l.length cap, .int .i64 (N' : Nat)] ∧ OwnR w' w0.heap.size 110 [bs, y1, y2] v cl := by
 have hAs := hb.at; have hbslt := hb.lt
 refine calls_enter (n := 69) Tryz.func39 rfl Tryz.ntmps39 rfl ?_
 have hV : Evo w0 w0 [bs] := Evo.refl _ _
 have hl0 := hl
 replace hl := hl0 _ hV
 have hbd_hl := hl.bd
 refine Zs ?_
 refine Zn asS ?_
 refine Zs ?_
 refine Zn asS ?_
 refine r_seq ?_
 refine Zs ?_
 refine Zo mvP ?_
 refine Zo mvI ?_
 refine Zo (run_add rfl η η ω ω) ?_
 refine Zr [.pointer _, .int _ _] rfl η Tryz.func38 (nx_calls hb hl ω ω ω) ?_
 rintro e w1 ⟨nx1, rfl, hx1, F1, hn1⟩
 refine ⟨_, rfl, ?_⟩
 have Q1 := F1.size
 replace hV := Z1 hV F1 (.inr (by simp))
 replace hl := hl0 _ hV
 replace hb := hn1
 clear hn1
 have hAs := hb.at
 refine Zn asI ?_
 refine r_block ?_
 refine r_loop (α := Nat) [5, 6, 7, 8, 9, 10, 12, 17, 18, 19, 20, 21, 22, 23, 24, 25, 26, 27, 28, 29, 30, 31, 32, 33, 34, 35, 36, 37, 38, 39, 40, 41, 42, 43, 44, 45, 46, 47, 48, 49, 50, 51, 52, 53, 54, 55, 56, 57, 58, 59, 60, 61, 62, 63, 64, 65, 66, 67] (fun i g w => ∃ vo : Value, ∃ cl : List Clas, ∃ N1 : Nat, g 6 = .int .i64 (i : Nat) ∧ g 5 = vo ∧ OwnR w w0.heap.size 110 [bs, y1, y2] vo cl ∧ Blk w bs T [.slice ao l.length cap, .int .i64 (N1 : Nat)] ∧ At w bs 0 [.slice ao l.length cap, .int .i64 (N1 : Nat)] ∧ MadeP cl nx1.toNat i ∧ (N + 1 ≤ N1 ∧ N1 + 7 * i ≤ N + 1 + 7 * nx1.toNat) ∧ w1.heap.size ≤ w.heap.size ∧ Evo w0 w [bs]) (fun i => i) nx1.toNat ?_ ?_
 ·refine ⟨_, [], _, (congrArg (Value.int _) ω), rfl, (OwnR.nil _ _ _ _), hb, hb.at, (MadeP.nil _), δ, δ, hV⟩
 rintro i g w3 ⟨vo, cl, N1, hj4, hj5, hoR, hb, hAs, hMP, hN1, hzl2, hV⟩
 have hs_w3hV := hV.size
 have hlt6 := hb.lt
 refine Zk 6 (v := .int .i64 (i : Nat)) (by exact hj4) ?_
 refine Zk 5 (v := vo) (by exact hj5) ?_
 refine r_seq ?_
 refine Zs ?_
 refine Zo mvI ?_
 refine Zn (run_gtr rfl η η) ?_
 refine r_cond η (fun hc7 => ?_) (fun hc7 => ?_)
 ·skip
  refine r_skip ?_
  refine r_seq ?_
  refine r_block ?_
  refine r_seq ?_
  have hdl9 := decW_len 0 i [] ω; simp only [List.length_nil] at hdl9; have hcl9 := hMP.1
  have hI : Evo w3 w3 [bs] := Evo.refl _ _
  have hoR0 := hoR
  have hobR := fun g hg => (hoR.block (g := g) hg).2
  refine r_region ?_
  refine Zo mvI ?_
  refine Zr [.int _ _] rfl η Tryz.func72 (Decimal_calls ω) ?_
  rintro e w8 ⟨rfl, F8⟩
  refine ⟨_, rfl, ?_⟩
  have Q8 := F8.size
  replace hV := Z0 hV F8
  replace hI := Z0 hI F8
  replace hb := hb.evo0 F8
  replace hAs := hAs.evo0 F8
  refine Zo (run_sadd rfl η η (by first | omega | (simp; done) | (simp; omega))) ?_
  refine Zo (run_bld (pv := [(0, S _)]) (zs := [_, _]) (cells := [_, _]) rfl ty_110 η pl_110 η η) ?_
  refine r_var (zs := [_, _]) (vs := [_, _]) ty_110 η rfl η (fun _ => rfl) η rfl rfl η ?_
  intro b9 w10 J9 E10 B9 Y9
  have Q10 := E10.size
  replace hV := Z0 hV E10
  replace hI := Z0 hI E10
  replace hl := hl0 _ hV
  replace hb := hb.evo0 E10
  replace hAs := hAs.evo0 E10
  have hAb9 := B9.at
  refine r_nil ?_
  refine r_seq ?_
  refine Zs ?_
  refine Zo mvP ?_
  refine Zr [.pointer _, .int _ _] rfl η Tryz.func38 (nx_calls hb hl ω ω ω) ?_
  rintro e w11 ⟨nx11, rfl, hx11, F11, hn11⟩
  refine ⟨_, rfl, ?_⟩
  have Q11 := F11.size
  replace hV := Z1 hV F11 (.inr (by simp))
  replace hI := Z1 hI F11 ε
  replace hl := hl0 _ hV
  replace B9 := B9.evo F11 θ
  replace hAb9 := hAb9.evo F11 θ
  replace hb := hn11
  clear hn11
  have hAs := hb.at
  refine Zn asI ?_
  refine r_block ?_
  refine r_loop (α := Nat) [8, 9, 10, 12, 27, 28, 29, 30, 31, 32, 33, 34, 35, 36, 37, 38, 39, 40, 41, 42, 43, 44, 45, 46, 47, 48, 49, 50, 51, 52, 53, 54, 55, 56, 57, 58, 59, 60, 61, 62, 63] (fun kk g w => ∃ vs : Value, ∃ es : List Ende, ∃ N2 : Nat, g 8 = .int .i64 (kk : Nat) ∧ OwnE w w10.heap.size 112 vs es ∧ Blk w b9 110 [S (99 :: decW i []), vs] ∧ At w b9 0 [S (99 :: decW i []), vs] ∧ Blk w bs T [.slice ao l.length cap, .int .i64 (N2 : Nat)] ∧ At w bs 0 [.slice ao l.length cap, .int .i64 (N2 : Nat)] ∧ MadeE es ∧ (es.length + kk ≤ 3 ∧ N1 + 1 ≤ N2 ∧ N2 + 2 * kk ≤ N1 + 1 + 2 * nx11.toNat) ∧ w11.heap.size ≤ w.heap.size ∧ Evo w0 w [bs] ∧ Evo w3 w [bs]) (fun kk => kk) nx11.toNat ?_ ?_
  ·refine ⟨_, [], _, (congrArg (Value.int _) ω), (OwnE.nil _ _ _), B9, B9.at, hb, hb.at, MadeE.nil, θ, δ, hV, hI⟩
  rintro kk g w13 ⟨vs, es, N2, hj14, hos, B9, hAb9, hb, hAs, hME, hek, hzl12, hV, hI⟩
  have hs_w13hV := hV.size
  have hs_w13hI := hI.size
  have hlt15 := B9.lt
  have hlt16 := hb.lt
  replace hl := hl0 _ hV
  refine Zk 8 (v := .int .i64 (kk : Nat)) (by exact hj14) ?_
  refine r_seq ?_
  refine Zs ?_
  refine Zo mvI ?_
  refine Zn (run_gtr rfl η η) ?_
  refine r_cond η (fun hc17 => ?_) (fun hc17 => ?_)
  ·skip
   refine r_skip ?_
   refine r_seq ?_
   refine r_block ?_
   refine r_seq ?_
   refine r_cut [9, 31, 32, 33, 34, 35, 36, 37, 38, 39, 40, 41] (fun g w => ∃ bx : Nat, ∃ sx : Str, ∃ tx : Str, g 9 = .pointer (some ⟨bx, 0, none⟩) ∧ Blk w bx 112 (Enc.enc (⟨sx, tx⟩ : Ende)) ∧ At w bx 0 (Enc.enc (⟨sx, tx⟩ : Ende)) ∧ OwnE w w10.heap.size 112 vs es ∧ Blk w b9 110 [S (99 :: decW i []), vs] ∧ At w b9 0 [S (99 :: decW i []), vs] ∧ Blk w bs T [.slice ao l.length cap, .int .i64 (N2 + 2 : Nat)] ∧ At w bs 0 [.slice ao l.length cap, .int .i64 (N2 + 2 : Nat)] ∧ sx ∈ stripsL ∧ tx ∈ addsL ∧ w13.heap.size ≤ w.heap.size ∧ Evo w0 w [bs] ∧ Evo w3 w [bs]) ?_ ?_
   ·skip
    have hbsz : bs < w13.heap.size := by omega
    refine h_rgm M9 (I9 w13 bs 112 T N2 (.slice ao l.length cap)) ζ ζ (fun w1 he => I9.init (he.mono (by simp)) (hb.evo0 he)) ?_ ?_
    ·skip
     intro g w20 hI9
     obtain ⟨F19, hbz, bx, sx, tx, hbx1, hj9, hbx, hsx, htx⟩ := hI9.done
     refine Zk 9 (v := .pointer (some ⟨bx, 0, none⟩)) (by exact hj9) ?_
     have Q20 := F19.size
     replace hV := Z1 hV F19 (.inr (by simp))
     replace hI := Z1 hI F19 ε
     replace hl := hl0 _ hV
     replace hos := hos.evo F19 (by intro g hg hm; simp at hm; subst hm; have := hos.block hg; omega)
     replace B9 := B9.evo F19 θ
     replace hAb9 := hAb9.evo F19 θ
     have hb := hbz; have hAs := hb.at; have hAx := hbx.at
     refine r_cut_end ?_ ?_
     ·refine ⟨_, _, _, rfl, hbx, hbx.at, hos, B9, B9.at, hb, hb.at, hsx, htx, δ, hV, hI⟩
     exact ψ
    refine ⟨fun l9 g w hu hd ⟨hI9, hA9⟩ => ?_, ?_⟩
    ·skip
     obtain ⟨hE, hb, h12, hP⟩ := hI9.deps ω hu
     refine rg_step hA9 ?_
     have F1 : Evo w w [bs] := Evo.refl _ _
     have hcn := cn9_le l9
     have hszE := hE.size
     refine r_bslice (pv := [(0, S _), (1, S _), (2, S _), (3, S _), (4, S _)]) (zs := [_]) (cs := [_, _, _, _, _]) Tryz.underlying77 ty_9 η rfl η rfl η ?_
     intro b21 w22 J21 E22 B21 Y21
     have Q22 := E22.size
     replace hE := Z0 hE E22
     replace F1 := Z0 F1 E22
     replace hb := hb.evo0 E22
     have hrb21 : RowE w22 (some ⟨b21, 0, none⟩) b21 0 5 stripsL := rowLit stripsL B21 rfl rfl
     refine rg_end (And.intro ?_ ?_)
     ·exact I9.step (i := 0) ω hu hbsz h12 hP F1 hE (by rw [cn9_set (by decide) (by decide)]; exact hb) (same_put (same_merge (M := M9))) ⟨_, by omega, rfl, hrb21⟩
     exact ψ
    refine ⟨fun l9 g w hu hd ⟨hI9, hA9⟩ => ?_, ?_⟩
    ·skip
     obtain ⟨hE, hb, h12, hP⟩ := hI9.deps ω hu
     refine rg_step hA9 ?_
     have F1 : Evo w w [bs] := Evo.refl _ _
     have hcn := cn9_le l9
     have hszE := hE.size
     refine Zo mvP ?_
     refine rg_end (And.intro ?_ ?_)
     ·exact I9.step (i := 1) ω hu hbsz h12 hP F1 hE (by rw [cn9_set (by decide) (by decide)]; exact hb) (same_put (same_merge (M := M9))) rfl
     exact ψ
    refine ⟨fun l9 g w hu hd ⟨hI9, hA9⟩ => ?_, ?_⟩
    ·skip
     obtain ⟨hE, hb, h12, hP⟩ := hI9.deps ω hu
     refine rg_step hA9 ?_
     have F1 : Evo w w [bs] := Evo.refl _ _
     have hcn := cn9_le l9
     have hszE := hE.size
     have hj1 := hP 1 (dep_of hd 1 ζ)
     have hl := hl0 _ (Evo.trans hV hE (fun x hx _ => hx))
     refine r_knowL (i := 32) (v := .pointer (some ⟨bs, 0, none⟩)) (by exact hj1) ?_
     refine Zr [.pointer _, .int _ _] rfl η Tryz.func38 (nx_calls hb hl ω ω ω) ?_
     rintro e w23 ⟨nx23, rfl, hx23, F23, hn23⟩
     refine ⟨_, rfl, ?_⟩
     have Q23 := F23.size
     replace hE := Z1 hE F23 ε
     replace F1 := Z1 F1 F23 ε
     replace hb := hn23
     clear hn23
     refine rg_end (And.intro ?_ ?_)
     ·exact I9.step (i := 2) ω hu hbsz h12 hP F1 hE (by rw [cn9_2 hu]; exact hb) (same_put (same_know (same_merge (M := M9)) hj1)) ⟨_, rfl, hx23⟩
     exact ψ
    refine ⟨fun l9 g w hu hd ⟨hI9, hA9⟩ => ?_, ?_⟩
    ·skip
     obtain ⟨hE, hb, h12, hP⟩ := hI9.deps ω hu
     refine rg_step hA9 ?_
     have F1 : Evo w w [bs] := Evo.refl _ _
     have hcn := cn9_le l9
     have hszE := hE.size
     obtain ⟨bz, hbz1, hj1, hrz⟩ := hP 0 (dep_of hd 0 ζ)
     obtain ⟨rz, hj2, hr0, hr5⟩ := hP 2 (dep_of hd 2 ζ)
     refine r_knowL (i := 31) (v := .slice (some ⟨bz, 0, none⟩) 5 5) (by exact hj1) ?_
     refine r_knowL (i := 33) (v := .int .i64 rz) (by exact hj2) ?_
     refine Zo (run_ix (rz.toNat) rfl Tryz.underlying77 ty_9 η η ω (by show _ < 5; omega) (hrz.addr (i := rz.toNat) (by show _ < 5; omega))) ?_
     have hA24 := hrz.atD (rz.toNat) (by show _ < 5; omega)
     refine rg_end (And.intro ?_ ?_)
     ·exact I9.step (i := 3) ω hu hbsz h12 hP F1 hE (by rw [cn9_set (by decide) (by decide)]; exact hb) (same_put (same_know (same_know (same_merge (M := M9)) hj1) hj2)) (by obtain ⟨sq, hq1, hq2⟩ := elem_in hrz (show rz.toNat < _ by show _ < 5; omega) rfl; exact ⟨_, _, sq, by omega, rfl, hq1, hq2⟩)
     exact ψ
    refine ⟨fun l9 g w hu hd ⟨hI9, hA9⟩ => ?_, ?_⟩
    ·skip
     obtain ⟨hE, hb, h12, hP⟩ := hI9.deps ω hu
     refine rg_step hA9 ?_
     have F1 : Evo w w [bs] := Evo.refl _ _
     have hcn := cn9_le l9
     have hszE := hE.size
     obtain ⟨bz, jz, sz, hbz1, hj1, haz, hsz⟩ := hP 3 (dep_of hd 3 ζ)
     refine r_knowL (i := 34) (v := .pointer (some ⟨bz, jz, none⟩)) (by exact hj1) ?_
     refine Zo (run_ld1 rfl ag_9 η (haz.cell 0 η)) ?_
     refine rg_end (And.intro ?_ ?_)
     ·exact I9.step (i := 4) ω hu hbsz h12 hP F1 hE (by rw [cn9_set (by decide) (by decide)]; exact hb) (same_put (same_know (same_merge (M := M9)) hj1)) ⟨_, rfl, hsz⟩
     exact ψ
    refine ⟨fun l9 g w hu hd ⟨hI9, hA9⟩ => ?_, ?_⟩
    ·skip
     obtain ⟨hE, hb, h12, hP⟩ := hI9.deps ω hu
     refine rg_step hA9 ?_
     have F1 : Evo w w [bs] := Evo.refl _ _
     have hcn := cn9_le l9
     have hszE := hE.size
     refine r_bslice (pv := [(0, S _), (1, S _), (2, S _), (3, S _), (4, S _), (5, S _)]) (zs := [_]) (cs := [_, _, _, _, _, _]) Tryz.underlying77 ty_9 η rfl η rfl η ?_
     intro b25 w26 J25 E26 B25 Y25
     have Q26 := E26.size
     replace hE := Z0 hE E26
     replace F1 := Z0 F1 E26
     replace hb := hb.evo0 E26
     have hrb25 : RowE w26 (some ⟨b25, 0, none⟩) b25 0 6 addsL := rowLit addsL B25 rfl rfl
     refine rg_end (And.intro ?_ ?_)
     ·exact I9.step (i := 5) ω hu hbsz h12 hP F1 hE (by rw [cn9_set (by decide) (by decide)]; exact hb) (same_put (same_merge (M := M9))) ⟨_, by omega, rfl, hrb25⟩
     exact ψ
    refine ⟨fun l9 g w hu hd ⟨hI9, hA9⟩ => ?_, ?_⟩
    ·skip
     obtain ⟨hE, hb, h12, hP⟩ := hI9.deps ω hu
     refine rg_step hA9 ?_
     have F1 : Evo w w [bs] := Evo.refl _ _
     have hcn := cn9_le l9
     have hszE := hE.size
     refine Zo mvP ?_
     refine rg_end (And.intro ?_ ?_)
     ·exact I9.step (i := 6) ω hu hbsz h12 hP F1 hE (by rw [cn9_set (by decide) (by decide)]; exact hb) (same_put (same_merge (M := M9))) rfl
     exact ψ
    refine ⟨fun l9 g w hu hd ⟨hI9, hA9⟩ => ?_, ?_⟩
    ·skip
     obtain ⟨hE, hb, h12, hP⟩ := hI9.deps ω hu
     refine rg_step hA9 ?_
     have F1 : Evo w w [bs] := Evo.refl _ _
     have hcn := cn9_le l9
     have hszE := hE.size
     have hj1 := hP 6 (dep_of hd 6 ζ)
     have hl := hl0 _ (Evo.trans hV hE (fun x hx _ => hx))
     refine r_knowL (i := 37) (v := .pointer (some ⟨bs, 0, none⟩)) (by exact hj1) ?_
     refine Zr [.pointer _, .int _ _] rfl η Tryz.func38 (nx_calls hb hl ω ω ω) ?_
     rintro e w27 ⟨nx27, rfl, hx27, F27, hn27⟩
     refine ⟨_, rfl, ?_⟩
     have Q27 := F27.size
     replace hE := Z1 hE F27 ε
     replace F1 := Z1 F1 F27 ε
     replace hb := hn27
     clear hn27
     refine rg_end (And.intro ?_ ?_)
     ·exact I9.step (i := 7) ω hu hbsz h12 hP F1 hE (by rw [cn9_7 hu]; exact hb) (same_put (same_know (same_merge (M := M9)) hj1)) ⟨_, rfl, hx27⟩
     exact ψ
    refine ⟨fun l9 g w hu hd ⟨hI9, hA9⟩ => ?_, ?_⟩
    ·skip
     obtain ⟨hE, hb, h12, hP⟩ := hI9.deps ω hu
     refine rg_step hA9 ?_
     have F1 : Evo w w [bs] := Evo.refl _ _
     have hcn := cn9_le l9
     have hszE := hE.size
     obtain ⟨bz, hbz1, hj1, hrz⟩ := hP 5 (dep_of hd 5 ζ)
     obtain ⟨rz, hj2, hr0, hr5⟩ := hP 7 (dep_of hd 7 ζ)
     refine r_knowL (i := 36) (v := .slice (some ⟨bz, 0, none⟩) 6 6) (by exact hj1) ?_
     refine r_knowL (i := 38) (v := .int .i64 rz) (by exact hj2) ?_
     refine Zo (run_ix (rz.toNat) rfl Tryz.underlying77 ty_9 η η ω (by show _ < 6; omega) (hrz.addr (i := rz.toNat) (by show _ < 6; omega))) ?_
     have hA28 := hrz.atD (rz.toNat) (by show _ < 6; omega)
     refine rg_end (And.intro ?_ ?_)
     ·exact I9.step (i := 8) ω hu hbsz h12 hP F1 hE (by rw [cn9_set (by decide) (by decide)]; exact hb) (same_put (same_know (same_know (same_merge (M := M9)) hj1) hj2)) (by obtain ⟨sq, hq1, hq2⟩ := elem_in hrz (show rz.toNat < _ by show _ < 6; omega) rfl; exact ⟨_, _, sq, by omega, rfl, hq1, hq2⟩)
     exact ψ
    refine ⟨fun l9 g w hu hd ⟨hI9, hA9⟩ => ?_, ?_⟩
    ·skip
     obtain ⟨hE, hb, h12, hP⟩ := hI9.deps ω hu
     refine rg_step hA9 ?_
     have F1 : Evo w w [bs] := Evo.refl _ _
     have hcn := cn9_le l9
     have hszE := hE.size
     obtain ⟨bz, jz, sz, hbz1, hj1, haz, hsz⟩ := hP 8 (dep_of hd 8 ζ)
     refine r_knowL (i := 39) (v := .pointer (some ⟨bz, jz, none⟩)) (by exact hj1) ?_
     refine Zo (run_ld1 rfl ag_9 η (haz.cell 0 η)) ?_
     refine rg_end (And.intro ?_ ?_)
     ·exact I9.step (i := 9) ω hu hbsz h12 hP F1 hE (by rw [cn9_set (by decide) (by decide)]; exact hb) (same_put (same_know (same_merge (M := M9)) hj1)) ⟨_, rfl, hsz⟩
     exact ψ
    refine ⟨fun l9 g w hu hd ⟨hI9, hA9⟩ => ?_, ?_⟩
    ·skip
     obtain ⟨hE, hb, h12, hP⟩ := hI9.deps ω hu
     refine rg_step hA9 ?_
     have F1 : Evo w w [bs] := Evo.refl _ _
     have hcn := cn9_le l9
     have hszE := hE.size
     obtain ⟨sz, hj1, hsz⟩ := hP 4 (dep_of hd 4 ζ)
     obtain ⟨tz, hj2, htz⟩ := hP 9 (dep_of hd 9 ζ)
     refine r_knowL (i := 35) (v := S sz) (by exact hj1) ?_
     refine r_knowL (i := 40) (v := S tz) (by exact hj2) ?_
     refine Zo (run_bld (pv := [(0, S _), (1, S _)]) (zs := [_, _]) (cells := [_, _]) rfl ty_112 η pl_112 η η) ?_
     refine rg_end (And.intro ?_ ?_)
     ·exact I9.step (i := 10) ω hu hbsz h12 hP F1 hE (by rw [cn9_set (by decide) (by decide)]; exact hb) (same_put (same_know (same_know (same_merge (M := M9)) hj1) hj2)) ⟨_, _, rfl, hsz, htz⟩
     exact ψ
    refine ⟨fun l9 g w hu hd ⟨hI9, hA9⟩ => ?_, ?_⟩
    ·skip
     obtain ⟨hE, hb, h12, hP⟩ := hI9.deps ω hu
     refine rg_step hA9 ?_
     have F1 : Evo w w [bs] := Evo.refl _ _
     have hcn := cn9_le l9
     have hszE := hE.size
     refine r_alloc (zs := [_, _]) ty_112 η rfl ?_
     intro b29 w30 J29 E30 B29 Y29
     have Q30 := E30.size
     replace hE := Z0 hE E30
     replace F1 := Z0 F1 E30
     replace hb := hb.evo0 E30
     refine rg_end (And.intro ?_ ?_)
     ·exact I9.step (i := 11) ω hu hbsz h12 hP F1 hE (by rw [cn9_set (by decide) (by decide)]; exact hb) (same_put (same_merge (M := M9))) ⟨_, by omega, rfl, [], [], B29⟩
     exact ψ
    refine ⟨fun l9 g w hu hd ⟨hI9, hA9⟩ => ?_, ?_⟩
    ·skip
     obtain ⟨hE, hb, h12, hP⟩ := hI9.deps ω hu
     refine rg_step hA9 ?_
     have F1 : Evo w w [bs] := Evo.refl _ _
     have hcn := cn9_le l9
     have hszE := hE.size
     have hAs := hb.at
     obtain ⟨bz, hbz1, hj1, sy, ty, hbx⟩ := hP 11 (dep_of hd 11 ζ)
     obtain ⟨sz, tz, hj2, hsz, htz⟩ := hP 10 (dep_of hd 10 ζ)
     refine r_knowL (i := 9) (v := .pointer (some ⟨bz, 0, none⟩)) (by exact hj1) ?_
     refine r_knowL (i := 41) (v := .agg #[S sz, S tz]) (by exact hj2) ?_
     refine r_store (v := .agg _) (vs := [_, _]) (cs' := [_, _]) η η hbx ty_112 η rfl η rfl η ?_
     intro w31 E31 V31 hb_new
     have Q31 := E31.size
     replace hE := Z1 hE E31 ε
     replace hb := hb.evo E31 θ
     replace hAs := hAs.evo E31 θ
     replace hbx := hb_new
     clear hb_new
     refine rg_end (And.intro ?_ ?_)
     ·exact I9.last hu (deps_all hd ζ) hE (by rw [cn9_set (by decide) (by decide)]; exact hb) ⟨bz, sz, tz, by omega, rfl, hbx, hsz, htz⟩
     exact ψ
    exact trivial
   rintro g w32 ⟨bx, sx, tx, hj33, hbx, hAx, hos, B9, hAb9, hb, hAs, hsx, htx, hzl18, hV, hI⟩
   have hs_w32hV := hV.size
   have hs_w32hI := hI.size
   have hlt34 := hbx.lt
   have hlt35 := B9.lt
   have hlt36 := hb.lt
   replace hl := hl0 _ hV
   refine Zk 9 (v := .pointer (some ⟨bx, 0, none⟩)) (by exact hj33) ?_
   refine Zs ?_
   refine Zn asB ?_
   refine r_seq ?_
   refine Zs ?_
   refine Zo (run_fa rfl η fo_110_1) ?_
   refine Zo (run_ld1 rfl ag_108 η (hAb9.cell 1 η)) ?_
   refine Zo (run_lenOE rfl η Tryz.underlying108 hos) ?_
   refine Zn mvI ?_
   refine r_block ?_
   have hbdo := hos.bd
   obtain ⟨ao37, g37, cp37, hv37, hr37, hg37⟩ := hos.rowOf
   subst hv37
   refine r_loop (α := Nat) [10, 12, 45, 46, 47, 48, 49, 50, 51, 52, 53, 54, 55] (fun k g w => g 45 = .int .i64 (k : Nat) ∧ g 10 = .bool (decide ((⟨sx, tx⟩ : Ende) ∈ es.take k)) ∧ k ≤ es.length ∧ RowE w ao37 g37 0 cp37 es ∧ OwnE w w10.heap.size 112 (.slice ao37 es.length cp37) es ∧ Blk w b9 110 [S (99 :: decW i []), .slice ao37 es.length cp37] ∧ At w b9 0 [S (99 :: decW i []), .slice ao37 es.length cp37] ∧ Blk w bs T [.slice ao l.length cap, .int .i64 (N2 + 2 : Nat)] ∧ At w bs 0 [.slice ao l.length cap, .int .i64 (N2 + 2 : Nat)] ∧ Blk w bx 112 (Enc.enc (⟨sx, tx⟩ : Ende)) ∧ At w bx 0 (Enc.enc (⟨sx, tx⟩ : Ende)) ∧ w32.heap.size ≤ w.heap.size ∧ Evo w0 w [bs] ∧ Evo w3 w [bs]) (fun k => es.length - k) 0 ?_ ?_
   ·refine ⟨σ, (congrArg Value.bool (by simp)), δ, hr37, δ, δ, δ, δ, δ, δ, δ, δ, hV, hI⟩
   rintro k g w39 ⟨hj40, hj41, hk_k, hro, hos, B9, hAb9, hb, hAs, hbx, hAx, hzl38, hV, hI⟩
   have hs_w39hV := hV.size
   have hs_w39hI := hI.size
   have hlt42 := B9.lt
   have hlt43 := hb.lt
   have hlt44 := hbx.lt
   replace hl := hl0 _ hV
   refine Zk 45 (v := .int .i64 (k : Nat)) (by exact hj40) ?_
   refine Zk 10 (v := .bool (decide ((⟨sx, tx⟩ : Ende) ∈ es.take k))) (by exact hj41) ?_
   refine Zs ?_
   refine Zn (run_lss rfl η η) ?_
   refine r_seq ?_
   refine r_cond η (fun hc45 => ?_) (fun hc45 => ?_)
   ·skip
    refine r_skip ?_
    refine r_seq ?_
    refine r_block ?_
    refine Zs ?_
    refine Zo (run_ix (k) rfl Tryz.underlying108 ty_112 η η (by first | exact rfl | omega) ω (hro.addr (i := k) ω)) ?_
    have hA46 := hro.atD (k) ω
    refine Zo (run_ldN rfl ag_112 ty_112 η rfl hA46) ?_
    have hob47 := fun g hg => (hos.block (g := g) hg).2
    refine r_var (zs := [_, _]) (vs := [_, _]) ty_112 η rfl η (fun _ => rfl) η rfl rfl η ?_
    intro b48 w49 J48 E49 B48 Y48
    have Q49 := E49.size
    replace hV := Z0 hV E49
    replace hI := Z0 hI E49
    replace hl := hl0 _ hV
    replace hro := hro.evo0 E49
    replace hos := hos.evo0 E49
    replace B9 := B9.evo0 E49
    replace hAb9 := hAb9.evo0 E49
    replace hb := hb.evo0 E49
    replace hAs := hAs.evo0 E49
    replace hbx := hbx.evo0 E49
    replace hAx := hAx.evo0 E49
    refine r_nil ?_
    refine r_region ?_
    refine Zo (run_mvb rfl η) ?_
    refine Zo mvB ?_
    refine r_g rfl (wantF η) rfl (fun hg => run_ldN rfl ag_112 ty_112 η rfl hAx) ?_
    refine r_g rfl (wantF η) rfl (fun hg => run_ldN rfl ag_112 ty_112 η rfl B48.at) ?_
    refine r_g rfl (wantF η) rfl (fun hg => run_eqlG (α := Ende) _ _ rfl Tryz.eqGuardType112 ee_112 (glv η (fun h => h) hg) (glv η (fun h => h) hg)) ?_
    refine Zo (run_pick_or rfl η rfl (fun hq => glv η (fun h => h) hq)) ?_
    refine Zn asB ?_
    refine r_blk ?_
    refine r_region ?_
    refine Zo (run_add rfl η η ω ω) ?_
    refine Zn mvI ?_
    refine r_again (k + 1) ?_ ?_ ?_
    ·first | omega | (dsimp only; omega)
    ·refine ⟨σ, (congrArg Value.bool (decide_eq_decide.2 ((or_congr_left decide_eq_true_iff).trans (mem_takeS (x := (⟨sx, tx⟩ : Ende)) (l := es) (k := k) ω)))), δ, hro, hos, B9, hAb9, hb, hAs, hbx, hAx, δ, hV, hI⟩
    exact ψ
   refine r_exit rfl ?_
   refine Zs ?_
   refine Zo (run_mvb rfl η) ?_
   refine Zn (run_not rfl η) ?_
   refine r_cond η (fun hc50 => ?_) (fun hc50 => ?_)
   ·skip
    refine r_region ?_
    refine Zo (run_fa rfl η fo_110_1) ?_
    refine Zo (run_ld1 rfl ag_108 η (hAb9.cell 1 η)) ?_
    refine Zo (run_ldN rfl ag_112 ty_112 η rfl hAx) ?_
    refine r_append1E (u := .agg _) (y := (⟨sx, tx⟩ : Ende)) rfl rfl Tryz.underlying108 ty_112 η hos (fun _ => η) η (by first | exact rfl | (show _ = List.toArray [_, _]; first | (dsimp only; done) | exact rfl | (dsimp only; exact rfl))) ((by first | omega | (simp; omega))) ((by first | omega | (simp; omega))) ω ?_
    intro q_v51 v51 w52 E52 hov51 hlv51
    have Q52 := E52.size
    replace hV := evo_stepo hV E52 (fun g hg => .inl (by first | exact (hos.block hg).1 | (have := hos.block hg; omega)))
    replace hI := evo_stepo hI E52 (fun g hg => .inl (by first | exact (hos.block hg).1 | (have := hos.block hg; omega)))
    replace B9 := B9.evo E52 (by intro hm; have hm2 := Option.mem_toList.1 hm; have := hos.block hm2; omega)
    replace hAb9 := hAb9.evo E52 (by intro hm; have hm2 := Option.mem_toList.1 hm; have := hos.block hm2; omega)
    replace hb := hb.evo E52 (by intro hm; have hm2 := Option.mem_toList.1 hm; have := hos.block hm2; omega)
    have hos := hov51
    refine Zo (run_fa rfl η fo_110_1) ?_
    obtain ⟨ao53, cp53, hv53⟩ := hos.shape
    subst hv53
    refine r_store (v := .slice _ _ _) (vs := [_]) (cs' := [_, _]) η η B9 ty_108 η rfl η rfl η ?_
    intro w54 E54 V54 hb_new
    have Q54 := E54.size
    replace hV := Z1 hV E54 ε
    replace hI := Z1 hI E54 ε
    replace hl := hl0 _ hV
    replace hb := hb.evo E54 θ
    replace hos := hos.evo E54 (by intro g hg hm; simp at hm; subst hm; have := hos.block hg; omega)
    replace B9 := hb_new
    have hAb9 := B9.at
    clear hb_new
    refine r_nil ?_
    refine r_blk ?_
    refine r_region ?_
    refine Zo mvI ?_
    refine Zo (run_sub rfl η η ω ω) ?_
    refine Zn asI ?_
    refine r_again (kk - 1) ?_ ?_ ?_
    ·first | omega | (dsimp only; omega)
    ·refine ⟨_, _, _, σ, hos, B9, B9.at, hb, hb.at, (by first | exact hME | exact hME.snoc (by have h8 := hc50; rw [List.take_of_length_le ω] at h8; exact fun h9 => h8 (decide_eq_true h9)) hsx htx), (by first | omega | (simp; omega)), δ, hV, hI⟩
    exact ψ
   refine r_skip ?_
   refine r_blk ?_
   refine r_region ?_
   refine Zo mvI ?_
   refine Zo (run_sub rfl η η ω ω) ?_
   refine Zn asI ?_
   refine r_again (kk - 1) ?_ ?_ ?_
   ·first | omega | (dsimp only; omega)
   ·refine ⟨_, _, _, σ, hos, B9, B9.at, hb, hb.at, (by first | exact hME | exact hME.snoc (by have h8 := hc50; rw [List.take_of_length_le ω] at h8; exact fun h9 => h8 (decide_eq_true h9)) hsx htx), (by first | omega | (simp; omega)), δ, hV, hI⟩
   exact ψ
  refine r_exit rfl ?_
  have hoR := hoR0.evoY (hI.mono (by simp)) θ
  clear hoR0
  obtain ⟨aoS, cpS, hvS⟩ := hos.shape
  subst hvS
  refine r_region ?_
  refine Zo (run_mv (v := vo) rfl η) ?_
  refine Zo (run_ldN rfl ag_110 ty_110 η rfl hAb9) ?_
  refine r_append1R (u := .agg _) (us := [_, _]) rfl rfl Tryz.underlying26 ty_110 η rfl rfl hoR (fun _ => η) η η rfl η (clas_own _ hos θ (fun g hg => by have := hobR g hg; omega) (made_bdC hME ω ω)) ((by first | omega | (simp; omega))) ((by first | omega | (simp; omega))) ω ?_
  intro q_v55 v55 w56 E56 hov55 hlv55
  have Q56 := E56.size
  replace hV := evo_stepo hV E56 (fun g hg => .inl (by first | exact (hoR.block hg).1 | (have := hoR.block hg; omega)))
  replace hl := hl0 _ hV
  replace hb := hb.evo E56 (by intro hm; have hm2 := Option.mem_toList.1 hm; have := hoR.block hm2; omega)
  refine Zn (run_asg (v := v55) rfl η) ?_
  refine r_blk ?_
  refine r_region ?_
  refine Zo mvI ?_
  refine Zo (run_sub rfl η η ω ω) ?_
  refine Zn asI ?_
  refine r_again (i - 1) ?_ ?_ ?_
  ·first | omega | (dsimp only; omega)
  ·refine ⟨_, _, _, σ, rfl, hov55, hb, hb.at, (hMP.snoc ω rfl hME ω), δ, δ, hV⟩
  exact ψ
 refine r_exit rfl ?_
 refine Zs ?_
 refine Zo (run_mv (v := vo) rfl η) ?_
 refine Zn (run_asg (v := vo) rfl η) ?_
 refine r_ret (res1 (v := vo) rfl η) ?_
 exact ⟨_, cl, _, N1, rfl, ⟨(by rw [show i = 0 by omega] at hMP; exact hMP), by omega⟩, by omega, hV, hb, hoR.sub ω (by simp)⟩
set_option maxHeartbeats 4000000 in
theorem termsZ_make {y1 y2 T bs : Nat} {ao : Option Addr} {b off cap : Nat} {l : List Int} {N : Nat} {aoc : Option Addr} {bc offc capc : Nat} {c : List Clas} {n : Int} {w0 : World} (hb : Blk w0 bs T [.slice ao l.length cap, .int .i64 (N : Nat)]) (hl : ∀ w', Evo w0 w' [bs] → RowE w' ao b off cap l) (hN : N ≤ 800000) (hc : RowRK w0 [bs] aoc bc offc capc c) (hcn0 : ∀ x ∈ c, x.name.length ≤ 1000) (hcl9 : c.length ≤ 1000000) (hn0 : 0 ≤ n) (hn9 : n ≤ 8) (hy1 : y1 < w0.heap.size) (hy2 : y2 < w0.heap.size) :
    Calls Tryz.prog 40 #[.pointer (some ⟨bs, 0, none⟩), .slice aoc c.length capc, .int .i64 n] w0 fun e w' => ∃ v, ∃ ts : List TermL, ∃ N' : Nat, e = .returned v ∧ ((∀ x ∈ ts, MadeTc c x) ∧ (ts.length : Int) ≤ n) ∧ (N ≤ N' ∧ N' ≤ N + 300) ∧ Evo w0 w' [bs] ∧ Blk w' bs T [.slice ao l.length cap, .int .i64 (N' : Nat)] ∧ OwnR w' w0.heap.size 85 [bs, y1, y2] v ts := by
 have hAs := hb.at; have hbslt := hb.lt
 refine calls_enter (n := 88) Tryz.func40 rfl Tryz.ntmps40 rfl ?_
 have hV : Evo w0 w0 [bs] := Evo.refl _ _
 have hl0 := hl
 replace hl := hl0 _ hV
 have hbd_hl := hl.bd
 have hc0 := hc
 replace hc := hc0.now hV
 have hbd_hc := hc.bd
 refine Zs ?_
 refine Zn asS ?_
 refine Zs ?_
 refine Zn asS ?_
 refine r_seq ?_
 refine Zs ?_
 refine Zo mvP ?_
 refine Zo mvI ?_
 refine Zo (run_add rfl η η ω ω) ?_
 refine Zr [.pointer _, .int _ _] rfl η Tryz.func38 (nx_calls hb hl ω ω ω) ?_
 rintro e w1 ⟨nx1, rfl, hx1, F1, hn1⟩
 refine ⟨_, rfl, ?_⟩
 have Q1 := F1.size
 replace hV := Z1 hV F1 (.inr (by simp))
 replace hl := hl0 _ hV
 replace hc := hc0.now hV
 replace hb := hn1
 clear hn1
 have hAs := hb.at
 refine Zn asI ?_
 refine r_block ?_
 refine r_loop (α := Nat) [7, 8, 9, 10, 11, 12, 13, 18, 19, 20, 21, 22, 23, 24, 25, 26, 27, 28, 29, 30, 31, 32, 33, 34, 35, 36, 37, 38, 39, 40, 41, 42, 43, 44, 45, 46, 47, 48, 49, 50, 51, 52, 53, 54, 55, 56, 57, 58, 59, 60, 61, 62, 63, 64, 65, 66, 67, 68, 69, 70, 71, 72, 73, 74, 75, 76, 77, 78, 79, 80, 81, 82, 83, 84, 85, 86] (fun i g w => ∃ vo : Value, ∃ ts : List TermL, ∃ N1 : Nat, g 8 = .int .i64 (i : Nat) ∧ g 7 = vo ∧ OwnR w w0.heap.size 85 [bs, y1, y2] vo ts ∧ Blk w bs T [.slice ao l.length cap, .int .i64 (N1 : Nat)] ∧ At w bs 0 [.slice ao l.length cap, .int .i64 (N1 : Nat)] ∧ (∀ x ∈ ts, MadeTc c x) ∧ (ts.length + i = nx1.toNat ∧ N + 1 ≤ N1 ∧ N1 + 28 * i ≤ N + 1 + 28 * nx1.toNat) ∧ w1.heap.size ≤ w.heap.size ∧ Evo w0 w [bs]) (fun i => i) nx1.toNat ?_ ?_
 ·refine ⟨_, [], _, (congrArg (Value.int _) ω), rfl, (OwnR.nil _ _ _ _), hb, hb.at, (fun x hx => absurd hx List.not_mem_nil), (by first | (simp; done) | (simp; omega)), δ, hV⟩
 rintro i g w3 ⟨vo, ts, N1, hj4, hj5, hoR, hb, hAs, hMT, hN1, hzl2, hV⟩
 have hs_w3hV := hV.size
 have hlt6 := hb.lt
 refine Zk 8 (v := .int .i64 (i : Nat)) (by exact hj4) ?_
 refine Zk 7 (v := vo) (by exact hj5) ?_
 refine r_seq ?_
 refine Zs ?_
 refine Zo mvI ?_
 refine Zn (run_gtr rfl η η) ?_
 refine r_cond η (fun hc7 => ?_) (fun hc7 => ?_)
 ·skip
  refine r_skip ?_
  refine r_seq ?_
  refine r_block ?_
  refine r_seq ?_
  have hI : Evo w3 w3 [bs] := Evo.refl _ _
  have hoR0 := hoR
  have hobR := fun g hg => (hoR.block (g := g) hg).2
  refine r_region ?_
  refine r_alloc (zs := [_, _, _]) ty_85 η rfl ?_
  intro b8 w9 J8 E9 B8 Y8
  have Q9 := E9.size
  replace hV := Z0 hV E9
  replace hI := Z0 hI E9
  replace hl := hl0 _ hV
  replace hb := hb.evo0 E9
  replace hAs := hAs.evo0 E9
  have hAb8 := B8.at
  refine r_nil ?_
  refine r_seq ?_
  refine Zs ?_
  refine Zo mvP ?_
  refine Zr [.pointer _, .int _ _] rfl η Tryz.func38 (nx_calls hb hl ω ω ω) ?_
  rintro e w10 ⟨nx10, rfl, hx10, F10, hn10⟩
  refine ⟨_, rfl, ?_⟩
  have Q10 := F10.size
  replace hV := Z1 hV F10 (.inr (by simp))
  replace hI := Z1 hI F10 ε
  replace hl := hl0 _ hV
  replace hc := hc0.now hV
  replace B8 := B8.evo F10 θ
  replace hAb8 := hAb8.evo F10 θ
  replace hb := hn10
  clear hn10
  have hAs := hb.at
  refine Zn asI ?_
  refine r_block ?_
  refine r_loop (α := Nat) [10, 11, 24, 25, 26, 27, 28, 29, 30, 31, 32, 33, 34, 35, 36, 37, 38, 39, 40, 41, 42, 43, 44, 45, 46, 47, 48, 49, 50, 51, 52, 53, 54, 55, 56] (fun kk g w => ∃ vs : Value, ∃ ws : List Ende, ∃ N2 : Nat, g 10 = .int .i64 ((kk : Nat) - 1 : Int) ∧ OwnE w w9.heap.size 88 vs ws ∧ Blk w b8 85 [vs, .slice none 0 0, .slice none 0 0] ∧ At w b8 0 [vs, .slice none 0 0, .slice none 0 0] ∧ Blk w bs T [.slice ao l.length cap, .int .i64 (N2 : Nat)] ∧ At w bs 0 [.slice ao l.length cap, .int .i64 (N2 : Nat)] ∧ (∀ y ∈ ws, (y.strip ∈ stemW ∧ y.add.length ≤ 1000) ∧ ClsW c y.add) ∧ (ws.length + kk = (nx10.toNat + 1) ∧ N1 + 1 ≤ N2 ∧ N2 + 3 * kk ≤ N1 + 1 + 3 * (nx10.toNat + 1)) ∧ w10.heap.size ≤ w.heap.size ∧ Evo w0 w [bs] ∧ Evo w3 w [bs]) (fun kk => kk) (nx10.toNat + 1) ?_ ?_
  ·refine ⟨_, [], _, (congrArg (Value.int _) ω), (OwnE.nil _ _ _), B8, B8.at, hb, hb.at, (fun y hy => absurd hy List.not_mem_nil), (by first | (simp; done) | (simp; omega)), δ, hV, hI⟩
  rintro kk g w12 ⟨vs, ws, N2, hj13, hos, B8, hAb8, hb, hAs, hws, hwk, hzl11, hV, hI⟩
  have hs_w12hV := hV.size
  have hs_w12hI := hI.size
  have hlt14 := B8.lt
  have hlt15 := hb.lt
  replace hl := hl0 _ hV
  refine Zk 10 (v := .int .i64 ((kk : Nat) - 1 : Int)) (by exact hj13) ?_
  refine r_seq ?_
  refine Zs ?_
  refine Zo mvI ?_
  refine Zn (run_geq rfl η η) ?_
  refine r_cond η (fun hc16 => ?_) (fun hc16 => ?_)
  ·skip
   refine r_skip ?_
   refine r_seq ?_
   refine r_block ?_
   refine r_seq ?_
   have hobS := fun g hg => (hos.block (g := g) hg).2
   refine r_region ?_
   refine r_bslice (pv := [(0, S _), (1, S _), (2, S _), (3, S _), (4, S _), (5, S _)]) (zs := [_]) (cs := [_, _, _, _, _, _]) Tryz.underlying77 ty_9 η rfl η rfl η ?_
   intro b17 w18 J17 E18 B17 Y17
   have Q18 := E18.size
   replace hV := Z0 hV E18
   replace hI := Z0 hI E18
   replace hl := hl0 _ hV
   replace hos := hos.evo0 E18
   replace B8 := B8.evo0 E18
   replace hAb8 := hAb8.evo0 E18
   replace hb := hb.evo0 E18
   replace hAs := hAs.evo0 E18
   have hrb17 : RowE w18 (some ⟨b17, 0, none⟩) b17 0 6 stemW := rowLit stemW B17 rfl rfl
   refine Zo mvP ?_
   refine Zr [.pointer _, .int _ _] rfl η Tryz.func38 (nx_calls hb hl ω ω ω) ?_
   rintro e w19 ⟨nx19, rfl, hx19, F19, hn19⟩
   refine ⟨_, rfl, ?_⟩
   have Q19 := F19.size
   replace hV := Z1 hV F19 (.inr (by simp))
   replace hI := Z1 hI F19 ε
   replace hos := hos.evo F19 (by intro g hg hm; simp at hm; subst hm; have h7 := hobS g hg; have h6 := hos.block hg; omega)
   replace B8 := B8.evo F19 θ
   replace hAb8 := hAb8.evo F19 θ
   replace hrb17 := hrb17.evo F19 θ
   replace hb := hn19
   clear hn19
   have hAs := hb.at
   refine Zo (run_ix (nx19.toNat) rfl Tryz.underlying77 ty_9 η η ω (by show _ < 6; omega) (hrb17.addr (i := nx19.toNat) (by show _ < 6; omega))) ?_
   have hA20 := hrb17.atD (nx19.toNat) (by show _ < 6; omega)
   refine Zo (run_ld1 rfl ag_9 η (hA20.cell 0 η)) ?_
   refine Zo (run_bld (pv := [(0, S _)]) (zs := [_, _]) (cells := [_, _]) rfl ty_88 η pl_88 η η) ?_
   have hob21 := fun g hg => (hos.block (g := g) hg).2
   refine r_var (zs := [_, _]) (vs := [_, _]) ty_88 η rfl η (fun _ => rfl) η rfl rfl η ?_
   intro b22 w23 J22 E23 B22 Y22
   have Q23 := E23.size
   replace hV := Z0 hV E23
   replace hI := Z0 hI E23
   replace hl := hl0 _ hV
   replace hos := hos.evo0 E23
   replace B8 := B8.evo0 E23
   replace hAb8 := hAb8.evo0 E23
   replace hrb17 := hrb17.evo0 E23
   replace hb := hb.evo0 E23
   replace hAs := hAs.evo0 E23
   have hAb22 := B22.at
   refine r_nil ?_
   refine r_seq ?_
   refine Zs ?_
   refine Zo mvS ?_
   refine Zo (run_lenSl rfl η Tryz.underlying26) ?_
   refine Zo (run_gtr rfl η η) ?_
   refine Zo mvB ?_
   refine r_g rfl (wantT η) rfl (fun hg => mvP) ?_
   refine r_gnext rfl (wantT η) rfl (fun hg => run_callf rfl (argcons (v := .pointer _) (glv η (fun h => h) hg) (argcons (v := .int _ _) η (rfl))) Tryz.func38 rfl ζ) (fun hg => (nx_calls hb hl ω ω ω)) hb ?_
   intro nx25 w24 Ng25 hx25 F25 hna25 hnb25 hbn
   have Q24 := F25.size
   replace hV := Z1 hV F25 (.inr (by simp))
   replace hI := Z1 hI F25 ε
   replace hl := hl0 _ hV
   replace hc := hc0.now hV
   replace hos := hos.evo F25 (by intro g hg hm; simp at hm; subst hm; have h7 := hobS g hg; have h6 := hos.block hg; omega)
   replace B8 := B8.evo F25 θ
   replace hAb8 := hAb8.evo F25 θ
   replace B22 := B22.evo F25 θ
   replace hAb22 := hAb22.evo F25 θ
   replace hb := hbn
   clear hbn
   have hAs := hb.at
   refine r_g rfl (wantT η) rfl (fun hg => run_eql rfl (glv η (fun h => h) hg) η) ?_
   refine Zn (run_pick_and rfl η (fun hq => glv η (fun h => h) hq) rfl) ?_
   refine r_cut [42, 43, 44, 45, 46, 47, 48, 49, 50] (fun g w => ∃ cn : Str, ∃ N3 : Nat, Blk w b22 88 [S (stemW.getD nx19.toNat default), S cn] ∧ At w b22 0 [S (stemW.getD nx19.toNat default), S cn] ∧ OwnE w w9.heap.size 88 vs ws ∧ Blk w b8 85 [vs, .slice none 0 0, .slice none 0 0] ∧ At w b8 0 [vs, .slice none 0 0, .slice none 0 0] ∧ Blk w bs T [.slice ao l.length cap, .int .i64 (N3 : Nat)] ∧ At w bs 0 [.slice ao l.length cap, .int .i64 (N3 : Nat)] ∧ (cn.length ≤ 1000 ∧ ClsW c cn) ∧ (N2 + 1 ≤ N3 ∧ N3 ≤ N2 + 3) ∧ w24.heap.size ≤ w.heap.size ∧ Evo w0 w [bs] ∧ Evo w3 w [bs]) ?_ ?_
   ·skip
    refine r_cond η (fun hc27 => ?_) (fun hc27 => ?_)
    ·skip
     refine r_region ?_
     refine Zo mvS ?_
     refine Zo mvP ?_
     refine Zo mvS ?_
     refine Zo (run_lenSl rfl η Tryz.underlying26) ?_
     refine Zr [.pointer _, .int _ _] rfl η Tryz.func38 (nx_calls hb hl ω ω ω) ?_
     rintro e w28 ⟨nx28, rfl, hx28, F28, hn28⟩
     refine ⟨_, rfl, ?_⟩
     have Q28 := F28.size
     replace hV := Z1 hV F28 (.inr (by simp))
     replace hI := Z1 hI F28 ε
     replace hc := hc0.now hV
     replace hos := hos.evo F28 (by intro g hg hm; simp at hm; subst hm; have h7 := hobS g hg; have h6 := hos.block hg; omega)
     replace B8 := B8.evo F28 θ
     replace hAb8 := hAb8.evo F28 θ
     replace B22 := B22.evo F28 θ
     replace hAb22 := hAb22.evo F28 θ
     replace hb := hn28
     clear hn28
     have hAs := hb.at
     refine Zo (run_ix (nx28.toNat) rfl Tryz.underlying26 ty_110 η η ω ω (hc.addr (i := nx28.toNat) ω)) ?_
     obtain ⟨ao29, b29, off29, cap29, hX⟩ := clas_atK hc0 (nx28.toNat) ω
     have hA290 := fun (w' : World) (h : Evo w0 w' [bs]) => (hX w' h).1
     have hA29 := hA290 _ hV
     have hR290 := fun (w' : World) (h : Evo w0 w' [bs]) => (hX w' h).2
     have hR29 := hR290 _ hV
     clear hX
     have hbd_hR29 := hR29.bd
     refine Zo (run_fa rfl η fo_110_0) ?_
     refine Zo (run_ld1 rfl ag_9 η (hA29.cell 0 η)) ?_
     refine Zo (run_fa rfl η fo_88_1) ?_
     refine r_store (v := S _) (vs := [_]) (cs' := [_, _]) η η B22 ty_9 η rfl η rfl η ?_
     intro w30 E30 V30 hb_new
     have Q30 := E30.size
     replace hV := Z1 hV E30 ε
     replace hI := Z1 hI E30 ε
     replace hl := hl0 _ hV
     replace hc := hc0.now hV
     replace hos := hos.evo E30 (by intro g hg hm; simp at hm; subst hm; have h7 := hobS g hg; have h6 := hos.block hg; omega)
     replace B8 := B8.evo E30 θ
     replace hAb8 := hAb8.evo E30 θ
     replace hb := hb.evo E30 θ
     replace B22 := hb_new
     have hAb22 := B22.at
     clear hb_new
     refine r_nil ?_
     refine r_cut_end ?_ ?_
     ·refine ⟨_, _, B22, B22.at, hos, B8, B8.at, hb, hb.at, (by first | exact ⟨nm_get hcn0 ω, .inr ⟨_, getD_in ω, rfl⟩⟩ | exact ⟨Nat.zero_le _, .inl rfl⟩), ω, δ, hV, hI⟩
     exact ψ
    refine r_skip ?_
    refine r_cut_end ?_ ?_
    ·refine ⟨_, _, B22, B22.at, hos, B8, B8.at, hb, hb.at, (by first | exact ⟨nm_get hcn0 ω, .inr ⟨_, getD_in ω, rfl⟩⟩ | exact ⟨Nat.zero_le _, .inl rfl⟩), ω, δ, hV, hI⟩
    exact ψ
   rintro g w31 ⟨cn, N3, B22, hAb22, hos, B8, hAb8, hb, hAs, hcn, hN3, hzl26, hV, hI⟩
   have hs_w31hV := hV.size
   have hs_w31hI := hI.size
   have hlt32 := B22.lt
   have hlt33 := B8.lt
   have hlt34 := hb.lt
   refine r_region ?_
   refine Zo (run_fa rfl η fo_85_0) ?_
   refine Zo (run_ld1 rfl ag_83 η (hAb8.cell 0 η)) ?_
   refine Zo (run_ldN rfl ag_88 ty_88 η rfl hAb22) ?_
   refine r_append1E (u := .agg _) (y := (⟨(stemW.getD nx19.toNat default), cn⟩ : Ende)) rfl rfl Tryz.underlying83 ty_88 η hos (fun _ => η) η (by first | exact rfl | (show _ = List.toArray [_, _]; first | (dsimp only; done) | exact rfl | (dsimp only; exact rfl))) ((by first | omega | (simp; omega))) ((by first | omega | (simp; omega))) ω ?_
   intro q_v35 v35 w36 E36 hov35 hlv35
   have Q36 := E36.size
   replace hV := evo_stepo hV E36 (fun g hg => .inl (by first | exact (hos.block hg).1 | (have := hos.block hg; omega)))
   replace hI := evo_stepo hI E36 (fun g hg => .inl (by first | exact (hos.block hg).1 | (have := hos.block hg; omega)))
   replace B8 := B8.evo E36 (by intro hm; have hm2 := Option.mem_toList.1 hm; first | (have := hos.block hm2; omega) | (simp [Value.ownBlock] at hm2; omega))
   replace hAb8 := hAb8.evo E36 (by intro hm; have hm2 := Option.mem_toList.1 hm; first | (have := hos.block hm2; omega) | (simp [Value.ownBlock] at hm2; omega))
   replace hb := hb.evo E36 (by intro hm; have hm2 := Option.mem_toList.1 hm; first | (have := hos.block hm2; omega) | (simp [Value.ownBlock] at hm2; omega))
   have hos := hov35
   refine Zo (run_fa rfl η fo_85_0) ?_
   obtain ⟨ao37, cp37, hv37⟩ := hos.shape
   subst hv37
   refine r_store (v := .slice _ _ _) (vs := [_]) (cs' := [_, _, _]) η η B8 ty_83 η rfl η rfl η ?_
   intro w38 E38 V38 hb_new
   have Q38 := E38.size
   replace hV := Z1 hV E38 ε
   replace hI := Z1 hI E38 ε
   replace hl := hl0 _ hV
   replace hc := hc0.now hV
   replace hb := hb.evo E38 θ
   replace hos := hos.evo E38 (by intro g hg hm; simp at hm; subst hm; have := hos.block hg; omega)
   replace B8 := hb_new
   have hAb8 := B8.at
   clear hb_new
   refine r_nil ?_
   refine r_blk ?_
   refine r_region ?_
   refine Zo mvI ?_
   refine Zo (run_sub rfl η η ω ω) ?_
   refine Zn asI ?_
   refine r_again (kk - 1) ?_ ?_ ?_
   ·first | omega | (dsimp only; omega)
   ·refine ⟨_, _, _, (congrArg (Value.int _) ω), hos, B8, B8.at, hb, hb.at, (mem_snoc hws ⟨⟨stemD_in ω, hcn.1⟩, hcn.2⟩), (by rw [List.length_append, List.length_singleton]; omega), δ, hV, hI⟩
   exact ψ
  refine r_exit rfl ?_
  refine r_seq ?_
  refine Zs ?_
  refine Zo mvP ?_
  refine Zr [.pointer _, .int _ _] rfl η Tryz.func38 (nx_calls hb hl ω ω ω) ?_
  rintro e w39 ⟨nx39, rfl, hx39, F39, hn39⟩
  refine ⟨_, rfl, ?_⟩
  have Q39 := F39.size
  replace hV := Z1 hV F39 (.inr (by simp))
  replace hI := Z1 hI F39 ε
  replace hl := hl0 _ hV
  replace hc := hc0.now hV
  replace hos := hos.evo F39 (by intro g hg hm; simp at hm; subst hm; have := hos.block hg; omega)
  replace B8 := B8.evo F39 θ
  replace hAb8 := hAb8.evo F39 θ
  replace hb := hn39
  clear hn39
  have hAs := hb.at
  refine Zn asI ?_
  refine r_block ?_
  obtain ⟨aoW, gW, cpW, hvW, hrW, hgW⟩ := hos.rowOf
  subst hvW
  have hbd_hrW := hrW.bd
  have hI40 : Evo w39 w39 [bs, b8] := Evo.refl _ _
  have hrW0 := fun w9 (h9 : Evo w39 w9 [bs, b8]) => row_keep hrW h9 (fun hne hm => by have h2 := (hgW hne).2; simp at hm; omega)
  refine r_loop (α := Nat) [12, 59, 60, 61, 62, 63, 64, 65, 66, 67, 68, 69] (fun kq g w => ∃ vq : Value, ∃ qs : List Str, ∃ N4 : Nat, g 12 = .int .i64 (kq : Nat) ∧ OwnE w w39.heap.size 9 vq qs ∧ Blk w b8 85 [.slice aoW ws.length cpW, vq, .slice none 0 0] ∧ At w b8 0 [.slice aoW ws.length cpW, vq, .slice none 0 0] ∧ Blk w bs T [.slice ao l.length cap, .int .i64 (N4 : Nat)] ∧ At w bs 0 [.slice ao l.length cap, .int .i64 (N4 : Nat)] ∧ (∀ s ∈ qs, MadePh s) ∧ (qs.length + kq = nx39.toNat ∧ N2 + 1 ≤ N4 ∧ N4 + 4 * kq ≤ N2 + 1 + 4 * nx39.toNat) ∧ w39.heap.size ≤ w.heap.size ∧ Evo w0 w [bs] ∧ Evo w3 w [bs] ∧ Evo w39 w [bs, b8]) (fun kq => kq) nx39.toNat ?_ ?_
  ·refine ⟨_, [], _, (congrArg (Value.int _) ω), (OwnE.nil _ _ _), B8, B8.at, hb, hb.at, (fun y hy => absurd hy List.not_mem_nil), (by first | (simp; done) | (simp; omega)), δ, hV, hI, hI40⟩
  rintro kq g w42 ⟨vq, qs, N4, hj43, hos, B8, hAb8, hb, hAs, hqs, hqsk, hzl41, hV, hI, hI40⟩
  have hs_w42hV := hV.size
  have hs_w42hI := hI.size
  have hs_w42hI40 := hI40.size
  have hlt44 := B8.lt
  have hlt45 := hb.lt
  replace hl := hl0 _ hV
  refine Zk 12 (v := .int .i64 (kq : Nat)) (by exact hj43) ?_
  refine r_seq ?_
  refine Zs ?_
  refine Zo mvI ?_
  refine Zn (run_gtr rfl η η) ?_
  refine r_cond η (fun hc46 => ?_) (fun hc46 => ?_)
  ·skip
   refine r_skip ?_
   refine r_seq ?_
   refine r_block ?_
   have hos_own := fun {g : Nat} (hg : vq.ownBlock = some g) => hos.block (g := g) hg
   have hbb8_q := B8
   have hAb8_q := hAb8
   have hb_q := hb
   have hAs_q := hAs
   have hV_q := hV
   have hI_q := hI
   have hI40_q := hI40
   refine h_region ([bs] ++ vq.ownBlock.toList) ζ ?_
   intro w47 F48 hCq16
   have Q47 := F48.size
   replace hV := Z0 hV F48
   replace hI := Z0 hI F48
   replace hI40 := Z0 hI40 F48
   replace hos := hos.evo0 F48
   replace B8 := B8.evo0 F48
   replace hAb8 := hAb8.evo0 F48
   replace hb := hb.evo0 F48
   replace hAs := hAs.evo0 F48
   refine Zt (i := 0) η (fun w' hC => run_fa rfl η fo_85_1) hCq16 ?_
   refine Zt (i := 1) η (fun w' hC => run_ld1 rfl ag_77 η ((hAb8_q.evo hC (fun hm => by rcases List.mem_append.1 hm with h7 | h7; (simp at h7; omega); (have h8 := hos_own (Option.mem_toList.1 h7); omega))).cell 1 η)) hCq16 ?_
   refine Zt (i := 2) η (fun w' hC => mvP) hCq16 ?_
   refine Zh (i := 3) ?_
   refine Zr [.pointer _] rfl η Tryz.func73 (phrase_make hb (fun w9 h9 => hl0 _ (Evo.trans hV h9 (fun x hx _ => hx))) ω) ?_
   rintro e w49 ⟨sp49, Np49, rfl, hmp49, hNp49, F49, hn49⟩
   refine ⟨_, rfl, ?_⟩
   have Q49 := F49.size
   replace hV := Z1 hV F49 (.inr (by simp))
   replace hI := Z1 hI F49 ε
   replace hI40 := Z1 hI40 F49 ε
   replace hCq16 := Z1 hCq16 F49 ε
   replace hos := hos.evo F49 (by intro g hg hm; simp at hm; subst hm; have := hos.block hg; omega)
   replace B8 := B8.evo F49 θ
   replace hAb8 := hAb8.evo F49 θ
   replace hb := hn49
   clear hn49
   have hAs := hb.at
   refine h_next hCq16 ?_
   refine Zh (i := 4) ?_
   refine r_bslice (pv := [(0, S _)]) (zs := [_]) (cs := [_]) Tryz.underlying77 ty_9 η rfl η rfl η ?_
   intro b50 w51 J50 E51 B50 Y50
   have Q51 := E51.size
   replace hV := Z0 hV E51
   replace hI := Z0 hI E51
   replace hI40 := Z0 hI40 E51
   replace hCq16 := Z0 hCq16 E51
   replace hos := hos.evo0 E51
   replace B8 := B8.evo0 E51
   replace hAb8 := hAb8.evo0 E51
   replace hb := hb.evo0 E51
   have hrb50 := rowLit (α := Str) [_] B50 (by show [_] = [_]; first | (dsimp only; done) | exact rfl | (dsimp only; exact rfl)) rfl
   refine h_next hCq16 ?_
   refine Zh (i := 5) ?_
   refine r_appendE rfl Tryz.underlying77 ty_9 η hos η η hrb50 rfl θ θ ω ?_
   intro v52 w53 E53 hov52 hlv52
   have Q53 := E53.size
   replace hV := evo_stepo hV E53 (fun g hg => .inl (by first | exact (hos.block hg).1 | (have := hos.block hg; omega)))
   replace hI := evo_stepo hI E53 (fun g hg => .inl (by first | exact (hos.block hg).1 | (have := hos.block hg; omega)))
   replace hI40 := evo_stepo hI40 E53 (fun g hg => .inl (by first | exact (hos.block hg).1 | (have := hos.block hg; omega)))
   replace B8 := B8.evo E53 (by intro hm; have hm2 := Option.mem_toList.1 hm; first | (have := hos.block hm2; omega) | (simp [Value.ownBlock] at hm2; omega))
   replace hAb8 := hAb8.evo E53 (by intro hm; have hm2 := Option.mem_toList.1 hm; first | (have := hos.block hm2; omega) | (simp [Value.ownBlock] at hm2; omega))
   replace hb := hb.evo E53 (by intro hm; have hm2 := Option.mem_toList.1 hm; first | (have := hos.block hm2; omega) | (simp [Value.ownBlock] at hm2; omega))
   have hos := hov52
   refine h_last ζ ?_
   refine Zh (i := 6) ?_
   refine Zo (run_fa rfl η fo_85_1) ?_
   refine h_last ζ ?_
   refine Zh (i := 7) ?_
   obtain ⟨ao54, cp54, hv54⟩ := hos.shape
   subst hv54
   refine r_store (v := .slice _ _ _) (vs := [_]) (cs' := [_, _, _]) η η B8 ty_77 η rfl η rfl η ?_
   intro w55 E55 V55 hb_new
   have Q55 := E55.size
   replace hV := Z1 hV E55 ε
   replace hI := Z1 hI E55 ε
   replace hI40 := Z1 hI40 E55 ε
   replace hl := hl0 _ hV
   replace hc := hc0.now hV
   replace hrW := hrW0 _ hI40
   replace hb := hb.evo E55 θ
   replace hos := hos.evo E55 (by intro g hg hm; simp at hm; subst hm; have := hos.block hg; omega)
   replace B8 := hb_new
   have hAb8 := B8.at
   clear hb_new
   refine h_last ζ ?_
   refine h_done ζ ?_
   refine r_blk ?_
   refine r_region ?_
   refine Zo mvI ?_
   refine Zo (run_sub rfl η η ω ω) ?_
   refine Zn asI ?_
   refine r_again (kq - 1) ?_ ?_ ?_
   ·first | omega | (dsimp only; omega)
   ·refine ⟨_, _, _, (congrArg (Value.int _) ω), hos, B8, B8.at, hb, hb.at, (mem_snoc hqs hmp49), (by rw [List.length_append, List.length_singleton]; omega), δ, hV, hI, hI40⟩
   exact ψ
  refine r_exit rfl ?_
  refine r_seq ?_
  refine Zs ?_
  refine Zo mvP ?_
  refine Zr [.pointer _, .int _ _] rfl η Tryz.func38 (nx_calls hb hl ω ω ω) ?_
  rintro e w56 ⟨nx56, rfl, hx56, F56, hn56⟩
  refine ⟨_, rfl, ?_⟩
  have Q56 := F56.size
  replace hV := Z1 hV F56 (.inr (by simp))
  replace hI := Z1 hI F56 ε
  replace hI40 := Z1 hI40 F56 ε
  replace hl := hl0 _ hV
  replace hc := hc0.now hV
  replace hrW := hrW0 _ hI40
  replace hos := hos.evo F56 (by intro g hg hm; simp at hm; subst hm; have := hos.block hg; omega)
  replace B8 := B8.evo F56 θ
  replace hAb8 := hAb8.evo F56 θ
  replace hb := hn56
  clear hn56
  have hAs := hb.at
  refine Zn asI ?_
  refine r_block ?_
  obtain ⟨aoQ, gQ, cpQ, hvQ, hrQ, hgQ⟩ := hos.rowOf
  subst hvQ
  have hbd_hrQ := hrQ.bd
  have hI57 : Evo w56 w56 [bs, b8] := Evo.refl _ _
  have hrQ0 := fun w9 (h9 : Evo w56 w9 [bs, b8]) => row_keep hrQ h9 (fun hne hm => by have h2 := (hgQ hne).2; simp at hm; omega)
  refine r_loop (α := Nat) [13, 72, 73, 74, 75, 76, 77, 78, 79, 80, 81, 82] (fun kq g w => ∃ vq : Value, ∃ fs : List Str, ∃ N5 : Nat, g 13 = .int .i64 (kq : Nat) ∧ OwnE w w56.heap.size 9 vq fs ∧ Blk w b8 85 [.slice aoW ws.length cpW, .slice aoQ qs.length cpQ, vq] ∧ At w b8 0 [.slice aoW ws.length cpW, .slice aoQ qs.length cpQ, vq] ∧ Blk w bs T [.slice ao l.length cap, .int .i64 (N5 : Nat)] ∧ At w bs 0 [.slice ao l.length cap, .int .i64 (N5 : Nat)] ∧ (∀ s ∈ fs, MadePh s) ∧ (fs.length + kq = nx56.toNat ∧ N4 + 1 ≤ N5 ∧ N5 + 4 * kq ≤ N4 + 1 + 4 * nx56.toNat) ∧ w56.heap.size ≤ w.heap.size ∧ Evo w0 w [bs] ∧ Evo w3 w [bs] ∧ Evo w39 w [bs, b8] ∧ Evo w56 w [bs, b8]) (fun kq => kq) nx56.toNat ?_ ?_
  ·refine ⟨_, [], _, (congrArg (Value.int _) ω), (OwnE.nil _ _ _), B8, B8.at, hb, hb.at, (fun y hy => absurd hy List.not_mem_nil), (by first | (simp; done) | (simp; omega)), δ, hV, hI, hI40, hI57⟩
  rintro kq g w59 ⟨vq, fs, N5, hj60, hos, B8, hAb8, hb, hAs, hfs, hfsk, hzl58, hV, hI, hI40, hI57⟩
  have hs_w59hV := hV.size
  have hs_w59hI := hI.size
  have hs_w59hI40 := hI40.size
  have hs_w59hI57 := hI57.size
  have hlt61 := B8.lt
  have hlt62 := hb.lt
  replace hrW := hrW0 _ hI40
  replace hrQ := hrQ0 _ hI57
  refine Zk 13 (v := .int .i64 (kq : Nat)) (by exact hj60) ?_
  refine r_seq ?_
  refine Zs ?_
  refine Zo mvI ?_
  refine Zn (run_gtr rfl η η) ?_
  refine r_cond η (fun hc63 => ?_) (fun hc63 => ?_)
  ·skip
   refine r_skip ?_
   refine r_seq ?_
   refine r_block ?_
   have hos_own := fun {g : Nat} (hg : vq.ownBlock = some g) => hos.block (g := g) hg
   have hbb8_q := B8
   have hAb8_q := hAb8
   have hb_q := hb
   have hAs_q := hAs
   have hV_q := hV
   have hI_q := hI
   have hI40_q := hI40
   have hI57_q := hI57
   refine h_region ([bs] ++ vq.ownBlock.toList) ζ ?_
   intro w64 F65 hCq20
   have Q64 := F65.size
   replace hV := Z0 hV F65
   replace hI := Z0 hI F65
   replace hI40 := Z0 hI40 F65
   replace hI57 := Z0 hI57 F65
   replace hos := hos.evo0 F65
   replace B8 := B8.evo0 F65
   replace hAb8 := hAb8.evo0 F65
   replace hb := hb.evo0 F65
   replace hAs := hAs.evo0 F65
   refine Zt (i := 0) η (fun w' hC => run_fa rfl η fo_85_2) hCq20 ?_
   refine Zt (i := 1) η (fun w' hC => run_ld1 rfl ag_77 η ((hAb8_q.evo hC (fun hm => by rcases List.mem_append.1 hm with h7 | h7; (simp at h7; omega); (have h8 := hos_own (Option.mem_toList.1 h7); omega))).cell 2 η)) hCq20 ?_
   refine Zt (i := 2) η (fun w' hC => mvP) hCq20 ?_
   refine Zh (i := 3) ?_
   refine Zr [.pointer _] rfl η Tryz.func73 (phrase_make hb (fun w9 h9 => hl0 _ (Evo.trans hV h9 (fun x hx _ => hx))) ω) ?_
   rintro e w66 ⟨sp66, Np66, rfl, hmp66, hNp66, F66, hn66⟩
   refine ⟨_, rfl, ?_⟩
   have Q66 := F66.size
   replace hV := Z1 hV F66 (.inr (by simp))
   replace hI := Z1 hI F66 ε
   replace hI40 := Z1 hI40 F66 ε
   replace hI57 := Z1 hI57 F66 ε
   replace hCq20 := Z1 hCq20 F66 ε
   replace hos := hos.evo F66 (by intro g hg hm; simp at hm; subst hm; have := hos.block hg; omega)
   replace B8 := B8.evo F66 θ
   replace hAb8 := hAb8.evo F66 θ
   replace hb := hn66
   clear hn66
   have hAs := hb.at
   refine h_next hCq20 ?_
   refine Zh (i := 4) ?_
   refine r_bslice (pv := [(0, S _)]) (zs := [_]) (cs := [_]) Tryz.underlying77 ty_9 η rfl η rfl η ?_
   intro b67 w68 J67 E68 B67 Y67
   have Q68 := E68.size
   replace hV := Z0 hV E68
   replace hI := Z0 hI E68
   replace hI40 := Z0 hI40 E68
   replace hI57 := Z0 hI57 E68
   replace hCq20 := Z0 hCq20 E68
   replace hos := hos.evo0 E68
   replace B8 := B8.evo0 E68
   replace hAb8 := hAb8.evo0 E68
   replace hb := hb.evo0 E68
   have hrb67 := rowLit (α := Str) [_] B67 (by show [_] = [_]; first | (dsimp only; done) | exact rfl | (dsimp only; exact rfl)) rfl
   refine h_next hCq20 ?_
   refine Zh (i := 5) ?_
   refine r_appendE rfl Tryz.underlying77 ty_9 η hos η η hrb67 rfl θ θ ω ?_
   intro v69 w70 E70 hov69 hlv69
   have Q70 := E70.size
   replace hV := evo_stepo hV E70 (fun g hg => .inl (by first | exact (hos.block hg).1 | (have := hos.block hg; omega)))
   replace hI := evo_stepo hI E70 (fun g hg => .inl (by first | exact (hos.block hg).1 | (have := hos.block hg; omega)))
   replace hI40 := evo_stepo hI40 E70 (fun g hg => .inl (by first | exact (hos.block hg).1 | (have := hos.block hg; omega)))
   replace hI57 := evo_stepo hI57 E70 (fun g hg => .inl (by first | exact (hos.block hg).1 | (have := hos.block hg; omega)))
   replace B8 := B8.evo E70 (by intro hm; have hm2 := Option.mem_toList.1 hm; first | (have := hos.block hm2; omega) | (simp [Value.ownBlock] at hm2; omega))
   replace hAb8 := hAb8.evo E70 (by intro hm; have hm2 := Option.mem_toList.1 hm; first | (have := hos.block hm2; omega) | (simp [Value.ownBlock] at hm2; omega))
   replace hb := hb.evo E70 (by intro hm; have hm2 := Option.mem_toList.1 hm; first | (have := hos.block hm2; omega) | (simp [Value.ownBlock] at hm2; omega))
   have hos := hov69
   refine h_last ζ ?_
   refine Zh (i := 6) ?_
   refine Zo (run_fa rfl η fo_85_2) ?_
   refine h_last ζ ?_
   refine Zh (i := 7) ?_
   obtain ⟨ao71, cp71, hv71⟩ := hos.shape
   subst hv71
   refine r_store (v := .slice _ _ _) (vs := [_]) (cs' := [_, _, _]) η η B8 ty_77 η rfl η rfl η ?_
   intro w72 E72 V72 hb_new
   have Q72 := E72.size
   replace hV := Z1 hV E72 ε
   replace hI := Z1 hI E72 ε
   replace hI40 := Z1 hI40 E72 ε
   replace hI57 := Z1 hI57 E72 ε
   replace hl := hl0 _ hV
   replace hc := hc0.now hV
   replace hrW := hrW0 _ hI40
   replace hrQ := hrQ0 _ hI57
   replace hb := hb.evo E72 θ
   replace hos := hos.evo E72 (by intro g hg hm; simp at hm; subst hm; have := hos.block hg; omega)
   replace B8 := hb_new
   have hAb8 := B8.at
   clear hb_new
   refine h_last ζ ?_
   refine h_done ζ ?_
   refine r_blk ?_
   refine r_region ?_
   refine Zo mvI ?_
   refine Zo (run_sub rfl η η ω ω) ?_
   refine Zn asI ?_
   refine r_again (kq - 1) ?_ ?_ ?_
   ·first | omega | (dsimp only; omega)
   ·refine ⟨_, _, _, (congrArg (Value.int _) ω), hos, B8, B8.at, hb, hb.at, (mem_snoc hfs hmp66), (by rw [List.length_append, List.length_singleton]; omega), δ, hV, hI, hI40, hI57⟩
   exact ψ
  refine r_exit rfl ?_
  obtain ⟨aoF, gF, cpF, hvF, hrF, hgF⟩ := hos.rowOf
  subst hvF
  have hoR := hoR0.evoY (hI.mono (by simp)) θ
  clear hoR0
  have hMX : MadeTm ⟨ws, qs, fs⟩ := ⟨⟨(show 1 ≤ ws.length by omega), (show ws.length ≤ 3 by omega), fun y hy => (hws y hy).1⟩, ⟨(show qs.length ≤ 2 by omega), hqs⟩, ⟨(show fs.length ≤ 2 by omega), hfs⟩⟩
  refine r_region ?_
  refine Zo (run_mv (v := vo) rfl η) ?_
  refine Zo (run_ldN rfl ag_85 ty_85 η rfl hAb8) ?_
  refine r_append1R (u := .agg _) (us := [_, _, _]) rfl rfl Tryz.underlying25 ty_85 η rfl rfl hoR (fun _ => η) η η rfl η (term_rep ⟨ws, qs, fs⟩ hrW (fun hne hm => by rcases List.mem_append.1 hm with h7 | h7; (simp at h7; have h8 := hgW hne; omega); (have h8 := hobR _ (Option.mem_toList.1 h7); have h9 := hgW hne; omega)) hrQ (fun hne hm => by rcases List.mem_append.1 hm with h7 | h7; (simp at h7; have h8 := hgQ hne; omega); (have h8 := hobR _ (Option.mem_toList.1 h7); have h9 := hgQ hne; omega)) hrF (fun hne hm => by rcases List.mem_append.1 hm with h7 | h7; (simp at h7; have h8 := hgF hne; omega); (have h8 := hobR _ (Option.mem_toList.1 h7); have h9 := hgF hne; omega)) hMX.bd) ((by first | omega | (simp; omega))) ((by first | omega | (simp; omega))) ω ?_
  intro q_v73 v73 w74 E74 hov73 hlv73
  have Q74 := E74.size
  replace hV := evo_stepo hV E74 (fun g hg => .inl (by first | exact (hoR.block hg).1 | (have := hoR.block hg; omega)))
  replace hl := hl0 _ hV
  replace hc := hc0.now hV
  replace hb := hb.evo E74 (by intro hm; have hm2 := Option.mem_toList.1 hm; first | (have := hoR.block hm2; omega) | (simp [Value.ownBlock] at hm2; omega))
  refine Zn (run_asg (v := v73) rfl η) ?_
  refine r_blk ?_
  refine r_region ?_
  refine Zo mvI ?_
  refine Zo (run_sub rfl η η ω ω) ?_
  refine Zn asI ?_
  refine r_again (i - 1) ?_ ?_ ?_
  ·first | omega | (dsimp only; omega)
  ·refine ⟨_, _, _, (congrArg (Value.int _) ω), rfl, hov73, hb, hb.at, (mem_snoc hMT ⟨hMX, fun y hy => (hws y hy).2⟩), (by rw [List.length_append, List.length_singleton]; omega), δ, hV⟩
  exact ψ
 refine r_exit rfl ?_
 refine Zs ?_
 refine Zo (run_mv (v := vo) rfl η) ?_
 refine Zn (run_asg (v := vo) rfl η) ?_
 refine r_ret (res1 (v := vo) rfl η) ?_
 exact ⟨_, ts, N1, rfl, ⟨hMT, by omega⟩, by omega, hV, hb, hoR⟩
theorem klong_calls {ao : Option Addr} {b off cap : Nat} {ll : List (List Int)} {w0 : World} (hs : RowR w0 ao b off cap ll) (hb : ll.flatten.length ≤ 9000000000000000000) :
    Calls Tryz.prog 17 #[.slice ao ll.length cap] w0 fun e w' => e = .returned (.bool (decide (ll.flatten.length > 160))) ∧ Evo w0 w' [] := by
 refine calls_enter (n := 19) Tryz.func17 rfl Tryz.ntmps17 rfl ?_
 have hV : Evo w0 w0 [] := Evo.refl _ _
 have hs0 := hs.keep
 have hbd_hs := hs.bd
 refine Zs ?_
 refine Zn asB ?_
 refine Zs ?_
 refine Zn asI ?_
 refine r_seq ?_
 refine Zs ?_
 refine Zo mvS ?_
 refine Zo (run_lenSl rfl η Tryz.underlying65) ?_
 refine Zn mvI ?_
 refine r_block ?_
 refine r_loop (α := Nat) [3, 5, 8, 9, 10, 11, 12, 13, 14, 15, 16] (fun k g w => g 8 = .int .i64 (k : Nat) ∧ g 3 = .int .i64 (((ll.take k).flatten).length : Nat) ∧ k ≤ ll.length ∧ w0.heap.size ≤ w.heap.size ∧ Evo w0 w []) (fun k => ll.length - k) 0 ?_ ?_
 ·refine ⟨σ, rfl, δ, δ, hV⟩
 rintro k g w2 ⟨hj3, hj4, hk_k, hzl1, hV⟩
 have hs_w2hV := hV.size
 replace hs := hs0.now hV
 refine Zk 8 (v := .int .i64 (k : Nat)) (by exact hj3) ?_
 refine Zk 3 (v := .int .i64 (((ll.take k).flatten).length : Nat)) (by exact hj4) ?_
 refine Zs ?_
 refine Zn (run_lss rfl η η) ?_
 refine r_seq ?_
 refine r_cond η (fun hc5 => ?_) (fun hc5 => ?_)
 ·skip
  refine r_skip ?_
  refine r_seq ?_
  refine r_block ?_
  refine Zs ?_
  refine Zo (run_ix (k) rfl Tryz.underlying65 ty_22 η η (by first | exact rfl | omega) ω (hs.addr (i := k) ω)) ?_
  obtain ⟨ao6, b6, off6, cap6, hX⟩ := sl_atK hs0 (k) ω
  have hA60 := fun (w' : World) (h : Evo w0 w' []) => (hX w' h).1
  have hA6 := hA60 _ hV
  have hR60 := fun (w' : World) (h : Evo w0 w' []) => (hX w' h).2
  have hR6 := hR60 _ hV
  clear hX
  have hbd_hR6 := hR6.bd
  refine Zo (run_ld1 rfl ag_22 η (hA6.cell 0 η)) ?_
  refine Zn asS ?_
  have hf1 := flat_take ll (k + 1); have hf2 : ((ll.take (k + 1)).flatten).length = ((ll.take k).flatten).length + (ll.getD k default).length := by rw [flat_succL ll k ω, List.length_append]
  refine r_region ?_
  refine Zo mvI ?_
  refine Zo mvS ?_
  refine Zo (run_lenSl rfl η Tryz.underlying22) ?_
  refine Zo (run_add rfl η η ω ω) ?_
  refine Zn asI ?_
  refine r_blk ?_
  refine r_region ?_
  refine Zo (run_add rfl η η ω ω) ?_
  refine Zn mvI ?_
  refine r_again (k + 1) ?_ ?_ ?_
  ·first | omega | (dsimp only; omega)
  ·refine ⟨σ, (congrArg (Value.int _) ω), δ, δ, hV⟩
  exact ψ
 refine r_exit rfl ?_
 refine Zs ?_
 refine Zo mvI ?_
 refine Zo (run_gtr rfl η η) ?_
 refine Zn asB ?_
 refine r_ret (res1 (v := .bool _) rfl η) ?_
 exact ⟨ret_bool (by rw [List.take_of_length_le ω]; rw [Bool.eq_iff_iff, decide_eq_true_iff, decide_eq_true_iff]; omega), hV⟩
theorem kfrom_calls {ao : Option Addr} {cap : Nat} {l : List Int} {w0 : World}  :
    Calls Tryz.prog 19 #[.slice ao l.length cap] w0 fun e w' => ∃ bs, e = .returned (.pointer (some ⟨bs, 0, none⟩)) ∧ w0.heap.size ≤ bs ∧ Evo w0 w' [] ∧ Blk w' bs 70 [.slice ao l.length cap, .int .i64 ((0 : Nat) : Int)] ∧ At w' bs 0 [.slice ao l.length cap, .int .i64 ((0 : Nat) : Int)] := by
 refine calls_enter (n := 6) Tryz.func19 rfl Tryz.ntmps19 rfl ?_
 have hV : Evo w0 w0 [] := Evo.refl _ _
 refine Zs ?_
 refine Zn asP ?_
 refine Zs ?_
 refine Zo mvS ?_
 refine Zo (run_bld (pv := [(0, .slice _ _ _)]) (zs := [_, _]) (cells := [_, _]) rfl ty_70 η pl_70 η η) ?_
 refine r_box (vs := [_, _]) η η rfl ?_
 intro b1 w2 J1 E2 B1 Y1
 have Q2 := E2.size
 replace hV := Z0 hV E2
 refine Zn asP ?_
 refine r_ret (res1 (v := .pointer _) rfl η) ?_
 exact ⟨_, rfl, by omega, hV, B1, B1.at⟩
set_option maxHeartbeats 1000000 in
theorem pairof_calls {ao : Option Addr} {b off cap : Nat} {l : List Int} {w0 : World} (hl : RowE w0 ao b off cap l) :
    Calls Tryz.prog 21 #[.slice ao l.length cap] w0 fun e w' => ∃ ao1 b1 off1 cap1, ∃ ao2 b2 off2 cap2, ∃ f g : List Vc.Item, e = .returned (.tuple #[.slice ao1 f.length cap1, .slice ao2 g.length cap2]) ∧ Evo w0 w' [] ∧ RowE w' ao1 b1 off1 cap1 f ∧ RowE w' ao2 b2 off2 cap2 g ∧ ((f ≠ [] → w0.heap.size ≤ b1) ∧ (g ≠ [] → w0.heap.size ≤ b2)) ∧ PairR f g := by
 refine calls_enter (n := 33) Tryz.func21 rfl Tryz.ntmps21 rfl ?_
 have hV : Evo w0 w0 [] := Evo.refl _ _
 have hl0 := keepE hl
 have hbd_hl := hl.bd
 refine Zs ?_
 refine Zo asS ?_
 refine Zn asS ?_
 refine Zs ?_
 refine Zo mvS ?_
 refine Zr [.slice _ _ _] rfl η Tryz.func19 kfrom_calls ?_
 rintro e w1 ⟨bs1, rfl, hbs1, F1, hbn1, hbA1⟩
 refine ⟨_, rfl, ?_⟩
 have Q1 := F1.size
 replace hV := Z0 hV F1
 replace hl := hl0 _ hV
 refine Zn asP ?_
 refine r_seq ?_
 have hbslt := hbn1.lt
 refine r_region ?_
 refine Zo mvP ?_
 refine Zo mvP ?_
 refine Zr [.pointer _, .int _ _] rfl η Tryz.func38 (nx_calls hbn1 hl ω ω ω) ?_
 rintro e w2 ⟨nx2, rfl, hx2, F2, hn2⟩
 refine ⟨_, rfl, ?_⟩
 have Q2 := F2.size
 replace hV := Z1 hV F2 ε
 replace hbn1 := hn2
 clear hn2
 refine Zo (run_eql rfl η η) ?_
 refine Zr [.pointer _, .int _ _, .bool _, .bool _] rfl η Tryz.func41 (fragment_calls hbn1 (fun w9 h9 => hl0 _ (evo_step1 hV h9 (.inl ω))) ω ω ω) ?_
 rintro e w3 ⟨vf3, f3, Nf3, rfl, hf3, hNf3, F3, hn3, hof3⟩
 refine ⟨_, rfl, ?_⟩
 have Q3 := F3.size
 replace hV := Z1 hV F3 ε
 replace hl := hl0 _ hV
 replace hbn1 := hn3
 clear hn3
 have hv := hf3.1; have hfl := hf3.2.1; have hfs := hf3.2.2.1; have hti : ∀ x ∈ tagsL f3, InR x := val_in _ _ hv; have htf : Tiny f3 := small_tiny (n := 5) ω ω ω
 refine Zn (run_asg (v := vf3) rfl η) ?_
 refine r_seq ?_
 refine r_seq ?_
 have hI5 : Evo w3 w3 [bs1] := Evo.refl _ _
 obtain ⟨ao4, g4, cp4, hv4, hr4, hg4⟩ := hof3.rowOf
 subst hv4
 have hr40 := fun w9 (h9 : Evo w3 w9 [bs1]) => row_keep hr4 h9 (fun hne hm => by have h2 := (hg4 hne).2; simp at hm; omega)
 refine r_region ?_
 refine Zo mvP ?_
 refine Zr [.pointer _, .int _ _] rfl η Tryz.func38 (nx_calls hbn1 hl ω ω ω) ?_
 rintro e w5 ⟨nx5, rfl, hx5, F5, hn5⟩
 refine ⟨_, rfl, ?_⟩
 have Q5 := F5.size
 replace hV := Z1 hV F5 ε
 replace hI5 := Z1 hI5 F5 ε
 replace hr4 := hr40 _ hI5
 replace hbn1 := hn5
 clear hn5
 refine r_nil ?_
 refine r_block ?_
 refine Zs ?_
 refine Zo (run_eql rfl η η) ?_
 refine Zn asB ?_
 refine r_cond η (fun hc6 => ?_) (fun hc6 => ?_)
 ·skip
  refine Zs ?_
  refine Zo mvS ?_
  refine Zo mvP ?_
  refine Zr [.pointer _, .int _ _, .bool _, .bool _] rfl η Tryz.func41 (fragment_calls hbn1 (fun w9 h9 => hl0 _ (evo_step1 hV h9 (.inl ω))) ω ω ω) ?_
  rintro e w7 ⟨vf7, f7, Nf7, rfl, hf7, hNf7, F7, hn7, hof7⟩
  refine ⟨_, rfl, ?_⟩
  have Q7 := F7.size
  replace hV := Z1 hV F7 ε
  replace hI5 := Z1 hI5 F7 ε
  replace hr4 := hr40 _ hI5
  replace hbn1 := hn7
  clear hn7
  refine Zo asS ?_
  refine Zn (run_asg (v := vf7) rfl η) ?_
  refine r_ret (res2 (v := .slice _ _ _) (u := vf7) rfl η η) ?_
  obtain ⟨ao8, g8, cp8, hv8, hr8, hg8⟩ := hof7.rowOf
  subst hv8
  exact ⟨_, _, _, _, _, _, _, _, _, _, rfl, hV, hr4, hr8, ⟨fun hne => by have := (hg4 hne).2; omega, fun hne => by have := (hg8 hne).2; omega⟩, ⟨htf, small_tiny (n := 5) ω ω ω, hti, val_in _ _ hf7.1, hv⟩⟩
 refine Zs ?_
 refine Zo (run_eql rfl η η) ?_
 refine Zn asB ?_
 refine r_cond η (fun hc9 => ?_) (fun hc9 => ?_)
 ·skip
  refine Zs ?_
  refine Zo mvS ?_
  refine Zo mvP ?_
  refine Zr [.pointer _, .int _ _] rfl η Tryz.func42 (rawi_calls hbn1 (fun w9 h9 => hl0 _ (evo_step1 hV h9 (.inl ω))) ω ω ω) ?_
  rintro e w10 ⟨vf10, f10, rfl, hf10, F10, hof10⟩
  refine ⟨_, rfl, ?_⟩
  have Q10 := F10.size
  replace hV := Z1 hV F10 ε
  replace hI5 := Z1 hI5 F10 ε
  replace hr4 := hr40 _ hI5
  refine Zo asS ?_
  refine Zn (run_asg (v := vf10) rfl η) ?_
  refine r_ret (res2 (v := .slice _ _ _) (u := vf10) rfl η η) ?_
  obtain ⟨ao11, g11, cp11, hv11, hr11, hg11⟩ := hof10.rowOf
  subst hv11
  exact ⟨_, _, _, _, _, _, _, _, _, _, rfl, hV, hr4, hr11, ⟨fun hne => by have := (hg4 hne).2; omega, fun hne => by have := (hg11 hne).2; omega⟩, ⟨htf, ⟨by omega, by omega⟩, hti, raw_in hf10.2.2, hv⟩⟩
 refine Zs ?_
 refine Zo (run_eql rfl η η) ?_
 refine Zn asB ?_
 refine r_cond η (fun hc12 => ?_) (fun hc12 => ?_)
 ·skip
  refine Zs ?_
  refine Zo mvS ?_
  refine Zo mvS ?_
  refine Zo asS ?_
  refine Zn asS ?_
  refine r_ret (res2 (v := .slice _ _ _) (u := .slice _ _ _) rfl η η) ?_
  exact ⟨_, _, _, _, _, _, _, _, _, _, rfl, hV, hr4, hr4, ⟨fun hne => by have := (hg4 hne).2; omega, fun hne => by have := (hg4 hne).2; omega⟩, ⟨htf, htf, hti, hti, hv⟩⟩
 refine r_skip ?_
 refine r_blk ?_
 refine Zs ?_
 refine Zo mvS ?_
 refine Zo mvP ?_
 refine Zo mvS ?_
 refine Zr [.pointer _, .slice _ _ _] rfl η Tryz.func43 (target_calls hbn1 (fun w9 h9 => hl0 _ (evo_step1 hV h9 (.inl ω))) ω (fun w9 h9 => hr40 _ (evo_step1 hI5 h9 (.inr (by simp)))) ω ω) ?_
 rintro e w13 ⟨vf13, f13, Nf13, rfl, hf13, hNf13, F13, hn13, hof13⟩
 refine ⟨_, rfl, ?_⟩
 have Q13 := F13.size
 replace hV := Z1 hV F13 ε
 replace hI5 := Z1 hI5 F13 ε
 replace hr4 := hr40 _ hI5
 replace hbn1 := hn13
 clear hn13
 refine Zo asS ?_
 refine Zn (run_asg (v := vf13) rfl η) ?_
 refine r_ret (res2 (v := .slice _ _ _) (u := vf13) rfl η η) ?_
 obtain ⟨ao14, g14, cp14, hv14, hr14, hg14⟩ := hof13.rowOf
 subst hv14
 exact ⟨_, _, _, _, _, _, _, _, _, _, rfl, hV, hr4, hr14, ⟨fun hne => by have := (hg4 hne).2; omega, fun hne => by have := (hg14 hne).2; omega⟩, ⟨htf, ⟨by omega, by omega⟩, hti, skel_in hf13.1 hti, hv⟩⟩
end Go.Proofs.YtlfjocbnbceceaaGreatDoor
