/-
  Library, plain laws and walks that the statements reach (joined by a program out of smaller texts).
-/
import Derived.Test.YtlfjocbnbceceaaGreatDoorAgf
import Derived.Test.YtlfjocbnbceceaaGreatDoorAgd
import Derived.Test.YtlfjocbnbceceaaGreatDoorAgb
import Derived.Test.YtlfjocbnbceceaaGreatDoorAga
import Derived.Deep.Strs
import Derived.OpenShut
set_option linter.unusedVariables false
set_option linter.unusedSimpArgs false
namespace Go.Proofs.YtlfjocbnbceceaaGreatDoor
open Go.RowKit Go.Vc
set_option maxHeartbeats 1000000 in
theorem target_calls {T bs : Nat} {ao : Option Addr} {b off cap : Nat} {l : List Int} {N : Nat} {aos : Option Addr} {bso offs caps : Nat} {src : List Vc.Item} {w0 : World} (hb : Blk w0 bs T [.slice ao l.length cap, .int .i64 (N : Nat)]) (hl : ∀ w', Evo w0 w' [bs] → RowE w' ao b off cap l) (hN : N ≤ 100000) (hsr : ∀ w', Evo w0 w' [bs] → RowE w' aos bso offs caps src) (hsl : src.length ≤ 100) (hsz0 : sizeL src ≤ 10000) :
    Calls Tryz.prog 43 #[.pointer (some ⟨bs, 0, none⟩), .slice aos src.length caps] w0 fun e w' => ∃ v, ∃ f : List Vc.Item, ∃ N', e = .returned v ∧ (skel f = skel src ∧ f.length ≤ 2 * src.length ∧ sizeL f ≤ sizeL src + 26 * src.length) ∧ (N ≤ N' ∧ N' ≤ N + 10 * src.length) ∧ Evo w0 w' [bs] ∧ Blk w' bs T [.slice ao l.length cap, .int .i64 (N' : Nat)] ∧ OwnE w' w0.heap.size 32 v f := by
 have hAs := hb.at; have hbslt := hb.lt
 refine calls_enter (n := 46) Tryz.func43 rfl Tryz.ntmps43 rfl ?_
 have hV : Evo w0 w0 [bs] := Evo.refl _ _
 have hl0 := hl
 replace hl := hl0 _ hV
 have hbd_hl := hl.bd
 have hsr0 := hsr
 replace hsr := hsr0 _ hV
 have hbd_hsr := hsr.bd
 refine Zs ?_
 refine Zn asS ?_
 refine Zs ?_
 refine Zn asS ?_
 refine r_seq ?_
 refine Zs ?_
 refine Zo mvS ?_
 refine Zo (run_lenSl rfl η Tryz.underlying33) ?_
 refine Zn mvI ?_
 refine r_block ?_
 refine r_loop (α := Nat) [5, 6, 7, 10, 11, 12, 13, 14, 15, 16, 17, 18, 19, 20, 21, 22, 23, 24, 25, 26, 27, 28, 29, 30, 31, 32, 33, 34, 35, 36, 37, 38, 39, 40, 41, 42, 43, 44] (fun k g w => ∃ vf : Value, ∃ f : List Vc.Item, ∃ N1 : Nat, g 10 = .int .i64 (k : Nat) ∧ g 5 = vf ∧ k ≤ src.length ∧ OwnE w w0.heap.size 32 vf f ∧ Blk w bs T [.slice ao l.length cap, .int .i64 (N1 : Nat)] ∧ At w bs 0 [.slice ao l.length cap, .int .i64 (N1 : Nat)] ∧ skel f = skel (src.take k) ∧ (f.length ≤ 2 * k ∧ sizeL f ≤ sizeL (src.take k) + 26 * k ∧ N ≤ N1 ∧ N1 ≤ N + 10 * k) ∧ w0.heap.size ≤ w.heap.size ∧ Evo w0 w [bs]) (fun k => src.length - k) 0 ?_ ?_
 ·refine ⟨_, [], _, σ, rfl, δ, (OwnE.nil _ _ _), hb, hb.at, rfl, (by simp [sizeL]), δ, hV⟩
 rintro k g w2 ⟨vf, f, N1, hj3, hj4, hk_k, hof, hb, hAs, hsk, hsz, hzl1, hV⟩
 have hs_w2hV := hV.size
 have hlt5 := hb.lt
 replace hsr := hsr0 _ hV
 refine Zk 10 (v := .int .i64 (k : Nat)) (by exact hj3) ?_
 refine Zk 5 (v := vf) (by exact hj4) ?_
 refine Zs ?_
 refine Zn (run_lss rfl η η) ?_
 refine r_seq ?_
 refine r_cond η (fun hc6 => ?_) (fun hc6 => ?_)
 ·skip
  refine r_skip ?_
  refine r_seq ?_
  refine r_block ?_
  refine Zs ?_
  refine Zo mvI ?_
  refine Zn asI ?_
  refine r_seq ?_
  have hobF := fun g hg => (hof.block (g := g) hg).2
  refine r_region ?_
  refine Zo mvS ?_
  refine Zo mvI ?_
  refine Zo (run_ix (k) rfl Tryz.underlying33 ty_32 η η (by first | exact rfl | omega) ω (hsr.addr (i := k) ω)) ?_
  have hA70 := fun (w' : World) (h : Evo w0 w' [bs]) => (hsr0 w' h).atD (k) ω
  have hA7 := hA70 _ hV
  refine Zo (run_ldN rfl ag_32 ty_32 η rfl hA7) ?_
  have hob8 := fun g hg => (hof.block (g := g) hg).2
  refine r_var (zs := [_, _, _]) (vs := [_, _, _]) ty_32 η rfl η (fun _ => rfl) η rfl rfl η ?_
  intro b9 w10 J9 E10 B9 Y9
  have Q10 := E10.size
  replace hV := Z0 hV E10
  replace hl := hl0 _ hV
  replace hof := hof.evo0 E10
  replace hb := hb.evo0 E10
  replace hAs := hAs.evo0 E10
  have hAb9 := B9.at
  refine r_nil ?_
  refine r_seq ?_
  refine r_seq ?_
  have hz1 := sizeL_at src k; have hz2 := sizeL_succ src k ω; have hz3 := sizeL_take src (k + 1)
  refine r_region ?_
  refine Zo (run_fa rfl η fo_32_0) ?_
  refine Zo (run_ld1 rfl ag_3 η (hAb9.cell 0 η)) ?_
  refine Zn (run_eql rfl η η) ?_
  refine r_cut [5, 20, 21, 22, 23, 24, 25, 26, 27, 28, 29, 30, 31, 32, 33, 34, 35, 36, 37, 38, 39] (fun g w => ∃ vf2 : Value, ∃ f2 : List Vc.Item, ∃ tx : Str, ∃ N2 : Nat, g 5 = vf2 ∧ OwnE w w0.heap.size 32 vf2 f2 ∧ Blk w b9 32 [.int .i64 (src.getD k default).kind, S tx, .int .i64 (src.getD k default).id] ∧ At w b9 0 [.int .i64 (src.getD k default).kind, S tx, .int .i64 (src.getD k default).id] ∧ Blk w bs T [.slice ao l.length cap, .int .i64 (N2 : Nat)] ∧ At w bs 0 [.slice ao l.length cap, .int .i64 (N2 : Nat)] ∧ skel f2 = skel f ∧ (¬ (src.getD k default).kind = 1 → tx = (src.getD k default).text) ∧ (f2.length ≤ f.length + 1 ∧ sizeL f2 + tx.length ≤ sizeL f + (src.getD k default).text.length + 18 ∧ N1 ≤ N2 ∧ N2 ≤ N1 + 10) ∧ w10.heap.size ≤ w.heap.size ∧ Evo w0 w [bs]) ?_ ?_
  ·skip
   refine r_cond η (fun hc12 => ?_) (fun hc12 => ?_)
   ·skip
    refine r_cut [20, 21, 22, 23, 24, 25, 26, 27, 28, 29, 30] (fun g w => ∃ tx : Str, OwnE w w0.heap.size 32 vf f ∧ Blk w b9 32 [.int .i64 (src.getD k default).kind, S tx, .int .i64 (src.getD k default).id] ∧ At w b9 0 [.int .i64 (src.getD k default).kind, S tx, .int .i64 (src.getD k default).id] ∧ Blk w bs T [.slice ao l.length cap, .int .i64 ((N1 + 1) : Nat)] ∧ At w bs 0 [.slice ao l.length cap, .int .i64 ((N1 + 1) : Nat)] ∧ tx.length ≤ (src.getD k default).text.length + 8 ∧ w10.heap.size ≤ w.heap.size ∧ Evo w0 w [bs]) ?_ ?_
    ·skip
     have hb_q := hb
     have hAs_q := hAs
     have hbb9_q := B9
     have hAb9_q := hAb9
     have hV_q := hV
     refine h_region ([bs]) ζ ?_
     intro w14 hE15 hC16
     have Q14 := hE15.size
     replace hV := Z0 hV hE15
     replace hl := hl0 _ hV
     replace hof := hof.evo0 hE15
     replace hb := hb.evo0 hE15
     replace hAs := hAs.evo0 hE15
     replace B9 := B9.evo0 hE15
     replace hAb9 := hAb9.evo0 hE15
     refine Zt (i := 0) η (fun w' hC => run_fa rfl η fo_32_1) hC16 ?_
     refine Zt (i := 1) η (fun w' hC => run_ld1 rfl ag_9 η ((hAb9_q.evo hC θ).cell 1 η)) hC16 ?_
     refine Zt (i := 2) η (fun w' hC => run_sadd rfl η η (by simp only [List.length_cons, List.length_nil]; omega)) hC16 ?_
     refine Zt (i := 3) η (fun w' hC => run_fa rfl η fo_32_1) hC16 ?_
     refine Zt (i := 4) η (fun w' hC => run_ld1 rfl ag_9 η ((hAb9_q.evo hC θ).cell 1 η)) hC16 ?_
     refine Zt (i := 6) η (fun w' hC => mvP) hC16 ?_
     refine h_two (i := 5) (j := 7) ζ ?_ ?_
     ·skip
      refine h_do η ?_
      refine r_bslice (pv := [(0, S _), (1, S _), (2, S _), (3, S _), (4, S _)]) (zs := [_]) (cs := [_, _, _, _, _]) Tryz.underlying77 ty_9 η rfl η rfl η ?_
      intro b17 w18 J17 E18 B17 Y17
      have Q18 := E18.size
      replace hV := Z0 hV E18
      replace hC16 := Z0 hC16 E18
      replace hl := hl0 _ hV
      replace hof := hof.evo0 E18
      replace hb := hb.evo0 E18
      replace hAs := hAs.evo0 E18
      replace B9 := B9.evo0 E18
      replace hAb9 := hAb9.evo0 E18
      have hrb17 : RowE w18 (some ⟨b17, 0, none⟩) b17 0 5 (tgtW (src.getD k default).text) := rowLit (tgtW (src.getD k default).text) B17 rfl rfl
      refine h_next hC16 ?_
      refine Zh (i := 7) ?_
      refine Zr [.pointer _, .int _ _] rfl η Tryz.func38 (inx_calls hb hl ω ω ω) ?_
      rintro e w19 ⟨nx19, rfl, hx19, hE19, hn19⟩
      refine ⟨_, rfl, ?_⟩
      have Q19 := hE19.size
      replace hV := Z1 hV hE19 (.inr (by simp))
      replace hC16 := Z1 hC16 hE19 ε
      replace hof := hof.evo hE19 (by intro g hg hm; simp at hm; subst hm; have h7 := hobF g hg; have h8 := hof.block hg; omega)
      replace B9 := B9.evo hE19 θ
      replace hAb9 := hAb9.evo hE19 θ
      replace hrb17 := hrb17.evo hE19 θ
      replace hb := hn19
      clear hn19
      have hAs := hb.at
      refine h_next hC16 ?_
      refine Zt (i := 8) η (fun w' hC => run_ix (nx19.toNat) rfl Tryz.underlying77 ty_9 η η ω (by show _ < 5; omega) (hrb17.addr (i := nx19.toNat) (by show _ < 5; omega))) hC16 ?_
      have hA20 := hrb17.atD (nx19.toNat) (by show _ < 5; omega)
      refine Zh (i := 9) ?_
      refine Zo (run_ld1 rfl ag_9 η (hA20.cell 0 η)) ?_
      refine h_last ζ ?_
      refine Zh (i := 10) ?_
      refine Zo (run_fa rfl η fo_32_1) ?_
      refine h_last ζ ?_
      refine Zh (i := 11) ?_
      refine r_store (v := S _) (vs := [_]) (cs' := [_, _, _]) η η B9 ty_9 η rfl η rfl η ?_
      intro w21 E21 V21 hb_new
      have Q21 := E21.size
      replace hV := Z1 hV E21 ε
      replace hl := hl0 _ hV
      replace hsr := hsr0 _ hV
      replace hof := hof.evo E21 (by intro g hg hm; simp at hm; subst hm; have h7 := hobF g hg; have h8 := hof.block hg; omega)
      replace hb := hb.evo E21 θ
      replace B9 := hb_new
      have hAb9 := B9.at
      clear hb_new
      refine h_last ζ ?_
      refine h_done ζ ?_
      refine r_cut_end ?_ ?_
      ·refine ⟨_, hof, B9, B9.at, hb, hb.at, (tgtW_bd _ _), δ, hV⟩
      exact ψ
     refine h_do η ?_
     refine Zr [.pointer _, .int _ _] rfl η Tryz.func38 (inx_calls hb hl ω ω ω) ?_
     rintro e w22 ⟨nx22, rfl, hx22, hE22, hn22⟩
     refine ⟨_, rfl, ?_⟩
     have Q22 := hE22.size
     replace hV := Z1 hV hE22 (.inr (by simp))
     replace hC16 := Z1 hC16 hE22 ε
     replace hof := hof.evo hE22 (by intro g hg hm; simp at hm; subst hm; have h7 := hobF g hg; have h8 := hof.block hg; omega)
     replace B9 := B9.evo hE22 θ
     replace hAb9 := hAb9.evo hE22 θ
     replace hb := hn22
     clear hn22
     have hAs := hb.at
     refine h_next hC16 ?_
     refine Zh (i := 5) ?_
     refine r_bslice (pv := [(0, S _), (1, S _), (2, S _), (3, S _), (4, S _)]) (zs := [_]) (cs := [_, _, _, _, _]) Tryz.underlying77 ty_9 η rfl η rfl η ?_
     intro b23 w24 J23 E24 B23 Y23
     have Q24 := E24.size
     replace hV := Z0 hV E24
     replace hC16 := Z0 hC16 E24
     replace hof := hof.evo0 E24
     replace B9 := B9.evo0 E24
     replace hAb9 := hAb9.evo0 E24
     replace hb := hb.evo0 E24
     have hrb23 : RowE w24 (some ⟨b23, 0, none⟩) b23 0 5 (tgtW (src.getD k default).text) := rowLit (tgtW (src.getD k default).text) B23 rfl rfl
     refine h_next hC16 ?_
     refine Zt (i := 8) η (fun w' hC => run_ix (nx22.toNat) rfl Tryz.underlying77 ty_9 η η ω (by show _ < 5; omega) (hrb23.addr (i := nx22.toNat) (by show _ < 5; omega))) hC16 ?_
     have hA25 := hrb23.atD (nx22.toNat) (by show _ < 5; omega)
     refine Zh (i := 9) ?_
     refine Zo (run_ld1 rfl ag_9 η (hA25.cell 0 η)) ?_
     refine h_last ζ ?_
     refine Zh (i := 10) ?_
     refine Zo (run_fa rfl η fo_32_1) ?_
     refine h_last ζ ?_
     refine Zh (i := 11) ?_
     refine r_store (v := S _) (vs := [_]) (cs' := [_, _, _]) η η B9 ty_9 η rfl η rfl η ?_
     intro w26 E26 V26 hb_new
     have Q26 := E26.size
     replace hV := Z1 hV E26 ε
     replace hl := hl0 _ hV
     replace hsr := hsr0 _ hV
     replace hof := hof.evo E26 (by intro g hg hm; simp at hm; subst hm; have h7 := hobF g hg; have h8 := hof.block hg; omega)
     replace hb := hb.evo E26 θ
     replace B9 := hb_new
     have hAb9 := B9.at
     clear hb_new
     refine h_last ζ ?_
     refine h_done ζ ?_
     refine r_cut_end ?_ ?_
     ·refine ⟨_, hof, B9, B9.at, hb, hb.at, (tgtW_bd _ _), δ, hV⟩
     exact ψ
    rintro g w27 ⟨tx, hof, B9, hAb9, hb, hAs, htl, hzl13, hV⟩
    have hs_w27hV := hV.size
    have hlt28 := B9.lt
    have hlt29 := hb.lt
    replace hl := hl0 _ hV
    replace hsr := hsr0 _ hV
    replace hA7 := hA70 _ hV
    refine r_cut_end ?_ ?_
    ·refine ⟨_, _, _, _, rfl, (hof.base_le ω), B9, B9.at, hb, hb.at, (by first | rfl | exact skel_add _ _), (by first | exact (fun h9 => absurd ω h9) | exact (fun _ => rfl)), (by first | omega | exact ⟨(hnb9 _).1, Nat.le_trans (Nat.add_le_add_right (hnb9 _).2 _) ω, by omega, by omega⟩), δ, hV⟩
    exact ψ
   refine Zs ?_
   refine Zo mvP ?_
   refine Zr [.pointer _, .int _ _] rfl η Tryz.func38 (inx_calls hb hl ω ω ω) ?_
   rintro e w30 ⟨nx30, rfl, hx30, hE30, hn30⟩
   refine ⟨_, rfl, ?_⟩
   have Q30 := hE30.size
   replace hV := Z1 hV hE30 (.inr (by simp))
   replace hl := hl0 _ hV
   replace hsr := hsr0 _ hV
   replace hof := hof.evo hE30 (by intro g hg hm; simp at hm; subst hm; have h7 := hobF g hg; have h8 := hof.block hg; omega)
   replace B9 := B9.evo hE30 θ
   replace hAb9 := hAb9.evo hE30 θ
   replace hb := hn30
   clear hn30
   have hAs := hb.at
   refine Zn (run_eql rfl η η) ?_
   refine r_cond η (fun hc31 => ?_) (fun hc31 => ?_)
   ·skip
    have hnb9 : ∀ t : Str, (normL (f ++ [⟨1, t, 0⟩])).length ≤ f.length + 1 ∧ sizeL (normL (f ++ [⟨1, t, 0⟩])) ≤ sizeL f + t.length := fun t => by have h1 := normL_len (f ++ [⟨1, t, 0⟩]); have h2 := normL_size (f ++ [⟨1, t, 0⟩]); rw [List.length_append] at h1; rw [sizeL_append, sizeL_one] at h2; exact ⟨h1, h2⟩
    have hsm9 : ∀ t : Str, t.length ≤ 18 → Small (f ++ [⟨1, t, 0⟩]) := fun t ht => ⟨by rw [List.length_append]; simp; omega, by rw [sizeL_append, sizeL_one]; simp; omega⟩
    refine r_region ?_
    refine Zo (run_mv (v := vf) rfl η) ?_
    refine Zo mvP ?_
    refine Zr [.pointer _, .int _ _] rfl η Tryz.func74 (line_calls hb (fun w9 h9 => hl0 _ (Evo.trans hV h9 (fun x hx _ => hx))) ω ω ω ω) ?_
    rintro e w32 ⟨tl32, Nl32, rfl, htl32, hNl32, hE32, hn32⟩
    refine ⟨_, rfl, ?_⟩
    have Q32 := hE32.size
    replace hV := Z1 hV hE32 (.inr (by simp))
    replace hof := hof.evo hE32 (by intro g hg hm; simp at hm; subst hm; have h7 := hobF g hg; have h8 := hof.block hg; omega)
    replace B9 := B9.evo hE32 θ
    replace hAb9 := hAb9.evo hE32 θ
    replace hb := hn32
    clear hn32
    have hAs := hb.at
    refine Zo (run_bld (pv := [(0, .int _ _), (1, S _)]) (zs := [_, _, _]) (cells := [_, _, _]) rfl ty_32 η pl_32 η η) ?_
    refine r_bslice (pv := [(0, .agg _)]) (zs := [_, _, _]) (cs := [_, _, _]) Tryz.underlying33 ty_32 η rfl η rfl η ?_
    intro b33 w34 J33 E34 B33 Y33
    have Q34 := E34.size
    replace hV := Z0 hV E34
    replace hof := hof.evo0 E34
    replace B9 := B9.evo0 E34
    replace hAb9 := hAb9.evo0 E34
    replace hb := hb.evo0 E34
    have hrb33 : RowE w34 (some ⟨b33, 0, none⟩) b33 0 1 ([⟨1, tl32, 0⟩] : List Vc.Item) := rowLit ([⟨1, tl32, 0⟩] : List Vc.Item) B33 rfl rfl
    obtain ⟨ao35, g35, cp35, hv35, hr35, hg35⟩ := hof.rowOf
    subst hv35
    refine Zr [.slice _ _ _, .slice (some ⟨b33, 0, none⟩) _ _] rfl η Tryz.func76 (rconcat_calls hr35 hrb33 (hsm9 _ ω)) ?_
    rintro e w36 ⟨vn36, rfl, hE36, hon36⟩
    refine ⟨_, rfl, ?_⟩
    have Q36 := hE36.size
    replace hV := Z0 hV hE36
    replace hl := hl0 _ hV
    replace hsr := hsr0 _ hV
    replace hof := hof.evo0 hE36
    replace B9 := B9.evo0 hE36
    replace hAb9 := hAb9.evo0 hE36
    replace hb := hb.evo0 hE36
    replace hrb33 := hrb33.evo0 hE36
    replace hr35 := hr35.evo0 hE36
    refine Zn (run_asg (v := vn36) rfl η) ?_
    refine r_cut_end ?_ ?_
    ·refine ⟨_, _, _, _, rfl, (hon36.base_le ω), B9, B9.at, hb, hb.at, (by first | rfl | exact skel_add _ _), (by first | exact (fun h9 => absurd ω h9) | exact (fun _ => rfl)), (by first | omega | exact ⟨(hnb9 _).1, Nat.le_trans (Nat.add_le_add_right (hnb9 _).2 _) ω, by omega, by omega⟩), δ, hV⟩
    exact ψ
   refine r_skip ?_
   refine r_cut_end ?_ ?_
   ·refine ⟨_, _, _, _, rfl, (hof.base_le ω), B9, B9.at, hb, hb.at, (by first | rfl | exact skel_add _ _), (by first | exact (fun h9 => absurd ω h9) | exact (fun _ => rfl)), (by first | omega | exact ⟨(hnb9 _).1, Nat.le_trans (Nat.add_le_add_right (hnb9 _).2 _) ω, by omega, by omega⟩), δ, hV⟩
   exact ψ
  rintro g w37 ⟨vf2, f2, tx, N2, hj38, hof, B9, hAb9, hb, hAs, hsk2, htx, hsz2, hzl11, hV⟩
  have hs_w37hV := hV.size
  have hlt39 := B9.lt
  have hlt40 := hb.lt
  replace hA7 := hA70 _ hV
  refine Zk 5 (v := vf2) (by exact hj38) ?_
  have hsm10 : Small (f2 ++ [⟨(src.getD k default).kind, tx, (src.getD k default).id⟩]) := ⟨by rw [List.length_append]; simp; omega, by rw [sizeL_append, sizeL_one]; simp; omega⟩
  have hobF := fun g hg => (hof.block (g := g) hg).2
  refine r_region ?_
  refine Zo (run_mv (v := vf2) rfl η) ?_
  refine Zo (run_ldN rfl ag_32 ty_32 η rfl hAb9) ?_
  refine r_bslice (pv := [(0, .agg _)]) (zs := [_, _, _]) (cs := [_, _, _]) Tryz.underlying33 ty_32 η rfl η rfl η ?_
  intro b41 w42 J41 E42 B41 Y41
  have Q42 := E42.size
  replace hV := Z0 hV E42
  replace hof := hof.evo0 E42
  replace hb := hb.evo0 E42
  have hrb41 : RowE w42 (some ⟨b41, 0, none⟩) b41 0 1 ([⟨(src.getD k default).kind, tx, (src.getD k default).id⟩] : List Vc.Item) := rowLit ([⟨(src.getD k default).kind, tx, (src.getD k default).id⟩] : List Vc.Item) B41 rfl rfl
  obtain ⟨ao43, g43, cp43, hv43, hr43, hg43⟩ := hof.rowOf
  subst hv43
  refine Zr [.slice _ _ _, .slice (some ⟨b41, 0, none⟩) _ _] rfl η Tryz.func76 (rconcat_calls hr43 hrb41 hsm10) ?_
  rintro e w44 ⟨vn44, rfl, hE44, hon44⟩
  refine ⟨_, rfl, ?_⟩
  have Q44 := hE44.size
  replace hV := Z0 hV hE44
  replace hl := hl0 _ hV
  replace hsr := hsr0 _ hV
  replace hof := hof.evo0 hE44
  replace hb := hb.evo0 hE44
  replace hrb41 := hrb41.evo0 hE44
  replace hr43 := hr43.evo0 hE44
  refine Zn (run_asg (v := vn44) rfl η) ?_
  refine r_blk ?_
  refine r_region ?_
  refine Zo (run_add rfl η η ω ω) ?_
  refine Zn mvI ?_
  refine r_again (k + 1) ?_ ?_ ?_
  ·first | omega | (dsimp only; omega)
  ·refine ⟨_, _, _, σ, rfl, δ, (hon44.base_le ω), hb, hb.at, (by rw [skel_succ src k ω, ← hsk]; exact skel_step hsk2 htx), (by have h1 := normL_len (f2 ++ [⟨(src.getD k default).kind, tx, (src.getD k default).id⟩]); have h2 := normL_size (f2 ++ [⟨(src.getD k default).kind, tx, (src.getD k default).id⟩]); have h3 := sizeL_succ src k ω; rw [List.length_append] at h1; rw [sizeL_append, sizeL_one] at h2; simp only [List.length_cons, List.length_nil] at h1 h2; omega), δ, hV⟩
  exact ψ
 refine r_exit rfl ?_
 refine Zs ?_
 refine Zo (run_mv (v := vf) rfl η) ?_
 refine Zn (run_asg (v := vf) rfl η) ?_
 refine r_ret (res1 (v := vf) rfl η) ?_
 exact ⟨_, _, N1, rfl, ⟨by rw [List.take_of_length_le ω] at hsk; exact hsk, by omega, by rw [List.take_of_length_le ω] at hsz; omega⟩, by omega, hV, hb, hof⟩
theorem pl_70 : placesP Tryz.prog 70 = some [(0, 1), (1, 1)] := by kernel_rfl
theorem ty_22 : tyP Tryz.prog 22 = some (1, 24, some (.slice none 0 0)) := by kernel_rfl
theorem ty_70 : tyP Tryz.prog 70 = some (2, 32, some (.agg #[(.slice none 0 0), (.int .i64 0)])) := by kernel_rfl
theorem klong_calls {ao : Option Addr} {b off cap : Nat} {ll : List (List Int)} {w0 : World} (hs : RowR w0 ao b off cap ll) (hb : ll.flatten.length ≤ 9000000000000000000) :
    Calls Tryz.prog 17 #[.slice ao ll.length cap] w0 fun e w' => e = .returned (.bool (decide (ll.flatten.length > 160))) ∧ Evo w0 w' [] := by
 refine calls_enter (n := 19) Tryz.func17 rfl Tryz.ntmps17 rfl ?_
 have hV : Evo w0 w0 [] := Evo.refl _ _
 have hs0 := hs.keep
 have hbd_hs := hs.bd
 refine Zs ?_
 refine Zn asB ?_
 refine Zs ?_
 refine Zn asI ?_
 refine r_seq ?_
 refine Zs ?_
 refine Zo mvS ?_
 refine Zo (run_lenSl rfl η Tryz.underlying65) ?_
 refine Zn mvI ?_
 refine r_block ?_
 refine r_loop (α := Nat) [3, 5, 8, 9, 10, 11, 12, 13, 14, 15, 16] (fun k g w => g 8 = .int .i64 (k : Nat) ∧ g 3 = .int .i64 (((ll.take k).flatten).length : Nat) ∧ k ≤ ll.length ∧ w0.heap.size ≤ w.heap.size ∧ Evo w0 w []) (fun k => ll.length - k) 0 ?_ ?_
 ·refine ⟨σ, rfl, δ, δ, hV⟩
 rintro k g w2 ⟨hj3, hj4, hk_k, hzl1, hV⟩
 have hs_w2hV := hV.size
 replace hs := hs0.now hV
 refine Zk 8 (v := .int .i64 (k : Nat)) (by exact hj3) ?_
 refine Zk 3 (v := .int .i64 (((ll.take k).flatten).length : Nat)) (by exact hj4) ?_
 refine Zs ?_
 refine Zn (run_lss rfl η η) ?_
 refine r_seq ?_
 refine r_cond η (fun hc5 => ?_) (fun hc5 => ?_)
 ·skip
  refine r_skip ?_
  refine r_seq ?_
  refine r_block ?_
  refine Zs ?_
  refine Zo (run_ix (k) rfl Tryz.underlying65 ty_22 η η (by first | exact rfl | omega) ω (hs.addr (i := k) ω)) ?_
  obtain ⟨ao6, b6, off6, cap6, hX⟩ := sl_atK hs0 (k) ω
  have hA60 := fun (w' : World) (h : Evo w0 w' []) => (hX w' h).1
  have hA6 := hA60 _ hV
  have hR60 := fun (w' : World) (h : Evo w0 w' []) => (hX w' h).2
  have hR6 := hR60 _ hV
  clear hX
  have hbd_hR6 := hR6.bd
  refine Zo (run_ld1 rfl ag_22 η (hA6.cell 0 η)) ?_
  refine Zn asS ?_
  have hf1 := flat_take ll (k + 1); have hf2 : ((ll.take (k + 1)).flatten).length = ((ll.take k).flatten).length + (ll.getD k default).length := by rw [flat_succL ll k ω, List.length_append]
  refine r_region ?_
  refine Zo mvI ?_
  refine Zo mvS ?_
  refine Zo (run_lenSl rfl η Tryz.underlying22) ?_
  refine Zo (run_add rfl η η ω ω) ?_
  refine Zn asI ?_
  refine r_blk ?_
  refine r_region ?_
  refine Zo (run_add rfl η η ω ω) ?_
  refine Zn mvI ?_
  refine r_again (k + 1) ?_ ?_ ?_
  ·first | omega | (dsimp only; omega)
  ·refine ⟨σ, (congrArg (Value.int _) ω), δ, δ, hV⟩
  exact ψ
 refine r_exit rfl ?_
 refine Zs ?_
 refine Zo mvI ?_
 refine Zo (run_gtr rfl η η) ?_
 refine Zn asB ?_
 refine r_ret (res1 (v := .bool _) rfl η) ?_
 exact ⟨ret_bool (by rw [List.take_of_length_le ω]; rw [Bool.eq_iff_iff, decide_eq_true_iff, decide_eq_true_iff]; omega), hV⟩
theorem kfrom_calls {ao : Option Addr} {cap : Nat} {l : List Int} {w0 : World}  :
    Calls Tryz.prog 19 #[.slice ao l.length cap] w0 fun e w' => ∃ bs, e = .returned (.pointer (some ⟨bs, 0, none⟩)) ∧ w0.heap.size ≤ bs ∧ Evo w0 w' [] ∧ Blk w' bs 70 [.slice ao l.length cap, .int .i64 ((0 : Nat) : Int)] ∧ At w' bs 0 [.slice ao l.length cap, .int .i64 ((0 : Nat) : Int)] := by
 refine calls_enter (n := 6) Tryz.func19 rfl Tryz.ntmps19 rfl ?_
 have hV : Evo w0 w0 [] := Evo.refl _ _
 refine Zs ?_
 refine Zn asP ?_
 refine Zs ?_
 refine Zo mvS ?_
 refine Zo (run_bld (pv := [(0, .slice _ _ _)]) (zs := [_, _]) (cells := [_, _]) rfl ty_70 η pl_70 η η) ?_
 refine r_box (vs := [_, _]) η η rfl ?_
 intro b1 w2 J1 E2 B1 Y1
 have Q2 := E2.size
 replace hV := Z0 hV E2
 refine Zn asP ?_
 refine r_ret (res1 (v := .pointer _) rfl η) ?_
 exact ⟨_, rfl, by omega, hV, B1, B1.at⟩
set_option maxHeartbeats 1000000 in
theorem pairof_calls {ao : Option Addr} {b off cap : Nat} {l : List Int} {w0 : World} (hl : RowE w0 ao b off cap l) :
    Calls Tryz.prog 21 #[.slice ao l.length cap] w0 fun e w' => ∃ ao1 b1 off1 cap1, ∃ ao2 b2 off2 cap2, ∃ f g : List Vc.Item, e = .returned (.tuple #[.slice ao1 f.length cap1, .slice ao2 g.length cap2]) ∧ Evo w0 w' [] ∧ RowE w' ao1 b1 off1 cap1 f ∧ RowE w' ao2 b2 off2 cap2 g ∧ ((f ≠ [] → w0.heap.size ≤ b1) ∧ (g ≠ [] → w0.heap.size ≤ b2)) ∧ PairR f g := by
 refine calls_enter (n := 33) Tryz.func21 rfl Tryz.ntmps21 rfl ?_
 have hV : Evo w0 w0 [] := Evo.refl _ _
 have hl0 := keepE hl
 have hbd_hl := hl.bd
 refine Zs ?_
 refine Zo asS ?_
 refine Zn asS ?_
 refine Zs ?_
 refine Zo mvS ?_
 refine Zr [.slice _ _ _] rfl η Tryz.func19 kfrom_calls ?_
 rintro e w1 ⟨bs1, rfl, hbs1, hE1, hbn1, hbA1⟩
 refine ⟨_, rfl, ?_⟩
 have Q1 := hE1.size
 replace hV := Z0 hV hE1
 replace hl := hl0 _ hV
 refine Zn asP ?_
 refine r_seq ?_
 have hbslt := hbn1.lt
 refine r_region ?_
 refine Zo mvP ?_
 refine Zo mvP ?_
 refine Zr [.pointer _, .int _ _] rfl η Tryz.func38 (nx_calls hbn1 hl ω ω ω) ?_
 rintro e w2 ⟨nx2, rfl, hx2, hE2, hn2⟩
 refine ⟨_, rfl, ?_⟩
 have Q2 := hE2.size
 replace hV := Z1 hV hE2 ε
 replace hbn1 := hn2
 clear hn2
 refine Zo (run_eql rfl η η) ?_
 refine Zr [.pointer _, .int _ _, .bool _, .bool _] rfl η Tryz.func41 (fragment_calls hbn1 (fun w9 h9 => hl0 _ (evo_step1 hV h9 (.inl ω))) ω ω ω) ?_
 rintro e w3 ⟨vf3, f3, Nf3, rfl, hf3, hNf3, hE3, hn3, hof3⟩
 refine ⟨_, rfl, ?_⟩
 have Q3 := hE3.size
 replace hV := Z1 hV hE3 ε
 replace hl := hl0 _ hV
 replace hbn1 := hn3
 clear hn3
 have hv := hf3.1; have hfl := hf3.2.1; have hfs := hf3.2.2.1; have hti : ∀ x ∈ tagsL f3, InR x := val_in _ _ hv; have htf : Tiny f3 := small_tiny (n := 5) ω ω ω
 refine Zn (run_asg (v := vf3) rfl η) ?_
 refine r_seq ?_
 refine r_seq ?_
 have hI5 : Evo w3 w3 [bs1] := Evo.refl _ _
 obtain ⟨ao4, g4, cp4, hv4, hr4, hg4⟩ := hof3.rowOf
 subst hv4
 have hr40 := fun w9 (h9 : Evo w3 w9 [bs1]) => row_keep hr4 h9 (fun hne hm => by have h2 := (hg4 hne).2; simp at hm; omega)
 refine r_region ?_
 refine Zo mvP ?_
 refine Zr [.pointer _, .int _ _] rfl η Tryz.func38 (nx_calls hbn1 hl ω ω ω) ?_
 rintro e w5 ⟨nx5, rfl, hx5, hE5, hn5⟩
 refine ⟨_, rfl, ?_⟩
 have Q5 := hE5.size
 replace hV := Z1 hV hE5 ε
 replace hI5 := Z1 hI5 hE5 ε
 replace hr4 := hr40 _ hI5
 replace hbn1 := hn5
 clear hn5
 refine r_nil ?_
 refine r_block ?_
 refine Zs ?_
 refine Zo (run_eql rfl η η) ?_
 refine Zn asB ?_
 refine r_cond η (fun hc6 => ?_) (fun hc6 => ?_)
 ·skip
  refine Zs ?_
  refine Zo mvS ?_
  refine Zo mvP ?_
  refine Zr [.pointer _, .int _ _, .bool _, .bool _] rfl η Tryz.func41 (fragment_calls hbn1 (fun w9 h9 => hl0 _ (evo_step1 hV h9 (.inl ω))) ω ω ω) ?_
  rintro e w7 ⟨vf7, f7, Nf7, rfl, hf7, hNf7, hE7, hn7, hof7⟩
  refine ⟨_, rfl, ?_⟩
  have Q7 := hE7.size
  replace hV := Z1 hV hE7 ε
  replace hI5 := Z1 hI5 hE7 ε
  replace hr4 := hr40 _ hI5
  replace hbn1 := hn7
  clear hn7
  refine Zo asS ?_
  refine Zn (run_asg (v := vf7) rfl η) ?_
  refine r_ret (res2 (v := .slice _ _ _) (u := vf7) rfl η η) ?_
  obtain ⟨ao8, g8, cp8, hv8, hr8, hg8⟩ := hof7.rowOf
  subst hv8
  exact ⟨_, _, _, _, _, _, _, _, _, _, rfl, hV, hr4, hr8, ⟨fun hne => by have := (hg4 hne).2; omega, fun hne => by have := (hg8 hne).2; omega⟩, ⟨htf, small_tiny (n := 5) ω ω ω, hti, val_in _ _ hf7.1, hv⟩⟩
 refine Zs ?_
 refine Zo (run_eql rfl η η) ?_
 refine Zn asB ?_
 refine r_cond η (fun hc9 => ?_) (fun hc9 => ?_)
 ·skip
  refine Zs ?_
  refine Zo mvS ?_
  refine Zo mvP ?_
  refine Zr [.pointer _, .int _ _] rfl η Tryz.func42 (rawi_calls hbn1 (fun w9 h9 => hl0 _ (evo_step1 hV h9 (.inl ω))) ω ω ω) ?_
  rintro e w10 ⟨vf10, f10, rfl, hf10, hE10, hof10⟩
  refine ⟨_, rfl, ?_⟩
  have Q10 := hE10.size
  replace hV := Z1 hV hE10 ε
  replace hI5 := Z1 hI5 hE10 ε
  replace hr4 := hr40 _ hI5
  refine Zo asS ?_
  refine Zn (run_asg (v := vf10) rfl η) ?_
  refine r_ret (res2 (v := .slice _ _ _) (u := vf10) rfl η η) ?_
  obtain ⟨ao11, g11, cp11, hv11, hr11, hg11⟩ := hof10.rowOf
  subst hv11
  exact ⟨_, _, _, _, _, _, _, _, _, _, rfl, hV, hr4, hr11, ⟨fun hne => by have := (hg4 hne).2; omega, fun hne => by have := (hg11 hne).2; omega⟩, ⟨htf, ⟨by omega, by omega⟩, hti, raw_in hf10.2.2, hv⟩⟩
 refine Zs ?_
 refine Zo (run_eql rfl η η) ?_
 refine Zn asB ?_
 refine r_cond η (fun hc12 => ?_) (fun hc12 => ?_)
 ·skip
  refine Zs ?_
  refine Zo mvS ?_
  refine Zo mvS ?_
  refine Zo asS ?_
  refine Zn asS ?_
  refine r_ret (res2 (v := .slice _ _ _) (u := .slice _ _ _) rfl η η) ?_
  exact ⟨_, _, _, _, _, _, _, _, _, _, rfl, hV, hr4, hr4, ⟨fun hne => by have := (hg4 hne).2; omega, fun hne => by have := (hg4 hne).2; omega⟩, ⟨htf, htf, hti, hti, hv⟩⟩
 refine r_skip ?_
 refine r_blk ?_
 refine Zs ?_
 refine Zo mvS ?_
 refine Zo mvP ?_
 refine Zo mvS ?_
 refine Zr [.pointer _, .slice _ _ _] rfl η Tryz.func43 (target_calls hbn1 (fun w9 h9 => hl0 _ (evo_step1 hV h9 (.inl ω))) ω (fun w9 h9 => hr40 _ (evo_step1 hI5 h9 (.inr (by simp)))) ω ω) ?_
 rintro e w13 ⟨vf13, f13, Nf13, rfl, hf13, hNf13, hE13, hn13, hof13⟩
 refine ⟨_, rfl, ?_⟩
 have Q13 := hE13.size
 replace hV := Z1 hV hE13 ε
 replace hI5 := Z1 hI5 hE13 ε
 replace hr4 := hr40 _ hI5
 replace hbn1 := hn13
 clear hn13
 refine Zo asS ?_
 refine Zn (run_asg (v := vf13) rfl η) ?_
 refine r_ret (res2 (v := .slice _ _ _) (u := vf13) rfl η η) ?_
 obtain ⟨ao14, g14, cp14, hv14, hr14, hg14⟩ := hof13.rowOf
 subst hv14
 exact ⟨_, _, _, _, _, _, _, _, _, _, rfl, hV, hr4, hr14, ⟨fun hne => by have := (hg4 hne).2; omega, fun hne => by have := (hg14 hne).2; omega⟩, ⟨htf, ⟨by omega, by omega⟩, hti, skel_in hf13.1 hti, hv⟩⟩
theorem pl_28 : placesP Tryz.prog 28 = some [(0, 13), (13, 1), (14, 1), (15, 1), (16, 1)] := by kernel_rfl
end Go.Proofs.YtlfjocbnbceceaaGreatDoor
namespace Go.Proofs.YtlfjocbnbceceaaGreatDoor
open Go Go.RowKit Go.Vc
theorem dif_self {α : Type} [DecidableEq α] (s : List α) (x : α) : dif s s x = 0 := by unfold dif; omega
theorem difs_empty {α : Type} [DecidableEq α] {u s t : List α} {f : α → Int → Vc.Item} (hu : ∀ x, x ∈ t ∨ x ∈ s → x ∈ u) : difs u s t f = [] ↔ ∀ x, dif s t x = 0 := by
  constructor
  · intro h x
    rcases Classical.em (x ∈ t ∨ x ∈ s) with q | q
    · unfold difs at h
      have h1 := List.map_eq_nil_iff.1 h
      have h2 := (List.filter_eq_nil_iff.1 h1) x (hu x q)
      simpa using h2
    · exact dif_out q
  · exact difs_nil
theorem dif_perm {α : Type} [DecidableEq α] {s t : List α} : (∀ x, dif s t x = 0) ↔ s.Perm t := by
  rw [List.perm_iff_count]
  constructor
  · intro h x; have := h x; unfold dif at this; omega
  · intro h x; have := h x; unfold dif; omega
theorem sortS_eq {a b : List Str} : (sortS a).Perm (sortS b) ↔ sortS a = sortS b := by
  constructor
  · intro h
    refine h.eq_of_pairwise (le := fun x y => x ≤ y) (fun a b _ _ h1 h2 => List.le_antisymm h1 h2) ?_ ?_ <;>
    · have := List.pairwise_mergeSort (le := fun x y : Str => decide (x ≤ y)) (fun a b c h1 h2 => by simp only [decide_eq_true_eq] at *; exact List.le_trans h1 h2) (fun a b => by simp only [Bool.or_eq_true, decide_eq_true_eq]; exact List.le_total a b)
      exact (this _).imp (fun h => of_decide_eq_true h)
  · intro h; rw [h]
def chkC : Chk := ⟨[0, 0, 0, 1, 1, 1, 0, 0, 0, 0, 0, 0, 0], 0, 0, [], []⟩
theorem chkC_ok : validK chkC = 0 := by decide +kernel
theorem lev_C {z : Vc.Item} (hk : 2 ≤ z.kind ∧ z.kind ≤ 12) : (levF chkC z = true) ↔ (3 ≤ z.kind ∧ z.kind ≤ 5) := by
  unfold levF
  have : z.kind = 2 ∨ z.kind = 3 ∨ z.kind = 4 ∨ z.kind = 5 ∨ z.kind = 6 ∨ z.kind = 7 ∨ z.kind = 8 ∨ z.kind = 9 ∨ z.kind = 10 ∨ z.kind = 11 ∨ z.kind = 12 := by omega
  rcases this with h | h | h | h | h | h | h | h | h | h | h <;> rw [h] <;> decide
theorem compat_law' {f g : List Vc.Item} (hs : (shapeL f).isSome = true) (hh : ¬ hidB f g) : decide (((runF chkC f g).length : Int) = 0) = compatL f g := by
  rw [Bool.eq_iff_iff, decide_eq_true_iff, compat_iff]
  have h1 : findL chkC f g = findA chkC f g := if_neg hh
  have e0 : (((runF chkC f g).length : Int) = 0) ↔ ∀ z ∈ findA chkC f g, ¬ (3 ≤ z.kind ∧ z.kind ≤ 5) := by
    have e1 : (((runF chkC f g).length : Int) = 0) ↔ runF chkC f g = [] := by rw [← List.length_eq_zero_iff]; omega
    rw [e1]
    unfold runF
    rw [if_pos chkC_ok, h1, List.filter_eq_nil_iff]
    constructor
    · intro h z hz q; exact h z ((sortF_perm _).mem_iff.2 hz) ((lev_C (findA_kind hz)).2 q)
    · intro h z hz q
      have hz' := (sortF_perm _).mem_iff.1 hz
      exact h z hz' ((lev_C (findA_kind hz')).1 q)
  have hS : slotF f g = [] ↔ sortS (slotsL f) = sortS (slotsL g) := by
    unfold slotF difS
    rw [difs_empty (fun x hx => uniS_mem.2 hx.symm), dif_perm, sortS_eq]
  have hT : tagF f g = [] ↔ (tagsL f).Perm (tagsL g) := by
    unfold tagF difT
    rw [difs_empty (fun x hx => (dist_mem _ _).2 (List.mem_append.2 hx.symm)), dif_perm]
  have hP : shapeF f g = [] ↔ ((shapeL f).isSome = (shapeL g).isSome ∧ sC f = sC g) ∧ sO f = sO g := by
    unfold shapeF
    constructor
    · intro h
      split at h
      · cases h
      · rename_i h2
        have h3 := not_or.1 h2
        have h4 := not_or.1 h3.1
        exact ⟨⟨Classical.not_not.1 h4.1, Classical.not_not.1 h4.2⟩, Classical.not_not.1 h3.2⟩
    · rintro ⟨⟨h2, h3⟩, h4⟩
      exact if_neg (fun q => q.elim (fun q => q.elim (fun q => q h2) (fun q => q h3)) (fun q => q h4))
  have hA : (∀ z ∈ findA chkC f g, ¬ (3 ≤ z.kind ∧ z.kind ≤ 5)) ↔ slotF f g = [] ∧ tagF f g = [] ∧ shapeF f g = [] := by
    constructor
    · intro h
      refine ⟨List.eq_nil_iff_forall_not_mem.2 (fun z hz => ?_), List.eq_nil_iff_forall_not_mem.2 (fun z hz => ?_), List.eq_nil_iff_forall_not_mem.2 (fun z hz => ?_)⟩
      · have hk := difs_kind (k := 3) (fun _ _ => rfl) hz
        exact h z (by unfold findA; simp [hz]) ω
      · have hk := difs_kind (k := 4) (fun _ _ => rfl) hz
        exact h z (by unfold findA; simp [hz]) ω
      · have hk := if_kind (k := 5) rfl hz
        exact h z (by unfold findA; simp [hz]) ω
    · rintro ⟨h2, h3, h4⟩ z hz
      unfold findA at hz
      rw [h2, h3, h4] at hz
      simp only [List.append_nil] at hz
      rcases List.mem_append.1 hz with hz | hz
      · rcases List.mem_append.1 hz with hz | hz
        · rcases List.mem_append.1 hz with hz | hz
          · have := if_kind (k := 2) rfl hz; omega
          · have := difs_kind (k := 6) (fun _ _ => rfl) hz; omega
        · have := plainF_kind hz; omega
      · have := termF_kind hz; omega
  rw [e0, hA, hS, hT, hP]
  constructor
  · rintro ⟨h2, h3, ⟨h4, h5⟩, h6⟩; exact ⟨⟨⟨hs, h4 ▸ hs⟩, h5⟩, h6, h2, h3⟩
  · rintro ⟨⟨⟨h2, h3⟩, h5⟩, h6, h7, h8⟩; exact ⟨h7, h8, ⟨by rw [h2, h3], h5⟩, h6⟩
def kC : Chk := ⟨[0, 1, 1, 1, 1, 1, 2, 1, 1, 1, 1, 1, 1], 0, 0, [], []⟩
def kA : List Vc.Item := [⟨1, [97, 32, 49], 0⟩]
def kB : List Vc.Item := [⟨1, [98, 32, 50], 0⟩]
def kO : List Vc.Item := [⟨6, [49], -1⟩, ⟨6, [50], 1⟩]
theorem kC_ok : validK kC = 0 := by decide +kernel
theorem k_slot : slotF kA kB = [] := by
  have h : slotsL kA = [] ∧ slotsL kB = [] := by decide
  unfold slotF; rw [h.1, h.2]
  exact difs_nil (dif_self _)
theorem k_run : runF kC kA kB = kO := by
  unfold runF
  rw [if_pos kC_ok]
  have e : findL kC kA kB = findA kC kA kB := if_neg (by decide)
  have e2 : findA kC kA kB = kO := by
    unfold findA; rw [k_slot]
    decide +kernel
  rw [e, e2]
  decide +kernel
theorem k_ref : refL kC kO = true := by decide +kernel
theorem k_emp : runF kC [⟨1, [97], 0⟩] [] = [⟨1, [], 0⟩] := by
  unfold runF
  rw [if_pos kC_ok]
  have e : findL kC [⟨1, [97], 0⟩] [] = [⟨1, [], 0⟩] := if_pos ⟨rfl, by simp⟩
  rw [e]; decide +kernel
theorem k_tiny : Tiny kA ∧ Tiny kB ∧ Tiny [⟨1, [97], 0⟩] ∧ Tiny ([] : List Vc.Item) := by unfold Tiny; decide
theorem k_notag : (∀ x ∈ tagsL kA, InR x) ∧ (∀ x ∈ tagsL kB, InR x) ∧ ∀ x ∈ tagsL [⟨1, [97], 0⟩], InR x := by
  have h : tagsL kA = [] ∧ tagsL kB = [] ∧ tagsL [⟨1, [97], 0⟩] = [] := by decide
  rw [h.1, h.2.1, h.2.2]
  exact ⟨fun x hx => absurd hx List.not_mem_nil, fun x hx => absurd hx List.not_mem_nil, fun x hx => absurd hx List.not_mem_nil⟩
theorem own_cast {α : Type} [Enc α] {w : World} {base : Nat} {E : TypeId} {v : Value} {l l2 : List α} (h : OwnE w base E v l) (e : l = l2) : OwnE w base E v l2 := e ▸ h
def kLev (k : Nat) : List Int := (0 :: List.replicate (k - 1) 1) ++ List.replicate (13 - k) 0
theorem kLev_len {k : Nat} (h : 1 ≤ k) (h2 : k ≤ 13) : (kLev k).length = 13 := by unfold kLev; simp; omega
theorem kLev_set {k : Nat} (h : 1 ≤ k) (h2 : k < 13) : (kLev k).set k 1 = kLev (k + 1) := by
  have : ∀ k, k < 13 → 1 ≤ k → (kLev k).set k 1 = kLev (k + 1) := by decide
  exact this k h2 h
theorem known1_calls {s : Str} {w0 : World}  :
    Calls Tryz.prog 37 #[S s] w0 fun e w' => ∃ ao b off cap, e = .returned (.slice ao ([⟨1, s, 0⟩] : List Vc.Item).length cap) ∧ Evo w0 w' [] ∧ RowE w' ao b off cap ([⟨1, s, 0⟩] : List Vc.Item) := by
 refine calls_enter (n := 6) Tryz.func37 rfl Tryz.ntmps37 rfl ?_
 have hV : Evo w0 w0 [] := Evo.refl _ _
 refine Zs ?_
 refine Zn asS ?_
 refine Zs ?_
 refine Zo mvT ?_
 refine Zo (run_bld (pv := [(0, .int _ _), (1, S _)]) (zs := [_, _, _]) (cells := [_, _, _]) rfl ty_32 η pl_32 η η) ?_
 refine r_bslice (pv := [(0, .agg _)]) (zs := [_, _, _]) (cs := [_, _, _]) Tryz.underlying33 ty_32 η rfl η rfl η ?_
 intro b1 w2 J1 E2 B1 Y1
 have Q2 := E2.size
 replace hV := Z0 hV E2
 have hrb1 : RowE w2 (some ⟨b1, 0, none⟩) b1 0 1 ([⟨1, s, 0⟩] : List Vc.Item) := rowLit ([⟨1, s, 0⟩] : List Vc.Item) B1 rfl rfl
 refine Zn (run_asg (v := .slice (some ⟨b1, 0, none⟩) _ _) rfl η) ?_
 refine r_ret (res1 (v := .slice (some ⟨b1, 0, none⟩) _ _) rfl η) ?_
 exact ⟨_, _, _, _, rfl, hV, hrb1⟩
set_option maxHeartbeats 4000000 in
theorem kknown_calls  {w0 : World} (htab : Tab w0) :
    Calls Tryz.prog 15 #[] w0 fun e w' => e = .returned (.bool true) ∧ Evo w0 w' [] := by
 refine calls_enter (n := 40) Tryz.func15 rfl Tryz.ntmps15 rfl ?_
 have hV : Evo w0 w0 [] := Evo.refl _ _
 refine Zs ?_
 refine Zn asB ?_
 refine Zs ?_
 refine Zo (run_bld (pv := []) (zs := [_, _, _, _, _, _, _, _, _, _, _, _, _, _, _, _, _]) (cells := [_, _, _, _, _, _, _, _, _, _, _, _, _, _, _, _, _]) rfl ty_28 η pl_28 η η) ?_
 refine r_var (zs := [_, _, _, _, _, _, _, _, _, _, _, _, _, _, _, _, _]) (vs := [_, _, _, _, _, _, _, _, _, _, _, _, _, _, _, _, _]) ty_28 η rfl η (fun _ => rfl) η rfl rfl η ?_
 intro b1 w2 J1 E2 B1 Y1
 have Q2 := E2.size
 replace hV := Z0 hV E2
 have hAb1 := B1.at
 refine r_nil ?_
 refine r_seq ?_
 refine Zs ?_
 refine Zn asI ?_
 refine r_block ?_
 refine r_loop (α := Nat) [2, 6, 7, 8, 9, 10, 11, 12] (fun k g w => g 2 = .int .i64 (k : Nat) ∧ Blk w b1 28 ((kLev k).map (Value.int .i64) ++ [.int .i64 0, .int .i64 0, .slice none 0 0, .slice none 0 0]) ∧ At w b1 0 ((kLev k).map (Value.int .i64) ++ [.int .i64 0, .int .i64 0, .slice none 0 0, .slice none 0 0]) ∧ (1 ≤ k ∧ k ≤ 13) ∧ w2.heap.size ≤ w.heap.size ∧ Evo w0 w []) (fun k => 13 - k) 1 ?_ ?_
 ·refine ⟨rfl, B1, B1.at, δ, δ, hV⟩
 rintro k g w4 ⟨hj5, B1, hAb1, hk, hzl3, hV⟩
 have hs_w4hV := hV.size
 have hlt6 := B1.lt
 refine Zk 2 (v := .int .i64 (k : Nat)) (by exact hj5) ?_
 have hl13 := kLev_len hk.1 hk.2
 refine r_seq ?_
 refine Zs ?_
 refine Zo mvI ?_
 refine Zn (run_lss rfl η η) ?_
 refine r_cond η (fun hc7 => ?_) (fun hc7 => ?_)
 ·skip
  refine r_skip ?_
  refine r_seq ?_
  refine r_block ?_
  refine r_region ?_
  refine Zo mvI ?_
  refine Zo (run_fa rfl η fo_28_0) ?_
  refine Zo (run_ixP (k) rfl Tryz.underlying24 ty_3 η η ω ω) ?_
  refine r_store (v := .int .i64 1) (vs := [.int .i64 1]) (cs' := (((kLev k).set k (1)).map (Value.int .i64) ++ [.int .i64 0, .int .i64 0, .slice none 0 0, .slice none 0 0])) η η B1 ty_3 η rfl η (by simp only [Nat.zero_add, Nat.mul_one]; exact lev_fit rfl ω) (by simp only [Nat.zero_add, Nat.mul_one]; exact lev_set ω) ?_
  intro w8 E8 V8 hb_new
  have Q8 := E8.size
  replace hV := Z1 hV E8 ε
  replace B1 := hb_new
  have hAb1 := B1.at
  clear hb_new
  have hlz : ((kLev k).set k (1)).length = (kLev k).length := List.length_set
  refine r_nil ?_
  refine r_blk ?_
  refine r_region ?_
  refine Zo mvI ?_
  refine Zo (run_add rfl η η ω ω) ?_
  refine Zn asI ?_
  refine r_again (k + 1) ?_ ?_ ?_
  ·first | omega | (dsimp only; omega)
  ·refine ⟨(congrArg (Value.int _) ω), (by have h9 := B1; rw [kLev_set hk.1 ω] at h9; exact h9), (by have h9 := B1.at; rw [kLev_set hk.1 ω] at h9; exact h9), δ, δ, hV⟩
  exact ψ
 refine r_exit rfl ?_
 refine r_seq ?_
 obtain rfl : k = 13 := by omega
 replace B1 : Blk _ _ _ [.int .i64 0, .int .i64 1, .int .i64 1, .int .i64 1, .int .i64 1, .int .i64 1, .int .i64 1, .int .i64 1, .int .i64 1, .int .i64 1, .int .i64 1, .int .i64 1, .int .i64 1, .int .i64 0, .int .i64 0, .slice none 0 0, .slice none 0 0] := B1; have hAb1 := B1.at
 refine r_region ?_
 refine Zo (run_fa rfl η fo_28_0) ?_
 refine Zo (run_ixP (6) rfl Tryz.underlying24 ty_3 η η η ω) ?_
 refine r_store (v := .int _ _) (vs := [_]) (cs' := [_, _, _, _, _, _, _, _, _, _, _, _, _, _, _, _, _]) η η B1 ty_3 η rfl η rfl η ?_
 intro w9 E9 V9 hb_new
 have Q9 := E9.size
 replace hV := Z1 hV E9 ε
 replace B1 := hb_new
 have hAb1 := B1.at
 clear hb_new
 refine r_nil ?_
 refine Zs ?_
 refine Zn (run_asg (v := .func _ _ _) rfl η) ?_
 refine r_seq ?_
 have hbb1_q := B1
 have hAb1_q := hAb1
 have hV_q := hV
 refine h_region ([]) ζ ?_
 intro w10 hE11 hCst8
 have Q10 := hE11.size
 replace hV := Z0 hV hE11
 replace B1 := B1.evo0 hE11
 replace hAb1 := hAb1.evo0 hE11
 refine Zt (i := 0) η (fun w' hC => run_ldN rfl ag_28 ty_28 η rfl (hAb1_q.evo0 hC)) hCst8 ?_
 refine Zt (i := 1) η (fun w' hC => run_mv (v := .func _ _ _) rfl η) hCst8 ?_
 refine Zt (i := 3) η (fun w' hC => run_mv (v := .func _ _ _) rfl η) hCst8 ?_
 refine Zh (i := 2) ?_
 refine r_opcall rfl rfl rfl (run_callfn (vs := [S _]) (cs := []) rfl η η Tryz.func37 rfl ζ) known1_calls ?_
 rintro e w12 ⟨aoK12, bK12, ofK12, cpK12, rfl, hE12, hrK12⟩
 refine ⟨_, rfl, ?_⟩
 have Q12 := hE12.size
 replace hV := Z0 hV hE12
 replace hCst8 := Z0 hCst8 hE12
 replace B1 := B1.evo0 hE12
 replace hAb1 := hAb1.evo0 hE12
 refine h_next hCst8 ?_
 refine Zh (i := 4) ?_
 refine r_opcall rfl rfl rfl (run_callfn (vs := [S _]) (cs := []) rfl η η Tryz.func37 rfl ζ) known1_calls ?_
 rintro e w13 ⟨aoK13, bK13, ofK13, cpK13, rfl, hE13, hrK13⟩
 refine ⟨_, rfl, ?_⟩
 have Q13 := hE13.size
 replace hV := Z0 hV hE13
 replace hCst8 := Z0 hCst8 hE13
 replace B1 := B1.evo0 hE13
 replace hAb1 := hAb1.evo0 hE13
 replace hrK12 := hrK12.evo0 hE13
 refine h_next hCst8 ?_
 refine Zh (i := 5) ?_
 refine Zr [.agg _, .slice _ _ _, .slice _ _ _] rfl η Tryz.func14 (run_calls (RowR.nil _ _ 0 0 _) (RowR.nil _ _ 0 0 _) hrK12 hrK13 k_tiny.1 k_tiny.2.1 k_notag.1 k_notag.2.1 (Nat.zero_le _) (fun x hx => absurd hx List.not_mem_nil) (htab.evo0 hV)) ?_
 rintro e w14 ⟨vo14, rfl, hE14, hoo14⟩
 refine ⟨_, rfl, ?_⟩
 have Q14 := hE14.size
 replace hV := Z0 hV hE14
 replace hCst8 := Z0 hCst8 hE14
 replace B1 := B1.evo0 hE14
 replace hAb1 := hAb1.evo0 hE14
 replace hoo14 := own_cast hoo14 k_run
 refine h_next hCst8 ?_
 refine Zt (i := 6) η (fun w' hC => run_asg (v := vo14) rfl η) hCst8 ?_
 refine h_done ζ ?_
 refine r_seq ?_
 have hbb1_q := B1
 have hAb1_q := hAb1
 have hV_q := hV
 refine h_region ([]) ζ ?_
 intro w15 hE16 hCst9
 have Q15 := hE16.size
 replace hV := Z0 hV hE16
 replace hoo14 := hoo14.evo0 hE16
 refine Zt (i := 0) η (fun w' hC => run_mv (v := vo14) rfl η) hCst9 ?_
 refine Zt (i := 1) η (fun w' hC => run_bld (pv := [(0, .int _ _), (1, S _), (2, .int _ _)]) (zs := [_, _, _]) (cells := [_, _, _]) rfl ty_39 η pl_39 η η) hCst9 ?_
 refine Zt (i := 2) η (fun w' hC => run_bld (pv := [(0, .int _ _), (1, S _), (2, .int _ _)]) (zs := [_, _, _]) (cells := [_, _, _]) rfl ty_39 η pl_39 η η) hCst9 ?_
 refine Zh (i := 3) ?_
 refine r_bslice (pv := [(0, .agg _), (1, .agg _)]) (zs := [_, _, _]) (cs := [_, _, _, _, _, _]) Tryz.underlying34 ty_39 η rfl η rfl η ?_
 intro b17 w18 J17 E18 B17 Y17
 have Q18 := E18.size
 replace hV := Z0 hV E18
 replace hCst9 := Z0 hCst9 E18
 replace hoo14 := hoo14.evo0 E18
 have hrb17 : RowE w18 (some ⟨b17, 0, none⟩) b17 0 2 kO := rowLit kO B17 rfl rfl
 refine h_next hCst9 ?_
 refine Zh (i := 4) ?_
 obtain ⟨ao19, g19, cp19, hv19, hr19, hg19⟩ := hoo14.rowOf
 subst hv19
 refine Zr [.slice _ _ _, .slice (some ⟨b17, 0, none⟩) _ _] rfl η Tryz.func16 (ksame_calls hr19 hrb17) ?_
 rintro e w20 ⟨rfl, hE20⟩
 refine ⟨_, rfl, ?_⟩
 have Q20 := hE20.size
 replace hV := Z0 hV hE20
 replace hCst9 := Z0 hCst9 hE20
 replace hr19 := hr19.evo0 hE20
 refine h_next hCst9 ?_
 refine Zt (i := 5) η (fun w' hC => run_mvb rfl η) hCst9 ?_
 refine h_takeY (i := 6) η η rfl (wantT η) η rfl rfl ζ (fun w' hC => run_ldN rfl ag_28 ty_28 η rfl (hAb1_q.evo0 hC)) hCst9 ?_
 refine h_takeY (i := 7) η η rfl (wantT η) η rfl rfl ζ (fun w' hC => mvS) hCst9 ?_
 refine Zh (i := 8) ?_
 refine r_gyes rfl (wantT η) η ?_
 refine Zr [.agg _, .slice _ _ _] rfl η Tryz.func25 (refused_calls hr19 (RowR.nil _ _ 0 0 _) (RowR.nil _ _ 0 0 _)) ?_
 rintro e w21 ⟨rfl, hE21⟩
 refine ⟨_, rfl, ?_⟩
 have Q21 := hE21.size
 replace hV := Z0 hV hE21
 replace hCst9 := Z0 hCst9 hE21
 refine h_next hCst9 ?_
 refine Zt (i := 9) η (fun w' hC => run_pick_andB rfl η (fun _ => η) rfl) hCst9 ?_
 refine Zt (i := 10) η (fun w' hC => mvB) hCst9 ?_
 refine h_takeY (i := 11) η η rfl (wantT η) (by exact ⟨rfl, k_ref⟩) rfl rfl ζ (fun w' hC => run_ldN rfl ag_28 ty_28 η rfl (hAb1_q.evo0 hC)) hCst9 ?_
 refine h_takeY (i := 12) η η rfl (wantT η) (by exact ⟨rfl, k_ref⟩) rfl rfl ζ (fun w' hC => run_mv (v := .func _ _ _) rfl η) hCst9 ?_
 refine h_takeY (i := 15) η η rfl (wantT η) (by exact ⟨rfl, k_ref⟩) rfl rfl ζ (fun w' hC => run_bld (pv := [(0, .int _ _)]) (zs := [_, _, _]) (cells := [_, _, _]) rfl ty_39 η pl_39 η η) hCst9 ?_
 refine h_two (i := 13) (j := 16) ζ ?_ ?_
 ·skip
  refine h_do η ?_
  refine r_gyes rfl (wantT η) (by exact ⟨rfl, k_ref⟩) ?_
  refine r_opcall rfl rfl rfl (run_callfn (vs := [S _]) (cs := []) rfl η η Tryz.func37 rfl ζ) known1_calls ?_
  rintro e w22 ⟨aoK22, bK22, ofK22, cpK22, rfl, hE22, hrK22⟩
  refine ⟨_, rfl, ?_⟩
  have Q22 := hE22.size
  replace hV := Z0 hV hE22
  replace hCst9 := Z0 hCst9 hE22
  refine h_next hCst9 ?_
  refine h_two (i := 14) (j := 16) ζ ?_ ?_
  ·skip
   refine h_do η ?_
   refine r_gyes rfl (wantT η) (by exact ⟨rfl, k_ref⟩) ?_
   refine Zr [.agg _, .slice _ _ _, .slice _ _ _] rfl η Tryz.func14 (run_calls (RowR.nil _ _ 0 0 _) (RowR.nil _ _ 0 0 _) hrK22 (RowE.nil _ none 0 0 0) k_tiny.2.2.1 k_tiny.2.2.2 k_notag.2.2 (fun x hx => absurd hx List.not_mem_nil) (Nat.zero_le _) (fun x hx => absurd hx List.not_mem_nil) (htab.evo0 hV)) ?_
   rintro e w23 ⟨vo23, rfl, hE23, hoo23⟩
   refine ⟨_, rfl, ?_⟩
   have Q23 := hE23.size
   replace hV := Z0 hV hE23
   replace hCst9 := Z0 hCst9 hE23
   replace hoo23 := own_cast hoo23 k_emp
   refine h_next hCst9 ?_
   refine Zh (i := 16) ?_
   refine r_gyes rfl (wantT η) (by exact ⟨rfl, k_ref⟩) ?_
   refine r_bslice (pv := [(0, .agg _)]) (zs := [_, _, _]) (cs := [_, _, _]) Tryz.underlying34 ty_39 η rfl η rfl η ?_
   intro b24 w25 J24 E25 B24 Y24
   have Q25 := E25.size
   replace hV := Z0 hV E25
   replace hCst9 := Z0 hCst9 E25
   replace hoo23 := hoo23.evo0 E25
   have hrb24 : RowE w25 (some ⟨b24, 0, none⟩) b24 0 1 ([⟨1, [], 0⟩] : List Vc.Item) := rowLit ([⟨1, [], 0⟩] : List Vc.Item) B24 rfl rfl
   refine h_next hCst9 ?_
   refine Zh (i := 17) ?_
   refine r_gyes rfl (wantT η) (by exact ⟨rfl, k_ref⟩) ?_
   obtain ⟨ao26, g26, cp26, hv26, hr26, hg26⟩ := hoo23.rowOf
   subst hv26
   refine Zr [.slice _ _ _, .slice (some ⟨b24, 0, none⟩) _ _] rfl η Tryz.func16 (ksame_calls hr26 hrb24) ?_
   rintro e w27 ⟨rfl, hE27⟩
   refine ⟨_, rfl, ?_⟩
   have Q27 := hE27.size
   replace hV := Z0 hV hE27
   replace hCst9 := Z0 hCst9 hE27
   refine h_next hCst9 ?_
   refine Zt (i := 18) η (fun w' hC => run_pick_andB rfl η (fun _ => η) rfl) hCst9 ?_
   refine Zt (i := 19) η (fun w' hC => asB) hCst9 ?_
   refine h_done ζ ?_
   refine r_ret (res1 (v := .bool _) rfl η) ?_
   exact ⟨ret_bool (decide_eq_true ⟨⟨rfl, k_ref⟩, rfl⟩), hV⟩
  refine h_do η ?_
  refine r_gyes rfl (wantT η) (by exact ⟨rfl, k_ref⟩) ?_
  refine r_bslice (pv := [(0, .agg _)]) (zs := [_, _, _]) (cs := [_, _, _]) Tryz.underlying34 ty_39 η rfl η rfl η ?_
  intro b28 w29 J28 E29 B28 Y28
  have Q29 := E29.size
  replace hV := Z0 hV E29
  replace hCst9 := Z0 hCst9 E29
  replace hrK22 := hrK22.evo0 E29
  have hrb28 : RowE w29 (some ⟨b28, 0, none⟩) b28 0 1 ([⟨1, [], 0⟩] : List Vc.Item) := rowLit ([⟨1, [], 0⟩] : List Vc.Item) B28 rfl rfl
  refine h_next hCst9 ?_
  refine Zh (i := 14) ?_
  refine r_gyes rfl (wantT η) (by exact ⟨rfl, k_ref⟩) ?_
  refine Zr [.agg _, .slice _ _ _, .slice _ _ _] rfl η Tryz.func14 (run_calls (RowR.nil _ _ 0 0 _) (RowR.nil _ _ 0 0 _) hrK22 (RowE.nil _ none 0 0 0) k_tiny.2.2.1 k_tiny.2.2.2 k_notag.2.2 (fun x hx => absurd hx List.not_mem_nil) (Nat.zero_le _) (fun x hx => absurd hx List.not_mem_nil) (htab.evo0 hV)) ?_
  rintro e w30 ⟨vo30, rfl, hE30, hoo30⟩
  refine ⟨_, rfl, ?_⟩
  have Q30 := hE30.size
  replace hV := Z0 hV hE30
  replace hCst9 := Z0 hCst9 hE30
  replace hrb28 := hrb28.evo0 hE30
  replace hoo30 := own_cast hoo30 k_emp
  refine h_next hCst9 ?_
  refine Zh (i := 17) ?_
  refine r_gyes rfl (wantT η) (by exact ⟨rfl, k_ref⟩) ?_
  obtain ⟨ao31, g31, cp31, hv31, hr31, hg31⟩ := hoo30.rowOf
  subst hv31
  refine Zr [.slice _ _ _, .slice (some ⟨b28, 0, none⟩) _ _] rfl η Tryz.func16 (ksame_calls hr31 hrb28) ?_
  rintro e w32 ⟨rfl, hE32⟩
  refine ⟨_, rfl, ?_⟩
  have Q32 := hE32.size
  replace hV := Z0 hV hE32
  replace hCst9 := Z0 hCst9 hE32
  refine h_next hCst9 ?_
  refine Zt (i := 18) η (fun w' hC => run_pick_andB rfl η (fun _ => η) rfl) hCst9 ?_
  refine Zt (i := 19) η (fun w' hC => asB) hCst9 ?_
  refine h_done ζ ?_
  refine r_ret (res1 (v := .bool _) rfl η) ?_
  exact ⟨ret_bool (decide_eq_true ⟨⟨rfl, k_ref⟩, rfl⟩), hV⟩
 refine h_do η ?_
 refine r_gyes rfl (wantT η) (by exact ⟨rfl, k_ref⟩) ?_
 refine r_bslice (pv := [(0, .agg _)]) (zs := [_, _, _]) (cs := [_, _, _]) Tryz.underlying34 ty_39 η rfl η rfl η ?_
 intro b33 w34 J33 E34 B33 Y33
 have Q34 := E34.size
 replace hV := Z0 hV E34
 replace hCst9 := Z0 hCst9 E34
 have hrb33 : RowE w34 (some ⟨b33, 0, none⟩) b33 0 1 ([⟨1, [], 0⟩] : List Vc.Item) := rowLit ([⟨1, [], 0⟩] : List Vc.Item) B33 rfl rfl
 refine h_next hCst9 ?_
 refine Zh (i := 13) ?_
 refine r_gyes rfl (wantT η) (by exact ⟨rfl, k_ref⟩) ?_
 refine r_opcall rfl rfl rfl (run_callfn (vs := [S _]) (cs := []) rfl η η Tryz.func37 rfl ζ) known1_calls ?_
 rintro e w35 ⟨aoK35, bK35, ofK35, cpK35, rfl, hE35, hrK35⟩
 refine ⟨_, rfl, ?_⟩
 have Q35 := hE35.size
 replace hV := Z0 hV hE35
 replace hCst9 := Z0 hCst9 hE35
 replace hrb33 := hrb33.evo0 hE35
 refine h_next hCst9 ?_
 refine Zh (i := 14) ?_
 refine r_gyes rfl (wantT η) (by exact ⟨rfl, k_ref⟩) ?_
 refine Zr [.agg _, .slice _ _ _, .slice _ _ _] rfl η Tryz.func14 (run_calls (RowR.nil _ _ 0 0 _) (RowR.nil _ _ 0 0 _) hrK35 (RowE.nil _ none 0 0 0) k_tiny.2.2.1 k_tiny.2.2.2 k_notag.2.2 (fun x hx => absurd hx List.not_mem_nil) (Nat.zero_le _) (fun x hx => absurd hx List.not_mem_nil) (htab.evo0 hV)) ?_
 rintro e w36 ⟨vo36, rfl, hE36, hoo36⟩
 refine ⟨_, rfl, ?_⟩
 have Q36 := hE36.size
 replace hV := Z0 hV hE36
 replace hCst9 := Z0 hCst9 hE36
 replace hrb33 := hrb33.evo0 hE36
 replace hoo36 := own_cast hoo36 k_emp
 refine h_next hCst9 ?_
 refine Zh (i := 17) ?_
 refine r_gyes rfl (wantT η) (by exact ⟨rfl, k_ref⟩) ?_
 obtain ⟨ao37, g37, cp37, hv37, hr37, hg37⟩ := hoo36.rowOf
 subst hv37
 refine Zr [.slice _ _ _, .slice (some ⟨b33, 0, none⟩) _ _] rfl η Tryz.func16 (ksame_calls hr37 hrb33) ?_
 rintro e w38 ⟨rfl, hE38⟩
 refine ⟨_, rfl, ?_⟩
 have Q38 := hE38.size
 replace hV := Z0 hV hE38
 replace hCst9 := Z0 hCst9 hE38
 refine h_next hCst9 ?_
 refine Zt (i := 18) η (fun w' hC => run_pick_andB rfl η (fun _ => η) rfl) hCst9 ?_
 refine Zt (i := 19) η (fun w' hC => asB) hCst9 ?_
 refine h_done ζ ?_
 refine r_ret (res1 (v := .bool _) rfl η) ?_
 exact ⟨ret_bool (decide_eq_true ⟨⟨rfl, k_ref⟩, rfl⟩), hV⟩
set_option maxHeartbeats 2000000 in
theorem kcompatible_law {aoa : Option Addr} {ba offa capa : Nat} {a : List Int} {w0 : World} (ha : RowE w0 aoa ba offa capa a) (htab : Tab w0) :
    Calls Tryz.prog 9 #[.slice aoa a.length capa] w0 fun e w' => e = .returned (.bool true) ∧ Evo w0 w' [] := by
 refine calls_enter (n := 56) Tryz.func9 rfl Tryz.ntmps9 rfl ?_
 have hV : Evo w0 w0 [] := Evo.refl _ _
 have ha0 := keepE ha
 have hbd_ha := ha.bd
 refine Zs ?_
 refine Zn asB ?_
 refine r_seq ?_
 refine Zs ?_
 refine Zo mvS ?_
 refine r_bslice (pv := [(0, .slice _ _ _)]) (zs := [_]) (cs := [_]) Tryz.underlying65 ty_22 η rfl η rfl η ?_
 intro b1 w2 J1 E2 B1 Y1
 have Q2 := E2.size
 replace hV := Z0 hV E2
 replace ha := ha0 _ hV
 have hrb1 : RowR w2 (some ⟨b1, 0, none⟩) b1 0 1 ([a] : List (List Int)) := rowLitR [[_]] ([a] : List (List Int)) B1 rfl (RepL.one (sl_rep ha)) rfl
 refine Zr [.slice (some ⟨b1, 0, none⟩) _ _] rfl η Tryz.func17 (klong_calls hrb1 (by have h1 := hbd_ha; simp; omega)) ?_
 rintro e w3 ⟨rfl, hE3⟩
 refine ⟨_, rfl, ?_⟩
 have Q3 := hE3.size
 replace hV := Z0 hV hE3
 replace ha := ha0 _ hV
 replace hrb1 := hrb1.evo0 hE3
 refine r_nil ?_
 refine r_condb η (fun hc4 => ?_) (fun hc4 => ?_)
 ·skip
  refine Zs ?_
  refine Zr [] rfl η Tryz.func15 (kknown_calls (htab.evo0 hV)) ?_
  rintro e w5 ⟨rfl, hE5⟩
  refine ⟨_, rfl, ?_⟩
  have Q5 := hE5.size
  replace hV := Z0 hV hE5
  refine Zn asB ?_
  refine r_ret (res1 (v := .bool _) rfl η) ?_
  exact ⟨rfl, hV⟩
 refine r_skip ?_
 refine Zs ?_
 refine Zo mvS ?_
 refine Zr [.slice _ _ _] rfl η Tryz.func21 (pairof_calls ha) ?_
 rintro e w6 ⟨aoA6, bA6, ofA6, cpA6, aoB6, bB6, ofB6, cpB6, pf6, pg6, rfl, hE6, hrA6, hrB6, hgP6, hPR6⟩
 refine ⟨_, rfl, ?_⟩
 have Q6 := hE6.size
 replace hV := Z0 hV hE6
 replace hrb1 := hrb1.evo0 hE6
 have hJ6 : Evo w6 w6 [] := Evo.refl _ _
 have hrA60 := fun w9 (h9 : Evo w6 w9 []) => row_keep hrA6 h9 (fun hne hm => by have h2 := hgP6.1 hne; simp at hm <;> omega)
 have hbd_hrA6 := hrA6.bd
 have hrB60 := fun w9 (h9 : Evo w6 w9 []) => row_keep hrB6 h9 (fun hne hm => by have h2 := hgP6.2 hne; simp at hm <;> omega)
 have hbd_hrB6 := hrB6.bd
 refine Zo mvU ?_
 refine Zo (run_extract (v := .slice _ _ _) rfl η η) ?_
 refine Zo (run_extract (v := .slice _ _ _) rfl η η) ?_
 refine Zo asS ?_
 refine Zn asS ?_
 refine r_seq ?_
 refine Zs ?_
 refine Zo mvS ?_
 refine Zr [.slice _ _ _] rfl η Tryz.func23 (shape_calls hrA6 hPR6.tf.small) ?_
 rintro e w7 ⟨vp7, vq7, rfl, hE7, hop7, hoq7⟩
 refine ⟨_, rfl, ?_⟩
 have Q7 := hE7.size
 replace hV := Z0 hV hE7
 replace hJ6 := Z0 hJ6 hE7
 replace hrb1 := hrb1.evo0 hE7
 refine Zo mvU ?_
 refine Zo (run_extract (v := vp7) rfl η η) ?_
 refine Zo (run_extract (v := vq7) rfl η η) ?_
 refine Zo (run_extract (v := .bool _) rfl η η) ?_
 refine Zo (run_asg (v := vp7) rfl η) ?_
 refine Zo (run_asg (v := vq7) rfl η) ?_
 refine Zn asB ?_
 refine Zs ?_
 refine Zo (run_mvb rfl η) ?_
 refine Zo (run_not rfl η) ?_
 refine Zo mvB ?_
 refine r_g rfl (wantF η) rfl (fun hg => mvS) ?_
 refine r_g rfl (wantF η) rfl (fun hg => run_lenSl rfl (glv η (fun h => h) hg) Tryz.underlying33) ?_
 refine r_g rfl (wantF η) rfl (fun hg => run_eql rfl (glv η (fun h => h) hg) η) ?_
 refine r_g rfl (wantF η) rfl (fun hg => run_mv (v := .bool _) rfl (glv η (fun h => h) hg)) ?_
 refine r_g rfl (wantTg η) rfl (fun hg => mvS) ?_
 refine r_g rfl (wantTg η) rfl (fun hg => run_lenSl rfl (glv η (fun h => h) hg) Tryz.underlying33) ?_
 refine r_g rfl (wantTg η) rfl (fun hg => run_gtr rfl (glv η (fun h => h) hg) η) ?_
 refine r_g rfl (wantF η) rfl (fun hg => run_pick_and rfl (glv η (fun h => h) hg) (fun hq => glv η (fun h => h) (And.intro hg hq)) rfl) ?_
 refine Zn (run_pick_or rfl η rfl (fun hq => glv η (fun h => h) hq)) ?_
 refine r_cond η (fun hc8 => ?_) (fun hc8 => ?_)
 ·skip
  refine Zs ?_
  refine Zr [] rfl η Tryz.func15 (kknown_calls (htab.evo0 hV)) ?_
  rintro e w9 ⟨rfl, hE9⟩
  refine ⟨_, rfl, ?_⟩
  have Q9 := hE9.size
  replace hV := Z0 hV hE9
  refine Zn asB ?_
  refine r_ret (res1 (v := .bool _) rfl η) ?_
  exact ⟨rfl, hV⟩
 refine r_skip ?_
 refine Zs ?_
 have hob10 := fun g hg => (hop7.block (g := g) hg).2
 have hob11 := fun g hg => (hoq7.block (g := g) hg).2
 refine r_alloc (zs := [_, _, _, _, _, _, _, _, _, _, _, _, _, _, _, _, _]) ty_28 η rfl ?_
 intro b12 w13 J12 E13 B12 Y12
 have Q13 := E13.size
 replace hV := Z0 hV E13
 replace hJ6 := Z0 hJ6 E13
 replace hrb1 := hrb1.evo0 E13
 replace hop7 := hop7.evo0 E13
 replace hoq7 := hoq7.evo0 E13
 have hAb12 := B12.at
 refine r_nil ?_
 refine Zs ?_
 refine Zo (run_fa rfl η fo_28_0) ?_
 refine Zo (run_ixP (3) rfl Tryz.underlying24 ty_3 η η η ω) ?_
 refine r_store (v := .int _ _) (vs := [_]) (cs' := [_, _, _, _, _, _, _, _, _, _, _, _, _, _, _, _, _]) η η B12 ty_3 η rfl η rfl η ?_
 intro w14 E14 V14 hb_new
 have Q14 := E14.size
 replace hV := Z1 hV E14 ε
 replace hJ6 := Z1 hJ6 E14 ε
 replace B12 := hb_new
 have hAb12 := B12.at
 clear hb_new
 refine Zo (run_fa rfl η fo_28_0) ?_
 refine Zo (run_ixP (4) rfl Tryz.underlying24 ty_3 η η η ω) ?_
 refine r_store (v := .int _ _) (vs := [_]) (cs' := [_, _, _, _, _, _, _, _, _, _, _, _, _, _, _, _, _]) η η B12 ty_3 η rfl η rfl η ?_
 intro w15 E15 V15 hb_new
 have Q15 := E15.size
 replace hV := Z1 hV E15 ε
 replace hJ6 := Z1 hJ6 E15 ε
 replace B12 := hb_new
 have hAb12 := B12.at
 clear hb_new
 refine Zo (run_fa rfl η fo_28_0) ?_
 refine Zo (run_ixP (5) rfl Tryz.underlying24 ty_3 η η η ω) ?_
 refine r_store (v := .int _ _) (vs := [_]) (cs' := [_, _, _, _, _, _, _, _, _, _, _, _, _, _, _, _, _]) η η B12 ty_3 η rfl η rfl η ?_
 intro w16 E16 V16 hb_new
 have Q16 := E16.size
 replace hV := Z1 hV E16 ε
 replace hJ6 := Z1 hJ6 E16 ε
 replace ha := ha0 _ hV
 replace hrA6 := hrA60 _ hJ6
 replace hrB6 := hrB60 _ hJ6
 replace B12 := hb_new
 have hAb12 := B12.at
 clear hb_new
 refine r_nil ?_
 refine r_seq ?_
 replace B12 : Blk _ _ _ [.int .i64 0, .int .i64 0, .int .i64 0, .int .i64 1, .int .i64 1, .int .i64 1, .int .i64 0, .int .i64 0, .int .i64 0, .int .i64 0, .int .i64 0, .int .i64 0, .int .i64 0, .int .i64 0, .int .i64 0, .slice none 0 0, .slice none 0 0] := B12; have hAb12 := B12.at
 have hnh := not_or.1 hc8; have hcl9 := compat_law' (f := pf6) (g := pg6) (by have h9 := hnh.1; cases hq : shapeL pf6 <;> simp_all) (fun q => hnh.2 ⟨by have := q.1; omega, by have := q.2; omega⟩)
 have hbb12_q := B12
 have hAb12_q := hAb12
 have hV_q := hV
 have hJ6_q := hJ6
 refine h_region ([]) ζ ?_
 intro w17 hE18 hCst9
 have Q17 := hE18.size
 replace hV := Z0 hV hE18
 replace hJ6 := Z0 hJ6 hE18
 replace hrA6 := hrA60 _ hJ6
 replace hrB6 := hrB60 _ hJ6
 refine Zt (i := 0) η (fun w' hC => mvS) hCst9 ?_
 refine Zt (i := 1) η (fun w' hC => mvS) hCst9 ?_
 refine Zt (i := 3) η (fun w' hC => run_ldN rfl ag_28 ty_28 η rfl (hAb12_q.evo0 hC)) hCst9 ?_
 refine Zt (i := 4) η (fun w' hC => mvS) hCst9 ?_
 refine Zt (i := 5) η (fun w' hC => mvS) hCst9 ?_
 refine Zh (i := 2) ?_
 refine Zr [.slice _ _ _, .slice _ _ _] rfl η Tryz.func24 (compatible_calls hrA6 hrB6 hPR6.tf.small hPR6.tg.small) ?_
 rintro e w19 ⟨rfl, hE19⟩
 refine ⟨_, rfl, ?_⟩
 have Q19 := hE19.size
 replace hV := Z0 hV hE19
 replace hJ6 := Z0 hJ6 hE19
 replace hCst9 := Z0 hCst9 hE19
 replace hrA6 := hrA60 _ hJ6
 replace hrB6 := hrB60 _ hJ6
 refine h_next hCst9 ?_
 refine Zh (i := 6) ?_
 refine Zr [.agg _, .slice _ _ _, .slice _ _ _] rfl η Tryz.func14 (run_calls (RowR.nil _ _ 0 0 _) (RowR.nil _ _ 0 0 _) hrA6 hrB6 hPR6.tf hPR6.tg hPR6.nf hPR6.ng (Nat.zero_le _) (fun x hx => absurd hx List.not_mem_nil) (htab.evo0 hV)) ?_
 rintro e w20 ⟨vo20, rfl, hE20, hoo20⟩
 refine ⟨_, rfl, ?_⟩
 have Q20 := hE20.size
 replace hV := Z0 hV hE20
 replace hCst9 := Z0 hCst9 hE20
 obtain ⟨ao21, cp21, hv21⟩ := hoo20.shape
 subst hv21
 refine h_next hCst9 ?_
 refine Zt (i := 7) η (fun w' hC => run_lenSl rfl η Tryz.underlying34) hCst9 ?_
 refine Zt (i := 8) η (fun w' hC => run_eql rfl η η) hCst9 ?_
 refine Zt (i := 9) η (fun w' hC => run_beqlB rfl Tryz.underlying4 η η) hCst9 ?_
 refine Zt (i := 10) η (fun w' hC => mvB) hCst9 ?_
 refine Zh (i := 11) ?_
 refine r_gyes rfl (wantT η) (by exact hcl9.symm) ?_
 refine Zr [] rfl η Tryz.func15 (kknown_calls (htab.evo0 hV)) ?_
 rintro e w22 ⟨rfl, hE22⟩
 refine ⟨_, rfl, ?_⟩
 have Q22 := hE22.size
 replace hV := Z0 hV hE22
 replace hCst9 := Z0 hCst9 hE22
 refine h_next hCst9 ?_
 refine Zt (i := 12) η (fun w' hC => run_pick_andB rfl η (fun _ => η) rfl) hCst9 ?_
 refine Zt (i := 13) η (fun w' hC => asB) hCst9 ?_
 refine h_done ζ ?_
 refine r_ret (res1 (v := .bool _) rfl η) ?_
 exact ⟨ret_bool (decide_eq_true ⟨hcl9.symm, rfl⟩), hV⟩
end Go.Proofs.YtlfjocbnbceceaaGreatDoor
